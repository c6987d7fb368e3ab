/- What the rules ask of the types and functions: printed by a program of this work, each by the loaded facts. -/
import Derived.Test.YtebdfelodihdhaaDoorProg
import Derived.Test.YtebdfelodihdhaaDoorHx
namespace Go.Rost
open Go Go.Proofs

instance : TPlain Tryd.prog 1 := ⟨Tryd.isAgg1, Tryd.sizeOf1⟩
instance : TSize Tryd.prog 1 1 := ⟨Tryd.sizeOf1⟩
instance : TBytes Tryd.prog 1 8 := ⟨fun w => ⟨_, Tryd.typeInfo1 w, by rfl⟩⟩
instance : TZero Tryd.prog 1 Go.Value.nilFunc := ⟨Tryd.zeroValue1⟩
instance : TUnder Tryd.prog 2 (Go.TypeDesc.int Go.IntKind.i64) := ⟨Tryd.runUnderlying2⟩
instance : TPlain Tryd.prog 2 := ⟨Tryd.isAgg2, Tryd.sizeOf2⟩
instance : TSize Tryd.prog 2 1 := ⟨Tryd.sizeOf2⟩
instance : TBytes Tryd.prog 2 8 := ⟨fun w => ⟨_, Tryd.typeInfo2 w, by rfl⟩⟩
instance : TZero Tryd.prog 2 (Go.Value.int Go.IntKind.i64 0) := ⟨Tryd.zeroValue2⟩
instance : TUnder Tryd.prog 3 (Go.TypeDesc.int Go.IntKind.i64) := ⟨Tryd.runUnderlying3⟩
instance : TPlain Tryd.prog 3 := ⟨Tryd.isAgg3, Tryd.sizeOf3⟩
instance : TSize Tryd.prog 3 1 := ⟨Tryd.sizeOf3⟩
instance : TBytes Tryd.prog 3 8 := ⟨fun w => ⟨_, Tryd.typeInfo3 w, by rfl⟩⟩
instance : TZero Tryd.prog 3 (Go.Value.int Go.IntKind.i64 0) := ⟨Tryd.zeroValue3⟩
instance : TUnder Tryd.prog 4 Go.TypeDesc.bool := ⟨Tryd.runUnderlying4⟩
instance : TPlain Tryd.prog 4 := ⟨Tryd.isAgg4, Tryd.sizeOf4⟩
instance : TSize Tryd.prog 4 1 := ⟨Tryd.sizeOf4⟩
instance : TBytes Tryd.prog 4 1 := ⟨fun w => ⟨_, Tryd.typeInfo4 w, by rfl⟩⟩
instance : TZero Tryd.prog 4 (Go.Value.bool false) := ⟨Tryd.zeroValue4⟩
instance : TUnder Tryd.prog 5 (Go.TypeDesc.int Go.IntKind.u8) := ⟨Tryd.runUnderlying5⟩
instance : TPlain Tryd.prog 5 := ⟨Tryd.isAgg5, Tryd.sizeOf5⟩
instance : TSize Tryd.prog 5 1 := ⟨Tryd.sizeOf5⟩
instance : TBytes Tryd.prog 5 1 := ⟨fun w => ⟨_, Tryd.typeInfo5 w, by rfl⟩⟩
instance : TZero Tryd.prog 5 (Go.Value.int Go.IntKind.u8 0) := ⟨Tryd.zeroValue5⟩
instance : TUnder Tryd.prog 6 (Go.TypeDesc.int Go.IntKind.u8) := ⟨Tryd.runUnderlying6⟩
instance : TPlain Tryd.prog 6 := ⟨Tryd.isAgg6, Tryd.sizeOf6⟩
instance : TSize Tryd.prog 6 1 := ⟨Tryd.sizeOf6⟩
instance : TBytes Tryd.prog 6 1 := ⟨fun w => ⟨_, Tryd.typeInfo6 w, by rfl⟩⟩
instance : TZero Tryd.prog 6 (Go.Value.int Go.IntKind.u8 0) := ⟨Tryd.zeroValue6⟩
instance : TUnder Tryd.prog 7 (Go.TypeDesc.struct #[{ name := "x", type := 2, offset := 0, embedded := false, tag := "", pkgPath := "runtime", byteOffset := 0 }, { name := "y", type := 3, offset := 1, embedded := false, tag := "", pkgPath := "runtime", byteOffset := 8 }, { name := "signed", type := 4, offset := 2, embedded := false, tag := "", pkgPath := "runtime", byteOffset := 16 }, { name := "code", type := 6, offset := 3, embedded := false, tag := "", pkgPath := "runtime", byteOffset := 17 }]) := ⟨Tryd.runUnderlying7⟩
instance : TAgg Tryd.prog 7 4 := ⟨Tryd.isAgg7, Tryd.sizeOf7⟩
instance : TSize Tryd.prog 7 4 := ⟨Tryd.sizeOf7⟩
instance : TBytes Tryd.prog 7 24 := ⟨fun w => ⟨_, Tryd.typeInfo7 w, by rfl⟩⟩
instance : TZero Tryd.prog 7 (Go.Value.agg #[(Go.Value.int Go.IntKind.i64 0), (Go.Value.int Go.IntKind.i64 0), (Go.Value.bool false), (Go.Value.int Go.IntKind.u8 0)]) := ⟨Tryd.zeroValue7⟩
instance : TPlaces Tryd.prog 7 [(0, 1), (1, 1), (2, 1), (3, 1)] := ⟨fun w => ⟨_, Tryd.runUnderlying7 w, by simp [Tryd.sizeOf2, Tryd.sizeOf3, Tryd.sizeOf4, Tryd.sizeOf6]⟩⟩
instance : TField Tryd.prog 7 0 0 := ⟨fun b o w => fieldAt_of (f := { name := "x", type := 2, offset := 0, embedded := false, tag := "", pkgPath := "runtime", byteOffset := 0 }) (Tryd.runUnderlying7 w) rfl (Tryd.sizeOf2 w) (by decide) b o⟩
instance : TField Tryd.prog 7 1 1 := ⟨fun b o w => fieldAt_of (f := { name := "y", type := 3, offset := 1, embedded := false, tag := "", pkgPath := "runtime", byteOffset := 8 }) (Tryd.runUnderlying7 w) rfl (Tryd.sizeOf3 w) (by decide) b o⟩
instance : TField Tryd.prog 7 2 2 := ⟨fun b o w => fieldAt_of (f := { name := "signed", type := 4, offset := 2, embedded := false, tag := "", pkgPath := "runtime", byteOffset := 16 }) (Tryd.runUnderlying7 w) rfl (Tryd.sizeOf4 w) (by decide) b o⟩
instance : TField Tryd.prog 7 3 3 := ⟨fun b o w => fieldAt_of (f := { name := "code", type := 6, offset := 3, embedded := false, tag := "", pkgPath := "runtime", byteOffset := 17 }) (Tryd.runUnderlying7 w) rfl (Tryd.sizeOf6 w) (by decide) b o⟩
instance : TUnder Tryd.prog 8 (Go.TypeDesc.struct #[{ name := "x", type := 2, offset := 0, embedded := false, tag := "", pkgPath := "runtime", byteOffset := 0 }, { name := "y", type := 3, offset := 1, embedded := false, tag := "", pkgPath := "runtime", byteOffset := 8 }, { name := "signed", type := 4, offset := 2, embedded := false, tag := "", pkgPath := "runtime", byteOffset := 16 }, { name := "code", type := 6, offset := 3, embedded := false, tag := "", pkgPath := "runtime", byteOffset := 17 }]) := ⟨Tryd.runUnderlying8⟩
instance : TAgg Tryd.prog 8 4 := ⟨Tryd.isAgg8, Tryd.sizeOf8⟩
instance : TSize Tryd.prog 8 4 := ⟨Tryd.sizeOf8⟩
instance : TBytes Tryd.prog 8 24 := ⟨fun w => ⟨_, Tryd.typeInfo8 w, by rfl⟩⟩
instance : TZero Tryd.prog 8 (Go.Value.agg #[(Go.Value.int Go.IntKind.i64 0), (Go.Value.int Go.IntKind.i64 0), (Go.Value.bool false), (Go.Value.int Go.IntKind.u8 0)]) := ⟨Tryd.zeroValue8⟩
instance : TPlaces Tryd.prog 8 [(0, 1), (1, 1), (2, 1), (3, 1)] := ⟨fun w => ⟨_, Tryd.runUnderlying8 w, by simp [Tryd.sizeOf2, Tryd.sizeOf3, Tryd.sizeOf4, Tryd.sizeOf6]⟩⟩
instance : TField Tryd.prog 8 0 0 := ⟨fun b o w => fieldAt_of (f := { name := "x", type := 2, offset := 0, embedded := false, tag := "", pkgPath := "runtime", byteOffset := 0 }) (Tryd.runUnderlying8 w) rfl (Tryd.sizeOf2 w) (by decide) b o⟩
instance : TField Tryd.prog 8 1 1 := ⟨fun b o w => fieldAt_of (f := { name := "y", type := 3, offset := 1, embedded := false, tag := "", pkgPath := "runtime", byteOffset := 8 }) (Tryd.runUnderlying8 w) rfl (Tryd.sizeOf3 w) (by decide) b o⟩
instance : TField Tryd.prog 8 2 2 := ⟨fun b o w => fieldAt_of (f := { name := "signed", type := 4, offset := 2, embedded := false, tag := "", pkgPath := "runtime", byteOffset := 16 }) (Tryd.runUnderlying8 w) rfl (Tryd.sizeOf4 w) (by decide) b o⟩
instance : TField Tryd.prog 8 3 3 := ⟨fun b o w => fieldAt_of (f := { name := "code", type := 6, offset := 3, embedded := false, tag := "", pkgPath := "runtime", byteOffset := 17 }) (Tryd.runUnderlying8 w) rfl (Tryd.sizeOf6 w) (by decide) b o⟩
instance : TUnder Tryd.prog 9 Go.TypeDesc.string := ⟨Tryd.runUnderlying9⟩
instance : TPlain Tryd.prog 9 := ⟨Tryd.isAgg9, Tryd.sizeOf9⟩
instance : TSize Tryd.prog 9 1 := ⟨Tryd.sizeOf9⟩
instance : TBytes Tryd.prog 9 16 := ⟨fun w => ⟨_, Tryd.typeInfo9 w, by rfl⟩⟩
instance : TZero Tryd.prog 9 (Go.Value.string { data := #[] }) := ⟨Tryd.zeroValue9⟩
instance : TUnder Tryd.prog 10 Go.TypeDesc.string := ⟨Tryd.runUnderlying10⟩
instance : TPlain Tryd.prog 10 := ⟨Tryd.isAgg10, Tryd.sizeOf10⟩
instance : TSize Tryd.prog 10 1 := ⟨Tryd.sizeOf10⟩
instance : TBytes Tryd.prog 10 16 := ⟨fun w => ⟨_, Tryd.typeInfo10 w, by rfl⟩⟩
instance : TZero Tryd.prog 10 (Go.Value.string { data := #[] }) := ⟨Tryd.zeroValue10⟩
instance : TUnder Tryd.prog 11 Go.TypeDesc.string := ⟨Tryd.runUnderlying11⟩
instance : TPlain Tryd.prog 11 := ⟨Tryd.isAgg11, Tryd.sizeOf11⟩
instance : TSize Tryd.prog 11 1 := ⟨Tryd.sizeOf11⟩
instance : TBytes Tryd.prog 11 16 := ⟨fun w => ⟨_, Tryd.typeInfo11 w, by rfl⟩⟩
instance : TZero Tryd.prog 11 (Go.Value.string { data := #[] }) := ⟨Tryd.zeroValue11⟩
instance : TUnder Tryd.prog 12 (Go.TypeDesc.int Go.IntKind.u64) := ⟨Tryd.runUnderlying12⟩
instance : TPlain Tryd.prog 12 := ⟨Tryd.isAgg12, Tryd.sizeOf12⟩
instance : TSize Tryd.prog 12 1 := ⟨Tryd.sizeOf12⟩
instance : TBytes Tryd.prog 12 8 := ⟨fun w => ⟨_, Tryd.typeInfo12 w, by rfl⟩⟩
instance : TZero Tryd.prog 12 (Go.Value.int Go.IntKind.u64 0) := ⟨Tryd.zeroValue12⟩
instance : TUnder Tryd.prog 13 (Go.TypeDesc.struct #[{ name := "msg", type := 9, offset := 0, embedded := false, tag := "", pkgPath := "runtime", byteOffset := 0 }, { name := "addr", type := 12, offset := 1, embedded := false, tag := "", pkgPath := "runtime", byteOffset := 16 }]) := ⟨Tryd.runUnderlying13⟩
instance : TAgg Tryd.prog 13 2 := ⟨Tryd.isAgg13, Tryd.sizeOf13⟩
instance : TSize Tryd.prog 13 2 := ⟨Tryd.sizeOf13⟩
instance : TBytes Tryd.prog 13 24 := ⟨fun w => ⟨_, Tryd.typeInfo13 w, by rfl⟩⟩
instance : TZero Tryd.prog 13 (Go.Value.agg #[(Go.Value.string { data := #[] }), (Go.Value.int Go.IntKind.u64 0)]) := ⟨Tryd.zeroValue13⟩
instance : TPlaces Tryd.prog 13 [(0, 1), (1, 1)] := ⟨fun w => ⟨_, Tryd.runUnderlying13 w, by simp [Tryd.sizeOf12, Tryd.sizeOf9]⟩⟩
instance : TField Tryd.prog 13 0 0 := ⟨fun b o w => fieldAt_of (f := { name := "msg", type := 9, offset := 0, embedded := false, tag := "", pkgPath := "runtime", byteOffset := 0 }) (Tryd.runUnderlying13 w) rfl (Tryd.sizeOf9 w) (by decide) b o⟩
instance : TField Tryd.prog 13 1 1 := ⟨fun b o w => fieldAt_of (f := { name := "addr", type := 12, offset := 1, embedded := false, tag := "", pkgPath := "runtime", byteOffset := 16 }) (Tryd.runUnderlying13 w) rfl (Tryd.sizeOf12 w) (by decide) b o⟩
instance : TUnder Tryd.prog 14 (Go.TypeDesc.struct #[{ name := "msg", type := 9, offset := 0, embedded := false, tag := "", pkgPath := "runtime", byteOffset := 0 }, { name := "addr", type := 12, offset := 1, embedded := false, tag := "", pkgPath := "runtime", byteOffset := 16 }]) := ⟨Tryd.runUnderlying14⟩
instance : TAgg Tryd.prog 14 2 := ⟨Tryd.isAgg14, Tryd.sizeOf14⟩
instance : TSize Tryd.prog 14 2 := ⟨Tryd.sizeOf14⟩
instance : TBytes Tryd.prog 14 24 := ⟨fun w => ⟨_, Tryd.typeInfo14 w, by rfl⟩⟩
instance : TZero Tryd.prog 14 (Go.Value.agg #[(Go.Value.string { data := #[] }), (Go.Value.int Go.IntKind.u64 0)]) := ⟨Tryd.zeroValue14⟩
instance : TPlaces Tryd.prog 14 [(0, 1), (1, 1)] := ⟨fun w => ⟨_, Tryd.runUnderlying14 w, by simp [Tryd.sizeOf12, Tryd.sizeOf9]⟩⟩
instance : TField Tryd.prog 14 0 0 := ⟨fun b o w => fieldAt_of (f := { name := "msg", type := 9, offset := 0, embedded := false, tag := "", pkgPath := "runtime", byteOffset := 0 }) (Tryd.runUnderlying14 w) rfl (Tryd.sizeOf9 w) (by decide) b o⟩
instance : TField Tryd.prog 14 1 1 := ⟨fun b o w => fieldAt_of (f := { name := "addr", type := 12, offset := 1, embedded := false, tag := "", pkgPath := "runtime", byteOffset := 16 }) (Tryd.runUnderlying14 w) rfl (Tryd.sizeOf12 w) (by decide) b o⟩
instance : TUnder Tryd.prog 15 (Go.TypeDesc.pointer 162) := ⟨Tryd.runUnderlying15⟩
instance : TPlain Tryd.prog 15 := ⟨Tryd.isAgg15, Tryd.sizeOf15⟩
instance : TSize Tryd.prog 15 1 := ⟨Tryd.sizeOf15⟩
instance : TBytes Tryd.prog 15 8 := ⟨fun w => ⟨_, Tryd.typeInfo15 w, by rfl⟩⟩
instance : TZero Tryd.prog 15 (Go.Value.pointer none) := ⟨Tryd.zeroValue15⟩
instance : TUnder Tryd.prog 16 (Go.TypeDesc.pointer 165) := ⟨Tryd.runUnderlying16⟩
instance : TPlain Tryd.prog 16 := ⟨Tryd.isAgg16, Tryd.sizeOf16⟩
instance : TSize Tryd.prog 16 1 := ⟨Tryd.sizeOf16⟩
instance : TBytes Tryd.prog 16 8 := ⟨fun w => ⟨_, Tryd.typeInfo16 w, by rfl⟩⟩
instance : TZero Tryd.prog 16 (Go.Value.pointer none) := ⟨Tryd.zeroValue16⟩
instance : TUnder Tryd.prog 17 (Go.TypeDesc.pointer 173) := ⟨Tryd.runUnderlying17⟩
instance : TPlain Tryd.prog 17 := ⟨Tryd.isAgg17, Tryd.sizeOf17⟩
instance : TSize Tryd.prog 17 1 := ⟨Tryd.sizeOf17⟩
instance : TBytes Tryd.prog 17 8 := ⟨fun w => ⟨_, Tryd.typeInfo17 w, by rfl⟩⟩
instance : TZero Tryd.prog 17 (Go.Value.pointer none) := ⟨Tryd.zeroValue17⟩
instance : TUnder Tryd.prog 18 (Go.TypeDesc.struct #[{ name := "typ", type := 17, offset := 0, embedded := false, tag := "", pkgPath := "internal/runtime/maps", byteOffset := 0 }]) := ⟨Tryd.runUnderlying18⟩
instance : TAgg Tryd.prog 18 1 := ⟨Tryd.isAgg18, Tryd.sizeOf18⟩
instance : TSize Tryd.prog 18 1 := ⟨Tryd.sizeOf18⟩
instance : TBytes Tryd.prog 18 8 := ⟨fun w => ⟨_, Tryd.typeInfo18 w, by rfl⟩⟩
instance : TZero Tryd.prog 18 (Go.Value.agg #[(Go.Value.pointer none)]) := ⟨Tryd.zeroValue18⟩
instance : TPlaces Tryd.prog 18 [(0, 1)] := ⟨fun w => ⟨_, Tryd.runUnderlying18 w, by simp [Tryd.sizeOf17]⟩⟩
instance : TField Tryd.prog 18 0 0 := ⟨fun b o w => fieldAt_of (f := { name := "typ", type := 17, offset := 0, embedded := false, tag := "", pkgPath := "internal/runtime/maps", byteOffset := 0 }) (Tryd.runUnderlying18 w) rfl (Tryd.sizeOf17 w) (by decide) b o⟩
instance : TUnder Tryd.prog 19 (Go.TypeDesc.struct #[{ name := "typ", type := 17, offset := 0, embedded := false, tag := "", pkgPath := "internal/runtime/maps", byteOffset := 0 }]) := ⟨Tryd.runUnderlying19⟩
instance : TAgg Tryd.prog 19 1 := ⟨Tryd.isAgg19, Tryd.sizeOf19⟩
instance : TSize Tryd.prog 19 1 := ⟨Tryd.sizeOf19⟩
instance : TBytes Tryd.prog 19 8 := ⟨fun w => ⟨_, Tryd.typeInfo19 w, by rfl⟩⟩
instance : TZero Tryd.prog 19 (Go.Value.agg #[(Go.Value.pointer none)]) := ⟨Tryd.zeroValue19⟩
instance : TPlaces Tryd.prog 19 [(0, 1)] := ⟨fun w => ⟨_, Tryd.runUnderlying19 w, by simp [Tryd.sizeOf17]⟩⟩
instance : TField Tryd.prog 19 0 0 := ⟨fun b o w => fieldAt_of (f := { name := "typ", type := 17, offset := 0, embedded := false, tag := "", pkgPath := "internal/runtime/maps", byteOffset := 0 }) (Tryd.runUnderlying19 w) rfl (Tryd.sizeOf17 w) (by decide) b o⟩
instance : TPlain Tryd.prog 20 := ⟨Tryd.isAgg20, Tryd.sizeOf20⟩
instance : TSize Tryd.prog 20 1 := ⟨Tryd.sizeOf20⟩
instance : TBytes Tryd.prog 20 16 := ⟨fun w => ⟨_, Tryd.typeInfo20 w, by rfl⟩⟩
instance : TZero Tryd.prog 20 Go.Value.nilIface := ⟨Tryd.zeroValue20⟩
instance : TUnder Tryd.prog 21 (Go.TypeDesc.int Go.IntKind.i32) := ⟨Tryd.runUnderlying21⟩
instance : TPlain Tryd.prog 21 := ⟨Tryd.isAgg21, Tryd.sizeOf21⟩
instance : TSize Tryd.prog 21 1 := ⟨Tryd.sizeOf21⟩
instance : TBytes Tryd.prog 21 4 := ⟨fun w => ⟨_, Tryd.typeInfo21 w, by rfl⟩⟩
instance : TZero Tryd.prog 21 (Go.Value.int Go.IntKind.i32 0) := ⟨Tryd.zeroValue21⟩
instance : TUnder Tryd.prog 22 (Go.TypeDesc.int Go.IntKind.u32) := ⟨Tryd.runUnderlying22⟩
instance : TPlain Tryd.prog 22 := ⟨Tryd.isAgg22, Tryd.sizeOf22⟩
instance : TSize Tryd.prog 22 1 := ⟨Tryd.sizeOf22⟩
instance : TBytes Tryd.prog 22 4 := ⟨fun w => ⟨_, Tryd.typeInfo22 w, by rfl⟩⟩
instance : TZero Tryd.prog 22 (Go.Value.int Go.IntKind.u32 0) := ⟨Tryd.zeroValue22⟩
instance : TUnder Tryd.prog 23 (Go.TypeDesc.struct #[{ name := "Version", type := 3, offset := 0, embedded := false, tag := "", pkgPath := "", byteOffset := 0 }, { name := "Count", type := 22, offset := 1, embedded := false, tag := "", pkgPath := "", byteOffset := 8 }, { name := "Data", type := 9, offset := 2, embedded := false, tag := "", pkgPath := "", byteOffset := 16 }]) := ⟨Tryd.runUnderlying23⟩
instance : TAgg Tryd.prog 23 3 := ⟨Tryd.isAgg23, Tryd.sizeOf23⟩
instance : TSize Tryd.prog 23 3 := ⟨Tryd.sizeOf23⟩
instance : TBytes Tryd.prog 23 32 := ⟨fun w => ⟨_, Tryd.typeInfo23 w, by rfl⟩⟩
instance : TZero Tryd.prog 23 (Go.Value.agg #[(Go.Value.int Go.IntKind.i64 0), (Go.Value.int Go.IntKind.u32 0), (Go.Value.string { data := #[] })]) := ⟨Tryd.zeroValue23⟩
instance : TPlaces Tryd.prog 23 [(0, 1), (1, 1), (2, 1)] := ⟨fun w => ⟨_, Tryd.runUnderlying23 w, by simp [Tryd.sizeOf22, Tryd.sizeOf3, Tryd.sizeOf9]⟩⟩
instance : TField Tryd.prog 23 0 0 := ⟨fun b o w => fieldAt_of (f := { name := "Version", type := 3, offset := 0, embedded := false, tag := "", pkgPath := "", byteOffset := 0 }) (Tryd.runUnderlying23 w) rfl (Tryd.sizeOf3 w) (by decide) b o⟩
instance : TField Tryd.prog 23 1 1 := ⟨fun b o w => fieldAt_of (f := { name := "Count", type := 22, offset := 1, embedded := false, tag := "", pkgPath := "", byteOffset := 8 }) (Tryd.runUnderlying23 w) rfl (Tryd.sizeOf22 w) (by decide) b o⟩
instance : TField Tryd.prog 23 2 2 := ⟨fun b o w => fieldAt_of (f := { name := "Data", type := 9, offset := 2, embedded := false, tag := "", pkgPath := "", byteOffset := 16 }) (Tryd.runUnderlying23 w) rfl (Tryd.sizeOf9 w) (by decide) b o⟩
instance : TUnder Tryd.prog 24 (Go.TypeDesc.struct #[{ name := "Version", type := 3, offset := 0, embedded := false, tag := "", pkgPath := "", byteOffset := 0 }, { name := "Count", type := 22, offset := 1, embedded := false, tag := "", pkgPath := "", byteOffset := 8 }, { name := "Data", type := 9, offset := 2, embedded := false, tag := "", pkgPath := "", byteOffset := 16 }]) := ⟨Tryd.runUnderlying24⟩
instance : TAgg Tryd.prog 24 3 := ⟨Tryd.isAgg24, Tryd.sizeOf24⟩
instance : TSize Tryd.prog 24 3 := ⟨Tryd.sizeOf24⟩
instance : TBytes Tryd.prog 24 32 := ⟨fun w => ⟨_, Tryd.typeInfo24 w, by rfl⟩⟩
instance : TZero Tryd.prog 24 (Go.Value.agg #[(Go.Value.int Go.IntKind.i64 0), (Go.Value.int Go.IntKind.u32 0), (Go.Value.string { data := #[] })]) := ⟨Tryd.zeroValue24⟩
instance : TPlaces Tryd.prog 24 [(0, 1), (1, 1), (2, 1)] := ⟨fun w => ⟨_, Tryd.runUnderlying24 w, by simp [Tryd.sizeOf22, Tryd.sizeOf3, Tryd.sizeOf9]⟩⟩
instance : TField Tryd.prog 24 0 0 := ⟨fun b o w => fieldAt_of (f := { name := "Version", type := 3, offset := 0, embedded := false, tag := "", pkgPath := "", byteOffset := 0 }) (Tryd.runUnderlying24 w) rfl (Tryd.sizeOf3 w) (by decide) b o⟩
instance : TField Tryd.prog 24 1 1 := ⟨fun b o w => fieldAt_of (f := { name := "Count", type := 22, offset := 1, embedded := false, tag := "", pkgPath := "", byteOffset := 8 }) (Tryd.runUnderlying24 w) rfl (Tryd.sizeOf22 w) (by decide) b o⟩
instance : TField Tryd.prog 24 2 2 := ⟨fun b o w => fieldAt_of (f := { name := "Data", type := 9, offset := 2, embedded := false, tag := "", pkgPath := "", byteOffset := 16 }) (Tryd.runUnderlying24 w) rfl (Tryd.sizeOf9 w) (by decide) b o⟩
instance : TPlain Tryd.prog 25 := ⟨Tryd.isAgg25, Tryd.sizeOf25⟩
instance : TSize Tryd.prog 25 1 := ⟨Tryd.sizeOf25⟩
instance : TBytes Tryd.prog 25 8 := ⟨fun w => ⟨_, Tryd.typeInfo25 w, by rfl⟩⟩
instance : TZero Tryd.prog 25 Go.Value.nilFunc := ⟨Tryd.zeroValue25⟩
instance : TPlain Tryd.prog 26 := ⟨Tryd.isAgg26, Tryd.sizeOf26⟩
instance : TSize Tryd.prog 26 1 := ⟨Tryd.sizeOf26⟩
instance : TBytes Tryd.prog 26 8 := ⟨fun w => ⟨_, Tryd.typeInfo26 w, by rfl⟩⟩
instance : TZero Tryd.prog 26 Go.Value.nilFunc := ⟨Tryd.zeroValue26⟩
instance : TUnder Tryd.prog 27 (Go.TypeDesc.int Go.IntKind.i64) := ⟨Tryd.runUnderlying27⟩
instance : TPlain Tryd.prog 27 := ⟨Tryd.isAgg27, Tryd.sizeOf27⟩
instance : TSize Tryd.prog 27 1 := ⟨Tryd.sizeOf27⟩
instance : TBytes Tryd.prog 27 8 := ⟨fun w => ⟨_, Tryd.typeInfo27 w, by rfl⟩⟩
instance : TZero Tryd.prog 27 (Go.Value.int Go.IntKind.i64 0) := ⟨Tryd.zeroValue27⟩
instance : TPlain Tryd.prog 29 := ⟨Tryd.isAgg29, Tryd.sizeOf29⟩
instance : TSize Tryd.prog 29 1 := ⟨Tryd.sizeOf29⟩
instance : TBytes Tryd.prog 29 8 := ⟨fun w => ⟨_, Tryd.typeInfo29 w, by rfl⟩⟩
instance : TZero Tryd.prog 29 Go.Value.nilFunc := ⟨Tryd.zeroValue29⟩
instance : TPlain Tryd.prog 30 := ⟨Tryd.isAgg30, Tryd.sizeOf30⟩
instance : TSize Tryd.prog 30 1 := ⟨Tryd.sizeOf30⟩
instance : TBytes Tryd.prog 30 8 := ⟨fun w => ⟨_, Tryd.typeInfo30 w, by rfl⟩⟩
instance : TZero Tryd.prog 30 Go.Value.nilFunc := ⟨Tryd.zeroValue30⟩
instance : TPlain Tryd.prog 31 := ⟨Tryd.isAgg31, Tryd.sizeOf31⟩
instance : TSize Tryd.prog 31 1 := ⟨Tryd.sizeOf31⟩
instance : TBytes Tryd.prog 31 8 := ⟨fun w => ⟨_, Tryd.typeInfo31 w, by rfl⟩⟩
instance : TZero Tryd.prog 31 Go.Value.nilFunc := ⟨Tryd.zeroValue31⟩
instance : TUnder Tryd.prog 32 (Go.TypeDesc.slice 5) := ⟨Tryd.runUnderlying32⟩
instance : TPlain Tryd.prog 32 := ⟨Tryd.isAgg32, Tryd.sizeOf32⟩
instance : TSize Tryd.prog 32 1 := ⟨Tryd.sizeOf32⟩
instance : TBytes Tryd.prog 32 24 := ⟨fun w => ⟨_, Tryd.typeInfo32 w, by rfl⟩⟩
instance : TZero Tryd.prog 32 (Go.Value.slice none 0 0) := ⟨Tryd.zeroValue32⟩
instance : TPlain Tryd.prog 33 := ⟨Tryd.isAgg33, Tryd.sizeOf33⟩
instance : TSize Tryd.prog 33 1 := ⟨Tryd.sizeOf33⟩
instance : TBytes Tryd.prog 33 8 := ⟨fun w => ⟨_, Tryd.typeInfo33 w, by rfl⟩⟩
instance : TZero Tryd.prog 33 Go.Value.nilFunc := ⟨Tryd.zeroValue33⟩
instance : TPlain Tryd.prog 34 := ⟨Tryd.isAgg34, Tryd.sizeOf34⟩
instance : TSize Tryd.prog 34 1 := ⟨Tryd.sizeOf34⟩
instance : TBytes Tryd.prog 34 8 := ⟨fun w => ⟨_, Tryd.typeInfo34 w, by rfl⟩⟩
instance : TZero Tryd.prog 34 Go.Value.nilFunc := ⟨Tryd.zeroValue34⟩
instance : TPlain Tryd.prog 35 := ⟨Tryd.isAgg35, Tryd.sizeOf35⟩
instance : TSize Tryd.prog 35 1 := ⟨Tryd.sizeOf35⟩
instance : TBytes Tryd.prog 35 8 := ⟨fun w => ⟨_, Tryd.typeInfo35 w, by rfl⟩⟩
instance : TZero Tryd.prog 35 Go.Value.nilFunc := ⟨Tryd.zeroValue35⟩
instance : TPlain Tryd.prog 37 := ⟨Tryd.isAgg37, Tryd.sizeOf37⟩
instance : TSize Tryd.prog 37 1 := ⟨Tryd.sizeOf37⟩
instance : TBytes Tryd.prog 37 8 := ⟨fun w => ⟨_, Tryd.typeInfo37 w, by rfl⟩⟩
instance : TZero Tryd.prog 37 Go.Value.nilFunc := ⟨Tryd.zeroValue37⟩
instance : TPlain Tryd.prog 38 := ⟨Tryd.isAgg38, Tryd.sizeOf38⟩
instance : TSize Tryd.prog 38 1 := ⟨Tryd.sizeOf38⟩
instance : TBytes Tryd.prog 38 8 := ⟨fun w => ⟨_, Tryd.typeInfo38 w, by rfl⟩⟩
instance : TZero Tryd.prog 38 Go.Value.nilFunc := ⟨Tryd.zeroValue38⟩
instance : TUnder Tryd.prog 39 (Go.TypeDesc.slice 51) := ⟨Tryd.runUnderlying39⟩
instance : TPlain Tryd.prog 39 := ⟨Tryd.isAgg39, Tryd.sizeOf39⟩
instance : TSize Tryd.prog 39 1 := ⟨Tryd.sizeOf39⟩
instance : TBytes Tryd.prog 39 24 := ⟨fun w => ⟨_, Tryd.typeInfo39 w, by rfl⟩⟩
instance : TZero Tryd.prog 39 (Go.Value.slice none 0 0) := ⟨Tryd.zeroValue39⟩
instance : TUnder Tryd.prog 40 (Go.TypeDesc.slice 4) := ⟨Tryd.runUnderlying40⟩
instance : TPlain Tryd.prog 40 := ⟨Tryd.isAgg40, Tryd.sizeOf40⟩
instance : TSize Tryd.prog 40 1 := ⟨Tryd.sizeOf40⟩
instance : TBytes Tryd.prog 40 24 := ⟨fun w => ⟨_, Tryd.typeInfo40 w, by rfl⟩⟩
instance : TZero Tryd.prog 40 (Go.Value.slice none 0 0) := ⟨Tryd.zeroValue40⟩
instance : TUnder Tryd.prog 41 (Go.TypeDesc.pointer 86) := ⟨Tryd.runUnderlying41⟩
instance : TPlain Tryd.prog 41 := ⟨Tryd.isAgg41, Tryd.sizeOf41⟩
instance : TSize Tryd.prog 41 1 := ⟨Tryd.sizeOf41⟩
instance : TBytes Tryd.prog 41 8 := ⟨fun w => ⟨_, Tryd.typeInfo41 w, by rfl⟩⟩
instance : TZero Tryd.prog 41 (Go.Value.pointer none) := ⟨Tryd.zeroValue41⟩
instance : TPlain Tryd.prog 43 := ⟨Tryd.isAgg43, Tryd.sizeOf43⟩
instance : TSize Tryd.prog 43 1 := ⟨Tryd.sizeOf43⟩
instance : TBytes Tryd.prog 43 8 := ⟨fun w => ⟨_, Tryd.typeInfo43 w, by rfl⟩⟩
instance : TZero Tryd.prog 43 Go.Value.nilFunc := ⟨Tryd.zeroValue43⟩
instance : TUnder Tryd.prog 44 (Go.TypeDesc.slice 80) := ⟨Tryd.runUnderlying44⟩
instance : TPlain Tryd.prog 44 := ⟨Tryd.isAgg44, Tryd.sizeOf44⟩
instance : TSize Tryd.prog 44 1 := ⟨Tryd.sizeOf44⟩
instance : TBytes Tryd.prog 44 24 := ⟨fun w => ⟨_, Tryd.typeInfo44 w, by rfl⟩⟩
instance : TZero Tryd.prog 44 (Go.Value.slice none 0 0) := ⟨Tryd.zeroValue44⟩
instance : TPlain Tryd.prog 46 := ⟨Tryd.isAgg46, Tryd.sizeOf46⟩
instance : TSize Tryd.prog 46 1 := ⟨Tryd.sizeOf46⟩
instance : TBytes Tryd.prog 46 8 := ⟨fun w => ⟨_, Tryd.typeInfo46 w, by rfl⟩⟩
instance : TZero Tryd.prog 46 Go.Value.nilFunc := ⟨Tryd.zeroValue46⟩
instance : TUnder Tryd.prog 47 (Go.TypeDesc.struct #[{ name := "Kind", type := 3, offset := 0, embedded := false, tag := "", pkgPath := "", byteOffset := 0 }, { name := "Epoch", type := 22, offset := 1, embedded := false, tag := "", pkgPath := "", byteOffset := 8 }, { name := "Version", type := 3, offset := 2, embedded := false, tag := "", pkgPath := "", byteOffset := 16 }, { name := "Msgs", type := 44, offset := 3, embedded := false, tag := "", pkgPath := "", byteOffset := 24 }]) := ⟨Tryd.runUnderlying47⟩
instance : TAgg Tryd.prog 47 4 := ⟨Tryd.isAgg47, Tryd.sizeOf47⟩
instance : TSize Tryd.prog 47 4 := ⟨Tryd.sizeOf47⟩
instance : TBytes Tryd.prog 47 48 := ⟨fun w => ⟨_, Tryd.typeInfo47 w, by rfl⟩⟩
instance : TZero Tryd.prog 47 (Go.Value.agg #[(Go.Value.int Go.IntKind.i64 0), (Go.Value.int Go.IntKind.u32 0), (Go.Value.int Go.IntKind.i64 0), (Go.Value.slice none 0 0)]) := ⟨Tryd.zeroValue47⟩
instance : TPlaces Tryd.prog 47 [(0, 1), (1, 1), (2, 1), (3, 1)] := ⟨fun w => ⟨_, Tryd.runUnderlying47 w, by simp [Tryd.sizeOf22, Tryd.sizeOf3, Tryd.sizeOf44]⟩⟩
instance : TField Tryd.prog 47 0 0 := ⟨fun b o w => fieldAt_of (f := { name := "Kind", type := 3, offset := 0, embedded := false, tag := "", pkgPath := "", byteOffset := 0 }) (Tryd.runUnderlying47 w) rfl (Tryd.sizeOf3 w) (by decide) b o⟩
instance : TField Tryd.prog 47 1 1 := ⟨fun b o w => fieldAt_of (f := { name := "Epoch", type := 22, offset := 1, embedded := false, tag := "", pkgPath := "", byteOffset := 8 }) (Tryd.runUnderlying47 w) rfl (Tryd.sizeOf22 w) (by decide) b o⟩
instance : TField Tryd.prog 47 2 2 := ⟨fun b o w => fieldAt_of (f := { name := "Version", type := 3, offset := 2, embedded := false, tag := "", pkgPath := "", byteOffset := 16 }) (Tryd.runUnderlying47 w) rfl (Tryd.sizeOf3 w) (by decide) b o⟩
instance : TField Tryd.prog 47 3 3 := ⟨fun b o w => fieldAt_of (f := { name := "Msgs", type := 44, offset := 3, embedded := false, tag := "", pkgPath := "", byteOffset := 24 }) (Tryd.runUnderlying47 w) rfl (Tryd.sizeOf44 w) (by decide) b o⟩
instance : TUnder Tryd.prog 48 (Go.TypeDesc.struct #[{ name := "Kind", type := 3, offset := 0, embedded := false, tag := "", pkgPath := "", byteOffset := 0 }, { name := "Epoch", type := 22, offset := 1, embedded := false, tag := "", pkgPath := "", byteOffset := 8 }, { name := "Version", type := 3, offset := 2, embedded := false, tag := "", pkgPath := "", byteOffset := 16 }, { name := "Msgs", type := 44, offset := 3, embedded := false, tag := "", pkgPath := "", byteOffset := 24 }]) := ⟨Tryd.runUnderlying48⟩
instance : TAgg Tryd.prog 48 4 := ⟨Tryd.isAgg48, Tryd.sizeOf48⟩
instance : TSize Tryd.prog 48 4 := ⟨Tryd.sizeOf48⟩
instance : TBytes Tryd.prog 48 48 := ⟨fun w => ⟨_, Tryd.typeInfo48 w, by rfl⟩⟩
instance : TZero Tryd.prog 48 (Go.Value.agg #[(Go.Value.int Go.IntKind.i64 0), (Go.Value.int Go.IntKind.u32 0), (Go.Value.int Go.IntKind.i64 0), (Go.Value.slice none 0 0)]) := ⟨Tryd.zeroValue48⟩
instance : TPlaces Tryd.prog 48 [(0, 1), (1, 1), (2, 1), (3, 1)] := ⟨fun w => ⟨_, Tryd.runUnderlying48 w, by simp [Tryd.sizeOf22, Tryd.sizeOf3, Tryd.sizeOf44]⟩⟩
instance : TField Tryd.prog 48 0 0 := ⟨fun b o w => fieldAt_of (f := { name := "Kind", type := 3, offset := 0, embedded := false, tag := "", pkgPath := "", byteOffset := 0 }) (Tryd.runUnderlying48 w) rfl (Tryd.sizeOf3 w) (by decide) b o⟩
instance : TField Tryd.prog 48 1 1 := ⟨fun b o w => fieldAt_of (f := { name := "Epoch", type := 22, offset := 1, embedded := false, tag := "", pkgPath := "", byteOffset := 8 }) (Tryd.runUnderlying48 w) rfl (Tryd.sizeOf22 w) (by decide) b o⟩
instance : TField Tryd.prog 48 2 2 := ⟨fun b o w => fieldAt_of (f := { name := "Version", type := 3, offset := 2, embedded := false, tag := "", pkgPath := "", byteOffset := 16 }) (Tryd.runUnderlying48 w) rfl (Tryd.sizeOf3 w) (by decide) b o⟩
instance : TField Tryd.prog 48 3 3 := ⟨fun b o w => fieldAt_of (f := { name := "Msgs", type := 44, offset := 3, embedded := false, tag := "", pkgPath := "", byteOffset := 24 }) (Tryd.runUnderlying48 w) rfl (Tryd.sizeOf44 w) (by decide) b o⟩
instance : TPlain Tryd.prog 49 := ⟨Tryd.isAgg49, Tryd.sizeOf49⟩
instance : TSize Tryd.prog 49 1 := ⟨Tryd.sizeOf49⟩
instance : TBytes Tryd.prog 49 8 := ⟨fun w => ⟨_, Tryd.typeInfo49 w, by rfl⟩⟩
instance : TZero Tryd.prog 49 Go.Value.nilFunc := ⟨Tryd.zeroValue49⟩
instance : TUnder Tryd.prog 50 (Go.TypeDesc.struct #[{ name := "E", type := 48, offset := 0, embedded := false, tag := "", pkgPath := "", byteOffset := 0 }, { name := "Fails", type := 4, offset := 4, embedded := false, tag := "", pkgPath := "", byteOffset := 48 }]) := ⟨Tryd.runUnderlying50⟩
instance : TAgg Tryd.prog 50 5 := ⟨Tryd.isAgg50, Tryd.sizeOf50⟩
instance : TSize Tryd.prog 50 5 := ⟨Tryd.sizeOf50⟩
instance : TBytes Tryd.prog 50 56 := ⟨fun w => ⟨_, Tryd.typeInfo50 w, by rfl⟩⟩
instance : TZero Tryd.prog 50 (Go.Value.agg #[(Go.Value.int Go.IntKind.i64 0), (Go.Value.int Go.IntKind.u32 0), (Go.Value.int Go.IntKind.i64 0), (Go.Value.slice none 0 0), (Go.Value.bool false)]) := ⟨Tryd.zeroValue50⟩
instance : TPlaces Tryd.prog 50 [(0, 4), (4, 1)] := ⟨fun w => ⟨_, Tryd.runUnderlying50 w, by simp [Tryd.sizeOf4, Tryd.sizeOf48]⟩⟩
instance : TField Tryd.prog 50 0 0 := ⟨fun b o w => fieldAt_of (f := { name := "E", type := 48, offset := 0, embedded := false, tag := "", pkgPath := "", byteOffset := 0 }) (Tryd.runUnderlying50 w) rfl (Tryd.sizeOf48 w) (by decide) b o⟩
instance : TField Tryd.prog 50 1 4 := ⟨fun b o w => fieldAt_of (f := { name := "Fails", type := 4, offset := 4, embedded := false, tag := "", pkgPath := "", byteOffset := 48 }) (Tryd.runUnderlying50 w) rfl (Tryd.sizeOf4 w) (by decide) b o⟩
instance : TUnder Tryd.prog 51 (Go.TypeDesc.struct #[{ name := "E", type := 48, offset := 0, embedded := false, tag := "", pkgPath := "", byteOffset := 0 }, { name := "Fails", type := 4, offset := 4, embedded := false, tag := "", pkgPath := "", byteOffset := 48 }]) := ⟨Tryd.runUnderlying51⟩
instance : TAgg Tryd.prog 51 5 := ⟨Tryd.isAgg51, Tryd.sizeOf51⟩
instance : TSize Tryd.prog 51 5 := ⟨Tryd.sizeOf51⟩
instance : TBytes Tryd.prog 51 56 := ⟨fun w => ⟨_, Tryd.typeInfo51 w, by rfl⟩⟩
instance : TZero Tryd.prog 51 (Go.Value.agg #[(Go.Value.int Go.IntKind.i64 0), (Go.Value.int Go.IntKind.u32 0), (Go.Value.int Go.IntKind.i64 0), (Go.Value.slice none 0 0), (Go.Value.bool false)]) := ⟨Tryd.zeroValue51⟩
instance : TPlaces Tryd.prog 51 [(0, 4), (4, 1)] := ⟨fun w => ⟨_, Tryd.runUnderlying51 w, by simp [Tryd.sizeOf4, Tryd.sizeOf48]⟩⟩
instance : TField Tryd.prog 51 0 0 := ⟨fun b o w => fieldAt_of (f := { name := "E", type := 48, offset := 0, embedded := false, tag := "", pkgPath := "", byteOffset := 0 }) (Tryd.runUnderlying51 w) rfl (Tryd.sizeOf48 w) (by decide) b o⟩
instance : TField Tryd.prog 51 1 4 := ⟨fun b o w => fieldAt_of (f := { name := "Fails", type := 4, offset := 4, embedded := false, tag := "", pkgPath := "", byteOffset := 48 }) (Tryd.runUnderlying51 w) rfl (Tryd.sizeOf4 w) (by decide) b o⟩
instance : TPlain Tryd.prog 52 := ⟨Tryd.isAgg52, Tryd.sizeOf52⟩
instance : TSize Tryd.prog 52 1 := ⟨Tryd.sizeOf52⟩
instance : TBytes Tryd.prog 52 8 := ⟨fun w => ⟨_, Tryd.typeInfo52 w, by rfl⟩⟩
instance : TZero Tryd.prog 52 Go.Value.nilFunc := ⟨Tryd.zeroValue52⟩
instance : TPlain Tryd.prog 53 := ⟨Tryd.isAgg53, Tryd.sizeOf53⟩
instance : TSize Tryd.prog 53 1 := ⟨Tryd.sizeOf53⟩
instance : TBytes Tryd.prog 53 8 := ⟨fun w => ⟨_, Tryd.typeInfo53 w, by rfl⟩⟩
instance : TZero Tryd.prog 53 Go.Value.nilFunc := ⟨Tryd.zeroValue53⟩
instance : TUnder Tryd.prog 54 (Go.TypeDesc.struct #[{ name := "Epoch", type := 22, offset := 0, embedded := false, tag := "", pkgPath := "", byteOffset := 0 }, { name := "Version", type := 3, offset := 1, embedded := false, tag := "", pkgPath := "", byteOffset := 8 }, { name := "Start", type := 3, offset := 2, embedded := false, tag := "", pkgPath := "", byteOffset := 16 }]) := ⟨Tryd.runUnderlying54⟩
instance : TAgg Tryd.prog 54 3 := ⟨Tryd.isAgg54, Tryd.sizeOf54⟩
instance : TSize Tryd.prog 54 3 := ⟨Tryd.sizeOf54⟩
instance : TBytes Tryd.prog 54 24 := ⟨fun w => ⟨_, Tryd.typeInfo54 w, by rfl⟩⟩
instance : TZero Tryd.prog 54 (Go.Value.agg #[(Go.Value.int Go.IntKind.u32 0), (Go.Value.int Go.IntKind.i64 0), (Go.Value.int Go.IntKind.i64 0)]) := ⟨Tryd.zeroValue54⟩
instance : TPlaces Tryd.prog 54 [(0, 1), (1, 1), (2, 1)] := ⟨fun w => ⟨_, Tryd.runUnderlying54 w, by simp [Tryd.sizeOf22, Tryd.sizeOf3]⟩⟩
instance : TField Tryd.prog 54 0 0 := ⟨fun b o w => fieldAt_of (f := { name := "Epoch", type := 22, offset := 0, embedded := false, tag := "", pkgPath := "", byteOffset := 0 }) (Tryd.runUnderlying54 w) rfl (Tryd.sizeOf22 w) (by decide) b o⟩
instance : TField Tryd.prog 54 1 1 := ⟨fun b o w => fieldAt_of (f := { name := "Version", type := 3, offset := 1, embedded := false, tag := "", pkgPath := "", byteOffset := 8 }) (Tryd.runUnderlying54 w) rfl (Tryd.sizeOf3 w) (by decide) b o⟩
instance : TField Tryd.prog 54 2 2 := ⟨fun b o w => fieldAt_of (f := { name := "Start", type := 3, offset := 2, embedded := false, tag := "", pkgPath := "", byteOffset := 16 }) (Tryd.runUnderlying54 w) rfl (Tryd.sizeOf3 w) (by decide) b o⟩
instance : TUnder Tryd.prog 55 (Go.TypeDesc.struct #[{ name := "Epoch", type := 22, offset := 0, embedded := false, tag := "", pkgPath := "", byteOffset := 0 }, { name := "Version", type := 3, offset := 1, embedded := false, tag := "", pkgPath := "", byteOffset := 8 }, { name := "Start", type := 3, offset := 2, embedded := false, tag := "", pkgPath := "", byteOffset := 16 }]) := ⟨Tryd.runUnderlying55⟩
instance : TAgg Tryd.prog 55 3 := ⟨Tryd.isAgg55, Tryd.sizeOf55⟩
instance : TSize Tryd.prog 55 3 := ⟨Tryd.sizeOf55⟩
instance : TBytes Tryd.prog 55 24 := ⟨fun w => ⟨_, Tryd.typeInfo55 w, by rfl⟩⟩
instance : TZero Tryd.prog 55 (Go.Value.agg #[(Go.Value.int Go.IntKind.u32 0), (Go.Value.int Go.IntKind.i64 0), (Go.Value.int Go.IntKind.i64 0)]) := ⟨Tryd.zeroValue55⟩
instance : TPlaces Tryd.prog 55 [(0, 1), (1, 1), (2, 1)] := ⟨fun w => ⟨_, Tryd.runUnderlying55 w, by simp [Tryd.sizeOf22, Tryd.sizeOf3]⟩⟩
instance : TField Tryd.prog 55 0 0 := ⟨fun b o w => fieldAt_of (f := { name := "Epoch", type := 22, offset := 0, embedded := false, tag := "", pkgPath := "", byteOffset := 0 }) (Tryd.runUnderlying55 w) rfl (Tryd.sizeOf22 w) (by decide) b o⟩
instance : TField Tryd.prog 55 1 1 := ⟨fun b o w => fieldAt_of (f := { name := "Version", type := 3, offset := 1, embedded := false, tag := "", pkgPath := "", byteOffset := 8 }) (Tryd.runUnderlying55 w) rfl (Tryd.sizeOf3 w) (by decide) b o⟩
instance : TField Tryd.prog 55 2 2 := ⟨fun b o w => fieldAt_of (f := { name := "Start", type := 3, offset := 2, embedded := false, tag := "", pkgPath := "", byteOffset := 16 }) (Tryd.runUnderlying55 w) rfl (Tryd.sizeOf3 w) (by decide) b o⟩
instance : TPlain Tryd.prog 56 := ⟨Tryd.isAgg56, Tryd.sizeOf56⟩
instance : TSize Tryd.prog 56 1 := ⟨Tryd.sizeOf56⟩
instance : TBytes Tryd.prog 56 8 := ⟨fun w => ⟨_, Tryd.typeInfo56 w, by rfl⟩⟩
instance : TZero Tryd.prog 56 Go.Value.nilFunc := ⟨Tryd.zeroValue56⟩
instance : TPlain Tryd.prog 57 := ⟨Tryd.isAgg57, Tryd.sizeOf57⟩
instance : TSize Tryd.prog 57 1 := ⟨Tryd.sizeOf57⟩
instance : TBytes Tryd.prog 57 8 := ⟨fun w => ⟨_, Tryd.typeInfo57 w, by rfl⟩⟩
instance : TZero Tryd.prog 57 Go.Value.nilFunc := ⟨Tryd.zeroValue57⟩
instance : TPlain Tryd.prog 58 := ⟨Tryd.isAgg58, Tryd.sizeOf58⟩
instance : TSize Tryd.prog 58 1 := ⟨Tryd.sizeOf58⟩
instance : TBytes Tryd.prog 58 8 := ⟨fun w => ⟨_, Tryd.typeInfo58 w, by rfl⟩⟩
instance : TZero Tryd.prog 58 Go.Value.nilFunc := ⟨Tryd.zeroValue58⟩
instance : TPlain Tryd.prog 60 := ⟨Tryd.isAgg60, Tryd.sizeOf60⟩
instance : TSize Tryd.prog 60 1 := ⟨Tryd.sizeOf60⟩
instance : TBytes Tryd.prog 60 8 := ⟨fun w => ⟨_, Tryd.typeInfo60 w, by rfl⟩⟩
instance : TZero Tryd.prog 60 Go.Value.nilFunc := ⟨Tryd.zeroValue60⟩
instance : TPlain Tryd.prog 61 := ⟨Tryd.isAgg61, Tryd.sizeOf61⟩
instance : TSize Tryd.prog 61 1 := ⟨Tryd.sizeOf61⟩
instance : TBytes Tryd.prog 61 8 := ⟨fun w => ⟨_, Tryd.typeInfo61 w, by rfl⟩⟩
instance : TZero Tryd.prog 61 Go.Value.nilFunc := ⟨Tryd.zeroValue61⟩
instance : TPlain Tryd.prog 62 := ⟨Tryd.isAgg62, Tryd.sizeOf62⟩
instance : TSize Tryd.prog 62 1 := ⟨Tryd.sizeOf62⟩
instance : TBytes Tryd.prog 62 8 := ⟨fun w => ⟨_, Tryd.typeInfo62 w, by rfl⟩⟩
instance : TZero Tryd.prog 62 Go.Value.nilFunc := ⟨Tryd.zeroValue62⟩
instance : TUnder Tryd.prog 63 (Go.TypeDesc.map 71 73) := ⟨Tryd.runUnderlying63⟩
instance : TPlain Tryd.prog 63 := ⟨Tryd.isAgg63, Tryd.sizeOf63⟩
instance : TSize Tryd.prog 63 1 := ⟨Tryd.sizeOf63⟩
instance : TBytes Tryd.prog 63 8 := ⟨fun w => ⟨_, Tryd.typeInfo63 w, by rfl⟩⟩
instance : TZero Tryd.prog 63 (Go.Value.map none) := ⟨Tryd.zeroValue63⟩
instance : TPlain Tryd.prog 64 := ⟨Tryd.isAgg64, Tryd.sizeOf64⟩
instance : TSize Tryd.prog 64 1 := ⟨Tryd.sizeOf64⟩
instance : TBytes Tryd.prog 64 8 := ⟨fun w => ⟨_, Tryd.typeInfo64 w, by rfl⟩⟩
instance : TZero Tryd.prog 64 Go.Value.nilFunc := ⟨Tryd.zeroValue64⟩
instance : TPlain Tryd.prog 65 := ⟨Tryd.isAgg65, Tryd.sizeOf65⟩
instance : TSize Tryd.prog 65 1 := ⟨Tryd.sizeOf65⟩
instance : TBytes Tryd.prog 65 16 := ⟨fun w => ⟨_, Tryd.typeInfo65 w, by rfl⟩⟩
instance : TZero Tryd.prog 65 Go.Value.nilIface := ⟨Tryd.zeroValue65⟩
instance : TPlain Tryd.prog 66 := ⟨Tryd.isAgg66, Tryd.sizeOf66⟩
instance : TSize Tryd.prog 66 1 := ⟨Tryd.sizeOf66⟩
instance : TBytes Tryd.prog 66 16 := ⟨fun w => ⟨_, Tryd.typeInfo66 w, by rfl⟩⟩
instance : TZero Tryd.prog 66 Go.Value.nilIface := ⟨Tryd.zeroValue66⟩
instance : TPlain Tryd.prog 67 := ⟨Tryd.isAgg67, Tryd.sizeOf67⟩
instance : TSize Tryd.prog 67 1 := ⟨Tryd.sizeOf67⟩
instance : TBytes Tryd.prog 67 8 := ⟨fun w => ⟨_, Tryd.typeInfo67 w, by rfl⟩⟩
instance : TZero Tryd.prog 67 Go.Value.nilFunc := ⟨Tryd.zeroValue67⟩
instance : TPlain Tryd.prog 68 := ⟨Tryd.isAgg68, Tryd.sizeOf68⟩
instance : TSize Tryd.prog 68 1 := ⟨Tryd.sizeOf68⟩
instance : TBytes Tryd.prog 68 8 := ⟨fun w => ⟨_, Tryd.typeInfo68 w, by rfl⟩⟩
instance : TZero Tryd.prog 68 Go.Value.nilFunc := ⟨Tryd.zeroValue68⟩
instance : TPlain Tryd.prog 69 := ⟨Tryd.isAgg69, Tryd.sizeOf69⟩
instance : TSize Tryd.prog 69 1 := ⟨Tryd.sizeOf69⟩
instance : TBytes Tryd.prog 69 8 := ⟨fun w => ⟨_, Tryd.typeInfo69 w, by rfl⟩⟩
instance : TZero Tryd.prog 69 Go.Value.nilFunc := ⟨Tryd.zeroValue69⟩
instance : TUnder Tryd.prog 70 (Go.TypeDesc.struct #[{ name := "from", type := 3, offset := 0, embedded := false, tag := "", pkgPath := "rostrum/registry", byteOffset := 0 }, { name := "to", type := 3, offset := 1, embedded := false, tag := "", pkgPath := "rostrum/registry", byteOffset := 8 }]) := ⟨Tryd.runUnderlying70⟩
instance : TAgg Tryd.prog 70 2 := ⟨Tryd.isAgg70, Tryd.sizeOf70⟩
instance : TSize Tryd.prog 70 2 := ⟨Tryd.sizeOf70⟩
instance : TBytes Tryd.prog 70 16 := ⟨fun w => ⟨_, Tryd.typeInfo70 w, by rfl⟩⟩
instance : TZero Tryd.prog 70 (Go.Value.agg #[(Go.Value.int Go.IntKind.i64 0), (Go.Value.int Go.IntKind.i64 0)]) := ⟨Tryd.zeroValue70⟩
instance : TPlaces Tryd.prog 70 [(0, 1), (1, 1)] := ⟨fun w => ⟨_, Tryd.runUnderlying70 w, by simp [Tryd.sizeOf3]⟩⟩
instance : TField Tryd.prog 70 0 0 := ⟨fun b o w => fieldAt_of (f := { name := "from", type := 3, offset := 0, embedded := false, tag := "", pkgPath := "rostrum/registry", byteOffset := 0 }) (Tryd.runUnderlying70 w) rfl (Tryd.sizeOf3 w) (by decide) b o⟩
instance : TField Tryd.prog 70 1 1 := ⟨fun b o w => fieldAt_of (f := { name := "to", type := 3, offset := 1, embedded := false, tag := "", pkgPath := "rostrum/registry", byteOffset := 8 }) (Tryd.runUnderlying70 w) rfl (Tryd.sizeOf3 w) (by decide) b o⟩
instance : TUnder Tryd.prog 71 (Go.TypeDesc.struct #[{ name := "from", type := 3, offset := 0, embedded := false, tag := "", pkgPath := "rostrum/registry", byteOffset := 0 }, { name := "to", type := 3, offset := 1, embedded := false, tag := "", pkgPath := "rostrum/registry", byteOffset := 8 }]) := ⟨Tryd.runUnderlying71⟩
instance : TAgg Tryd.prog 71 2 := ⟨Tryd.isAgg71, Tryd.sizeOf71⟩
instance : TSize Tryd.prog 71 2 := ⟨Tryd.sizeOf71⟩
instance : TBytes Tryd.prog 71 16 := ⟨fun w => ⟨_, Tryd.typeInfo71 w, by rfl⟩⟩
instance : TZero Tryd.prog 71 (Go.Value.agg #[(Go.Value.int Go.IntKind.i64 0), (Go.Value.int Go.IntKind.i64 0)]) := ⟨Tryd.zeroValue71⟩
instance : TPlaces Tryd.prog 71 [(0, 1), (1, 1)] := ⟨fun w => ⟨_, Tryd.runUnderlying71 w, by simp [Tryd.sizeOf3]⟩⟩
instance : TField Tryd.prog 71 0 0 := ⟨fun b o w => fieldAt_of (f := { name := "from", type := 3, offset := 0, embedded := false, tag := "", pkgPath := "rostrum/registry", byteOffset := 0 }) (Tryd.runUnderlying71 w) rfl (Tryd.sizeOf3 w) (by decide) b o⟩
instance : TField Tryd.prog 71 1 1 := ⟨fun b o w => fieldAt_of (f := { name := "to", type := 3, offset := 1, embedded := false, tag := "", pkgPath := "rostrum/registry", byteOffset := 8 }) (Tryd.runUnderlying71 w) rfl (Tryd.sizeOf3 w) (by decide) b o⟩
instance : TPlain Tryd.prog 73 := ⟨Tryd.isAgg73, Tryd.sizeOf73⟩
instance : TSize Tryd.prog 73 1 := ⟨Tryd.sizeOf73⟩
instance : TBytes Tryd.prog 73 8 := ⟨fun w => ⟨_, Tryd.typeInfo73 w, by rfl⟩⟩
instance : TZero Tryd.prog 73 Go.Value.nilFunc := ⟨Tryd.zeroValue73⟩
instance : TPlain Tryd.prog 74 := ⟨Tryd.isAgg74, Tryd.sizeOf74⟩
instance : TSize Tryd.prog 74 1 := ⟨Tryd.sizeOf74⟩
instance : TBytes Tryd.prog 74 8 := ⟨fun w => ⟨_, Tryd.typeInfo74 w, by rfl⟩⟩
instance : TZero Tryd.prog 74 Go.Value.nilFunc := ⟨Tryd.zeroValue74⟩
instance : TPlain Tryd.prog 76 := ⟨Tryd.isAgg76, Tryd.sizeOf76⟩
instance : TSize Tryd.prog 76 1 := ⟨Tryd.sizeOf76⟩
instance : TBytes Tryd.prog 76 8 := ⟨fun w => ⟨_, Tryd.typeInfo76 w, by rfl⟩⟩
instance : TZero Tryd.prog 76 Go.Value.nilFunc := ⟨Tryd.zeroValue76⟩
instance : TUnder Tryd.prog 77 (Go.TypeDesc.struct #[{ name := "From", type := 3, offset := 0, embedded := false, tag := "", pkgPath := "", byteOffset := 0 }, { name := "Count", type := 22, offset := 1, embedded := false, tag := "", pkgPath := "", byteOffset := 8 }]) := ⟨Tryd.runUnderlying77⟩
instance : TAgg Tryd.prog 77 2 := ⟨Tryd.isAgg77, Tryd.sizeOf77⟩
instance : TSize Tryd.prog 77 2 := ⟨Tryd.sizeOf77⟩
instance : TBytes Tryd.prog 77 16 := ⟨fun w => ⟨_, Tryd.typeInfo77 w, by rfl⟩⟩
instance : TZero Tryd.prog 77 (Go.Value.agg #[(Go.Value.int Go.IntKind.i64 0), (Go.Value.int Go.IntKind.u32 0)]) := ⟨Tryd.zeroValue77⟩
instance : TPlaces Tryd.prog 77 [(0, 1), (1, 1)] := ⟨fun w => ⟨_, Tryd.runUnderlying77 w, by simp [Tryd.sizeOf22, Tryd.sizeOf3]⟩⟩
instance : TField Tryd.prog 77 0 0 := ⟨fun b o w => fieldAt_of (f := { name := "From", type := 3, offset := 0, embedded := false, tag := "", pkgPath := "", byteOffset := 0 }) (Tryd.runUnderlying77 w) rfl (Tryd.sizeOf3 w) (by decide) b o⟩
instance : TField Tryd.prog 77 1 1 := ⟨fun b o w => fieldAt_of (f := { name := "Count", type := 22, offset := 1, embedded := false, tag := "", pkgPath := "", byteOffset := 8 }) (Tryd.runUnderlying77 w) rfl (Tryd.sizeOf22 w) (by decide) b o⟩
instance : TUnder Tryd.prog 78 (Go.TypeDesc.struct #[{ name := "From", type := 3, offset := 0, embedded := false, tag := "", pkgPath := "", byteOffset := 0 }, { name := "Count", type := 22, offset := 1, embedded := false, tag := "", pkgPath := "", byteOffset := 8 }]) := ⟨Tryd.runUnderlying78⟩
instance : TAgg Tryd.prog 78 2 := ⟨Tryd.isAgg78, Tryd.sizeOf78⟩
instance : TSize Tryd.prog 78 2 := ⟨Tryd.sizeOf78⟩
instance : TBytes Tryd.prog 78 16 := ⟨fun w => ⟨_, Tryd.typeInfo78 w, by rfl⟩⟩
instance : TZero Tryd.prog 78 (Go.Value.agg #[(Go.Value.int Go.IntKind.i64 0), (Go.Value.int Go.IntKind.u32 0)]) := ⟨Tryd.zeroValue78⟩
instance : TPlaces Tryd.prog 78 [(0, 1), (1, 1)] := ⟨fun w => ⟨_, Tryd.runUnderlying78 w, by simp [Tryd.sizeOf22, Tryd.sizeOf3]⟩⟩
instance : TField Tryd.prog 78 0 0 := ⟨fun b o w => fieldAt_of (f := { name := "From", type := 3, offset := 0, embedded := false, tag := "", pkgPath := "", byteOffset := 0 }) (Tryd.runUnderlying78 w) rfl (Tryd.sizeOf3 w) (by decide) b o⟩
instance : TField Tryd.prog 78 1 1 := ⟨fun b o w => fieldAt_of (f := { name := "Count", type := 22, offset := 1, embedded := false, tag := "", pkgPath := "", byteOffset := 8 }) (Tryd.runUnderlying78 w) rfl (Tryd.sizeOf22 w) (by decide) b o⟩
instance : TUnder Tryd.prog 79 (Go.TypeDesc.struct #[{ name := "Id", type := 78, offset := 0, embedded := false, tag := "", pkgPath := "", byteOffset := 0 }, { name := "Data", type := 9, offset := 2, embedded := false, tag := "", pkgPath := "", byteOffset := 16 }]) := ⟨Tryd.runUnderlying79⟩
instance : TAgg Tryd.prog 79 3 := ⟨Tryd.isAgg79, Tryd.sizeOf79⟩
instance : TSize Tryd.prog 79 3 := ⟨Tryd.sizeOf79⟩
instance : TBytes Tryd.prog 79 32 := ⟨fun w => ⟨_, Tryd.typeInfo79 w, by rfl⟩⟩
instance : TZero Tryd.prog 79 (Go.Value.agg #[(Go.Value.int Go.IntKind.i64 0), (Go.Value.int Go.IntKind.u32 0), (Go.Value.string { data := #[] })]) := ⟨Tryd.zeroValue79⟩
instance : TPlaces Tryd.prog 79 [(0, 2), (2, 1)] := ⟨fun w => ⟨_, Tryd.runUnderlying79 w, by simp [Tryd.sizeOf78, Tryd.sizeOf9]⟩⟩
instance : TField Tryd.prog 79 0 0 := ⟨fun b o w => fieldAt_of (f := { name := "Id", type := 78, offset := 0, embedded := false, tag := "", pkgPath := "", byteOffset := 0 }) (Tryd.runUnderlying79 w) rfl (Tryd.sizeOf78 w) (by decide) b o⟩
instance : TField Tryd.prog 79 1 2 := ⟨fun b o w => fieldAt_of (f := { name := "Data", type := 9, offset := 2, embedded := false, tag := "", pkgPath := "", byteOffset := 16 }) (Tryd.runUnderlying79 w) rfl (Tryd.sizeOf9 w) (by decide) b o⟩
instance : TUnder Tryd.prog 80 (Go.TypeDesc.struct #[{ name := "Id", type := 78, offset := 0, embedded := false, tag := "", pkgPath := "", byteOffset := 0 }, { name := "Data", type := 9, offset := 2, embedded := false, tag := "", pkgPath := "", byteOffset := 16 }]) := ⟨Tryd.runUnderlying80⟩
instance : TAgg Tryd.prog 80 3 := ⟨Tryd.isAgg80, Tryd.sizeOf80⟩
instance : TSize Tryd.prog 80 3 := ⟨Tryd.sizeOf80⟩
instance : TBytes Tryd.prog 80 32 := ⟨fun w => ⟨_, Tryd.typeInfo80 w, by rfl⟩⟩
instance : TZero Tryd.prog 80 (Go.Value.agg #[(Go.Value.int Go.IntKind.i64 0), (Go.Value.int Go.IntKind.u32 0), (Go.Value.string { data := #[] })]) := ⟨Tryd.zeroValue80⟩
instance : TPlaces Tryd.prog 80 [(0, 2), (2, 1)] := ⟨fun w => ⟨_, Tryd.runUnderlying80 w, by simp [Tryd.sizeOf78, Tryd.sizeOf9]⟩⟩
instance : TField Tryd.prog 80 0 0 := ⟨fun b o w => fieldAt_of (f := { name := "Id", type := 78, offset := 0, embedded := false, tag := "", pkgPath := "", byteOffset := 0 }) (Tryd.runUnderlying80 w) rfl (Tryd.sizeOf78 w) (by decide) b o⟩
instance : TField Tryd.prog 80 1 2 := ⟨fun b o w => fieldAt_of (f := { name := "Data", type := 9, offset := 2, embedded := false, tag := "", pkgPath := "", byteOffset := 16 }) (Tryd.runUnderlying80 w) rfl (Tryd.sizeOf9 w) (by decide) b o⟩
instance : TPlain Tryd.prog 81 := ⟨Tryd.isAgg81, Tryd.sizeOf81⟩
instance : TSize Tryd.prog 81 1 := ⟨Tryd.sizeOf81⟩
instance : TBytes Tryd.prog 81 8 := ⟨fun w => ⟨_, Tryd.typeInfo81 w, by rfl⟩⟩
instance : TZero Tryd.prog 81 Go.Value.nilFunc := ⟨Tryd.zeroValue81⟩
instance : TUnder Tryd.prog 82 (Go.TypeDesc.pointer 109) := ⟨Tryd.runUnderlying82⟩
instance : TPlain Tryd.prog 82 := ⟨Tryd.isAgg82, Tryd.sizeOf82⟩
instance : TSize Tryd.prog 82 1 := ⟨Tryd.sizeOf82⟩
instance : TBytes Tryd.prog 82 8 := ⟨fun w => ⟨_, Tryd.typeInfo82 w, by rfl⟩⟩
instance : TZero Tryd.prog 82 (Go.Value.pointer none) := ⟨Tryd.zeroValue82⟩
instance : TPlain Tryd.prog 84 := ⟨Tryd.isAgg84, Tryd.sizeOf84⟩
instance : TSize Tryd.prog 84 1 := ⟨Tryd.sizeOf84⟩
instance : TBytes Tryd.prog 84 8 := ⟨fun w => ⟨_, Tryd.typeInfo84 w, by rfl⟩⟩
instance : TZero Tryd.prog 84 Go.Value.nilFunc := ⟨Tryd.zeroValue84⟩
instance : TUnder Tryd.prog 85 (Go.TypeDesc.struct #[{ name := "Fold", type := 82, offset := 0, embedded := true, tag := "", pkgPath := "", byteOffset := 0 }, { name := "state", type := 24, offset := 1, embedded := false, tag := "", pkgPath := "rostrum/migrate", byteOffset := 8 }, { name := "held", type := 44, offset := 4, embedded := false, tag := "", pkgPath := "rostrum/migrate", byteOffset := 40 }, { name := "log", type := 44, offset := 5, embedded := false, tag := "", pkgPath := "rostrum/migrate", byteOffset := 64 }, { name := "isBlocked", type := 4, offset := 6, embedded := false, tag := "", pkgPath := "rostrum/migrate", byteOffset := 88 }]) := ⟨Tryd.runUnderlying85⟩
instance : TAgg Tryd.prog 85 7 := ⟨Tryd.isAgg85, Tryd.sizeOf85⟩
instance : TSize Tryd.prog 85 7 := ⟨Tryd.sizeOf85⟩
instance : TBytes Tryd.prog 85 96 := ⟨fun w => ⟨_, Tryd.typeInfo85 w, by rfl⟩⟩
instance : TZero Tryd.prog 85 (Go.Value.agg #[(Go.Value.pointer none), (Go.Value.int Go.IntKind.i64 0), (Go.Value.int Go.IntKind.u32 0), (Go.Value.string { data := #[] }), (Go.Value.slice none 0 0), (Go.Value.slice none 0 0), (Go.Value.bool false)]) := ⟨Tryd.zeroValue85⟩
instance : TPlaces Tryd.prog 85 [(0, 1), (1, 3), (4, 1), (5, 1), (6, 1)] := ⟨fun w => ⟨_, Tryd.runUnderlying85 w, by simp [Tryd.sizeOf24, Tryd.sizeOf4, Tryd.sizeOf44, Tryd.sizeOf82]⟩⟩
instance : TField Tryd.prog 85 0 0 := ⟨fun b o w => fieldAt_of (f := { name := "Fold", type := 82, offset := 0, embedded := true, tag := "", pkgPath := "", byteOffset := 0 }) (Tryd.runUnderlying85 w) rfl (Tryd.sizeOf82 w) (by decide) b o⟩
instance : TField Tryd.prog 85 1 1 := ⟨fun b o w => fieldAt_of (f := { name := "state", type := 24, offset := 1, embedded := false, tag := "", pkgPath := "rostrum/migrate", byteOffset := 8 }) (Tryd.runUnderlying85 w) rfl (Tryd.sizeOf24 w) (by decide) b o⟩
instance : TField Tryd.prog 85 2 4 := ⟨fun b o w => fieldAt_of (f := { name := "held", type := 44, offset := 4, embedded := false, tag := "", pkgPath := "rostrum/migrate", byteOffset := 40 }) (Tryd.runUnderlying85 w) rfl (Tryd.sizeOf44 w) (by decide) b o⟩
instance : TField Tryd.prog 85 3 5 := ⟨fun b o w => fieldAt_of (f := { name := "log", type := 44, offset := 5, embedded := false, tag := "", pkgPath := "rostrum/migrate", byteOffset := 64 }) (Tryd.runUnderlying85 w) rfl (Tryd.sizeOf44 w) (by decide) b o⟩
instance : TField Tryd.prog 85 4 6 := ⟨fun b o w => fieldAt_of (f := { name := "isBlocked", type := 4, offset := 6, embedded := false, tag := "", pkgPath := "rostrum/migrate", byteOffset := 88 }) (Tryd.runUnderlying85 w) rfl (Tryd.sizeOf4 w) (by decide) b o⟩
instance : TUnder Tryd.prog 86 (Go.TypeDesc.struct #[{ name := "Fold", type := 82, offset := 0, embedded := true, tag := "", pkgPath := "", byteOffset := 0 }, { name := "state", type := 24, offset := 1, embedded := false, tag := "", pkgPath := "rostrum/migrate", byteOffset := 8 }, { name := "held", type := 44, offset := 4, embedded := false, tag := "", pkgPath := "rostrum/migrate", byteOffset := 40 }, { name := "log", type := 44, offset := 5, embedded := false, tag := "", pkgPath := "rostrum/migrate", byteOffset := 64 }, { name := "isBlocked", type := 4, offset := 6, embedded := false, tag := "", pkgPath := "rostrum/migrate", byteOffset := 88 }]) := ⟨Tryd.runUnderlying86⟩
instance : TAgg Tryd.prog 86 7 := ⟨Tryd.isAgg86, Tryd.sizeOf86⟩
instance : TSize Tryd.prog 86 7 := ⟨Tryd.sizeOf86⟩
instance : TBytes Tryd.prog 86 96 := ⟨fun w => ⟨_, Tryd.typeInfo86 w, by rfl⟩⟩
instance : TZero Tryd.prog 86 (Go.Value.agg #[(Go.Value.pointer none), (Go.Value.int Go.IntKind.i64 0), (Go.Value.int Go.IntKind.u32 0), (Go.Value.string { data := #[] }), (Go.Value.slice none 0 0), (Go.Value.slice none 0 0), (Go.Value.bool false)]) := ⟨Tryd.zeroValue86⟩
instance : TPlaces Tryd.prog 86 [(0, 1), (1, 3), (4, 1), (5, 1), (6, 1)] := ⟨fun w => ⟨_, Tryd.runUnderlying86 w, by simp [Tryd.sizeOf24, Tryd.sizeOf4, Tryd.sizeOf44, Tryd.sizeOf82]⟩⟩
instance : TField Tryd.prog 86 0 0 := ⟨fun b o w => fieldAt_of (f := { name := "Fold", type := 82, offset := 0, embedded := true, tag := "", pkgPath := "", byteOffset := 0 }) (Tryd.runUnderlying86 w) rfl (Tryd.sizeOf82 w) (by decide) b o⟩
instance : TField Tryd.prog 86 1 1 := ⟨fun b o w => fieldAt_of (f := { name := "state", type := 24, offset := 1, embedded := false, tag := "", pkgPath := "rostrum/migrate", byteOffset := 8 }) (Tryd.runUnderlying86 w) rfl (Tryd.sizeOf24 w) (by decide) b o⟩
instance : TField Tryd.prog 86 2 4 := ⟨fun b o w => fieldAt_of (f := { name := "held", type := 44, offset := 4, embedded := false, tag := "", pkgPath := "rostrum/migrate", byteOffset := 40 }) (Tryd.runUnderlying86 w) rfl (Tryd.sizeOf44 w) (by decide) b o⟩
instance : TField Tryd.prog 86 3 5 := ⟨fun b o w => fieldAt_of (f := { name := "log", type := 44, offset := 5, embedded := false, tag := "", pkgPath := "rostrum/migrate", byteOffset := 64 }) (Tryd.runUnderlying86 w) rfl (Tryd.sizeOf44 w) (by decide) b o⟩
instance : TField Tryd.prog 86 4 6 := ⟨fun b o w => fieldAt_of (f := { name := "isBlocked", type := 4, offset := 6, embedded := false, tag := "", pkgPath := "rostrum/migrate", byteOffset := 88 }) (Tryd.runUnderlying86 w) rfl (Tryd.sizeOf4 w) (by decide) b o⟩
instance : TPlain Tryd.prog 88 := ⟨Tryd.isAgg88, Tryd.sizeOf88⟩
instance : TSize Tryd.prog 88 1 := ⟨Tryd.sizeOf88⟩
instance : TBytes Tryd.prog 88 8 := ⟨fun w => ⟨_, Tryd.typeInfo88 w, by rfl⟩⟩
instance : TZero Tryd.prog 88 Go.Value.nilFunc := ⟨Tryd.zeroValue88⟩
instance : TPlain Tryd.prog 89 := ⟨Tryd.isAgg89, Tryd.sizeOf89⟩
instance : TSize Tryd.prog 89 1 := ⟨Tryd.sizeOf89⟩
instance : TBytes Tryd.prog 89 8 := ⟨fun w => ⟨_, Tryd.typeInfo89 w, by rfl⟩⟩
instance : TZero Tryd.prog 89 Go.Value.nilFunc := ⟨Tryd.zeroValue89⟩
instance : TPlain Tryd.prog 90 := ⟨Tryd.isAgg90, Tryd.sizeOf90⟩
instance : TSize Tryd.prog 90 1 := ⟨Tryd.sizeOf90⟩
instance : TBytes Tryd.prog 90 8 := ⟨fun w => ⟨_, Tryd.typeInfo90 w, by rfl⟩⟩
instance : TZero Tryd.prog 90 Go.Value.nilFunc := ⟨Tryd.zeroValue90⟩
instance : TPlain Tryd.prog 91 := ⟨Tryd.isAgg91, Tryd.sizeOf91⟩
instance : TSize Tryd.prog 91 1 := ⟨Tryd.sizeOf91⟩
instance : TBytes Tryd.prog 91 8 := ⟨fun w => ⟨_, Tryd.typeInfo91 w, by rfl⟩⟩
instance : TZero Tryd.prog 91 Go.Value.nilFunc := ⟨Tryd.zeroValue91⟩
instance : TPlain Tryd.prog 92 := ⟨Tryd.isAgg92, Tryd.sizeOf92⟩
instance : TSize Tryd.prog 92 1 := ⟨Tryd.sizeOf92⟩
instance : TBytes Tryd.prog 92 8 := ⟨fun w => ⟨_, Tryd.typeInfo92 w, by rfl⟩⟩
instance : TZero Tryd.prog 92 Go.Value.nilFunc := ⟨Tryd.zeroValue92⟩
instance : TPlain Tryd.prog 93 := ⟨Tryd.isAgg93, Tryd.sizeOf93⟩
instance : TSize Tryd.prog 93 1 := ⟨Tryd.sizeOf93⟩
instance : TBytes Tryd.prog 93 8 := ⟨fun w => ⟨_, Tryd.typeInfo93 w, by rfl⟩⟩
instance : TZero Tryd.prog 93 Go.Value.nilFunc := ⟨Tryd.zeroValue93⟩
instance : TPlain Tryd.prog 94 := ⟨Tryd.isAgg94, Tryd.sizeOf94⟩
instance : TSize Tryd.prog 94 1 := ⟨Tryd.sizeOf94⟩
instance : TBytes Tryd.prog 94 8 := ⟨fun w => ⟨_, Tryd.typeInfo94 w, by rfl⟩⟩
instance : TZero Tryd.prog 94 Go.Value.nilFunc := ⟨Tryd.zeroValue94⟩
instance : TUnder Tryd.prog 95 (Go.TypeDesc.slice 55) := ⟨Tryd.runUnderlying95⟩
instance : TPlain Tryd.prog 95 := ⟨Tryd.isAgg95, Tryd.sizeOf95⟩
instance : TSize Tryd.prog 95 1 := ⟨Tryd.sizeOf95⟩
instance : TBytes Tryd.prog 95 24 := ⟨fun w => ⟨_, Tryd.typeInfo95 w, by rfl⟩⟩
instance : TZero Tryd.prog 95 (Go.Value.slice none 0 0) := ⟨Tryd.zeroValue95⟩
instance : TPlain Tryd.prog 96 := ⟨Tryd.isAgg96, Tryd.sizeOf96⟩
instance : TSize Tryd.prog 96 1 := ⟨Tryd.sizeOf96⟩
instance : TBytes Tryd.prog 96 8 := ⟨fun w => ⟨_, Tryd.typeInfo96 w, by rfl⟩⟩
instance : TZero Tryd.prog 96 Go.Value.nilFunc := ⟨Tryd.zeroValue96⟩
instance : TPlain Tryd.prog 97 := ⟨Tryd.isAgg97, Tryd.sizeOf97⟩
instance : TSize Tryd.prog 97 1 := ⟨Tryd.sizeOf97⟩
instance : TBytes Tryd.prog 97 8 := ⟨fun w => ⟨_, Tryd.typeInfo97 w, by rfl⟩⟩
instance : TZero Tryd.prog 97 Go.Value.nilFunc := ⟨Tryd.zeroValue97⟩
instance : TPlain Tryd.prog 98 := ⟨Tryd.isAgg98, Tryd.sizeOf98⟩
instance : TSize Tryd.prog 98 1 := ⟨Tryd.sizeOf98⟩
instance : TBytes Tryd.prog 98 8 := ⟨fun w => ⟨_, Tryd.typeInfo98 w, by rfl⟩⟩
instance : TZero Tryd.prog 98 Go.Value.nilFunc := ⟨Tryd.zeroValue98⟩
instance : TPlain Tryd.prog 100 := ⟨Tryd.isAgg100, Tryd.sizeOf100⟩
instance : TSize Tryd.prog 100 1 := ⟨Tryd.sizeOf100⟩
instance : TBytes Tryd.prog 100 8 := ⟨fun w => ⟨_, Tryd.typeInfo100 w, by rfl⟩⟩
instance : TZero Tryd.prog 100 Go.Value.nilFunc := ⟨Tryd.zeroValue100⟩
instance : TPlain Tryd.prog 101 := ⟨Tryd.isAgg101, Tryd.sizeOf101⟩
instance : TSize Tryd.prog 101 1 := ⟨Tryd.sizeOf101⟩
instance : TBytes Tryd.prog 101 8 := ⟨fun w => ⟨_, Tryd.typeInfo101 w, by rfl⟩⟩
instance : TZero Tryd.prog 101 Go.Value.nilFunc := ⟨Tryd.zeroValue101⟩
instance : TPlain Tryd.prog 102 := ⟨Tryd.isAgg102, Tryd.sizeOf102⟩
instance : TSize Tryd.prog 102 1 := ⟨Tryd.sizeOf102⟩
instance : TBytes Tryd.prog 102 16 := ⟨fun w => ⟨_, Tryd.typeInfo102 w, by rfl⟩⟩
instance : TZero Tryd.prog 102 Go.Value.nilIface := ⟨Tryd.zeroValue102⟩
instance : TPlain Tryd.prog 103 := ⟨Tryd.isAgg103, Tryd.sizeOf103⟩
instance : TSize Tryd.prog 103 1 := ⟨Tryd.sizeOf103⟩
instance : TBytes Tryd.prog 103 16 := ⟨fun w => ⟨_, Tryd.typeInfo103 w, by rfl⟩⟩
instance : TZero Tryd.prog 103 Go.Value.nilIface := ⟨Tryd.zeroValue103⟩
instance : TPlain Tryd.prog 104 := ⟨Tryd.isAgg104, Tryd.sizeOf104⟩
instance : TSize Tryd.prog 104 1 := ⟨Tryd.sizeOf104⟩
instance : TBytes Tryd.prog 104 8 := ⟨fun w => ⟨_, Tryd.typeInfo104 w, by rfl⟩⟩
instance : TZero Tryd.prog 104 Go.Value.nilFunc := ⟨Tryd.zeroValue104⟩
instance : TPlain Tryd.prog 105 := ⟨Tryd.isAgg105, Tryd.sizeOf105⟩
instance : TSize Tryd.prog 105 1 := ⟨Tryd.sizeOf105⟩
instance : TBytes Tryd.prog 105 8 := ⟨fun w => ⟨_, Tryd.typeInfo105 w, by rfl⟩⟩
instance : TZero Tryd.prog 105 Go.Value.nilFunc := ⟨Tryd.zeroValue105⟩
instance : TUnder Tryd.prog 106 (Go.TypeDesc.pointer 131) := ⟨Tryd.runUnderlying106⟩
instance : TPlain Tryd.prog 106 := ⟨Tryd.isAgg106, Tryd.sizeOf106⟩
instance : TSize Tryd.prog 106 1 := ⟨Tryd.sizeOf106⟩
instance : TBytes Tryd.prog 106 8 := ⟨fun w => ⟨_, Tryd.typeInfo106 w, by rfl⟩⟩
instance : TZero Tryd.prog 106 (Go.Value.pointer none) := ⟨Tryd.zeroValue106⟩
instance : TPlain Tryd.prog 107 := ⟨Tryd.isAgg107, Tryd.sizeOf107⟩
instance : TSize Tryd.prog 107 1 := ⟨Tryd.sizeOf107⟩
instance : TBytes Tryd.prog 107 8 := ⟨fun w => ⟨_, Tryd.typeInfo107 w, by rfl⟩⟩
instance : TZero Tryd.prog 107 Go.Value.nilFunc := ⟨Tryd.zeroValue107⟩
instance : TUnder Tryd.prog 108 (Go.TypeDesc.struct #[{ name := "Book", type := 106, offset := 0, embedded := true, tag := "", pkgPath := "", byteOffset := 0 }, { name := "eras", type := 95, offset := 1, embedded := false, tag := "", pkgPath := "rostrum/epoch", byteOffset := 8 }, { name := "count", type := 3, offset := 2, embedded := false, tag := "", pkgPath := "rostrum/epoch", byteOffset := 32 }, { name := "back", type := 3, offset := 3, embedded := false, tag := "", pkgPath := "rostrum/epoch", byteOffset := 40 }]) := ⟨Tryd.runUnderlying108⟩
instance : TAgg Tryd.prog 108 4 := ⟨Tryd.isAgg108, Tryd.sizeOf108⟩
instance : TSize Tryd.prog 108 4 := ⟨Tryd.sizeOf108⟩
instance : TBytes Tryd.prog 108 48 := ⟨fun w => ⟨_, Tryd.typeInfo108 w, by rfl⟩⟩
instance : TZero Tryd.prog 108 (Go.Value.agg #[(Go.Value.pointer none), (Go.Value.slice none 0 0), (Go.Value.int Go.IntKind.i64 0), (Go.Value.int Go.IntKind.i64 0)]) := ⟨Tryd.zeroValue108⟩
instance : TPlaces Tryd.prog 108 [(0, 1), (1, 1), (2, 1), (3, 1)] := ⟨fun w => ⟨_, Tryd.runUnderlying108 w, by simp [Tryd.sizeOf106, Tryd.sizeOf3, Tryd.sizeOf95]⟩⟩
instance : TField Tryd.prog 108 0 0 := ⟨fun b o w => fieldAt_of (f := { name := "Book", type := 106, offset := 0, embedded := true, tag := "", pkgPath := "", byteOffset := 0 }) (Tryd.runUnderlying108 w) rfl (Tryd.sizeOf106 w) (by decide) b o⟩
instance : TField Tryd.prog 108 1 1 := ⟨fun b o w => fieldAt_of (f := { name := "eras", type := 95, offset := 1, embedded := false, tag := "", pkgPath := "rostrum/epoch", byteOffset := 8 }) (Tryd.runUnderlying108 w) rfl (Tryd.sizeOf95 w) (by decide) b o⟩
instance : TField Tryd.prog 108 2 2 := ⟨fun b o w => fieldAt_of (f := { name := "count", type := 3, offset := 2, embedded := false, tag := "", pkgPath := "rostrum/epoch", byteOffset := 32 }) (Tryd.runUnderlying108 w) rfl (Tryd.sizeOf3 w) (by decide) b o⟩
instance : TField Tryd.prog 108 3 3 := ⟨fun b o w => fieldAt_of (f := { name := "back", type := 3, offset := 3, embedded := false, tag := "", pkgPath := "rostrum/epoch", byteOffset := 40 }) (Tryd.runUnderlying108 w) rfl (Tryd.sizeOf3 w) (by decide) b o⟩
instance : TUnder Tryd.prog 109 (Go.TypeDesc.struct #[{ name := "Book", type := 106, offset := 0, embedded := true, tag := "", pkgPath := "", byteOffset := 0 }, { name := "eras", type := 95, offset := 1, embedded := false, tag := "", pkgPath := "rostrum/epoch", byteOffset := 8 }, { name := "count", type := 3, offset := 2, embedded := false, tag := "", pkgPath := "rostrum/epoch", byteOffset := 32 }, { name := "back", type := 3, offset := 3, embedded := false, tag := "", pkgPath := "rostrum/epoch", byteOffset := 40 }]) := ⟨Tryd.runUnderlying109⟩
instance : TAgg Tryd.prog 109 4 := ⟨Tryd.isAgg109, Tryd.sizeOf109⟩
instance : TSize Tryd.prog 109 4 := ⟨Tryd.sizeOf109⟩
instance : TBytes Tryd.prog 109 48 := ⟨fun w => ⟨_, Tryd.typeInfo109 w, by rfl⟩⟩
instance : TZero Tryd.prog 109 (Go.Value.agg #[(Go.Value.pointer none), (Go.Value.slice none 0 0), (Go.Value.int Go.IntKind.i64 0), (Go.Value.int Go.IntKind.i64 0)]) := ⟨Tryd.zeroValue109⟩
instance : TPlaces Tryd.prog 109 [(0, 1), (1, 1), (2, 1), (3, 1)] := ⟨fun w => ⟨_, Tryd.runUnderlying109 w, by simp [Tryd.sizeOf106, Tryd.sizeOf3, Tryd.sizeOf95]⟩⟩
instance : TField Tryd.prog 109 0 0 := ⟨fun b o w => fieldAt_of (f := { name := "Book", type := 106, offset := 0, embedded := true, tag := "", pkgPath := "", byteOffset := 0 }) (Tryd.runUnderlying109 w) rfl (Tryd.sizeOf106 w) (by decide) b o⟩
instance : TField Tryd.prog 109 1 1 := ⟨fun b o w => fieldAt_of (f := { name := "eras", type := 95, offset := 1, embedded := false, tag := "", pkgPath := "rostrum/epoch", byteOffset := 8 }) (Tryd.runUnderlying109 w) rfl (Tryd.sizeOf95 w) (by decide) b o⟩
instance : TField Tryd.prog 109 2 2 := ⟨fun b o w => fieldAt_of (f := { name := "count", type := 3, offset := 2, embedded := false, tag := "", pkgPath := "rostrum/epoch", byteOffset := 32 }) (Tryd.runUnderlying109 w) rfl (Tryd.sizeOf3 w) (by decide) b o⟩
instance : TField Tryd.prog 109 3 3 := ⟨fun b o w => fieldAt_of (f := { name := "back", type := 3, offset := 3, embedded := false, tag := "", pkgPath := "rostrum/epoch", byteOffset := 40 }) (Tryd.runUnderlying109 w) rfl (Tryd.sizeOf3 w) (by decide) b o⟩
instance : TPlain Tryd.prog 110 := ⟨Tryd.isAgg110, Tryd.sizeOf110⟩
instance : TSize Tryd.prog 110 1 := ⟨Tryd.sizeOf110⟩
instance : TBytes Tryd.prog 110 8 := ⟨fun w => ⟨_, Tryd.typeInfo110 w, by rfl⟩⟩
instance : TZero Tryd.prog 110 Go.Value.nilFunc := ⟨Tryd.zeroValue110⟩
instance : TUnder Tryd.prog 111 (Go.TypeDesc.map 3 110) := ⟨Tryd.runUnderlying111⟩
instance : TPlain Tryd.prog 111 := ⟨Tryd.isAgg111, Tryd.sizeOf111⟩
instance : TSize Tryd.prog 111 1 := ⟨Tryd.sizeOf111⟩
instance : TBytes Tryd.prog 111 8 := ⟨fun w => ⟨_, Tryd.typeInfo111 w, by rfl⟩⟩
instance : TZero Tryd.prog 111 (Go.Value.map none) := ⟨Tryd.zeroValue111⟩
instance : TPlain Tryd.prog 113 := ⟨Tryd.isAgg113, Tryd.sizeOf113⟩
instance : TSize Tryd.prog 113 1 := ⟨Tryd.sizeOf113⟩
instance : TBytes Tryd.prog 113 8 := ⟨fun w => ⟨_, Tryd.typeInfo113 w, by rfl⟩⟩
instance : TZero Tryd.prog 113 Go.Value.nilFunc := ⟨Tryd.zeroValue113⟩
instance : TUnder Tryd.prog 114 (Go.TypeDesc.slice 9) := ⟨Tryd.runUnderlying114⟩
instance : TPlain Tryd.prog 114 := ⟨Tryd.isAgg114, Tryd.sizeOf114⟩
instance : TSize Tryd.prog 114 1 := ⟨Tryd.sizeOf114⟩
instance : TBytes Tryd.prog 114 24 := ⟨fun w => ⟨_, Tryd.typeInfo114 w, by rfl⟩⟩
instance : TZero Tryd.prog 114 (Go.Value.slice none 0 0) := ⟨Tryd.zeroValue114⟩
instance : TPlain Tryd.prog 115 := ⟨Tryd.isAgg115, Tryd.sizeOf115⟩
instance : TSize Tryd.prog 115 1 := ⟨Tryd.sizeOf115⟩
instance : TBytes Tryd.prog 115 8 := ⟨fun w => ⟨_, Tryd.typeInfo115 w, by rfl⟩⟩
instance : TZero Tryd.prog 115 Go.Value.nilFunc := ⟨Tryd.zeroValue115⟩
instance : TUnder Tryd.prog 116 (Go.TypeDesc.struct #[{ name := "Type", type := 17, offset := 0, embedded := true, tag := "", pkgPath := "", byteOffset := 0 }]) := ⟨Tryd.runUnderlying116⟩
instance : TAgg Tryd.prog 116 1 := ⟨Tryd.isAgg116, Tryd.sizeOf116⟩
instance : TSize Tryd.prog 116 1 := ⟨Tryd.sizeOf116⟩
instance : TBytes Tryd.prog 116 8 := ⟨fun w => ⟨_, Tryd.typeInfo116 w, by rfl⟩⟩
instance : TZero Tryd.prog 116 (Go.Value.agg #[(Go.Value.pointer none)]) := ⟨Tryd.zeroValue116⟩
instance : TPlaces Tryd.prog 116 [(0, 1)] := ⟨fun w => ⟨_, Tryd.runUnderlying116 w, by simp [Tryd.sizeOf17]⟩⟩
instance : TField Tryd.prog 116 0 0 := ⟨fun b o w => fieldAt_of (f := { name := "Type", type := 17, offset := 0, embedded := true, tag := "", pkgPath := "", byteOffset := 0 }) (Tryd.runUnderlying116 w) rfl (Tryd.sizeOf17 w) (by decide) b o⟩
instance : TUnder Tryd.prog 117 (Go.TypeDesc.struct #[{ name := "Type", type := 17, offset := 0, embedded := true, tag := "", pkgPath := "", byteOffset := 0 }]) := ⟨Tryd.runUnderlying117⟩
instance : TAgg Tryd.prog 117 1 := ⟨Tryd.isAgg117, Tryd.sizeOf117⟩
instance : TSize Tryd.prog 117 1 := ⟨Tryd.sizeOf117⟩
instance : TBytes Tryd.prog 117 8 := ⟨fun w => ⟨_, Tryd.typeInfo117 w, by rfl⟩⟩
instance : TZero Tryd.prog 117 (Go.Value.agg #[(Go.Value.pointer none)]) := ⟨Tryd.zeroValue117⟩
instance : TPlaces Tryd.prog 117 [(0, 1)] := ⟨fun w => ⟨_, Tryd.runUnderlying117 w, by simp [Tryd.sizeOf17]⟩⟩
instance : TField Tryd.prog 117 0 0 := ⟨fun b o w => fieldAt_of (f := { name := "Type", type := 17, offset := 0, embedded := true, tag := "", pkgPath := "", byteOffset := 0 }) (Tryd.runUnderlying117 w) rfl (Tryd.sizeOf17 w) (by decide) b o⟩
instance : TUnder Tryd.prog 118 (Go.TypeDesc.pointer 181) := ⟨Tryd.runUnderlying118⟩
instance : TPlain Tryd.prog 118 := ⟨Tryd.isAgg118, Tryd.sizeOf118⟩
instance : TSize Tryd.prog 118 1 := ⟨Tryd.sizeOf118⟩
instance : TBytes Tryd.prog 118 8 := ⟨fun w => ⟨_, Tryd.typeInfo118 w, by rfl⟩⟩
instance : TZero Tryd.prog 118 (Go.Value.pointer none) := ⟨Tryd.zeroValue118⟩
instance : TPlain Tryd.prog 119 := ⟨Tryd.isAgg119, Tryd.sizeOf119⟩
instance : TSize Tryd.prog 119 1 := ⟨Tryd.sizeOf119⟩
instance : TBytes Tryd.prog 119 16 := ⟨fun w => ⟨_, Tryd.typeInfo119 w, by rfl⟩⟩
instance : TZero Tryd.prog 119 Go.Value.nilIface := ⟨Tryd.zeroValue119⟩
instance : TPlain Tryd.prog 121 := ⟨Tryd.isAgg121, Tryd.sizeOf121⟩
instance : TSize Tryd.prog 121 1 := ⟨Tryd.sizeOf121⟩
instance : TBytes Tryd.prog 121 8 := ⟨fun w => ⟨_, Tryd.typeInfo121 w, by rfl⟩⟩
instance : TZero Tryd.prog 121 Go.Value.nilFunc := ⟨Tryd.zeroValue121⟩
instance : TPlain Tryd.prog 122 := ⟨Tryd.isAgg122, Tryd.sizeOf122⟩
instance : TSize Tryd.prog 122 1 := ⟨Tryd.sizeOf122⟩
instance : TBytes Tryd.prog 122 16 := ⟨fun w => ⟨_, Tryd.typeInfo122 w, by rfl⟩⟩
instance : TZero Tryd.prog 122 Go.Value.nilIface := ⟨Tryd.zeroValue122⟩
instance : TPlain Tryd.prog 123 := ⟨Tryd.isAgg123, Tryd.sizeOf123⟩
instance : TSize Tryd.prog 123 1 := ⟨Tryd.sizeOf123⟩
instance : TBytes Tryd.prog 123 8 := ⟨fun w => ⟨_, Tryd.typeInfo123 w, by rfl⟩⟩
instance : TZero Tryd.prog 123 Go.Value.nilFunc := ⟨Tryd.zeroValue123⟩
instance : TPlain Tryd.prog 124 := ⟨Tryd.isAgg124, Tryd.sizeOf124⟩
instance : TSize Tryd.prog 124 1 := ⟨Tryd.sizeOf124⟩
instance : TBytes Tryd.prog 124 16 := ⟨fun w => ⟨_, Tryd.typeInfo124 w, by rfl⟩⟩
instance : TZero Tryd.prog 124 Go.Value.nilIface := ⟨Tryd.zeroValue124⟩
instance : TUnder Tryd.prog 125 (Go.TypeDesc.slice 66) := ⟨Tryd.runUnderlying125⟩
instance : TPlain Tryd.prog 125 := ⟨Tryd.isAgg125, Tryd.sizeOf125⟩
instance : TSize Tryd.prog 125 1 := ⟨Tryd.sizeOf125⟩
instance : TBytes Tryd.prog 125 24 := ⟨fun w => ⟨_, Tryd.typeInfo125 w, by rfl⟩⟩
instance : TZero Tryd.prog 125 (Go.Value.slice none 0 0) := ⟨Tryd.zeroValue125⟩
instance : TPlain Tryd.prog 126 := ⟨Tryd.isAgg126, Tryd.sizeOf126⟩
instance : TSize Tryd.prog 126 1 := ⟨Tryd.sizeOf126⟩
instance : TBytes Tryd.prog 126 8 := ⟨fun w => ⟨_, Tryd.typeInfo126 w, by rfl⟩⟩
instance : TZero Tryd.prog 126 Go.Value.nilFunc := ⟨Tryd.zeroValue126⟩
instance : TUnder Tryd.prog 127 (Go.TypeDesc.int Go.IntKind.u64) := ⟨Tryd.runUnderlying127⟩
instance : TPlain Tryd.prog 127 := ⟨Tryd.isAgg127, Tryd.sizeOf127⟩
instance : TSize Tryd.prog 127 1 := ⟨Tryd.sizeOf127⟩
instance : TBytes Tryd.prog 127 8 := ⟨fun w => ⟨_, Tryd.typeInfo127 w, by rfl⟩⟩
instance : TZero Tryd.prog 127 (Go.Value.int Go.IntKind.u64 0) := ⟨Tryd.zeroValue127⟩
instance : TUnder Tryd.prog 128 (Go.TypeDesc.map 78 80) := ⟨Tryd.runUnderlying128⟩
instance : TPlain Tryd.prog 128 := ⟨Tryd.isAgg128, Tryd.sizeOf128⟩
instance : TSize Tryd.prog 128 1 := ⟨Tryd.sizeOf128⟩
instance : TBytes Tryd.prog 128 8 := ⟨fun w => ⟨_, Tryd.typeInfo128 w, by rfl⟩⟩
instance : TZero Tryd.prog 128 (Go.Value.map none) := ⟨Tryd.zeroValue128⟩
instance : TUnder Tryd.prog 129 (Go.TypeDesc.map 3 22) := ⟨Tryd.runUnderlying129⟩
instance : TPlain Tryd.prog 129 := ⟨Tryd.isAgg129, Tryd.sizeOf129⟩
instance : TSize Tryd.prog 129 1 := ⟨Tryd.sizeOf129⟩
instance : TBytes Tryd.prog 129 8 := ⟨fun w => ⟨_, Tryd.typeInfo129 w, by rfl⟩⟩
instance : TZero Tryd.prog 129 (Go.Value.map none) := ⟨Tryd.zeroValue129⟩
instance : TUnder Tryd.prog 130 (Go.TypeDesc.struct #[{ name := "log", type := 44, offset := 0, embedded := false, tag := "", pkgPath := "rostrum/ids", byteOffset := 0 }, { name := "waits", type := 128, offset := 1, embedded := false, tag := "", pkgPath := "rostrum/ids", byteOffset := 24 }, { name := "next", type := 129, offset := 2, embedded := false, tag := "", pkgPath := "rostrum/ids", byteOffset := 32 }]) := ⟨Tryd.runUnderlying130⟩
instance : TAgg Tryd.prog 130 3 := ⟨Tryd.isAgg130, Tryd.sizeOf130⟩
instance : TSize Tryd.prog 130 3 := ⟨Tryd.sizeOf130⟩
instance : TBytes Tryd.prog 130 40 := ⟨fun w => ⟨_, Tryd.typeInfo130 w, by rfl⟩⟩
instance : TZero Tryd.prog 130 (Go.Value.agg #[(Go.Value.slice none 0 0), (Go.Value.map none), (Go.Value.map none)]) := ⟨Tryd.zeroValue130⟩
instance : TPlaces Tryd.prog 130 [(0, 1), (1, 1), (2, 1)] := ⟨fun w => ⟨_, Tryd.runUnderlying130 w, by simp [Tryd.sizeOf128, Tryd.sizeOf129, Tryd.sizeOf44]⟩⟩
instance : TField Tryd.prog 130 0 0 := ⟨fun b o w => fieldAt_of (f := { name := "log", type := 44, offset := 0, embedded := false, tag := "", pkgPath := "rostrum/ids", byteOffset := 0 }) (Tryd.runUnderlying130 w) rfl (Tryd.sizeOf44 w) (by decide) b o⟩
instance : TField Tryd.prog 130 1 1 := ⟨fun b o w => fieldAt_of (f := { name := "waits", type := 128, offset := 1, embedded := false, tag := "", pkgPath := "rostrum/ids", byteOffset := 24 }) (Tryd.runUnderlying130 w) rfl (Tryd.sizeOf128 w) (by decide) b o⟩
instance : TField Tryd.prog 130 2 2 := ⟨fun b o w => fieldAt_of (f := { name := "next", type := 129, offset := 2, embedded := false, tag := "", pkgPath := "rostrum/ids", byteOffset := 32 }) (Tryd.runUnderlying130 w) rfl (Tryd.sizeOf129 w) (by decide) b o⟩
instance : TUnder Tryd.prog 131 (Go.TypeDesc.struct #[{ name := "log", type := 44, offset := 0, embedded := false, tag := "", pkgPath := "rostrum/ids", byteOffset := 0 }, { name := "waits", type := 128, offset := 1, embedded := false, tag := "", pkgPath := "rostrum/ids", byteOffset := 24 }, { name := "next", type := 129, offset := 2, embedded := false, tag := "", pkgPath := "rostrum/ids", byteOffset := 32 }]) := ⟨Tryd.runUnderlying131⟩
instance : TAgg Tryd.prog 131 3 := ⟨Tryd.isAgg131, Tryd.sizeOf131⟩
instance : TSize Tryd.prog 131 3 := ⟨Tryd.sizeOf131⟩
instance : TBytes Tryd.prog 131 40 := ⟨fun w => ⟨_, Tryd.typeInfo131 w, by rfl⟩⟩
instance : TZero Tryd.prog 131 (Go.Value.agg #[(Go.Value.slice none 0 0), (Go.Value.map none), (Go.Value.map none)]) := ⟨Tryd.zeroValue131⟩
instance : TPlaces Tryd.prog 131 [(0, 1), (1, 1), (2, 1)] := ⟨fun w => ⟨_, Tryd.runUnderlying131 w, by simp [Tryd.sizeOf128, Tryd.sizeOf129, Tryd.sizeOf44]⟩⟩
instance : TField Tryd.prog 131 0 0 := ⟨fun b o w => fieldAt_of (f := { name := "log", type := 44, offset := 0, embedded := false, tag := "", pkgPath := "rostrum/ids", byteOffset := 0 }) (Tryd.runUnderlying131 w) rfl (Tryd.sizeOf44 w) (by decide) b o⟩
instance : TField Tryd.prog 131 1 1 := ⟨fun b o w => fieldAt_of (f := { name := "waits", type := 128, offset := 1, embedded := false, tag := "", pkgPath := "rostrum/ids", byteOffset := 24 }) (Tryd.runUnderlying131 w) rfl (Tryd.sizeOf128 w) (by decide) b o⟩
instance : TField Tryd.prog 131 2 2 := ⟨fun b o w => fieldAt_of (f := { name := "next", type := 129, offset := 2, embedded := false, tag := "", pkgPath := "rostrum/ids", byteOffset := 32 }) (Tryd.runUnderlying131 w) rfl (Tryd.sizeOf129 w) (by decide) b o⟩
instance : TPlain Tryd.prog 133 := ⟨Tryd.isAgg133, Tryd.sizeOf133⟩
instance : TSize Tryd.prog 133 1 := ⟨Tryd.sizeOf133⟩
instance : TBytes Tryd.prog 133 8 := ⟨fun w => ⟨_, Tryd.typeInfo133 w, by rfl⟩⟩
instance : TZero Tryd.prog 133 Go.Value.nilFunc := ⟨Tryd.zeroValue133⟩
instance : TPlain Tryd.prog 134 := ⟨Tryd.isAgg134, Tryd.sizeOf134⟩
instance : TSize Tryd.prog 134 1 := ⟨Tryd.sizeOf134⟩
instance : TBytes Tryd.prog 134 8 := ⟨fun w => ⟨_, Tryd.typeInfo134 w, by rfl⟩⟩
instance : TZero Tryd.prog 134 Go.Value.nilFunc := ⟨Tryd.zeroValue134⟩
instance : TPlain Tryd.prog 135 := ⟨Tryd.isAgg135, Tryd.sizeOf135⟩
instance : TSize Tryd.prog 135 1 := ⟨Tryd.sizeOf135⟩
instance : TBytes Tryd.prog 135 8 := ⟨fun w => ⟨_, Tryd.typeInfo135 w, by rfl⟩⟩
instance : TZero Tryd.prog 135 Go.Value.nilFunc := ⟨Tryd.zeroValue135⟩
instance : TPlain Tryd.prog 136 := ⟨Tryd.isAgg136, Tryd.sizeOf136⟩
instance : TSize Tryd.prog 136 1 := ⟨Tryd.sizeOf136⟩
instance : TBytes Tryd.prog 136 8 := ⟨fun w => ⟨_, Tryd.typeInfo136 w, by rfl⟩⟩
instance : TZero Tryd.prog 136 Go.Value.nilFunc := ⟨Tryd.zeroValue136⟩
instance : TPlain Tryd.prog 137 := ⟨Tryd.isAgg137, Tryd.sizeOf137⟩
instance : TSize Tryd.prog 137 1 := ⟨Tryd.sizeOf137⟩
instance : TBytes Tryd.prog 137 8 := ⟨fun w => ⟨_, Tryd.typeInfo137 w, by rfl⟩⟩
instance : TZero Tryd.prog 137 Go.Value.nilFunc := ⟨Tryd.zeroValue137⟩
instance : TPlain Tryd.prog 138 := ⟨Tryd.isAgg138, Tryd.sizeOf138⟩
instance : TSize Tryd.prog 138 1 := ⟨Tryd.sizeOf138⟩
instance : TBytes Tryd.prog 138 8 := ⟨fun w => ⟨_, Tryd.typeInfo138 w, by rfl⟩⟩
instance : TZero Tryd.prog 138 Go.Value.nilFunc := ⟨Tryd.zeroValue138⟩
instance : TUnder Tryd.prog 139 (Go.TypeDesc.pointer 141) := ⟨Tryd.runUnderlying139⟩
instance : TPlain Tryd.prog 139 := ⟨Tryd.isAgg139, Tryd.sizeOf139⟩
instance : TSize Tryd.prog 139 1 := ⟨Tryd.sizeOf139⟩
instance : TBytes Tryd.prog 139 8 := ⟨fun w => ⟨_, Tryd.typeInfo139 w, by rfl⟩⟩
instance : TZero Tryd.prog 139 (Go.Value.pointer none) := ⟨Tryd.zeroValue139⟩
instance : TUnder Tryd.prog 140 (Go.TypeDesc.struct #[{ name := "addr", type := 139, offset := 0, embedded := false, tag := "", pkgPath := "strings", byteOffset := 0 }, { name := "buf", type := 32, offset := 1, embedded := false, tag := "", pkgPath := "strings", byteOffset := 8 }]) := ⟨Tryd.runUnderlying140⟩
instance : TAgg Tryd.prog 140 2 := ⟨Tryd.isAgg140, Tryd.sizeOf140⟩
instance : TSize Tryd.prog 140 2 := ⟨Tryd.sizeOf140⟩
instance : TBytes Tryd.prog 140 32 := ⟨fun w => ⟨_, Tryd.typeInfo140 w, by rfl⟩⟩
instance : TZero Tryd.prog 140 (Go.Value.agg #[(Go.Value.pointer none), (Go.Value.slice none 0 0)]) := ⟨Tryd.zeroValue140⟩
instance : TPlaces Tryd.prog 140 [(0, 1), (1, 1)] := ⟨fun w => ⟨_, Tryd.runUnderlying140 w, by simp [Tryd.sizeOf139, Tryd.sizeOf32]⟩⟩
instance : TField Tryd.prog 140 0 0 := ⟨fun b o w => fieldAt_of (f := { name := "addr", type := 139, offset := 0, embedded := false, tag := "", pkgPath := "strings", byteOffset := 0 }) (Tryd.runUnderlying140 w) rfl (Tryd.sizeOf139 w) (by decide) b o⟩
instance : TField Tryd.prog 140 1 1 := ⟨fun b o w => fieldAt_of (f := { name := "buf", type := 32, offset := 1, embedded := false, tag := "", pkgPath := "strings", byteOffset := 8 }) (Tryd.runUnderlying140 w) rfl (Tryd.sizeOf32 w) (by decide) b o⟩
instance : TUnder Tryd.prog 141 (Go.TypeDesc.struct #[{ name := "addr", type := 139, offset := 0, embedded := false, tag := "", pkgPath := "strings", byteOffset := 0 }, { name := "buf", type := 32, offset := 1, embedded := false, tag := "", pkgPath := "strings", byteOffset := 8 }]) := ⟨Tryd.runUnderlying141⟩
instance : TAgg Tryd.prog 141 2 := ⟨Tryd.isAgg141, Tryd.sizeOf141⟩
instance : TSize Tryd.prog 141 2 := ⟨Tryd.sizeOf141⟩
instance : TBytes Tryd.prog 141 32 := ⟨fun w => ⟨_, Tryd.typeInfo141 w, by rfl⟩⟩
instance : TZero Tryd.prog 141 (Go.Value.agg #[(Go.Value.pointer none), (Go.Value.slice none 0 0)]) := ⟨Tryd.zeroValue141⟩
instance : TPlaces Tryd.prog 141 [(0, 1), (1, 1)] := ⟨fun w => ⟨_, Tryd.runUnderlying141 w, by simp [Tryd.sizeOf139, Tryd.sizeOf32]⟩⟩
instance : TField Tryd.prog 141 0 0 := ⟨fun b o w => fieldAt_of (f := { name := "addr", type := 139, offset := 0, embedded := false, tag := "", pkgPath := "strings", byteOffset := 0 }) (Tryd.runUnderlying141 w) rfl (Tryd.sizeOf139 w) (by decide) b o⟩
instance : TField Tryd.prog 141 1 1 := ⟨fun b o w => fieldAt_of (f := { name := "buf", type := 32, offset := 1, embedded := false, tag := "", pkgPath := "strings", byteOffset := 8 }) (Tryd.runUnderlying141 w) rfl (Tryd.sizeOf32 w) (by decide) b o⟩
instance : TPlain Tryd.prog 142 := ⟨Tryd.isAgg142, Tryd.sizeOf142⟩
instance : TSize Tryd.prog 142 1 := ⟨Tryd.sizeOf142⟩
instance : TBytes Tryd.prog 142 8 := ⟨fun w => ⟨_, Tryd.typeInfo142 w, by rfl⟩⟩
instance : TZero Tryd.prog 142 Go.Value.nilFunc := ⟨Tryd.zeroValue142⟩
instance : TPlain Tryd.prog 144 := ⟨Tryd.isAgg144, Tryd.sizeOf144⟩
instance : TSize Tryd.prog 144 1 := ⟨Tryd.sizeOf144⟩
instance : TBytes Tryd.prog 144 8 := ⟨fun w => ⟨_, Tryd.typeInfo144 w, by rfl⟩⟩
instance : TZero Tryd.prog 144 Go.Value.nilFunc := ⟨Tryd.zeroValue144⟩
instance : TPlain Tryd.prog 145 := ⟨Tryd.isAgg145, Tryd.sizeOf145⟩
instance : TSize Tryd.prog 145 1 := ⟨Tryd.sizeOf145⟩
instance : TBytes Tryd.prog 145 8 := ⟨fun w => ⟨_, Tryd.typeInfo145 w, by rfl⟩⟩
instance : TZero Tryd.prog 145 Go.Value.nilFunc := ⟨Tryd.zeroValue145⟩
instance : TPlain Tryd.prog 146 := ⟨Tryd.isAgg146, Tryd.sizeOf146⟩
instance : TSize Tryd.prog 146 1 := ⟨Tryd.sizeOf146⟩
instance : TBytes Tryd.prog 146 8 := ⟨fun w => ⟨_, Tryd.typeInfo146 w, by rfl⟩⟩
instance : TZero Tryd.prog 146 Go.Value.nilFunc := ⟨Tryd.zeroValue146⟩
instance : TPlain Tryd.prog 147 := ⟨Tryd.isAgg147, Tryd.sizeOf147⟩
instance : TSize Tryd.prog 147 1 := ⟨Tryd.sizeOf147⟩
instance : TBytes Tryd.prog 147 8 := ⟨fun w => ⟨_, Tryd.typeInfo147 w, by rfl⟩⟩
instance : TZero Tryd.prog 147 Go.Value.nilFunc := ⟨Tryd.zeroValue147⟩
instance : TPlain Tryd.prog 148 := ⟨Tryd.isAgg148, Tryd.sizeOf148⟩
instance : TSize Tryd.prog 148 1 := ⟨Tryd.sizeOf148⟩
instance : TBytes Tryd.prog 148 8 := ⟨fun w => ⟨_, Tryd.typeInfo148 w, by rfl⟩⟩
instance : TZero Tryd.prog 148 Go.Value.nilFunc := ⟨Tryd.zeroValue148⟩
instance : TPlain Tryd.prog 149 := ⟨Tryd.isAgg149, Tryd.sizeOf149⟩
instance : TSize Tryd.prog 149 1 := ⟨Tryd.sizeOf149⟩
instance : TBytes Tryd.prog 149 8 := ⟨fun w => ⟨_, Tryd.typeInfo149 w, by rfl⟩⟩
instance : TZero Tryd.prog 149 Go.Value.nilFunc := ⟨Tryd.zeroValue149⟩
instance : TPlain Tryd.prog 150 := ⟨Tryd.isAgg150, Tryd.sizeOf150⟩
instance : TSize Tryd.prog 150 1 := ⟨Tryd.sizeOf150⟩
instance : TBytes Tryd.prog 150 8 := ⟨fun w => ⟨_, Tryd.typeInfo150 w, by rfl⟩⟩
instance : TZero Tryd.prog 150 Go.Value.nilFunc := ⟨Tryd.zeroValue150⟩
instance : TPlain Tryd.prog 152 := ⟨Tryd.isAgg152, Tryd.sizeOf152⟩
instance : TSize Tryd.prog 152 1 := ⟨Tryd.sizeOf152⟩
instance : TBytes Tryd.prog 152 8 := ⟨fun w => ⟨_, Tryd.typeInfo152 w, by rfl⟩⟩
instance : TZero Tryd.prog 152 Go.Value.nilFunc := ⟨Tryd.zeroValue152⟩
instance : TUnder Tryd.prog 153 (Go.TypeDesc.pointer 5) := ⟨Tryd.runUnderlying153⟩
instance : TPlain Tryd.prog 153 := ⟨Tryd.isAgg153, Tryd.sizeOf153⟩
instance : TSize Tryd.prog 153 1 := ⟨Tryd.sizeOf153⟩
instance : TBytes Tryd.prog 153 8 := ⟨fun w => ⟨_, Tryd.typeInfo153 w, by rfl⟩⟩
instance : TZero Tryd.prog 153 (Go.Value.pointer none) := ⟨Tryd.zeroValue153⟩
instance : TPlain Tryd.prog 154 := ⟨Tryd.isAgg154, Tryd.sizeOf154⟩
instance : TSize Tryd.prog 154 1 := ⟨Tryd.sizeOf154⟩
instance : TBytes Tryd.prog 154 8 := ⟨fun w => ⟨_, Tryd.typeInfo154 w, by rfl⟩⟩
instance : TZero Tryd.prog 154 Go.Value.nilFunc := ⟨Tryd.zeroValue154⟩
instance : TPlain Tryd.prog 155 := ⟨Tryd.isAgg155, Tryd.sizeOf155⟩
instance : TSize Tryd.prog 155 1 := ⟨Tryd.sizeOf155⟩
instance : TBytes Tryd.prog 155 8 := ⟨fun w => ⟨_, Tryd.typeInfo155 w, by rfl⟩⟩
instance : TZero Tryd.prog 155 Go.Value.nilFunc := ⟨Tryd.zeroValue155⟩
instance : TPlain Tryd.prog 156 := ⟨Tryd.isAgg156, Tryd.sizeOf156⟩
instance : TSize Tryd.prog 156 1 := ⟨Tryd.sizeOf156⟩
instance : TBytes Tryd.prog 156 8 := ⟨fun w => ⟨_, Tryd.typeInfo156 w, by rfl⟩⟩
instance : TZero Tryd.prog 156 Go.Value.nilFunc := ⟨Tryd.zeroValue156⟩
instance : TUnder Tryd.prog 157 Go.TypeDesc.unsafePointer := ⟨Tryd.runUnderlying157⟩
instance : TPlain Tryd.prog 157 := ⟨Tryd.isAgg157, Tryd.sizeOf157⟩
instance : TSize Tryd.prog 157 1 := ⟨Tryd.sizeOf157⟩
instance : TBytes Tryd.prog 157 8 := ⟨fun w => ⟨_, Tryd.typeInfo157 w, by rfl⟩⟩
instance : TZero Tryd.prog 157 (Go.Value.pointer none) := ⟨Tryd.zeroValue157⟩
instance : TPlain Tryd.prog 158 := ⟨Tryd.isAgg158, Tryd.sizeOf158⟩
instance : TSize Tryd.prog 158 1 := ⟨Tryd.sizeOf158⟩
instance : TBytes Tryd.prog 158 8 := ⟨fun w => ⟨_, Tryd.typeInfo158 w, by rfl⟩⟩
instance : TZero Tryd.prog 158 Go.Value.nilFunc := ⟨Tryd.zeroValue158⟩
instance : TPlain Tryd.prog 159 := ⟨Tryd.isAgg159, Tryd.sizeOf159⟩
instance : TSize Tryd.prog 159 1 := ⟨Tryd.sizeOf159⟩
instance : TBytes Tryd.prog 159 8 := ⟨fun w => ⟨_, Tryd.typeInfo159 w, by rfl⟩⟩
instance : TZero Tryd.prog 159 Go.Value.nilFunc := ⟨Tryd.zeroValue159⟩
instance : TUnder Tryd.prog 160 (Go.TypeDesc.pointer 183) := ⟨Tryd.runUnderlying160⟩
instance : TPlain Tryd.prog 160 := ⟨Tryd.isAgg160, Tryd.sizeOf160⟩
instance : TSize Tryd.prog 160 1 := ⟨Tryd.sizeOf160⟩
instance : TBytes Tryd.prog 160 8 := ⟨fun w => ⟨_, Tryd.typeInfo160 w, by rfl⟩⟩
instance : TZero Tryd.prog 160 (Go.Value.pointer none) := ⟨Tryd.zeroValue160⟩
instance : TUnder Tryd.prog 161 (Go.TypeDesc.struct #[{ name := "_interface", type := 17, offset := 0, embedded := false, tag := "", pkgPath := "runtime", byteOffset := 0 }, { name := "concrete", type := 17, offset := 1, embedded := false, tag := "", pkgPath := "runtime", byteOffset := 8 }, { name := "asserted", type := 17, offset := 2, embedded := false, tag := "", pkgPath := "runtime", byteOffset := 16 }, { name := "missingMethod", type := 9, offset := 3, embedded := false, tag := "", pkgPath := "runtime", byteOffset := 24 }]) := ⟨Tryd.runUnderlying161⟩
instance : TAgg Tryd.prog 161 4 := ⟨Tryd.isAgg161, Tryd.sizeOf161⟩
instance : TSize Tryd.prog 161 4 := ⟨Tryd.sizeOf161⟩
instance : TBytes Tryd.prog 161 40 := ⟨fun w => ⟨_, Tryd.typeInfo161 w, by rfl⟩⟩
instance : TZero Tryd.prog 161 (Go.Value.agg #[(Go.Value.pointer none), (Go.Value.pointer none), (Go.Value.pointer none), (Go.Value.string { data := #[] })]) := ⟨Tryd.zeroValue161⟩
instance : TPlaces Tryd.prog 161 [(0, 1), (1, 1), (2, 1), (3, 1)] := ⟨fun w => ⟨_, Tryd.runUnderlying161 w, by simp [Tryd.sizeOf17, Tryd.sizeOf9]⟩⟩
instance : TField Tryd.prog 161 0 0 := ⟨fun b o w => fieldAt_of (f := { name := "_interface", type := 17, offset := 0, embedded := false, tag := "", pkgPath := "runtime", byteOffset := 0 }) (Tryd.runUnderlying161 w) rfl (Tryd.sizeOf17 w) (by decide) b o⟩
instance : TField Tryd.prog 161 1 1 := ⟨fun b o w => fieldAt_of (f := { name := "concrete", type := 17, offset := 1, embedded := false, tag := "", pkgPath := "runtime", byteOffset := 8 }) (Tryd.runUnderlying161 w) rfl (Tryd.sizeOf17 w) (by decide) b o⟩
instance : TField Tryd.prog 161 2 2 := ⟨fun b o w => fieldAt_of (f := { name := "asserted", type := 17, offset := 2, embedded := false, tag := "", pkgPath := "runtime", byteOffset := 16 }) (Tryd.runUnderlying161 w) rfl (Tryd.sizeOf17 w) (by decide) b o⟩
instance : TField Tryd.prog 161 3 3 := ⟨fun b o w => fieldAt_of (f := { name := "missingMethod", type := 9, offset := 3, embedded := false, tag := "", pkgPath := "runtime", byteOffset := 24 }) (Tryd.runUnderlying161 w) rfl (Tryd.sizeOf9 w) (by decide) b o⟩
instance : TUnder Tryd.prog 162 (Go.TypeDesc.struct #[{ name := "_interface", type := 17, offset := 0, embedded := false, tag := "", pkgPath := "runtime", byteOffset := 0 }, { name := "concrete", type := 17, offset := 1, embedded := false, tag := "", pkgPath := "runtime", byteOffset := 8 }, { name := "asserted", type := 17, offset := 2, embedded := false, tag := "", pkgPath := "runtime", byteOffset := 16 }, { name := "missingMethod", type := 9, offset := 3, embedded := false, tag := "", pkgPath := "runtime", byteOffset := 24 }]) := ⟨Tryd.runUnderlying162⟩
instance : TAgg Tryd.prog 162 4 := ⟨Tryd.isAgg162, Tryd.sizeOf162⟩
instance : TSize Tryd.prog 162 4 := ⟨Tryd.sizeOf162⟩
instance : TBytes Tryd.prog 162 40 := ⟨fun w => ⟨_, Tryd.typeInfo162 w, by rfl⟩⟩
instance : TZero Tryd.prog 162 (Go.Value.agg #[(Go.Value.pointer none), (Go.Value.pointer none), (Go.Value.pointer none), (Go.Value.string { data := #[] })]) := ⟨Tryd.zeroValue162⟩
instance : TPlaces Tryd.prog 162 [(0, 1), (1, 1), (2, 1), (3, 1)] := ⟨fun w => ⟨_, Tryd.runUnderlying162 w, by simp [Tryd.sizeOf17, Tryd.sizeOf9]⟩⟩
instance : TField Tryd.prog 162 0 0 := ⟨fun b o w => fieldAt_of (f := { name := "_interface", type := 17, offset := 0, embedded := false, tag := "", pkgPath := "runtime", byteOffset := 0 }) (Tryd.runUnderlying162 w) rfl (Tryd.sizeOf17 w) (by decide) b o⟩
instance : TField Tryd.prog 162 1 1 := ⟨fun b o w => fieldAt_of (f := { name := "concrete", type := 17, offset := 1, embedded := false, tag := "", pkgPath := "runtime", byteOffset := 8 }) (Tryd.runUnderlying162 w) rfl (Tryd.sizeOf17 w) (by decide) b o⟩
instance : TField Tryd.prog 162 2 2 := ⟨fun b o w => fieldAt_of (f := { name := "asserted", type := 17, offset := 2, embedded := false, tag := "", pkgPath := "runtime", byteOffset := 16 }) (Tryd.runUnderlying162 w) rfl (Tryd.sizeOf17 w) (by decide) b o⟩
instance : TField Tryd.prog 162 3 3 := ⟨fun b o w => fieldAt_of (f := { name := "missingMethod", type := 9, offset := 3, embedded := false, tag := "", pkgPath := "runtime", byteOffset := 24 }) (Tryd.runUnderlying162 w) rfl (Tryd.sizeOf9 w) (by decide) b o⟩
instance : TUnder Tryd.prog 163 (Go.TypeDesc.array 0 16) := ⟨Tryd.runUnderlying163⟩
instance : TAgg Tryd.prog 163 0 := ⟨Tryd.isAgg163, Tryd.sizeOf163⟩
instance : TSize Tryd.prog 163 0 := ⟨Tryd.sizeOf163⟩
instance : TBytes Tryd.prog 163 0 := ⟨fun w => ⟨_, Tryd.typeInfo163 w, by rfl⟩⟩
instance : TZero Tryd.prog 163 (Go.Value.agg #[]) := ⟨Tryd.zeroValue163⟩
instance : TUnder Tryd.prog 164 (Go.TypeDesc.struct #[{ name := "_", type := 163, offset := 0, embedded := false, tag := "", pkgPath := "runtime", byteOffset := 0 }]) := ⟨Tryd.runUnderlying164⟩
instance : TAgg Tryd.prog 164 0 := ⟨Tryd.isAgg164, Tryd.sizeOf164⟩
instance : TSize Tryd.prog 164 0 := ⟨Tryd.sizeOf164⟩
instance : TBytes Tryd.prog 164 0 := ⟨fun w => ⟨_, Tryd.typeInfo164 w, by rfl⟩⟩
instance : TZero Tryd.prog 164 (Go.Value.agg #[]) := ⟨Tryd.zeroValue164⟩
instance : TUnder Tryd.prog 165 (Go.TypeDesc.struct #[{ name := "_", type := 163, offset := 0, embedded := false, tag := "", pkgPath := "runtime", byteOffset := 0 }]) := ⟨Tryd.runUnderlying165⟩
instance : TAgg Tryd.prog 165 0 := ⟨Tryd.isAgg165, Tryd.sizeOf165⟩
instance : TSize Tryd.prog 165 0 := ⟨Tryd.sizeOf165⟩
instance : TBytes Tryd.prog 165 0 := ⟨fun w => ⟨_, Tryd.typeInfo165 w, by rfl⟩⟩
instance : TZero Tryd.prog 165 (Go.Value.agg #[]) := ⟨Tryd.zeroValue165⟩
instance : TPlain Tryd.prog 166 := ⟨Tryd.isAgg166, Tryd.sizeOf166⟩
instance : TSize Tryd.prog 166 1 := ⟨Tryd.sizeOf166⟩
instance : TBytes Tryd.prog 166 8 := ⟨fun w => ⟨_, Tryd.typeInfo166 w, by rfl⟩⟩
instance : TZero Tryd.prog 166 Go.Value.nilFunc := ⟨Tryd.zeroValue166⟩
instance : TUnder Tryd.prog 167 (Go.TypeDesc.int Go.IntKind.u8) := ⟨Tryd.runUnderlying167⟩
instance : TPlain Tryd.prog 167 := ⟨Tryd.isAgg167, Tryd.sizeOf167⟩
instance : TSize Tryd.prog 167 1 := ⟨Tryd.sizeOf167⟩
instance : TBytes Tryd.prog 167 1 := ⟨fun w => ⟨_, Tryd.typeInfo167 w, by rfl⟩⟩
instance : TZero Tryd.prog 167 (Go.Value.int Go.IntKind.u8 0) := ⟨Tryd.zeroValue167⟩
instance : TUnder Tryd.prog 168 (Go.TypeDesc.int Go.IntKind.u8) := ⟨Tryd.runUnderlying168⟩
instance : TPlain Tryd.prog 168 := ⟨Tryd.isAgg168, Tryd.sizeOf168⟩
instance : TSize Tryd.prog 168 1 := ⟨Tryd.sizeOf168⟩
instance : TBytes Tryd.prog 168 1 := ⟨fun w => ⟨_, Tryd.typeInfo168 w, by rfl⟩⟩
instance : TZero Tryd.prog 168 (Go.Value.int Go.IntKind.u8 0) := ⟨Tryd.zeroValue168⟩
instance : TPlain Tryd.prog 169 := ⟨Tryd.isAgg169, Tryd.sizeOf169⟩
instance : TSize Tryd.prog 169 1 := ⟨Tryd.sizeOf169⟩
instance : TBytes Tryd.prog 169 8 := ⟨fun w => ⟨_, Tryd.typeInfo169 w, by rfl⟩⟩
instance : TZero Tryd.prog 169 Go.Value.nilFunc := ⟨Tryd.zeroValue169⟩
instance : TUnder Tryd.prog 170 (Go.TypeDesc.int Go.IntKind.i32) := ⟨Tryd.runUnderlying170⟩
instance : TPlain Tryd.prog 170 := ⟨Tryd.isAgg170, Tryd.sizeOf170⟩
instance : TSize Tryd.prog 170 1 := ⟨Tryd.sizeOf170⟩
instance : TBytes Tryd.prog 170 4 := ⟨fun w => ⟨_, Tryd.typeInfo170 w, by rfl⟩⟩
instance : TZero Tryd.prog 170 (Go.Value.int Go.IntKind.i32 0) := ⟨Tryd.zeroValue170⟩
instance : TUnder Tryd.prog 171 (Go.TypeDesc.int Go.IntKind.i32) := ⟨Tryd.runUnderlying171⟩
instance : TPlain Tryd.prog 171 := ⟨Tryd.isAgg171, Tryd.sizeOf171⟩
instance : TSize Tryd.prog 171 1 := ⟨Tryd.sizeOf171⟩
instance : TBytes Tryd.prog 171 4 := ⟨fun w => ⟨_, Tryd.typeInfo171 w, by rfl⟩⟩
instance : TZero Tryd.prog 171 (Go.Value.int Go.IntKind.i32 0) := ⟨Tryd.zeroValue171⟩
instance : TUnder Tryd.prog 172 (Go.TypeDesc.struct #[{ name := "Size_", type := 12, offset := 0, embedded := false, tag := "", pkgPath := "", byteOffset := 0 }, { name := "PtrBytes", type := 12, offset := 1, embedded := false, tag := "", pkgPath := "", byteOffset := 8 }, { name := "Hash", type := 22, offset := 2, embedded := false, tag := "", pkgPath := "", byteOffset := 16 }, { name := "TFlag", type := 167, offset := 3, embedded := false, tag := "", pkgPath := "", byteOffset := 20 }, { name := "Align_", type := 5, offset := 4, embedded := false, tag := "", pkgPath := "", byteOffset := 21 }, { name := "FieldAlign_", type := 5, offset := 5, embedded := false, tag := "", pkgPath := "", byteOffset := 22 }, { name := "Kind_", type := 168, offset := 6, embedded := false, tag := "", pkgPath := "", byteOffset := 23 }, { name := "Equal", type := 169, offset := 7, embedded := false, tag := "", pkgPath := "", byteOffset := 24 }, { name := "GCData", type := 153, offset := 8, embedded := false, tag := "", pkgPath := "", byteOffset := 32 }, { name := "Str", type := 170, offset := 9, embedded := false, tag := "", pkgPath := "", byteOffset := 40 }, { name := "PtrToThis", type := 171, offset := 10, embedded := false, tag := "", pkgPath := "", byteOffset := 44 }]) := ⟨Tryd.runUnderlying172⟩
instance : TAgg Tryd.prog 172 11 := ⟨Tryd.isAgg172, Tryd.sizeOf172⟩
instance : TSize Tryd.prog 172 11 := ⟨Tryd.sizeOf172⟩
instance : TBytes Tryd.prog 172 48 := ⟨fun w => ⟨_, Tryd.typeInfo172 w, by rfl⟩⟩
instance : TZero Tryd.prog 172 (Go.Value.agg #[(Go.Value.int Go.IntKind.u64 0), (Go.Value.int Go.IntKind.u64 0), (Go.Value.int Go.IntKind.u32 0), (Go.Value.int Go.IntKind.u8 0), (Go.Value.int Go.IntKind.u8 0), (Go.Value.int Go.IntKind.u8 0), (Go.Value.int Go.IntKind.u8 0), Go.Value.nilFunc, (Go.Value.pointer none), (Go.Value.int Go.IntKind.i32 0), (Go.Value.int Go.IntKind.i32 0)]) := ⟨Tryd.zeroValue172⟩
instance : TPlaces Tryd.prog 172 [(0, 1), (1, 1), (2, 1), (3, 1), (4, 1), (5, 1), (6, 1), (7, 1), (8, 1), (9, 1), (10, 1)] := ⟨fun w => ⟨_, Tryd.runUnderlying172 w, by simp [Tryd.sizeOf12, Tryd.sizeOf153, Tryd.sizeOf167, Tryd.sizeOf168, Tryd.sizeOf169, Tryd.sizeOf170, Tryd.sizeOf171, Tryd.sizeOf22, Tryd.sizeOf5]⟩⟩
instance : TField Tryd.prog 172 0 0 := ⟨fun b o w => fieldAt_of (f := { name := "Size_", type := 12, offset := 0, embedded := false, tag := "", pkgPath := "", byteOffset := 0 }) (Tryd.runUnderlying172 w) rfl (Tryd.sizeOf12 w) (by decide) b o⟩
instance : TField Tryd.prog 172 1 1 := ⟨fun b o w => fieldAt_of (f := { name := "PtrBytes", type := 12, offset := 1, embedded := false, tag := "", pkgPath := "", byteOffset := 8 }) (Tryd.runUnderlying172 w) rfl (Tryd.sizeOf12 w) (by decide) b o⟩
instance : TField Tryd.prog 172 2 2 := ⟨fun b o w => fieldAt_of (f := { name := "Hash", type := 22, offset := 2, embedded := false, tag := "", pkgPath := "", byteOffset := 16 }) (Tryd.runUnderlying172 w) rfl (Tryd.sizeOf22 w) (by decide) b o⟩
instance : TField Tryd.prog 172 3 3 := ⟨fun b o w => fieldAt_of (f := { name := "TFlag", type := 167, offset := 3, embedded := false, tag := "", pkgPath := "", byteOffset := 20 }) (Tryd.runUnderlying172 w) rfl (Tryd.sizeOf167 w) (by decide) b o⟩
instance : TField Tryd.prog 172 4 4 := ⟨fun b o w => fieldAt_of (f := { name := "Align_", type := 5, offset := 4, embedded := false, tag := "", pkgPath := "", byteOffset := 21 }) (Tryd.runUnderlying172 w) rfl (Tryd.sizeOf5 w) (by decide) b o⟩
instance : TField Tryd.prog 172 5 5 := ⟨fun b o w => fieldAt_of (f := { name := "FieldAlign_", type := 5, offset := 5, embedded := false, tag := "", pkgPath := "", byteOffset := 22 }) (Tryd.runUnderlying172 w) rfl (Tryd.sizeOf5 w) (by decide) b o⟩
instance : TField Tryd.prog 172 6 6 := ⟨fun b o w => fieldAt_of (f := { name := "Kind_", type := 168, offset := 6, embedded := false, tag := "", pkgPath := "", byteOffset := 23 }) (Tryd.runUnderlying172 w) rfl (Tryd.sizeOf168 w) (by decide) b o⟩
instance : TField Tryd.prog 172 7 7 := ⟨fun b o w => fieldAt_of (f := { name := "Equal", type := 169, offset := 7, embedded := false, tag := "", pkgPath := "", byteOffset := 24 }) (Tryd.runUnderlying172 w) rfl (Tryd.sizeOf169 w) (by decide) b o⟩
instance : TField Tryd.prog 172 8 8 := ⟨fun b o w => fieldAt_of (f := { name := "GCData", type := 153, offset := 8, embedded := false, tag := "", pkgPath := "", byteOffset := 32 }) (Tryd.runUnderlying172 w) rfl (Tryd.sizeOf153 w) (by decide) b o⟩
instance : TField Tryd.prog 172 9 9 := ⟨fun b o w => fieldAt_of (f := { name := "Str", type := 170, offset := 9, embedded := false, tag := "", pkgPath := "", byteOffset := 40 }) (Tryd.runUnderlying172 w) rfl (Tryd.sizeOf170 w) (by decide) b o⟩
instance : TField Tryd.prog 172 10 10 := ⟨fun b o w => fieldAt_of (f := { name := "PtrToThis", type := 171, offset := 10, embedded := false, tag := "", pkgPath := "", byteOffset := 44 }) (Tryd.runUnderlying172 w) rfl (Tryd.sizeOf171 w) (by decide) b o⟩
instance : TUnder Tryd.prog 173 (Go.TypeDesc.struct #[{ name := "Size_", type := 12, offset := 0, embedded := false, tag := "", pkgPath := "", byteOffset := 0 }, { name := "PtrBytes", type := 12, offset := 1, embedded := false, tag := "", pkgPath := "", byteOffset := 8 }, { name := "Hash", type := 22, offset := 2, embedded := false, tag := "", pkgPath := "", byteOffset := 16 }, { name := "TFlag", type := 167, offset := 3, embedded := false, tag := "", pkgPath := "", byteOffset := 20 }, { name := "Align_", type := 5, offset := 4, embedded := false, tag := "", pkgPath := "", byteOffset := 21 }, { name := "FieldAlign_", type := 5, offset := 5, embedded := false, tag := "", pkgPath := "", byteOffset := 22 }, { name := "Kind_", type := 168, offset := 6, embedded := false, tag := "", pkgPath := "", byteOffset := 23 }, { name := "Equal", type := 169, offset := 7, embedded := false, tag := "", pkgPath := "", byteOffset := 24 }, { name := "GCData", type := 153, offset := 8, embedded := false, tag := "", pkgPath := "", byteOffset := 32 }, { name := "Str", type := 170, offset := 9, embedded := false, tag := "", pkgPath := "", byteOffset := 40 }, { name := "PtrToThis", type := 171, offset := 10, embedded := false, tag := "", pkgPath := "", byteOffset := 44 }]) := ⟨Tryd.runUnderlying173⟩
instance : TAgg Tryd.prog 173 11 := ⟨Tryd.isAgg173, Tryd.sizeOf173⟩
instance : TSize Tryd.prog 173 11 := ⟨Tryd.sizeOf173⟩
instance : TBytes Tryd.prog 173 48 := ⟨fun w => ⟨_, Tryd.typeInfo173 w, by rfl⟩⟩
instance : TZero Tryd.prog 173 (Go.Value.agg #[(Go.Value.int Go.IntKind.u64 0), (Go.Value.int Go.IntKind.u64 0), (Go.Value.int Go.IntKind.u32 0), (Go.Value.int Go.IntKind.u8 0), (Go.Value.int Go.IntKind.u8 0), (Go.Value.int Go.IntKind.u8 0), (Go.Value.int Go.IntKind.u8 0), Go.Value.nilFunc, (Go.Value.pointer none), (Go.Value.int Go.IntKind.i32 0), (Go.Value.int Go.IntKind.i32 0)]) := ⟨Tryd.zeroValue173⟩
instance : TPlaces Tryd.prog 173 [(0, 1), (1, 1), (2, 1), (3, 1), (4, 1), (5, 1), (6, 1), (7, 1), (8, 1), (9, 1), (10, 1)] := ⟨fun w => ⟨_, Tryd.runUnderlying173 w, by simp [Tryd.sizeOf12, Tryd.sizeOf153, Tryd.sizeOf167, Tryd.sizeOf168, Tryd.sizeOf169, Tryd.sizeOf170, Tryd.sizeOf171, Tryd.sizeOf22, Tryd.sizeOf5]⟩⟩
instance : TField Tryd.prog 173 0 0 := ⟨fun b o w => fieldAt_of (f := { name := "Size_", type := 12, offset := 0, embedded := false, tag := "", pkgPath := "", byteOffset := 0 }) (Tryd.runUnderlying173 w) rfl (Tryd.sizeOf12 w) (by decide) b o⟩
instance : TField Tryd.prog 173 1 1 := ⟨fun b o w => fieldAt_of (f := { name := "PtrBytes", type := 12, offset := 1, embedded := false, tag := "", pkgPath := "", byteOffset := 8 }) (Tryd.runUnderlying173 w) rfl (Tryd.sizeOf12 w) (by decide) b o⟩
instance : TField Tryd.prog 173 2 2 := ⟨fun b o w => fieldAt_of (f := { name := "Hash", type := 22, offset := 2, embedded := false, tag := "", pkgPath := "", byteOffset := 16 }) (Tryd.runUnderlying173 w) rfl (Tryd.sizeOf22 w) (by decide) b o⟩
instance : TField Tryd.prog 173 3 3 := ⟨fun b o w => fieldAt_of (f := { name := "TFlag", type := 167, offset := 3, embedded := false, tag := "", pkgPath := "", byteOffset := 20 }) (Tryd.runUnderlying173 w) rfl (Tryd.sizeOf167 w) (by decide) b o⟩
instance : TField Tryd.prog 173 4 4 := ⟨fun b o w => fieldAt_of (f := { name := "Align_", type := 5, offset := 4, embedded := false, tag := "", pkgPath := "", byteOffset := 21 }) (Tryd.runUnderlying173 w) rfl (Tryd.sizeOf5 w) (by decide) b o⟩
instance : TField Tryd.prog 173 5 5 := ⟨fun b o w => fieldAt_of (f := { name := "FieldAlign_", type := 5, offset := 5, embedded := false, tag := "", pkgPath := "", byteOffset := 22 }) (Tryd.runUnderlying173 w) rfl (Tryd.sizeOf5 w) (by decide) b o⟩
instance : TField Tryd.prog 173 6 6 := ⟨fun b o w => fieldAt_of (f := { name := "Kind_", type := 168, offset := 6, embedded := false, tag := "", pkgPath := "", byteOffset := 23 }) (Tryd.runUnderlying173 w) rfl (Tryd.sizeOf168 w) (by decide) b o⟩
instance : TField Tryd.prog 173 7 7 := ⟨fun b o w => fieldAt_of (f := { name := "Equal", type := 169, offset := 7, embedded := false, tag := "", pkgPath := "", byteOffset := 24 }) (Tryd.runUnderlying173 w) rfl (Tryd.sizeOf169 w) (by decide) b o⟩
instance : TField Tryd.prog 173 8 8 := ⟨fun b o w => fieldAt_of (f := { name := "GCData", type := 153, offset := 8, embedded := false, tag := "", pkgPath := "", byteOffset := 32 }) (Tryd.runUnderlying173 w) rfl (Tryd.sizeOf153 w) (by decide) b o⟩
instance : TField Tryd.prog 173 9 9 := ⟨fun b o w => fieldAt_of (f := { name := "Str", type := 170, offset := 9, embedded := false, tag := "", pkgPath := "", byteOffset := 40 }) (Tryd.runUnderlying173 w) rfl (Tryd.sizeOf170 w) (by decide) b o⟩
instance : TField Tryd.prog 173 10 10 := ⟨fun b o w => fieldAt_of (f := { name := "PtrToThis", type := 171, offset := 10, embedded := false, tag := "", pkgPath := "", byteOffset := 44 }) (Tryd.runUnderlying173 w) rfl (Tryd.sizeOf171 w) (by decide) b o⟩
instance : TPlain Tryd.prog 174 := ⟨Tryd.isAgg174, Tryd.sizeOf174⟩
instance : TSize Tryd.prog 174 1 := ⟨Tryd.sizeOf174⟩
instance : TBytes Tryd.prog 174 8 := ⟨fun w => ⟨_, Tryd.typeInfo174 w, by rfl⟩⟩
instance : TZero Tryd.prog 174 Go.Value.nilFunc := ⟨Tryd.zeroValue174⟩
instance : TPlain Tryd.prog 175 := ⟨Tryd.isAgg175, Tryd.sizeOf175⟩
instance : TSize Tryd.prog 175 1 := ⟨Tryd.sizeOf175⟩
instance : TBytes Tryd.prog 175 8 := ⟨fun w => ⟨_, Tryd.typeInfo175 w, by rfl⟩⟩
instance : TZero Tryd.prog 175 Go.Value.nilFunc := ⟨Tryd.zeroValue175⟩
instance : TPlain Tryd.prog 176 := ⟨Tryd.isAgg176, Tryd.sizeOf176⟩
instance : TSize Tryd.prog 176 1 := ⟨Tryd.sizeOf176⟩
instance : TBytes Tryd.prog 176 8 := ⟨fun w => ⟨_, Tryd.typeInfo176 w, by rfl⟩⟩
instance : TZero Tryd.prog 176 Go.Value.nilFunc := ⟨Tryd.zeroValue176⟩
instance : TPlain Tryd.prog 177 := ⟨Tryd.isAgg177, Tryd.sizeOf177⟩
instance : TSize Tryd.prog 177 1 := ⟨Tryd.sizeOf177⟩
instance : TBytes Tryd.prog 177 8 := ⟨fun w => ⟨_, Tryd.typeInfo177 w, by rfl⟩⟩
instance : TZero Tryd.prog 177 Go.Value.nilFunc := ⟨Tryd.zeroValue177⟩
instance : TPlain Tryd.prog 178 := ⟨Tryd.isAgg178, Tryd.sizeOf178⟩
instance : TSize Tryd.prog 178 1 := ⟨Tryd.sizeOf178⟩
instance : TBytes Tryd.prog 178 8 := ⟨fun w => ⟨_, Tryd.typeInfo178 w, by rfl⟩⟩
instance : TZero Tryd.prog 178 Go.Value.nilFunc := ⟨Tryd.zeroValue178⟩
instance : TPlain Tryd.prog 179 := ⟨Tryd.isAgg179, Tryd.sizeOf179⟩
instance : TSize Tryd.prog 179 1 := ⟨Tryd.sizeOf179⟩
instance : TBytes Tryd.prog 179 8 := ⟨fun w => ⟨_, Tryd.typeInfo179 w, by rfl⟩⟩
instance : TZero Tryd.prog 179 Go.Value.nilFunc := ⟨Tryd.zeroValue179⟩
instance : TUnder Tryd.prog 180 (Go.TypeDesc.struct #[{ name := "Method", type := 9, offset := 0, embedded := false, tag := "", pkgPath := "", byteOffset := 0 }, { name := "Kind", type := 168, offset := 1, embedded := false, tag := "", pkgPath := "", byteOffset := 16 }]) := ⟨Tryd.runUnderlying180⟩
instance : TAgg Tryd.prog 180 2 := ⟨Tryd.isAgg180, Tryd.sizeOf180⟩
instance : TSize Tryd.prog 180 2 := ⟨Tryd.sizeOf180⟩
instance : TBytes Tryd.prog 180 24 := ⟨fun w => ⟨_, Tryd.typeInfo180 w, by rfl⟩⟩
instance : TZero Tryd.prog 180 (Go.Value.agg #[(Go.Value.string { data := #[] }), (Go.Value.int Go.IntKind.u8 0)]) := ⟨Tryd.zeroValue180⟩
instance : TPlaces Tryd.prog 180 [(0, 1), (1, 1)] := ⟨fun w => ⟨_, Tryd.runUnderlying180 w, by simp [Tryd.sizeOf168, Tryd.sizeOf9]⟩⟩
instance : TField Tryd.prog 180 0 0 := ⟨fun b o w => fieldAt_of (f := { name := "Method", type := 9, offset := 0, embedded := false, tag := "", pkgPath := "", byteOffset := 0 }) (Tryd.runUnderlying180 w) rfl (Tryd.sizeOf9 w) (by decide) b o⟩
instance : TField Tryd.prog 180 1 1 := ⟨fun b o w => fieldAt_of (f := { name := "Kind", type := 168, offset := 1, embedded := false, tag := "", pkgPath := "", byteOffset := 16 }) (Tryd.runUnderlying180 w) rfl (Tryd.sizeOf168 w) (by decide) b o⟩
instance : TUnder Tryd.prog 181 (Go.TypeDesc.struct #[{ name := "Method", type := 9, offset := 0, embedded := false, tag := "", pkgPath := "", byteOffset := 0 }, { name := "Kind", type := 168, offset := 1, embedded := false, tag := "", pkgPath := "", byteOffset := 16 }]) := ⟨Tryd.runUnderlying181⟩
instance : TAgg Tryd.prog 181 2 := ⟨Tryd.isAgg181, Tryd.sizeOf181⟩
instance : TSize Tryd.prog 181 2 := ⟨Tryd.sizeOf181⟩
instance : TBytes Tryd.prog 181 24 := ⟨fun w => ⟨_, Tryd.typeInfo181 w, by rfl⟩⟩
instance : TZero Tryd.prog 181 (Go.Value.agg #[(Go.Value.string { data := #[] }), (Go.Value.int Go.IntKind.u8 0)]) := ⟨Tryd.zeroValue181⟩
instance : TPlaces Tryd.prog 181 [(0, 1), (1, 1)] := ⟨fun w => ⟨_, Tryd.runUnderlying181 w, by simp [Tryd.sizeOf168, Tryd.sizeOf9]⟩⟩
instance : TField Tryd.prog 181 0 0 := ⟨fun b o w => fieldAt_of (f := { name := "Method", type := 9, offset := 0, embedded := false, tag := "", pkgPath := "", byteOffset := 0 }) (Tryd.runUnderlying181 w) rfl (Tryd.sizeOf9 w) (by decide) b o⟩
instance : TField Tryd.prog 181 1 1 := ⟨fun b o w => fieldAt_of (f := { name := "Kind", type := 168, offset := 1, embedded := false, tag := "", pkgPath := "", byteOffset := 16 }) (Tryd.runUnderlying181 w) rfl (Tryd.sizeOf168 w) (by decide) b o⟩
instance : TUnder Tryd.prog 182 (Go.TypeDesc.struct #[{ name := "s", type := 9, offset := 0, embedded := false, tag := "", pkgPath := "errors", byteOffset := 0 }]) := ⟨Tryd.runUnderlying182⟩
instance : TAgg Tryd.prog 182 1 := ⟨Tryd.isAgg182, Tryd.sizeOf182⟩
instance : TSize Tryd.prog 182 1 := ⟨Tryd.sizeOf182⟩
instance : TBytes Tryd.prog 182 16 := ⟨fun w => ⟨_, Tryd.typeInfo182 w, by rfl⟩⟩
instance : TZero Tryd.prog 182 (Go.Value.agg #[(Go.Value.string { data := #[] })]) := ⟨Tryd.zeroValue182⟩
instance : TPlaces Tryd.prog 182 [(0, 1)] := ⟨fun w => ⟨_, Tryd.runUnderlying182 w, by simp [Tryd.sizeOf9]⟩⟩
instance : TField Tryd.prog 182 0 0 := ⟨fun b o w => fieldAt_of (f := { name := "s", type := 9, offset := 0, embedded := false, tag := "", pkgPath := "errors", byteOffset := 0 }) (Tryd.runUnderlying182 w) rfl (Tryd.sizeOf9 w) (by decide) b o⟩
instance : TUnder Tryd.prog 183 (Go.TypeDesc.struct #[{ name := "s", type := 9, offset := 0, embedded := false, tag := "", pkgPath := "errors", byteOffset := 0 }]) := ⟨Tryd.runUnderlying183⟩
instance : TAgg Tryd.prog 183 1 := ⟨Tryd.isAgg183, Tryd.sizeOf183⟩
instance : TSize Tryd.prog 183 1 := ⟨Tryd.sizeOf183⟩
instance : TBytes Tryd.prog 183 16 := ⟨fun w => ⟨_, Tryd.typeInfo183 w, by rfl⟩⟩
instance : TZero Tryd.prog 183 (Go.Value.agg #[(Go.Value.string { data := #[] })]) := ⟨Tryd.zeroValue183⟩
instance : TPlaces Tryd.prog 183 [(0, 1)] := ⟨fun w => ⟨_, Tryd.runUnderlying183 w, by simp [Tryd.sizeOf9]⟩⟩
instance : TField Tryd.prog 183 0 0 := ⟨fun b o w => fieldAt_of (f := { name := "s", type := 9, offset := 0, embedded := false, tag := "", pkgPath := "errors", byteOffset := 0 }) (Tryd.runUnderlying183 w) rfl (Tryd.sizeOf9 w) (by decide) b o⟩
instance : TUnder Tryd.prog 184 (Go.TypeDesc.pointer 188) := ⟨Tryd.runUnderlying184⟩
instance : TPlain Tryd.prog 184 := ⟨Tryd.isAgg184, Tryd.sizeOf184⟩
instance : TSize Tryd.prog 184 1 := ⟨Tryd.sizeOf184⟩
instance : TBytes Tryd.prog 184 8 := ⟨fun w => ⟨_, Tryd.typeInfo184 w, by rfl⟩⟩
instance : TZero Tryd.prog 184 (Go.Value.pointer none) := ⟨Tryd.zeroValue184⟩
instance : TPlain Tryd.prog 185 := ⟨Tryd.isAgg185, Tryd.sizeOf185⟩
instance : TSize Tryd.prog 185 1 := ⟨Tryd.sizeOf185⟩
instance : TBytes Tryd.prog 185 8 := ⟨fun w => ⟨_, Tryd.typeInfo185 w, by rfl⟩⟩
instance : TZero Tryd.prog 185 Go.Value.nilFunc := ⟨Tryd.zeroValue185⟩
instance : TUnder Tryd.prog 186 (Go.TypeDesc.int Go.IntKind.u16) := ⟨Tryd.runUnderlying186⟩
instance : TPlain Tryd.prog 186 := ⟨Tryd.isAgg186, Tryd.sizeOf186⟩
instance : TSize Tryd.prog 186 1 := ⟨Tryd.sizeOf186⟩
instance : TBytes Tryd.prog 186 2 := ⟨fun w => ⟨_, Tryd.typeInfo186 w, by rfl⟩⟩
instance : TZero Tryd.prog 186 (Go.Value.int Go.IntKind.u16 0) := ⟨Tryd.zeroValue186⟩
instance : TUnder Tryd.prog 187 (Go.TypeDesc.struct #[{ name := "PkgPath", type := 170, offset := 0, embedded := false, tag := "", pkgPath := "", byteOffset := 0 }, { name := "Mcount", type := 186, offset := 1, embedded := false, tag := "", pkgPath := "", byteOffset := 4 }, { name := "Xcount", type := 186, offset := 2, embedded := false, tag := "", pkgPath := "", byteOffset := 6 }, { name := "Moff", type := 22, offset := 3, embedded := false, tag := "", pkgPath := "", byteOffset := 8 }, { name := "_", type := 22, offset := 4, embedded := false, tag := "", pkgPath := "internal/abi", byteOffset := 12 }]) := ⟨Tryd.runUnderlying187⟩
instance : TAgg Tryd.prog 187 5 := ⟨Tryd.isAgg187, Tryd.sizeOf187⟩
instance : TSize Tryd.prog 187 5 := ⟨Tryd.sizeOf187⟩
instance : TBytes Tryd.prog 187 16 := ⟨fun w => ⟨_, Tryd.typeInfo187 w, by rfl⟩⟩
instance : TZero Tryd.prog 187 (Go.Value.agg #[(Go.Value.int Go.IntKind.i32 0), (Go.Value.int Go.IntKind.u16 0), (Go.Value.int Go.IntKind.u16 0), (Go.Value.int Go.IntKind.u32 0), (Go.Value.int Go.IntKind.u32 0)]) := ⟨Tryd.zeroValue187⟩
instance : TPlaces Tryd.prog 187 [(0, 1), (1, 1), (2, 1), (3, 1), (4, 1)] := ⟨fun w => ⟨_, Tryd.runUnderlying187 w, by simp [Tryd.sizeOf170, Tryd.sizeOf186, Tryd.sizeOf22]⟩⟩
instance : TField Tryd.prog 187 0 0 := ⟨fun b o w => fieldAt_of (f := { name := "PkgPath", type := 170, offset := 0, embedded := false, tag := "", pkgPath := "", byteOffset := 0 }) (Tryd.runUnderlying187 w) rfl (Tryd.sizeOf170 w) (by decide) b o⟩
instance : TField Tryd.prog 187 1 1 := ⟨fun b o w => fieldAt_of (f := { name := "Mcount", type := 186, offset := 1, embedded := false, tag := "", pkgPath := "", byteOffset := 4 }) (Tryd.runUnderlying187 w) rfl (Tryd.sizeOf186 w) (by decide) b o⟩
instance : TField Tryd.prog 187 2 2 := ⟨fun b o w => fieldAt_of (f := { name := "Xcount", type := 186, offset := 2, embedded := false, tag := "", pkgPath := "", byteOffset := 6 }) (Tryd.runUnderlying187 w) rfl (Tryd.sizeOf186 w) (by decide) b o⟩
instance : TField Tryd.prog 187 3 3 := ⟨fun b o w => fieldAt_of (f := { name := "Moff", type := 22, offset := 3, embedded := false, tag := "", pkgPath := "", byteOffset := 8 }) (Tryd.runUnderlying187 w) rfl (Tryd.sizeOf22 w) (by decide) b o⟩
instance : TField Tryd.prog 187 4 4 := ⟨fun b o w => fieldAt_of (f := { name := "_", type := 22, offset := 4, embedded := false, tag := "", pkgPath := "internal/abi", byteOffset := 12 }) (Tryd.runUnderlying187 w) rfl (Tryd.sizeOf22 w) (by decide) b o⟩
instance : TUnder Tryd.prog 188 (Go.TypeDesc.struct #[{ name := "PkgPath", type := 170, offset := 0, embedded := false, tag := "", pkgPath := "", byteOffset := 0 }, { name := "Mcount", type := 186, offset := 1, embedded := false, tag := "", pkgPath := "", byteOffset := 4 }, { name := "Xcount", type := 186, offset := 2, embedded := false, tag := "", pkgPath := "", byteOffset := 6 }, { name := "Moff", type := 22, offset := 3, embedded := false, tag := "", pkgPath := "", byteOffset := 8 }, { name := "_", type := 22, offset := 4, embedded := false, tag := "", pkgPath := "internal/abi", byteOffset := 12 }]) := ⟨Tryd.runUnderlying188⟩
instance : TAgg Tryd.prog 188 5 := ⟨Tryd.isAgg188, Tryd.sizeOf188⟩
instance : TSize Tryd.prog 188 5 := ⟨Tryd.sizeOf188⟩
instance : TBytes Tryd.prog 188 16 := ⟨fun w => ⟨_, Tryd.typeInfo188 w, by rfl⟩⟩
instance : TZero Tryd.prog 188 (Go.Value.agg #[(Go.Value.int Go.IntKind.i32 0), (Go.Value.int Go.IntKind.u16 0), (Go.Value.int Go.IntKind.u16 0), (Go.Value.int Go.IntKind.u32 0), (Go.Value.int Go.IntKind.u32 0)]) := ⟨Tryd.zeroValue188⟩
instance : TPlaces Tryd.prog 188 [(0, 1), (1, 1), (2, 1), (3, 1), (4, 1)] := ⟨fun w => ⟨_, Tryd.runUnderlying188 w, by simp [Tryd.sizeOf170, Tryd.sizeOf186, Tryd.sizeOf22]⟩⟩
instance : TField Tryd.prog 188 0 0 := ⟨fun b o w => fieldAt_of (f := { name := "PkgPath", type := 170, offset := 0, embedded := false, tag := "", pkgPath := "", byteOffset := 0 }) (Tryd.runUnderlying188 w) rfl (Tryd.sizeOf170 w) (by decide) b o⟩
instance : TField Tryd.prog 188 1 1 := ⟨fun b o w => fieldAt_of (f := { name := "Mcount", type := 186, offset := 1, embedded := false, tag := "", pkgPath := "", byteOffset := 4 }) (Tryd.runUnderlying188 w) rfl (Tryd.sizeOf186 w) (by decide) b o⟩
instance : TField Tryd.prog 188 2 2 := ⟨fun b o w => fieldAt_of (f := { name := "Xcount", type := 186, offset := 2, embedded := false, tag := "", pkgPath := "", byteOffset := 6 }) (Tryd.runUnderlying188 w) rfl (Tryd.sizeOf186 w) (by decide) b o⟩
instance : TField Tryd.prog 188 3 3 := ⟨fun b o w => fieldAt_of (f := { name := "Moff", type := 22, offset := 3, embedded := false, tag := "", pkgPath := "", byteOffset := 8 }) (Tryd.runUnderlying188 w) rfl (Tryd.sizeOf22 w) (by decide) b o⟩
instance : TField Tryd.prog 188 4 4 := ⟨fun b o w => fieldAt_of (f := { name := "_", type := 22, offset := 4, embedded := false, tag := "", pkgPath := "internal/abi", byteOffset := 12 }) (Tryd.runUnderlying188 w) rfl (Tryd.sizeOf22 w) (by decide) b o⟩
instance : TUnder Tryd.prog 189 (Go.TypeDesc.slice 192) := ⟨Tryd.runUnderlying189⟩
instance : TPlain Tryd.prog 189 := ⟨Tryd.isAgg189, Tryd.sizeOf189⟩
instance : TSize Tryd.prog 189 1 := ⟨Tryd.sizeOf189⟩
instance : TBytes Tryd.prog 189 24 := ⟨fun w => ⟨_, Tryd.typeInfo189 w, by rfl⟩⟩
instance : TZero Tryd.prog 189 (Go.Value.slice none 0 0) := ⟨Tryd.zeroValue189⟩
instance : TUnder Tryd.prog 190 (Go.TypeDesc.int Go.IntKind.i32) := ⟨Tryd.runUnderlying190⟩
instance : TPlain Tryd.prog 190 := ⟨Tryd.isAgg190, Tryd.sizeOf190⟩
instance : TSize Tryd.prog 190 1 := ⟨Tryd.sizeOf190⟩
instance : TBytes Tryd.prog 190 4 := ⟨fun w => ⟨_, Tryd.typeInfo190 w, by rfl⟩⟩
instance : TZero Tryd.prog 190 (Go.Value.int Go.IntKind.i32 0) := ⟨Tryd.zeroValue190⟩
instance : TUnder Tryd.prog 191 (Go.TypeDesc.struct #[{ name := "Name", type := 170, offset := 0, embedded := false, tag := "", pkgPath := "", byteOffset := 0 }, { name := "Mtyp", type := 171, offset := 1, embedded := false, tag := "", pkgPath := "", byteOffset := 4 }, { name := "Ifn", type := 190, offset := 2, embedded := false, tag := "", pkgPath := "", byteOffset := 8 }, { name := "Tfn", type := 190, offset := 3, embedded := false, tag := "", pkgPath := "", byteOffset := 12 }]) := ⟨Tryd.runUnderlying191⟩
instance : TAgg Tryd.prog 191 4 := ⟨Tryd.isAgg191, Tryd.sizeOf191⟩
instance : TSize Tryd.prog 191 4 := ⟨Tryd.sizeOf191⟩
instance : TBytes Tryd.prog 191 16 := ⟨fun w => ⟨_, Tryd.typeInfo191 w, by rfl⟩⟩
instance : TZero Tryd.prog 191 (Go.Value.agg #[(Go.Value.int Go.IntKind.i32 0), (Go.Value.int Go.IntKind.i32 0), (Go.Value.int Go.IntKind.i32 0), (Go.Value.int Go.IntKind.i32 0)]) := ⟨Tryd.zeroValue191⟩
instance : TPlaces Tryd.prog 191 [(0, 1), (1, 1), (2, 1), (3, 1)] := ⟨fun w => ⟨_, Tryd.runUnderlying191 w, by simp [Tryd.sizeOf170, Tryd.sizeOf171, Tryd.sizeOf190]⟩⟩
instance : TField Tryd.prog 191 0 0 := ⟨fun b o w => fieldAt_of (f := { name := "Name", type := 170, offset := 0, embedded := false, tag := "", pkgPath := "", byteOffset := 0 }) (Tryd.runUnderlying191 w) rfl (Tryd.sizeOf170 w) (by decide) b o⟩
instance : TField Tryd.prog 191 1 1 := ⟨fun b o w => fieldAt_of (f := { name := "Mtyp", type := 171, offset := 1, embedded := false, tag := "", pkgPath := "", byteOffset := 4 }) (Tryd.runUnderlying191 w) rfl (Tryd.sizeOf171 w) (by decide) b o⟩
instance : TField Tryd.prog 191 2 2 := ⟨fun b o w => fieldAt_of (f := { name := "Ifn", type := 190, offset := 2, embedded := false, tag := "", pkgPath := "", byteOffset := 8 }) (Tryd.runUnderlying191 w) rfl (Tryd.sizeOf190 w) (by decide) b o⟩
instance : TField Tryd.prog 191 3 3 := ⟨fun b o w => fieldAt_of (f := { name := "Tfn", type := 190, offset := 3, embedded := false, tag := "", pkgPath := "", byteOffset := 12 }) (Tryd.runUnderlying191 w) rfl (Tryd.sizeOf190 w) (by decide) b o⟩
instance : TUnder Tryd.prog 192 (Go.TypeDesc.struct #[{ name := "Name", type := 170, offset := 0, embedded := false, tag := "", pkgPath := "", byteOffset := 0 }, { name := "Mtyp", type := 171, offset := 1, embedded := false, tag := "", pkgPath := "", byteOffset := 4 }, { name := "Ifn", type := 190, offset := 2, embedded := false, tag := "", pkgPath := "", byteOffset := 8 }, { name := "Tfn", type := 190, offset := 3, embedded := false, tag := "", pkgPath := "", byteOffset := 12 }]) := ⟨Tryd.runUnderlying192⟩
instance : TAgg Tryd.prog 192 4 := ⟨Tryd.isAgg192, Tryd.sizeOf192⟩
instance : TSize Tryd.prog 192 4 := ⟨Tryd.sizeOf192⟩
instance : TBytes Tryd.prog 192 16 := ⟨fun w => ⟨_, Tryd.typeInfo192 w, by rfl⟩⟩
instance : TZero Tryd.prog 192 (Go.Value.agg #[(Go.Value.int Go.IntKind.i32 0), (Go.Value.int Go.IntKind.i32 0), (Go.Value.int Go.IntKind.i32 0), (Go.Value.int Go.IntKind.i32 0)]) := ⟨Tryd.zeroValue192⟩
instance : TPlaces Tryd.prog 192 [(0, 1), (1, 1), (2, 1), (3, 1)] := ⟨fun w => ⟨_, Tryd.runUnderlying192 w, by simp [Tryd.sizeOf170, Tryd.sizeOf171, Tryd.sizeOf190]⟩⟩
instance : TField Tryd.prog 192 0 0 := ⟨fun b o w => fieldAt_of (f := { name := "Name", type := 170, offset := 0, embedded := false, tag := "", pkgPath := "", byteOffset := 0 }) (Tryd.runUnderlying192 w) rfl (Tryd.sizeOf170 w) (by decide) b o⟩
instance : TField Tryd.prog 192 1 1 := ⟨fun b o w => fieldAt_of (f := { name := "Mtyp", type := 171, offset := 1, embedded := false, tag := "", pkgPath := "", byteOffset := 4 }) (Tryd.runUnderlying192 w) rfl (Tryd.sizeOf171 w) (by decide) b o⟩
instance : TField Tryd.prog 192 2 2 := ⟨fun b o w => fieldAt_of (f := { name := "Ifn", type := 190, offset := 2, embedded := false, tag := "", pkgPath := "", byteOffset := 8 }) (Tryd.runUnderlying192 w) rfl (Tryd.sizeOf190 w) (by decide) b o⟩
instance : TField Tryd.prog 192 3 3 := ⟨fun b o w => fieldAt_of (f := { name := "Tfn", type := 190, offset := 3, embedded := false, tag := "", pkgPath := "", byteOffset := 12 }) (Tryd.runUnderlying192 w) rfl (Tryd.sizeOf190 w) (by decide) b o⟩
instance : TPlain Tryd.prog 193 := ⟨Tryd.isAgg193, Tryd.sizeOf193⟩
instance : TSize Tryd.prog 193 1 := ⟨Tryd.sizeOf193⟩
instance : TBytes Tryd.prog 193 8 := ⟨fun w => ⟨_, Tryd.typeInfo193 w, by rfl⟩⟩
instance : TZero Tryd.prog 193 Go.Value.nilFunc := ⟨Tryd.zeroValue193⟩
instance : Fun Tryd.prog 3 := ⟨fun args w => Tryd.call3 args w⟩
instance : Fun Tryd.prog 4 := ⟨fun args w => Tryd.call4 args w⟩
instance : Fun Tryd.prog 5 := ⟨fun args w => Tryd.call5 args w⟩
instance : Fun Tryd.prog 6 := ⟨fun args w => Tryd.call6 args w⟩
instance : Fun Tryd.prog 7 := ⟨fun args w => Tryd.call7 args w⟩
instance : Fun Tryd.prog 8 := ⟨fun args w => Tryd.call8 args w⟩
instance : Fun Tryd.prog 9 := ⟨fun args w => Tryd.call9 args w⟩
instance : Fun Tryd.prog 10 := ⟨fun args w => Tryd.call10 args w⟩
instance : Fun Tryd.prog 11 := ⟨fun args w => Tryd.call11 args w⟩
instance : Fun Tryd.prog 12 := ⟨fun args w => Tryd.call12 args w⟩
instance : Fun Tryd.prog 13 := ⟨fun args w => Tryd.call13 args w⟩
instance : Fun Tryd.prog 14 := ⟨fun args w => Tryd.call14 args w⟩
instance : Fun Tryd.prog 15 := ⟨fun args w => Tryd.call15 args w⟩
instance : Fun Tryd.prog 16 := ⟨fun args w => Tryd.call16 args w⟩
instance : Fun Tryd.prog 17 := ⟨fun args w => Tryd.call17 args w⟩
instance : Fun Tryd.prog 18 := ⟨fun args w => Tryd.call18 args w⟩
instance : Fun Tryd.prog 19 := ⟨fun args w => Tryd.call19 args w⟩
instance : Fun Tryd.prog 20 := ⟨fun args w => Tryd.call20 args w⟩
instance : Fun Tryd.prog 21 := ⟨fun args w => Tryd.call21 args w⟩
instance : Fun Tryd.prog 22 := ⟨fun args w => Tryd.call22 args w⟩
instance : Fun Tryd.prog 23 := ⟨fun args w => Tryd.call23 args w⟩
instance : Fun Tryd.prog 24 := ⟨fun args w => Tryd.call24 args w⟩
instance : Fun Tryd.prog 25 := ⟨fun args w => Tryd.call25 args w⟩
instance : Fun Tryd.prog 26 := ⟨fun args w => Tryd.call26 args w⟩
instance : Fun Tryd.prog 27 := ⟨fun args w => Tryd.call27 args w⟩
instance : Fun Tryd.prog 28 := ⟨fun args w => Tryd.call28 args w⟩
instance : Fun Tryd.prog 29 := ⟨fun args w => Tryd.call29 args w⟩
instance : Fun Tryd.prog 30 := ⟨fun args w => Tryd.call30 args w⟩
instance : Fun Tryd.prog 31 := ⟨fun args w => Tryd.call31 args w⟩
instance : Fun Tryd.prog 32 := ⟨fun args w => Tryd.call32 args w⟩
instance : Fun Tryd.prog 33 := ⟨fun args w => Tryd.call33 args w⟩
instance : Fun Tryd.prog 34 := ⟨fun args w => Tryd.call34 args w⟩
instance : Fun Tryd.prog 35 := ⟨fun args w => Tryd.call35 args w⟩
instance : Fun Tryd.prog 36 := ⟨fun args w => Tryd.call36 args w⟩
instance : Fun Tryd.prog 37 := ⟨fun args w => Tryd.call37 args w⟩
instance : Fun Tryd.prog 38 := ⟨fun args w => Tryd.call38 args w⟩
instance : Fun Tryd.prog 39 := ⟨fun args w => Tryd.call39 args w⟩
instance : Fun Tryd.prog 40 := ⟨fun args w => Tryd.call40 args w⟩
instance : Fun Tryd.prog 41 := ⟨fun args w => Tryd.call41 args w⟩
instance : Fun Tryd.prog 42 := ⟨fun args w => Tryd.call42 args w⟩
instance : Fun Tryd.prog 43 := ⟨fun args w => Tryd.call43 args w⟩
instance : Fun Tryd.prog 44 := ⟨fun args w => Tryd.call44 args w⟩
instance : Fun Tryd.prog 45 := ⟨fun args w => Tryd.call45 args w⟩
instance : Fun Tryd.prog 46 := ⟨fun args w => Tryd.call46 args w⟩
instance : Fun Tryd.prog 47 := ⟨fun args w => Tryd.call47 args w⟩
instance : Fun Tryd.prog 48 := ⟨fun args w => Tryd.call48 args w⟩
instance : Fun Tryd.prog 49 := ⟨fun args w => Tryd.call49 args w⟩
instance : Fun Tryd.prog 50 := ⟨fun args w => Tryd.call50 args w⟩
instance : Fun Tryd.prog 51 := ⟨fun args w => Tryd.call51 args w⟩
instance : Fun Tryd.prog 52 := ⟨fun args w => Tryd.call52 args w⟩
instance : Fun Tryd.prog 53 := ⟨fun args w => Tryd.call53 args w⟩
instance : Fun Tryd.prog 54 := ⟨fun args w => Tryd.call54 args w⟩
instance : Fun Tryd.prog 55 := ⟨fun args w => Tryd.call55 args w⟩
instance : Fun Tryd.prog 56 := ⟨fun args w => Tryd.call56 args w⟩
instance : Fun Tryd.prog 57 := ⟨fun args w => Tryd.call57 args w⟩
instance : Fun Tryd.prog 58 := ⟨fun args w => Tryd.call58 args w⟩
instance : Fun Tryd.prog 59 := ⟨fun args w => Tryd.call59 args w⟩
instance : Fun Tryd.prog 61 := ⟨fun args w => Tryd.call61 args w⟩
instance : Fun Tryd.prog 62 := ⟨fun args w => Tryd.call62 args w⟩
instance : Fun Tryd.prog 63 := ⟨fun args w => Tryd.call63 args w⟩
instance : Fun Tryd.prog 64 := ⟨fun args w => Tryd.call64 args w⟩
instance : Fun Tryd.prog 65 := ⟨fun args w => Tryd.call65 args w⟩
instance : Fun Tryd.prog 66 := ⟨fun args w => Tryd.call66 args w⟩
instance : Fun Tryd.prog 67 := ⟨fun args w => Tryd.call67 args w⟩
instance : Fun Tryd.prog 68 := ⟨fun args w => Tryd.call68 args w⟩
instance : Fun Tryd.prog 69 := ⟨fun args w => Tryd.call69 args w⟩
instance : Fun Tryd.prog 70 := ⟨fun args w => Tryd.call70 args w⟩
instance : Fun Tryd.prog 71 := ⟨fun args w => Tryd.call71 args w⟩
instance : Fun Tryd.prog 72 := ⟨fun args w => Tryd.call72 args w⟩
instance : Fun Tryd.prog 73 := ⟨fun args w => Tryd.call73 args w⟩
instance : Fun Tryd.prog 74 := ⟨fun args w => Tryd.call74 args w⟩
instance : Fun Tryd.prog 75 := ⟨fun args w => Tryd.call75 args w⟩
instance : Fun Tryd.prog 76 := ⟨fun args w => Tryd.call76 args w⟩
instance : Fun Tryd.prog 77 := ⟨fun args w => Tryd.call77 args w⟩
instance : Fun Tryd.prog 78 := ⟨fun args w => Tryd.call78 args w⟩
instance : Fun Tryd.prog 79 := ⟨fun args w => Tryd.call79 args w⟩
instance : Fun Tryd.prog 80 := ⟨fun args w => Tryd.call80 args w⟩
instance : Fun Tryd.prog 81 := ⟨fun args w => Tryd.call81 args w⟩
instance : Fun Tryd.prog 82 := ⟨fun args w => Tryd.call82 args w⟩
instance : Fun Tryd.prog 83 := ⟨fun args w => Tryd.call83 args w⟩
instance : Fun Tryd.prog 84 := ⟨fun args w => Tryd.call84 args w⟩
instance : Fun Tryd.prog 85 := ⟨fun args w => Tryd.call85 args w⟩
instance : Fun Tryd.prog 86 := ⟨fun args w => Tryd.call86 args w⟩
instance : Fun Tryd.prog 87 := ⟨fun args w => Tryd.call87 args w⟩
instance : Fun Tryd.prog 88 := ⟨fun args w => Tryd.call88 args w⟩
instance : Fun Tryd.prog 89 := ⟨fun args w => Tryd.call89 args w⟩
instance : Fun Tryd.prog 90 := ⟨fun args w => Tryd.call90 args w⟩
instance : Fun Tryd.prog 91 := ⟨fun args w => Tryd.call91 args w⟩
instance : Fun Tryd.prog 92 := ⟨fun args w => Tryd.call92 args w⟩
instance : Fun Tryd.prog 93 := ⟨fun args w => Tryd.call93 args w⟩
instance : Fun Tryd.prog 94 := ⟨fun args w => Tryd.call94 args w⟩
instance : Fun Tryd.prog 129 := ⟨fun args w => Tryd.call129 args w⟩
instance : Fun Tryd.prog 133 := ⟨fun args w => Tryd.call133 args w⟩

end Go.Rost
