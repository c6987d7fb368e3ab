/- What the rules ask of the types and functions: printed by a program of this work, each by the loaded facts. -/
import Derived.Test.YtebdfelodihdhaaProg
import Derived.Test.YtebdfelodihdhaaHx
namespace Go.Rost
open Go Go.Proofs

instance : TPlain Try.prog 1 := ⟨Try.isAgg1, Try.sizeOf1⟩
instance : TSize Try.prog 1 1 := ⟨Try.sizeOf1⟩
instance : TBytes Try.prog 1 8 := ⟨fun w => ⟨_, Try.typeInfo1 w, by rfl⟩⟩
instance : TZero Try.prog 1 Go.Value.nilFunc := ⟨Try.zeroValue1⟩
instance : TUnder Try.prog 2 (Go.TypeDesc.int Go.IntKind.i64) := ⟨Try.runUnderlying2⟩
instance : TPlain Try.prog 2 := ⟨Try.isAgg2, Try.sizeOf2⟩
instance : TSize Try.prog 2 1 := ⟨Try.sizeOf2⟩
instance : TBytes Try.prog 2 8 := ⟨fun w => ⟨_, Try.typeInfo2 w, by rfl⟩⟩
instance : TZero Try.prog 2 (Go.Value.int Go.IntKind.i64 0) := ⟨Try.zeroValue2⟩
instance : TUnder Try.prog 3 (Go.TypeDesc.int Go.IntKind.i64) := ⟨Try.runUnderlying3⟩
instance : TPlain Try.prog 3 := ⟨Try.isAgg3, Try.sizeOf3⟩
instance : TSize Try.prog 3 1 := ⟨Try.sizeOf3⟩
instance : TBytes Try.prog 3 8 := ⟨fun w => ⟨_, Try.typeInfo3 w, by rfl⟩⟩
instance : TZero Try.prog 3 (Go.Value.int Go.IntKind.i64 0) := ⟨Try.zeroValue3⟩
instance : TUnder Try.prog 4 Go.TypeDesc.bool := ⟨Try.runUnderlying4⟩
instance : TPlain Try.prog 4 := ⟨Try.isAgg4, Try.sizeOf4⟩
instance : TSize Try.prog 4 1 := ⟨Try.sizeOf4⟩
instance : TBytes Try.prog 4 1 := ⟨fun w => ⟨_, Try.typeInfo4 w, by rfl⟩⟩
instance : TZero Try.prog 4 (Go.Value.bool false) := ⟨Try.zeroValue4⟩
instance : TUnder Try.prog 5 (Go.TypeDesc.int Go.IntKind.u8) := ⟨Try.runUnderlying5⟩
instance : TPlain Try.prog 5 := ⟨Try.isAgg5, Try.sizeOf5⟩
instance : TSize Try.prog 5 1 := ⟨Try.sizeOf5⟩
instance : TBytes Try.prog 5 1 := ⟨fun w => ⟨_, Try.typeInfo5 w, by rfl⟩⟩
instance : TZero Try.prog 5 (Go.Value.int Go.IntKind.u8 0) := ⟨Try.zeroValue5⟩
instance : TUnder Try.prog 6 (Go.TypeDesc.int Go.IntKind.u8) := ⟨Try.runUnderlying6⟩
instance : TPlain Try.prog 6 := ⟨Try.isAgg6, Try.sizeOf6⟩
instance : TSize Try.prog 6 1 := ⟨Try.sizeOf6⟩
instance : TBytes Try.prog 6 1 := ⟨fun w => ⟨_, Try.typeInfo6 w, by rfl⟩⟩
instance : TZero Try.prog 6 (Go.Value.int Go.IntKind.u8 0) := ⟨Try.zeroValue6⟩
instance : TUnder Try.prog 7 (Go.TypeDesc.struct #[{ name := "x", type := 2, offset := 0, embedded := false, tag := "", pkgPath := "runtime", byteOffset := 0 }, { name := "y", type := 3, offset := 1, embedded := false, tag := "", pkgPath := "runtime", byteOffset := 8 }, { name := "signed", type := 4, offset := 2, embedded := false, tag := "", pkgPath := "runtime", byteOffset := 16 }, { name := "code", type := 6, offset := 3, embedded := false, tag := "", pkgPath := "runtime", byteOffset := 17 }]) := ⟨Try.runUnderlying7⟩
instance : TAgg Try.prog 7 4 := ⟨Try.isAgg7, Try.sizeOf7⟩
instance : TSize Try.prog 7 4 := ⟨Try.sizeOf7⟩
instance : TBytes Try.prog 7 24 := ⟨fun w => ⟨_, Try.typeInfo7 w, by rfl⟩⟩
instance : TZero Try.prog 7 (Go.Value.agg #[(Go.Value.int Go.IntKind.i64 0), (Go.Value.int Go.IntKind.i64 0), (Go.Value.bool false), (Go.Value.int Go.IntKind.u8 0)]) := ⟨Try.zeroValue7⟩
instance : TPlaces Try.prog 7 [(0, 1), (1, 1), (2, 1), (3, 1)] := ⟨fun w => ⟨_, Try.runUnderlying7 w, by simp [Try.sizeOf2, Try.sizeOf3, Try.sizeOf4, Try.sizeOf6]⟩⟩
instance : TField Try.prog 7 0 0 := ⟨fun b o w => fieldAt_of (f := { name := "x", type := 2, offset := 0, embedded := false, tag := "", pkgPath := "runtime", byteOffset := 0 }) (Try.runUnderlying7 w) rfl (Try.sizeOf2 w) (by decide) b o⟩
instance : TField Try.prog 7 1 1 := ⟨fun b o w => fieldAt_of (f := { name := "y", type := 3, offset := 1, embedded := false, tag := "", pkgPath := "runtime", byteOffset := 8 }) (Try.runUnderlying7 w) rfl (Try.sizeOf3 w) (by decide) b o⟩
instance : TField Try.prog 7 2 2 := ⟨fun b o w => fieldAt_of (f := { name := "signed", type := 4, offset := 2, embedded := false, tag := "", pkgPath := "runtime", byteOffset := 16 }) (Try.runUnderlying7 w) rfl (Try.sizeOf4 w) (by decide) b o⟩
instance : TField Try.prog 7 3 3 := ⟨fun b o w => fieldAt_of (f := { name := "code", type := 6, offset := 3, embedded := false, tag := "", pkgPath := "runtime", byteOffset := 17 }) (Try.runUnderlying7 w) rfl (Try.sizeOf6 w) (by decide) b o⟩
instance : TUnder Try.prog 8 (Go.TypeDesc.struct #[{ name := "x", type := 2, offset := 0, embedded := false, tag := "", pkgPath := "runtime", byteOffset := 0 }, { name := "y", type := 3, offset := 1, embedded := false, tag := "", pkgPath := "runtime", byteOffset := 8 }, { name := "signed", type := 4, offset := 2, embedded := false, tag := "", pkgPath := "runtime", byteOffset := 16 }, { name := "code", type := 6, offset := 3, embedded := false, tag := "", pkgPath := "runtime", byteOffset := 17 }]) := ⟨Try.runUnderlying8⟩
instance : TAgg Try.prog 8 4 := ⟨Try.isAgg8, Try.sizeOf8⟩
instance : TSize Try.prog 8 4 := ⟨Try.sizeOf8⟩
instance : TBytes Try.prog 8 24 := ⟨fun w => ⟨_, Try.typeInfo8 w, by rfl⟩⟩
instance : TZero Try.prog 8 (Go.Value.agg #[(Go.Value.int Go.IntKind.i64 0), (Go.Value.int Go.IntKind.i64 0), (Go.Value.bool false), (Go.Value.int Go.IntKind.u8 0)]) := ⟨Try.zeroValue8⟩
instance : TPlaces Try.prog 8 [(0, 1), (1, 1), (2, 1), (3, 1)] := ⟨fun w => ⟨_, Try.runUnderlying8 w, by simp [Try.sizeOf2, Try.sizeOf3, Try.sizeOf4, Try.sizeOf6]⟩⟩
instance : TField Try.prog 8 0 0 := ⟨fun b o w => fieldAt_of (f := { name := "x", type := 2, offset := 0, embedded := false, tag := "", pkgPath := "runtime", byteOffset := 0 }) (Try.runUnderlying8 w) rfl (Try.sizeOf2 w) (by decide) b o⟩
instance : TField Try.prog 8 1 1 := ⟨fun b o w => fieldAt_of (f := { name := "y", type := 3, offset := 1, embedded := false, tag := "", pkgPath := "runtime", byteOffset := 8 }) (Try.runUnderlying8 w) rfl (Try.sizeOf3 w) (by decide) b o⟩
instance : TField Try.prog 8 2 2 := ⟨fun b o w => fieldAt_of (f := { name := "signed", type := 4, offset := 2, embedded := false, tag := "", pkgPath := "runtime", byteOffset := 16 }) (Try.runUnderlying8 w) rfl (Try.sizeOf4 w) (by decide) b o⟩
instance : TField Try.prog 8 3 3 := ⟨fun b o w => fieldAt_of (f := { name := "code", type := 6, offset := 3, embedded := false, tag := "", pkgPath := "runtime", byteOffset := 17 }) (Try.runUnderlying8 w) rfl (Try.sizeOf6 w) (by decide) b o⟩
instance : TUnder Try.prog 9 Go.TypeDesc.string := ⟨Try.runUnderlying9⟩
instance : TPlain Try.prog 9 := ⟨Try.isAgg9, Try.sizeOf9⟩
instance : TSize Try.prog 9 1 := ⟨Try.sizeOf9⟩
instance : TBytes Try.prog 9 16 := ⟨fun w => ⟨_, Try.typeInfo9 w, by rfl⟩⟩
instance : TZero Try.prog 9 (Go.Value.string { data := #[] }) := ⟨Try.zeroValue9⟩
instance : TUnder Try.prog 10 Go.TypeDesc.string := ⟨Try.runUnderlying10⟩
instance : TPlain Try.prog 10 := ⟨Try.isAgg10, Try.sizeOf10⟩
instance : TSize Try.prog 10 1 := ⟨Try.sizeOf10⟩
instance : TBytes Try.prog 10 16 := ⟨fun w => ⟨_, Try.typeInfo10 w, by rfl⟩⟩
instance : TZero Try.prog 10 (Go.Value.string { data := #[] }) := ⟨Try.zeroValue10⟩
instance : TUnder Try.prog 11 Go.TypeDesc.string := ⟨Try.runUnderlying11⟩
instance : TPlain Try.prog 11 := ⟨Try.isAgg11, Try.sizeOf11⟩
instance : TSize Try.prog 11 1 := ⟨Try.sizeOf11⟩
instance : TBytes Try.prog 11 16 := ⟨fun w => ⟨_, Try.typeInfo11 w, by rfl⟩⟩
instance : TZero Try.prog 11 (Go.Value.string { data := #[] }) := ⟨Try.zeroValue11⟩
instance : TUnder Try.prog 12 (Go.TypeDesc.int Go.IntKind.u64) := ⟨Try.runUnderlying12⟩
instance : TPlain Try.prog 12 := ⟨Try.isAgg12, Try.sizeOf12⟩
instance : TSize Try.prog 12 1 := ⟨Try.sizeOf12⟩
instance : TBytes Try.prog 12 8 := ⟨fun w => ⟨_, Try.typeInfo12 w, by rfl⟩⟩
instance : TZero Try.prog 12 (Go.Value.int Go.IntKind.u64 0) := ⟨Try.zeroValue12⟩
instance : TUnder Try.prog 13 (Go.TypeDesc.struct #[{ name := "msg", type := 9, offset := 0, embedded := false, tag := "", pkgPath := "runtime", byteOffset := 0 }, { name := "addr", type := 12, offset := 1, embedded := false, tag := "", pkgPath := "runtime", byteOffset := 16 }]) := ⟨Try.runUnderlying13⟩
instance : TAgg Try.prog 13 2 := ⟨Try.isAgg13, Try.sizeOf13⟩
instance : TSize Try.prog 13 2 := ⟨Try.sizeOf13⟩
instance : TBytes Try.prog 13 24 := ⟨fun w => ⟨_, Try.typeInfo13 w, by rfl⟩⟩
instance : TZero Try.prog 13 (Go.Value.agg #[(Go.Value.string { data := #[] }), (Go.Value.int Go.IntKind.u64 0)]) := ⟨Try.zeroValue13⟩
instance : TPlaces Try.prog 13 [(0, 1), (1, 1)] := ⟨fun w => ⟨_, Try.runUnderlying13 w, by simp [Try.sizeOf12, Try.sizeOf9]⟩⟩
instance : TField Try.prog 13 0 0 := ⟨fun b o w => fieldAt_of (f := { name := "msg", type := 9, offset := 0, embedded := false, tag := "", pkgPath := "runtime", byteOffset := 0 }) (Try.runUnderlying13 w) rfl (Try.sizeOf9 w) (by decide) b o⟩
instance : TField Try.prog 13 1 1 := ⟨fun b o w => fieldAt_of (f := { name := "addr", type := 12, offset := 1, embedded := false, tag := "", pkgPath := "runtime", byteOffset := 16 }) (Try.runUnderlying13 w) rfl (Try.sizeOf12 w) (by decide) b o⟩
instance : TUnder Try.prog 14 (Go.TypeDesc.struct #[{ name := "msg", type := 9, offset := 0, embedded := false, tag := "", pkgPath := "runtime", byteOffset := 0 }, { name := "addr", type := 12, offset := 1, embedded := false, tag := "", pkgPath := "runtime", byteOffset := 16 }]) := ⟨Try.runUnderlying14⟩
instance : TAgg Try.prog 14 2 := ⟨Try.isAgg14, Try.sizeOf14⟩
instance : TSize Try.prog 14 2 := ⟨Try.sizeOf14⟩
instance : TBytes Try.prog 14 24 := ⟨fun w => ⟨_, Try.typeInfo14 w, by rfl⟩⟩
instance : TZero Try.prog 14 (Go.Value.agg #[(Go.Value.string { data := #[] }), (Go.Value.int Go.IntKind.u64 0)]) := ⟨Try.zeroValue14⟩
instance : TPlaces Try.prog 14 [(0, 1), (1, 1)] := ⟨fun w => ⟨_, Try.runUnderlying14 w, by simp [Try.sizeOf12, Try.sizeOf9]⟩⟩
instance : TField Try.prog 14 0 0 := ⟨fun b o w => fieldAt_of (f := { name := "msg", type := 9, offset := 0, embedded := false, tag := "", pkgPath := "runtime", byteOffset := 0 }) (Try.runUnderlying14 w) rfl (Try.sizeOf9 w) (by decide) b o⟩
instance : TField Try.prog 14 1 1 := ⟨fun b o w => fieldAt_of (f := { name := "addr", type := 12, offset := 1, embedded := false, tag := "", pkgPath := "runtime", byteOffset := 16 }) (Try.runUnderlying14 w) rfl (Try.sizeOf12 w) (by decide) b o⟩
instance : TUnder Try.prog 15 (Go.TypeDesc.pointer 103) := ⟨Try.runUnderlying15⟩
instance : TPlain Try.prog 15 := ⟨Try.isAgg15, Try.sizeOf15⟩
instance : TSize Try.prog 15 1 := ⟨Try.sizeOf15⟩
instance : TBytes Try.prog 15 8 := ⟨fun w => ⟨_, Try.typeInfo15 w, by rfl⟩⟩
instance : TZero Try.prog 15 (Go.Value.pointer none) := ⟨Try.zeroValue15⟩
instance : TUnder Try.prog 16 (Go.TypeDesc.pointer 106) := ⟨Try.runUnderlying16⟩
instance : TPlain Try.prog 16 := ⟨Try.isAgg16, Try.sizeOf16⟩
instance : TSize Try.prog 16 1 := ⟨Try.sizeOf16⟩
instance : TBytes Try.prog 16 8 := ⟨fun w => ⟨_, Try.typeInfo16 w, by rfl⟩⟩
instance : TZero Try.prog 16 (Go.Value.pointer none) := ⟨Try.zeroValue16⟩
instance : TUnder Try.prog 17 (Go.TypeDesc.pointer 113) := ⟨Try.runUnderlying17⟩
instance : TPlain Try.prog 17 := ⟨Try.isAgg17, Try.sizeOf17⟩
instance : TSize Try.prog 17 1 := ⟨Try.sizeOf17⟩
instance : TBytes Try.prog 17 8 := ⟨fun w => ⟨_, Try.typeInfo17 w, by rfl⟩⟩
instance : TZero Try.prog 17 (Go.Value.pointer none) := ⟨Try.zeroValue17⟩
instance : TUnder Try.prog 18 (Go.TypeDesc.struct #[{ name := "typ", type := 17, offset := 0, embedded := false, tag := "", pkgPath := "internal/runtime/maps", byteOffset := 0 }]) := ⟨Try.runUnderlying18⟩
instance : TAgg Try.prog 18 1 := ⟨Try.isAgg18, Try.sizeOf18⟩
instance : TSize Try.prog 18 1 := ⟨Try.sizeOf18⟩
instance : TBytes Try.prog 18 8 := ⟨fun w => ⟨_, Try.typeInfo18 w, by rfl⟩⟩
instance : TZero Try.prog 18 (Go.Value.agg #[(Go.Value.pointer none)]) := ⟨Try.zeroValue18⟩
instance : TPlaces Try.prog 18 [(0, 1)] := ⟨fun w => ⟨_, Try.runUnderlying18 w, by simp [Try.sizeOf17]⟩⟩
instance : TField Try.prog 18 0 0 := ⟨fun b o w => fieldAt_of (f := { name := "typ", type := 17, offset := 0, embedded := false, tag := "", pkgPath := "internal/runtime/maps", byteOffset := 0 }) (Try.runUnderlying18 w) rfl (Try.sizeOf17 w) (by decide) b o⟩
instance : TUnder Try.prog 19 (Go.TypeDesc.struct #[{ name := "typ", type := 17, offset := 0, embedded := false, tag := "", pkgPath := "internal/runtime/maps", byteOffset := 0 }]) := ⟨Try.runUnderlying19⟩
instance : TAgg Try.prog 19 1 := ⟨Try.isAgg19, Try.sizeOf19⟩
instance : TSize Try.prog 19 1 := ⟨Try.sizeOf19⟩
instance : TBytes Try.prog 19 8 := ⟨fun w => ⟨_, Try.typeInfo19 w, by rfl⟩⟩
instance : TZero Try.prog 19 (Go.Value.agg #[(Go.Value.pointer none)]) := ⟨Try.zeroValue19⟩
instance : TPlaces Try.prog 19 [(0, 1)] := ⟨fun w => ⟨_, Try.runUnderlying19 w, by simp [Try.sizeOf17]⟩⟩
instance : TField Try.prog 19 0 0 := ⟨fun b o w => fieldAt_of (f := { name := "typ", type := 17, offset := 0, embedded := false, tag := "", pkgPath := "internal/runtime/maps", byteOffset := 0 }) (Try.runUnderlying19 w) rfl (Try.sizeOf17 w) (by decide) b o⟩
instance : TPlain Try.prog 20 := ⟨Try.isAgg20, Try.sizeOf20⟩
instance : TSize Try.prog 20 1 := ⟨Try.sizeOf20⟩
instance : TBytes Try.prog 20 16 := ⟨fun w => ⟨_, Try.typeInfo20 w, by rfl⟩⟩
instance : TZero Try.prog 20 Go.Value.nilIface := ⟨Try.zeroValue20⟩
instance : TUnder Try.prog 21 (Go.TypeDesc.int Go.IntKind.i32) := ⟨Try.runUnderlying21⟩
instance : TPlain Try.prog 21 := ⟨Try.isAgg21, Try.sizeOf21⟩
instance : TSize Try.prog 21 1 := ⟨Try.sizeOf21⟩
instance : TBytes Try.prog 21 4 := ⟨fun w => ⟨_, Try.typeInfo21 w, by rfl⟩⟩
instance : TZero Try.prog 21 (Go.Value.int Go.IntKind.i32 0) := ⟨Try.zeroValue21⟩
instance : TUnder Try.prog 22 (Go.TypeDesc.slice 33) := ⟨Try.runUnderlying22⟩
instance : TPlain Try.prog 22 := ⟨Try.isAgg22, Try.sizeOf22⟩
instance : TSize Try.prog 22 1 := ⟨Try.sizeOf22⟩
instance : TBytes Try.prog 22 24 := ⟨fun w => ⟨_, Try.typeInfo22 w, by rfl⟩⟩
instance : TZero Try.prog 22 (Go.Value.slice none 0 0) := ⟨Try.zeroValue22⟩
instance : TPlain Try.prog 23 := ⟨Try.isAgg23, Try.sizeOf23⟩
instance : TSize Try.prog 23 1 := ⟨Try.sizeOf23⟩
instance : TBytes Try.prog 23 8 := ⟨fun w => ⟨_, Try.typeInfo23 w, by rfl⟩⟩
instance : TZero Try.prog 23 Go.Value.nilFunc := ⟨Try.zeroValue23⟩
instance : TUnder Try.prog 24 (Go.TypeDesc.pointer 56) := ⟨Try.runUnderlying24⟩
instance : TPlain Try.prog 24 := ⟨Try.isAgg24, Try.sizeOf24⟩
instance : TSize Try.prog 24 1 := ⟨Try.sizeOf24⟩
instance : TBytes Try.prog 24 8 := ⟨fun w => ⟨_, Try.typeInfo24 w, by rfl⟩⟩
instance : TZero Try.prog 24 (Go.Value.pointer none) := ⟨Try.zeroValue24⟩
instance : TUnder Try.prog 25 (Go.TypeDesc.int Go.IntKind.i64) := ⟨Try.runUnderlying25⟩
instance : TPlain Try.prog 25 := ⟨Try.isAgg25, Try.sizeOf25⟩
instance : TSize Try.prog 25 1 := ⟨Try.sizeOf25⟩
instance : TBytes Try.prog 25 8 := ⟨fun w => ⟨_, Try.typeInfo25 w, by rfl⟩⟩
instance : TZero Try.prog 25 (Go.Value.int Go.IntKind.i64 0) := ⟨Try.zeroValue25⟩
instance : TPlain Try.prog 27 := ⟨Try.isAgg27, Try.sizeOf27⟩
instance : TSize Try.prog 27 1 := ⟨Try.sizeOf27⟩
instance : TBytes Try.prog 27 8 := ⟨fun w => ⟨_, Try.typeInfo27 w, by rfl⟩⟩
instance : TZero Try.prog 27 Go.Value.nilFunc := ⟨Try.zeroValue27⟩
instance : TUnder Try.prog 28 (Go.TypeDesc.slice 50) := ⟨Try.runUnderlying28⟩
instance : TPlain Try.prog 28 := ⟨Try.isAgg28, Try.sizeOf28⟩
instance : TSize Try.prog 28 1 := ⟨Try.sizeOf28⟩
instance : TBytes Try.prog 28 24 := ⟨fun w => ⟨_, Try.typeInfo28 w, by rfl⟩⟩
instance : TZero Try.prog 28 (Go.Value.slice none 0 0) := ⟨Try.zeroValue28⟩
instance : TPlain Try.prog 30 := ⟨Try.isAgg30, Try.sizeOf30⟩
instance : TSize Try.prog 30 1 := ⟨Try.sizeOf30⟩
instance : TBytes Try.prog 30 8 := ⟨fun w => ⟨_, Try.typeInfo30 w, by rfl⟩⟩
instance : TZero Try.prog 30 Go.Value.nilFunc := ⟨Try.zeroValue30⟩
instance : TUnder Try.prog 31 (Go.TypeDesc.int Go.IntKind.u32) := ⟨Try.runUnderlying31⟩
instance : TPlain Try.prog 31 := ⟨Try.isAgg31, Try.sizeOf31⟩
instance : TSize Try.prog 31 1 := ⟨Try.sizeOf31⟩
instance : TBytes Try.prog 31 4 := ⟨fun w => ⟨_, Try.typeInfo31 w, by rfl⟩⟩
instance : TZero Try.prog 31 (Go.Value.int Go.IntKind.u32 0) := ⟨Try.zeroValue31⟩
instance : TUnder Try.prog 32 (Go.TypeDesc.struct #[{ name := "Kind", type := 3, offset := 0, embedded := false, tag := "", pkgPath := "", byteOffset := 0 }, { name := "Epoch", type := 31, offset := 1, embedded := false, tag := "", pkgPath := "", byteOffset := 8 }, { name := "Version", type := 3, offset := 2, embedded := false, tag := "", pkgPath := "", byteOffset := 16 }, { name := "Msgs", type := 28, offset := 3, embedded := false, tag := "", pkgPath := "", byteOffset := 24 }]) := ⟨Try.runUnderlying32⟩
instance : TAgg Try.prog 32 4 := ⟨Try.isAgg32, Try.sizeOf32⟩
instance : TSize Try.prog 32 4 := ⟨Try.sizeOf32⟩
instance : TBytes Try.prog 32 48 := ⟨fun w => ⟨_, Try.typeInfo32 w, by rfl⟩⟩
instance : TZero Try.prog 32 (Go.Value.agg #[(Go.Value.int Go.IntKind.i64 0), (Go.Value.int Go.IntKind.u32 0), (Go.Value.int Go.IntKind.i64 0), (Go.Value.slice none 0 0)]) := ⟨Try.zeroValue32⟩
instance : TPlaces Try.prog 32 [(0, 1), (1, 1), (2, 1), (3, 1)] := ⟨fun w => ⟨_, Try.runUnderlying32 w, by simp [Try.sizeOf28, Try.sizeOf3, Try.sizeOf31]⟩⟩
instance : TField Try.prog 32 0 0 := ⟨fun b o w => fieldAt_of (f := { name := "Kind", type := 3, offset := 0, embedded := false, tag := "", pkgPath := "", byteOffset := 0 }) (Try.runUnderlying32 w) rfl (Try.sizeOf3 w) (by decide) b o⟩
instance : TField Try.prog 32 1 1 := ⟨fun b o w => fieldAt_of (f := { name := "Epoch", type := 31, offset := 1, embedded := false, tag := "", pkgPath := "", byteOffset := 8 }) (Try.runUnderlying32 w) rfl (Try.sizeOf31 w) (by decide) b o⟩
instance : TField Try.prog 32 2 2 := ⟨fun b o w => fieldAt_of (f := { name := "Version", type := 3, offset := 2, embedded := false, tag := "", pkgPath := "", byteOffset := 16 }) (Try.runUnderlying32 w) rfl (Try.sizeOf3 w) (by decide) b o⟩
instance : TField Try.prog 32 3 3 := ⟨fun b o w => fieldAt_of (f := { name := "Msgs", type := 28, offset := 3, embedded := false, tag := "", pkgPath := "", byteOffset := 24 }) (Try.runUnderlying32 w) rfl (Try.sizeOf28 w) (by decide) b o⟩
instance : TUnder Try.prog 33 (Go.TypeDesc.struct #[{ name := "Kind", type := 3, offset := 0, embedded := false, tag := "", pkgPath := "", byteOffset := 0 }, { name := "Epoch", type := 31, offset := 1, embedded := false, tag := "", pkgPath := "", byteOffset := 8 }, { name := "Version", type := 3, offset := 2, embedded := false, tag := "", pkgPath := "", byteOffset := 16 }, { name := "Msgs", type := 28, offset := 3, embedded := false, tag := "", pkgPath := "", byteOffset := 24 }]) := ⟨Try.runUnderlying33⟩
instance : TAgg Try.prog 33 4 := ⟨Try.isAgg33, Try.sizeOf33⟩
instance : TSize Try.prog 33 4 := ⟨Try.sizeOf33⟩
instance : TBytes Try.prog 33 48 := ⟨fun w => ⟨_, Try.typeInfo33 w, by rfl⟩⟩
instance : TZero Try.prog 33 (Go.Value.agg #[(Go.Value.int Go.IntKind.i64 0), (Go.Value.int Go.IntKind.u32 0), (Go.Value.int Go.IntKind.i64 0), (Go.Value.slice none 0 0)]) := ⟨Try.zeroValue33⟩
instance : TPlaces Try.prog 33 [(0, 1), (1, 1), (2, 1), (3, 1)] := ⟨fun w => ⟨_, Try.runUnderlying33 w, by simp [Try.sizeOf28, Try.sizeOf3, Try.sizeOf31]⟩⟩
instance : TField Try.prog 33 0 0 := ⟨fun b o w => fieldAt_of (f := { name := "Kind", type := 3, offset := 0, embedded := false, tag := "", pkgPath := "", byteOffset := 0 }) (Try.runUnderlying33 w) rfl (Try.sizeOf3 w) (by decide) b o⟩
instance : TField Try.prog 33 1 1 := ⟨fun b o w => fieldAt_of (f := { name := "Epoch", type := 31, offset := 1, embedded := false, tag := "", pkgPath := "", byteOffset := 8 }) (Try.runUnderlying33 w) rfl (Try.sizeOf31 w) (by decide) b o⟩
instance : TField Try.prog 33 2 2 := ⟨fun b o w => fieldAt_of (f := { name := "Version", type := 3, offset := 2, embedded := false, tag := "", pkgPath := "", byteOffset := 16 }) (Try.runUnderlying33 w) rfl (Try.sizeOf3 w) (by decide) b o⟩
instance : TField Try.prog 33 3 3 := ⟨fun b o w => fieldAt_of (f := { name := "Msgs", type := 28, offset := 3, embedded := false, tag := "", pkgPath := "", byteOffset := 24 }) (Try.runUnderlying33 w) rfl (Try.sizeOf28 w) (by decide) b o⟩
instance : TPlain Try.prog 34 := ⟨Try.isAgg34, Try.sizeOf34⟩
instance : TSize Try.prog 34 1 := ⟨Try.sizeOf34⟩
instance : TBytes Try.prog 34 8 := ⟨fun w => ⟨_, Try.typeInfo34 w, by rfl⟩⟩
instance : TZero Try.prog 34 Go.Value.nilFunc := ⟨Try.zeroValue34⟩
instance : TUnder Try.prog 35 (Go.TypeDesc.slice 38) := ⟨Try.runUnderlying35⟩
instance : TPlain Try.prog 35 := ⟨Try.isAgg35, Try.sizeOf35⟩
instance : TSize Try.prog 35 1 := ⟨Try.sizeOf35⟩
instance : TBytes Try.prog 35 24 := ⟨fun w => ⟨_, Try.typeInfo35 w, by rfl⟩⟩
instance : TZero Try.prog 35 (Go.Value.slice none 0 0) := ⟨Try.zeroValue35⟩
instance : TPlain Try.prog 36 := ⟨Try.isAgg36, Try.sizeOf36⟩
instance : TSize Try.prog 36 1 := ⟨Try.sizeOf36⟩
instance : TBytes Try.prog 36 8 := ⟨fun w => ⟨_, Try.typeInfo36 w, by rfl⟩⟩
instance : TZero Try.prog 36 Go.Value.nilFunc := ⟨Try.zeroValue36⟩
instance : TUnder Try.prog 37 (Go.TypeDesc.struct #[{ name := "Epoch", type := 31, offset := 0, embedded := false, tag := "", pkgPath := "", byteOffset := 0 }, { name := "Version", type := 3, offset := 1, embedded := false, tag := "", pkgPath := "", byteOffset := 8 }, { name := "Start", type := 3, offset := 2, embedded := false, tag := "", pkgPath := "", byteOffset := 16 }]) := ⟨Try.runUnderlying37⟩
instance : TAgg Try.prog 37 3 := ⟨Try.isAgg37, Try.sizeOf37⟩
instance : TSize Try.prog 37 3 := ⟨Try.sizeOf37⟩
instance : TBytes Try.prog 37 24 := ⟨fun w => ⟨_, Try.typeInfo37 w, by rfl⟩⟩
instance : TZero Try.prog 37 (Go.Value.agg #[(Go.Value.int Go.IntKind.u32 0), (Go.Value.int Go.IntKind.i64 0), (Go.Value.int Go.IntKind.i64 0)]) := ⟨Try.zeroValue37⟩
instance : TPlaces Try.prog 37 [(0, 1), (1, 1), (2, 1)] := ⟨fun w => ⟨_, Try.runUnderlying37 w, by simp [Try.sizeOf3, Try.sizeOf31]⟩⟩
instance : TField Try.prog 37 0 0 := ⟨fun b o w => fieldAt_of (f := { name := "Epoch", type := 31, offset := 0, embedded := false, tag := "", pkgPath := "", byteOffset := 0 }) (Try.runUnderlying37 w) rfl (Try.sizeOf31 w) (by decide) b o⟩
instance : TField Try.prog 37 1 1 := ⟨fun b o w => fieldAt_of (f := { name := "Version", type := 3, offset := 1, embedded := false, tag := "", pkgPath := "", byteOffset := 8 }) (Try.runUnderlying37 w) rfl (Try.sizeOf3 w) (by decide) b o⟩
instance : TField Try.prog 37 2 2 := ⟨fun b o w => fieldAt_of (f := { name := "Start", type := 3, offset := 2, embedded := false, tag := "", pkgPath := "", byteOffset := 16 }) (Try.runUnderlying37 w) rfl (Try.sizeOf3 w) (by decide) b o⟩
instance : TUnder Try.prog 38 (Go.TypeDesc.struct #[{ name := "Epoch", type := 31, offset := 0, embedded := false, tag := "", pkgPath := "", byteOffset := 0 }, { name := "Version", type := 3, offset := 1, embedded := false, tag := "", pkgPath := "", byteOffset := 8 }, { name := "Start", type := 3, offset := 2, embedded := false, tag := "", pkgPath := "", byteOffset := 16 }]) := ⟨Try.runUnderlying38⟩
instance : TAgg Try.prog 38 3 := ⟨Try.isAgg38, Try.sizeOf38⟩
instance : TSize Try.prog 38 3 := ⟨Try.sizeOf38⟩
instance : TBytes Try.prog 38 24 := ⟨fun w => ⟨_, Try.typeInfo38 w, by rfl⟩⟩
instance : TZero Try.prog 38 (Go.Value.agg #[(Go.Value.int Go.IntKind.u32 0), (Go.Value.int Go.IntKind.i64 0), (Go.Value.int Go.IntKind.i64 0)]) := ⟨Try.zeroValue38⟩
instance : TPlaces Try.prog 38 [(0, 1), (1, 1), (2, 1)] := ⟨fun w => ⟨_, Try.runUnderlying38 w, by simp [Try.sizeOf3, Try.sizeOf31]⟩⟩
instance : TField Try.prog 38 0 0 := ⟨fun b o w => fieldAt_of (f := { name := "Epoch", type := 31, offset := 0, embedded := false, tag := "", pkgPath := "", byteOffset := 0 }) (Try.runUnderlying38 w) rfl (Try.sizeOf31 w) (by decide) b o⟩
instance : TField Try.prog 38 1 1 := ⟨fun b o w => fieldAt_of (f := { name := "Version", type := 3, offset := 1, embedded := false, tag := "", pkgPath := "", byteOffset := 8 }) (Try.runUnderlying38 w) rfl (Try.sizeOf3 w) (by decide) b o⟩
instance : TField Try.prog 38 2 2 := ⟨fun b o w => fieldAt_of (f := { name := "Start", type := 3, offset := 2, embedded := false, tag := "", pkgPath := "", byteOffset := 16 }) (Try.runUnderlying38 w) rfl (Try.sizeOf3 w) (by decide) b o⟩
instance : TPlain Try.prog 39 := ⟨Try.isAgg39, Try.sizeOf39⟩
instance : TSize Try.prog 39 1 := ⟨Try.sizeOf39⟩
instance : TBytes Try.prog 39 8 := ⟨fun w => ⟨_, Try.typeInfo39 w, by rfl⟩⟩
instance : TZero Try.prog 39 Go.Value.nilFunc := ⟨Try.zeroValue39⟩
instance : TPlain Try.prog 40 := ⟨Try.isAgg40, Try.sizeOf40⟩
instance : TSize Try.prog 40 1 := ⟨Try.sizeOf40⟩
instance : TBytes Try.prog 40 8 := ⟨fun w => ⟨_, Try.typeInfo40 w, by rfl⟩⟩
instance : TZero Try.prog 40 Go.Value.nilFunc := ⟨Try.zeroValue40⟩
instance : TPlain Try.prog 41 := ⟨Try.isAgg41, Try.sizeOf41⟩
instance : TSize Try.prog 41 1 := ⟨Try.sizeOf41⟩
instance : TBytes Try.prog 41 8 := ⟨fun w => ⟨_, Try.typeInfo41 w, by rfl⟩⟩
instance : TZero Try.prog 41 Go.Value.nilFunc := ⟨Try.zeroValue41⟩
instance : TPlain Try.prog 42 := ⟨Try.isAgg42, Try.sizeOf42⟩
instance : TSize Try.prog 42 1 := ⟨Try.sizeOf42⟩
instance : TBytes Try.prog 42 8 := ⟨fun w => ⟨_, Try.typeInfo42 w, by rfl⟩⟩
instance : TZero Try.prog 42 Go.Value.nilFunc := ⟨Try.zeroValue42⟩
instance : TPlain Try.prog 43 := ⟨Try.isAgg43, Try.sizeOf43⟩
instance : TSize Try.prog 43 1 := ⟨Try.sizeOf43⟩
instance : TBytes Try.prog 43 8 := ⟨fun w => ⟨_, Try.typeInfo43 w, by rfl⟩⟩
instance : TZero Try.prog 43 Go.Value.nilFunc := ⟨Try.zeroValue43⟩
instance : TPlain Try.prog 44 := ⟨Try.isAgg44, Try.sizeOf44⟩
instance : TSize Try.prog 44 1 := ⟨Try.sizeOf44⟩
instance : TBytes Try.prog 44 8 := ⟨fun w => ⟨_, Try.typeInfo44 w, by rfl⟩⟩
instance : TZero Try.prog 44 Go.Value.nilFunc := ⟨Try.zeroValue44⟩
instance : TPlain Try.prog 45 := ⟨Try.isAgg45, Try.sizeOf45⟩
instance : TSize Try.prog 45 1 := ⟨Try.sizeOf45⟩
instance : TBytes Try.prog 45 8 := ⟨fun w => ⟨_, Try.typeInfo45 w, by rfl⟩⟩
instance : TZero Try.prog 45 Go.Value.nilFunc := ⟨Try.zeroValue45⟩
instance : TUnder Try.prog 46 (Go.TypeDesc.array 16 31) := ⟨Try.runUnderlying46⟩
instance : TAgg Try.prog 46 16 := ⟨Try.isAgg46, Try.sizeOf46⟩
instance : TSize Try.prog 46 16 := ⟨Try.sizeOf46⟩
instance : TBytes Try.prog 46 64 := ⟨fun w => ⟨_, Try.typeInfo46 w, by rfl⟩⟩
instance : TZero Try.prog 46 (Go.Value.agg #[(Go.Value.int Go.IntKind.u32 0), (Go.Value.int Go.IntKind.u32 0), (Go.Value.int Go.IntKind.u32 0), (Go.Value.int Go.IntKind.u32 0), (Go.Value.int Go.IntKind.u32 0), (Go.Value.int Go.IntKind.u32 0), (Go.Value.int Go.IntKind.u32 0), (Go.Value.int Go.IntKind.u32 0), (Go.Value.int Go.IntKind.u32 0), (Go.Value.int Go.IntKind.u32 0), (Go.Value.int Go.IntKind.u32 0), (Go.Value.int Go.IntKind.u32 0), (Go.Value.int Go.IntKind.u32 0), (Go.Value.int Go.IntKind.u32 0), (Go.Value.int Go.IntKind.u32 0), (Go.Value.int Go.IntKind.u32 0)]) := ⟨Try.zeroValue46⟩
instance : TUnder Try.prog 47 (Go.TypeDesc.struct #[{ name := "From", type := 3, offset := 0, embedded := false, tag := "", pkgPath := "", byteOffset := 0 }, { name := "Count", type := 31, offset := 1, embedded := false, tag := "", pkgPath := "", byteOffset := 8 }]) := ⟨Try.runUnderlying47⟩
instance : TAgg Try.prog 47 2 := ⟨Try.isAgg47, Try.sizeOf47⟩
instance : TSize Try.prog 47 2 := ⟨Try.sizeOf47⟩
instance : TBytes Try.prog 47 16 := ⟨fun w => ⟨_, Try.typeInfo47 w, by rfl⟩⟩
instance : TZero Try.prog 47 (Go.Value.agg #[(Go.Value.int Go.IntKind.i64 0), (Go.Value.int Go.IntKind.u32 0)]) := ⟨Try.zeroValue47⟩
instance : TPlaces Try.prog 47 [(0, 1), (1, 1)] := ⟨fun w => ⟨_, Try.runUnderlying47 w, by simp [Try.sizeOf3, Try.sizeOf31]⟩⟩
instance : TField Try.prog 47 0 0 := ⟨fun b o w => fieldAt_of (f := { name := "From", type := 3, offset := 0, embedded := false, tag := "", pkgPath := "", byteOffset := 0 }) (Try.runUnderlying47 w) rfl (Try.sizeOf3 w) (by decide) b o⟩
instance : TField Try.prog 47 1 1 := ⟨fun b o w => fieldAt_of (f := { name := "Count", type := 31, offset := 1, embedded := false, tag := "", pkgPath := "", byteOffset := 8 }) (Try.runUnderlying47 w) rfl (Try.sizeOf31 w) (by decide) b o⟩
instance : TUnder Try.prog 48 (Go.TypeDesc.struct #[{ name := "From", type := 3, offset := 0, embedded := false, tag := "", pkgPath := "", byteOffset := 0 }, { name := "Count", type := 31, offset := 1, embedded := false, tag := "", pkgPath := "", byteOffset := 8 }]) := ⟨Try.runUnderlying48⟩
instance : TAgg Try.prog 48 2 := ⟨Try.isAgg48, Try.sizeOf48⟩
instance : TSize Try.prog 48 2 := ⟨Try.sizeOf48⟩
instance : TBytes Try.prog 48 16 := ⟨fun w => ⟨_, Try.typeInfo48 w, by rfl⟩⟩
instance : TZero Try.prog 48 (Go.Value.agg #[(Go.Value.int Go.IntKind.i64 0), (Go.Value.int Go.IntKind.u32 0)]) := ⟨Try.zeroValue48⟩
instance : TPlaces Try.prog 48 [(0, 1), (1, 1)] := ⟨fun w => ⟨_, Try.runUnderlying48 w, by simp [Try.sizeOf3, Try.sizeOf31]⟩⟩
instance : TField Try.prog 48 0 0 := ⟨fun b o w => fieldAt_of (f := { name := "From", type := 3, offset := 0, embedded := false, tag := "", pkgPath := "", byteOffset := 0 }) (Try.runUnderlying48 w) rfl (Try.sizeOf3 w) (by decide) b o⟩
instance : TField Try.prog 48 1 1 := ⟨fun b o w => fieldAt_of (f := { name := "Count", type := 31, offset := 1, embedded := false, tag := "", pkgPath := "", byteOffset := 8 }) (Try.runUnderlying48 w) rfl (Try.sizeOf31 w) (by decide) b o⟩
instance : TUnder Try.prog 49 (Go.TypeDesc.struct #[{ name := "Id", type := 48, offset := 0, embedded := false, tag := "", pkgPath := "", byteOffset := 0 }, { name := "Data", type := 9, offset := 2, embedded := false, tag := "", pkgPath := "", byteOffset := 16 }]) := ⟨Try.runUnderlying49⟩
instance : TAgg Try.prog 49 3 := ⟨Try.isAgg49, Try.sizeOf49⟩
instance : TSize Try.prog 49 3 := ⟨Try.sizeOf49⟩
instance : TBytes Try.prog 49 32 := ⟨fun w => ⟨_, Try.typeInfo49 w, by rfl⟩⟩
instance : TZero Try.prog 49 (Go.Value.agg #[(Go.Value.int Go.IntKind.i64 0), (Go.Value.int Go.IntKind.u32 0), (Go.Value.string { data := #[] })]) := ⟨Try.zeroValue49⟩
instance : TPlaces Try.prog 49 [(0, 2), (2, 1)] := ⟨fun w => ⟨_, Try.runUnderlying49 w, by simp [Try.sizeOf48, Try.sizeOf9]⟩⟩
instance : TField Try.prog 49 0 0 := ⟨fun b o w => fieldAt_of (f := { name := "Id", type := 48, offset := 0, embedded := false, tag := "", pkgPath := "", byteOffset := 0 }) (Try.runUnderlying49 w) rfl (Try.sizeOf48 w) (by decide) b o⟩
instance : TField Try.prog 49 1 2 := ⟨fun b o w => fieldAt_of (f := { name := "Data", type := 9, offset := 2, embedded := false, tag := "", pkgPath := "", byteOffset := 16 }) (Try.runUnderlying49 w) rfl (Try.sizeOf9 w) (by decide) b o⟩
instance : TUnder Try.prog 50 (Go.TypeDesc.struct #[{ name := "Id", type := 48, offset := 0, embedded := false, tag := "", pkgPath := "", byteOffset := 0 }, { name := "Data", type := 9, offset := 2, embedded := false, tag := "", pkgPath := "", byteOffset := 16 }]) := ⟨Try.runUnderlying50⟩
instance : TAgg Try.prog 50 3 := ⟨Try.isAgg50, Try.sizeOf50⟩
instance : TSize Try.prog 50 3 := ⟨Try.sizeOf50⟩
instance : TBytes Try.prog 50 32 := ⟨fun w => ⟨_, Try.typeInfo50 w, by rfl⟩⟩
instance : TZero Try.prog 50 (Go.Value.agg #[(Go.Value.int Go.IntKind.i64 0), (Go.Value.int Go.IntKind.u32 0), (Go.Value.string { data := #[] })]) := ⟨Try.zeroValue50⟩
instance : TPlaces Try.prog 50 [(0, 2), (2, 1)] := ⟨fun w => ⟨_, Try.runUnderlying50 w, by simp [Try.sizeOf48, Try.sizeOf9]⟩⟩
instance : TField Try.prog 50 0 0 := ⟨fun b o w => fieldAt_of (f := { name := "Id", type := 48, offset := 0, embedded := false, tag := "", pkgPath := "", byteOffset := 0 }) (Try.runUnderlying50 w) rfl (Try.sizeOf48 w) (by decide) b o⟩
instance : TField Try.prog 50 1 2 := ⟨fun b o w => fieldAt_of (f := { name := "Data", type := 9, offset := 2, embedded := false, tag := "", pkgPath := "", byteOffset := 16 }) (Try.runUnderlying50 w) rfl (Try.sizeOf9 w) (by decide) b o⟩
instance : TPlain Try.prog 51 := ⟨Try.isAgg51, Try.sizeOf51⟩
instance : TSize Try.prog 51 1 := ⟨Try.sizeOf51⟩
instance : TBytes Try.prog 51 8 := ⟨fun w => ⟨_, Try.typeInfo51 w, by rfl⟩⟩
instance : TZero Try.prog 51 Go.Value.nilFunc := ⟨Try.zeroValue51⟩
instance : TPlain Try.prog 52 := ⟨Try.isAgg52, Try.sizeOf52⟩
instance : TSize Try.prog 52 1 := ⟨Try.sizeOf52⟩
instance : TBytes Try.prog 52 8 := ⟨fun w => ⟨_, Try.typeInfo52 w, by rfl⟩⟩
instance : TZero Try.prog 52 Go.Value.nilFunc := ⟨Try.zeroValue52⟩
instance : TUnder Try.prog 53 (Go.TypeDesc.pointer 70) := ⟨Try.runUnderlying53⟩
instance : TPlain Try.prog 53 := ⟨Try.isAgg53, Try.sizeOf53⟩
instance : TSize Try.prog 53 1 := ⟨Try.sizeOf53⟩
instance : TBytes Try.prog 53 8 := ⟨fun w => ⟨_, Try.typeInfo53 w, by rfl⟩⟩
instance : TZero Try.prog 53 (Go.Value.pointer none) := ⟨Try.zeroValue53⟩
instance : TPlain Try.prog 54 := ⟨Try.isAgg54, Try.sizeOf54⟩
instance : TSize Try.prog 54 1 := ⟨Try.sizeOf54⟩
instance : TBytes Try.prog 54 8 := ⟨fun w => ⟨_, Try.typeInfo54 w, by rfl⟩⟩
instance : TZero Try.prog 54 Go.Value.nilFunc := ⟨Try.zeroValue54⟩
instance : TUnder Try.prog 55 (Go.TypeDesc.struct #[{ name := "Book", type := 53, offset := 0, embedded := true, tag := "", pkgPath := "", byteOffset := 0 }, { name := "eras", type := 35, offset := 1, embedded := false, tag := "", pkgPath := "rostrum/epoch", byteOffset := 8 }, { name := "count", type := 3, offset := 2, embedded := false, tag := "", pkgPath := "rostrum/epoch", byteOffset := 32 }, { name := "back", type := 3, offset := 3, embedded := false, tag := "", pkgPath := "rostrum/epoch", byteOffset := 40 }]) := ⟨Try.runUnderlying55⟩
instance : TAgg Try.prog 55 4 := ⟨Try.isAgg55, Try.sizeOf55⟩
instance : TSize Try.prog 55 4 := ⟨Try.sizeOf55⟩
instance : TBytes Try.prog 55 48 := ⟨fun w => ⟨_, Try.typeInfo55 w, by rfl⟩⟩
instance : TZero Try.prog 55 (Go.Value.agg #[(Go.Value.pointer none), (Go.Value.slice none 0 0), (Go.Value.int Go.IntKind.i64 0), (Go.Value.int Go.IntKind.i64 0)]) := ⟨Try.zeroValue55⟩
instance : TPlaces Try.prog 55 [(0, 1), (1, 1), (2, 1), (3, 1)] := ⟨fun w => ⟨_, Try.runUnderlying55 w, by simp [Try.sizeOf3, Try.sizeOf35, Try.sizeOf53]⟩⟩
instance : TField Try.prog 55 0 0 := ⟨fun b o w => fieldAt_of (f := { name := "Book", type := 53, offset := 0, embedded := true, tag := "", pkgPath := "", byteOffset := 0 }) (Try.runUnderlying55 w) rfl (Try.sizeOf53 w) (by decide) b o⟩
instance : TField Try.prog 55 1 1 := ⟨fun b o w => fieldAt_of (f := { name := "eras", type := 35, offset := 1, embedded := false, tag := "", pkgPath := "rostrum/epoch", byteOffset := 8 }) (Try.runUnderlying55 w) rfl (Try.sizeOf35 w) (by decide) b o⟩
instance : TField Try.prog 55 2 2 := ⟨fun b o w => fieldAt_of (f := { name := "count", type := 3, offset := 2, embedded := false, tag := "", pkgPath := "rostrum/epoch", byteOffset := 32 }) (Try.runUnderlying55 w) rfl (Try.sizeOf3 w) (by decide) b o⟩
instance : TField Try.prog 55 3 3 := ⟨fun b o w => fieldAt_of (f := { name := "back", type := 3, offset := 3, embedded := false, tag := "", pkgPath := "rostrum/epoch", byteOffset := 40 }) (Try.runUnderlying55 w) rfl (Try.sizeOf3 w) (by decide) b o⟩
instance : TUnder Try.prog 56 (Go.TypeDesc.struct #[{ name := "Book", type := 53, offset := 0, embedded := true, tag := "", pkgPath := "", byteOffset := 0 }, { name := "eras", type := 35, offset := 1, embedded := false, tag := "", pkgPath := "rostrum/epoch", byteOffset := 8 }, { name := "count", type := 3, offset := 2, embedded := false, tag := "", pkgPath := "rostrum/epoch", byteOffset := 32 }, { name := "back", type := 3, offset := 3, embedded := false, tag := "", pkgPath := "rostrum/epoch", byteOffset := 40 }]) := ⟨Try.runUnderlying56⟩
instance : TAgg Try.prog 56 4 := ⟨Try.isAgg56, Try.sizeOf56⟩
instance : TSize Try.prog 56 4 := ⟨Try.sizeOf56⟩
instance : TBytes Try.prog 56 48 := ⟨fun w => ⟨_, Try.typeInfo56 w, by rfl⟩⟩
instance : TZero Try.prog 56 (Go.Value.agg #[(Go.Value.pointer none), (Go.Value.slice none 0 0), (Go.Value.int Go.IntKind.i64 0), (Go.Value.int Go.IntKind.i64 0)]) := ⟨Try.zeroValue56⟩
instance : TPlaces Try.prog 56 [(0, 1), (1, 1), (2, 1), (3, 1)] := ⟨fun w => ⟨_, Try.runUnderlying56 w, by simp [Try.sizeOf3, Try.sizeOf35, Try.sizeOf53]⟩⟩
instance : TField Try.prog 56 0 0 := ⟨fun b o w => fieldAt_of (f := { name := "Book", type := 53, offset := 0, embedded := true, tag := "", pkgPath := "", byteOffset := 0 }) (Try.runUnderlying56 w) rfl (Try.sizeOf53 w) (by decide) b o⟩
instance : TField Try.prog 56 1 1 := ⟨fun b o w => fieldAt_of (f := { name := "eras", type := 35, offset := 1, embedded := false, tag := "", pkgPath := "rostrum/epoch", byteOffset := 8 }) (Try.runUnderlying56 w) rfl (Try.sizeOf35 w) (by decide) b o⟩
instance : TField Try.prog 56 2 2 := ⟨fun b o w => fieldAt_of (f := { name := "count", type := 3, offset := 2, embedded := false, tag := "", pkgPath := "rostrum/epoch", byteOffset := 32 }) (Try.runUnderlying56 w) rfl (Try.sizeOf3 w) (by decide) b o⟩
instance : TField Try.prog 56 3 3 := ⟨fun b o w => fieldAt_of (f := { name := "back", type := 3, offset := 3, embedded := false, tag := "", pkgPath := "rostrum/epoch", byteOffset := 40 }) (Try.runUnderlying56 w) rfl (Try.sizeOf3 w) (by decide) b o⟩
instance : TPlain Try.prog 57 := ⟨Try.isAgg57, Try.sizeOf57⟩
instance : TSize Try.prog 57 1 := ⟨Try.sizeOf57⟩
instance : TBytes Try.prog 57 8 := ⟨fun w => ⟨_, Try.typeInfo57 w, by rfl⟩⟩
instance : TZero Try.prog 57 Go.Value.nilFunc := ⟨Try.zeroValue57⟩
instance : TPlain Try.prog 58 := ⟨Try.isAgg58, Try.sizeOf58⟩
instance : TSize Try.prog 58 1 := ⟨Try.sizeOf58⟩
instance : TBytes Try.prog 58 8 := ⟨fun w => ⟨_, Try.typeInfo58 w, by rfl⟩⟩
instance : TZero Try.prog 58 Go.Value.nilFunc := ⟨Try.zeroValue58⟩
instance : TUnder Try.prog 59 (Go.TypeDesc.map 3 58) := ⟨Try.runUnderlying59⟩
instance : TPlain Try.prog 59 := ⟨Try.isAgg59, Try.sizeOf59⟩
instance : TSize Try.prog 59 1 := ⟨Try.sizeOf59⟩
instance : TBytes Try.prog 59 8 := ⟨fun w => ⟨_, Try.typeInfo59 w, by rfl⟩⟩
instance : TZero Try.prog 59 (Go.Value.map none) := ⟨Try.zeroValue59⟩
instance : TPlain Try.prog 61 := ⟨Try.isAgg61, Try.sizeOf61⟩
instance : TSize Try.prog 61 1 := ⟨Try.sizeOf61⟩
instance : TBytes Try.prog 61 8 := ⟨fun w => ⟨_, Try.typeInfo61 w, by rfl⟩⟩
instance : TZero Try.prog 61 Go.Value.nilFunc := ⟨Try.zeroValue61⟩
instance : TPlain Try.prog 62 := ⟨Try.isAgg62, Try.sizeOf62⟩
instance : TSize Try.prog 62 1 := ⟨Try.sizeOf62⟩
instance : TBytes Try.prog 62 8 := ⟨fun w => ⟨_, Try.typeInfo62 w, by rfl⟩⟩
instance : TZero Try.prog 62 Go.Value.nilFunc := ⟨Try.zeroValue62⟩
instance : TPlain Try.prog 63 := ⟨Try.isAgg63, Try.sizeOf63⟩
instance : TSize Try.prog 63 1 := ⟨Try.sizeOf63⟩
instance : TBytes Try.prog 63 8 := ⟨fun w => ⟨_, Try.typeInfo63 w, by rfl⟩⟩
instance : TZero Try.prog 63 Go.Value.nilFunc := ⟨Try.zeroValue63⟩
instance : TPlain Try.prog 64 := ⟨Try.isAgg64, Try.sizeOf64⟩
instance : TSize Try.prog 64 1 := ⟨Try.sizeOf64⟩
instance : TBytes Try.prog 64 8 := ⟨fun w => ⟨_, Try.typeInfo64 w, by rfl⟩⟩
instance : TZero Try.prog 64 Go.Value.nilFunc := ⟨Try.zeroValue64⟩
instance : TPlain Try.prog 66 := ⟨Try.isAgg66, Try.sizeOf66⟩
instance : TSize Try.prog 66 1 := ⟨Try.sizeOf66⟩
instance : TBytes Try.prog 66 8 := ⟨fun w => ⟨_, Try.typeInfo66 w, by rfl⟩⟩
instance : TZero Try.prog 66 Go.Value.nilFunc := ⟨Try.zeroValue66⟩
instance : TUnder Try.prog 67 (Go.TypeDesc.map 48 50) := ⟨Try.runUnderlying67⟩
instance : TPlain Try.prog 67 := ⟨Try.isAgg67, Try.sizeOf67⟩
instance : TSize Try.prog 67 1 := ⟨Try.sizeOf67⟩
instance : TBytes Try.prog 67 8 := ⟨fun w => ⟨_, Try.typeInfo67 w, by rfl⟩⟩
instance : TZero Try.prog 67 (Go.Value.map none) := ⟨Try.zeroValue67⟩
instance : TUnder Try.prog 68 (Go.TypeDesc.map 3 31) := ⟨Try.runUnderlying68⟩
instance : TPlain Try.prog 68 := ⟨Try.isAgg68, Try.sizeOf68⟩
instance : TSize Try.prog 68 1 := ⟨Try.sizeOf68⟩
instance : TBytes Try.prog 68 8 := ⟨fun w => ⟨_, Try.typeInfo68 w, by rfl⟩⟩
instance : TZero Try.prog 68 (Go.Value.map none) := ⟨Try.zeroValue68⟩
instance : TUnder Try.prog 69 (Go.TypeDesc.struct #[{ name := "log", type := 28, offset := 0, embedded := false, tag := "", pkgPath := "rostrum/ids", byteOffset := 0 }, { name := "waits", type := 67, offset := 1, embedded := false, tag := "", pkgPath := "rostrum/ids", byteOffset := 24 }, { name := "next", type := 68, offset := 2, embedded := false, tag := "", pkgPath := "rostrum/ids", byteOffset := 32 }]) := ⟨Try.runUnderlying69⟩
instance : TAgg Try.prog 69 3 := ⟨Try.isAgg69, Try.sizeOf69⟩
instance : TSize Try.prog 69 3 := ⟨Try.sizeOf69⟩
instance : TBytes Try.prog 69 40 := ⟨fun w => ⟨_, Try.typeInfo69 w, by rfl⟩⟩
instance : TZero Try.prog 69 (Go.Value.agg #[(Go.Value.slice none 0 0), (Go.Value.map none), (Go.Value.map none)]) := ⟨Try.zeroValue69⟩
instance : TPlaces Try.prog 69 [(0, 1), (1, 1), (2, 1)] := ⟨fun w => ⟨_, Try.runUnderlying69 w, by simp [Try.sizeOf28, Try.sizeOf67, Try.sizeOf68]⟩⟩
instance : TField Try.prog 69 0 0 := ⟨fun b o w => fieldAt_of (f := { name := "log", type := 28, offset := 0, embedded := false, tag := "", pkgPath := "rostrum/ids", byteOffset := 0 }) (Try.runUnderlying69 w) rfl (Try.sizeOf28 w) (by decide) b o⟩
instance : TField Try.prog 69 1 1 := ⟨fun b o w => fieldAt_of (f := { name := "waits", type := 67, offset := 1, embedded := false, tag := "", pkgPath := "rostrum/ids", byteOffset := 24 }) (Try.runUnderlying69 w) rfl (Try.sizeOf67 w) (by decide) b o⟩
instance : TField Try.prog 69 2 2 := ⟨fun b o w => fieldAt_of (f := { name := "next", type := 68, offset := 2, embedded := false, tag := "", pkgPath := "rostrum/ids", byteOffset := 32 }) (Try.runUnderlying69 w) rfl (Try.sizeOf68 w) (by decide) b o⟩
instance : TUnder Try.prog 70 (Go.TypeDesc.struct #[{ name := "log", type := 28, offset := 0, embedded := false, tag := "", pkgPath := "rostrum/ids", byteOffset := 0 }, { name := "waits", type := 67, offset := 1, embedded := false, tag := "", pkgPath := "rostrum/ids", byteOffset := 24 }, { name := "next", type := 68, offset := 2, embedded := false, tag := "", pkgPath := "rostrum/ids", byteOffset := 32 }]) := ⟨Try.runUnderlying70⟩
instance : TAgg Try.prog 70 3 := ⟨Try.isAgg70, Try.sizeOf70⟩
instance : TSize Try.prog 70 3 := ⟨Try.sizeOf70⟩
instance : TBytes Try.prog 70 40 := ⟨fun w => ⟨_, Try.typeInfo70 w, by rfl⟩⟩
instance : TZero Try.prog 70 (Go.Value.agg #[(Go.Value.slice none 0 0), (Go.Value.map none), (Go.Value.map none)]) := ⟨Try.zeroValue70⟩
instance : TPlaces Try.prog 70 [(0, 1), (1, 1), (2, 1)] := ⟨fun w => ⟨_, Try.runUnderlying70 w, by simp [Try.sizeOf28, Try.sizeOf67, Try.sizeOf68]⟩⟩
instance : TField Try.prog 70 0 0 := ⟨fun b o w => fieldAt_of (f := { name := "log", type := 28, offset := 0, embedded := false, tag := "", pkgPath := "rostrum/ids", byteOffset := 0 }) (Try.runUnderlying70 w) rfl (Try.sizeOf28 w) (by decide) b o⟩
instance : TField Try.prog 70 1 1 := ⟨fun b o w => fieldAt_of (f := { name := "waits", type := 67, offset := 1, embedded := false, tag := "", pkgPath := "rostrum/ids", byteOffset := 24 }) (Try.runUnderlying70 w) rfl (Try.sizeOf67 w) (by decide) b o⟩
instance : TField Try.prog 70 2 2 := ⟨fun b o w => fieldAt_of (f := { name := "next", type := 68, offset := 2, embedded := false, tag := "", pkgPath := "rostrum/ids", byteOffset := 32 }) (Try.runUnderlying70 w) rfl (Try.sizeOf68 w) (by decide) b o⟩
instance : TPlain Try.prog 72 := ⟨Try.isAgg72, Try.sizeOf72⟩
instance : TSize Try.prog 72 1 := ⟨Try.sizeOf72⟩
instance : TBytes Try.prog 72 8 := ⟨fun w => ⟨_, Try.typeInfo72 w, by rfl⟩⟩
instance : TZero Try.prog 72 Go.Value.nilFunc := ⟨Try.zeroValue72⟩
instance : TPlain Try.prog 73 := ⟨Try.isAgg73, Try.sizeOf73⟩
instance : TSize Try.prog 73 1 := ⟨Try.sizeOf73⟩
instance : TBytes Try.prog 73 8 := ⟨fun w => ⟨_, Try.typeInfo73 w, by rfl⟩⟩
instance : TZero Try.prog 73 Go.Value.nilFunc := ⟨Try.zeroValue73⟩
instance : TPlain Try.prog 74 := ⟨Try.isAgg74, Try.sizeOf74⟩
instance : TSize Try.prog 74 1 := ⟨Try.sizeOf74⟩
instance : TBytes Try.prog 74 8 := ⟨fun w => ⟨_, Try.typeInfo74 w, by rfl⟩⟩
instance : TZero Try.prog 74 Go.Value.nilFunc := ⟨Try.zeroValue74⟩
instance : TPlain Try.prog 75 := ⟨Try.isAgg75, Try.sizeOf75⟩
instance : TSize Try.prog 75 1 := ⟨Try.sizeOf75⟩
instance : TBytes Try.prog 75 8 := ⟨fun w => ⟨_, Try.typeInfo75 w, by rfl⟩⟩
instance : TZero Try.prog 75 Go.Value.nilFunc := ⟨Try.zeroValue75⟩
instance : TPlain Try.prog 76 := ⟨Try.isAgg76, Try.sizeOf76⟩
instance : TSize Try.prog 76 1 := ⟨Try.sizeOf76⟩
instance : TBytes Try.prog 76 8 := ⟨fun w => ⟨_, Try.typeInfo76 w, by rfl⟩⟩
instance : TZero Try.prog 76 Go.Value.nilFunc := ⟨Try.zeroValue76⟩
instance : TPlain Try.prog 77 := ⟨Try.isAgg77, Try.sizeOf77⟩
instance : TSize Try.prog 77 1 := ⟨Try.sizeOf77⟩
instance : TBytes Try.prog 77 8 := ⟨fun w => ⟨_, Try.typeInfo77 w, by rfl⟩⟩
instance : TZero Try.prog 77 Go.Value.nilFunc := ⟨Try.zeroValue77⟩
instance : TUnder Try.prog 78 (Go.TypeDesc.slice 5) := ⟨Try.runUnderlying78⟩
instance : TPlain Try.prog 78 := ⟨Try.isAgg78, Try.sizeOf78⟩
instance : TSize Try.prog 78 1 := ⟨Try.sizeOf78⟩
instance : TBytes Try.prog 78 24 := ⟨fun w => ⟨_, Try.typeInfo78 w, by rfl⟩⟩
instance : TZero Try.prog 78 (Go.Value.slice none 0 0) := ⟨Try.zeroValue78⟩
instance : TPlain Try.prog 79 := ⟨Try.isAgg79, Try.sizeOf79⟩
instance : TSize Try.prog 79 1 := ⟨Try.sizeOf79⟩
instance : TBytes Try.prog 79 8 := ⟨fun w => ⟨_, Try.typeInfo79 w, by rfl⟩⟩
instance : TZero Try.prog 79 Go.Value.nilFunc := ⟨Try.zeroValue79⟩
instance : TPlain Try.prog 80 := ⟨Try.isAgg80, Try.sizeOf80⟩
instance : TSize Try.prog 80 1 := ⟨Try.sizeOf80⟩
instance : TBytes Try.prog 80 8 := ⟨fun w => ⟨_, Try.typeInfo80 w, by rfl⟩⟩
instance : TZero Try.prog 80 Go.Value.nilFunc := ⟨Try.zeroValue80⟩
instance : TPlain Try.prog 81 := ⟨Try.isAgg81, Try.sizeOf81⟩
instance : TSize Try.prog 81 1 := ⟨Try.sizeOf81⟩
instance : TBytes Try.prog 81 8 := ⟨fun w => ⟨_, Try.typeInfo81 w, by rfl⟩⟩
instance : TZero Try.prog 81 Go.Value.nilFunc := ⟨Try.zeroValue81⟩
instance : TPlain Try.prog 82 := ⟨Try.isAgg82, Try.sizeOf82⟩
instance : TSize Try.prog 82 1 := ⟨Try.sizeOf82⟩
instance : TBytes Try.prog 82 8 := ⟨fun w => ⟨_, Try.typeInfo82 w, by rfl⟩⟩
instance : TZero Try.prog 82 Go.Value.nilFunc := ⟨Try.zeroValue82⟩
instance : TPlain Try.prog 84 := ⟨Try.isAgg84, Try.sizeOf84⟩
instance : TSize Try.prog 84 1 := ⟨Try.sizeOf84⟩
instance : TBytes Try.prog 84 8 := ⟨fun w => ⟨_, Try.typeInfo84 w, by rfl⟩⟩
instance : TZero Try.prog 84 Go.Value.nilFunc := ⟨Try.zeroValue84⟩
instance : TUnder Try.prog 85 (Go.TypeDesc.pointer 87) := ⟨Try.runUnderlying85⟩
instance : TPlain Try.prog 85 := ⟨Try.isAgg85, Try.sizeOf85⟩
instance : TSize Try.prog 85 1 := ⟨Try.sizeOf85⟩
instance : TBytes Try.prog 85 8 := ⟨fun w => ⟨_, Try.typeInfo85 w, by rfl⟩⟩
instance : TZero Try.prog 85 (Go.Value.pointer none) := ⟨Try.zeroValue85⟩
instance : TUnder Try.prog 86 (Go.TypeDesc.struct #[{ name := "addr", type := 85, offset := 0, embedded := false, tag := "", pkgPath := "strings", byteOffset := 0 }, { name := "buf", type := 78, offset := 1, embedded := false, tag := "", pkgPath := "strings", byteOffset := 8 }]) := ⟨Try.runUnderlying86⟩
instance : TAgg Try.prog 86 2 := ⟨Try.isAgg86, Try.sizeOf86⟩
instance : TSize Try.prog 86 2 := ⟨Try.sizeOf86⟩
instance : TBytes Try.prog 86 32 := ⟨fun w => ⟨_, Try.typeInfo86 w, by rfl⟩⟩
instance : TZero Try.prog 86 (Go.Value.agg #[(Go.Value.pointer none), (Go.Value.slice none 0 0)]) := ⟨Try.zeroValue86⟩
instance : TPlaces Try.prog 86 [(0, 1), (1, 1)] := ⟨fun w => ⟨_, Try.runUnderlying86 w, by simp [Try.sizeOf78, Try.sizeOf85]⟩⟩
instance : TField Try.prog 86 0 0 := ⟨fun b o w => fieldAt_of (f := { name := "addr", type := 85, offset := 0, embedded := false, tag := "", pkgPath := "strings", byteOffset := 0 }) (Try.runUnderlying86 w) rfl (Try.sizeOf85 w) (by decide) b o⟩
instance : TField Try.prog 86 1 1 := ⟨fun b o w => fieldAt_of (f := { name := "buf", type := 78, offset := 1, embedded := false, tag := "", pkgPath := "strings", byteOffset := 8 }) (Try.runUnderlying86 w) rfl (Try.sizeOf78 w) (by decide) b o⟩
instance : TUnder Try.prog 87 (Go.TypeDesc.struct #[{ name := "addr", type := 85, offset := 0, embedded := false, tag := "", pkgPath := "strings", byteOffset := 0 }, { name := "buf", type := 78, offset := 1, embedded := false, tag := "", pkgPath := "strings", byteOffset := 8 }]) := ⟨Try.runUnderlying87⟩
instance : TAgg Try.prog 87 2 := ⟨Try.isAgg87, Try.sizeOf87⟩
instance : TSize Try.prog 87 2 := ⟨Try.sizeOf87⟩
instance : TBytes Try.prog 87 32 := ⟨fun w => ⟨_, Try.typeInfo87 w, by rfl⟩⟩
instance : TZero Try.prog 87 (Go.Value.agg #[(Go.Value.pointer none), (Go.Value.slice none 0 0)]) := ⟨Try.zeroValue87⟩
instance : TPlaces Try.prog 87 [(0, 1), (1, 1)] := ⟨fun w => ⟨_, Try.runUnderlying87 w, by simp [Try.sizeOf78, Try.sizeOf85]⟩⟩
instance : TField Try.prog 87 0 0 := ⟨fun b o w => fieldAt_of (f := { name := "addr", type := 85, offset := 0, embedded := false, tag := "", pkgPath := "strings", byteOffset := 0 }) (Try.runUnderlying87 w) rfl (Try.sizeOf85 w) (by decide) b o⟩
instance : TField Try.prog 87 1 1 := ⟨fun b o w => fieldAt_of (f := { name := "buf", type := 78, offset := 1, embedded := false, tag := "", pkgPath := "strings", byteOffset := 8 }) (Try.runUnderlying87 w) rfl (Try.sizeOf78 w) (by decide) b o⟩
instance : TPlain Try.prog 88 := ⟨Try.isAgg88, Try.sizeOf88⟩
instance : TSize Try.prog 88 1 := ⟨Try.sizeOf88⟩
instance : TBytes Try.prog 88 16 := ⟨fun w => ⟨_, Try.typeInfo88 w, by rfl⟩⟩
instance : TZero Try.prog 88 Go.Value.nilIface := ⟨Try.zeroValue88⟩
instance : TPlain Try.prog 89 := ⟨Try.isAgg89, Try.sizeOf89⟩
instance : TSize Try.prog 89 1 := ⟨Try.sizeOf89⟩
instance : TBytes Try.prog 89 16 := ⟨fun w => ⟨_, Try.typeInfo89 w, by rfl⟩⟩
instance : TZero Try.prog 89 Go.Value.nilIface := ⟨Try.zeroValue89⟩
instance : TPlain Try.prog 90 := ⟨Try.isAgg90, Try.sizeOf90⟩
instance : TSize Try.prog 90 1 := ⟨Try.sizeOf90⟩
instance : TBytes Try.prog 90 8 := ⟨fun w => ⟨_, Try.typeInfo90 w, by rfl⟩⟩
instance : TZero Try.prog 90 Go.Value.nilFunc := ⟨Try.zeroValue90⟩
instance : TPlain Try.prog 91 := ⟨Try.isAgg91, Try.sizeOf91⟩
instance : TSize Try.prog 91 1 := ⟨Try.sizeOf91⟩
instance : TBytes Try.prog 91 8 := ⟨fun w => ⟨_, Try.typeInfo91 w, by rfl⟩⟩
instance : TZero Try.prog 91 Go.Value.nilFunc := ⟨Try.zeroValue91⟩
instance : TPlain Try.prog 92 := ⟨Try.isAgg92, Try.sizeOf92⟩
instance : TSize Try.prog 92 1 := ⟨Try.sizeOf92⟩
instance : TBytes Try.prog 92 8 := ⟨fun w => ⟨_, Try.typeInfo92 w, by rfl⟩⟩
instance : TZero Try.prog 92 Go.Value.nilFunc := ⟨Try.zeroValue92⟩
instance : TUnder Try.prog 93 (Go.TypeDesc.slice 9) := ⟨Try.runUnderlying93⟩
instance : TPlain Try.prog 93 := ⟨Try.isAgg93, Try.sizeOf93⟩
instance : TSize Try.prog 93 1 := ⟨Try.sizeOf93⟩
instance : TBytes Try.prog 93 24 := ⟨fun w => ⟨_, Try.typeInfo93 w, by rfl⟩⟩
instance : TZero Try.prog 93 (Go.Value.slice none 0 0) := ⟨Try.zeroValue93⟩
instance : TPlain Try.prog 94 := ⟨Try.isAgg94, Try.sizeOf94⟩
instance : TSize Try.prog 94 1 := ⟨Try.sizeOf94⟩
instance : TBytes Try.prog 94 8 := ⟨fun w => ⟨_, Try.typeInfo94 w, by rfl⟩⟩
instance : TZero Try.prog 94 Go.Value.nilFunc := ⟨Try.zeroValue94⟩
instance : TPlain Try.prog 96 := ⟨Try.isAgg96, Try.sizeOf96⟩
instance : TSize Try.prog 96 1 := ⟨Try.sizeOf96⟩
instance : TBytes Try.prog 96 8 := ⟨fun w => ⟨_, Try.typeInfo96 w, by rfl⟩⟩
instance : TZero Try.prog 96 Go.Value.nilFunc := ⟨Try.zeroValue96⟩
instance : TUnder Try.prog 97 (Go.TypeDesc.pointer 5) := ⟨Try.runUnderlying97⟩
instance : TPlain Try.prog 97 := ⟨Try.isAgg97, Try.sizeOf97⟩
instance : TSize Try.prog 97 1 := ⟨Try.sizeOf97⟩
instance : TBytes Try.prog 97 8 := ⟨fun w => ⟨_, Try.typeInfo97 w, by rfl⟩⟩
instance : TZero Try.prog 97 (Go.Value.pointer none) := ⟨Try.zeroValue97⟩
instance : TPlain Try.prog 98 := ⟨Try.isAgg98, Try.sizeOf98⟩
instance : TSize Try.prog 98 1 := ⟨Try.sizeOf98⟩
instance : TBytes Try.prog 98 8 := ⟨fun w => ⟨_, Try.typeInfo98 w, by rfl⟩⟩
instance : TZero Try.prog 98 Go.Value.nilFunc := ⟨Try.zeroValue98⟩
instance : TUnder Try.prog 99 Go.TypeDesc.unsafePointer := ⟨Try.runUnderlying99⟩
instance : TPlain Try.prog 99 := ⟨Try.isAgg99, Try.sizeOf99⟩
instance : TSize Try.prog 99 1 := ⟨Try.sizeOf99⟩
instance : TBytes Try.prog 99 8 := ⟨fun w => ⟨_, Try.typeInfo99 w, by rfl⟩⟩
instance : TZero Try.prog 99 (Go.Value.pointer none) := ⟨Try.zeroValue99⟩
instance : TPlain Try.prog 100 := ⟨Try.isAgg100, Try.sizeOf100⟩
instance : TSize Try.prog 100 1 := ⟨Try.sizeOf100⟩
instance : TBytes Try.prog 100 8 := ⟨fun w => ⟨_, Try.typeInfo100 w, by rfl⟩⟩
instance : TZero Try.prog 100 Go.Value.nilFunc := ⟨Try.zeroValue100⟩
instance : TPlain Try.prog 101 := ⟨Try.isAgg101, Try.sizeOf101⟩
instance : TSize Try.prog 101 1 := ⟨Try.sizeOf101⟩
instance : TBytes Try.prog 101 8 := ⟨fun w => ⟨_, Try.typeInfo101 w, by rfl⟩⟩
instance : TZero Try.prog 101 Go.Value.nilFunc := ⟨Try.zeroValue101⟩
instance : TUnder Try.prog 102 (Go.TypeDesc.struct #[{ name := "_interface", type := 17, offset := 0, embedded := false, tag := "", pkgPath := "runtime", byteOffset := 0 }, { name := "concrete", type := 17, offset := 1, embedded := false, tag := "", pkgPath := "runtime", byteOffset := 8 }, { name := "asserted", type := 17, offset := 2, embedded := false, tag := "", pkgPath := "runtime", byteOffset := 16 }, { name := "missingMethod", type := 9, offset := 3, embedded := false, tag := "", pkgPath := "runtime", byteOffset := 24 }]) := ⟨Try.runUnderlying102⟩
instance : TAgg Try.prog 102 4 := ⟨Try.isAgg102, Try.sizeOf102⟩
instance : TSize Try.prog 102 4 := ⟨Try.sizeOf102⟩
instance : TBytes Try.prog 102 40 := ⟨fun w => ⟨_, Try.typeInfo102 w, by rfl⟩⟩
instance : TZero Try.prog 102 (Go.Value.agg #[(Go.Value.pointer none), (Go.Value.pointer none), (Go.Value.pointer none), (Go.Value.string { data := #[] })]) := ⟨Try.zeroValue102⟩
instance : TPlaces Try.prog 102 [(0, 1), (1, 1), (2, 1), (3, 1)] := ⟨fun w => ⟨_, Try.runUnderlying102 w, by simp [Try.sizeOf17, Try.sizeOf9]⟩⟩
instance : TField Try.prog 102 0 0 := ⟨fun b o w => fieldAt_of (f := { name := "_interface", type := 17, offset := 0, embedded := false, tag := "", pkgPath := "runtime", byteOffset := 0 }) (Try.runUnderlying102 w) rfl (Try.sizeOf17 w) (by decide) b o⟩
instance : TField Try.prog 102 1 1 := ⟨fun b o w => fieldAt_of (f := { name := "concrete", type := 17, offset := 1, embedded := false, tag := "", pkgPath := "runtime", byteOffset := 8 }) (Try.runUnderlying102 w) rfl (Try.sizeOf17 w) (by decide) b o⟩
instance : TField Try.prog 102 2 2 := ⟨fun b o w => fieldAt_of (f := { name := "asserted", type := 17, offset := 2, embedded := false, tag := "", pkgPath := "runtime", byteOffset := 16 }) (Try.runUnderlying102 w) rfl (Try.sizeOf17 w) (by decide) b o⟩
instance : TField Try.prog 102 3 3 := ⟨fun b o w => fieldAt_of (f := { name := "missingMethod", type := 9, offset := 3, embedded := false, tag := "", pkgPath := "runtime", byteOffset := 24 }) (Try.runUnderlying102 w) rfl (Try.sizeOf9 w) (by decide) b o⟩
instance : TUnder Try.prog 103 (Go.TypeDesc.struct #[{ name := "_interface", type := 17, offset := 0, embedded := false, tag := "", pkgPath := "runtime", byteOffset := 0 }, { name := "concrete", type := 17, offset := 1, embedded := false, tag := "", pkgPath := "runtime", byteOffset := 8 }, { name := "asserted", type := 17, offset := 2, embedded := false, tag := "", pkgPath := "runtime", byteOffset := 16 }, { name := "missingMethod", type := 9, offset := 3, embedded := false, tag := "", pkgPath := "runtime", byteOffset := 24 }]) := ⟨Try.runUnderlying103⟩
instance : TAgg Try.prog 103 4 := ⟨Try.isAgg103, Try.sizeOf103⟩
instance : TSize Try.prog 103 4 := ⟨Try.sizeOf103⟩
instance : TBytes Try.prog 103 40 := ⟨fun w => ⟨_, Try.typeInfo103 w, by rfl⟩⟩
instance : TZero Try.prog 103 (Go.Value.agg #[(Go.Value.pointer none), (Go.Value.pointer none), (Go.Value.pointer none), (Go.Value.string { data := #[] })]) := ⟨Try.zeroValue103⟩
instance : TPlaces Try.prog 103 [(0, 1), (1, 1), (2, 1), (3, 1)] := ⟨fun w => ⟨_, Try.runUnderlying103 w, by simp [Try.sizeOf17, Try.sizeOf9]⟩⟩
instance : TField Try.prog 103 0 0 := ⟨fun b o w => fieldAt_of (f := { name := "_interface", type := 17, offset := 0, embedded := false, tag := "", pkgPath := "runtime", byteOffset := 0 }) (Try.runUnderlying103 w) rfl (Try.sizeOf17 w) (by decide) b o⟩
instance : TField Try.prog 103 1 1 := ⟨fun b o w => fieldAt_of (f := { name := "concrete", type := 17, offset := 1, embedded := false, tag := "", pkgPath := "runtime", byteOffset := 8 }) (Try.runUnderlying103 w) rfl (Try.sizeOf17 w) (by decide) b o⟩
instance : TField Try.prog 103 2 2 := ⟨fun b o w => fieldAt_of (f := { name := "asserted", type := 17, offset := 2, embedded := false, tag := "", pkgPath := "runtime", byteOffset := 16 }) (Try.runUnderlying103 w) rfl (Try.sizeOf17 w) (by decide) b o⟩
instance : TField Try.prog 103 3 3 := ⟨fun b o w => fieldAt_of (f := { name := "missingMethod", type := 9, offset := 3, embedded := false, tag := "", pkgPath := "runtime", byteOffset := 24 }) (Try.runUnderlying103 w) rfl (Try.sizeOf9 w) (by decide) b o⟩
instance : TUnder Try.prog 104 (Go.TypeDesc.array 0 16) := ⟨Try.runUnderlying104⟩
instance : TAgg Try.prog 104 0 := ⟨Try.isAgg104, Try.sizeOf104⟩
instance : TSize Try.prog 104 0 := ⟨Try.sizeOf104⟩
instance : TBytes Try.prog 104 0 := ⟨fun w => ⟨_, Try.typeInfo104 w, by rfl⟩⟩
instance : TZero Try.prog 104 (Go.Value.agg #[]) := ⟨Try.zeroValue104⟩
instance : TUnder Try.prog 105 (Go.TypeDesc.struct #[{ name := "_", type := 104, offset := 0, embedded := false, tag := "", pkgPath := "runtime", byteOffset := 0 }]) := ⟨Try.runUnderlying105⟩
instance : TAgg Try.prog 105 0 := ⟨Try.isAgg105, Try.sizeOf105⟩
instance : TSize Try.prog 105 0 := ⟨Try.sizeOf105⟩
instance : TBytes Try.prog 105 0 := ⟨fun w => ⟨_, Try.typeInfo105 w, by rfl⟩⟩
instance : TZero Try.prog 105 (Go.Value.agg #[]) := ⟨Try.zeroValue105⟩
instance : TUnder Try.prog 106 (Go.TypeDesc.struct #[{ name := "_", type := 104, offset := 0, embedded := false, tag := "", pkgPath := "runtime", byteOffset := 0 }]) := ⟨Try.runUnderlying106⟩
instance : TAgg Try.prog 106 0 := ⟨Try.isAgg106, Try.sizeOf106⟩
instance : TSize Try.prog 106 0 := ⟨Try.sizeOf106⟩
instance : TBytes Try.prog 106 0 := ⟨fun w => ⟨_, Try.typeInfo106 w, by rfl⟩⟩
instance : TZero Try.prog 106 (Go.Value.agg #[]) := ⟨Try.zeroValue106⟩
instance : TUnder Try.prog 107 (Go.TypeDesc.int Go.IntKind.u8) := ⟨Try.runUnderlying107⟩
instance : TPlain Try.prog 107 := ⟨Try.isAgg107, Try.sizeOf107⟩
instance : TSize Try.prog 107 1 := ⟨Try.sizeOf107⟩
instance : TBytes Try.prog 107 1 := ⟨fun w => ⟨_, Try.typeInfo107 w, by rfl⟩⟩
instance : TZero Try.prog 107 (Go.Value.int Go.IntKind.u8 0) := ⟨Try.zeroValue107⟩
instance : TUnder Try.prog 108 (Go.TypeDesc.int Go.IntKind.u8) := ⟨Try.runUnderlying108⟩
instance : TPlain Try.prog 108 := ⟨Try.isAgg108, Try.sizeOf108⟩
instance : TSize Try.prog 108 1 := ⟨Try.sizeOf108⟩
instance : TBytes Try.prog 108 1 := ⟨fun w => ⟨_, Try.typeInfo108 w, by rfl⟩⟩
instance : TZero Try.prog 108 (Go.Value.int Go.IntKind.u8 0) := ⟨Try.zeroValue108⟩
instance : TPlain Try.prog 109 := ⟨Try.isAgg109, Try.sizeOf109⟩
instance : TSize Try.prog 109 1 := ⟨Try.sizeOf109⟩
instance : TBytes Try.prog 109 8 := ⟨fun w => ⟨_, Try.typeInfo109 w, by rfl⟩⟩
instance : TZero Try.prog 109 Go.Value.nilFunc := ⟨Try.zeroValue109⟩
instance : TUnder Try.prog 110 (Go.TypeDesc.int Go.IntKind.i32) := ⟨Try.runUnderlying110⟩
instance : TPlain Try.prog 110 := ⟨Try.isAgg110, Try.sizeOf110⟩
instance : TSize Try.prog 110 1 := ⟨Try.sizeOf110⟩
instance : TBytes Try.prog 110 4 := ⟨fun w => ⟨_, Try.typeInfo110 w, by rfl⟩⟩
instance : TZero Try.prog 110 (Go.Value.int Go.IntKind.i32 0) := ⟨Try.zeroValue110⟩
instance : TUnder Try.prog 111 (Go.TypeDesc.int Go.IntKind.i32) := ⟨Try.runUnderlying111⟩
instance : TPlain Try.prog 111 := ⟨Try.isAgg111, Try.sizeOf111⟩
instance : TSize Try.prog 111 1 := ⟨Try.sizeOf111⟩
instance : TBytes Try.prog 111 4 := ⟨fun w => ⟨_, Try.typeInfo111 w, by rfl⟩⟩
instance : TZero Try.prog 111 (Go.Value.int Go.IntKind.i32 0) := ⟨Try.zeroValue111⟩
instance : TUnder Try.prog 112 (Go.TypeDesc.struct #[{ name := "Size_", type := 12, offset := 0, embedded := false, tag := "", pkgPath := "", byteOffset := 0 }, { name := "PtrBytes", type := 12, offset := 1, embedded := false, tag := "", pkgPath := "", byteOffset := 8 }, { name := "Hash", type := 31, offset := 2, embedded := false, tag := "", pkgPath := "", byteOffset := 16 }, { name := "TFlag", type := 107, offset := 3, embedded := false, tag := "", pkgPath := "", byteOffset := 20 }, { name := "Align_", type := 5, offset := 4, embedded := false, tag := "", pkgPath := "", byteOffset := 21 }, { name := "FieldAlign_", type := 5, offset := 5, embedded := false, tag := "", pkgPath := "", byteOffset := 22 }, { name := "Kind_", type := 108, offset := 6, embedded := false, tag := "", pkgPath := "", byteOffset := 23 }, { name := "Equal", type := 109, offset := 7, embedded := false, tag := "", pkgPath := "", byteOffset := 24 }, { name := "GCData", type := 97, offset := 8, embedded := false, tag := "", pkgPath := "", byteOffset := 32 }, { name := "Str", type := 110, offset := 9, embedded := false, tag := "", pkgPath := "", byteOffset := 40 }, { name := "PtrToThis", type := 111, offset := 10, embedded := false, tag := "", pkgPath := "", byteOffset := 44 }]) := ⟨Try.runUnderlying112⟩
instance : TAgg Try.prog 112 11 := ⟨Try.isAgg112, Try.sizeOf112⟩
instance : TSize Try.prog 112 11 := ⟨Try.sizeOf112⟩
instance : TBytes Try.prog 112 48 := ⟨fun w => ⟨_, Try.typeInfo112 w, by rfl⟩⟩
instance : TZero Try.prog 112 (Go.Value.agg #[(Go.Value.int Go.IntKind.u64 0), (Go.Value.int Go.IntKind.u64 0), (Go.Value.int Go.IntKind.u32 0), (Go.Value.int Go.IntKind.u8 0), (Go.Value.int Go.IntKind.u8 0), (Go.Value.int Go.IntKind.u8 0), (Go.Value.int Go.IntKind.u8 0), Go.Value.nilFunc, (Go.Value.pointer none), (Go.Value.int Go.IntKind.i32 0), (Go.Value.int Go.IntKind.i32 0)]) := ⟨Try.zeroValue112⟩
instance : TPlaces Try.prog 112 [(0, 1), (1, 1), (2, 1), (3, 1), (4, 1), (5, 1), (6, 1), (7, 1), (8, 1), (9, 1), (10, 1)] := ⟨fun w => ⟨_, Try.runUnderlying112 w, by simp [Try.sizeOf107, Try.sizeOf108, Try.sizeOf109, Try.sizeOf110, Try.sizeOf111, Try.sizeOf12, Try.sizeOf31, Try.sizeOf5, Try.sizeOf97]⟩⟩
instance : TField Try.prog 112 0 0 := ⟨fun b o w => fieldAt_of (f := { name := "Size_", type := 12, offset := 0, embedded := false, tag := "", pkgPath := "", byteOffset := 0 }) (Try.runUnderlying112 w) rfl (Try.sizeOf12 w) (by decide) b o⟩
instance : TField Try.prog 112 1 1 := ⟨fun b o w => fieldAt_of (f := { name := "PtrBytes", type := 12, offset := 1, embedded := false, tag := "", pkgPath := "", byteOffset := 8 }) (Try.runUnderlying112 w) rfl (Try.sizeOf12 w) (by decide) b o⟩
instance : TField Try.prog 112 2 2 := ⟨fun b o w => fieldAt_of (f := { name := "Hash", type := 31, offset := 2, embedded := false, tag := "", pkgPath := "", byteOffset := 16 }) (Try.runUnderlying112 w) rfl (Try.sizeOf31 w) (by decide) b o⟩
instance : TField Try.prog 112 3 3 := ⟨fun b o w => fieldAt_of (f := { name := "TFlag", type := 107, offset := 3, embedded := false, tag := "", pkgPath := "", byteOffset := 20 }) (Try.runUnderlying112 w) rfl (Try.sizeOf107 w) (by decide) b o⟩
instance : TField Try.prog 112 4 4 := ⟨fun b o w => fieldAt_of (f := { name := "Align_", type := 5, offset := 4, embedded := false, tag := "", pkgPath := "", byteOffset := 21 }) (Try.runUnderlying112 w) rfl (Try.sizeOf5 w) (by decide) b o⟩
instance : TField Try.prog 112 5 5 := ⟨fun b o w => fieldAt_of (f := { name := "FieldAlign_", type := 5, offset := 5, embedded := false, tag := "", pkgPath := "", byteOffset := 22 }) (Try.runUnderlying112 w) rfl (Try.sizeOf5 w) (by decide) b o⟩
instance : TField Try.prog 112 6 6 := ⟨fun b o w => fieldAt_of (f := { name := "Kind_", type := 108, offset := 6, embedded := false, tag := "", pkgPath := "", byteOffset := 23 }) (Try.runUnderlying112 w) rfl (Try.sizeOf108 w) (by decide) b o⟩
instance : TField Try.prog 112 7 7 := ⟨fun b o w => fieldAt_of (f := { name := "Equal", type := 109, offset := 7, embedded := false, tag := "", pkgPath := "", byteOffset := 24 }) (Try.runUnderlying112 w) rfl (Try.sizeOf109 w) (by decide) b o⟩
instance : TField Try.prog 112 8 8 := ⟨fun b o w => fieldAt_of (f := { name := "GCData", type := 97, offset := 8, embedded := false, tag := "", pkgPath := "", byteOffset := 32 }) (Try.runUnderlying112 w) rfl (Try.sizeOf97 w) (by decide) b o⟩
instance : TField Try.prog 112 9 9 := ⟨fun b o w => fieldAt_of (f := { name := "Str", type := 110, offset := 9, embedded := false, tag := "", pkgPath := "", byteOffset := 40 }) (Try.runUnderlying112 w) rfl (Try.sizeOf110 w) (by decide) b o⟩
instance : TField Try.prog 112 10 10 := ⟨fun b o w => fieldAt_of (f := { name := "PtrToThis", type := 111, offset := 10, embedded := false, tag := "", pkgPath := "", byteOffset := 44 }) (Try.runUnderlying112 w) rfl (Try.sizeOf111 w) (by decide) b o⟩
instance : TUnder Try.prog 113 (Go.TypeDesc.struct #[{ name := "Size_", type := 12, offset := 0, embedded := false, tag := "", pkgPath := "", byteOffset := 0 }, { name := "PtrBytes", type := 12, offset := 1, embedded := false, tag := "", pkgPath := "", byteOffset := 8 }, { name := "Hash", type := 31, offset := 2, embedded := false, tag := "", pkgPath := "", byteOffset := 16 }, { name := "TFlag", type := 107, offset := 3, embedded := false, tag := "", pkgPath := "", byteOffset := 20 }, { name := "Align_", type := 5, offset := 4, embedded := false, tag := "", pkgPath := "", byteOffset := 21 }, { name := "FieldAlign_", type := 5, offset := 5, embedded := false, tag := "", pkgPath := "", byteOffset := 22 }, { name := "Kind_", type := 108, offset := 6, embedded := false, tag := "", pkgPath := "", byteOffset := 23 }, { name := "Equal", type := 109, offset := 7, embedded := false, tag := "", pkgPath := "", byteOffset := 24 }, { name := "GCData", type := 97, offset := 8, embedded := false, tag := "", pkgPath := "", byteOffset := 32 }, { name := "Str", type := 110, offset := 9, embedded := false, tag := "", pkgPath := "", byteOffset := 40 }, { name := "PtrToThis", type := 111, offset := 10, embedded := false, tag := "", pkgPath := "", byteOffset := 44 }]) := ⟨Try.runUnderlying113⟩
instance : TAgg Try.prog 113 11 := ⟨Try.isAgg113, Try.sizeOf113⟩
instance : TSize Try.prog 113 11 := ⟨Try.sizeOf113⟩
instance : TBytes Try.prog 113 48 := ⟨fun w => ⟨_, Try.typeInfo113 w, by rfl⟩⟩
instance : TZero Try.prog 113 (Go.Value.agg #[(Go.Value.int Go.IntKind.u64 0), (Go.Value.int Go.IntKind.u64 0), (Go.Value.int Go.IntKind.u32 0), (Go.Value.int Go.IntKind.u8 0), (Go.Value.int Go.IntKind.u8 0), (Go.Value.int Go.IntKind.u8 0), (Go.Value.int Go.IntKind.u8 0), Go.Value.nilFunc, (Go.Value.pointer none), (Go.Value.int Go.IntKind.i32 0), (Go.Value.int Go.IntKind.i32 0)]) := ⟨Try.zeroValue113⟩
instance : TPlaces Try.prog 113 [(0, 1), (1, 1), (2, 1), (3, 1), (4, 1), (5, 1), (6, 1), (7, 1), (8, 1), (9, 1), (10, 1)] := ⟨fun w => ⟨_, Try.runUnderlying113 w, by simp [Try.sizeOf107, Try.sizeOf108, Try.sizeOf109, Try.sizeOf110, Try.sizeOf111, Try.sizeOf12, Try.sizeOf31, Try.sizeOf5, Try.sizeOf97]⟩⟩
instance : TField Try.prog 113 0 0 := ⟨fun b o w => fieldAt_of (f := { name := "Size_", type := 12, offset := 0, embedded := false, tag := "", pkgPath := "", byteOffset := 0 }) (Try.runUnderlying113 w) rfl (Try.sizeOf12 w) (by decide) b o⟩
instance : TField Try.prog 113 1 1 := ⟨fun b o w => fieldAt_of (f := { name := "PtrBytes", type := 12, offset := 1, embedded := false, tag := "", pkgPath := "", byteOffset := 8 }) (Try.runUnderlying113 w) rfl (Try.sizeOf12 w) (by decide) b o⟩
instance : TField Try.prog 113 2 2 := ⟨fun b o w => fieldAt_of (f := { name := "Hash", type := 31, offset := 2, embedded := false, tag := "", pkgPath := "", byteOffset := 16 }) (Try.runUnderlying113 w) rfl (Try.sizeOf31 w) (by decide) b o⟩
instance : TField Try.prog 113 3 3 := ⟨fun b o w => fieldAt_of (f := { name := "TFlag", type := 107, offset := 3, embedded := false, tag := "", pkgPath := "", byteOffset := 20 }) (Try.runUnderlying113 w) rfl (Try.sizeOf107 w) (by decide) b o⟩
instance : TField Try.prog 113 4 4 := ⟨fun b o w => fieldAt_of (f := { name := "Align_", type := 5, offset := 4, embedded := false, tag := "", pkgPath := "", byteOffset := 21 }) (Try.runUnderlying113 w) rfl (Try.sizeOf5 w) (by decide) b o⟩
instance : TField Try.prog 113 5 5 := ⟨fun b o w => fieldAt_of (f := { name := "FieldAlign_", type := 5, offset := 5, embedded := false, tag := "", pkgPath := "", byteOffset := 22 }) (Try.runUnderlying113 w) rfl (Try.sizeOf5 w) (by decide) b o⟩
instance : TField Try.prog 113 6 6 := ⟨fun b o w => fieldAt_of (f := { name := "Kind_", type := 108, offset := 6, embedded := false, tag := "", pkgPath := "", byteOffset := 23 }) (Try.runUnderlying113 w) rfl (Try.sizeOf108 w) (by decide) b o⟩
instance : TField Try.prog 113 7 7 := ⟨fun b o w => fieldAt_of (f := { name := "Equal", type := 109, offset := 7, embedded := false, tag := "", pkgPath := "", byteOffset := 24 }) (Try.runUnderlying113 w) rfl (Try.sizeOf109 w) (by decide) b o⟩
instance : TField Try.prog 113 8 8 := ⟨fun b o w => fieldAt_of (f := { name := "GCData", type := 97, offset := 8, embedded := false, tag := "", pkgPath := "", byteOffset := 32 }) (Try.runUnderlying113 w) rfl (Try.sizeOf97 w) (by decide) b o⟩
instance : TField Try.prog 113 9 9 := ⟨fun b o w => fieldAt_of (f := { name := "Str", type := 110, offset := 9, embedded := false, tag := "", pkgPath := "", byteOffset := 40 }) (Try.runUnderlying113 w) rfl (Try.sizeOf110 w) (by decide) b o⟩
instance : TField Try.prog 113 10 10 := ⟨fun b o w => fieldAt_of (f := { name := "PtrToThis", type := 111, offset := 10, embedded := false, tag := "", pkgPath := "", byteOffset := 44 }) (Try.runUnderlying113 w) rfl (Try.sizeOf111 w) (by decide) b o⟩
instance : Fun Try.prog 3 := ⟨fun args w => Try.call3 args w⟩
instance : Fun Try.prog 4 := ⟨fun args w => Try.call4 args w⟩
instance : Fun Try.prog 5 := ⟨fun args w => Try.call5 args w⟩
instance : Fun Try.prog 6 := ⟨fun args w => Try.call6 args w⟩
instance : Fun Try.prog 7 := ⟨fun args w => Try.call7 args w⟩
instance : Fun Try.prog 8 := ⟨fun args w => Try.call8 args w⟩
instance : Fun Try.prog 9 := ⟨fun args w => Try.call9 args w⟩
instance : Fun Try.prog 10 := ⟨fun args w => Try.call10 args w⟩
instance : Fun Try.prog 11 := ⟨fun args w => Try.call11 args w⟩
instance : Fun Try.prog 12 := ⟨fun args w => Try.call12 args w⟩
instance : Fun Try.prog 13 := ⟨fun args w => Try.call13 args w⟩
instance : Fun Try.prog 14 := ⟨fun args w => Try.call14 args w⟩
instance : Fun Try.prog 15 := ⟨fun args w => Try.call15 args w⟩
instance : Fun Try.prog 16 := ⟨fun args w => Try.call16 args w⟩
instance : Fun Try.prog 17 := ⟨fun args w => Try.call17 args w⟩
instance : Fun Try.prog 18 := ⟨fun args w => Try.call18 args w⟩
instance : Fun Try.prog 19 := ⟨fun args w => Try.call19 args w⟩
instance : Fun Try.prog 20 := ⟨fun args w => Try.call20 args w⟩
instance : Fun Try.prog 21 := ⟨fun args w => Try.call21 args w⟩
instance : Fun Try.prog 22 := ⟨fun args w => Try.call22 args w⟩
instance : Fun Try.prog 23 := ⟨fun args w => Try.call23 args w⟩
instance : Fun Try.prog 24 := ⟨fun args w => Try.call24 args w⟩
instance : Fun Try.prog 25 := ⟨fun args w => Try.call25 args w⟩
instance : Fun Try.prog 26 := ⟨fun args w => Try.call26 args w⟩
instance : Fun Try.prog 27 := ⟨fun args w => Try.call27 args w⟩
instance : Fun Try.prog 28 := ⟨fun args w => Try.call28 args w⟩
instance : Fun Try.prog 29 := ⟨fun args w => Try.call29 args w⟩
instance : Fun Try.prog 30 := ⟨fun args w => Try.call30 args w⟩
instance : Fun Try.prog 31 := ⟨fun args w => Try.call31 args w⟩
instance : Fun Try.prog 32 := ⟨fun args w => Try.call32 args w⟩
instance : Fun Try.prog 33 := ⟨fun args w => Try.call33 args w⟩
instance : Fun Try.prog 34 := ⟨fun args w => Try.call34 args w⟩
instance : Fun Try.prog 35 := ⟨fun args w => Try.call35 args w⟩
instance : Fun Try.prog 36 := ⟨fun args w => Try.call36 args w⟩
instance : Fun Try.prog 37 := ⟨fun args w => Try.call37 args w⟩
instance : Fun Try.prog 38 := ⟨fun args w => Try.call38 args w⟩
instance : Fun Try.prog 39 := ⟨fun args w => Try.call39 args w⟩
instance : Fun Try.prog 40 := ⟨fun args w => Try.call40 args w⟩
instance : Fun Try.prog 41 := ⟨fun args w => Try.call41 args w⟩
instance : Fun Try.prog 42 := ⟨fun args w => Try.call42 args w⟩
instance : Fun Try.prog 43 := ⟨fun args w => Try.call43 args w⟩
instance : Fun Try.prog 44 := ⟨fun args w => Try.call44 args w⟩
instance : Fun Try.prog 45 := ⟨fun args w => Try.call45 args w⟩
instance : Fun Try.prog 46 := ⟨fun args w => Try.call46 args w⟩
instance : Fun Try.prog 48 := ⟨fun args w => Try.call48 args w⟩

end Go.Rost
