/- What the rules ask of the types and functions: printed by a program of this work, each by the loaded facts. -/
import Derived.Test.YtdjjfmoknncojaaProg
import Derived.Test.YtdjjfmoknncojaaHx
namespace Go.Rost
open Go Go.Proofs

instance : TPlain Try.prog 1 := ⟨Try.isAgg1, Try.sizeOf1⟩
instance : TSize Try.prog 1 1 := ⟨Try.sizeOf1⟩
instance : TBytes Try.prog 1 8 := ⟨fun w => ⟨_, Try.typeInfo1 w, by rfl⟩⟩
instance : TZero Try.prog 1 Go.Value.nilFunc := ⟨Try.zeroValue1⟩
instance : TUnder Try.prog 2 (Go.TypeDesc.int Go.IntKind.i64) := ⟨Try.runUnderlying2⟩
instance : TPlain Try.prog 2 := ⟨Try.isAgg2, Try.sizeOf2⟩
instance : TSize Try.prog 2 1 := ⟨Try.sizeOf2⟩
instance : TBytes Try.prog 2 8 := ⟨fun w => ⟨_, Try.typeInfo2 w, by rfl⟩⟩
instance : TZero Try.prog 2 (Go.Value.int Go.IntKind.i64 0) := ⟨Try.zeroValue2⟩
instance : TUnder Try.prog 3 (Go.TypeDesc.int Go.IntKind.i64) := ⟨Try.runUnderlying3⟩
instance : TPlain Try.prog 3 := ⟨Try.isAgg3, Try.sizeOf3⟩
instance : TSize Try.prog 3 1 := ⟨Try.sizeOf3⟩
instance : TBytes Try.prog 3 8 := ⟨fun w => ⟨_, Try.typeInfo3 w, by rfl⟩⟩
instance : TZero Try.prog 3 (Go.Value.int Go.IntKind.i64 0) := ⟨Try.zeroValue3⟩
instance : TUnder Try.prog 4 Go.TypeDesc.bool := ⟨Try.runUnderlying4⟩
instance : TPlain Try.prog 4 := ⟨Try.isAgg4, Try.sizeOf4⟩
instance : TSize Try.prog 4 1 := ⟨Try.sizeOf4⟩
instance : TBytes Try.prog 4 1 := ⟨fun w => ⟨_, Try.typeInfo4 w, by rfl⟩⟩
instance : TZero Try.prog 4 (Go.Value.bool false) := ⟨Try.zeroValue4⟩
instance : TUnder Try.prog 5 (Go.TypeDesc.int Go.IntKind.u8) := ⟨Try.runUnderlying5⟩
instance : TPlain Try.prog 5 := ⟨Try.isAgg5, Try.sizeOf5⟩
instance : TSize Try.prog 5 1 := ⟨Try.sizeOf5⟩
instance : TBytes Try.prog 5 1 := ⟨fun w => ⟨_, Try.typeInfo5 w, by rfl⟩⟩
instance : TZero Try.prog 5 (Go.Value.int Go.IntKind.u8 0) := ⟨Try.zeroValue5⟩
instance : TUnder Try.prog 6 (Go.TypeDesc.int Go.IntKind.u8) := ⟨Try.runUnderlying6⟩
instance : TPlain Try.prog 6 := ⟨Try.isAgg6, Try.sizeOf6⟩
instance : TSize Try.prog 6 1 := ⟨Try.sizeOf6⟩
instance : TBytes Try.prog 6 1 := ⟨fun w => ⟨_, Try.typeInfo6 w, by rfl⟩⟩
instance : TZero Try.prog 6 (Go.Value.int Go.IntKind.u8 0) := ⟨Try.zeroValue6⟩
instance : TUnder Try.prog 7 (Go.TypeDesc.struct #[{ name := "x", type := 2, offset := 0, embedded := false, tag := "", pkgPath := "runtime", byteOffset := 0 }, { name := "y", type := 3, offset := 1, embedded := false, tag := "", pkgPath := "runtime", byteOffset := 8 }, { name := "signed", type := 4, offset := 2, embedded := false, tag := "", pkgPath := "runtime", byteOffset := 16 }, { name := "code", type := 6, offset := 3, embedded := false, tag := "", pkgPath := "runtime", byteOffset := 17 }]) := ⟨Try.runUnderlying7⟩
instance : TAgg Try.prog 7 4 := ⟨Try.isAgg7, Try.sizeOf7⟩
instance : TSize Try.prog 7 4 := ⟨Try.sizeOf7⟩
instance : TBytes Try.prog 7 24 := ⟨fun w => ⟨_, Try.typeInfo7 w, by rfl⟩⟩
instance : TZero Try.prog 7 (Go.Value.agg #[(Go.Value.int Go.IntKind.i64 0), (Go.Value.int Go.IntKind.i64 0), (Go.Value.bool false), (Go.Value.int Go.IntKind.u8 0)]) := ⟨Try.zeroValue7⟩
instance : TPlaces Try.prog 7 [(0, 1), (1, 1), (2, 1), (3, 1)] := ⟨fun w => ⟨_, Try.runUnderlying7 w, by simp [Try.sizeOf2, Try.sizeOf3, Try.sizeOf4, Try.sizeOf6]⟩⟩
instance : TField Try.prog 7 0 0 := ⟨fun b o w => fieldAt_of (f := { name := "x", type := 2, offset := 0, embedded := false, tag := "", pkgPath := "runtime", byteOffset := 0 }) (Try.runUnderlying7 w) rfl (Try.sizeOf2 w) (by decide) b o⟩
instance : TField Try.prog 7 1 1 := ⟨fun b o w => fieldAt_of (f := { name := "y", type := 3, offset := 1, embedded := false, tag := "", pkgPath := "runtime", byteOffset := 8 }) (Try.runUnderlying7 w) rfl (Try.sizeOf3 w) (by decide) b o⟩
instance : TField Try.prog 7 2 2 := ⟨fun b o w => fieldAt_of (f := { name := "signed", type := 4, offset := 2, embedded := false, tag := "", pkgPath := "runtime", byteOffset := 16 }) (Try.runUnderlying7 w) rfl (Try.sizeOf4 w) (by decide) b o⟩
instance : TField Try.prog 7 3 3 := ⟨fun b o w => fieldAt_of (f := { name := "code", type := 6, offset := 3, embedded := false, tag := "", pkgPath := "runtime", byteOffset := 17 }) (Try.runUnderlying7 w) rfl (Try.sizeOf6 w) (by decide) b o⟩
instance : TUnder Try.prog 8 (Go.TypeDesc.struct #[{ name := "x", type := 2, offset := 0, embedded := false, tag := "", pkgPath := "runtime", byteOffset := 0 }, { name := "y", type := 3, offset := 1, embedded := false, tag := "", pkgPath := "runtime", byteOffset := 8 }, { name := "signed", type := 4, offset := 2, embedded := false, tag := "", pkgPath := "runtime", byteOffset := 16 }, { name := "code", type := 6, offset := 3, embedded := false, tag := "", pkgPath := "runtime", byteOffset := 17 }]) := ⟨Try.runUnderlying8⟩
instance : TAgg Try.prog 8 4 := ⟨Try.isAgg8, Try.sizeOf8⟩
instance : TSize Try.prog 8 4 := ⟨Try.sizeOf8⟩
instance : TBytes Try.prog 8 24 := ⟨fun w => ⟨_, Try.typeInfo8 w, by rfl⟩⟩
instance : TZero Try.prog 8 (Go.Value.agg #[(Go.Value.int Go.IntKind.i64 0), (Go.Value.int Go.IntKind.i64 0), (Go.Value.bool false), (Go.Value.int Go.IntKind.u8 0)]) := ⟨Try.zeroValue8⟩
instance : TPlaces Try.prog 8 [(0, 1), (1, 1), (2, 1), (3, 1)] := ⟨fun w => ⟨_, Try.runUnderlying8 w, by simp [Try.sizeOf2, Try.sizeOf3, Try.sizeOf4, Try.sizeOf6]⟩⟩
instance : TField Try.prog 8 0 0 := ⟨fun b o w => fieldAt_of (f := { name := "x", type := 2, offset := 0, embedded := false, tag := "", pkgPath := "runtime", byteOffset := 0 }) (Try.runUnderlying8 w) rfl (Try.sizeOf2 w) (by decide) b o⟩
instance : TField Try.prog 8 1 1 := ⟨fun b o w => fieldAt_of (f := { name := "y", type := 3, offset := 1, embedded := false, tag := "", pkgPath := "runtime", byteOffset := 8 }) (Try.runUnderlying8 w) rfl (Try.sizeOf3 w) (by decide) b o⟩
instance : TField Try.prog 8 2 2 := ⟨fun b o w => fieldAt_of (f := { name := "signed", type := 4, offset := 2, embedded := false, tag := "", pkgPath := "runtime", byteOffset := 16 }) (Try.runUnderlying8 w) rfl (Try.sizeOf4 w) (by decide) b o⟩
instance : TField Try.prog 8 3 3 := ⟨fun b o w => fieldAt_of (f := { name := "code", type := 6, offset := 3, embedded := false, tag := "", pkgPath := "runtime", byteOffset := 17 }) (Try.runUnderlying8 w) rfl (Try.sizeOf6 w) (by decide) b o⟩
instance : TUnder Try.prog 9 Go.TypeDesc.string := ⟨Try.runUnderlying9⟩
instance : TPlain Try.prog 9 := ⟨Try.isAgg9, Try.sizeOf9⟩
instance : TSize Try.prog 9 1 := ⟨Try.sizeOf9⟩
instance : TBytes Try.prog 9 16 := ⟨fun w => ⟨_, Try.typeInfo9 w, by rfl⟩⟩
instance : TZero Try.prog 9 (Go.Value.string { data := #[] }) := ⟨Try.zeroValue9⟩
instance : TUnder Try.prog 10 Go.TypeDesc.string := ⟨Try.runUnderlying10⟩
instance : TPlain Try.prog 10 := ⟨Try.isAgg10, Try.sizeOf10⟩
instance : TSize Try.prog 10 1 := ⟨Try.sizeOf10⟩
instance : TBytes Try.prog 10 16 := ⟨fun w => ⟨_, Try.typeInfo10 w, by rfl⟩⟩
instance : TZero Try.prog 10 (Go.Value.string { data := #[] }) := ⟨Try.zeroValue10⟩
instance : TUnder Try.prog 11 Go.TypeDesc.string := ⟨Try.runUnderlying11⟩
instance : TPlain Try.prog 11 := ⟨Try.isAgg11, Try.sizeOf11⟩
instance : TSize Try.prog 11 1 := ⟨Try.sizeOf11⟩
instance : TBytes Try.prog 11 16 := ⟨fun w => ⟨_, Try.typeInfo11 w, by rfl⟩⟩
instance : TZero Try.prog 11 (Go.Value.string { data := #[] }) := ⟨Try.zeroValue11⟩
instance : TUnder Try.prog 12 (Go.TypeDesc.int Go.IntKind.u64) := ⟨Try.runUnderlying12⟩
instance : TPlain Try.prog 12 := ⟨Try.isAgg12, Try.sizeOf12⟩
instance : TSize Try.prog 12 1 := ⟨Try.sizeOf12⟩
instance : TBytes Try.prog 12 8 := ⟨fun w => ⟨_, Try.typeInfo12 w, by rfl⟩⟩
instance : TZero Try.prog 12 (Go.Value.int Go.IntKind.u64 0) := ⟨Try.zeroValue12⟩
instance : TUnder Try.prog 13 (Go.TypeDesc.struct #[{ name := "msg", type := 9, offset := 0, embedded := false, tag := "", pkgPath := "runtime", byteOffset := 0 }, { name := "addr", type := 12, offset := 1, embedded := false, tag := "", pkgPath := "runtime", byteOffset := 16 }]) := ⟨Try.runUnderlying13⟩
instance : TAgg Try.prog 13 2 := ⟨Try.isAgg13, Try.sizeOf13⟩
instance : TSize Try.prog 13 2 := ⟨Try.sizeOf13⟩
instance : TBytes Try.prog 13 24 := ⟨fun w => ⟨_, Try.typeInfo13 w, by rfl⟩⟩
instance : TZero Try.prog 13 (Go.Value.agg #[(Go.Value.string { data := #[] }), (Go.Value.int Go.IntKind.u64 0)]) := ⟨Try.zeroValue13⟩
instance : TPlaces Try.prog 13 [(0, 1), (1, 1)] := ⟨fun w => ⟨_, Try.runUnderlying13 w, by simp [Try.sizeOf12, Try.sizeOf9]⟩⟩
instance : TField Try.prog 13 0 0 := ⟨fun b o w => fieldAt_of (f := { name := "msg", type := 9, offset := 0, embedded := false, tag := "", pkgPath := "runtime", byteOffset := 0 }) (Try.runUnderlying13 w) rfl (Try.sizeOf9 w) (by decide) b o⟩
instance : TField Try.prog 13 1 1 := ⟨fun b o w => fieldAt_of (f := { name := "addr", type := 12, offset := 1, embedded := false, tag := "", pkgPath := "runtime", byteOffset := 16 }) (Try.runUnderlying13 w) rfl (Try.sizeOf12 w) (by decide) b o⟩
instance : TUnder Try.prog 14 (Go.TypeDesc.struct #[{ name := "msg", type := 9, offset := 0, embedded := false, tag := "", pkgPath := "runtime", byteOffset := 0 }, { name := "addr", type := 12, offset := 1, embedded := false, tag := "", pkgPath := "runtime", byteOffset := 16 }]) := ⟨Try.runUnderlying14⟩
instance : TAgg Try.prog 14 2 := ⟨Try.isAgg14, Try.sizeOf14⟩
instance : TSize Try.prog 14 2 := ⟨Try.sizeOf14⟩
instance : TBytes Try.prog 14 24 := ⟨fun w => ⟨_, Try.typeInfo14 w, by rfl⟩⟩
instance : TZero Try.prog 14 (Go.Value.agg #[(Go.Value.string { data := #[] }), (Go.Value.int Go.IntKind.u64 0)]) := ⟨Try.zeroValue14⟩
instance : TPlaces Try.prog 14 [(0, 1), (1, 1)] := ⟨fun w => ⟨_, Try.runUnderlying14 w, by simp [Try.sizeOf12, Try.sizeOf9]⟩⟩
instance : TField Try.prog 14 0 0 := ⟨fun b o w => fieldAt_of (f := { name := "msg", type := 9, offset := 0, embedded := false, tag := "", pkgPath := "runtime", byteOffset := 0 }) (Try.runUnderlying14 w) rfl (Try.sizeOf9 w) (by decide) b o⟩
instance : TField Try.prog 14 1 1 := ⟨fun b o w => fieldAt_of (f := { name := "addr", type := 12, offset := 1, embedded := false, tag := "", pkgPath := "runtime", byteOffset := 16 }) (Try.runUnderlying14 w) rfl (Try.sizeOf12 w) (by decide) b o⟩
instance : TUnder Try.prog 15 (Go.TypeDesc.pointer 184) := ⟨Try.runUnderlying15⟩
instance : TPlain Try.prog 15 := ⟨Try.isAgg15, Try.sizeOf15⟩
instance : TSize Try.prog 15 1 := ⟨Try.sizeOf15⟩
instance : TBytes Try.prog 15 8 := ⟨fun w => ⟨_, Try.typeInfo15 w, by rfl⟩⟩
instance : TZero Try.prog 15 (Go.Value.pointer none) := ⟨Try.zeroValue15⟩
instance : TUnder Try.prog 16 (Go.TypeDesc.pointer 187) := ⟨Try.runUnderlying16⟩
instance : TPlain Try.prog 16 := ⟨Try.isAgg16, Try.sizeOf16⟩
instance : TSize Try.prog 16 1 := ⟨Try.sizeOf16⟩
instance : TBytes Try.prog 16 8 := ⟨fun w => ⟨_, Try.typeInfo16 w, by rfl⟩⟩
instance : TZero Try.prog 16 (Go.Value.pointer none) := ⟨Try.zeroValue16⟩
instance : TUnder Try.prog 17 (Go.TypeDesc.pointer 196) := ⟨Try.runUnderlying17⟩
instance : TPlain Try.prog 17 := ⟨Try.isAgg17, Try.sizeOf17⟩
instance : TSize Try.prog 17 1 := ⟨Try.sizeOf17⟩
instance : TBytes Try.prog 17 8 := ⟨fun w => ⟨_, Try.typeInfo17 w, by rfl⟩⟩
instance : TZero Try.prog 17 (Go.Value.pointer none) := ⟨Try.zeroValue17⟩
instance : TUnder Try.prog 18 (Go.TypeDesc.struct #[{ name := "typ", type := 17, offset := 0, embedded := false, tag := "", pkgPath := "internal/runtime/maps", byteOffset := 0 }]) := ⟨Try.runUnderlying18⟩
instance : TAgg Try.prog 18 1 := ⟨Try.isAgg18, Try.sizeOf18⟩
instance : TSize Try.prog 18 1 := ⟨Try.sizeOf18⟩
instance : TBytes Try.prog 18 8 := ⟨fun w => ⟨_, Try.typeInfo18 w, by rfl⟩⟩
instance : TZero Try.prog 18 (Go.Value.agg #[(Go.Value.pointer none)]) := ⟨Try.zeroValue18⟩
instance : TPlaces Try.prog 18 [(0, 1)] := ⟨fun w => ⟨_, Try.runUnderlying18 w, by simp [Try.sizeOf17]⟩⟩
instance : TField Try.prog 18 0 0 := ⟨fun b o w => fieldAt_of (f := { name := "typ", type := 17, offset := 0, embedded := false, tag := "", pkgPath := "internal/runtime/maps", byteOffset := 0 }) (Try.runUnderlying18 w) rfl (Try.sizeOf17 w) (by decide) b o⟩
instance : TUnder Try.prog 19 (Go.TypeDesc.struct #[{ name := "typ", type := 17, offset := 0, embedded := false, tag := "", pkgPath := "internal/runtime/maps", byteOffset := 0 }]) := ⟨Try.runUnderlying19⟩
instance : TAgg Try.prog 19 1 := ⟨Try.isAgg19, Try.sizeOf19⟩
instance : TSize Try.prog 19 1 := ⟨Try.sizeOf19⟩
instance : TBytes Try.prog 19 8 := ⟨fun w => ⟨_, Try.typeInfo19 w, by rfl⟩⟩
instance : TZero Try.prog 19 (Go.Value.agg #[(Go.Value.pointer none)]) := ⟨Try.zeroValue19⟩
instance : TPlaces Try.prog 19 [(0, 1)] := ⟨fun w => ⟨_, Try.runUnderlying19 w, by simp [Try.sizeOf17]⟩⟩
instance : TField Try.prog 19 0 0 := ⟨fun b o w => fieldAt_of (f := { name := "typ", type := 17, offset := 0, embedded := false, tag := "", pkgPath := "internal/runtime/maps", byteOffset := 0 }) (Try.runUnderlying19 w) rfl (Try.sizeOf17 w) (by decide) b o⟩
instance : TPlain Try.prog 20 := ⟨Try.isAgg20, Try.sizeOf20⟩
instance : TSize Try.prog 20 1 := ⟨Try.sizeOf20⟩
instance : TBytes Try.prog 20 16 := ⟨fun w => ⟨_, Try.typeInfo20 w, by rfl⟩⟩
instance : TZero Try.prog 20 Go.Value.nilIface := ⟨Try.zeroValue20⟩
instance : TUnder Try.prog 21 (Go.TypeDesc.int Go.IntKind.i32) := ⟨Try.runUnderlying21⟩
instance : TPlain Try.prog 21 := ⟨Try.isAgg21, Try.sizeOf21⟩
instance : TSize Try.prog 21 1 := ⟨Try.sizeOf21⟩
instance : TBytes Try.prog 21 4 := ⟨fun w => ⟨_, Try.typeInfo21 w, by rfl⟩⟩
instance : TZero Try.prog 21 (Go.Value.int Go.IntKind.i32 0) := ⟨Try.zeroValue21⟩
instance : TUnder Try.prog 22 (Go.TypeDesc.slice 34) := ⟨Try.runUnderlying22⟩
instance : TPlain Try.prog 22 := ⟨Try.isAgg22, Try.sizeOf22⟩
instance : TSize Try.prog 22 1 := ⟨Try.sizeOf22⟩
instance : TBytes Try.prog 22 24 := ⟨fun w => ⟨_, Try.typeInfo22 w, by rfl⟩⟩
instance : TZero Try.prog 22 (Go.Value.slice none 0 0) := ⟨Try.zeroValue22⟩
instance : TPlain Try.prog 23 := ⟨Try.isAgg23, Try.sizeOf23⟩
instance : TSize Try.prog 23 1 := ⟨Try.sizeOf23⟩
instance : TBytes Try.prog 23 8 := ⟨fun w => ⟨_, Try.typeInfo23 w, by rfl⟩⟩
instance : TZero Try.prog 23 Go.Value.nilFunc := ⟨Try.zeroValue23⟩
instance : TPlain Try.prog 24 := ⟨Try.isAgg24, Try.sizeOf24⟩
instance : TSize Try.prog 24 1 := ⟨Try.sizeOf24⟩
instance : TBytes Try.prog 24 8 := ⟨fun w => ⟨_, Try.typeInfo24 w, by rfl⟩⟩
instance : TZero Try.prog 24 Go.Value.nilFunc := ⟨Try.zeroValue24⟩
instance : TUnder Try.prog 25 (Go.TypeDesc.pointer 97) := ⟨Try.runUnderlying25⟩
instance : TPlain Try.prog 25 := ⟨Try.isAgg25, Try.sizeOf25⟩
instance : TSize Try.prog 25 1 := ⟨Try.sizeOf25⟩
instance : TBytes Try.prog 25 8 := ⟨fun w => ⟨_, Try.typeInfo25 w, by rfl⟩⟩
instance : TZero Try.prog 25 (Go.Value.pointer none) := ⟨Try.zeroValue25⟩
instance : TPlain Try.prog 26 := ⟨Try.isAgg26, Try.sizeOf26⟩
instance : TSize Try.prog 26 1 := ⟨Try.sizeOf26⟩
instance : TBytes Try.prog 26 8 := ⟨fun w => ⟨_, Try.typeInfo26 w, by rfl⟩⟩
instance : TZero Try.prog 26 Go.Value.nilFunc := ⟨Try.zeroValue26⟩
instance : TUnder Try.prog 27 (Go.TypeDesc.int Go.IntKind.i64) := ⟨Try.runUnderlying27⟩
instance : TPlain Try.prog 27 := ⟨Try.isAgg27, Try.sizeOf27⟩
instance : TSize Try.prog 27 1 := ⟨Try.sizeOf27⟩
instance : TBytes Try.prog 27 8 := ⟨fun w => ⟨_, Try.typeInfo27 w, by rfl⟩⟩
instance : TZero Try.prog 27 (Go.Value.int Go.IntKind.i64 0) := ⟨Try.zeroValue27⟩
instance : TPlain Try.prog 29 := ⟨Try.isAgg29, Try.sizeOf29⟩
instance : TSize Try.prog 29 1 := ⟨Try.sizeOf29⟩
instance : TBytes Try.prog 29 8 := ⟨fun w => ⟨_, Try.typeInfo29 w, by rfl⟩⟩
instance : TZero Try.prog 29 Go.Value.nilFunc := ⟨Try.zeroValue29⟩
instance : TUnder Try.prog 30 (Go.TypeDesc.int Go.IntKind.u32) := ⟨Try.runUnderlying30⟩
instance : TPlain Try.prog 30 := ⟨Try.isAgg30, Try.sizeOf30⟩
instance : TSize Try.prog 30 1 := ⟨Try.sizeOf30⟩
instance : TBytes Try.prog 30 4 := ⟨fun w => ⟨_, Try.typeInfo30 w, by rfl⟩⟩
instance : TZero Try.prog 30 (Go.Value.int Go.IntKind.u32 0) := ⟨Try.zeroValue30⟩
instance : TUnder Try.prog 31 (Go.TypeDesc.struct #[{ name := "From", type := 3, offset := 0, embedded := false, tag := "", pkgPath := "", byteOffset := 0 }, { name := "Count", type := 30, offset := 1, embedded := false, tag := "", pkgPath := "", byteOffset := 8 }]) := ⟨Try.runUnderlying31⟩
instance : TAgg Try.prog 31 2 := ⟨Try.isAgg31, Try.sizeOf31⟩
instance : TSize Try.prog 31 2 := ⟨Try.sizeOf31⟩
instance : TBytes Try.prog 31 16 := ⟨fun w => ⟨_, Try.typeInfo31 w, by rfl⟩⟩
instance : TZero Try.prog 31 (Go.Value.agg #[(Go.Value.int Go.IntKind.i64 0), (Go.Value.int Go.IntKind.u32 0)]) := ⟨Try.zeroValue31⟩
instance : TPlaces Try.prog 31 [(0, 1), (1, 1)] := ⟨fun w => ⟨_, Try.runUnderlying31 w, by simp [Try.sizeOf3, Try.sizeOf30]⟩⟩
instance : TField Try.prog 31 0 0 := ⟨fun b o w => fieldAt_of (f := { name := "From", type := 3, offset := 0, embedded := false, tag := "", pkgPath := "", byteOffset := 0 }) (Try.runUnderlying31 w) rfl (Try.sizeOf3 w) (by decide) b o⟩
instance : TField Try.prog 31 1 1 := ⟨fun b o w => fieldAt_of (f := { name := "Count", type := 30, offset := 1, embedded := false, tag := "", pkgPath := "", byteOffset := 8 }) (Try.runUnderlying31 w) rfl (Try.sizeOf30 w) (by decide) b o⟩
instance : TUnder Try.prog 32 (Go.TypeDesc.struct #[{ name := "From", type := 3, offset := 0, embedded := false, tag := "", pkgPath := "", byteOffset := 0 }, { name := "Count", type := 30, offset := 1, embedded := false, tag := "", pkgPath := "", byteOffset := 8 }]) := ⟨Try.runUnderlying32⟩
instance : TAgg Try.prog 32 2 := ⟨Try.isAgg32, Try.sizeOf32⟩
instance : TSize Try.prog 32 2 := ⟨Try.sizeOf32⟩
instance : TBytes Try.prog 32 16 := ⟨fun w => ⟨_, Try.typeInfo32 w, by rfl⟩⟩
instance : TZero Try.prog 32 (Go.Value.agg #[(Go.Value.int Go.IntKind.i64 0), (Go.Value.int Go.IntKind.u32 0)]) := ⟨Try.zeroValue32⟩
instance : TPlaces Try.prog 32 [(0, 1), (1, 1)] := ⟨fun w => ⟨_, Try.runUnderlying32 w, by simp [Try.sizeOf3, Try.sizeOf30]⟩⟩
instance : TField Try.prog 32 0 0 := ⟨fun b o w => fieldAt_of (f := { name := "From", type := 3, offset := 0, embedded := false, tag := "", pkgPath := "", byteOffset := 0 }) (Try.runUnderlying32 w) rfl (Try.sizeOf3 w) (by decide) b o⟩
instance : TField Try.prog 32 1 1 := ⟨fun b o w => fieldAt_of (f := { name := "Count", type := 30, offset := 1, embedded := false, tag := "", pkgPath := "", byteOffset := 8 }) (Try.runUnderlying32 w) rfl (Try.sizeOf30 w) (by decide) b o⟩
instance : TUnder Try.prog 33 (Go.TypeDesc.struct #[{ name := "Id", type := 32, offset := 0, embedded := false, tag := "", pkgPath := "", byteOffset := 0 }, { name := "Data", type := 9, offset := 2, embedded := false, tag := "", pkgPath := "", byteOffset := 16 }]) := ⟨Try.runUnderlying33⟩
instance : TAgg Try.prog 33 3 := ⟨Try.isAgg33, Try.sizeOf33⟩
instance : TSize Try.prog 33 3 := ⟨Try.sizeOf33⟩
instance : TBytes Try.prog 33 32 := ⟨fun w => ⟨_, Try.typeInfo33 w, by rfl⟩⟩
instance : TZero Try.prog 33 (Go.Value.agg #[(Go.Value.int Go.IntKind.i64 0), (Go.Value.int Go.IntKind.u32 0), (Go.Value.string { data := #[] })]) := ⟨Try.zeroValue33⟩
instance : TPlaces Try.prog 33 [(0, 2), (2, 1)] := ⟨fun w => ⟨_, Try.runUnderlying33 w, by simp [Try.sizeOf32, Try.sizeOf9]⟩⟩
instance : TField Try.prog 33 0 0 := ⟨fun b o w => fieldAt_of (f := { name := "Id", type := 32, offset := 0, embedded := false, tag := "", pkgPath := "", byteOffset := 0 }) (Try.runUnderlying33 w) rfl (Try.sizeOf32 w) (by decide) b o⟩
instance : TField Try.prog 33 1 2 := ⟨fun b o w => fieldAt_of (f := { name := "Data", type := 9, offset := 2, embedded := false, tag := "", pkgPath := "", byteOffset := 16 }) (Try.runUnderlying33 w) rfl (Try.sizeOf9 w) (by decide) b o⟩
instance : TUnder Try.prog 34 (Go.TypeDesc.struct #[{ name := "Id", type := 32, offset := 0, embedded := false, tag := "", pkgPath := "", byteOffset := 0 }, { name := "Data", type := 9, offset := 2, embedded := false, tag := "", pkgPath := "", byteOffset := 16 }]) := ⟨Try.runUnderlying34⟩
instance : TAgg Try.prog 34 3 := ⟨Try.isAgg34, Try.sizeOf34⟩
instance : TSize Try.prog 34 3 := ⟨Try.sizeOf34⟩
instance : TBytes Try.prog 34 32 := ⟨fun w => ⟨_, Try.typeInfo34 w, by rfl⟩⟩
instance : TZero Try.prog 34 (Go.Value.agg #[(Go.Value.int Go.IntKind.i64 0), (Go.Value.int Go.IntKind.u32 0), (Go.Value.string { data := #[] })]) := ⟨Try.zeroValue34⟩
instance : TPlaces Try.prog 34 [(0, 2), (2, 1)] := ⟨fun w => ⟨_, Try.runUnderlying34 w, by simp [Try.sizeOf32, Try.sizeOf9]⟩⟩
instance : TField Try.prog 34 0 0 := ⟨fun b o w => fieldAt_of (f := { name := "Id", type := 32, offset := 0, embedded := false, tag := "", pkgPath := "", byteOffset := 0 }) (Try.runUnderlying34 w) rfl (Try.sizeOf32 w) (by decide) b o⟩
instance : TField Try.prog 34 1 2 := ⟨fun b o w => fieldAt_of (f := { name := "Data", type := 9, offset := 2, embedded := false, tag := "", pkgPath := "", byteOffset := 16 }) (Try.runUnderlying34 w) rfl (Try.sizeOf9 w) (by decide) b o⟩
instance : TPlain Try.prog 35 := ⟨Try.isAgg35, Try.sizeOf35⟩
instance : TSize Try.prog 35 1 := ⟨Try.sizeOf35⟩
instance : TBytes Try.prog 35 8 := ⟨fun w => ⟨_, Try.typeInfo35 w, by rfl⟩⟩
instance : TZero Try.prog 35 Go.Value.nilFunc := ⟨Try.zeroValue35⟩
instance : TUnder Try.prog 36 (Go.TypeDesc.array 16 30) := ⟨Try.runUnderlying36⟩
instance : TAgg Try.prog 36 16 := ⟨Try.isAgg36, Try.sizeOf36⟩
instance : TSize Try.prog 36 16 := ⟨Try.sizeOf36⟩
instance : TBytes Try.prog 36 64 := ⟨fun w => ⟨_, Try.typeInfo36 w, by rfl⟩⟩
instance : TZero Try.prog 36 (Go.Value.agg #[(Go.Value.int Go.IntKind.u32 0), (Go.Value.int Go.IntKind.u32 0), (Go.Value.int Go.IntKind.u32 0), (Go.Value.int Go.IntKind.u32 0), (Go.Value.int Go.IntKind.u32 0), (Go.Value.int Go.IntKind.u32 0), (Go.Value.int Go.IntKind.u32 0), (Go.Value.int Go.IntKind.u32 0), (Go.Value.int Go.IntKind.u32 0), (Go.Value.int Go.IntKind.u32 0), (Go.Value.int Go.IntKind.u32 0), (Go.Value.int Go.IntKind.u32 0), (Go.Value.int Go.IntKind.u32 0), (Go.Value.int Go.IntKind.u32 0), (Go.Value.int Go.IntKind.u32 0), (Go.Value.int Go.IntKind.u32 0)]) := ⟨Try.zeroValue36⟩
instance : TPlain Try.prog 37 := ⟨Try.isAgg37, Try.sizeOf37⟩
instance : TSize Try.prog 37 1 := ⟨Try.sizeOf37⟩
instance : TBytes Try.prog 37 8 := ⟨fun w => ⟨_, Try.typeInfo37 w, by rfl⟩⟩
instance : TZero Try.prog 37 Go.Value.nilFunc := ⟨Try.zeroValue37⟩
instance : TUnder Try.prog 38 (Go.TypeDesc.int Go.IntKind.u64) := ⟨Try.runUnderlying38⟩
instance : TPlain Try.prog 38 := ⟨Try.isAgg38, Try.sizeOf38⟩
instance : TSize Try.prog 38 1 := ⟨Try.sizeOf38⟩
instance : TBytes Try.prog 38 8 := ⟨fun w => ⟨_, Try.typeInfo38 w, by rfl⟩⟩
instance : TZero Try.prog 38 (Go.Value.int Go.IntKind.u64 0) := ⟨Try.zeroValue38⟩
instance : TPlain Try.prog 39 := ⟨Try.isAgg39, Try.sizeOf39⟩
instance : TSize Try.prog 39 1 := ⟨Try.sizeOf39⟩
instance : TBytes Try.prog 39 8 := ⟨fun w => ⟨_, Try.typeInfo39 w, by rfl⟩⟩
instance : TZero Try.prog 39 Go.Value.nilFunc := ⟨Try.zeroValue39⟩
instance : TPlain Try.prog 40 := ⟨Try.isAgg40, Try.sizeOf40⟩
instance : TSize Try.prog 40 1 := ⟨Try.sizeOf40⟩
instance : TBytes Try.prog 40 8 := ⟨fun w => ⟨_, Try.typeInfo40 w, by rfl⟩⟩
instance : TZero Try.prog 40 Go.Value.nilFunc := ⟨Try.zeroValue40⟩
instance : TPlain Try.prog 41 := ⟨Try.isAgg41, Try.sizeOf41⟩
instance : TSize Try.prog 41 1 := ⟨Try.sizeOf41⟩
instance : TBytes Try.prog 41 8 := ⟨fun w => ⟨_, Try.typeInfo41 w, by rfl⟩⟩
instance : TZero Try.prog 41 Go.Value.nilFunc := ⟨Try.zeroValue41⟩
instance : TPlain Try.prog 42 := ⟨Try.isAgg42, Try.sizeOf42⟩
instance : TSize Try.prog 42 1 := ⟨Try.sizeOf42⟩
instance : TBytes Try.prog 42 8 := ⟨fun w => ⟨_, Try.typeInfo42 w, by rfl⟩⟩
instance : TZero Try.prog 42 Go.Value.nilFunc := ⟨Try.zeroValue42⟩
instance : TUnder Try.prog 43 (Go.TypeDesc.slice 53) := ⟨Try.runUnderlying43⟩
instance : TPlain Try.prog 43 := ⟨Try.isAgg43, Try.sizeOf43⟩
instance : TSize Try.prog 43 1 := ⟨Try.sizeOf43⟩
instance : TBytes Try.prog 43 24 := ⟨fun w => ⟨_, Try.typeInfo43 w, by rfl⟩⟩
instance : TZero Try.prog 43 (Go.Value.slice none 0 0) := ⟨Try.zeroValue43⟩
instance : TUnder Try.prog 44 (Go.TypeDesc.pointer 108) := ⟨Try.runUnderlying44⟩
instance : TPlain Try.prog 44 := ⟨Try.isAgg44, Try.sizeOf44⟩
instance : TSize Try.prog 44 1 := ⟨Try.sizeOf44⟩
instance : TBytes Try.prog 44 8 := ⟨fun w => ⟨_, Try.typeInfo44 w, by rfl⟩⟩
instance : TZero Try.prog 44 (Go.Value.pointer none) := ⟨Try.zeroValue44⟩
instance : TPlain Try.prog 45 := ⟨Try.isAgg45, Try.sizeOf45⟩
instance : TSize Try.prog 45 1 := ⟨Try.sizeOf45⟩
instance : TBytes Try.prog 45 8 := ⟨fun w => ⟨_, Try.typeInfo45 w, by rfl⟩⟩
instance : TZero Try.prog 45 Go.Value.nilFunc := ⟨Try.zeroValue45⟩
instance : TUnder Try.prog 46 (Go.TypeDesc.pointer 49) := ⟨Try.runUnderlying46⟩
instance : TPlain Try.prog 46 := ⟨Try.isAgg46, Try.sizeOf46⟩
instance : TSize Try.prog 46 1 := ⟨Try.sizeOf46⟩
instance : TBytes Try.prog 46 8 := ⟨fun w => ⟨_, Try.typeInfo46 w, by rfl⟩⟩
instance : TZero Try.prog 46 (Go.Value.pointer none) := ⟨Try.zeroValue46⟩
instance : TUnder Try.prog 47 (Go.TypeDesc.slice 51) := ⟨Try.runUnderlying47⟩
instance : TPlain Try.prog 47 := ⟨Try.isAgg47, Try.sizeOf47⟩
instance : TSize Try.prog 47 1 := ⟨Try.sizeOf47⟩
instance : TBytes Try.prog 47 24 := ⟨fun w => ⟨_, Try.typeInfo47 w, by rfl⟩⟩
instance : TZero Try.prog 47 (Go.Value.slice none 0 0) := ⟨Try.zeroValue47⟩
instance : TUnder Try.prog 48 (Go.TypeDesc.struct #[{ name := "E", type := 30, offset := 0, embedded := false, tag := "", pkgPath := "", byteOffset := 0 }, { name := "Next", type := 30, offset := 1, embedded := false, tag := "", pkgPath := "", byteOffset := 4 }, { name := "W", type := 47, offset := 2, embedded := false, tag := "", pkgPath := "", byteOffset := 8 }, { name := "B", type := 47, offset := 3, embedded := false, tag := "", pkgPath := "", byteOffset := 32 }]) := ⟨Try.runUnderlying48⟩
instance : TAgg Try.prog 48 4 := ⟨Try.isAgg48, Try.sizeOf48⟩
instance : TSize Try.prog 48 4 := ⟨Try.sizeOf48⟩
instance : TBytes Try.prog 48 56 := ⟨fun w => ⟨_, Try.typeInfo48 w, by rfl⟩⟩
instance : TZero Try.prog 48 (Go.Value.agg #[(Go.Value.int Go.IntKind.u32 0), (Go.Value.int Go.IntKind.u32 0), (Go.Value.slice none 0 0), (Go.Value.slice none 0 0)]) := ⟨Try.zeroValue48⟩
instance : TPlaces Try.prog 48 [(0, 1), (1, 1), (2, 1), (3, 1)] := ⟨fun w => ⟨_, Try.runUnderlying48 w, by simp [Try.sizeOf30, Try.sizeOf47]⟩⟩
instance : TField Try.prog 48 0 0 := ⟨fun b o w => fieldAt_of (f := { name := "E", type := 30, offset := 0, embedded := false, tag := "", pkgPath := "", byteOffset := 0 }) (Try.runUnderlying48 w) rfl (Try.sizeOf30 w) (by decide) b o⟩
instance : TField Try.prog 48 1 1 := ⟨fun b o w => fieldAt_of (f := { name := "Next", type := 30, offset := 1, embedded := false, tag := "", pkgPath := "", byteOffset := 4 }) (Try.runUnderlying48 w) rfl (Try.sizeOf30 w) (by decide) b o⟩
instance : TField Try.prog 48 2 2 := ⟨fun b o w => fieldAt_of (f := { name := "W", type := 47, offset := 2, embedded := false, tag := "", pkgPath := "", byteOffset := 8 }) (Try.runUnderlying48 w) rfl (Try.sizeOf47 w) (by decide) b o⟩
instance : TField Try.prog 48 3 3 := ⟨fun b o w => fieldAt_of (f := { name := "B", type := 47, offset := 3, embedded := false, tag := "", pkgPath := "", byteOffset := 32 }) (Try.runUnderlying48 w) rfl (Try.sizeOf47 w) (by decide) b o⟩
instance : TUnder Try.prog 49 (Go.TypeDesc.struct #[{ name := "E", type := 30, offset := 0, embedded := false, tag := "", pkgPath := "", byteOffset := 0 }, { name := "Next", type := 30, offset := 1, embedded := false, tag := "", pkgPath := "", byteOffset := 4 }, { name := "W", type := 47, offset := 2, embedded := false, tag := "", pkgPath := "", byteOffset := 8 }, { name := "B", type := 47, offset := 3, embedded := false, tag := "", pkgPath := "", byteOffset := 32 }]) := ⟨Try.runUnderlying49⟩
instance : TAgg Try.prog 49 4 := ⟨Try.isAgg49, Try.sizeOf49⟩
instance : TSize Try.prog 49 4 := ⟨Try.sizeOf49⟩
instance : TBytes Try.prog 49 56 := ⟨fun w => ⟨_, Try.typeInfo49 w, by rfl⟩⟩
instance : TZero Try.prog 49 (Go.Value.agg #[(Go.Value.int Go.IntKind.u32 0), (Go.Value.int Go.IntKind.u32 0), (Go.Value.slice none 0 0), (Go.Value.slice none 0 0)]) := ⟨Try.zeroValue49⟩
instance : TPlaces Try.prog 49 [(0, 1), (1, 1), (2, 1), (3, 1)] := ⟨fun w => ⟨_, Try.runUnderlying49 w, by simp [Try.sizeOf30, Try.sizeOf47]⟩⟩
instance : TField Try.prog 49 0 0 := ⟨fun b o w => fieldAt_of (f := { name := "E", type := 30, offset := 0, embedded := false, tag := "", pkgPath := "", byteOffset := 0 }) (Try.runUnderlying49 w) rfl (Try.sizeOf30 w) (by decide) b o⟩
instance : TField Try.prog 49 1 1 := ⟨fun b o w => fieldAt_of (f := { name := "Next", type := 30, offset := 1, embedded := false, tag := "", pkgPath := "", byteOffset := 4 }) (Try.runUnderlying49 w) rfl (Try.sizeOf30 w) (by decide) b o⟩
instance : TField Try.prog 49 2 2 := ⟨fun b o w => fieldAt_of (f := { name := "W", type := 47, offset := 2, embedded := false, tag := "", pkgPath := "", byteOffset := 8 }) (Try.runUnderlying49 w) rfl (Try.sizeOf47 w) (by decide) b o⟩
instance : TField Try.prog 49 3 3 := ⟨fun b o w => fieldAt_of (f := { name := "B", type := 47, offset := 3, embedded := false, tag := "", pkgPath := "", byteOffset := 32 }) (Try.runUnderlying49 w) rfl (Try.sizeOf47 w) (by decide) b o⟩
instance : TUnder Try.prog 50 (Go.TypeDesc.struct #[{ name := "Epoch", type := 30, offset := 0, embedded := false, tag := "", pkgPath := "", byteOffset := 0 }, { name := "N", type := 30, offset := 1, embedded := false, tag := "", pkgPath := "", byteOffset := 4 }, { name := "M", type := 34, offset := 2, embedded := false, tag := "", pkgPath := "", byteOffset := 8 }]) := ⟨Try.runUnderlying50⟩
instance : TAgg Try.prog 50 5 := ⟨Try.isAgg50, Try.sizeOf50⟩
instance : TSize Try.prog 50 5 := ⟨Try.sizeOf50⟩
instance : TBytes Try.prog 50 40 := ⟨fun w => ⟨_, Try.typeInfo50 w, by rfl⟩⟩
instance : TZero Try.prog 50 (Go.Value.agg #[(Go.Value.int Go.IntKind.u32 0), (Go.Value.int Go.IntKind.u32 0), (Go.Value.int Go.IntKind.i64 0), (Go.Value.int Go.IntKind.u32 0), (Go.Value.string { data := #[] })]) := ⟨Try.zeroValue50⟩
instance : TPlaces Try.prog 50 [(0, 1), (1, 1), (2, 3)] := ⟨fun w => ⟨_, Try.runUnderlying50 w, by simp [Try.sizeOf30, Try.sizeOf34]⟩⟩
instance : TField Try.prog 50 0 0 := ⟨fun b o w => fieldAt_of (f := { name := "Epoch", type := 30, offset := 0, embedded := false, tag := "", pkgPath := "", byteOffset := 0 }) (Try.runUnderlying50 w) rfl (Try.sizeOf30 w) (by decide) b o⟩
instance : TField Try.prog 50 1 1 := ⟨fun b o w => fieldAt_of (f := { name := "N", type := 30, offset := 1, embedded := false, tag := "", pkgPath := "", byteOffset := 4 }) (Try.runUnderlying50 w) rfl (Try.sizeOf30 w) (by decide) b o⟩
instance : TField Try.prog 50 2 2 := ⟨fun b o w => fieldAt_of (f := { name := "M", type := 34, offset := 2, embedded := false, tag := "", pkgPath := "", byteOffset := 8 }) (Try.runUnderlying50 w) rfl (Try.sizeOf34 w) (by decide) b o⟩
instance : TUnder Try.prog 51 (Go.TypeDesc.struct #[{ name := "Epoch", type := 30, offset := 0, embedded := false, tag := "", pkgPath := "", byteOffset := 0 }, { name := "N", type := 30, offset := 1, embedded := false, tag := "", pkgPath := "", byteOffset := 4 }, { name := "M", type := 34, offset := 2, embedded := false, tag := "", pkgPath := "", byteOffset := 8 }]) := ⟨Try.runUnderlying51⟩
instance : TAgg Try.prog 51 5 := ⟨Try.isAgg51, Try.sizeOf51⟩
instance : TSize Try.prog 51 5 := ⟨Try.sizeOf51⟩
instance : TBytes Try.prog 51 40 := ⟨fun w => ⟨_, Try.typeInfo51 w, by rfl⟩⟩
instance : TZero Try.prog 51 (Go.Value.agg #[(Go.Value.int Go.IntKind.u32 0), (Go.Value.int Go.IntKind.u32 0), (Go.Value.int Go.IntKind.i64 0), (Go.Value.int Go.IntKind.u32 0), (Go.Value.string { data := #[] })]) := ⟨Try.zeroValue51⟩
instance : TPlaces Try.prog 51 [(0, 1), (1, 1), (2, 3)] := ⟨fun w => ⟨_, Try.runUnderlying51 w, by simp [Try.sizeOf30, Try.sizeOf34]⟩⟩
instance : TField Try.prog 51 0 0 := ⟨fun b o w => fieldAt_of (f := { name := "Epoch", type := 30, offset := 0, embedded := false, tag := "", pkgPath := "", byteOffset := 0 }) (Try.runUnderlying51 w) rfl (Try.sizeOf30 w) (by decide) b o⟩
instance : TField Try.prog 51 1 1 := ⟨fun b o w => fieldAt_of (f := { name := "N", type := 30, offset := 1, embedded := false, tag := "", pkgPath := "", byteOffset := 4 }) (Try.runUnderlying51 w) rfl (Try.sizeOf30 w) (by decide) b o⟩
instance : TField Try.prog 51 2 2 := ⟨fun b o w => fieldAt_of (f := { name := "M", type := 34, offset := 2, embedded := false, tag := "", pkgPath := "", byteOffset := 8 }) (Try.runUnderlying51 w) rfl (Try.sizeOf34 w) (by decide) b o⟩
instance : TUnder Try.prog 52 (Go.TypeDesc.struct #[{ name := "Move", type := 4, offset := 0, embedded := false, tag := "", pkgPath := "", byteOffset := 0 }, { name := "X", type := 51, offset := 1, embedded := false, tag := "", pkgPath := "", byteOffset := 8 }]) := ⟨Try.runUnderlying52⟩
instance : TAgg Try.prog 52 6 := ⟨Try.isAgg52, Try.sizeOf52⟩
instance : TSize Try.prog 52 6 := ⟨Try.sizeOf52⟩
instance : TBytes Try.prog 52 48 := ⟨fun w => ⟨_, Try.typeInfo52 w, by rfl⟩⟩
instance : TZero Try.prog 52 (Go.Value.agg #[(Go.Value.bool false), (Go.Value.int Go.IntKind.u32 0), (Go.Value.int Go.IntKind.u32 0), (Go.Value.int Go.IntKind.i64 0), (Go.Value.int Go.IntKind.u32 0), (Go.Value.string { data := #[] })]) := ⟨Try.zeroValue52⟩
instance : TPlaces Try.prog 52 [(0, 1), (1, 5)] := ⟨fun w => ⟨_, Try.runUnderlying52 w, by simp [Try.sizeOf4, Try.sizeOf51]⟩⟩
instance : TField Try.prog 52 0 0 := ⟨fun b o w => fieldAt_of (f := { name := "Move", type := 4, offset := 0, embedded := false, tag := "", pkgPath := "", byteOffset := 0 }) (Try.runUnderlying52 w) rfl (Try.sizeOf4 w) (by decide) b o⟩
instance : TField Try.prog 52 1 1 := ⟨fun b o w => fieldAt_of (f := { name := "X", type := 51, offset := 1, embedded := false, tag := "", pkgPath := "", byteOffset := 8 }) (Try.runUnderlying52 w) rfl (Try.sizeOf51 w) (by decide) b o⟩
instance : TUnder Try.prog 53 (Go.TypeDesc.struct #[{ name := "Move", type := 4, offset := 0, embedded := false, tag := "", pkgPath := "", byteOffset := 0 }, { name := "X", type := 51, offset := 1, embedded := false, tag := "", pkgPath := "", byteOffset := 8 }]) := ⟨Try.runUnderlying53⟩
instance : TAgg Try.prog 53 6 := ⟨Try.isAgg53, Try.sizeOf53⟩
instance : TSize Try.prog 53 6 := ⟨Try.sizeOf53⟩
instance : TBytes Try.prog 53 48 := ⟨fun w => ⟨_, Try.typeInfo53 w, by rfl⟩⟩
instance : TZero Try.prog 53 (Go.Value.agg #[(Go.Value.bool false), (Go.Value.int Go.IntKind.u32 0), (Go.Value.int Go.IntKind.u32 0), (Go.Value.int Go.IntKind.i64 0), (Go.Value.int Go.IntKind.u32 0), (Go.Value.string { data := #[] })]) := ⟨Try.zeroValue53⟩
instance : TPlaces Try.prog 53 [(0, 1), (1, 5)] := ⟨fun w => ⟨_, Try.runUnderlying53 w, by simp [Try.sizeOf4, Try.sizeOf51]⟩⟩
instance : TField Try.prog 53 0 0 := ⟨fun b o w => fieldAt_of (f := { name := "Move", type := 4, offset := 0, embedded := false, tag := "", pkgPath := "", byteOffset := 0 }) (Try.runUnderlying53 w) rfl (Try.sizeOf4 w) (by decide) b o⟩
instance : TField Try.prog 53 1 1 := ⟨fun b o w => fieldAt_of (f := { name := "X", type := 51, offset := 1, embedded := false, tag := "", pkgPath := "", byteOffset := 8 }) (Try.runUnderlying53 w) rfl (Try.sizeOf51 w) (by decide) b o⟩
instance : TPlain Try.prog 54 := ⟨Try.isAgg54, Try.sizeOf54⟩
instance : TSize Try.prog 54 1 := ⟨Try.sizeOf54⟩
instance : TBytes Try.prog 54 8 := ⟨fun w => ⟨_, Try.typeInfo54 w, by rfl⟩⟩
instance : TZero Try.prog 54 Go.Value.nilFunc := ⟨Try.zeroValue54⟩
instance : TPlain Try.prog 55 := ⟨Try.isAgg55, Try.sizeOf55⟩
instance : TSize Try.prog 55 1 := ⟨Try.sizeOf55⟩
instance : TBytes Try.prog 55 8 := ⟨fun w => ⟨_, Try.typeInfo55 w, by rfl⟩⟩
instance : TZero Try.prog 55 Go.Value.nilFunc := ⟨Try.zeroValue55⟩
instance : TPlain Try.prog 56 := ⟨Try.isAgg56, Try.sizeOf56⟩
instance : TSize Try.prog 56 1 := ⟨Try.sizeOf56⟩
instance : TBytes Try.prog 56 8 := ⟨fun w => ⟨_, Try.typeInfo56 w, by rfl⟩⟩
instance : TZero Try.prog 56 Go.Value.nilFunc := ⟨Try.zeroValue56⟩
instance : TPlain Try.prog 57 := ⟨Try.isAgg57, Try.sizeOf57⟩
instance : TSize Try.prog 57 1 := ⟨Try.sizeOf57⟩
instance : TBytes Try.prog 57 8 := ⟨fun w => ⟨_, Try.typeInfo57 w, by rfl⟩⟩
instance : TZero Try.prog 57 Go.Value.nilFunc := ⟨Try.zeroValue57⟩
instance : TUnder Try.prog 58 (Go.TypeDesc.slice 30) := ⟨Try.runUnderlying58⟩
instance : TPlain Try.prog 58 := ⟨Try.isAgg58, Try.sizeOf58⟩
instance : TSize Try.prog 58 1 := ⟨Try.sizeOf58⟩
instance : TBytes Try.prog 58 24 := ⟨fun w => ⟨_, Try.typeInfo58 w, by rfl⟩⟩
instance : TZero Try.prog 58 (Go.Value.slice none 0 0) := ⟨Try.zeroValue58⟩
instance : TPlain Try.prog 59 := ⟨Try.isAgg59, Try.sizeOf59⟩
instance : TSize Try.prog 59 1 := ⟨Try.sizeOf59⟩
instance : TBytes Try.prog 59 8 := ⟨fun w => ⟨_, Try.typeInfo59 w, by rfl⟩⟩
instance : TZero Try.prog 59 Go.Value.nilFunc := ⟨Try.zeroValue59⟩
instance : TPlain Try.prog 60 := ⟨Try.isAgg60, Try.sizeOf60⟩
instance : TSize Try.prog 60 1 := ⟨Try.sizeOf60⟩
instance : TBytes Try.prog 60 8 := ⟨fun w => ⟨_, Try.typeInfo60 w, by rfl⟩⟩
instance : TZero Try.prog 60 Go.Value.nilFunc := ⟨Try.zeroValue60⟩
instance : TPlain Try.prog 61 := ⟨Try.isAgg61, Try.sizeOf61⟩
instance : TSize Try.prog 61 1 := ⟨Try.sizeOf61⟩
instance : TBytes Try.prog 61 8 := ⟨fun w => ⟨_, Try.typeInfo61 w, by rfl⟩⟩
instance : TZero Try.prog 61 Go.Value.nilFunc := ⟨Try.zeroValue61⟩
instance : TPlain Try.prog 62 := ⟨Try.isAgg62, Try.sizeOf62⟩
instance : TSize Try.prog 62 1 := ⟨Try.sizeOf62⟩
instance : TBytes Try.prog 62 8 := ⟨fun w => ⟨_, Try.typeInfo62 w, by rfl⟩⟩
instance : TZero Try.prog 62 Go.Value.nilFunc := ⟨Try.zeroValue62⟩
instance : TUnder Try.prog 63 (Go.TypeDesc.slice 71) := ⟨Try.runUnderlying63⟩
instance : TPlain Try.prog 63 := ⟨Try.isAgg63, Try.sizeOf63⟩
instance : TSize Try.prog 63 1 := ⟨Try.sizeOf63⟩
instance : TBytes Try.prog 63 24 := ⟨fun w => ⟨_, Try.typeInfo63 w, by rfl⟩⟩
instance : TZero Try.prog 63 (Go.Value.slice none 0 0) := ⟨Try.zeroValue63⟩
instance : TUnder Try.prog 64 (Go.TypeDesc.pointer 123) := ⟨Try.runUnderlying64⟩
instance : TPlain Try.prog 64 := ⟨Try.isAgg64, Try.sizeOf64⟩
instance : TSize Try.prog 64 1 := ⟨Try.sizeOf64⟩
instance : TBytes Try.prog 64 8 := ⟨fun w => ⟨_, Try.typeInfo64 w, by rfl⟩⟩
instance : TZero Try.prog 64 (Go.Value.pointer none) := ⟨Try.zeroValue64⟩
instance : TPlain Try.prog 65 := ⟨Try.isAgg65, Try.sizeOf65⟩
instance : TSize Try.prog 65 1 := ⟨Try.sizeOf65⟩
instance : TBytes Try.prog 65 8 := ⟨fun w => ⟨_, Try.typeInfo65 w, by rfl⟩⟩
instance : TZero Try.prog 65 Go.Value.nilFunc := ⟨Try.zeroValue65⟩
instance : TUnder Try.prog 66 (Go.TypeDesc.pointer 69) := ⟨Try.runUnderlying66⟩
instance : TPlain Try.prog 66 := ⟨Try.isAgg66, Try.sizeOf66⟩
instance : TSize Try.prog 66 1 := ⟨Try.sizeOf66⟩
instance : TBytes Try.prog 66 8 := ⟨fun w => ⟨_, Try.typeInfo66 w, by rfl⟩⟩
instance : TZero Try.prog 66 (Go.Value.pointer none) := ⟨Try.zeroValue66⟩
instance : TUnder Try.prog 67 (Go.TypeDesc.slice 32) := ⟨Try.runUnderlying67⟩
instance : TPlain Try.prog 67 := ⟨Try.isAgg67, Try.sizeOf67⟩
instance : TSize Try.prog 67 1 := ⟨Try.sizeOf67⟩
instance : TBytes Try.prog 67 24 := ⟨fun w => ⟨_, Try.typeInfo67 w, by rfl⟩⟩
instance : TZero Try.prog 67 (Go.Value.slice none 0 0) := ⟨Try.zeroValue67⟩
instance : TUnder Try.prog 68 (Go.TypeDesc.struct #[{ name := "P", type := 22, offset := 0, embedded := false, tag := "", pkgPath := "", byteOffset := 0 }, { name := "D", type := 67, offset := 1, embedded := false, tag := "", pkgPath := "", byteOffset := 24 }]) := ⟨Try.runUnderlying68⟩
instance : TAgg Try.prog 68 2 := ⟨Try.isAgg68, Try.sizeOf68⟩
instance : TSize Try.prog 68 2 := ⟨Try.sizeOf68⟩
instance : TBytes Try.prog 68 48 := ⟨fun w => ⟨_, Try.typeInfo68 w, by rfl⟩⟩
instance : TZero Try.prog 68 (Go.Value.agg #[(Go.Value.slice none 0 0), (Go.Value.slice none 0 0)]) := ⟨Try.zeroValue68⟩
instance : TPlaces Try.prog 68 [(0, 1), (1, 1)] := ⟨fun w => ⟨_, Try.runUnderlying68 w, by simp [Try.sizeOf22, Try.sizeOf67]⟩⟩
instance : TField Try.prog 68 0 0 := ⟨fun b o w => fieldAt_of (f := { name := "P", type := 22, offset := 0, embedded := false, tag := "", pkgPath := "", byteOffset := 0 }) (Try.runUnderlying68 w) rfl (Try.sizeOf22 w) (by decide) b o⟩
instance : TField Try.prog 68 1 1 := ⟨fun b o w => fieldAt_of (f := { name := "D", type := 67, offset := 1, embedded := false, tag := "", pkgPath := "", byteOffset := 24 }) (Try.runUnderlying68 w) rfl (Try.sizeOf67 w) (by decide) b o⟩
instance : TUnder Try.prog 69 (Go.TypeDesc.struct #[{ name := "P", type := 22, offset := 0, embedded := false, tag := "", pkgPath := "", byteOffset := 0 }, { name := "D", type := 67, offset := 1, embedded := false, tag := "", pkgPath := "", byteOffset := 24 }]) := ⟨Try.runUnderlying69⟩
instance : TAgg Try.prog 69 2 := ⟨Try.isAgg69, Try.sizeOf69⟩
instance : TSize Try.prog 69 2 := ⟨Try.sizeOf69⟩
instance : TBytes Try.prog 69 48 := ⟨fun w => ⟨_, Try.typeInfo69 w, by rfl⟩⟩
instance : TZero Try.prog 69 (Go.Value.agg #[(Go.Value.slice none 0 0), (Go.Value.slice none 0 0)]) := ⟨Try.zeroValue69⟩
instance : TPlaces Try.prog 69 [(0, 1), (1, 1)] := ⟨fun w => ⟨_, Try.runUnderlying69 w, by simp [Try.sizeOf22, Try.sizeOf67]⟩⟩
instance : TField Try.prog 69 0 0 := ⟨fun b o w => fieldAt_of (f := { name := "P", type := 22, offset := 0, embedded := false, tag := "", pkgPath := "", byteOffset := 0 }) (Try.runUnderlying69 w) rfl (Try.sizeOf22 w) (by decide) b o⟩
instance : TField Try.prog 69 1 1 := ⟨fun b o w => fieldAt_of (f := { name := "D", type := 67, offset := 1, embedded := false, tag := "", pkgPath := "", byteOffset := 24 }) (Try.runUnderlying69 w) rfl (Try.sizeOf67 w) (by decide) b o⟩
instance : TUnder Try.prog 70 (Go.TypeDesc.struct #[{ name := "Do", type := 3, offset := 0, embedded := false, tag := "", pkgPath := "", byteOffset := 0 }, { name := "N", type := 3, offset := 1, embedded := false, tag := "", pkgPath := "", byteOffset := 8 }, { name := "L", type := 22, offset := 2, embedded := false, tag := "", pkgPath := "", byteOffset := 16 }]) := ⟨Try.runUnderlying70⟩
instance : TAgg Try.prog 70 3 := ⟨Try.isAgg70, Try.sizeOf70⟩
instance : TSize Try.prog 70 3 := ⟨Try.sizeOf70⟩
instance : TBytes Try.prog 70 40 := ⟨fun w => ⟨_, Try.typeInfo70 w, by rfl⟩⟩
instance : TZero Try.prog 70 (Go.Value.agg #[(Go.Value.int Go.IntKind.i64 0), (Go.Value.int Go.IntKind.i64 0), (Go.Value.slice none 0 0)]) := ⟨Try.zeroValue70⟩
instance : TPlaces Try.prog 70 [(0, 1), (1, 1), (2, 1)] := ⟨fun w => ⟨_, Try.runUnderlying70 w, by simp [Try.sizeOf22, Try.sizeOf3]⟩⟩
instance : TField Try.prog 70 0 0 := ⟨fun b o w => fieldAt_of (f := { name := "Do", type := 3, offset := 0, embedded := false, tag := "", pkgPath := "", byteOffset := 0 }) (Try.runUnderlying70 w) rfl (Try.sizeOf3 w) (by decide) b o⟩
instance : TField Try.prog 70 1 1 := ⟨fun b o w => fieldAt_of (f := { name := "N", type := 3, offset := 1, embedded := false, tag := "", pkgPath := "", byteOffset := 8 }) (Try.runUnderlying70 w) rfl (Try.sizeOf3 w) (by decide) b o⟩
instance : TField Try.prog 70 2 2 := ⟨fun b o w => fieldAt_of (f := { name := "L", type := 22, offset := 2, embedded := false, tag := "", pkgPath := "", byteOffset := 16 }) (Try.runUnderlying70 w) rfl (Try.sizeOf22 w) (by decide) b o⟩
instance : TUnder Try.prog 71 (Go.TypeDesc.struct #[{ name := "Do", type := 3, offset := 0, embedded := false, tag := "", pkgPath := "", byteOffset := 0 }, { name := "N", type := 3, offset := 1, embedded := false, tag := "", pkgPath := "", byteOffset := 8 }, { name := "L", type := 22, offset := 2, embedded := false, tag := "", pkgPath := "", byteOffset := 16 }]) := ⟨Try.runUnderlying71⟩
instance : TAgg Try.prog 71 3 := ⟨Try.isAgg71, Try.sizeOf71⟩
instance : TSize Try.prog 71 3 := ⟨Try.sizeOf71⟩
instance : TBytes Try.prog 71 40 := ⟨fun w => ⟨_, Try.typeInfo71 w, by rfl⟩⟩
instance : TZero Try.prog 71 (Go.Value.agg #[(Go.Value.int Go.IntKind.i64 0), (Go.Value.int Go.IntKind.i64 0), (Go.Value.slice none 0 0)]) := ⟨Try.zeroValue71⟩
instance : TPlaces Try.prog 71 [(0, 1), (1, 1), (2, 1)] := ⟨fun w => ⟨_, Try.runUnderlying71 w, by simp [Try.sizeOf22, Try.sizeOf3]⟩⟩
instance : TField Try.prog 71 0 0 := ⟨fun b o w => fieldAt_of (f := { name := "Do", type := 3, offset := 0, embedded := false, tag := "", pkgPath := "", byteOffset := 0 }) (Try.runUnderlying71 w) rfl (Try.sizeOf3 w) (by decide) b o⟩
instance : TField Try.prog 71 1 1 := ⟨fun b o w => fieldAt_of (f := { name := "N", type := 3, offset := 1, embedded := false, tag := "", pkgPath := "", byteOffset := 8 }) (Try.runUnderlying71 w) rfl (Try.sizeOf3 w) (by decide) b o⟩
instance : TField Try.prog 71 2 2 := ⟨fun b o w => fieldAt_of (f := { name := "L", type := 22, offset := 2, embedded := false, tag := "", pkgPath := "", byteOffset := 16 }) (Try.runUnderlying71 w) rfl (Try.sizeOf22 w) (by decide) b o⟩
instance : TPlain Try.prog 72 := ⟨Try.isAgg72, Try.sizeOf72⟩
instance : TSize Try.prog 72 1 := ⟨Try.sizeOf72⟩
instance : TBytes Try.prog 72 8 := ⟨fun w => ⟨_, Try.typeInfo72 w, by rfl⟩⟩
instance : TZero Try.prog 72 Go.Value.nilFunc := ⟨Try.zeroValue72⟩
instance : TPlain Try.prog 73 := ⟨Try.isAgg73, Try.sizeOf73⟩
instance : TSize Try.prog 73 1 := ⟨Try.sizeOf73⟩
instance : TBytes Try.prog 73 8 := ⟨fun w => ⟨_, Try.typeInfo73 w, by rfl⟩⟩
instance : TZero Try.prog 73 Go.Value.nilFunc := ⟨Try.zeroValue73⟩
instance : TPlain Try.prog 74 := ⟨Try.isAgg74, Try.sizeOf74⟩
instance : TSize Try.prog 74 1 := ⟨Try.sizeOf74⟩
instance : TBytes Try.prog 74 8 := ⟨fun w => ⟨_, Try.typeInfo74 w, by rfl⟩⟩
instance : TZero Try.prog 74 Go.Value.nilFunc := ⟨Try.zeroValue74⟩
instance : TPlain Try.prog 75 := ⟨Try.isAgg75, Try.sizeOf75⟩
instance : TSize Try.prog 75 1 := ⟨Try.sizeOf75⟩
instance : TBytes Try.prog 75 8 := ⟨fun w => ⟨_, Try.typeInfo75 w, by rfl⟩⟩
instance : TZero Try.prog 75 Go.Value.nilFunc := ⟨Try.zeroValue75⟩
instance : TPlain Try.prog 76 := ⟨Try.isAgg76, Try.sizeOf76⟩
instance : TSize Try.prog 76 1 := ⟨Try.sizeOf76⟩
instance : TBytes Try.prog 76 8 := ⟨fun w => ⟨_, Try.typeInfo76 w, by rfl⟩⟩
instance : TZero Try.prog 76 Go.Value.nilFunc := ⟨Try.zeroValue76⟩
instance : TPlain Try.prog 77 := ⟨Try.isAgg77, Try.sizeOf77⟩
instance : TSize Try.prog 77 1 := ⟨Try.sizeOf77⟩
instance : TBytes Try.prog 77 8 := ⟨fun w => ⟨_, Try.typeInfo77 w, by rfl⟩⟩
instance : TZero Try.prog 77 Go.Value.nilFunc := ⟨Try.zeroValue77⟩
instance : TPlain Try.prog 78 := ⟨Try.isAgg78, Try.sizeOf78⟩
instance : TSize Try.prog 78 1 := ⟨Try.sizeOf78⟩
instance : TBytes Try.prog 78 8 := ⟨fun w => ⟨_, Try.typeInfo78 w, by rfl⟩⟩
instance : TZero Try.prog 78 Go.Value.nilFunc := ⟨Try.zeroValue78⟩
instance : TPlain Try.prog 79 := ⟨Try.isAgg79, Try.sizeOf79⟩
instance : TSize Try.prog 79 1 := ⟨Try.sizeOf79⟩
instance : TBytes Try.prog 79 8 := ⟨fun w => ⟨_, Try.typeInfo79 w, by rfl⟩⟩
instance : TZero Try.prog 79 Go.Value.nilFunc := ⟨Try.zeroValue79⟩
instance : TUnder Try.prog 80 (Go.TypeDesc.slice 84) := ⟨Try.runUnderlying80⟩
instance : TPlain Try.prog 80 := ⟨Try.isAgg80, Try.sizeOf80⟩
instance : TSize Try.prog 80 1 := ⟨Try.sizeOf80⟩
instance : TBytes Try.prog 80 24 := ⟨fun w => ⟨_, Try.typeInfo80 w, by rfl⟩⟩
instance : TZero Try.prog 80 (Go.Value.slice none 0 0) := ⟨Try.zeroValue80⟩
instance : TPlain Try.prog 82 := ⟨Try.isAgg82, Try.sizeOf82⟩
instance : TSize Try.prog 82 1 := ⟨Try.sizeOf82⟩
instance : TBytes Try.prog 82 8 := ⟨fun w => ⟨_, Try.typeInfo82 w, by rfl⟩⟩
instance : TZero Try.prog 82 Go.Value.nilFunc := ⟨Try.zeroValue82⟩
instance : TUnder Try.prog 83 (Go.TypeDesc.struct #[{ name := "Two", type := 4, offset := 0, embedded := false, tag := "", pkgPath := "", byteOffset := 0 }, { name := "At", type := 3, offset := 1, embedded := false, tag := "", pkgPath := "", byteOffset := 8 }]) := ⟨Try.runUnderlying83⟩
instance : TAgg Try.prog 83 2 := ⟨Try.isAgg83, Try.sizeOf83⟩
instance : TSize Try.prog 83 2 := ⟨Try.sizeOf83⟩
instance : TBytes Try.prog 83 16 := ⟨fun w => ⟨_, Try.typeInfo83 w, by rfl⟩⟩
instance : TZero Try.prog 83 (Go.Value.agg #[(Go.Value.bool false), (Go.Value.int Go.IntKind.i64 0)]) := ⟨Try.zeroValue83⟩
instance : TPlaces Try.prog 83 [(0, 1), (1, 1)] := ⟨fun w => ⟨_, Try.runUnderlying83 w, by simp [Try.sizeOf3, Try.sizeOf4]⟩⟩
instance : TField Try.prog 83 0 0 := ⟨fun b o w => fieldAt_of (f := { name := "Two", type := 4, offset := 0, embedded := false, tag := "", pkgPath := "", byteOffset := 0 }) (Try.runUnderlying83 w) rfl (Try.sizeOf4 w) (by decide) b o⟩
instance : TField Try.prog 83 1 1 := ⟨fun b o w => fieldAt_of (f := { name := "At", type := 3, offset := 1, embedded := false, tag := "", pkgPath := "", byteOffset := 8 }) (Try.runUnderlying83 w) rfl (Try.sizeOf3 w) (by decide) b o⟩
instance : TUnder Try.prog 84 (Go.TypeDesc.struct #[{ name := "Two", type := 4, offset := 0, embedded := false, tag := "", pkgPath := "", byteOffset := 0 }, { name := "At", type := 3, offset := 1, embedded := false, tag := "", pkgPath := "", byteOffset := 8 }]) := ⟨Try.runUnderlying84⟩
instance : TAgg Try.prog 84 2 := ⟨Try.isAgg84, Try.sizeOf84⟩
instance : TSize Try.prog 84 2 := ⟨Try.sizeOf84⟩
instance : TBytes Try.prog 84 16 := ⟨fun w => ⟨_, Try.typeInfo84 w, by rfl⟩⟩
instance : TZero Try.prog 84 (Go.Value.agg #[(Go.Value.bool false), (Go.Value.int Go.IntKind.i64 0)]) := ⟨Try.zeroValue84⟩
instance : TPlaces Try.prog 84 [(0, 1), (1, 1)] := ⟨fun w => ⟨_, Try.runUnderlying84 w, by simp [Try.sizeOf3, Try.sizeOf4]⟩⟩
instance : TField Try.prog 84 0 0 := ⟨fun b o w => fieldAt_of (f := { name := "Two", type := 4, offset := 0, embedded := false, tag := "", pkgPath := "", byteOffset := 0 }) (Try.runUnderlying84 w) rfl (Try.sizeOf4 w) (by decide) b o⟩
instance : TField Try.prog 84 1 1 := ⟨fun b o w => fieldAt_of (f := { name := "At", type := 3, offset := 1, embedded := false, tag := "", pkgPath := "", byteOffset := 8 }) (Try.runUnderlying84 w) rfl (Try.sizeOf3 w) (by decide) b o⟩
instance : TPlain Try.prog 85 := ⟨Try.isAgg85, Try.sizeOf85⟩
instance : TSize Try.prog 85 1 := ⟨Try.sizeOf85⟩
instance : TBytes Try.prog 85 8 := ⟨fun w => ⟨_, Try.typeInfo85 w, by rfl⟩⟩
instance : TZero Try.prog 85 Go.Value.nilFunc := ⟨Try.zeroValue85⟩
instance : TPlain Try.prog 86 := ⟨Try.isAgg86, Try.sizeOf86⟩
instance : TSize Try.prog 86 1 := ⟨Try.sizeOf86⟩
instance : TBytes Try.prog 86 8 := ⟨fun w => ⟨_, Try.typeInfo86 w, by rfl⟩⟩
instance : TZero Try.prog 86 Go.Value.nilFunc := ⟨Try.zeroValue86⟩
instance : TUnder Try.prog 87 (Go.TypeDesc.pointer 130) := ⟨Try.runUnderlying87⟩
instance : TPlain Try.prog 87 := ⟨Try.isAgg87, Try.sizeOf87⟩
instance : TSize Try.prog 87 1 := ⟨Try.sizeOf87⟩
instance : TBytes Try.prog 87 8 := ⟨fun w => ⟨_, Try.typeInfo87 w, by rfl⟩⟩
instance : TZero Try.prog 87 (Go.Value.pointer none) := ⟨Try.zeroValue87⟩
instance : TPlain Try.prog 88 := ⟨Try.isAgg88, Try.sizeOf88⟩
instance : TSize Try.prog 88 1 := ⟨Try.sizeOf88⟩
instance : TBytes Try.prog 88 8 := ⟨fun w => ⟨_, Try.typeInfo88 w, by rfl⟩⟩
instance : TZero Try.prog 88 Go.Value.nilFunc := ⟨Try.zeroValue88⟩
instance : TPlain Try.prog 90 := ⟨Try.isAgg90, Try.sizeOf90⟩
instance : TSize Try.prog 90 1 := ⟨Try.sizeOf90⟩
instance : TBytes Try.prog 90 8 := ⟨fun w => ⟨_, Try.typeInfo90 w, by rfl⟩⟩
instance : TZero Try.prog 90 Go.Value.nilFunc := ⟨Try.zeroValue90⟩
instance : TPlain Try.prog 91 := ⟨Try.isAgg91, Try.sizeOf91⟩
instance : TSize Try.prog 91 1 := ⟨Try.sizeOf91⟩
instance : TBytes Try.prog 91 8 := ⟨fun w => ⟨_, Try.typeInfo91 w, by rfl⟩⟩
instance : TZero Try.prog 91 Go.Value.nilFunc := ⟨Try.zeroValue91⟩
instance : TPlain Try.prog 92 := ⟨Try.isAgg92, Try.sizeOf92⟩
instance : TSize Try.prog 92 1 := ⟨Try.sizeOf92⟩
instance : TBytes Try.prog 92 8 := ⟨fun w => ⟨_, Try.typeInfo92 w, by rfl⟩⟩
instance : TZero Try.prog 92 Go.Value.nilFunc := ⟨Try.zeroValue92⟩
instance : TPlain Try.prog 93 := ⟨Try.isAgg93, Try.sizeOf93⟩
instance : TSize Try.prog 93 1 := ⟨Try.sizeOf93⟩
instance : TBytes Try.prog 93 8 := ⟨fun w => ⟨_, Try.typeInfo93 w, by rfl⟩⟩
instance : TZero Try.prog 93 Go.Value.nilFunc := ⟨Try.zeroValue93⟩
instance : TUnder Try.prog 94 (Go.TypeDesc.map 32 34) := ⟨Try.runUnderlying94⟩
instance : TPlain Try.prog 94 := ⟨Try.isAgg94, Try.sizeOf94⟩
instance : TSize Try.prog 94 1 := ⟨Try.sizeOf94⟩
instance : TBytes Try.prog 94 8 := ⟨fun w => ⟨_, Try.typeInfo94 w, by rfl⟩⟩
instance : TZero Try.prog 94 (Go.Value.map none) := ⟨Try.zeroValue94⟩
instance : TUnder Try.prog 95 (Go.TypeDesc.map 3 30) := ⟨Try.runUnderlying95⟩
instance : TPlain Try.prog 95 := ⟨Try.isAgg95, Try.sizeOf95⟩
instance : TSize Try.prog 95 1 := ⟨Try.sizeOf95⟩
instance : TBytes Try.prog 95 8 := ⟨fun w => ⟨_, Try.typeInfo95 w, by rfl⟩⟩
instance : TZero Try.prog 95 (Go.Value.map none) := ⟨Try.zeroValue95⟩
instance : TUnder Try.prog 96 (Go.TypeDesc.struct #[{ name := "log", type := 22, offset := 0, embedded := false, tag := "", pkgPath := "rostrum/ids", byteOffset := 0 }, { name := "waits", type := 94, offset := 1, embedded := false, tag := "", pkgPath := "rostrum/ids", byteOffset := 24 }, { name := "next", type := 95, offset := 2, embedded := false, tag := "", pkgPath := "rostrum/ids", byteOffset := 32 }]) := ⟨Try.runUnderlying96⟩
instance : TAgg Try.prog 96 3 := ⟨Try.isAgg96, Try.sizeOf96⟩
instance : TSize Try.prog 96 3 := ⟨Try.sizeOf96⟩
instance : TBytes Try.prog 96 40 := ⟨fun w => ⟨_, Try.typeInfo96 w, by rfl⟩⟩
instance : TZero Try.prog 96 (Go.Value.agg #[(Go.Value.slice none 0 0), (Go.Value.map none), (Go.Value.map none)]) := ⟨Try.zeroValue96⟩
instance : TPlaces Try.prog 96 [(0, 1), (1, 1), (2, 1)] := ⟨fun w => ⟨_, Try.runUnderlying96 w, by simp [Try.sizeOf22, Try.sizeOf94, Try.sizeOf95]⟩⟩
instance : TField Try.prog 96 0 0 := ⟨fun b o w => fieldAt_of (f := { name := "log", type := 22, offset := 0, embedded := false, tag := "", pkgPath := "rostrum/ids", byteOffset := 0 }) (Try.runUnderlying96 w) rfl (Try.sizeOf22 w) (by decide) b o⟩
instance : TField Try.prog 96 1 1 := ⟨fun b o w => fieldAt_of (f := { name := "waits", type := 94, offset := 1, embedded := false, tag := "", pkgPath := "rostrum/ids", byteOffset := 24 }) (Try.runUnderlying96 w) rfl (Try.sizeOf94 w) (by decide) b o⟩
instance : TField Try.prog 96 2 2 := ⟨fun b o w => fieldAt_of (f := { name := "next", type := 95, offset := 2, embedded := false, tag := "", pkgPath := "rostrum/ids", byteOffset := 32 }) (Try.runUnderlying96 w) rfl (Try.sizeOf95 w) (by decide) b o⟩
instance : TUnder Try.prog 97 (Go.TypeDesc.struct #[{ name := "log", type := 22, offset := 0, embedded := false, tag := "", pkgPath := "rostrum/ids", byteOffset := 0 }, { name := "waits", type := 94, offset := 1, embedded := false, tag := "", pkgPath := "rostrum/ids", byteOffset := 24 }, { name := "next", type := 95, offset := 2, embedded := false, tag := "", pkgPath := "rostrum/ids", byteOffset := 32 }]) := ⟨Try.runUnderlying97⟩
instance : TAgg Try.prog 97 3 := ⟨Try.isAgg97, Try.sizeOf97⟩
instance : TSize Try.prog 97 3 := ⟨Try.sizeOf97⟩
instance : TBytes Try.prog 97 40 := ⟨fun w => ⟨_, Try.typeInfo97 w, by rfl⟩⟩
instance : TZero Try.prog 97 (Go.Value.agg #[(Go.Value.slice none 0 0), (Go.Value.map none), (Go.Value.map none)]) := ⟨Try.zeroValue97⟩
instance : TPlaces Try.prog 97 [(0, 1), (1, 1), (2, 1)] := ⟨fun w => ⟨_, Try.runUnderlying97 w, by simp [Try.sizeOf22, Try.sizeOf94, Try.sizeOf95]⟩⟩
instance : TField Try.prog 97 0 0 := ⟨fun b o w => fieldAt_of (f := { name := "log", type := 22, offset := 0, embedded := false, tag := "", pkgPath := "rostrum/ids", byteOffset := 0 }) (Try.runUnderlying97 w) rfl (Try.sizeOf22 w) (by decide) b o⟩
instance : TField Try.prog 97 1 1 := ⟨fun b o w => fieldAt_of (f := { name := "waits", type := 94, offset := 1, embedded := false, tag := "", pkgPath := "rostrum/ids", byteOffset := 24 }) (Try.runUnderlying97 w) rfl (Try.sizeOf94 w) (by decide) b o⟩
instance : TField Try.prog 97 2 2 := ⟨fun b o w => fieldAt_of (f := { name := "next", type := 95, offset := 2, embedded := false, tag := "", pkgPath := "rostrum/ids", byteOffset := 32 }) (Try.runUnderlying97 w) rfl (Try.sizeOf95 w) (by decide) b o⟩
instance : TPlain Try.prog 99 := ⟨Try.isAgg99, Try.sizeOf99⟩
instance : TSize Try.prog 99 1 := ⟨Try.sizeOf99⟩
instance : TBytes Try.prog 99 8 := ⟨fun w => ⟨_, Try.typeInfo99 w, by rfl⟩⟩
instance : TZero Try.prog 99 Go.Value.nilFunc := ⟨Try.zeroValue99⟩
instance : TPlain Try.prog 100 := ⟨Try.isAgg100, Try.sizeOf100⟩
instance : TSize Try.prog 100 1 := ⟨Try.sizeOf100⟩
instance : TBytes Try.prog 100 8 := ⟨fun w => ⟨_, Try.typeInfo100 w, by rfl⟩⟩
instance : TZero Try.prog 100 Go.Value.nilFunc := ⟨Try.zeroValue100⟩
instance : TPlain Try.prog 101 := ⟨Try.isAgg101, Try.sizeOf101⟩
instance : TSize Try.prog 101 1 := ⟨Try.sizeOf101⟩
instance : TBytes Try.prog 101 8 := ⟨fun w => ⟨_, Try.typeInfo101 w, by rfl⟩⟩
instance : TZero Try.prog 101 Go.Value.nilFunc := ⟨Try.zeroValue101⟩
instance : TPlain Try.prog 102 := ⟨Try.isAgg102, Try.sizeOf102⟩
instance : TSize Try.prog 102 1 := ⟨Try.sizeOf102⟩
instance : TBytes Try.prog 102 8 := ⟨fun w => ⟨_, Try.typeInfo102 w, by rfl⟩⟩
instance : TZero Try.prog 102 Go.Value.nilFunc := ⟨Try.zeroValue102⟩
instance : TPlain Try.prog 103 := ⟨Try.isAgg103, Try.sizeOf103⟩
instance : TSize Try.prog 103 1 := ⟨Try.sizeOf103⟩
instance : TBytes Try.prog 103 8 := ⟨fun w => ⟨_, Try.typeInfo103 w, by rfl⟩⟩
instance : TZero Try.prog 103 Go.Value.nilFunc := ⟨Try.zeroValue103⟩
instance : TUnder Try.prog 104 (Go.TypeDesc.struct #[{ name := "epoch", type := 30, offset := 0, embedded := false, tag := "", pkgPath := "rostrum/sequence", byteOffset := 0 }]) := ⟨Try.runUnderlying104⟩
instance : TAgg Try.prog 104 1 := ⟨Try.isAgg104, Try.sizeOf104⟩
instance : TSize Try.prog 104 1 := ⟨Try.sizeOf104⟩
instance : TBytes Try.prog 104 4 := ⟨fun w => ⟨_, Try.typeInfo104 w, by rfl⟩⟩
instance : TZero Try.prog 104 (Go.Value.agg #[(Go.Value.int Go.IntKind.u32 0)]) := ⟨Try.zeroValue104⟩
instance : TPlaces Try.prog 104 [(0, 1)] := ⟨fun w => ⟨_, Try.runUnderlying104 w, by simp [Try.sizeOf30]⟩⟩
instance : TField Try.prog 104 0 0 := ⟨fun b o w => fieldAt_of (f := { name := "epoch", type := 30, offset := 0, embedded := false, tag := "", pkgPath := "rostrum/sequence", byteOffset := 0 }) (Try.runUnderlying104 w) rfl (Try.sizeOf30 w) (by decide) b o⟩
instance : TUnder Try.prog 105 (Go.TypeDesc.struct #[{ name := "epoch", type := 30, offset := 0, embedded := false, tag := "", pkgPath := "rostrum/sequence", byteOffset := 0 }]) := ⟨Try.runUnderlying105⟩
instance : TAgg Try.prog 105 1 := ⟨Try.isAgg105, Try.sizeOf105⟩
instance : TSize Try.prog 105 1 := ⟨Try.sizeOf105⟩
instance : TBytes Try.prog 105 4 := ⟨fun w => ⟨_, Try.typeInfo105 w, by rfl⟩⟩
instance : TZero Try.prog 105 (Go.Value.agg #[(Go.Value.int Go.IntKind.u32 0)]) := ⟨Try.zeroValue105⟩
instance : TPlaces Try.prog 105 [(0, 1)] := ⟨fun w => ⟨_, Try.runUnderlying105 w, by simp [Try.sizeOf30]⟩⟩
instance : TField Try.prog 105 0 0 := ⟨fun b o w => fieldAt_of (f := { name := "epoch", type := 30, offset := 0, embedded := false, tag := "", pkgPath := "rostrum/sequence", byteOffset := 0 }) (Try.runUnderlying105 w) rfl (Try.sizeOf30 w) (by decide) b o⟩
instance : TUnder Try.prog 106 (Go.TypeDesc.map 111 34) := ⟨Try.runUnderlying106⟩
instance : TPlain Try.prog 106 := ⟨Try.isAgg106, Try.sizeOf106⟩
instance : TSize Try.prog 106 1 := ⟨Try.sizeOf106⟩
instance : TBytes Try.prog 106 8 := ⟨fun w => ⟨_, Try.typeInfo106 w, by rfl⟩⟩
instance : TZero Try.prog 106 (Go.Value.map none) := ⟨Try.zeroValue106⟩
instance : TUnder Try.prog 107 (Go.TypeDesc.struct #[{ name := "era", type := 105, offset := 0, embedded := true, tag := "", pkgPath := "rostrum/sequence", byteOffset := 0 }, { name := "next", type := 30, offset := 1, embedded := false, tag := "", pkgPath := "rostrum/sequence", byteOffset := 4 }, { name := "waits", type := 106, offset := 2, embedded := false, tag := "", pkgPath := "rostrum/sequence", byteOffset := 8 }, { name := "buffer", type := 106, offset := 3, embedded := false, tag := "", pkgPath := "rostrum/sequence", byteOffset := 16 }]) := ⟨Try.runUnderlying107⟩
instance : TAgg Try.prog 107 4 := ⟨Try.isAgg107, Try.sizeOf107⟩
instance : TSize Try.prog 107 4 := ⟨Try.sizeOf107⟩
instance : TBytes Try.prog 107 24 := ⟨fun w => ⟨_, Try.typeInfo107 w, by rfl⟩⟩
instance : TZero Try.prog 107 (Go.Value.agg #[(Go.Value.int Go.IntKind.u32 0), (Go.Value.int Go.IntKind.u32 0), (Go.Value.map none), (Go.Value.map none)]) := ⟨Try.zeroValue107⟩
instance : TPlaces Try.prog 107 [(0, 1), (1, 1), (2, 1), (3, 1)] := ⟨fun w => ⟨_, Try.runUnderlying107 w, by simp [Try.sizeOf105, Try.sizeOf106, Try.sizeOf30]⟩⟩
instance : TField Try.prog 107 0 0 := ⟨fun b o w => fieldAt_of (f := { name := "era", type := 105, offset := 0, embedded := true, tag := "", pkgPath := "rostrum/sequence", byteOffset := 0 }) (Try.runUnderlying107 w) rfl (Try.sizeOf105 w) (by decide) b o⟩
instance : TField Try.prog 107 1 1 := ⟨fun b o w => fieldAt_of (f := { name := "next", type := 30, offset := 1, embedded := false, tag := "", pkgPath := "rostrum/sequence", byteOffset := 4 }) (Try.runUnderlying107 w) rfl (Try.sizeOf30 w) (by decide) b o⟩
instance : TField Try.prog 107 2 2 := ⟨fun b o w => fieldAt_of (f := { name := "waits", type := 106, offset := 2, embedded := false, tag := "", pkgPath := "rostrum/sequence", byteOffset := 8 }) (Try.runUnderlying107 w) rfl (Try.sizeOf106 w) (by decide) b o⟩
instance : TField Try.prog 107 3 3 := ⟨fun b o w => fieldAt_of (f := { name := "buffer", type := 106, offset := 3, embedded := false, tag := "", pkgPath := "rostrum/sequence", byteOffset := 16 }) (Try.runUnderlying107 w) rfl (Try.sizeOf106 w) (by decide) b o⟩
instance : TUnder Try.prog 108 (Go.TypeDesc.struct #[{ name := "era", type := 105, offset := 0, embedded := true, tag := "", pkgPath := "rostrum/sequence", byteOffset := 0 }, { name := "next", type := 30, offset := 1, embedded := false, tag := "", pkgPath := "rostrum/sequence", byteOffset := 4 }, { name := "waits", type := 106, offset := 2, embedded := false, tag := "", pkgPath := "rostrum/sequence", byteOffset := 8 }, { name := "buffer", type := 106, offset := 3, embedded := false, tag := "", pkgPath := "rostrum/sequence", byteOffset := 16 }]) := ⟨Try.runUnderlying108⟩
instance : TAgg Try.prog 108 4 := ⟨Try.isAgg108, Try.sizeOf108⟩
instance : TSize Try.prog 108 4 := ⟨Try.sizeOf108⟩
instance : TBytes Try.prog 108 24 := ⟨fun w => ⟨_, Try.typeInfo108 w, by rfl⟩⟩
instance : TZero Try.prog 108 (Go.Value.agg #[(Go.Value.int Go.IntKind.u32 0), (Go.Value.int Go.IntKind.u32 0), (Go.Value.map none), (Go.Value.map none)]) := ⟨Try.zeroValue108⟩
instance : TPlaces Try.prog 108 [(0, 1), (1, 1), (2, 1), (3, 1)] := ⟨fun w => ⟨_, Try.runUnderlying108 w, by simp [Try.sizeOf105, Try.sizeOf106, Try.sizeOf30]⟩⟩
instance : TField Try.prog 108 0 0 := ⟨fun b o w => fieldAt_of (f := { name := "era", type := 105, offset := 0, embedded := true, tag := "", pkgPath := "rostrum/sequence", byteOffset := 0 }) (Try.runUnderlying108 w) rfl (Try.sizeOf105 w) (by decide) b o⟩
instance : TField Try.prog 108 1 1 := ⟨fun b o w => fieldAt_of (f := { name := "next", type := 30, offset := 1, embedded := false, tag := "", pkgPath := "rostrum/sequence", byteOffset := 4 }) (Try.runUnderlying108 w) rfl (Try.sizeOf30 w) (by decide) b o⟩
instance : TField Try.prog 108 2 2 := ⟨fun b o w => fieldAt_of (f := { name := "waits", type := 106, offset := 2, embedded := false, tag := "", pkgPath := "rostrum/sequence", byteOffset := 8 }) (Try.runUnderlying108 w) rfl (Try.sizeOf106 w) (by decide) b o⟩
instance : TField Try.prog 108 3 3 := ⟨fun b o w => fieldAt_of (f := { name := "buffer", type := 106, offset := 3, embedded := false, tag := "", pkgPath := "rostrum/sequence", byteOffset := 16 }) (Try.runUnderlying108 w) rfl (Try.sizeOf106 w) (by decide) b o⟩
instance : TPlain Try.prog 109 := ⟨Try.isAgg109, Try.sizeOf109⟩
instance : TSize Try.prog 109 1 := ⟨Try.sizeOf109⟩
instance : TBytes Try.prog 109 8 := ⟨fun w => ⟨_, Try.typeInfo109 w, by rfl⟩⟩
instance : TZero Try.prog 109 Go.Value.nilFunc := ⟨Try.zeroValue109⟩
instance : TUnder Try.prog 110 (Go.TypeDesc.struct #[{ name := "epoch", type := 30, offset := 0, embedded := false, tag := "", pkgPath := "rostrum/sequence", byteOffset := 0 }, { name := "n", type := 30, offset := 1, embedded := false, tag := "", pkgPath := "rostrum/sequence", byteOffset := 4 }]) := ⟨Try.runUnderlying110⟩
instance : TAgg Try.prog 110 2 := ⟨Try.isAgg110, Try.sizeOf110⟩
instance : TSize Try.prog 110 2 := ⟨Try.sizeOf110⟩
instance : TBytes Try.prog 110 8 := ⟨fun w => ⟨_, Try.typeInfo110 w, by rfl⟩⟩
instance : TZero Try.prog 110 (Go.Value.agg #[(Go.Value.int Go.IntKind.u32 0), (Go.Value.int Go.IntKind.u32 0)]) := ⟨Try.zeroValue110⟩
instance : TPlaces Try.prog 110 [(0, 1), (1, 1)] := ⟨fun w => ⟨_, Try.runUnderlying110 w, by simp [Try.sizeOf30]⟩⟩
instance : TField Try.prog 110 0 0 := ⟨fun b o w => fieldAt_of (f := { name := "epoch", type := 30, offset := 0, embedded := false, tag := "", pkgPath := "rostrum/sequence", byteOffset := 0 }) (Try.runUnderlying110 w) rfl (Try.sizeOf30 w) (by decide) b o⟩
instance : TField Try.prog 110 1 1 := ⟨fun b o w => fieldAt_of (f := { name := "n", type := 30, offset := 1, embedded := false, tag := "", pkgPath := "rostrum/sequence", byteOffset := 4 }) (Try.runUnderlying110 w) rfl (Try.sizeOf30 w) (by decide) b o⟩
instance : TUnder Try.prog 111 (Go.TypeDesc.struct #[{ name := "epoch", type := 30, offset := 0, embedded := false, tag := "", pkgPath := "rostrum/sequence", byteOffset := 0 }, { name := "n", type := 30, offset := 1, embedded := false, tag := "", pkgPath := "rostrum/sequence", byteOffset := 4 }]) := ⟨Try.runUnderlying111⟩
instance : TAgg Try.prog 111 2 := ⟨Try.isAgg111, Try.sizeOf111⟩
instance : TSize Try.prog 111 2 := ⟨Try.sizeOf111⟩
instance : TBytes Try.prog 111 8 := ⟨fun w => ⟨_, Try.typeInfo111 w, by rfl⟩⟩
instance : TZero Try.prog 111 (Go.Value.agg #[(Go.Value.int Go.IntKind.u32 0), (Go.Value.int Go.IntKind.u32 0)]) := ⟨Try.zeroValue111⟩
instance : TPlaces Try.prog 111 [(0, 1), (1, 1)] := ⟨fun w => ⟨_, Try.runUnderlying111 w, by simp [Try.sizeOf30]⟩⟩
instance : TField Try.prog 111 0 0 := ⟨fun b o w => fieldAt_of (f := { name := "epoch", type := 30, offset := 0, embedded := false, tag := "", pkgPath := "rostrum/sequence", byteOffset := 0 }) (Try.runUnderlying111 w) rfl (Try.sizeOf30 w) (by decide) b o⟩
instance : TField Try.prog 111 1 1 := ⟨fun b o w => fieldAt_of (f := { name := "n", type := 30, offset := 1, embedded := false, tag := "", pkgPath := "rostrum/sequence", byteOffset := 4 }) (Try.runUnderlying111 w) rfl (Try.sizeOf30 w) (by decide) b o⟩
instance : TPlain Try.prog 112 := ⟨Try.isAgg112, Try.sizeOf112⟩
instance : TSize Try.prog 112 1 := ⟨Try.sizeOf112⟩
instance : TBytes Try.prog 112 8 := ⟨fun w => ⟨_, Try.typeInfo112 w, by rfl⟩⟩
instance : TZero Try.prog 112 Go.Value.nilFunc := ⟨Try.zeroValue112⟩
instance : TPlain Try.prog 113 := ⟨Try.isAgg113, Try.sizeOf113⟩
instance : TSize Try.prog 113 1 := ⟨Try.sizeOf113⟩
instance : TBytes Try.prog 113 8 := ⟨fun w => ⟨_, Try.typeInfo113 w, by rfl⟩⟩
instance : TZero Try.prog 113 Go.Value.nilFunc := ⟨Try.zeroValue113⟩
instance : TPlain Try.prog 114 := ⟨Try.isAgg114, Try.sizeOf114⟩
instance : TSize Try.prog 114 1 := ⟨Try.sizeOf114⟩
instance : TBytes Try.prog 114 8 := ⟨fun w => ⟨_, Try.typeInfo114 w, by rfl⟩⟩
instance : TZero Try.prog 114 Go.Value.nilFunc := ⟨Try.zeroValue114⟩
instance : TPlain Try.prog 115 := ⟨Try.isAgg115, Try.sizeOf115⟩
instance : TSize Try.prog 115 1 := ⟨Try.sizeOf115⟩
instance : TBytes Try.prog 115 8 := ⟨fun w => ⟨_, Try.typeInfo115 w, by rfl⟩⟩
instance : TZero Try.prog 115 Go.Value.nilFunc := ⟨Try.zeroValue115⟩
instance : TPlain Try.prog 116 := ⟨Try.isAgg116, Try.sizeOf116⟩
instance : TSize Try.prog 116 1 := ⟨Try.sizeOf116⟩
instance : TBytes Try.prog 116 8 := ⟨fun w => ⟨_, Try.typeInfo116 w, by rfl⟩⟩
instance : TZero Try.prog 116 Go.Value.nilFunc := ⟨Try.zeroValue116⟩
instance : TPlain Try.prog 117 := ⟨Try.isAgg117, Try.sizeOf117⟩
instance : TSize Try.prog 117 1 := ⟨Try.sizeOf117⟩
instance : TBytes Try.prog 117 8 := ⟨fun w => ⟨_, Try.typeInfo117 w, by rfl⟩⟩
instance : TZero Try.prog 117 Go.Value.nilFunc := ⟨Try.zeroValue117⟩
instance : TPlain Try.prog 118 := ⟨Try.isAgg118, Try.sizeOf118⟩
instance : TSize Try.prog 118 1 := ⟨Try.sizeOf118⟩
instance : TBytes Try.prog 118 8 := ⟨fun w => ⟨_, Try.typeInfo118 w, by rfl⟩⟩
instance : TZero Try.prog 118 Go.Value.nilFunc := ⟨Try.zeroValue118⟩
instance : TPlain Try.prog 119 := ⟨Try.isAgg119, Try.sizeOf119⟩
instance : TSize Try.prog 119 1 := ⟨Try.sizeOf119⟩
instance : TBytes Try.prog 119 8 := ⟨fun w => ⟨_, Try.typeInfo119 w, by rfl⟩⟩
instance : TZero Try.prog 119 Go.Value.nilFunc := ⟨Try.zeroValue119⟩
instance : TPlain Try.prog 120 := ⟨Try.isAgg120, Try.sizeOf120⟩
instance : TSize Try.prog 120 1 := ⟨Try.sizeOf120⟩
instance : TBytes Try.prog 120 8 := ⟨fun w => ⟨_, Try.typeInfo120 w, by rfl⟩⟩
instance : TZero Try.prog 120 Go.Value.nilFunc := ⟨Try.zeroValue120⟩
instance : TUnder Try.prog 121 (Go.TypeDesc.map 32 4) := ⟨Try.runUnderlying121⟩
instance : TPlain Try.prog 121 := ⟨Try.isAgg121, Try.sizeOf121⟩
instance : TSize Try.prog 121 1 := ⟨Try.sizeOf121⟩
instance : TBytes Try.prog 121 8 := ⟨fun w => ⟨_, Try.typeInfo121 w, by rfl⟩⟩
instance : TZero Try.prog 121 (Go.Value.map none) := ⟨Try.zeroValue121⟩
instance : TUnder Try.prog 122 (Go.TypeDesc.struct #[{ name := "pending", type := 94, offset := 0, embedded := false, tag := "", pkgPath := "rostrum/batch", byteOffset := 0 }, { name := "done", type := 121, offset := 1, embedded := false, tag := "", pkgPath := "rostrum/batch", byteOffset := 8 }]) := ⟨Try.runUnderlying122⟩
instance : TAgg Try.prog 122 2 := ⟨Try.isAgg122, Try.sizeOf122⟩
instance : TSize Try.prog 122 2 := ⟨Try.sizeOf122⟩
instance : TBytes Try.prog 122 16 := ⟨fun w => ⟨_, Try.typeInfo122 w, by rfl⟩⟩
instance : TZero Try.prog 122 (Go.Value.agg #[(Go.Value.map none), (Go.Value.map none)]) := ⟨Try.zeroValue122⟩
instance : TPlaces Try.prog 122 [(0, 1), (1, 1)] := ⟨fun w => ⟨_, Try.runUnderlying122 w, by simp [Try.sizeOf121, Try.sizeOf94]⟩⟩
instance : TField Try.prog 122 0 0 := ⟨fun b o w => fieldAt_of (f := { name := "pending", type := 94, offset := 0, embedded := false, tag := "", pkgPath := "rostrum/batch", byteOffset := 0 }) (Try.runUnderlying122 w) rfl (Try.sizeOf94 w) (by decide) b o⟩
instance : TField Try.prog 122 1 1 := ⟨fun b o w => fieldAt_of (f := { name := "done", type := 121, offset := 1, embedded := false, tag := "", pkgPath := "rostrum/batch", byteOffset := 8 }) (Try.runUnderlying122 w) rfl (Try.sizeOf121 w) (by decide) b o⟩
instance : TUnder Try.prog 123 (Go.TypeDesc.struct #[{ name := "pending", type := 94, offset := 0, embedded := false, tag := "", pkgPath := "rostrum/batch", byteOffset := 0 }, { name := "done", type := 121, offset := 1, embedded := false, tag := "", pkgPath := "rostrum/batch", byteOffset := 8 }]) := ⟨Try.runUnderlying123⟩
instance : TAgg Try.prog 123 2 := ⟨Try.isAgg123, Try.sizeOf123⟩
instance : TSize Try.prog 123 2 := ⟨Try.sizeOf123⟩
instance : TBytes Try.prog 123 16 := ⟨fun w => ⟨_, Try.typeInfo123 w, by rfl⟩⟩
instance : TZero Try.prog 123 (Go.Value.agg #[(Go.Value.map none), (Go.Value.map none)]) := ⟨Try.zeroValue123⟩
instance : TPlaces Try.prog 123 [(0, 1), (1, 1)] := ⟨fun w => ⟨_, Try.runUnderlying123 w, by simp [Try.sizeOf121, Try.sizeOf94]⟩⟩
instance : TField Try.prog 123 0 0 := ⟨fun b o w => fieldAt_of (f := { name := "pending", type := 94, offset := 0, embedded := false, tag := "", pkgPath := "rostrum/batch", byteOffset := 0 }) (Try.runUnderlying123 w) rfl (Try.sizeOf94 w) (by decide) b o⟩
instance : TField Try.prog 123 1 1 := ⟨fun b o w => fieldAt_of (f := { name := "done", type := 121, offset := 1, embedded := false, tag := "", pkgPath := "rostrum/batch", byteOffset := 8 }) (Try.runUnderlying123 w) rfl (Try.sizeOf121 w) (by decide) b o⟩
instance : TPlain Try.prog 124 := ⟨Try.isAgg124, Try.sizeOf124⟩
instance : TSize Try.prog 124 1 := ⟨Try.sizeOf124⟩
instance : TBytes Try.prog 124 8 := ⟨fun w => ⟨_, Try.typeInfo124 w, by rfl⟩⟩
instance : TZero Try.prog 124 Go.Value.nilFunc := ⟨Try.zeroValue124⟩
instance : TPlain Try.prog 125 := ⟨Try.isAgg125, Try.sizeOf125⟩
instance : TSize Try.prog 125 1 := ⟨Try.sizeOf125⟩
instance : TBytes Try.prog 125 8 := ⟨fun w => ⟨_, Try.typeInfo125 w, by rfl⟩⟩
instance : TZero Try.prog 125 Go.Value.nilFunc := ⟨Try.zeroValue125⟩
instance : TPlain Try.prog 126 := ⟨Try.isAgg126, Try.sizeOf126⟩
instance : TSize Try.prog 126 1 := ⟨Try.sizeOf126⟩
instance : TBytes Try.prog 126 8 := ⟨fun w => ⟨_, Try.typeInfo126 w, by rfl⟩⟩
instance : TZero Try.prog 126 Go.Value.nilFunc := ⟨Try.zeroValue126⟩
instance : TPlain Try.prog 127 := ⟨Try.isAgg127, Try.sizeOf127⟩
instance : TSize Try.prog 127 1 := ⟨Try.sizeOf127⟩
instance : TBytes Try.prog 127 8 := ⟨fun w => ⟨_, Try.typeInfo127 w, by rfl⟩⟩
instance : TZero Try.prog 127 Go.Value.nilFunc := ⟨Try.zeroValue127⟩
instance : TUnder Try.prog 128 (Go.TypeDesc.map 32 3) := ⟨Try.runUnderlying128⟩
instance : TPlain Try.prog 128 := ⟨Try.isAgg128, Try.sizeOf128⟩
instance : TSize Try.prog 128 1 := ⟨Try.sizeOf128⟩
instance : TBytes Try.prog 128 8 := ⟨fun w => ⟨_, Try.typeInfo128 w, by rfl⟩⟩
instance : TZero Try.prog 128 (Go.Value.map none) := ⟨Try.zeroValue128⟩
instance : TUnder Try.prog 129 (Go.TypeDesc.struct #[{ name := "era", type := 105, offset := 0, embedded := true, tag := "", pkgPath := "rostrum/sequence", byteOffset := 0 }, { name := "l", type := 47, offset := 1, embedded := false, tag := "", pkgPath := "rostrum/sequence", byteOffset := 8 }, { name := "at", type := 128, offset := 2, embedded := false, tag := "", pkgPath := "rostrum/sequence", byteOffset := 32 }]) := ⟨Try.runUnderlying129⟩
instance : TAgg Try.prog 129 3 := ⟨Try.isAgg129, Try.sizeOf129⟩
instance : TSize Try.prog 129 3 := ⟨Try.sizeOf129⟩
instance : TBytes Try.prog 129 40 := ⟨fun w => ⟨_, Try.typeInfo129 w, by rfl⟩⟩
instance : TZero Try.prog 129 (Go.Value.agg #[(Go.Value.int Go.IntKind.u32 0), (Go.Value.slice none 0 0), (Go.Value.map none)]) := ⟨Try.zeroValue129⟩
instance : TPlaces Try.prog 129 [(0, 1), (1, 1), (2, 1)] := ⟨fun w => ⟨_, Try.runUnderlying129 w, by simp [Try.sizeOf105, Try.sizeOf128, Try.sizeOf47]⟩⟩
instance : TField Try.prog 129 0 0 := ⟨fun b o w => fieldAt_of (f := { name := "era", type := 105, offset := 0, embedded := true, tag := "", pkgPath := "rostrum/sequence", byteOffset := 0 }) (Try.runUnderlying129 w) rfl (Try.sizeOf105 w) (by decide) b o⟩
instance : TField Try.prog 129 1 1 := ⟨fun b o w => fieldAt_of (f := { name := "l", type := 47, offset := 1, embedded := false, tag := "", pkgPath := "rostrum/sequence", byteOffset := 8 }) (Try.runUnderlying129 w) rfl (Try.sizeOf47 w) (by decide) b o⟩
instance : TField Try.prog 129 2 2 := ⟨fun b o w => fieldAt_of (f := { name := "at", type := 128, offset := 2, embedded := false, tag := "", pkgPath := "rostrum/sequence", byteOffset := 32 }) (Try.runUnderlying129 w) rfl (Try.sizeOf128 w) (by decide) b o⟩
instance : TUnder Try.prog 130 (Go.TypeDesc.struct #[{ name := "era", type := 105, offset := 0, embedded := true, tag := "", pkgPath := "rostrum/sequence", byteOffset := 0 }, { name := "l", type := 47, offset := 1, embedded := false, tag := "", pkgPath := "rostrum/sequence", byteOffset := 8 }, { name := "at", type := 128, offset := 2, embedded := false, tag := "", pkgPath := "rostrum/sequence", byteOffset := 32 }]) := ⟨Try.runUnderlying130⟩
instance : TAgg Try.prog 130 3 := ⟨Try.isAgg130, Try.sizeOf130⟩
instance : TSize Try.prog 130 3 := ⟨Try.sizeOf130⟩
instance : TBytes Try.prog 130 40 := ⟨fun w => ⟨_, Try.typeInfo130 w, by rfl⟩⟩
instance : TZero Try.prog 130 (Go.Value.agg #[(Go.Value.int Go.IntKind.u32 0), (Go.Value.slice none 0 0), (Go.Value.map none)]) := ⟨Try.zeroValue130⟩
instance : TPlaces Try.prog 130 [(0, 1), (1, 1), (2, 1)] := ⟨fun w => ⟨_, Try.runUnderlying130 w, by simp [Try.sizeOf105, Try.sizeOf128, Try.sizeOf47]⟩⟩
instance : TField Try.prog 130 0 0 := ⟨fun b o w => fieldAt_of (f := { name := "era", type := 105, offset := 0, embedded := true, tag := "", pkgPath := "rostrum/sequence", byteOffset := 0 }) (Try.runUnderlying130 w) rfl (Try.sizeOf105 w) (by decide) b o⟩
instance : TField Try.prog 130 1 1 := ⟨fun b o w => fieldAt_of (f := { name := "l", type := 47, offset := 1, embedded := false, tag := "", pkgPath := "rostrum/sequence", byteOffset := 8 }) (Try.runUnderlying130 w) rfl (Try.sizeOf47 w) (by decide) b o⟩
instance : TField Try.prog 130 2 2 := ⟨fun b o w => fieldAt_of (f := { name := "at", type := 128, offset := 2, embedded := false, tag := "", pkgPath := "rostrum/sequence", byteOffset := 32 }) (Try.runUnderlying130 w) rfl (Try.sizeOf128 w) (by decide) b o⟩
instance : TPlain Try.prog 132 := ⟨Try.isAgg132, Try.sizeOf132⟩
instance : TSize Try.prog 132 1 := ⟨Try.sizeOf132⟩
instance : TBytes Try.prog 132 8 := ⟨fun w => ⟨_, Try.typeInfo132 w, by rfl⟩⟩
instance : TZero Try.prog 132 Go.Value.nilFunc := ⟨Try.zeroValue132⟩
instance : TPlain Try.prog 133 := ⟨Try.isAgg133, Try.sizeOf133⟩
instance : TSize Try.prog 133 1 := ⟨Try.sizeOf133⟩
instance : TBytes Try.prog 133 8 := ⟨fun w => ⟨_, Try.typeInfo133 w, by rfl⟩⟩
instance : TZero Try.prog 133 Go.Value.nilFunc := ⟨Try.zeroValue133⟩
instance : TPlain Try.prog 134 := ⟨Try.isAgg134, Try.sizeOf134⟩
instance : TSize Try.prog 134 1 := ⟨Try.sizeOf134⟩
instance : TBytes Try.prog 134 8 := ⟨fun w => ⟨_, Try.typeInfo134 w, by rfl⟩⟩
instance : TZero Try.prog 134 Go.Value.nilFunc := ⟨Try.zeroValue134⟩
instance : TUnder Try.prog 135 (Go.TypeDesc.slice 3) := ⟨Try.runUnderlying135⟩
instance : TPlain Try.prog 135 := ⟨Try.isAgg135, Try.sizeOf135⟩
instance : TSize Try.prog 135 1 := ⟨Try.sizeOf135⟩
instance : TBytes Try.prog 135 24 := ⟨fun w => ⟨_, Try.typeInfo135 w, by rfl⟩⟩
instance : TZero Try.prog 135 (Go.Value.slice none 0 0) := ⟨Try.zeroValue135⟩
instance : TUnder Try.prog 136 (Go.TypeDesc.pointer 105) := ⟨Try.runUnderlying136⟩
instance : TPlain Try.prog 136 := ⟨Try.isAgg136, Try.sizeOf136⟩
instance : TSize Try.prog 136 1 := ⟨Try.sizeOf136⟩
instance : TBytes Try.prog 136 8 := ⟨fun w => ⟨_, Try.typeInfo136 w, by rfl⟩⟩
instance : TZero Try.prog 136 (Go.Value.pointer none) := ⟨Try.zeroValue136⟩
instance : TPlain Try.prog 137 := ⟨Try.isAgg137, Try.sizeOf137⟩
instance : TSize Try.prog 137 1 := ⟨Try.sizeOf137⟩
instance : TBytes Try.prog 137 8 := ⟨fun w => ⟨_, Try.typeInfo137 w, by rfl⟩⟩
instance : TZero Try.prog 137 Go.Value.nilFunc := ⟨Try.zeroValue137⟩
instance : TUnder Try.prog 138 (Go.TypeDesc.slice 139) := ⟨Try.runUnderlying138⟩
instance : TPlain Try.prog 138 := ⟨Try.isAgg138, Try.sizeOf138⟩
instance : TSize Try.prog 138 1 := ⟨Try.sizeOf138⟩
instance : TBytes Try.prog 138 24 := ⟨fun w => ⟨_, Try.typeInfo138 w, by rfl⟩⟩
instance : TZero Try.prog 138 (Go.Value.slice none 0 0) := ⟨Try.zeroValue138⟩
instance : TUnder Try.prog 139 (Go.TypeDesc.struct #[{ name := "Id", type := 32, offset := 0, embedded := false, tag := "", pkgPath := "", byteOffset := 0 }, { name := "Data", type := 9, offset := 2, embedded := false, tag := "", pkgPath := "", byteOffset := 16 }]) := ⟨Try.runUnderlying139⟩
instance : TAgg Try.prog 139 3 := ⟨Try.isAgg139, Try.sizeOf139⟩
instance : TSize Try.prog 139 3 := ⟨Try.sizeOf139⟩
instance : TBytes Try.prog 139 32 := ⟨fun w => ⟨_, Try.typeInfo139 w, by rfl⟩⟩
instance : TZero Try.prog 139 (Go.Value.agg #[(Go.Value.int Go.IntKind.i64 0), (Go.Value.int Go.IntKind.u32 0), (Go.Value.string { data := #[] })]) := ⟨Try.zeroValue139⟩
instance : TPlaces Try.prog 139 [(0, 2), (2, 1)] := ⟨fun w => ⟨_, Try.runUnderlying139 w, by simp [Try.sizeOf32, Try.sizeOf9]⟩⟩
instance : TField Try.prog 139 0 0 := ⟨fun b o w => fieldAt_of (f := { name := "Id", type := 32, offset := 0, embedded := false, tag := "", pkgPath := "", byteOffset := 0 }) (Try.runUnderlying139 w) rfl (Try.sizeOf32 w) (by decide) b o⟩
instance : TField Try.prog 139 1 2 := ⟨fun b o w => fieldAt_of (f := { name := "Data", type := 9, offset := 2, embedded := false, tag := "", pkgPath := "", byteOffset := 16 }) (Try.runUnderlying139 w) rfl (Try.sizeOf9 w) (by decide) b o⟩
instance : TPlain Try.prog 140 := ⟨Try.isAgg140, Try.sizeOf140⟩
instance : TSize Try.prog 140 1 := ⟨Try.sizeOf140⟩
instance : TBytes Try.prog 140 8 := ⟨fun w => ⟨_, Try.typeInfo140 w, by rfl⟩⟩
instance : TZero Try.prog 140 Go.Value.nilFunc := ⟨Try.zeroValue140⟩
instance : TPlain Try.prog 141 := ⟨Try.isAgg141, Try.sizeOf141⟩
instance : TSize Try.prog 141 1 := ⟨Try.sizeOf141⟩
instance : TBytes Try.prog 141 8 := ⟨fun w => ⟨_, Try.typeInfo141 w, by rfl⟩⟩
instance : TZero Try.prog 141 Go.Value.nilFunc := ⟨Try.zeroValue141⟩
instance : TPlain Try.prog 142 := ⟨Try.isAgg142, Try.sizeOf142⟩
instance : TSize Try.prog 142 1 := ⟨Try.sizeOf142⟩
instance : TBytes Try.prog 142 8 := ⟨fun w => ⟨_, Try.typeInfo142 w, by rfl⟩⟩
instance : TZero Try.prog 142 Go.Value.nilFunc := ⟨Try.zeroValue142⟩
instance : TPlain Try.prog 143 := ⟨Try.isAgg143, Try.sizeOf143⟩
instance : TSize Try.prog 143 1 := ⟨Try.sizeOf143⟩
instance : TBytes Try.prog 143 8 := ⟨fun w => ⟨_, Try.typeInfo143 w, by rfl⟩⟩
instance : TZero Try.prog 143 Go.Value.nilFunc := ⟨Try.zeroValue143⟩
instance : TPlain Try.prog 144 := ⟨Try.isAgg144, Try.sizeOf144⟩
instance : TSize Try.prog 144 1 := ⟨Try.sizeOf144⟩
instance : TBytes Try.prog 144 8 := ⟨fun w => ⟨_, Try.typeInfo144 w, by rfl⟩⟩
instance : TZero Try.prog 144 Go.Value.nilFunc := ⟨Try.zeroValue144⟩
instance : TPlain Try.prog 145 := ⟨Try.isAgg145, Try.sizeOf145⟩
instance : TSize Try.prog 145 1 := ⟨Try.sizeOf145⟩
instance : TBytes Try.prog 145 8 := ⟨fun w => ⟨_, Try.typeInfo145 w, by rfl⟩⟩
instance : TZero Try.prog 145 Go.Value.nilFunc := ⟨Try.zeroValue145⟩
instance : TUnder Try.prog 146 (Go.TypeDesc.int Go.IntKind.i64) := ⟨Try.runUnderlying146⟩
instance : TPlain Try.prog 146 := ⟨Try.isAgg146, Try.sizeOf146⟩
instance : TSize Try.prog 146 1 := ⟨Try.sizeOf146⟩
instance : TBytes Try.prog 146 8 := ⟨fun w => ⟨_, Try.typeInfo146 w, by rfl⟩⟩
instance : TZero Try.prog 146 (Go.Value.int Go.IntKind.i64 0) := ⟨Try.zeroValue146⟩
instance : TPlain Try.prog 148 := ⟨Try.isAgg148, Try.sizeOf148⟩
instance : TSize Try.prog 148 1 := ⟨Try.sizeOf148⟩
instance : TBytes Try.prog 148 8 := ⟨fun w => ⟨_, Try.typeInfo148 w, by rfl⟩⟩
instance : TZero Try.prog 148 Go.Value.nilFunc := ⟨Try.zeroValue148⟩
instance : TPlain Try.prog 149 := ⟨Try.isAgg149, Try.sizeOf149⟩
instance : TSize Try.prog 149 1 := ⟨Try.sizeOf149⟩
instance : TBytes Try.prog 149 8 := ⟨fun w => ⟨_, Try.typeInfo149 w, by rfl⟩⟩
instance : TZero Try.prog 149 Go.Value.nilFunc := ⟨Try.zeroValue149⟩
instance : TPlain Try.prog 150 := ⟨Try.isAgg150, Try.sizeOf150⟩
instance : TSize Try.prog 150 1 := ⟨Try.sizeOf150⟩
instance : TBytes Try.prog 150 8 := ⟨fun w => ⟨_, Try.typeInfo150 w, by rfl⟩⟩
instance : TZero Try.prog 150 Go.Value.nilFunc := ⟨Try.zeroValue150⟩
instance : TPlain Try.prog 151 := ⟨Try.isAgg151, Try.sizeOf151⟩
instance : TSize Try.prog 151 1 := ⟨Try.sizeOf151⟩
instance : TBytes Try.prog 151 8 := ⟨fun w => ⟨_, Try.typeInfo151 w, by rfl⟩⟩
instance : TZero Try.prog 151 Go.Value.nilFunc := ⟨Try.zeroValue151⟩
instance : TPlain Try.prog 152 := ⟨Try.isAgg152, Try.sizeOf152⟩
instance : TSize Try.prog 152 1 := ⟨Try.sizeOf152⟩
instance : TBytes Try.prog 152 8 := ⟨fun w => ⟨_, Try.typeInfo152 w, by rfl⟩⟩
instance : TZero Try.prog 152 Go.Value.nilFunc := ⟨Try.zeroValue152⟩
instance : TPlain Try.prog 153 := ⟨Try.isAgg153, Try.sizeOf153⟩
instance : TSize Try.prog 153 1 := ⟨Try.sizeOf153⟩
instance : TBytes Try.prog 153 8 := ⟨fun w => ⟨_, Try.typeInfo153 w, by rfl⟩⟩
instance : TZero Try.prog 153 Go.Value.nilFunc := ⟨Try.zeroValue153⟩
instance : TUnder Try.prog 154 (Go.TypeDesc.int Go.IntKind.u64) := ⟨Try.runUnderlying154⟩
instance : TPlain Try.prog 154 := ⟨Try.isAgg154, Try.sizeOf154⟩
instance : TSize Try.prog 154 1 := ⟨Try.sizeOf154⟩
instance : TBytes Try.prog 154 8 := ⟨fun w => ⟨_, Try.typeInfo154 w, by rfl⟩⟩
instance : TZero Try.prog 154 (Go.Value.int Go.IntKind.u64 0) := ⟨Try.zeroValue154⟩
instance : TPlain Try.prog 155 := ⟨Try.isAgg155, Try.sizeOf155⟩
instance : TSize Try.prog 155 1 := ⟨Try.sizeOf155⟩
instance : TBytes Try.prog 155 8 := ⟨fun w => ⟨_, Try.typeInfo155 w, by rfl⟩⟩
instance : TZero Try.prog 155 Go.Value.nilFunc := ⟨Try.zeroValue155⟩
instance : TPlain Try.prog 156 := ⟨Try.isAgg156, Try.sizeOf156⟩
instance : TSize Try.prog 156 1 := ⟨Try.sizeOf156⟩
instance : TBytes Try.prog 156 8 := ⟨fun w => ⟨_, Try.typeInfo156 w, by rfl⟩⟩
instance : TZero Try.prog 156 Go.Value.nilFunc := ⟨Try.zeroValue156⟩
instance : TPlain Try.prog 157 := ⟨Try.isAgg157, Try.sizeOf157⟩
instance : TSize Try.prog 157 1 := ⟨Try.sizeOf157⟩
instance : TBytes Try.prog 157 8 := ⟨fun w => ⟨_, Try.typeInfo157 w, by rfl⟩⟩
instance : TZero Try.prog 157 Go.Value.nilFunc := ⟨Try.zeroValue157⟩
instance : TPlain Try.prog 158 := ⟨Try.isAgg158, Try.sizeOf158⟩
instance : TSize Try.prog 158 1 := ⟨Try.sizeOf158⟩
instance : TBytes Try.prog 158 8 := ⟨fun w => ⟨_, Try.typeInfo158 w, by rfl⟩⟩
instance : TZero Try.prog 158 Go.Value.nilFunc := ⟨Try.zeroValue158⟩
instance : TPlain Try.prog 159 := ⟨Try.isAgg159, Try.sizeOf159⟩
instance : TSize Try.prog 159 1 := ⟨Try.sizeOf159⟩
instance : TBytes Try.prog 159 8 := ⟨fun w => ⟨_, Try.typeInfo159 w, by rfl⟩⟩
instance : TZero Try.prog 159 Go.Value.nilFunc := ⟨Try.zeroValue159⟩
instance : TPlain Try.prog 160 := ⟨Try.isAgg160, Try.sizeOf160⟩
instance : TSize Try.prog 160 1 := ⟨Try.sizeOf160⟩
instance : TBytes Try.prog 160 8 := ⟨fun w => ⟨_, Try.typeInfo160 w, by rfl⟩⟩
instance : TZero Try.prog 160 Go.Value.nilFunc := ⟨Try.zeroValue160⟩
instance : TPlain Try.prog 161 := ⟨Try.isAgg161, Try.sizeOf161⟩
instance : TSize Try.prog 161 1 := ⟨Try.sizeOf161⟩
instance : TBytes Try.prog 161 8 := ⟨fun w => ⟨_, Try.typeInfo161 w, by rfl⟩⟩
instance : TZero Try.prog 161 Go.Value.nilFunc := ⟨Try.zeroValue161⟩
instance : TUnder Try.prog 162 (Go.TypeDesc.int Go.IntKind.u64) := ⟨Try.runUnderlying162⟩
instance : TPlain Try.prog 162 := ⟨Try.isAgg162, Try.sizeOf162⟩
instance : TSize Try.prog 162 1 := ⟨Try.sizeOf162⟩
instance : TBytes Try.prog 162 8 := ⟨fun w => ⟨_, Try.typeInfo162 w, by rfl⟩⟩
instance : TZero Try.prog 162 (Go.Value.int Go.IntKind.u64 0) := ⟨Try.zeroValue162⟩
instance : TPlain Try.prog 163 := ⟨Try.isAgg163, Try.sizeOf163⟩
instance : TSize Try.prog 163 1 := ⟨Try.sizeOf163⟩
instance : TBytes Try.prog 163 8 := ⟨fun w => ⟨_, Try.typeInfo163 w, by rfl⟩⟩
instance : TZero Try.prog 163 Go.Value.nilFunc := ⟨Try.zeroValue163⟩
instance : TPlain Try.prog 164 := ⟨Try.isAgg164, Try.sizeOf164⟩
instance : TSize Try.prog 164 1 := ⟨Try.sizeOf164⟩
instance : TBytes Try.prog 164 8 := ⟨fun w => ⟨_, Try.typeInfo164 w, by rfl⟩⟩
instance : TZero Try.prog 164 Go.Value.nilFunc := ⟨Try.zeroValue164⟩
instance : TPlain Try.prog 165 := ⟨Try.isAgg165, Try.sizeOf165⟩
instance : TSize Try.prog 165 1 := ⟨Try.sizeOf165⟩
instance : TBytes Try.prog 165 8 := ⟨fun w => ⟨_, Try.typeInfo165 w, by rfl⟩⟩
instance : TZero Try.prog 165 Go.Value.nilFunc := ⟨Try.zeroValue165⟩
instance : TUnder Try.prog 166 (Go.TypeDesc.pointer 3) := ⟨Try.runUnderlying166⟩
instance : TPlain Try.prog 166 := ⟨Try.isAgg166, Try.sizeOf166⟩
instance : TSize Try.prog 166 1 := ⟨Try.sizeOf166⟩
instance : TBytes Try.prog 166 8 := ⟨fun w => ⟨_, Try.typeInfo166 w, by rfl⟩⟩
instance : TZero Try.prog 166 (Go.Value.pointer none) := ⟨Try.zeroValue166⟩
instance : TPlain Try.prog 167 := ⟨Try.isAgg167, Try.sizeOf167⟩
instance : TSize Try.prog 167 1 := ⟨Try.sizeOf167⟩
instance : TBytes Try.prog 167 8 := ⟨fun w => ⟨_, Try.typeInfo167 w, by rfl⟩⟩
instance : TZero Try.prog 167 Go.Value.nilFunc := ⟨Try.zeroValue167⟩
instance : TPlain Try.prog 168 := ⟨Try.isAgg168, Try.sizeOf168⟩
instance : TSize Try.prog 168 1 := ⟨Try.sizeOf168⟩
instance : TBytes Try.prog 168 8 := ⟨fun w => ⟨_, Try.typeInfo168 w, by rfl⟩⟩
instance : TZero Try.prog 168 Go.Value.nilFunc := ⟨Try.zeroValue168⟩
instance : TPlain Try.prog 169 := ⟨Try.isAgg169, Try.sizeOf169⟩
instance : TSize Try.prog 169 1 := ⟨Try.sizeOf169⟩
instance : TBytes Try.prog 169 8 := ⟨fun w => ⟨_, Try.typeInfo169 w, by rfl⟩⟩
instance : TZero Try.prog 169 Go.Value.nilFunc := ⟨Try.zeroValue169⟩
instance : TPlain Try.prog 170 := ⟨Try.isAgg170, Try.sizeOf170⟩
instance : TSize Try.prog 170 1 := ⟨Try.sizeOf170⟩
instance : TBytes Try.prog 170 8 := ⟨fun w => ⟨_, Try.typeInfo170 w, by rfl⟩⟩
instance : TZero Try.prog 170 Go.Value.nilFunc := ⟨Try.zeroValue170⟩
instance : TPlain Try.prog 171 := ⟨Try.isAgg171, Try.sizeOf171⟩
instance : TSize Try.prog 171 1 := ⟨Try.sizeOf171⟩
instance : TBytes Try.prog 171 8 := ⟨fun w => ⟨_, Try.typeInfo171 w, by rfl⟩⟩
instance : TZero Try.prog 171 Go.Value.nilFunc := ⟨Try.zeroValue171⟩
instance : TPlain Try.prog 172 := ⟨Try.isAgg172, Try.sizeOf172⟩
instance : TSize Try.prog 172 1 := ⟨Try.sizeOf172⟩
instance : TBytes Try.prog 172 8 := ⟨fun w => ⟨_, Try.typeInfo172 w, by rfl⟩⟩
instance : TZero Try.prog 172 Go.Value.nilFunc := ⟨Try.zeroValue172⟩
instance : TPlain Try.prog 173 := ⟨Try.isAgg173, Try.sizeOf173⟩
instance : TSize Try.prog 173 1 := ⟨Try.sizeOf173⟩
instance : TBytes Try.prog 173 8 := ⟨fun w => ⟨_, Try.typeInfo173 w, by rfl⟩⟩
instance : TZero Try.prog 173 Go.Value.nilFunc := ⟨Try.zeroValue173⟩
instance : TPlain Try.prog 174 := ⟨Try.isAgg174, Try.sizeOf174⟩
instance : TSize Try.prog 174 1 := ⟨Try.sizeOf174⟩
instance : TBytes Try.prog 174 8 := ⟨fun w => ⟨_, Try.typeInfo174 w, by rfl⟩⟩
instance : TZero Try.prog 174 Go.Value.nilFunc := ⟨Try.zeroValue174⟩
instance : TUnder Try.prog 175 (Go.TypeDesc.pointer 162) := ⟨Try.runUnderlying175⟩
instance : TPlain Try.prog 175 := ⟨Try.isAgg175, Try.sizeOf175⟩
instance : TSize Try.prog 175 1 := ⟨Try.sizeOf175⟩
instance : TBytes Try.prog 175 8 := ⟨fun w => ⟨_, Try.typeInfo175 w, by rfl⟩⟩
instance : TZero Try.prog 175 (Go.Value.pointer none) := ⟨Try.zeroValue175⟩
instance : TPlain Try.prog 177 := ⟨Try.isAgg177, Try.sizeOf177⟩
instance : TSize Try.prog 177 1 := ⟨Try.sizeOf177⟩
instance : TBytes Try.prog 177 8 := ⟨fun w => ⟨_, Try.typeInfo177 w, by rfl⟩⟩
instance : TZero Try.prog 177 Go.Value.nilFunc := ⟨Try.zeroValue177⟩
instance : TPlain Try.prog 178 := ⟨Try.isAgg178, Try.sizeOf178⟩
instance : TSize Try.prog 178 1 := ⟨Try.sizeOf178⟩
instance : TBytes Try.prog 178 8 := ⟨fun w => ⟨_, Try.typeInfo178 w, by rfl⟩⟩
instance : TZero Try.prog 178 Go.Value.nilFunc := ⟨Try.zeroValue178⟩
instance : TPlain Try.prog 179 := ⟨Try.isAgg179, Try.sizeOf179⟩
instance : TSize Try.prog 179 1 := ⟨Try.sizeOf179⟩
instance : TBytes Try.prog 179 8 := ⟨fun w => ⟨_, Try.typeInfo179 w, by rfl⟩⟩
instance : TZero Try.prog 179 Go.Value.nilFunc := ⟨Try.zeroValue179⟩
instance : TPlain Try.prog 180 := ⟨Try.isAgg180, Try.sizeOf180⟩
instance : TSize Try.prog 180 1 := ⟨Try.sizeOf180⟩
instance : TBytes Try.prog 180 8 := ⟨fun w => ⟨_, Try.typeInfo180 w, by rfl⟩⟩
instance : TZero Try.prog 180 Go.Value.nilFunc := ⟨Try.zeroValue180⟩
instance : TPlain Try.prog 181 := ⟨Try.isAgg181, Try.sizeOf181⟩
instance : TSize Try.prog 181 1 := ⟨Try.sizeOf181⟩
instance : TBytes Try.prog 181 8 := ⟨fun w => ⟨_, Try.typeInfo181 w, by rfl⟩⟩
instance : TZero Try.prog 181 Go.Value.nilFunc := ⟨Try.zeroValue181⟩
instance : TPlain Try.prog 182 := ⟨Try.isAgg182, Try.sizeOf182⟩
instance : TSize Try.prog 182 1 := ⟨Try.sizeOf182⟩
instance : TBytes Try.prog 182 8 := ⟨fun w => ⟨_, Try.typeInfo182 w, by rfl⟩⟩
instance : TZero Try.prog 182 Go.Value.nilFunc := ⟨Try.zeroValue182⟩
instance : TUnder Try.prog 183 (Go.TypeDesc.struct #[{ name := "_interface", type := 17, offset := 0, embedded := false, tag := "", pkgPath := "runtime", byteOffset := 0 }, { name := "concrete", type := 17, offset := 1, embedded := false, tag := "", pkgPath := "runtime", byteOffset := 8 }, { name := "asserted", type := 17, offset := 2, embedded := false, tag := "", pkgPath := "runtime", byteOffset := 16 }, { name := "missingMethod", type := 9, offset := 3, embedded := false, tag := "", pkgPath := "runtime", byteOffset := 24 }]) := ⟨Try.runUnderlying183⟩
instance : TAgg Try.prog 183 4 := ⟨Try.isAgg183, Try.sizeOf183⟩
instance : TSize Try.prog 183 4 := ⟨Try.sizeOf183⟩
instance : TBytes Try.prog 183 40 := ⟨fun w => ⟨_, Try.typeInfo183 w, by rfl⟩⟩
instance : TZero Try.prog 183 (Go.Value.agg #[(Go.Value.pointer none), (Go.Value.pointer none), (Go.Value.pointer none), (Go.Value.string { data := #[] })]) := ⟨Try.zeroValue183⟩
instance : TPlaces Try.prog 183 [(0, 1), (1, 1), (2, 1), (3, 1)] := ⟨fun w => ⟨_, Try.runUnderlying183 w, by simp [Try.sizeOf17, Try.sizeOf9]⟩⟩
instance : TField Try.prog 183 0 0 := ⟨fun b o w => fieldAt_of (f := { name := "_interface", type := 17, offset := 0, embedded := false, tag := "", pkgPath := "runtime", byteOffset := 0 }) (Try.runUnderlying183 w) rfl (Try.sizeOf17 w) (by decide) b o⟩
instance : TField Try.prog 183 1 1 := ⟨fun b o w => fieldAt_of (f := { name := "concrete", type := 17, offset := 1, embedded := false, tag := "", pkgPath := "runtime", byteOffset := 8 }) (Try.runUnderlying183 w) rfl (Try.sizeOf17 w) (by decide) b o⟩
instance : TField Try.prog 183 2 2 := ⟨fun b o w => fieldAt_of (f := { name := "asserted", type := 17, offset := 2, embedded := false, tag := "", pkgPath := "runtime", byteOffset := 16 }) (Try.runUnderlying183 w) rfl (Try.sizeOf17 w) (by decide) b o⟩
instance : TField Try.prog 183 3 3 := ⟨fun b o w => fieldAt_of (f := { name := "missingMethod", type := 9, offset := 3, embedded := false, tag := "", pkgPath := "runtime", byteOffset := 24 }) (Try.runUnderlying183 w) rfl (Try.sizeOf9 w) (by decide) b o⟩
instance : TUnder Try.prog 184 (Go.TypeDesc.struct #[{ name := "_interface", type := 17, offset := 0, embedded := false, tag := "", pkgPath := "runtime", byteOffset := 0 }, { name := "concrete", type := 17, offset := 1, embedded := false, tag := "", pkgPath := "runtime", byteOffset := 8 }, { name := "asserted", type := 17, offset := 2, embedded := false, tag := "", pkgPath := "runtime", byteOffset := 16 }, { name := "missingMethod", type := 9, offset := 3, embedded := false, tag := "", pkgPath := "runtime", byteOffset := 24 }]) := ⟨Try.runUnderlying184⟩
instance : TAgg Try.prog 184 4 := ⟨Try.isAgg184, Try.sizeOf184⟩
instance : TSize Try.prog 184 4 := ⟨Try.sizeOf184⟩
instance : TBytes Try.prog 184 40 := ⟨fun w => ⟨_, Try.typeInfo184 w, by rfl⟩⟩
instance : TZero Try.prog 184 (Go.Value.agg #[(Go.Value.pointer none), (Go.Value.pointer none), (Go.Value.pointer none), (Go.Value.string { data := #[] })]) := ⟨Try.zeroValue184⟩
instance : TPlaces Try.prog 184 [(0, 1), (1, 1), (2, 1), (3, 1)] := ⟨fun w => ⟨_, Try.runUnderlying184 w, by simp [Try.sizeOf17, Try.sizeOf9]⟩⟩
instance : TField Try.prog 184 0 0 := ⟨fun b o w => fieldAt_of (f := { name := "_interface", type := 17, offset := 0, embedded := false, tag := "", pkgPath := "runtime", byteOffset := 0 }) (Try.runUnderlying184 w) rfl (Try.sizeOf17 w) (by decide) b o⟩
instance : TField Try.prog 184 1 1 := ⟨fun b o w => fieldAt_of (f := { name := "concrete", type := 17, offset := 1, embedded := false, tag := "", pkgPath := "runtime", byteOffset := 8 }) (Try.runUnderlying184 w) rfl (Try.sizeOf17 w) (by decide) b o⟩
instance : TField Try.prog 184 2 2 := ⟨fun b o w => fieldAt_of (f := { name := "asserted", type := 17, offset := 2, embedded := false, tag := "", pkgPath := "runtime", byteOffset := 16 }) (Try.runUnderlying184 w) rfl (Try.sizeOf17 w) (by decide) b o⟩
instance : TField Try.prog 184 3 3 := ⟨fun b o w => fieldAt_of (f := { name := "missingMethod", type := 9, offset := 3, embedded := false, tag := "", pkgPath := "runtime", byteOffset := 24 }) (Try.runUnderlying184 w) rfl (Try.sizeOf9 w) (by decide) b o⟩
instance : TUnder Try.prog 185 (Go.TypeDesc.array 0 16) := ⟨Try.runUnderlying185⟩
instance : TAgg Try.prog 185 0 := ⟨Try.isAgg185, Try.sizeOf185⟩
instance : TSize Try.prog 185 0 := ⟨Try.sizeOf185⟩
instance : TBytes Try.prog 185 0 := ⟨fun w => ⟨_, Try.typeInfo185 w, by rfl⟩⟩
instance : TZero Try.prog 185 (Go.Value.agg #[]) := ⟨Try.zeroValue185⟩
instance : TUnder Try.prog 186 (Go.TypeDesc.struct #[{ name := "_", type := 185, offset := 0, embedded := false, tag := "", pkgPath := "runtime", byteOffset := 0 }]) := ⟨Try.runUnderlying186⟩
instance : TAgg Try.prog 186 0 := ⟨Try.isAgg186, Try.sizeOf186⟩
instance : TSize Try.prog 186 0 := ⟨Try.sizeOf186⟩
instance : TBytes Try.prog 186 0 := ⟨fun w => ⟨_, Try.typeInfo186 w, by rfl⟩⟩
instance : TZero Try.prog 186 (Go.Value.agg #[]) := ⟨Try.zeroValue186⟩
instance : TUnder Try.prog 187 (Go.TypeDesc.struct #[{ name := "_", type := 185, offset := 0, embedded := false, tag := "", pkgPath := "runtime", byteOffset := 0 }]) := ⟨Try.runUnderlying187⟩
instance : TAgg Try.prog 187 0 := ⟨Try.isAgg187, Try.sizeOf187⟩
instance : TSize Try.prog 187 0 := ⟨Try.sizeOf187⟩
instance : TBytes Try.prog 187 0 := ⟨fun w => ⟨_, Try.typeInfo187 w, by rfl⟩⟩
instance : TZero Try.prog 187 (Go.Value.agg #[]) := ⟨Try.zeroValue187⟩
instance : TPlain Try.prog 188 := ⟨Try.isAgg188, Try.sizeOf188⟩
instance : TSize Try.prog 188 1 := ⟨Try.sizeOf188⟩
instance : TBytes Try.prog 188 8 := ⟨fun w => ⟨_, Try.typeInfo188 w, by rfl⟩⟩
instance : TZero Try.prog 188 Go.Value.nilFunc := ⟨Try.zeroValue188⟩
instance : TUnder Try.prog 189 (Go.TypeDesc.int Go.IntKind.u8) := ⟨Try.runUnderlying189⟩
instance : TPlain Try.prog 189 := ⟨Try.isAgg189, Try.sizeOf189⟩
instance : TSize Try.prog 189 1 := ⟨Try.sizeOf189⟩
instance : TBytes Try.prog 189 1 := ⟨fun w => ⟨_, Try.typeInfo189 w, by rfl⟩⟩
instance : TZero Try.prog 189 (Go.Value.int Go.IntKind.u8 0) := ⟨Try.zeroValue189⟩
instance : TUnder Try.prog 190 (Go.TypeDesc.int Go.IntKind.u8) := ⟨Try.runUnderlying190⟩
instance : TPlain Try.prog 190 := ⟨Try.isAgg190, Try.sizeOf190⟩
instance : TSize Try.prog 190 1 := ⟨Try.sizeOf190⟩
instance : TBytes Try.prog 190 1 := ⟨fun w => ⟨_, Try.typeInfo190 w, by rfl⟩⟩
instance : TZero Try.prog 190 (Go.Value.int Go.IntKind.u8 0) := ⟨Try.zeroValue190⟩
instance : TPlain Try.prog 191 := ⟨Try.isAgg191, Try.sizeOf191⟩
instance : TSize Try.prog 191 1 := ⟨Try.sizeOf191⟩
instance : TBytes Try.prog 191 8 := ⟨fun w => ⟨_, Try.typeInfo191 w, by rfl⟩⟩
instance : TZero Try.prog 191 Go.Value.nilFunc := ⟨Try.zeroValue191⟩
instance : TUnder Try.prog 192 (Go.TypeDesc.pointer 5) := ⟨Try.runUnderlying192⟩
instance : TPlain Try.prog 192 := ⟨Try.isAgg192, Try.sizeOf192⟩
instance : TSize Try.prog 192 1 := ⟨Try.sizeOf192⟩
instance : TBytes Try.prog 192 8 := ⟨fun w => ⟨_, Try.typeInfo192 w, by rfl⟩⟩
instance : TZero Try.prog 192 (Go.Value.pointer none) := ⟨Try.zeroValue192⟩
instance : TUnder Try.prog 193 (Go.TypeDesc.int Go.IntKind.i32) := ⟨Try.runUnderlying193⟩
instance : TPlain Try.prog 193 := ⟨Try.isAgg193, Try.sizeOf193⟩
instance : TSize Try.prog 193 1 := ⟨Try.sizeOf193⟩
instance : TBytes Try.prog 193 4 := ⟨fun w => ⟨_, Try.typeInfo193 w, by rfl⟩⟩
instance : TZero Try.prog 193 (Go.Value.int Go.IntKind.i32 0) := ⟨Try.zeroValue193⟩
instance : TUnder Try.prog 194 (Go.TypeDesc.int Go.IntKind.i32) := ⟨Try.runUnderlying194⟩
instance : TPlain Try.prog 194 := ⟨Try.isAgg194, Try.sizeOf194⟩
instance : TSize Try.prog 194 1 := ⟨Try.sizeOf194⟩
instance : TBytes Try.prog 194 4 := ⟨fun w => ⟨_, Try.typeInfo194 w, by rfl⟩⟩
instance : TZero Try.prog 194 (Go.Value.int Go.IntKind.i32 0) := ⟨Try.zeroValue194⟩
instance : TUnder Try.prog 195 (Go.TypeDesc.struct #[{ name := "Size_", type := 12, offset := 0, embedded := false, tag := "", pkgPath := "", byteOffset := 0 }, { name := "PtrBytes", type := 12, offset := 1, embedded := false, tag := "", pkgPath := "", byteOffset := 8 }, { name := "Hash", type := 30, offset := 2, embedded := false, tag := "", pkgPath := "", byteOffset := 16 }, { name := "TFlag", type := 189, offset := 3, embedded := false, tag := "", pkgPath := "", byteOffset := 20 }, { name := "Align_", type := 5, offset := 4, embedded := false, tag := "", pkgPath := "", byteOffset := 21 }, { name := "FieldAlign_", type := 5, offset := 5, embedded := false, tag := "", pkgPath := "", byteOffset := 22 }, { name := "Kind_", type := 190, offset := 6, embedded := false, tag := "", pkgPath := "", byteOffset := 23 }, { name := "Equal", type := 191, offset := 7, embedded := false, tag := "", pkgPath := "", byteOffset := 24 }, { name := "GCData", type := 192, offset := 8, embedded := false, tag := "", pkgPath := "", byteOffset := 32 }, { name := "Str", type := 193, offset := 9, embedded := false, tag := "", pkgPath := "", byteOffset := 40 }, { name := "PtrToThis", type := 194, offset := 10, embedded := false, tag := "", pkgPath := "", byteOffset := 44 }]) := ⟨Try.runUnderlying195⟩
instance : TAgg Try.prog 195 11 := ⟨Try.isAgg195, Try.sizeOf195⟩
instance : TSize Try.prog 195 11 := ⟨Try.sizeOf195⟩
instance : TBytes Try.prog 195 48 := ⟨fun w => ⟨_, Try.typeInfo195 w, by rfl⟩⟩
instance : TZero Try.prog 195 (Go.Value.agg #[(Go.Value.int Go.IntKind.u64 0), (Go.Value.int Go.IntKind.u64 0), (Go.Value.int Go.IntKind.u32 0), (Go.Value.int Go.IntKind.u8 0), (Go.Value.int Go.IntKind.u8 0), (Go.Value.int Go.IntKind.u8 0), (Go.Value.int Go.IntKind.u8 0), Go.Value.nilFunc, (Go.Value.pointer none), (Go.Value.int Go.IntKind.i32 0), (Go.Value.int Go.IntKind.i32 0)]) := ⟨Try.zeroValue195⟩
instance : TPlaces Try.prog 195 [(0, 1), (1, 1), (2, 1), (3, 1), (4, 1), (5, 1), (6, 1), (7, 1), (8, 1), (9, 1), (10, 1)] := ⟨fun w => ⟨_, Try.runUnderlying195 w, by simp [Try.sizeOf12, Try.sizeOf189, Try.sizeOf190, Try.sizeOf191, Try.sizeOf192, Try.sizeOf193, Try.sizeOf194, Try.sizeOf30, Try.sizeOf5]⟩⟩
instance : TField Try.prog 195 0 0 := ⟨fun b o w => fieldAt_of (f := { name := "Size_", type := 12, offset := 0, embedded := false, tag := "", pkgPath := "", byteOffset := 0 }) (Try.runUnderlying195 w) rfl (Try.sizeOf12 w) (by decide) b o⟩
instance : TField Try.prog 195 1 1 := ⟨fun b o w => fieldAt_of (f := { name := "PtrBytes", type := 12, offset := 1, embedded := false, tag := "", pkgPath := "", byteOffset := 8 }) (Try.runUnderlying195 w) rfl (Try.sizeOf12 w) (by decide) b o⟩
instance : TField Try.prog 195 2 2 := ⟨fun b o w => fieldAt_of (f := { name := "Hash", type := 30, offset := 2, embedded := false, tag := "", pkgPath := "", byteOffset := 16 }) (Try.runUnderlying195 w) rfl (Try.sizeOf30 w) (by decide) b o⟩
instance : TField Try.prog 195 3 3 := ⟨fun b o w => fieldAt_of (f := { name := "TFlag", type := 189, offset := 3, embedded := false, tag := "", pkgPath := "", byteOffset := 20 }) (Try.runUnderlying195 w) rfl (Try.sizeOf189 w) (by decide) b o⟩
instance : TField Try.prog 195 4 4 := ⟨fun b o w => fieldAt_of (f := { name := "Align_", type := 5, offset := 4, embedded := false, tag := "", pkgPath := "", byteOffset := 21 }) (Try.runUnderlying195 w) rfl (Try.sizeOf5 w) (by decide) b o⟩
instance : TField Try.prog 195 5 5 := ⟨fun b o w => fieldAt_of (f := { name := "FieldAlign_", type := 5, offset := 5, embedded := false, tag := "", pkgPath := "", byteOffset := 22 }) (Try.runUnderlying195 w) rfl (Try.sizeOf5 w) (by decide) b o⟩
instance : TField Try.prog 195 6 6 := ⟨fun b o w => fieldAt_of (f := { name := "Kind_", type := 190, offset := 6, embedded := false, tag := "", pkgPath := "", byteOffset := 23 }) (Try.runUnderlying195 w) rfl (Try.sizeOf190 w) (by decide) b o⟩
instance : TField Try.prog 195 7 7 := ⟨fun b o w => fieldAt_of (f := { name := "Equal", type := 191, offset := 7, embedded := false, tag := "", pkgPath := "", byteOffset := 24 }) (Try.runUnderlying195 w) rfl (Try.sizeOf191 w) (by decide) b o⟩
instance : TField Try.prog 195 8 8 := ⟨fun b o w => fieldAt_of (f := { name := "GCData", type := 192, offset := 8, embedded := false, tag := "", pkgPath := "", byteOffset := 32 }) (Try.runUnderlying195 w) rfl (Try.sizeOf192 w) (by decide) b o⟩
instance : TField Try.prog 195 9 9 := ⟨fun b o w => fieldAt_of (f := { name := "Str", type := 193, offset := 9, embedded := false, tag := "", pkgPath := "", byteOffset := 40 }) (Try.runUnderlying195 w) rfl (Try.sizeOf193 w) (by decide) b o⟩
instance : TField Try.prog 195 10 10 := ⟨fun b o w => fieldAt_of (f := { name := "PtrToThis", type := 194, offset := 10, embedded := false, tag := "", pkgPath := "", byteOffset := 44 }) (Try.runUnderlying195 w) rfl (Try.sizeOf194 w) (by decide) b o⟩
instance : TUnder Try.prog 196 (Go.TypeDesc.struct #[{ name := "Size_", type := 12, offset := 0, embedded := false, tag := "", pkgPath := "", byteOffset := 0 }, { name := "PtrBytes", type := 12, offset := 1, embedded := false, tag := "", pkgPath := "", byteOffset := 8 }, { name := "Hash", type := 30, offset := 2, embedded := false, tag := "", pkgPath := "", byteOffset := 16 }, { name := "TFlag", type := 189, offset := 3, embedded := false, tag := "", pkgPath := "", byteOffset := 20 }, { name := "Align_", type := 5, offset := 4, embedded := false, tag := "", pkgPath := "", byteOffset := 21 }, { name := "FieldAlign_", type := 5, offset := 5, embedded := false, tag := "", pkgPath := "", byteOffset := 22 }, { name := "Kind_", type := 190, offset := 6, embedded := false, tag := "", pkgPath := "", byteOffset := 23 }, { name := "Equal", type := 191, offset := 7, embedded := false, tag := "", pkgPath := "", byteOffset := 24 }, { name := "GCData", type := 192, offset := 8, embedded := false, tag := "", pkgPath := "", byteOffset := 32 }, { name := "Str", type := 193, offset := 9, embedded := false, tag := "", pkgPath := "", byteOffset := 40 }, { name := "PtrToThis", type := 194, offset := 10, embedded := false, tag := "", pkgPath := "", byteOffset := 44 }]) := ⟨Try.runUnderlying196⟩
instance : TAgg Try.prog 196 11 := ⟨Try.isAgg196, Try.sizeOf196⟩
instance : TSize Try.prog 196 11 := ⟨Try.sizeOf196⟩
instance : TBytes Try.prog 196 48 := ⟨fun w => ⟨_, Try.typeInfo196 w, by rfl⟩⟩
instance : TZero Try.prog 196 (Go.Value.agg #[(Go.Value.int Go.IntKind.u64 0), (Go.Value.int Go.IntKind.u64 0), (Go.Value.int Go.IntKind.u32 0), (Go.Value.int Go.IntKind.u8 0), (Go.Value.int Go.IntKind.u8 0), (Go.Value.int Go.IntKind.u8 0), (Go.Value.int Go.IntKind.u8 0), Go.Value.nilFunc, (Go.Value.pointer none), (Go.Value.int Go.IntKind.i32 0), (Go.Value.int Go.IntKind.i32 0)]) := ⟨Try.zeroValue196⟩
instance : TPlaces Try.prog 196 [(0, 1), (1, 1), (2, 1), (3, 1), (4, 1), (5, 1), (6, 1), (7, 1), (8, 1), (9, 1), (10, 1)] := ⟨fun w => ⟨_, Try.runUnderlying196 w, by simp [Try.sizeOf12, Try.sizeOf189, Try.sizeOf190, Try.sizeOf191, Try.sizeOf192, Try.sizeOf193, Try.sizeOf194, Try.sizeOf30, Try.sizeOf5]⟩⟩
instance : TField Try.prog 196 0 0 := ⟨fun b o w => fieldAt_of (f := { name := "Size_", type := 12, offset := 0, embedded := false, tag := "", pkgPath := "", byteOffset := 0 }) (Try.runUnderlying196 w) rfl (Try.sizeOf12 w) (by decide) b o⟩
instance : TField Try.prog 196 1 1 := ⟨fun b o w => fieldAt_of (f := { name := "PtrBytes", type := 12, offset := 1, embedded := false, tag := "", pkgPath := "", byteOffset := 8 }) (Try.runUnderlying196 w) rfl (Try.sizeOf12 w) (by decide) b o⟩
instance : TField Try.prog 196 2 2 := ⟨fun b o w => fieldAt_of (f := { name := "Hash", type := 30, offset := 2, embedded := false, tag := "", pkgPath := "", byteOffset := 16 }) (Try.runUnderlying196 w) rfl (Try.sizeOf30 w) (by decide) b o⟩
instance : TField Try.prog 196 3 3 := ⟨fun b o w => fieldAt_of (f := { name := "TFlag", type := 189, offset := 3, embedded := false, tag := "", pkgPath := "", byteOffset := 20 }) (Try.runUnderlying196 w) rfl (Try.sizeOf189 w) (by decide) b o⟩
instance : TField Try.prog 196 4 4 := ⟨fun b o w => fieldAt_of (f := { name := "Align_", type := 5, offset := 4, embedded := false, tag := "", pkgPath := "", byteOffset := 21 }) (Try.runUnderlying196 w) rfl (Try.sizeOf5 w) (by decide) b o⟩
instance : TField Try.prog 196 5 5 := ⟨fun b o w => fieldAt_of (f := { name := "FieldAlign_", type := 5, offset := 5, embedded := false, tag := "", pkgPath := "", byteOffset := 22 }) (Try.runUnderlying196 w) rfl (Try.sizeOf5 w) (by decide) b o⟩
instance : TField Try.prog 196 6 6 := ⟨fun b o w => fieldAt_of (f := { name := "Kind_", type := 190, offset := 6, embedded := false, tag := "", pkgPath := "", byteOffset := 23 }) (Try.runUnderlying196 w) rfl (Try.sizeOf190 w) (by decide) b o⟩
instance : TField Try.prog 196 7 7 := ⟨fun b o w => fieldAt_of (f := { name := "Equal", type := 191, offset := 7, embedded := false, tag := "", pkgPath := "", byteOffset := 24 }) (Try.runUnderlying196 w) rfl (Try.sizeOf191 w) (by decide) b o⟩
instance : TField Try.prog 196 8 8 := ⟨fun b o w => fieldAt_of (f := { name := "GCData", type := 192, offset := 8, embedded := false, tag := "", pkgPath := "", byteOffset := 32 }) (Try.runUnderlying196 w) rfl (Try.sizeOf192 w) (by decide) b o⟩
instance : TField Try.prog 196 9 9 := ⟨fun b o w => fieldAt_of (f := { name := "Str", type := 193, offset := 9, embedded := false, tag := "", pkgPath := "", byteOffset := 40 }) (Try.runUnderlying196 w) rfl (Try.sizeOf193 w) (by decide) b o⟩
instance : TField Try.prog 196 10 10 := ⟨fun b o w => fieldAt_of (f := { name := "PtrToThis", type := 194, offset := 10, embedded := false, tag := "", pkgPath := "", byteOffset := 44 }) (Try.runUnderlying196 w) rfl (Try.sizeOf194 w) (by decide) b o⟩
instance : TUnder Try.prog 197 Go.TypeDesc.unsafePointer := ⟨Try.runUnderlying197⟩
instance : TPlain Try.prog 197 := ⟨Try.isAgg197, Try.sizeOf197⟩
instance : TSize Try.prog 197 1 := ⟨Try.sizeOf197⟩
instance : TBytes Try.prog 197 8 := ⟨fun w => ⟨_, Try.typeInfo197 w, by rfl⟩⟩
instance : TZero Try.prog 197 (Go.Value.pointer none) := ⟨Try.zeroValue197⟩
instance : Fun Try.prog 3 := ⟨fun args w => Try.call3 args w⟩
instance : Fun Try.prog 4 := ⟨fun args w => Try.call4 args w⟩
instance : Fun Try.prog 5 := ⟨fun args w => Try.call5 args w⟩
instance : Fun Try.prog 6 := ⟨fun args w => Try.call6 args w⟩
instance : Fun Try.prog 7 := ⟨fun args w => Try.call7 args w⟩
instance : Fun Try.prog 8 := ⟨fun args w => Try.call8 args w⟩
instance : Fun Try.prog 9 := ⟨fun args w => Try.call9 args w⟩
instance : Fun Try.prog 10 := ⟨fun args w => Try.call10 args w⟩
instance : Fun Try.prog 11 := ⟨fun args w => Try.call11 args w⟩
instance : Fun Try.prog 12 := ⟨fun args w => Try.call12 args w⟩
instance : Fun Try.prog 13 := ⟨fun args w => Try.call13 args w⟩
instance : Fun Try.prog 14 := ⟨fun args w => Try.call14 args w⟩
instance : Fun Try.prog 15 := ⟨fun args w => Try.call15 args w⟩
instance : Fun Try.prog 16 := ⟨fun args w => Try.call16 args w⟩
instance : Fun Try.prog 17 := ⟨fun args w => Try.call17 args w⟩
instance : Fun Try.prog 18 := ⟨fun args w => Try.call18 args w⟩
instance : Fun Try.prog 19 := ⟨fun args w => Try.call19 args w⟩
instance : Fun Try.prog 20 := ⟨fun args w => Try.call20 args w⟩
instance : Fun Try.prog 21 := ⟨fun args w => Try.call21 args w⟩
instance : Fun Try.prog 22 := ⟨fun args w => Try.call22 args w⟩
instance : Fun Try.prog 23 := ⟨fun args w => Try.call23 args w⟩
instance : Fun Try.prog 24 := ⟨fun args w => Try.call24 args w⟩
instance : Fun Try.prog 25 := ⟨fun args w => Try.call25 args w⟩
instance : Fun Try.prog 26 := ⟨fun args w => Try.call26 args w⟩
instance : Fun Try.prog 27 := ⟨fun args w => Try.call27 args w⟩
instance : Fun Try.prog 28 := ⟨fun args w => Try.call28 args w⟩
instance : Fun Try.prog 29 := ⟨fun args w => Try.call29 args w⟩
instance : Fun Try.prog 30 := ⟨fun args w => Try.call30 args w⟩
instance : Fun Try.prog 31 := ⟨fun args w => Try.call31 args w⟩
instance : Fun Try.prog 32 := ⟨fun args w => Try.call32 args w⟩
instance : Fun Try.prog 33 := ⟨fun args w => Try.call33 args w⟩
instance : Fun Try.prog 34 := ⟨fun args w => Try.call34 args w⟩
instance : Fun Try.prog 35 := ⟨fun args w => Try.call35 args w⟩
instance : Fun Try.prog 36 := ⟨fun args w => Try.call36 args w⟩
instance : Fun Try.prog 37 := ⟨fun args w => Try.call37 args w⟩
instance : Fun Try.prog 38 := ⟨fun args w => Try.call38 args w⟩
instance : Fun Try.prog 39 := ⟨fun args w => Try.call39 args w⟩
instance : Fun Try.prog 40 := ⟨fun args w => Try.call40 args w⟩
instance : Fun Try.prog 41 := ⟨fun args w => Try.call41 args w⟩
instance : Fun Try.prog 42 := ⟨fun args w => Try.call42 args w⟩
instance : Fun Try.prog 43 := ⟨fun args w => Try.call43 args w⟩
instance : Fun Try.prog 44 := ⟨fun args w => Try.call44 args w⟩
instance : Fun Try.prog 45 := ⟨fun args w => Try.call45 args w⟩
instance : Fun Try.prog 46 := ⟨fun args w => Try.call46 args w⟩
instance : Fun Try.prog 47 := ⟨fun args w => Try.call47 args w⟩
instance : Fun Try.prog 48 := ⟨fun args w => Try.call48 args w⟩
instance : Fun Try.prog 49 := ⟨fun args w => Try.call49 args w⟩
instance : Fun Try.prog 50 := ⟨fun args w => Try.call50 args w⟩
instance : Fun Try.prog 51 := ⟨fun args w => Try.call51 args w⟩
instance : Fun Try.prog 52 := ⟨fun args w => Try.call52 args w⟩
instance : Fun Try.prog 53 := ⟨fun args w => Try.call53 args w⟩
instance : Fun Try.prog 54 := ⟨fun args w => Try.call54 args w⟩
instance : Fun Try.prog 55 := ⟨fun args w => Try.call55 args w⟩
instance : Fun Try.prog 56 := ⟨fun args w => Try.call56 args w⟩
instance : Fun Try.prog 57 := ⟨fun args w => Try.call57 args w⟩
instance : Fun Try.prog 58 := ⟨fun args w => Try.call58 args w⟩
instance : Fun Try.prog 59 := ⟨fun args w => Try.call59 args w⟩
instance : Fun Try.prog 60 := ⟨fun args w => Try.call60 args w⟩
instance : Fun Try.prog 61 := ⟨fun args w => Try.call61 args w⟩
instance : Fun Try.prog 62 := ⟨fun args w => Try.call62 args w⟩
instance : Fun Try.prog 63 := ⟨fun args w => Try.call63 args w⟩
instance : Fun Try.prog 64 := ⟨fun args w => Try.call64 args w⟩
instance : Fun Try.prog 65 := ⟨fun args w => Try.call65 args w⟩
instance : Fun Try.prog 66 := ⟨fun args w => Try.call66 args w⟩
instance : Fun Try.prog 67 := ⟨fun args w => Try.call67 args w⟩
instance : Fun Try.prog 68 := ⟨fun args w => Try.call68 args w⟩
instance : Fun Try.prog 69 := ⟨fun args w => Try.call69 args w⟩
instance : Fun Try.prog 70 := ⟨fun args w => Try.call70 args w⟩
instance : Fun Try.prog 71 := ⟨fun args w => Try.call71 args w⟩
instance : Fun Try.prog 72 := ⟨fun args w => Try.call72 args w⟩
instance : Fun Try.prog 73 := ⟨fun args w => Try.call73 args w⟩
instance : Fun Try.prog 74 := ⟨fun args w => Try.call74 args w⟩
instance : Fun Try.prog 75 := ⟨fun args w => Try.call75 args w⟩
instance : Fun Try.prog 76 := ⟨fun args w => Try.call76 args w⟩
instance : Fun Try.prog 77 := ⟨fun args w => Try.call77 args w⟩
instance : Fun Try.prog 78 := ⟨fun args w => Try.call78 args w⟩
instance : Fun Try.prog 79 := ⟨fun args w => Try.call79 args w⟩
instance : Fun Try.prog 80 := ⟨fun args w => Try.call80 args w⟩
instance : Fun Try.prog 81 := ⟨fun args w => Try.call81 args w⟩
instance : Fun Try.prog 82 := ⟨fun args w => Try.call82 args w⟩
instance : Fun Try.prog 83 := ⟨fun args w => Try.call83 args w⟩
instance : Fun Try.prog 84 := ⟨fun args w => Try.call84 args w⟩
instance : Fun Try.prog 85 := ⟨fun args w => Try.call85 args w⟩
instance : Fun Try.prog 86 := ⟨fun args w => Try.call86 args w⟩
instance : Fun Try.prog 87 := ⟨fun args w => Try.call87 args w⟩
instance : Fun Try.prog 88 := ⟨fun args w => Try.call88 args w⟩
instance : Fun Try.prog 89 := ⟨fun args w => Try.call89 args w⟩
instance : Fun Try.prog 90 := ⟨fun args w => Try.call90 args w⟩
instance : Fun Try.prog 91 := ⟨fun args w => Try.call91 args w⟩
instance : Fun Try.prog 92 := ⟨fun args w => Try.call92 args w⟩
instance : Fun Try.prog 93 := ⟨fun args w => Try.call93 args w⟩
instance : Fun Try.prog 94 := ⟨fun args w => Try.call94 args w⟩
instance : Fun Try.prog 95 := ⟨fun args w => Try.call95 args w⟩
instance : Fun Try.prog 96 := ⟨fun args w => Try.call96 args w⟩
instance : Fun Try.prog 97 := ⟨fun args w => Try.call97 args w⟩
instance : Fun Try.prog 98 := ⟨fun args w => Try.call98 args w⟩
instance : Fun Try.prog 99 := ⟨fun args w => Try.call99 args w⟩
instance : Fun Try.prog 100 := ⟨fun args w => Try.call100 args w⟩
instance : Fun Try.prog 101 := ⟨fun args w => Try.call101 args w⟩
instance : Fun Try.prog 102 := ⟨fun args w => Try.call102 args w⟩
instance : Fun Try.prog 103 := ⟨fun args w => Try.call103 args w⟩
instance : Fun Try.prog 104 := ⟨fun args w => Try.call104 args w⟩
instance : Fun Try.prog 105 := ⟨fun args w => Try.call105 args w⟩
instance : Fun Try.prog 106 := ⟨fun args w => Try.call106 args w⟩
instance : Fun Try.prog 107 := ⟨fun args w => Try.call107 args w⟩
instance : Fun Try.prog 108 := ⟨fun args w => Try.call108 args w⟩
instance : Fun Try.prog 109 := ⟨fun args w => Try.call109 args w⟩
instance : Fun Try.prog 110 := ⟨fun args w => Try.call110 args w⟩
instance : Fun Try.prog 111 := ⟨fun args w => Try.call111 args w⟩
instance : Fun Try.prog 112 := ⟨fun args w => Try.call112 args w⟩
instance : Fun Try.prog 113 := ⟨fun args w => Try.call113 args w⟩
instance : Fun Try.prog 114 := ⟨fun args w => Try.call114 args w⟩
instance : Fun Try.prog 115 := ⟨fun args w => Try.call115 args w⟩
instance : Fun Try.prog 116 := ⟨fun args w => Try.call116 args w⟩
instance : Fun Try.prog 117 := ⟨fun args w => Try.call117 args w⟩
instance : Fun Try.prog 118 := ⟨fun args w => Try.call118 args w⟩
instance : Fun Try.prog 119 := ⟨fun args w => Try.call119 args w⟩
instance : Fun Try.prog 120 := ⟨fun args w => Try.call120 args w⟩
instance : Fun Try.prog 121 := ⟨fun args w => Try.call121 args w⟩
instance : Fun Try.prog 122 := ⟨fun args w => Try.call122 args w⟩
instance : Fun Try.prog 123 := ⟨fun args w => Try.call123 args w⟩
instance : Fun Try.prog 124 := ⟨fun args w => Try.call124 args w⟩
instance : Fun Try.prog 125 := ⟨fun args w => Try.call125 args w⟩
instance : Fun Try.prog 126 := ⟨fun args w => Try.call126 args w⟩
instance : Fun Try.prog 127 := ⟨fun args w => Try.call127 args w⟩
instance : Fun Try.prog 128 := ⟨fun args w => Try.call128 args w⟩
instance : Fun Try.prog 129 := ⟨fun args w => Try.call129 args w⟩
instance : Fun Try.prog 130 := ⟨fun args w => Try.call130 args w⟩

end Go.Rost
