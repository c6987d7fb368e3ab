/- Entries as they are handed. -/
import Derived.Test.YtebdfelodihdhaaDoorRz
import Derived.Test.YtebdfelodihdhaaDoorLe
namespace Go.Rost
open Go Go.RowKit Go.Proofs Go.ChangeShapes Go.WideShapes Go.ChangeAt
open Go.ChangeMaps (open_string shut_string)

structure EntP.wf (W : World) (x : EntP) : Prop where
  ms : Reads Msg.wf W (.slice x.p x.e.msgs.length x.c) x.e.msgs
  k0 : -9223372036854775808 ≤ x.e.kind
  k1 : x.e.kind ≤ 9223372036854775807
  e0 : 0 ≤ x.e.epoch
  e1 : x.e.epoch ≤ 4294967295
  v0 : -9223372036854775808 ≤ x.e.ver
  v1 : x.e.ver ≤ 9223372036854775807
theorem Reads.len {α : Type} [Enc α] {wf : α → Prop} {W : World} {a : Option Addr} {len cap : Nat} {l : List α} (h : Reads wf W (.slice a len cap) l) : len = l.length := by
  obtain ⟨p, c, e, _⟩ := h.out
  cases e
  rfl
theorem trod_ent {H : Type} {enc : TypeId × Value → H} {W : World} {fuel : Nat} {cs : List Value} {y : DataW H × List MemPlace} (hl : cs.length = 4) (h : DataW.trod enc Tryd.prog W 0 (fun _ => true) true fuel 48 cs = some y) :
    ∃ x : EntP, x.wf W ∧ cs = [.int .i64 x.e.kind, .int .u32 x.e.epoch, .int .i64 x.e.ver, .slice x.p x.e.msgs.length x.c] := by
  obtain ⟨c0, c1, c2, c3, rfl⟩ : ∃ a b c d, cs = [a, b, c, d] := by
    match cs, hl with
    | [a, b, c, d], _ => exact ⟨a, b, c, d, rfl⟩
  obtain ⟨fuel', k⟩ := trod_struct Tryd.underlying48 h
  obtain ⟨z0, h0⟩ := k 0 _ rfl
  obtain ⟨z1, h1⟩ := k 1 _ rfl
  obtain ⟨z2, h2⟩ := k 2 _ rfl
  obtain ⟨z3, h3⟩ := k 3 _ rfl
  dsimp only at h0 h1 h2 h3
  rw [show Tryd.prog.cellsOf 3 = 1 by kernel_rfl] at h0 h2
  rw [show Tryd.prog.cellsOf 22 = 1 by kernel_rfl] at h1
  rw [show Tryd.prog.cellsOf 44 = 1 by kernel_rfl] at h3
  obtain ⟨f, rfl, hf⟩ := trod_int (c := c0) Tryd.underlying3 h0
  obtain ⟨g, rfl, hg⟩ := trod_int (c := c1) Tryd.underlying22 h1
  obtain ⟨v, rfl, hv⟩ := trod_int (c := c2) Tryd.underlying3 h2
  have h3' : DataW.trod enc Tryd.prog W 0 (fun _ => true) true fuel' 44 [c3] = some z3 := h3
  obtain ⟨a, len, cap, rfl⟩ := trod_slice_shape Tryd.underlying44 h3'
  obtain ⟨l, hm⟩ := trod_slice (α := Msg) Tryd.underlying44 h3'
  have hlen := hm.len
  subst hlen
  have hf' := lit_i64 hf
  have hg' := lit_u32 hg
  have hv' := lit_i64 hv
  exact ⟨⟨⟨f, g, v, l⟩, a, cap⟩, ⟨hm, hf'.1, hf'.2, hg'.1, hg'.2, hv'.1, hv'.2⟩, rfl⟩
instance : ArgW Tryd.prog 48 EntP := ⟨fun W x => x.wf W, by kernel_rfl, fun hl h => trod_ent hl h⟩
set_option maxRecDepth 100000 in
theorem handed_ent {H : Type} {enc : TypeId × Value → H} {W : World} {base : Nat} {v : Value} {d : DataW H} {ps : List MemPlace} (hv : Value.okWide Tryd.prog W .any base 48 v) (h : DataW.Trod enc Tryd.prog W 0 (fun _ => true) true 48 v d ps) :
    ∃ x : EntP, x.wf W ∧ v = x.e.v x.p x.c := by
  obtain ⟨cs, rfl, hl⟩ := okWide_struct Tryd.underlying48 hv
  rw [show Tryd.prog.cellsOf 48 = 4 by kernel_rfl] at hl
  obtain ⟨fuel, h⟩ := h
  obtain ⟨x, hw, e⟩ := trod_ent (by rw [Value.cells, Array.length_toList]; exact hl) h
  refine ⟨x, hw, ?_⟩
  show Value.agg cs = .agg #[.int .i64 x.e.kind, .int .u32 x.e.epoch, .int .i64 x.e.ver, .slice x.p x.e.msgs.length x.c]
  have e' : cs.toList = [.int .i64 x.e.kind, .int .u32 x.e.epoch, .int .i64 x.e.ver, .slice x.p x.e.msgs.length x.c] := e
  rw [← Array.toArray_toList (xs := cs), e']
theorem EntP.wf.ok {W : World} {x : EntP} (h : x.wf W) : x.Ok W := by
  obtain ⟨p, cap, e, hle, _, _, hr, _⟩ := h.ms.call
  cases e
  exact ⟨hr, hle, h.e0⟩
end Go.Rost
