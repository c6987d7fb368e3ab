/- Acts of layer 12, as they are handed in rows. -/
import Derived.Test.YtdjjfmoknncojaaRz
import Derived.Test.YtdjjfmoknncojaaBo
namespace Go.Rost
open Go Go.RowKit Go.Proofs Go.ChangeShapes Go.WideShapes Go.ChangeAt
open Go.ChangeMaps (open_string shut_string)

structure ActB.wf (W : World) (x : ActB) : Prop where
  ms : Reads Msg.wf W (.slice x.p x.ms.length x.c) x.ms
  k0 : -9223372036854775808 ≤ x.do_
  k1 : x.do_ ≤ 9223372036854775807
  n0 : -9223372036854775808 ≤ x.n
  n1 : x.n ≤ 9223372036854775807
theorem ActB.wf.ok {W : World} {x : ActB} (h : x.wf W) : x.Ok W := by
  obtain ⟨p, cap, e, hle, _, _, hr, _⟩ := h.ms.call
  cases e
  exact ⟨hr, hle⟩
set_option maxRecDepth 100000 in
theorem trod_actB {H : Type} {enc : TypeId × Value → H} {W : World} {fuel : Nat} {cs : List Value} {y : DataW H × List MemPlace} (hl : cs.length = 3) (h : DataW.trod enc Try.prog W 0 (fun _ => true) true fuel 71 cs = some y) :
    ∃ x : ActB, x.wf W ∧ cs = [.int .i64 x.do_, .int .i64 x.n, .slice x.p x.ms.length x.c] := by
  obtain ⟨c0, c1, c2, rfl⟩ : ∃ a b c, cs = [a, b, c] := by
    match cs, hl with
    | [a, b, c], _ => exact ⟨a, b, c, rfl⟩
  obtain ⟨fuel', k⟩ := trod_struct Try.underlying71 h
  obtain ⟨z0, h0⟩ := k 0 _ rfl
  obtain ⟨z1, h1⟩ := k 1 _ rfl
  obtain ⟨z2, h2⟩ := k 2 _ rfl
  dsimp only at h0 h1 h2
  rw [show Try.prog.cellsOf 3 = 1 by kernel_rfl] at h0 h1
  rw [show Try.prog.cellsOf 22 = 1 by kernel_rfl] at h2
  obtain ⟨f, rfl, hf⟩ := trod_int (c := c0) Try.underlying3 h0
  obtain ⟨g, rfl, hg⟩ := trod_int (c := c1) Try.underlying3 h1
  have h2' : DataW.trod enc Try.prog W 0 (fun _ => true) true fuel' 22 [c2] = some z2 := h2
  obtain ⟨a, len, cap, rfl⟩ := trod_slice_shape Try.underlying22 h2'
  obtain ⟨l, hm⟩ := trod_slice (α := Msg) Try.underlying22 h2'
  have hlen := hm.len
  subst hlen
  have hf' := lit_i64 hf
  have hg' := lit_i64 hg
  exact ⟨⟨f, g, l, a, cap⟩, ⟨hm, hf'.1, hf'.2, hg'.1, hg'.2⟩, rfl⟩
instance : ArgW Try.prog 71 ActB := ⟨fun W x => x.wf W, by kernel_rfl, fun hl h => trod_actB hl h⟩
set_option maxRecDepth 100000 in
theorem handed_id {H : Type} {enc : TypeId × Value → H} {W : World} {base : Nat} {v : Value} {d : DataW H} {ps : List MemPlace} (hv : Value.okWide Try.prog W .any base 32 v) (h : DataW.Trod enc Try.prog W 0 (fun _ => true) true 32 v d ps) :
    ∃ i : Id, True ∧ v = i.v := by
  obtain ⟨cs, rfl, hl⟩ := okWide_struct Try.underlying32 hv
  rw [show Try.prog.cellsOf 32 = 2 by kernel_rfl] at hl
  obtain ⟨fuel, h⟩ := h
  obtain ⟨c0, c1, e⟩ : ∃ c0 c1, cs = #[c0, c1] := by
    obtain ⟨l⟩ := cs
    match l, hl with
    | [a, b], _ => exact ⟨a, b, rfl⟩
  subst e
  obtain ⟨f, c, rfl, rfl, _⟩ := trod_id (c0 := c0) (c1 := c1) h
  exact ⟨⟨f, c⟩, trivial, rfl⟩
end Go.Rost
