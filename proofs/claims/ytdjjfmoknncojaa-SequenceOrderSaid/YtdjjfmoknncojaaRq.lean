/- Acts and ways of layer 11; numbered messages: as they are handed in rows. -/
import Derived.Test.YtdjjfmoknncojaaRz
import Derived.Test.YtdjjfmoknncojaaLFol
import Derived.Test.YtdjjfmoknncojaaY11
namespace Go.Rost
open Go Go.RowKit Go.Proofs Go.ChangeShapes Go.WideShapes Go.ChangeAt
open Go.ChangeMaps (open_string shut_string)

structure Numb.wf (x : Numb) : Prop where
  e0 : 0 ≤ x.e
  e1 : x.e ≤ 4294967295
  n0 : 0 ≤ x.n
  n1 : x.n ≤ 4294967295
  m : x.m.wf
set_option maxRecDepth 100000 in
theorem trod_numb {H : Type} {enc : TypeId × Value → H} {W : World} {sp : Nat → Bool} {held : Bool} {fuel : Nat} {cs : List Value} {y : DataW H × List MemPlace} (hl : cs.length = 5) (h : DataW.trod enc Try.prog W 0 sp held fuel 51 cs = some y) :
    ∃ x : Numb, x.wf ∧ cs = x.cells := by
  obtain ⟨c0, c1, c2, c3, c4, rfl⟩ : ∃ a b c d e, cs = [a, b, c, d, e] := by
    match cs, hl with
    | [a, b, c, d, e], _ => exact ⟨a, b, c, d, e, rfl⟩
  obtain ⟨fuel', k⟩ := trod_struct Try.underlying51 h
  obtain ⟨z0, h0⟩ := k 0 _ rfl
  obtain ⟨z1, h1⟩ := k 1 _ rfl
  obtain ⟨z2, h2⟩ := k 2 _ rfl
  dsimp only at h0 h1 h2
  rw [show Try.prog.cellsOf 30 = 1 by kernel_rfl] at h0 h1
  rw [show Try.prog.cellsOf 34 = 3 by kernel_rfl] at h2
  obtain ⟨f, rfl, hf⟩ := trod_int (c := c0) Try.underlying30 h0
  obtain ⟨g, rfl, hg⟩ := trod_int (c := c1) Try.underlying30 h1
  obtain ⟨m, hm, em⟩ := trod_msg (cs := [c2, c3, c4]) rfl h2
  have hf' := lit_u32 hf
  have hg' := lit_u32 hg
  refine ⟨⟨f, g, m⟩, ⟨hf'.1, hf'.2, hg'.1, hg'.2, hm⟩, ?_⟩
  rw [em]
  rfl
set_option maxRecDepth 100000 in
theorem trod_actS {H : Type} {enc : TypeId × Value → H} {W : World} {sp : Nat → Bool} {held : Bool} {fuel : Nat} {cs : List Value} {y : DataW H × List MemPlace} (hl : cs.length = 6) (h : DataW.trod enc Try.prog W 0 sp held fuel 53 cs = some y) :
    ∃ a : ActS, a.x.wf ∧ cs = Enc.enc a := by
  obtain ⟨c0, c1, c2, c3, c4, c5, rfl⟩ : ∃ a b c d e f, cs = [a, b, c, d, e, f] := by
    match cs, hl with
    | [a, b, c, d, e, f], _ => exact ⟨a, b, c, d, e, f, rfl⟩
  obtain ⟨fuel', k⟩ := trod_struct Try.underlying53 h
  obtain ⟨z0, h0⟩ := k 0 _ rfl
  obtain ⟨z1, h1⟩ := k 1 _ rfl
  dsimp only at h0 h1
  rw [show Try.prog.cellsOf 4 = 1 by kernel_rfl] at h0
  rw [show Try.prog.cellsOf 51 = 5 by kernel_rfl] at h1
  obtain ⟨b, rfl⟩ := trod_bool (c := c0) Try.underlying4 h0
  obtain ⟨x, hx, ex⟩ := trod_numb (cs := [c1, c2, c3, c4, c5]) rfl h1
  refine ⟨⟨b, x⟩, hx, ?_⟩
  rw [ex]
  rfl
instance : ArgE Try.prog 53 ActS := ⟨fun a => a.x.wf, by kernel_rfl, fun hl h => trod_actS hl h⟩
set_option maxRecDepth 100000 in
theorem trod_way {H : Type} {enc : TypeId × Value → H} {W : World} {sp : Nat → Bool} {held : Bool} {fuel : Nat} {cs : List Value} {y : DataW H × List MemPlace} (hl : cs.length = 2) (h : DataW.trod enc Try.prog W 0 sp held fuel 84 cs = some y) :
    ∃ a : WayS, (-9223372036854775808 ≤ a.at_ ∧ a.at_ ≤ 9223372036854775807) ∧ cs = Enc.enc a := by
  obtain ⟨c0, c1, rfl⟩ : ∃ a b, cs = [a, b] := by
    match cs, hl with
    | [a, b], _ => exact ⟨a, b, rfl⟩
  obtain ⟨fuel', k⟩ := trod_struct Try.underlying84 h
  obtain ⟨z0, h0⟩ := k 0 _ rfl
  obtain ⟨z1, h1⟩ := k 1 _ rfl
  dsimp only at h0 h1
  rw [show Try.prog.cellsOf 4 = 1 by kernel_rfl] at h0
  rw [show Try.prog.cellsOf 3 = 1 by kernel_rfl] at h1
  obtain ⟨b, rfl⟩ := trod_bool (c := c0) Try.underlying4 h0
  obtain ⟨n, rfl, hn⟩ := trod_int (c := c1) Try.underlying3 h1
  exact ⟨⟨b, n⟩, lit_i64 hn, rfl⟩
instance : ArgE Try.prog 84 WayS := ⟨fun a => -9223372036854775808 ≤ a.at_ ∧ a.at_ ≤ 9223372036854775807, by kernel_rfl, fun hl h => trod_way hl h⟩
set_option maxRecDepth 100000 in
theorem handed_numb {H : Type} {enc : TypeId × Value → H} {W : World} {base : Nat} {v : Value} {d : DataW H} {ps : List MemPlace} (hv : Value.okWide Try.prog W .any base 51 v) (h : DataW.Trod enc Try.prog W 0 (fun _ => true) true 51 v d ps) :
    ∃ x : Numb, x.wf ∧ v = x.v := by
  obtain ⟨cs, rfl, hl⟩ := okWide_struct Try.underlying51 hv
  rw [show Try.prog.cellsOf 51 = 5 by kernel_rfl] at hl
  obtain ⟨fuel, h⟩ := h
  obtain ⟨x, hw, e⟩ := trod_numb (by rw [Value.cells, Array.length_toList]; exact hl) h
  refine ⟨x, hw, ?_⟩
  show Value.agg cs = .agg x.cells.toArray
  rw [← e]
  rfl
end Go.Rost
