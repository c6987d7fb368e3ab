/- Entries with whether migration fails, and truth values, as they are handed in rows. -/
import Derived.Test.YtebdfelodihdhaaDoorRx
import Derived.Test.YtebdfelodihdhaaDoorLTw
namespace Go.Rost
open Go Go.RowKit Go.Proofs Go.ChangeShapes Go.WideShapes Go.ChangeAt
open Go.ChangeMaps (open_string shut_string)

theorem trod_bool {H : Type} {enc : TypeId × Value → H} {P : Program} {W : World} {sp : Nat → Bool} {held : Bool} {t : TypeId} {fuel : Nat} {c : Value} {y : DataW H × List MemPlace} (hu : P.underlying t = some .bool) (h : DataW.trod enc P W 0 sp held fuel t [c] = some y) : ∃ b, c = .bool b := by
  cases fuel with
  | zero => cases h
  | succ fuel =>
    unfold DataW.trod at h; simp only [hu] at h
    cases c <;> simp at h
    rename_i b
    exact ⟨b, rfl⟩
set_option maxRecDepth 100000 in
theorem trod_act {H : Type} {enc : TypeId × Value → H} {W : World} {fuel : Nat} {cs : List Value} {y : DataW H × List MemPlace} (hl : cs.length = 5) (h : DataW.trod enc Tryd.prog W 0 (fun _ => true) true fuel 51 cs = some y) :
    ∃ x : ActP, x.x.wf W ∧ cs = x.cells := by
  obtain ⟨c0, c1, c2, c3, c4, rfl⟩ : ∃ a b c d e, cs = [a, b, c, d, e] := by
    match cs, hl with
    | [a, b, c, d, e], _ => exact ⟨a, b, c, d, e, rfl⟩
  obtain ⟨fuel', k⟩ := trod_struct Tryd.underlying51 h
  obtain ⟨z0, h0⟩ := k 0 _ rfl
  obtain ⟨z1, h1⟩ := k 1 _ rfl
  dsimp only at h0 h1
  rw [show Tryd.prog.cellsOf 48 = 4 by kernel_rfl] at h0
  rw [show Tryd.prog.cellsOf 4 = 1 by kernel_rfl] at h1
  have h0' : DataW.trod enc Tryd.prog W 0 (fun _ => true) true fuel' 48 [c0, c1, c2, c3] = some z0 := h0
  have h1' : DataW.trod enc Tryd.prog W 0 (fun _ => true) true fuel' 4 [c4] = some z1 := h1
  obtain ⟨x, hx, e⟩ := trod_ent rfl h0'
  obtain ⟨b, rfl⟩ := trod_bool Tryd.underlying4 h1'
  exact ⟨⟨x, b⟩, hx, by
    have e2 : [c0, c1, c2, c3, Value.bool b] = [c0, c1, c2, c3] ++ [.bool b] := rfl
    rw [e2, e]; rfl⟩
instance : ArgW Tryd.prog 51 ActP := ⟨fun W x => x.x.wf W, by kernel_rfl, fun hl h => trod_act hl h⟩
instance : ArgE Tryd.prog 4 Bool := ⟨fun _ => True, by kernel_rfl, fun {H enc W sp held fuel cs y} hl h => by
  match cs, hl with
  | [c], _ =>
    obtain ⟨b, rfl⟩ := trod_bool (P := Tryd.prog) (t := 4) (by kernel_rfl) h
    exact ⟨b, trivial, rfl⟩⟩
end Go.Rost
