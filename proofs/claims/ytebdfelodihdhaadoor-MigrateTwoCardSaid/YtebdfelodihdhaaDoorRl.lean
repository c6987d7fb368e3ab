/- Rows whose program has the one sentinel laid; a state as it is handed. -/
import Derived.Test.YtebdfelodihdhaaDoorRw
import Derived.Test.YtebdfelodihdhaaDoorMq
import Derived.Test.YtebdfelodihdhaaDoorTie
import Derived.Test.YtebdfelodihdhaaDoorCards
import Derived.ChangeSame
import Derived.ChangeVars
import Derived.LaidLaws
import Derived.LaidSub
import Derived.SevenTiedAt
namespace Go.Rost
open Go Go.RowKit Go.Proofs Go.ChangeShapes Go.WideShapes

set_option maxRecDepth 100000
abbrev laidL : List (String × DataW Unit) := [("rostrum/registry.errForm", Go.Proofs.YtebdfelodihdhaaDoor.Rows.laid_rostrum_registry_errForm)]
theorem gl_name : Tryd.prog.globalNamed "rostrum/registry.errForm" = some 0 := by kernel_rfl
theorem gl_type : (Tryd.prog.globals[0]?).map (·.type) = some 66 := by kernel_rfl
theorem gl_tn : Tryd.prog.typeName? 3 160 = some "*errors.errorString" := by kernel_rfl
theorem gl_star : "*" ++ "errors.errorString" = "*errors.errorString" := by decide
theorem gl_row (u : TypeId) (h : Tryd.prog.typeName? 3 u = some "*errors.errorString") : u = 160 :=
  typeName_ptr_named (nm := "errors.errorString") (by rw [gl_star]; kernel_rfl) (by kernel_rfl) (by decide) u (by rw [gl_star]; exact h)
theorem errForm_of_laid {W : World} (h : laidMet Tryd.prog laidL W) : ∃ a, RdBlk (At W []) 0 #[errF a] := by
  obtain ⟨ps, ⟨g0, t0, cs0, f0, p0, q0, hg0, ht0, hv0, hd0, hq0, e0⟩, hnd, hrows⟩ := h
  obtain rfl := Option.some.inj (gl_name.symm.trans hg0)
  obtain rfl := Option.some.inj (gl_type.symm.trans ht0)
  subst e0
  obtain ⟨l0⟩ := cs0
  have hsz : l0 ≠ [] := by
    rintro rfl
    obtain ⟨f1, u, v, e, _⟩ := iface_of_trod (P := Tryd.prog) Tryd.underlying66 hd0
    cases e
  have hin : MemPlace.cell 0 0 ∈ MemPlace.row ⟨0, 0, none⟩ (⟨l0⟩ : Array Value).size ++ p0 ++ q0 := by
    cases l0 with
    | nil => exact absurd rfl hsz
    | cons x l => simp [MemPlace.row]
  have ok0 : ∀ u v, l0 = [.iface u v] → Value.okWide Tryd.prog W .any 0 u v := fun u v e => by
    subst e
    exact (hrows 0 0 hin).2 u v (by simpa using World.var?_cell hg0 hv0 0)
  obtain ⟨a0, s0, rfl, hc0, hs0, hz0, rfl⟩ := errorString_of_trod (P := Tryd.prog) Tryd.underlying66 gl_row Tryd.underlying160 Tryd.underlying183 rfl rfl Tryd.underlying9 (by kernel_rfl) (by kernel_rfl) hd0 ok0
  obtain ⟨c, t, hc⟩ := (hrows 0 0 hin).1
  have hcell : W.cell? ⟨0, 0, none⟩ = some (.iface 160 (.pointer (some a0))) := by simpa using World.var?_cell hg0 hv0 0
  have hlt := (Array.getElem?_eq_some_iff.1 hc).1
  have hcs : c = #[errF a0] := by
    have := hv0
    unfold World.var? at this
    rw [hg0] at this
    simp only [Option.bind_some, hc] at this
    exact Option.some.inj this
  refine ⟨a0, fun w hw => ⟨t, (0, 0), ?_⟩⟩
  rw [hw.1.block 0 hlt, hc, hcs]
abbrev noStateB : ByteArray := { data := #[110, 111, 32, 115, 117, 99, 104, 32, 115, 116, 97, 116, 101] }
noncomputable def low : Nat := (World.holding Tryd.prog default ⟨#[], #[], []⟩).heap.size
noncomputable def laidWorld (os : Os) : World :=
  let w0 := World.holding Tryd.prog os ⟨#[.cells #[.string noStateB] 183], #[], []⟩
  { w0 with heap := w0.heap.modify 0 fun
      | .cells _ t frozen => .cells #[.iface 160 (.pointer (some ⟨low, 0, none⟩))] t frozen
      | o => o }
theorem laidWorld_met (os : Os) (args : Array Value) : laidMet Tryd.prog laidL ((laidWorld os).forCall (fun _ _ => 0) ⟨#[], args, []⟩).memory :=
  laidMet_of_run (ps := [.cell 0 0, .cell low 0]) 8 (by kernel_rfl) (by kernel_rfl) (by kernel_rfl)
/-- A state as it is handed. -/
structure Sta.wf (m : Sta) : Prop where
  v0 : -9223372036854775808 ≤ m.ver
  v1 : m.ver ≤ 9223372036854775807
  c0 : 0 ≤ m.cnt
  c1 : m.cnt ≤ 4294967295
  d : m.data.size ≤ maxLen
theorem trod_sta {H : Type} {enc : TypeId × Value → H} {W : World} {sp : Nat → Bool} {held : Bool} {fuel : Nat} {cs : List Value} {y : DataW H × List MemPlace} (hl : cs.length = 3) (h : DataW.trod enc Tryd.prog W 0 sp held fuel 24 cs = some y) :
    ∃ m : Sta, m.wf ∧ cs = m.cells := by
  obtain ⟨c0, c1, c2, rfl⟩ : ∃ a b c, cs = [a, b, c] := by
    match cs, hl with
    | [a, b, c], _ => exact ⟨a, b, c, rfl⟩
  obtain ⟨fuel', k⟩ := trod_struct Tryd.underlying24 h
  obtain ⟨z0, h0⟩ := k 0 _ rfl
  obtain ⟨z1, h1⟩ := k 1 _ rfl
  obtain ⟨z2, h2⟩ := k 2 _ rfl
  dsimp only at h0 h1 h2
  rw [show Tryd.prog.cellsOf 3 = 1 by kernel_rfl] at h0
  rw [show Tryd.prog.cellsOf 22 = 1 by kernel_rfl] at h1
  rw [show Tryd.prog.cellsOf 9 = 1 by kernel_rfl] at h2
  obtain ⟨v, rfl, hv⟩ := trod_int (c := c0) Tryd.underlying3 h0
  obtain ⟨c, rfl, hc⟩ := trod_int (c := c1) Tryd.underlying22 h1
  obtain ⟨s, rfl, hs⟩ := trod_string (c := c2) Tryd.underlying9 h2
  exact ⟨⟨v, c, s⟩, ⟨(lit_i64 hv).1, (lit_i64 hv).2, (lit_u32 hc).1, (lit_u32 hc).2, hs⟩, rfl⟩
theorem handed_sta {H : Type} {enc : TypeId × Value → H} {W : World} {base : Nat} {v : Value} {d : DataW H} {ps : List MemPlace} (hv : Value.okWide Tryd.prog W .any base 24 v) (h : DataW.Trod enc Tryd.prog W 0 (fun _ => true) true 24 v d ps) : ∃ m : Sta, m.wf ∧ v = m.v := by
  obtain ⟨cs, rfl, hl⟩ := okWide_struct Tryd.underlying24 hv
  rw [show Tryd.prog.cellsOf 24 = 3 by kernel_rfl] at hl
  obtain ⟨fuel, h⟩ := h
  obtain ⟨m, hw, e⟩ := trod_sta (by rw [Value.cells, Array.length_toList]; exact hl) h
  refine ⟨m, hw, ?_⟩
  show Value.agg cs = .agg m.cells.toArray
  rw [← e]
  rfl
end Go.Rost
