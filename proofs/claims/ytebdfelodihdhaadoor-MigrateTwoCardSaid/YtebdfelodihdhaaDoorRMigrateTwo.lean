/- The row and the card of the law MigrateTwo: from its contract to what is said. -/
import Derived.Test.YtebdfelodihdhaaDoorRl
import Derived.Test.YtebdfelodihdhaaDoorLTw
import Derived.Test.YtebdfelodihdhaaDoorRx
import Derived.Test.YtebdfelodihdhaaDoorRa
namespace Go.Proofs.YtebdfelodihdhaaDoor.migrateTwoRow
open Go Go.Rost Go.RowKit Go.ChangeShapes Go.WideShapes Go.ChangeAt
open Go.ChangeMaps (open_string shut_string)
set_option maxRecDepth 100000 in
theorem lifted (os : Os) (started : os.Started) (H : Type) (enc : TypeId × Value → H) :
    ReturnsInHanded {} Tryd.checked os 10 .any (fun w args => (Rows.migrateTwoSpec.pre enc Tryd.prog Tryd.f10 Rows.migrateTwoRow.domain false w args ∧ laidMet Tryd.prog laidL w) ∧ sizedMet enc Tryd.prog Tryd.f10 (OpenSpec.ofChange Rows.migrateTwoSpec) false w args) (Rows.migrateTwoSpec.post enc Tryd.prog Tryd.f10 false true false false) := by
  refine returnsInHanded_of_change_and (C := Tryd.checked) (X := fun w _ => laidMet Tryd.prog laidL w) (fun _ _ _ hh h => h.of_heap hh) own started (by kernel_rfl) Tryd.func10
    (ChangeSpec.witness_at (enc := enc) (C := Tryd.checked) (os := os) (X := fun w _ => laidMet Tryd.prog laidL w) false (laidWorld os) #[.int .i64 0, .slice none 0 0, .slice none 0 0] 8 rfl (by kernel_rfl) (by kernel_rfl) (by kernel_rfl) (by kernel_rfl) (by kernel_rfl) (laidWorld_met os _)) ?_
  intro W base args ds gs before hval0 hW _ _ hL _
  have hval : ∀ (j : Nat) t v, Tryd.f10.params[j]? = some t → args[j]? = some v → Value.okWide Tryd.prog W .any base t v := hval0
  obtain ⟨ga, hg⟩ := errForm_of_laid hL
  have hW' := hW
  obtain ⟨p, q, hA0, hV, rfl, hfz, hnd⟩ := hW
  have hA : DataW.TrodAll enc Tryd.prog W 0 (fun _ => true) true Tryd.f10.params.toList args.toList ds p := hA0
  rw [Tryd.params10] at hA hval
  have hA1 := hA
  obtain ⟨v0, vs0, d0, ds0, p0, q0, hargs, rfl, rfl, h0, r0⟩ := trodAll_cons hA
  obtain ⟨v1, vs1, d1, ds1, p1, q1, rfl, rfl, rfl, h1, r1⟩ := trodAll_cons r0
  obtain ⟨v2, vs2, d2, ds2, p2, q2, rfl, rfl, rfl, h2, r2⟩ := trodAll_cons r1
  obtain ⟨rfl, rfl, rfl⟩ := trodAll_nil r2
  obtain rfl : args = #[v0, v1, v2] := by cases args; simp_all
  obtain ⟨rfl, rfl⟩ := trodVars_none hV
  obtain ⟨a0, rfl, rfl, rfl, w0⟩ := open_int Tryd.underlying3 (hval 0 3 v0 rfl rfl) h0
  obtain ⟨l1, hl1⟩ := handed_sliceW (α := ActP) Tryd.underlying39 (hval 1 39 v1 rfl rfl) h1
  obtain ⟨a1, c1, e, hle1, hmax1, hwf1, hr1, hn1⟩ := hl1.call
  subst e
  obtain ⟨l2, hl2⟩ := handed_slice (α := Bool) Tryd.underlying40 (hval 2 40 v2 rfl rfl) h2
  obtain ⟨a2, c2, e, hle2, hmax2, hwf2, hr2, hn2⟩ := hl2.call
  subst e
  refine (Call.told (MigrateTwo_c W ga hg a0 a1 c1 l1 a2 c2 l2 hr1 (fun y hy => EntP.wf.ok (hwf1 y hy)) hr2) (fun v H k => k)).mono fun e W' ⟨he, bel⟩ => ?_
  subst he
  exact ⟨_, rfl, _, _, _, [], _, [], hW', trodAll_mk1 (RowKit.shut_bool Tryd.underlying4 _), back laidOut (by kernel_rfl) hA1 bel, rfl, bel.frame _, fun h => by cases h⟩
theorem over : Rows.migrateTwoRow.holds Tryd.pinned (OpenSpec.ofChange Rows.migrateTwoSpec) :=
  OpenClaim.holds_of_wide 10 Tryd.f10 rfl rfl rfl rfl rfl rfl rfl ⟨rfl, rfl, rfl, rfl, rfl⟩ rfl rfl rfl rfl rfl (by kernel_rfl) Tryd.func10 (by kernel_rfl)
    (of_decide_eq_true (by kernel_rfl)) (by unfold Func.isWrapper; first | (rw [if_pos (by decide +kernel)]; kernel_rfl) | (rw [if_neg (by decide +kernel)]; exact ⟨rfl, rfl⟩))
    (fun os started H enc _ => lifted os started H enc)
end Go.Proofs.YtebdfelodihdhaaDoor.migrateTwoRow
namespace Go.Proofs.YtebdfelodihdhaaDoor
open Go
/-- The law MigrateTwo holds. -/
theorem migrateTwo_holds : Rows.MigrateTwoCardSaid :=
  Claim7.holds_tied_plain_at .later [] [.sentinel] true (true, "6f8588457fc7e26d610d056b3cd6dc5b76b1f96c237b1e6a2a4db3c5bbcec864") true
    migrateTwoRow.over (fun _ h => by cases h) (by kernel_rfl) (fun _ h => by cases h) migrateTwo_row_tie rfl ⟨rfl, rfl⟩ (by kernel_rfl) rfl
    (fun f fn hf hfn => by
      obtain rfl : f = 10 := Option.some.inj ((show Tryd.prog.funcNamed "rostrum/rostrumlaw15.MigrateTwo" = some 10 by kernel_rfl).symm.trans hf) |>.symm
      obtain rfl : fn = Tryd.f10 := (Option.some.inj (Tryd.func10.symm.trans hfn)).symm
      exact ⟨by kernel_rfl, fun j t ht => by
        rw [Tryd.params10] at ht
        rcases j with _ | _ | _ | j <;> simp at ht <;> subst ht <;> kernel_rfl⟩)
    (by kernel_rfl)
#print axioms migrateTwo_holds
end Go.Proofs.YtebdfelodihdhaaDoor

