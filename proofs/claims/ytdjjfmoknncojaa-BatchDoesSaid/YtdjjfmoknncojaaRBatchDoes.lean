/- The row of the law BatchDoes: from its contract to what is said. -/
import Derived.Test.YtdjjfmoknncojaaRw
import Derived.Test.YtdjjfmoknncojaaBdo
import Derived.Test.YtdjjfmoknncojaaRb
namespace Go.Proofs.Ytdjjfmoknncojaa.batchDoesRow
open Go Go.Rost Go.RowKit Go.ChangeShapes Go.WideShapes Go.ChangeAt
open Go.ChangeMaps (open_string shut_string)
set_option maxRecDepth 100000 in
theorem lifted (os : Os) (started : os.Started) (H : Type) (enc : TypeId × Value → H) :
    ReturnsInHanded {} Try.checked os 7 .any (Rows.batchDoesSpec.pre6 enc Try.prog Try.f7 Rows.batchDoesRow.domain false) (Rows.batchDoesSpec.post enc Try.prog Try.f7 false true false false) := by
  refine returnsInHanded_of_change_sized (C := Try.checked) own started (by kernel_rfl) Try.func7
    (ChangeSpec.witness6 (enc := enc) (C := Try.checked) false ⟨#[], #[.slice none 0 0, .agg #[.int .i64 0, .int .u32 0]], []⟩ 8 (by kernel_rfl) (by kernel_rfl) (by kernel_rfl) (by kernel_rfl)) ?_
  intro W base args ds gs before hval0 hW hcnd hsz0 _
  have hval : ∀ (j : Nat) t v, Try.f7.params[j]? = some t → args[j]? = some v → Value.okWide Try.prog W .any base t v := hval0
  have hW' := hW
  obtain ⟨p, q, hA0, hV, rfl, hfz, hnd⟩ := hW
  have hA : DataW.TrodAll enc Try.prog W 0 (fun _ => true) true Try.f7.params.toList args.toList ds p := hA0
  rw [Try.params7] at hA hval
  have hA1 := hA
  obtain ⟨v0, vs0, d0, ds0, p0, q0, hargs, rfl, rfl, h0, r0⟩ := trodAll_cons hA
  obtain ⟨v1, vs1, d1, ds1, p1, q1, rfl, rfl, rfl, h1, r1⟩ := trodAll_cons r0
  obtain ⟨rfl, rfl, rfl⟩ := trodAll_nil r1
  obtain rfl : args = #[v0, v1] := by cases args; simp_all
  obtain ⟨rfl, rfl⟩ := trodVars_none hV
  obtain ⟨l0, hl0⟩ := handed_sliceW (α := ActB) Try.underlying63 (hval 0 63 v0 rfl rfl) h0
  obtain ⟨a0, c0, e, hle0, hmax0, hwf0, hr0, hn0⟩ := hl0.call
  subst e
  obtain ⟨a1, w1, rfl⟩ := handed_id (hval 1 32 v1 rfl rfl) h1
  refine (Call.told (BatchDoes_c W a0 c0 l0 a1 hr0 (fun x hx => ActB.wf.ok (hwf0 x hx))) (fun v H k => k)).mono fun e W' ⟨he, bel⟩ => ?_
  subst he
  exact ⟨_, rfl, _, _, _, [], _, [], hW', trodAll_mk1 (RowKit.shut_bool Try.underlying4 _), back laidOut (by kernel_rfl) hA1 bel, rfl, bel.frame _, fun h => by cases h⟩
theorem over : Rows.batchDoesRow.holds Try.pinned (OpenSpec.ofChange Rows.batchDoesSpec) :=
  OpenClaim.holds_of_wide 7 Try.f7 rfl rfl rfl rfl rfl rfl rfl ⟨rfl, rfl, rfl, rfl, rfl⟩ rfl rfl rfl rfl rfl (by kernel_rfl) Try.func7 (by kernel_rfl)
    (of_decide_eq_true (by kernel_rfl)) (by unfold Func.isWrapper; first | (rw [if_pos (by decide +kernel)]; kernel_rfl) | (rw [if_neg (by decide +kernel)]; exact ⟨rfl, rfl⟩))
    (fun os started H enc _ => lifted os started H enc)
end Go.Proofs.Ytdjjfmoknncojaa.batchDoesRow
namespace Go.Proofs.Ytdjjfmoknncojaa
/-- The law BatchDoes holds. -/
theorem batchDoes_holds : Rows.BatchDoesSaid := batchDoesRow.over
#print axioms batchDoes_holds
end Go.Proofs.Ytdjjfmoknncojaa

