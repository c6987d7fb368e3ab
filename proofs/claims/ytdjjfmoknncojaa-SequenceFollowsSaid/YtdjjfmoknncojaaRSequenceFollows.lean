/- The row of the law SequenceFollows: from its contract to what is said. -/
import Derived.Test.YtdjjfmoknncojaaRw
import Derived.Test.YtdjjfmoknncojaaLFol
import Derived.Test.YtdjjfmoknncojaaRq
namespace Go.Proofs.Ytdjjfmoknncojaa.sequenceFollowsRow
open Go Go.Rost Go.RowKit Go.ChangeShapes Go.WideShapes Go.ChangeAt
open Go.ChangeMaps (open_string shut_string)
set_option maxRecDepth 100000 in
theorem lifted (os : Os) (started : os.Started) (H : Type) (enc : TypeId × Value → H) :
    ReturnsInHanded {} Try.checked os 5 .any (Rows.sequenceFollowsSpec.pre6 enc Try.prog Try.f5 Rows.sequenceFollowsRow.domain false) (Rows.sequenceFollowsSpec.post enc Try.prog Try.f5 false true false false) := by
  refine returnsInHanded_of_change_sized (C := Try.checked) own started (by kernel_rfl) Try.func5
    (ChangeSpec.witness6 (enc := enc) (C := Try.checked) false ⟨#[], #[.int .u32 0, .slice none 0 0], []⟩ 8 (by kernel_rfl) (by kernel_rfl) (by kernel_rfl) (by kernel_rfl)) ?_
  intro W base args ds gs before hval0 hW hcnd hsz0 _
  have hval : ∀ (j : Nat) t v, Try.f5.params[j]? = some t → args[j]? = some v → Value.okWide Try.prog W .any base t v := hval0
  have hW' := hW
  obtain ⟨p, q, hA0, hV, rfl, hfz, hnd⟩ := hW
  have hA : DataW.TrodAll enc Try.prog W 0 (fun _ => true) true Try.f5.params.toList args.toList ds p := hA0
  rw [Try.params5] at hA hval
  have hA1 := hA
  obtain ⟨v0, vs0, d0, ds0, p0, q0, hargs, rfl, rfl, h0, r0⟩ := trodAll_cons hA
  obtain ⟨v1, vs1, d1, ds1, p1, q1, rfl, rfl, rfl, h1, r1⟩ := trodAll_cons r0
  obtain ⟨rfl, rfl, rfl⟩ := trodAll_nil r1
  obtain rfl : args = #[v0, v1] := by cases args; simp_all
  obtain ⟨rfl, rfl⟩ := trodVars_none hV
  obtain ⟨a0, rfl, rfl, rfl, w0⟩ := open_int Try.underlying30 (hval 0 30 v0 rfl rfl) h0
  obtain ⟨l1, hl1⟩ := handed_slice (α := ActS) Try.underlying43 (hval 1 43 v1 rfl rfl) h1
  obtain ⟨a1, c1, e, hle1, hmax1, hwf1, hr1, hn1⟩ := hl1.call
  subst e
  refine (Call.told (SequenceFollows_c W a0 a1 c1 l1 hr1 (fun a ha => (hwf1 a ha).n0)) (fun v H k => k)).mono fun e W' ⟨he, bel⟩ => ?_
  subst he
  exact ⟨_, rfl, _, _, _, [], _, [], hW', trodAll_mk1 (RowKit.shut_bool Try.underlying4 _), back laidOut (by kernel_rfl) hA1 bel, rfl, bel.frame _, fun h => by cases h⟩
theorem over : Rows.sequenceFollowsRow.holds Try.pinned (OpenSpec.ofChange Rows.sequenceFollowsSpec) :=
  OpenClaim.holds_of_wide 5 Try.f5 rfl rfl rfl rfl rfl rfl rfl ⟨rfl, rfl, rfl, rfl, rfl⟩ rfl rfl rfl rfl rfl (by kernel_rfl) Try.func5 (by kernel_rfl)
    (of_decide_eq_true (by kernel_rfl)) (by unfold Func.isWrapper; first | (rw [if_pos (by decide +kernel)]; kernel_rfl) | (rw [if_neg (by decide +kernel)]; exact ⟨rfl, rfl⟩))
    (fun os started H enc _ => lifted os started H enc)
end Go.Proofs.Ytdjjfmoknncojaa.sequenceFollowsRow
namespace Go.Proofs.Ytdjjfmoknncojaa
/-- The law SequenceFollows holds. -/
theorem sequenceFollows_holds : Rows.SequenceFollowsSaid := sequenceFollowsRow.over
#print axioms sequenceFollows_holds
end Go.Proofs.Ytdjjfmoknncojaa

