/- The head of the laws of layer 10. -/
import Derived.Test.YtdjjfmoknncojaaL10
namespace Go.Rost
open Go Go.RowKit Go.Proofs

def two : Msg := ⟨⟨3, 2⟩, ⟨#[98]⟩⟩
def one : Msg := ⟨⟨3, 1⟩, ⟨#[97]⟩⟩
theorem Shown10_c (W0 : World) (H : List Chunk) : Call Try.prog W0 18 [] H (fun v H' => v = .bool true ∧ H' = H) := by
  refine call_enter Try.func18 rfl Try.ntmps18 rfl ?_
  refine ct_seq (ct_region ?_)
  repeat (first | refine rs_ex rfl (by (first | (constructor <;> first | rfl | exact RdC.rd | exact inferInstance) | exact Ex.pickF rfl rfl | exact Ex.eqlS rfl rfl | exact Ex.neqS rfl rfl | exact Ex.eqlPN rfl rfl | exact Ex.neqPN rfl rfl | exact Ex.eqlSN rfl rfl | exact Ex.neqSN rfl rfl | exact Ex.lenStr rfl)) rfl ?_ | refine rs_skip rfl rfl ?_)
  refine rs_end (qe_then ?_)
  refine ct_seq (ct_region ?_)
  refine rs_op rfl rfl (opR_fn rfl ((New_c W0 _).mono ?_))
  rintro v H' ⟨b, rfl, rfl⟩
  repeat (first | refine rs_ex rfl (by (first | (constructor <;> first | rfl | exact RdC.rd | exact inferInstance) | exact Ex.pickF rfl rfl | exact Ex.eqlS rfl rfl | exact Ex.neqS rfl rfl | exact Ex.eqlPN rfl rfl | exact Ex.neqPN rfl rfl | exact Ex.eqlSN rfl rfl | exact Ex.neqSN rfl rfl | exact Ex.lenStr rfl)) rfl ?_ | refine rs_skip rfl rfl ?_)
  refine rs_end (qe_then ?_)
  refine ct_seq (ct_region ?_)
  refine rs_ex rfl (ex_build rfl) rfl ?_
  refine rs_ex rfl (ex_build rfl) rfl ?_
  refine rs_op rfl rfl (opR_alloc fun b2 => ?_)
  refine rs_opN rfl (opR_store rfl rfl rfl rfl ?_)
  refine rs_end (qe_then ?_)
  refine ct_seq (ct_region ?_)
  refine rs_ex rfl (ex_build rfl) rfl ?_
  refine rs_ex rfl (ex_build rfl) rfl ?_
  refine rs_op rfl rfl (opR_alloc fun b1 => ?_)
  refine rs_opN rfl (opR_store rfl rfl rfl rfl ?_)
  refine rs_end (qe_then ?_)
  refine ct_heap (fun w h => h.sw2) ?_
  have e1 : Book.new.takeErr two = 0 := by decide
  have t1 : Book.new.took two = [] := by decide +kernel
  obtain ⟨s1, hs1⟩ : ∃ s, s = Book.new.take two := ⟨_, rfl⟩
  have e2 : s1.takeErr one = 0 := by subst hs1; decide
  have t2 : s1.took one = [one, two] := by subst hs1; decide +kernel
  have l1 : s1.log.length + s1.waits.length ≤ 50000 := by subst hs1; decide +kernel
  obtain ⟨s2, hs2⟩ : ∃ s, s = s1.take one := ⟨_, rfl⟩
  have e3 : s2.takeErr Msg.zero = 100 := by show (if Msg.zero.right = true then (0 : Int) else 100) = 100; decide
  have l2 : s2.log.length + s2.waits.length ≤ 50000 := by subst hs2; subst hs1; decide +kernel
  obtain ⟨s3, hs3⟩ : ∃ s, s = s2.take Msg.zero := ⟨_, rfl⟩
  have n3 : s3.nextOf 3 = 3 := by subst hs3; subst hs2; subst hs1; decide +kernel
  refine ct_seq (ct_region ?_)
  repeat (first | refine rs_ex rfl (by (first | (constructor <;> first | rfl | exact RdC.rd | exact inferInstance) | exact Ex.pickF rfl rfl | exact Ex.eqlS rfl rfl | exact Ex.neqS rfl rfl | exact Ex.eqlPN rfl rfl | exact Ex.neqPN rfl rfl | exact Ex.eqlSN rfl rfl | exact Ex.neqSN rfl rfl | exact Ex.lenStr rfl)) rfl ?_ | refine rs_skip rfl rfl ?_)
  refine rs_op rfl rfl (opR_fn rfl ((Take_c W0 b Book.new two _ (by decide)).mono ?_))
  rw [e1, t1, ← hs1]
  rintro v H' ⟨u1, rfl, rfl⟩
  repeat (first | refine rs_ex rfl (by (first | (constructor <;> first | rfl | exact RdC.rd | exact inferInstance) | exact Ex.pickF rfl rfl | exact Ex.eqlS rfl rfl | exact Ex.neqS rfl rfl | exact Ex.eqlPN rfl rfl | exact Ex.neqPN rfl rfl | exact Ex.eqlSN rfl rfl | exact Ex.neqSN rfl rfl | exact Ex.lenStr rfl)) rfl ?_ | refine rs_skip rfl rfl ?_)
  refine rs_end (qe_then ?_)
  refine ct_heap (fun w h => h.sw1) ?_
  refine ct_seq (ct_region ?_)
  repeat (first | refine rs_ex rfl (by (first | (constructor <;> first | rfl | exact RdC.rd | exact inferInstance) | exact Ex.pickF rfl rfl | exact Ex.eqlS rfl rfl | exact Ex.neqS rfl rfl | exact Ex.eqlPN rfl rfl | exact Ex.neqPN rfl rfl | exact Ex.eqlSN rfl rfl | exact Ex.neqSN rfl rfl | exact Ex.lenStr rfl)) rfl ?_ | refine rs_skip rfl rfl ?_)
  refine rs_op rfl rfl (opR_fn rfl ((Take_c W0 b s1 one _ l1).mono ?_))
  rw [e2, t2, ← hs2]
  rintro v H' ⟨u2, rfl, rfl⟩
  repeat (first | refine rs_ex rfl (by (first | (constructor <;> first | rfl | exact RdC.rd | exact inferInstance) | exact Ex.pickF rfl rfl | exact Ex.eqlS rfl rfl | exact Ex.neqS rfl rfl | exact Ex.eqlPN rfl rfl | exact Ex.neqPN rfl rfl | exact Ex.eqlSN rfl rfl | exact Ex.neqSN rfl rfl | exact Ex.lenStr rfl)) rfl ?_ | refine rs_skip rfl rfl ?_)
  refine rs_end (qe_then ?_)
  refine ct_heap (fun w h => h.sw1) ?_
  refine ct_seq (ct_region ?_)
  repeat (first | refine rs_ex rfl (by (first | (constructor <;> first | rfl | exact RdC.rd | exact inferInstance) | exact Ex.pickF rfl rfl | exact Ex.eqlS rfl rfl | exact Ex.neqS rfl rfl | exact Ex.eqlPN rfl rfl | exact Ex.neqPN rfl rfl | exact Ex.eqlSN rfl rfl | exact Ex.neqSN rfl rfl | exact Ex.lenStr rfl)) rfl ?_ | refine rs_skip rfl rfl ?_)
  refine rs_ex rfl (ex_build rfl) rfl ?_
  refine rs_op rfl rfl (opR_fn rfl ((Take_c W0 b s2 Msg.zero _ l2).mono ?_))
  rw [e3, ← hs3]
  rintro v H' ⟨u3, rfl, rfl⟩
  repeat (first | refine rs_ex rfl (by (first | (constructor <;> first | rfl | exact RdC.rd | exact inferInstance) | exact Ex.pickF rfl rfl | exact Ex.eqlS rfl rfl | exact Ex.neqS rfl rfl | exact Ex.eqlPN rfl rfl | exact Ex.neqPN rfl rfl | exact Ex.eqlSN rfl rfl | exact Ex.neqSN rfl rfl | exact Ex.lenStr rfl)) rfl ?_ | refine rs_skip rfl rfl ?_)
  refine rs_end (qe_then ?_)
  refine ct_pr (fun w h => h.drop.drop.slv) ?_; rintro ⟨p2, c2, e, hv2⟩
  cases e
  refine ct_pr (fun w h => h.drop.drop.drop.slv) ?_; rintro ⟨p1, c1, e, hv1⟩
  cases e
  refine ct_heap (fun w h => h.drop.sw1) ?_
  refine ct_seq (ct_region ?_)
  repeat (first | refine rs_ex rfl (by (first | (constructor <;> first | rfl | exact RdC.rd | exact inferInstance) | exact Ex.pickF rfl rfl | exact Ex.eqlS rfl rfl | exact Ex.neqS rfl rfl | exact Ex.eqlPN rfl rfl | exact Ex.neqPN rfl rfl | exact Ex.eqlSN rfl rfl | exact Ex.neqSN rfl rfl | exact Ex.lenStr rfl)) rfl ?_ | refine rs_skip rfl rfl ?_)
  refine rs_op rfl rfl (opR_buildSlice rfl rfl rfl rfl fun wb => ?_)
  refine rs_op rfl rfl (opR_fn rfl ((Same_c W0 p2 c2 [one, two] (some ⟨wb, 0, none⟩) 2 [one, two] _ ?_ ?_ (by decide)).mono ?_))
  · exact RdS.slR (len := 2) inferInstance hv2
  · exact SlR.blk RdC.rd [one, two] rfl
  rintro v H' ⟨rfl, rfl⟩
  repeat (first | refine rs_ex rfl (by (first | (constructor <;> first | rfl | exact RdC.rd | exact inferInstance) | exact Ex.pickF rfl rfl | exact Ex.eqlS rfl rfl | exact Ex.neqS rfl rfl | exact Ex.eqlPN rfl rfl | exact Ex.neqPN rfl rfl | exact Ex.eqlSN rfl rfl | exact Ex.neqSN rfl rfl | exact Ex.lenStr rfl)) rfl ?_ | refine rs_skip rfl rfl ?_)
  refine rs_heap (fun w h => h.sw2) ?_
  refine rs_op rfl rfl (opR_fn rfl ((Next_c W0 b s3 3 _).mono ?_))
  rw [n3]
  rintro v H' ⟨rfl, rfl⟩
  repeat (first | refine rs_ex rfl (by (first | (constructor <;> first | rfl | exact RdC.rd | exact inferInstance) | exact Ex.pickF rfl rfl | exact Ex.eqlS rfl rfl | exact Ex.neqS rfl rfl | exact Ex.eqlPN rfl rfl | exact Ex.neqPN rfl rfl | exact Ex.eqlSN rfl rfl | exact Ex.neqSN rfl rfl | exact Ex.lenStr rfl)) rfl ?_ | refine rs_skip rfl rfl ?_)
  refine rs_end (qe_then (ct_ret ?_))
  refine qe_heap (H' := H) (fun w h => ?_) (ret1 rfl rfl ⟨rfl, rfl⟩)
  exact At.top [_, _, _, _, _, _] [] h
end Go.Rost
