/- The law IdsNext: what it does. -/
import Derived.Test.YtgnjjbaeehbheaaBk
import Derived.Test.YtgnjjbaeehbheaaL10
namespace Go.Rost
open Go Go.RowKit Go.Proofs

theorem cutL_length (l : List Msg) : (cutL l).length ≤ 80 := by simp [cutL]; omega
theorem IdsNext_c (W0 : World) (p : Option Addr) (c : Nat) (l : List Msg) (f : Int) (h1 : SlR (At W0 []) p l) :
    Call Try.prog W0 3 [.slice p l.length c, .int .i64 f] [] (fun v _ => v = .bool true) := by
  refine call_enter Try.func3 rfl Try.ntmps3 rfl ?_
  refine ct_seq (ct_region ?_)
  repeat (first | refine rs_ex rfl (by (first | (constructor <;> first | rfl | exact RdC.rd | exact inferInstance) | exact Ex.pickF rfl rfl | exact Ex.eqlS rfl rfl | exact Ex.neqS rfl rfl | exact Ex.eqlPN rfl rfl | exact Ex.neqPN rfl rfl | exact Ex.eqlSN rfl rfl | exact Ex.neqSN rfl rfl | exact Ex.lenStr rfl)) rfl ?_ | refine rs_skip rfl rfl ?_)
  refine rs_end (qe_then ?_)
  refine ct_seq (ct_region ?_)
  refine rs_op rfl rfl (opR_fn rfl ((Shown10_c W0 _).mono ?_))
  rintro v H' ⟨rfl, rfl⟩
  repeat (first | refine rs_ex rfl (by (first | (constructor <;> first | rfl | exact RdC.rd | exact inferInstance) | exact Ex.pickF rfl rfl | exact Ex.eqlS rfl rfl | exact Ex.neqS rfl rfl | exact Ex.eqlPN rfl rfl | exact Ex.neqPN rfl rfl | exact Ex.eqlSN rfl rfl | exact Ex.neqSN rfl rfl | exact Ex.lenStr rfl)) rfl ?_ | refine rs_skip rfl rfl ?_)
  refine rs_end (qe_then ?_)
  refine ct_seq (ct_region ?_)
  repeat (first | refine rs_ex rfl (by (first | (constructor <;> first | rfl | exact RdC.rd | exact inferInstance) | exact Ex.pickF rfl rfl | exact Ex.eqlS rfl rfl | exact Ex.neqS rfl rfl | exact Ex.eqlPN rfl rfl | exact Ex.neqPN rfl rfl | exact Ex.eqlSN rfl rfl | exact Ex.neqSN rfl rfl | exact Ex.lenStr rfl)) rfl ?_ | refine rs_skip rfl rfl ?_)
  refine rs_op rfl rfl (opR_fn rfl ((Cut_c W0 p c l _ h1).mono ?_))
  rintro v H' rfl
  repeat (first | refine rs_ex rfl (by (first | (constructor <;> first | rfl | exact RdC.rd | exact inferInstance) | exact Ex.pickF rfl rfl | exact Ex.eqlS rfl rfl | exact Ex.neqS rfl rfl | exact Ex.eqlPN rfl rfl | exact Ex.neqPN rfl rfl | exact Ex.eqlSN rfl rfl | exact Ex.neqSN rfl rfl | exact Ex.lenStr rfl)) rfl ?_ | refine rs_skip rfl rfl ?_)
  refine rs_end (qe_then ?_)
  refine ct_pr (fun w h => h.slv) ?_; rintro ⟨p1, c1, e, hv1⟩
  cases e
  have hL := cutL_length l
  generalize cutL l = L at *
  refine ct_seq ?_
  refine ct_seq (ct_region ?_)
  repeat' (first | (first | refine rs_ex rfl (by (first | (constructor <;> first | rfl | exact RdC.rd | exact inferInstance) | exact Ex.pickF rfl rfl | exact Ex.eqlS rfl rfl | exact Ex.neqS rfl rfl | exact Ex.eqlPN rfl rfl | exact Ex.neqPN rfl rfl | exact Ex.eqlSN rfl rfl | exact Ex.neqSN rfl rfl | exact Ex.lenStr rfl)) rfl ?_ | refine rs_skip rfl rfl ?_) | (refine rs_split (fun h => ?_) (fun h => ?_) <;> (first | refine rs_ex rfl (by (first | (constructor <;> first | rfl | exact RdC.rd | exact inferInstance) | exact Ex.pickF rfl rfl | exact Ex.eqlS rfl rfl | exact Ex.neqS rfl rfl | exact Ex.eqlPN rfl rfl | exact Ex.neqPN rfl rfl | exact Ex.eqlSN rfl rfl | exact Ex.neqSN rfl rfl | exact Ex.lenStr rfl)) rfl ?_ | refine rs_skip rfl rfl ?_)))
  all_goals
    refine rs_end (qe_then ?_)
    refine ct_cond rfl (fun hc => ?_) (fun hc => ?_)
  all_goals try (exfalso; simp_all; done)
  all_goals try (
    refine ct_seq (ct_region ?_)
    repeat (first | refine rs_ex rfl (by (first | (constructor <;> first | rfl | exact RdC.rd | exact inferInstance) | exact Ex.pickF rfl rfl | exact Ex.eqlS rfl rfl | exact Ex.neqS rfl rfl | exact Ex.eqlPN rfl rfl | exact Ex.neqPN rfl rfl | exact Ex.eqlSN rfl rfl | exact Ex.neqSN rfl rfl | exact Ex.lenStr rfl)) rfl ?_ | refine rs_skip rfl rfl ?_)
    exact rs_end (qe_then (ct_ret (ret1 rfl rfl rfl))))
  have hf : 0 ≤ f ∧ f < 16 := by simp_all; omega
  refine ct_skip (qe_then ?_)
  refine ct_seq (ct_region ?_)
  refine rs_op rfl rfl (opR_fn rfl ((New_c W0 _).mono ?_))
  rintro v H' ⟨b, rfl, rfl⟩
  repeat (first | refine rs_ex rfl (by (first | (constructor <;> first | rfl | exact RdC.rd | exact inferInstance) | exact Ex.pickF rfl rfl | exact Ex.eqlS rfl rfl | exact Ex.neqS rfl rfl | exact Ex.eqlPN rfl rfl | exact Ex.neqPN rfl rfl | exact Ex.eqlSN rfl rfl | exact Ex.neqSN rfl rfl | exact Ex.lenStr rfl)) rfl ?_ | refine rs_skip rfl rfl ?_)
  refine rs_end (qe_then ?_)
  refine ct_seq ?_
  refine ct_seq (ct_region ?_)
  repeat (first | refine rs_ex rfl (by (first | (constructor <;> first | rfl | exact RdC.rd | exact inferInstance) | exact Ex.pickF rfl rfl | exact Ex.eqlS rfl rfl | exact Ex.neqS rfl rfl | exact Ex.eqlPN rfl rfl | exact Ex.neqPN rfl rfl | exact Ex.eqlSN rfl rfl | exact Ex.neqSN rfl rfl | exact Ex.lenStr rfl)) rfl ?_ | refine rs_skip rfl rfl ?_)
  refine rs_end (qe_then (ct_block ?_))
  refine ct_loop (ζ := Nat) (fun i => i ≤ L.length) (fun i => [(7, .int .i64 (i : Int)), (0, .slice p1 L.length c1), (1, .int .i64 f), (5, .bool true), (6, .pointer (some ⟨b, 0, none⟩))])
    (fun i => BookC b (Book.new.takes (L.take i)) :: SlT 34 (.slice p1 L.length c1) L :: []) (fun i => L.length - i) 0 (Nat.zero_le _) ⟨rfl, rfl, rfl, rfl, rfl, trivial⟩ (fun w h => h) ?_
  intro i hi
  refine ct_seq ?_
  refine ct_seq (ct_region ?_)
  repeat (first | refine rs_ex rfl (by (first | (constructor <;> first | rfl | exact RdC.rd | exact inferInstance) | exact Ex.pickF rfl rfl | exact Ex.eqlS rfl rfl | exact Ex.neqS rfl rfl | exact Ex.eqlPN rfl rfl | exact Ex.neqPN rfl rfl | exact Ex.eqlSN rfl rfl | exact Ex.neqSN rfl rfl | exact Ex.lenStr rfl)) rfl ?_ | refine rs_skip rfl rfl ?_)
  refine rs_end (qe_then ?_)
  refine ct_cond rfl (fun hc => ?_) (fun hc => ?_)
  · have hi1 : i < L.length := by simp at hc; exact hc
    refine ct_skip (qe_then ?_)
    refine ct_seq (ct_block ?_)
    have hr : SlR (At W0 (BookC b (Book.new.takes (L.take i)) :: SlT 34 (.slice p1 L.length c1) L :: [])) p1 L := RdS.slR (len := L.length) inferInstance hv1
    obtain ⟨b1, o1, rfl, r1⟩ := hr.get (List.getElem?_eq_getElem hi1)
    refine ct_region ?_
    repeat (first | refine rs_ex rfl (by (first | (constructor <;> first | rfl | exact RdC.rd | exact inferInstance) | exact Ex.pickF rfl rfl | exact Ex.eqlS rfl rfl | exact Ex.neqS rfl rfl | exact Ex.eqlPN rfl rfl | exact Ex.neqPN rfl rfl | exact Ex.eqlSN rfl rfl | exact Ex.neqSN rfl rfl | exact Ex.lenStr rfl)) rfl ?_ | refine rs_skip rfl rfl ?_)
    refine rs_ex rfl (ex_indexAddr rfl rfl (by omega) (by omega)) rfl ?_
    refine rs_ex rfl (ex_loadMsg (L[i]) rfl r1) rfl ?_
    refine rs_op rfl rfl (opR_fn rfl ((Take_c W0 b _ L[i] _ ?_).mono ?_))
    · have := (Book.Good.takes (L.take i) Book.good_new (by simp; omega)).inv.len
      simp at this; omega
    rintro v H' ⟨u, rfl, rfl⟩
    refine rs_end (qe_block 1 (qe_then ?_))
    refine ct_region ?_
    repeat (first | refine rs_ex rfl (by (first | (constructor <;> first | rfl | exact RdC.rd | exact inferInstance) | exact Ex.pickF rfl rfl | exact Ex.eqlS rfl rfl | exact Ex.neqS rfl rfl | exact Ex.eqlPN rfl rfl | exact Ex.neqPN rfl rfl | exact Ex.eqlSN rfl rfl | exact Ex.neqSN rfl rfl | exact Ex.lenStr rfl)) rfl ?_ | refine rs_skip rfl rfl ?_)
    refine rs_rw (by rw [wrapS (by omega)]) ?_
    repeat (first | refine rs_ex rfl (by (first | (constructor <;> first | rfl | exact RdC.rd | exact inferInstance) | exact Ex.pickF rfl rfl | exact Ex.eqlS rfl rfl | exact Ex.neqS rfl rfl | exact Ex.eqlPN rfl rfl | exact Ex.neqPN rfl rfl | exact Ex.eqlSN rfl rfl | exact Ex.neqSN rfl rfl | exact Ex.lenStr rfl)) rfl ?_ | refine rs_skip rfl rfl ?_)
    refine rs_end (qe_loop (i + 1) (by omega) (by omega) ⟨rfl, rfl, rfl, rfl, rfl, trivial⟩ (fun w h => ?_))
    rw [List.take_succ_eq_append_getElem hi1, Book.takes_snoc]
    exact h.drop
  have e : i = L.length := by simp at hc; omega
  subst e
  (refine ct_exit ?_; repeat (first | refine qe_then_exit ?_ | refine qe_loop_exit ?_ | refine qe_mid_exit ?_ | refine qe_block_exit_ne rfl ?_); refine qe_block_exit ?_)
  refine qe_then ?_
  rw [List.take_length]
  have hg := Book.Good.takes L Book.good_new (by omega)
  generalize hs : Book.new.takes L = s at *
  rw [Nat.zero_add] at hg
  have hlen := hg.inv.len
  refine ct_seq (ct_region ?_)
  repeat (first | refine rs_ex rfl (by (first | (constructor <;> first | rfl | exact RdC.rd | exact inferInstance) | exact Ex.pickF rfl rfl | exact Ex.eqlS rfl rfl | exact Ex.neqS rfl rfl | exact Ex.eqlPN rfl rfl | exact Ex.neqPN rfl rfl | exact Ex.eqlSN rfl rfl | exact Ex.neqSN rfl rfl | exact Ex.lenStr rfl)) rfl ?_ | refine rs_skip rfl rfl ?_)
  refine rs_end (qe_then ?_)
  refine ct_seq (ct_region ?_)
  repeat (first | refine rs_ex rfl (by (first | (constructor <;> first | rfl | exact RdC.rd | exact inferInstance) | exact Ex.pickF rfl rfl | exact Ex.eqlS rfl rfl | exact Ex.neqS rfl rfl | exact Ex.eqlPN rfl rfl | exact Ex.neqPN rfl rfl | exact Ex.eqlSN rfl rfl | exact Ex.neqSN rfl rfl | exact Ex.lenStr rfl)) rfl ?_ | refine rs_skip rfl rfl ?_)
  refine rs_op rfl rfl (opR_fn rfl ((Log_c W0 b s _ (by omega)).mono ?_))
  rintro v H' rfl
  repeat (first | refine rs_ex rfl (by (first | (constructor <;> first | rfl | exact RdC.rd | exact inferInstance) | exact Ex.pickF rfl rfl | exact Ex.eqlS rfl rfl | exact Ex.neqS rfl rfl | exact Ex.eqlPN rfl rfl | exact Ex.neqPN rfl rfl | exact Ex.eqlSN rfl rfl | exact Ex.neqSN rfl rfl | exact Ex.lenStr rfl)) rfl ?_ | refine rs_skip rfl rfl ?_)
  refine rs_end (qe_then ?_)
  refine ct_pr (fun w h => h.slv) ?_; rintro ⟨p2, c2, e, hv2⟩
  cases e
  refine ct_seq ?_
  refine ct_seq (ct_region ?_)
  repeat (first | refine rs_ex rfl (by (first | (constructor <;> first | rfl | exact RdC.rd | exact inferInstance) | exact Ex.pickF rfl rfl | exact Ex.eqlS rfl rfl | exact Ex.neqS rfl rfl | exact Ex.eqlPN rfl rfl | exact Ex.neqPN rfl rfl | exact Ex.eqlSN rfl rfl | exact Ex.neqSN rfl rfl | exact Ex.lenStr rfl)) rfl ?_ | refine rs_skip rfl rfl ?_)
  refine rs_end (qe_then (ct_block ?_))
  refine ct_loop (ζ := Nat) (fun i => i ≤ s.log.length) (fun i => [(10, .int .i64 (i : Int)), (8, .int .u32 (((of (s.log.take i) f).length : Int) + 1)), (9, .slice p2 s.log.length c2), (1, .int .i64 f), (5, .bool true), (6, .pointer (some ⟨b, 0, none⟩))])
    (fun i => SlT 34 (.slice p2 s.log.length c2) s.log :: BookC b s :: []) (fun i => s.log.length - i) 0 (Nat.zero_le _) ⟨rfl, rfl, rfl, rfl, rfl, rfl, trivial⟩ (fun w h => At.top [_, _, _] [0, 1] h) ?_
  intro i hi
  have hr : SlR (At W0 (SlT 34 (.slice p2 s.log.length c2) s.log :: BookC b s :: [])) p2 s.log := RdS.slR (len := s.log.length) inferInstance hv2
  refine ct_seq ?_
  refine ct_seq (ct_region ?_)
  repeat (first | refine rs_ex rfl (by (first | (constructor <;> first | rfl | exact RdC.rd | exact inferInstance) | exact Ex.pickF rfl rfl | exact Ex.eqlS rfl rfl | exact Ex.neqS rfl rfl | exact Ex.eqlPN rfl rfl | exact Ex.neqPN rfl rfl | exact Ex.eqlSN rfl rfl | exact Ex.neqSN rfl rfl | exact Ex.lenStr rfl)) rfl ?_ | refine rs_skip rfl rfl ?_)
  refine rs_end (qe_then ?_)
  refine ct_cond rfl (fun hc => ?_) (fun hc => ?_)
  · have hi1 : i < s.log.length := by simp at hc; exact hc
    obtain ⟨b1, o1, rfl, r1⟩ := hr.get (List.getElem?_eq_getElem hi1)
    refine ct_skip (qe_then ?_)
    refine ct_seq (ct_block ?_)
    refine ct_seq (ct_region ?_)
    repeat (first | refine rs_ex rfl (by (first | (constructor <;> first | rfl | exact RdC.rd | exact inferInstance) | exact Ex.pickF rfl rfl | exact Ex.eqlS rfl rfl | exact Ex.neqS rfl rfl | exact Ex.eqlPN rfl rfl | exact Ex.neqPN rfl rfl | exact Ex.eqlSN rfl rfl | exact Ex.neqSN rfl rfl | exact Ex.lenStr rfl)) rfl ?_ | refine rs_skip rfl rfl ?_)
    refine rs_ex rfl (ex_indexAddr rfl rfl (by omega) (by omega)) rfl ?_
    repeat (first | refine rs_ex rfl (by (first | (constructor <;> first | rfl | exact RdC.rd | exact inferInstance) | exact Ex.pickF rfl rfl | exact Ex.eqlS rfl rfl | exact Ex.neqS rfl rfl | exact Ex.eqlPN rfl rfl | exact Ex.neqPN rfl rfl | exact Ex.eqlSN rfl rfl | exact Ex.neqSN rfl rfl | exact Ex.lenStr rfl)) rfl ?_ | refine rs_skip rfl rfl ?_)
    refine rs_ex rfl (ex_loadCell (k := 0) rfl r1 rfl) rfl ?_
    repeat (first | refine rs_ex rfl (by (first | (constructor <;> first | rfl | exact RdC.rd | exact inferInstance) | exact Ex.pickF rfl rfl | exact Ex.eqlS rfl rfl | exact Ex.neqS rfl rfl | exact Ex.eqlPN rfl rfl | exact Ex.neqPN rfl rfl | exact Ex.eqlSN rfl rfl | exact Ex.neqSN rfl rfl | exact Ex.lenStr rfl)) rfl ?_ | refine rs_skip rfl rfl ?_)
    refine rs_end (qe_then ?_)
    have hn := of_le (s.log.take i) f
    have hof : of (s.log.take (i + 1)) f = of (s.log.take i) f ++ of [s.log[i]] f := by rw [List.take_succ_eq_append_getElem hi1, of_append]
    refine ct_cond rfl (fun he => ?_) (fun he => ?_)
    · refine ct_region ?_
      repeat (first | refine rs_ex rfl (by (first | (constructor <;> first | rfl | exact RdC.rd | exact inferInstance) | exact Ex.pickF rfl rfl | exact Ex.eqlS rfl rfl | exact Ex.neqS rfl rfl | exact Ex.eqlPN rfl rfl | exact Ex.neqPN rfl rfl | exact Ex.eqlSN rfl rfl | exact Ex.neqSN rfl rfl | exact Ex.lenStr rfl)) rfl ?_ | refine rs_skip rfl rfl ?_)
      refine rs_rw (by rw [wrap32 (by omega) (by simp at hn; omega)]) ?_
      repeat (first | refine rs_ex rfl (by (first | (constructor <;> first | rfl | exact RdC.rd | exact inferInstance) | exact Ex.pickF rfl rfl | exact Ex.eqlS rfl rfl | exact Ex.neqS rfl rfl | exact Ex.eqlPN rfl rfl | exact Ex.neqPN rfl rfl | exact Ex.eqlSN rfl rfl | exact Ex.neqSN rfl rfl | exact Ex.lenStr rfl)) rfl ?_ | refine rs_skip rfl rfl ?_)
      refine rs_end (qe_block 3 (qe_then ?_))
      refine ct_region ?_
      repeat (first | refine rs_ex rfl (by (first | (constructor <;> first | rfl | exact RdC.rd | exact inferInstance) | exact Ex.pickF rfl rfl | exact Ex.eqlS rfl rfl | exact Ex.neqS rfl rfl | exact Ex.eqlPN rfl rfl | exact Ex.neqPN rfl rfl | exact Ex.eqlSN rfl rfl | exact Ex.neqSN rfl rfl | exact Ex.lenStr rfl)) rfl ?_ | refine rs_skip rfl rfl ?_)
      refine rs_rw (by rw [wrapS (by omega)]) ?_
      repeat (first | refine rs_ex rfl (by (first | (constructor <;> first | rfl | exact RdC.rd | exact inferInstance) | exact Ex.pickF rfl rfl | exact Ex.eqlS rfl rfl | exact Ex.neqS rfl rfl | exact Ex.eqlPN rfl rfl | exact Ex.neqPN rfl rfl | exact Ex.eqlSN rfl rfl | exact Ex.neqSN rfl rfl | exact Ex.lenStr rfl)) rfl ?_ | refine rs_skip rfl rfl ?_)
      refine rs_end (qe_loop (i + 1) (by omega) (by omega) ⟨rfl, ?_, rfl, rfl, rfl, rfl, trivial⟩ (fun w h => h))
      have he' : s.log[i].id.from_ = f := by simpa using he
      rw [hof, of_one_self he', List.length_append, List.length_singleton]
      show some (Value.int IntKind.u32 _) = some (Value.int IntKind.u32 _)
      simp
    · refine ct_skip (qe_block 3 (qe_then ?_))
      refine ct_region ?_
      repeat (first | refine rs_ex rfl (by (first | (constructor <;> first | rfl | exact RdC.rd | exact inferInstance) | exact Ex.pickF rfl rfl | exact Ex.eqlS rfl rfl | exact Ex.neqS rfl rfl | exact Ex.eqlPN rfl rfl | exact Ex.neqPN rfl rfl | exact Ex.eqlSN rfl rfl | exact Ex.neqSN rfl rfl | exact Ex.lenStr rfl)) rfl ?_ | refine rs_skip rfl rfl ?_)
      refine rs_rw (by rw [wrapS (by omega)]) ?_
      repeat (first | refine rs_ex rfl (by (first | (constructor <;> first | rfl | exact RdC.rd | exact inferInstance) | exact Ex.pickF rfl rfl | exact Ex.eqlS rfl rfl | exact Ex.neqS rfl rfl | exact Ex.eqlPN rfl rfl | exact Ex.neqPN rfl rfl | exact Ex.eqlSN rfl rfl | exact Ex.neqSN rfl rfl | exact Ex.lenStr rfl)) rfl ?_ | refine rs_skip rfl rfl ?_)
      refine rs_end (qe_loop (i + 1) (by omega) (by omega) ⟨rfl, ?_, rfl, rfl, rfl, rfl, trivial⟩ (fun w h => h))
      have he' : s.log[i].id.from_ ≠ f := by simpa using he
      rw [hof, of_one_ne he', List.append_nil]
      rfl
  have e : i = s.log.length := by simp at hc; omega
  subst e
  (refine ct_exit ?_; repeat (first | refine qe_then_exit ?_ | refine qe_loop_exit ?_ | refine qe_mid_exit ?_ | refine qe_block_exit_ne rfl ?_); refine qe_block_exit ?_)
  refine qe_then ?_
  rw [List.take_length]
  refine ct_heap (fun w h => h.drop) ?_
  refine ct_seq (ct_region ?_)
  repeat (first | refine rs_ex rfl (by (first | (constructor <;> first | rfl | exact RdC.rd | exact inferInstance) | exact Ex.pickF rfl rfl | exact Ex.eqlS rfl rfl | exact Ex.neqS rfl rfl | exact Ex.eqlPN rfl rfl | exact Ex.neqPN rfl rfl | exact Ex.eqlSN rfl rfl | exact Ex.neqSN rfl rfl | exact Ex.lenStr rfl)) rfl ?_ | refine rs_skip rfl rfl ?_)
  refine rs_op rfl rfl (opR_fn rfl ((Next_c W0 b s f _).mono ?_))
  rw [hg.inv.nextOf (by omega) hf.1 hf.2]
  rintro v H' ⟨rfl, rfl⟩
  repeat (first | refine rs_ex rfl (by (first | (constructor <;> first | rfl | exact RdC.rd | exact inferInstance) | exact Ex.pickF rfl rfl | exact Ex.eqlS rfl rfl | exact Ex.neqS rfl rfl | exact Ex.eqlPN rfl rfl | exact Ex.neqPN rfl rfl | exact Ex.eqlSN rfl rfl | exact Ex.neqSN rfl rfl | exact Ex.lenStr rfl)) rfl ?_ | refine rs_skip rfl rfl ?_)
  refine rs_rw (by rw [decide_eq_true rfl]) ?_
  repeat (first | refine rs_ex rfl (by (first | (constructor <;> first | rfl | exact RdC.rd | exact inferInstance) | exact Ex.pickF rfl rfl | exact Ex.eqlS rfl rfl | exact Ex.neqS rfl rfl | exact Ex.eqlPN rfl rfl | exact Ex.neqPN rfl rfl | exact Ex.eqlSN rfl rfl | exact Ex.neqSN rfl rfl | exact Ex.lenStr rfl)) rfl ?_ | refine rs_skip rfl rfl ?_)
  refine rs_ex rfl (ex_build rfl) rfl ?_
  have hh := hg.has (by omega) hf.1 hf.2
  rw [hg.inv.nextOf (by omega) hf.1 hf.2] at hh
  refine rs_op rfl rfl (opR_fn rfl ((Has_c W0 b s ⟨f, ((of s.log f).length : Int) + 1⟩ _).mono ?_))
  rw [hh]
  rintro v H' ⟨rfl, rfl⟩
  repeat (first | refine rs_ex rfl (by (first | (constructor <;> first | rfl | exact RdC.rd | exact inferInstance) | exact Ex.pickF rfl rfl | exact Ex.eqlS rfl rfl | exact Ex.neqS rfl rfl | exact Ex.eqlPN rfl rfl | exact Ex.neqPN rfl rfl | exact Ex.eqlSN rfl rfl | exact Ex.neqSN rfl rfl | exact Ex.lenStr rfl)) rfl ?_ | refine rs_skip rfl rfl ?_)
  refine rs_end (qe_then (ct_ret (ret1 rfl rfl rfl)))
end Go.Rost
