/- The law IdsPacks: what it does. -/
import Derived.Test.YtgnjjbaeehbheaaPr
namespace Go.Rost
open Go Go.RowKit Go.Proofs

theorem ex_eqlB {P : Program} {S : World → Prop} {σ : Env} {T T' : TypeId} {x y : Operand} {a b : Bool} [hT : TUnder P T .bool] (hx : σ.val x = some (.bool a)) (hy : σ.val y = some (.bool b)) : Ex P S σ (.binOp .eql T x y T') (.bool (a == b)) := by
  refine Ex.any (fun ρ hρ c hop w hw => ?_) (fun _ _ e => by cases e) (fun _ e => by cases e)
  have h : ∀ d, (Op.equalIn (d + 1) T (.bool a) (.bool b)).run P w = .ok (a == b) w := fun d => by
    simp only [Op.equalIn, Sem.run_bind, hT.under, Result.andThen_ok, Sem.run_pure]
  have h' : (Op.equalIn Op.maxDepth T (.bool a) (.bool b)).run P w = .ok (a == b) w := h 9999
  simp [execOp, hop, hρ _ _ hx, hρ _ _ hy, binOp, eqGuard, Op.equal, h']
theorem IdsPacks_c (W0 : World) (p : Option Addr) (c : Nat) (l : List Msg) (h1 : SlR (At W0 []) p l) :
    Call Try.prog W0 5 [.slice p l.length c] [] (fun v _ => v = .bool true) := by
  refine call_enter Try.func5 rfl Try.ntmps5 rfl ?_
  ((repeat refine ct_seq ?_); refine ct_region ?_; repeat (first | refine rs_ex rfl (by (first | (constructor <;> first | rfl | exact RdC.rd | exact inferInstance) | exact Ex.pickF rfl rfl | exact Ex.eqlS rfl rfl | exact Ex.neqS rfl rfl | exact Ex.eqlPN rfl rfl | exact Ex.neqPN rfl rfl | exact Ex.eqlSN rfl rfl | exact Ex.neqSN rfl rfl | exact Ex.lenStr rfl)) rfl ?_ | refine rs_skip rfl rfl ?_))
  refine rs_end (qe_then ?_)
  ((repeat refine ct_seq ?_); refine ct_region ?_)
  refine rs_op rfl rfl (opR_fn rfl ((Shown10_c W0 _).mono ?_))
  rintro v H' ⟨rfl, rfl⟩
  repeat (first | refine rs_ex rfl (by (first | (constructor <;> first | rfl | exact RdC.rd | exact inferInstance) | exact Ex.pickF rfl rfl | exact Ex.eqlS rfl rfl | exact Ex.neqS rfl rfl | exact Ex.eqlPN rfl rfl | exact Ex.neqPN rfl rfl | exact Ex.eqlSN rfl rfl | exact Ex.neqSN rfl rfl | exact Ex.lenStr rfl)) rfl ?_ | refine rs_skip rfl rfl ?_)
  refine rs_end (qe_then ?_)
  ((repeat refine ct_seq ?_); refine ct_region ?_; repeat (first | refine rs_ex rfl (by (first | (constructor <;> first | rfl | exact RdC.rd | exact inferInstance) | exact Ex.pickF rfl rfl | exact Ex.eqlS rfl rfl | exact Ex.neqS rfl rfl | exact Ex.eqlPN rfl rfl | exact Ex.neqPN rfl rfl | exact Ex.eqlSN rfl rfl | exact Ex.neqSN rfl rfl | exact Ex.lenStr rfl)) rfl ?_ | refine rs_skip rfl rfl ?_))
  refine rs_op rfl rfl (opR_fn rfl ((Cut_c W0 p c l _ h1).mono ?_))
  rintro v H' rfl
  repeat (first | refine rs_ex rfl (by (first | (constructor <;> first | rfl | exact RdC.rd | exact inferInstance) | exact Ex.pickF rfl rfl | exact Ex.eqlS rfl rfl | exact Ex.neqS rfl rfl | exact Ex.eqlPN rfl rfl | exact Ex.neqPN rfl rfl | exact Ex.eqlSN rfl rfl | exact Ex.neqSN rfl rfl | exact Ex.lenStr rfl)) rfl ?_ | refine rs_skip rfl rfl ?_)
  refine rs_end (qe_then ?_)
  refine ct_pr (fun w h => h.slv) ?_; rintro ⟨p1, c1, e, hv1⟩
  cases e
  have hL := cutL_length l
  generalize cutL l = L at *
  have hr : SlR (At W0 (SlT 34 (.slice p1 L.length c1) L :: [])) p1 L := RdS.slR (len := L.length) inferInstance hv1
  ((repeat refine ct_seq ?_); refine ct_region ?_; repeat (first | refine rs_ex rfl (by (first | (constructor <;> first | rfl | exact RdC.rd | exact inferInstance) | exact Ex.pickF rfl rfl | exact Ex.eqlS rfl rfl | exact Ex.neqS rfl rfl | exact Ex.eqlPN rfl rfl | exact Ex.neqPN rfl rfl | exact Ex.eqlSN rfl rfl | exact Ex.neqSN rfl rfl | exact Ex.lenStr rfl)) rfl ?_ | refine rs_skip rfl rfl ?_))
  refine rs_op rfl rfl (opR_fn rfl ((Pack_c W0 p1 c1 L _ hr (by omega)).mono ?_))
  rintro v H' ⟨rfl, rfl⟩
  repeat (first | refine rs_ex rfl (by (first | (constructor <;> first | rfl | exact RdC.rd | exact inferInstance) | exact Ex.pickF rfl rfl | exact Ex.eqlS rfl rfl | exact Ex.neqS rfl rfl | exact Ex.eqlPN rfl rfl | exact Ex.neqPN rfl rfl | exact Ex.eqlSN rfl rfl | exact Ex.neqSN rfl rfl | exact Ex.lenStr rfl)) rfl ?_ | refine rs_skip rfl rfl ?_)
  refine rs_end (qe_then ?_)
  ((repeat refine ct_seq ?_); refine ct_region ?_; repeat (first | refine rs_ex rfl (by (first | (constructor <;> first | rfl | exact RdC.rd | exact inferInstance) | exact Ex.pickF rfl rfl | exact Ex.eqlS rfl rfl | exact Ex.neqS rfl rfl | exact Ex.eqlPN rfl rfl | exact Ex.neqPN rfl rfl | exact Ex.eqlSN rfl rfl | exact Ex.neqSN rfl rfl | exact Ex.lenStr rfl)) rfl ?_ | refine rs_skip rfl rfl ?_))
  refine rs_op rfl rfl (opR_fn rfl ((RefPack_c W0 p1 c1 L _ hr (by omega)).mono ?_))
  rintro v H' ⟨rfl, rfl⟩
  repeat (first | refine rs_ex rfl (by (first | (constructor <;> first | rfl | exact RdC.rd | exact inferInstance) | exact Ex.pickF rfl rfl | exact Ex.eqlS rfl rfl | exact Ex.neqS rfl rfl | exact Ex.eqlPN rfl rfl | exact Ex.neqPN rfl rfl | exact Ex.eqlSN rfl rfl | exact Ex.neqSN rfl rfl | exact Ex.lenStr rfl)) rfl ?_ | refine rs_skip rfl rfl ?_)
  refine rs_end (qe_then ?_)
  ((repeat refine ct_seq ?_); refine ct_region ?_; repeat (first | refine rs_ex rfl (by (first | (constructor <;> first | rfl | exact RdC.rd | exact inferInstance) | exact Ex.pickF rfl rfl | exact Ex.eqlS rfl rfl | exact Ex.neqS rfl rfl | exact Ex.eqlPN rfl rfl | exact Ex.neqPN rfl rfl | exact Ex.eqlSN rfl rfl | exact Ex.neqSN rfl rfl | exact Ex.lenStr rfl)) rfl ?_ | refine rs_skip rfl rfl ?_))
  refine rs_end (qe_then ?_)
  refine ct_seq ?_
  ((repeat refine ct_seq ?_); refine ct_region ?_; repeat (first | refine rs_ex rfl (by (first | (constructor <;> first | rfl | exact RdC.rd | exact inferInstance) | exact Ex.pickF rfl rfl | exact Ex.eqlS rfl rfl | exact Ex.neqS rfl rfl | exact Ex.eqlPN rfl rfl | exact Ex.neqPN rfl rfl | exact Ex.eqlSN rfl rfl | exact Ex.neqSN rfl rfl | exact Ex.lenStr rfl)) rfl ?_ | refine rs_skip rfl rfl ?_))
  refine rs_end (qe_then (ct_block ?_))
  refine ct_loop (ζ := Nat) (fun i => i ≤ L.length) (fun i => [(9, .int .i64 (i : Int)), (8, .bool true), (0, .slice p1 L.length c1), (3, .bool true), (4, .string (packV L).1), (5, .int .i64 (packV L).2), (6, .string (packV L).1), (7, .int .i64 (packV L).2)])
    (fun _ => SlT 34 (.slice p1 L.length c1) L :: []) (fun i => L.length - i) 0 (Nat.zero_le _) ⟨rfl, rfl, rfl, rfl, rfl, rfl, rfl, rfl, trivial⟩ (fun w h => h) ?_
  intro i hi
  ((repeat refine ct_seq ?_); refine ct_region ?_; repeat (first | refine rs_ex rfl (by (first | (constructor <;> first | rfl | exact RdC.rd | exact inferInstance) | exact Ex.pickF rfl rfl | exact Ex.eqlS rfl rfl | exact Ex.neqS rfl rfl | exact Ex.eqlPN rfl rfl | exact Ex.neqPN rfl rfl | exact Ex.eqlSN rfl rfl | exact Ex.neqSN rfl rfl | exact Ex.lenStr rfl)) rfl ?_ | refine rs_skip rfl rfl ?_))
  refine rs_end (qe_then ?_)
  (repeat refine ct_seq ?_)
  refine ct_cond rfl (fun hc => ?_) (fun hc => ?_)
  · have hi1 : i < L.length := by simp at hc; exact hc
    obtain ⟨b1, o1, rfl, r1⟩ := hr.get (List.getElem?_eq_getElem hi1)
    refine ct_skip (qe_then ?_)
    (repeat refine ct_seq ?_)
    refine ct_block ?_
    refine ct_draw0 (by kernel_rfl) ?_
    refine ra_take 0 rfl (by kernel_rfl) (by kernel_rfl) rfl (by (first | (constructor <;> first | rfl | exact RdC.rd | exact inferInstance) | exact Ex.pickF rfl rfl | exact Ex.eqlS rfl rfl | exact Ex.neqS rfl rfl | exact Ex.eqlPN rfl rfl | exact Ex.neqPN rfl rfl | exact Ex.eqlSN rfl rfl | exact Ex.neqSN rfl rfl | exact Ex.lenStr rfl)) rfl (by first | exact fun _ h => h | exact fun _ h => h.drop | exact fun _ h => h.drop.drop | exact fun _ h => h.drop.drop.drop | exact fun _ h => h.drop.drop.drop.drop) ?_
    refine ra_take 1 rfl (by kernel_rfl) (by kernel_rfl) rfl (by (first | (constructor <;> first | rfl | exact RdC.rd | exact inferInstance) | exact Ex.pickF rfl rfl | exact Ex.eqlS rfl rfl | exact Ex.neqS rfl rfl | exact Ex.eqlPN rfl rfl | exact Ex.neqPN rfl rfl | exact Ex.eqlSN rfl rfl | exact Ex.neqSN rfl rfl | exact Ex.lenStr rfl)) rfl (by first | exact fun _ h => h | exact fun _ h => h.drop | exact fun _ h => h.drop.drop | exact fun _ h => h.drop.drop.drop | exact fun _ h => h.drop.drop.drop.drop) ?_
    refine ra_take 2 rfl (by kernel_rfl) (by kernel_rfl) rfl (by (first | (constructor <;> first | rfl | exact RdC.rd | exact inferInstance) | exact Ex.pickF rfl rfl | exact Ex.eqlS rfl rfl | exact Ex.neqS rfl rfl | exact Ex.eqlPN rfl rfl | exact Ex.neqPN rfl rfl | exact Ex.eqlSN rfl rfl | exact Ex.neqSN rfl rfl | exact Ex.lenStr rfl)) rfl (by first | exact fun _ h => h | exact fun _ h => h.drop | exact fun _ h => h.drop.drop | exact fun _ h => h.drop.drop.drop | exact fun _ h => h.drop.drop.drop.drop) ?_
    refine ra_take 3 rfl (by kernel_rfl) (by kernel_rfl) rfl (by (first | (constructor <;> first | rfl | exact RdC.rd | exact inferInstance) | exact Ex.pickF rfl rfl | exact Ex.eqlS rfl rfl | exact Ex.neqS rfl rfl | exact Ex.eqlPN rfl rfl | exact Ex.neqPN rfl rfl | exact Ex.eqlSN rfl rfl | exact Ex.neqSN rfl rfl | exact Ex.lenStr rfl)) rfl (by first | exact fun _ h => h | exact fun _ h => h.drop | exact fun _ h => h.drop.drop | exact fun _ h => h.drop.drop.drop | exact fun _ h => h.drop.drop.drop.drop) ?_
    refine ra_take 4 rfl (by kernel_rfl) (by kernel_rfl) rfl (ex_indexAddr rfl rfl (by omega) (by omega)) rfl (by first | exact fun _ h => h | exact fun _ h => h.drop | exact fun _ h => h.drop.drop | exact fun _ h => h.drop.drop.drop | exact fun _ h => h.drop.drop.drop.drop) ?_
    refine ra_take 5 rfl (by kernel_rfl) (by kernel_rfl) rfl (ex_loadMsg (L[i]) rfl r1) rfl (by first | exact fun _ h => h | exact fun _ h => h.drop | exact fun _ h => h.drop.drop | exact fun _ h => h.drop.drop.drop | exact fun _ h => h.drop.drop.drop.drop) ?_
    refine ra_take 7 rfl (by kernel_rfl) (by kernel_rfl) rfl (by (first | (constructor <;> first | rfl | exact RdC.rd | exact inferInstance) | exact Ex.pickF rfl rfl | exact Ex.eqlS rfl rfl | exact Ex.neqS rfl rfl | exact Ex.eqlPN rfl rfl | exact Ex.neqPN rfl rfl | exact Ex.eqlSN rfl rfl | exact Ex.neqSN rfl rfl | exact Ex.lenStr rfl)) rfl (by first | exact fun _ h => h | exact fun _ h => h.drop | exact fun _ h => h.drop.drop | exact fun _ h => h.drop.drop.drop | exact fun _ h => h.drop.drop.drop.drop) ?_
    refine ra_take 8 rfl (by kernel_rfl) (by kernel_rfl) rfl (by (first | (constructor <;> first | rfl | exact RdC.rd | exact inferInstance) | exact Ex.pickF rfl rfl | exact Ex.eqlS rfl rfl | exact Ex.neqS rfl rfl | exact Ex.eqlPN rfl rfl | exact Ex.neqPN rfl rfl | exact Ex.eqlSN rfl rfl | exact Ex.neqSN rfl rfl | exact Ex.lenStr rfl)) rfl (by first | exact fun _ h => h | exact fun _ h => h.drop | exact fun _ h => h.drop.drop | exact fun _ h => h.drop.drop.drop | exact fun _ h => h.drop.drop.drop.drop) ?_
    refine ra_take 9 rfl (by kernel_rfl) (by kernel_rfl) rfl (ex_indexAddr rfl rfl (by omega) (by omega)) rfl (by first | exact fun _ h => h | exact fun _ h => h.drop | exact fun _ h => h.drop.drop | exact fun _ h => h.drop.drop.drop | exact fun _ h => h.drop.drop.drop.drop) ?_
    refine ra_take 10 rfl (by kernel_rfl) (by kernel_rfl) rfl (ex_loadMsg (L[i]) rfl r1) rfl (by first | exact fun _ h => h | exact fun _ h => h.drop | exact fun _ h => h.drop.drop | exact fun _ h => h.drop.drop.drop | exact fun _ h => h.drop.drop.drop.drop) ?_
    refine ra_all (rs := [6]) (by kernel_rfl) rfl ?_
    refine each_op rfl rfl rfl (opR_fn rfl ((Right_c W0 L[i] _).mono ?_)) each_nil
    rintro v G' ⟨rfl, rfl⟩
    refine ⟨.inr (fun w h => h), ?_⟩
    refine ra_all (rs := [11]) (by kernel_rfl) rfl ?_
    refine each_op rfl rfl rfl (opR_fn rfl ((RefRight_c W0 L[i] _).mono ?_)) each_nil
    rintro v G' ⟨rfl, rfl⟩
    refine ⟨.inr (fun w h => h), ?_⟩
    refine ra_take 12 rfl (by kernel_rfl) (by kernel_rfl) rfl (ex_eqlB rfl rfl) rfl (by first | exact fun _ h => h | exact fun _ h => h.drop | exact fun _ h => h.drop.drop | exact fun _ h => h.drop.drop.drop | exact fun _ h => h.drop.drop.drop.drop) ?_
    refine ra_rw (v := .bool true) (by simp) ?_
    refine ra_take 13 rfl (by kernel_rfl) (by kernel_rfl) rfl (by (first | (constructor <;> first | rfl | exact RdC.rd | exact inferInstance) | exact Ex.pickF rfl rfl | exact Ex.eqlS rfl rfl | exact Ex.neqS rfl rfl | exact Ex.eqlPN rfl rfl | exact Ex.neqPN rfl rfl | exact Ex.eqlSN rfl rfl | exact Ex.neqSN rfl rfl | exact Ex.lenStr rfl)) rfl (by first | exact fun _ h => h | exact fun _ h => h.drop | exact fun _ h => h.drop.drop | exact fun _ h => h.drop.drop.drop | exact fun _ h => h.drop.drop.drop.drop) ?_
    refine ra_take 14 rfl (by kernel_rfl) (by kernel_rfl) rfl (by (first | (constructor <;> first | rfl | exact RdC.rd | exact inferInstance) | exact Ex.pickF rfl rfl | exact Ex.eqlS rfl rfl | exact Ex.neqS rfl rfl | exact Ex.eqlPN rfl rfl | exact Ex.neqPN rfl rfl | exact Ex.eqlSN rfl rfl | exact Ex.neqSN rfl rfl | exact Ex.lenStr rfl)) rfl (by first | exact fun _ h => h | exact fun _ h => h.drop | exact fun _ h => h.drop.drop | exact fun _ h => h.drop.drop.drop | exact fun _ h => h.drop.drop.drop.drop) ?_
    refine ra_end (by kernel_rfl) (qe_block 1 (qe_then ?_))
    ((repeat refine ct_seq ?_); refine ct_region ?_; repeat (first | refine rs_ex rfl (by (first | (constructor <;> first | rfl | exact RdC.rd | exact inferInstance) | exact Ex.pickF rfl rfl | exact Ex.eqlS rfl rfl | exact Ex.neqS rfl rfl | exact Ex.eqlPN rfl rfl | exact Ex.neqPN rfl rfl | exact Ex.eqlSN rfl rfl | exact Ex.neqSN rfl rfl | exact Ex.lenStr rfl)) rfl ?_ | refine rs_skip rfl rfl ?_))
    refine rs_rw (by rw [wrapS (by omega)]) ?_
    repeat (first | refine rs_ex rfl (by (first | (constructor <;> first | rfl | exact RdC.rd | exact inferInstance) | exact Ex.pickF rfl rfl | exact Ex.eqlS rfl rfl | exact Ex.neqS rfl rfl | exact Ex.eqlPN rfl rfl | exact Ex.neqPN rfl rfl | exact Ex.eqlSN rfl rfl | exact Ex.neqSN rfl rfl | exact Ex.lenStr rfl)) rfl ?_ | refine rs_skip rfl rfl ?_)
    refine rs_end (qe_loop (i + 1) (by omega) (by omega) ⟨rfl, rfl, rfl, rfl, rfl, rfl, rfl, rfl, trivial⟩ (fun w h => h))
  · (refine ct_exit ?_; repeat (first | refine qe_then_exit ?_ | refine qe_loop_exit ?_ | refine qe_mid_exit ?_ | refine qe_block_exit_ne rfl ?_); refine qe_block_exit ?_)
    refine qe_then ?_
    ((repeat refine ct_seq ?_); refine ct_region ?_; repeat (first | refine rs_ex rfl (by (first | (constructor <;> first | rfl | exact RdC.rd | exact inferInstance) | exact Ex.pickF rfl rfl | exact Ex.eqlS rfl rfl | exact Ex.neqS rfl rfl | exact Ex.eqlPN rfl rfl | exact Ex.neqPN rfl rfl | exact Ex.eqlSN rfl rfl | exact Ex.neqSN rfl rfl | exact Ex.lenStr rfl)) rfl ?_ | refine rs_skip rfl rfl ?_))
    refine rs_rw (v := .bool true) (by simp) ?_
    repeat (first | refine rs_ex rfl (by (first | (constructor <;> first | rfl | exact RdC.rd | exact inferInstance) | exact Ex.pickF rfl rfl | exact Ex.eqlS rfl rfl | exact Ex.neqS rfl rfl | exact Ex.eqlPN rfl rfl | exact Ex.neqPN rfl rfl | exact Ex.eqlSN rfl rfl | exact Ex.neqSN rfl rfl | exact Ex.lenStr rfl)) rfl ?_ | refine rs_skip rfl rfl ?_)
    refine rs_rw (v := .bool true) (by simp) ?_
    exact rs_end (qe_then (ct_ret (ret1 rfl rfl rfl)))
end Go.Rost
