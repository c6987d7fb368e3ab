/- The law ModelHappens: what it does. -/
import Derived.Test.YtgnjjbaeehbheaaPm
namespace Go.Rost
open Go Go.RowKit Go.Proofs

theorem ModelHappens_bad (W0 : World) (n : Int) (p : Option Addr) (c : Nat) (l : List Happ) (f : Int) (h1 : SlR (At W0 []) p l) (hn : n < 1 ∨ 16 < n) :
    Call Try.prog W0 9 [.int .i64 n, .slice p l.length c, .int .i64 f] [] (fun v _ => v = .bool true) := by
  refine call_enter Try.func9 rfl Try.ntmps9 rfl ?_

  refine ct_seq ?_
  refine ct_region ?_
  (first | refine rs_ex rfl (by (first | (constructor <;> first | rfl | exact RdC.rd | exact inferInstance) | exact Ex.pickF rfl rfl | exact Ex.eqlS rfl rfl | exact Ex.neqS rfl rfl | exact Ex.eqlPN rfl rfl | exact Ex.neqPN rfl rfl | exact Ex.eqlSN rfl rfl | exact Ex.neqSN rfl rfl | exact Ex.lenStr rfl)) rfl ?_ | refine rs_skip rfl rfl ?_)
  refine rs_end ?_
  refine qe_then ?_
  refine ct_seq ?_
  refine ct_region ?_
  refine rs_op rfl rfl (opR_fn rfl (Call.heap (fun w h => by (first | exact h | exact h.sw1 | exact h.sw2 | exact h.sw3 | exact h.sw4 | exact h.sw5 | exact h.sw6 | exact h.sw7 | exact h.sw8 | exact h.pull2 | exact h.pull3 | exact h.pull4 | exact h.pull5 | exact h.fit)) ((Shown16_c W0 _).mono ?_)))
  rintro v H' ⟨rfl, rfl⟩
  (first | refine rs_ex rfl (by (first | (constructor <;> first | rfl | exact RdC.rd | exact inferInstance) | exact Ex.pickF rfl rfl | exact Ex.eqlS rfl rfl | exact Ex.neqS rfl rfl | exact Ex.eqlPN rfl rfl | exact Ex.neqPN rfl rfl | exact Ex.eqlSN rfl rfl | exact Ex.neqSN rfl rfl | exact Ex.lenStr rfl)) rfl ?_ | refine rs_skip rfl rfl ?_)
  refine rs_end ?_
  refine qe_then ?_
  refine ct_seq ?_
  refine ct_region ?_
  (first | refine rs_ex rfl (by (first | (constructor <;> first | rfl | exact RdC.rd | exact inferInstance) | exact Ex.pickF rfl rfl | exact Ex.eqlS rfl rfl | exact Ex.neqS rfl rfl | exact Ex.eqlPN rfl rfl | exact Ex.neqPN rfl rfl | exact Ex.eqlSN rfl rfl | exact Ex.neqSN rfl rfl | exact Ex.lenStr rfl)) rfl ?_ | refine rs_skip rfl rfl ?_)
  refine rs_op rfl rfl (opR_fn rfl (Call.heap (fun w h => by (first | exact h | exact h.sw1 | exact h.sw2 | exact h.sw3 | exact h.sw4 | exact h.sw5 | exact h.sw6 | exact h.sw7 | exact h.sw8 | exact h.pull2 | exact h.pull3 | exact h.pull4 | exact h.pull5 | exact h.fit)) ((Few_c W0 p c l _ h1).mono ?_)))
  rintro v H' rfl
  (first | refine rs_ex rfl (by (first | (constructor <;> first | rfl | exact RdC.rd | exact inferInstance) | exact Ex.pickF rfl rfl | exact Ex.eqlS rfl rfl | exact Ex.neqS rfl rfl | exact Ex.eqlPN rfl rfl | exact Ex.neqPN rfl rfl | exact Ex.eqlSN rfl rfl | exact Ex.neqSN rfl rfl | exact Ex.lenStr rfl)) rfl ?_ | refine rs_skip rfl rfl ?_)
  refine rs_end ?_
  refine qe_then ?_
  refine ct_seq ?_
  refine ct_region ?_
  (first | refine rs_ex rfl (by (first | (constructor <;> first | rfl | exact RdC.rd | exact inferInstance) | exact Ex.pickF rfl rfl | exact Ex.eqlS rfl rfl | exact Ex.neqS rfl rfl | exact Ex.eqlPN rfl rfl | exact Ex.neqPN rfl rfl | exact Ex.eqlSN rfl rfl | exact Ex.neqSN rfl rfl | exact Ex.lenStr rfl)) rfl ?_ | refine rs_skip rfl rfl ?_)
  refine rs_op rfl rfl (opR_fn rfl (Call.heap (fun w h => by (first | exact h | exact h.sw1 | exact h.sw2 | exact h.sw3 | exact h.sw4 | exact h.sw5 | exact h.sw6 | exact h.sw7 | exact h.sw8 | exact h.pull2 | exact h.pull3 | exact h.pull4 | exact h.pull5 | exact h.fit)) ((ModNew_bad W0 n _ hn).mono ?_)))
  rintro v H' ⟨rfl, rfl⟩
  iterate 5 (first | refine rs_ex rfl (by (first | (constructor <;> first | rfl | exact RdC.rd | exact inferInstance) | exact Ex.pickF rfl rfl | exact Ex.eqlS rfl rfl | exact Ex.neqS rfl rfl | exact Ex.eqlPN rfl rfl | exact Ex.neqPN rfl rfl | exact Ex.eqlSN rfl rfl | exact Ex.neqSN rfl rfl | exact Ex.lenStr rfl)) rfl ?_ | refine rs_skip rfl rfl ?_)
  refine rs_end ?_
  refine qe_then ?_
  refine ct_seq ?_
  refine ct_region ?_
  (first | refine rs_ex rfl (by (first | (constructor <;> first | rfl | exact RdC.rd | exact inferInstance) | exact Ex.pickF rfl rfl | exact Ex.eqlS rfl rfl | exact Ex.neqS rfl rfl | exact Ex.eqlPN rfl rfl | exact Ex.neqPN rfl rfl | exact Ex.eqlSN rfl rfl | exact Ex.neqSN rfl rfl | exact Ex.lenStr rfl)) rfl ?_ | refine rs_skip rfl rfl ?_)
  refine rs_op rfl rfl (opR_fn rfl (Call.heap (fun w h => by (first | exact h | exact h.sw1 | exact h.sw2 | exact h.sw3 | exact h.sw4 | exact h.sw5 | exact h.sw6 | exact h.sw7 | exact h.sw8 | exact h.pull2 | exact h.pull3 | exact h.pull4 | exact h.pull5 | exact h.fit)) ((RNew_bad W0 n _ hn).mono ?_)))
  rintro v H' ⟨rfl, rfl⟩
  iterate 5 (first | refine rs_ex rfl (by (first | (constructor <;> first | rfl | exact RdC.rd | exact inferInstance) | exact Ex.pickF rfl rfl | exact Ex.eqlS rfl rfl | exact Ex.neqS rfl rfl | exact Ex.eqlPN rfl rfl | exact Ex.neqPN rfl rfl | exact Ex.eqlSN rfl rfl | exact Ex.neqSN rfl rfl | exact Ex.lenStr rfl)) rfl ?_ | refine rs_skip rfl rfl ?_)
  refine rs_end ?_
  refine qe_then ?_
  refine ct_seq ?_
  refine ct_seq ?_
  refine ct_region ?_
  iterate 3 (first | refine rs_ex rfl (by (first | (constructor <;> first | rfl | exact RdC.rd | exact inferInstance) | exact Ex.pickF rfl rfl | exact Ex.eqlS rfl rfl | exact Ex.neqS rfl rfl | exact Ex.eqlPN rfl rfl | exact Ex.neqPN rfl rfl | exact Ex.eqlSN rfl rfl | exact Ex.neqSN rfl rfl | exact Ex.lenStr rfl)) rfl ?_ | refine rs_skip rfl rfl ?_)
  refine rs_split (fun h28 => ?_) (fun h28 => by simp at h28)
  iterate 3 (first | refine rs_ex rfl (by (first | (constructor <;> first | rfl | exact RdC.rd | exact inferInstance) | exact Ex.pickF rfl rfl | exact Ex.eqlS rfl rfl | exact Ex.neqS rfl rfl | exact Ex.eqlPN rfl rfl | exact Ex.neqPN rfl rfl | exact Ex.eqlSN rfl rfl | exact Ex.neqSN rfl rfl | exact Ex.lenStr rfl)) rfl ?_ | refine rs_skip rfl rfl ?_)
  refine rs_end ?_
  refine qe_then ?_
  refine ct_cond rfl (fun _ => ?_) (fun h => absurd h (by decide))
  refine ct_seq ?_
  refine ct_region ?_
  iterate 2 (first | refine rs_ex rfl (by (first | (constructor <;> first | rfl | exact RdC.rd | exact inferInstance) | exact Ex.pickF rfl rfl | exact Ex.eqlS rfl rfl | exact Ex.neqS rfl rfl | exact Ex.eqlPN rfl rfl | exact Ex.neqPN rfl rfl | exact Ex.eqlSN rfl rfl | exact Ex.neqSN rfl rfl | exact Ex.lenStr rfl)) rfl ?_ | refine rs_skip rfl rfl ?_)
  refine rs_split (fun h33 => ?_) (fun h33 => by simp at h33)
  iterate 5 (first | refine rs_ex rfl (by (first | (constructor <;> first | rfl | exact RdC.rd | exact inferInstance) | exact Ex.pickF rfl rfl | exact Ex.eqlS rfl rfl | exact Ex.neqS rfl rfl | exact Ex.eqlPN rfl rfl | exact Ex.neqPN rfl rfl | exact Ex.eqlSN rfl rfl | exact Ex.neqSN rfl rfl | exact Ex.lenStr rfl)) rfl ?_ | refine rs_skip rfl rfl ?_)
  refine rs_end ?_
  refine qe_then ?_
  refine ct_ret ?_
  exact ret1 rfl rfl rfl
theorem ModelHappens_ok (W0 : World) (k : Nat) (p : Option Addr) (c : Nat) (l : List Happ) (f : Int) (h1 : SlR (At W0 []) p l) (hk1 : 1 ≤ k) (hk2 : k ≤ 16) :
    Call Try.prog W0 9 [.int .i64 (k : Int), .slice p l.length c, .int .i64 f] [] (fun v _ => v = .bool true) := by
  refine call_enter Try.func9 rfl Try.ntmps9 rfl ?_

  refine ct_seq ?_
  refine ct_region ?_
  (first | refine rs_ex rfl (by (first | (constructor <;> first | rfl | exact RdC.rd | exact inferInstance) | exact Ex.pickF rfl rfl | exact Ex.eqlS rfl rfl | exact Ex.neqS rfl rfl | exact Ex.eqlPN rfl rfl | exact Ex.neqPN rfl rfl | exact Ex.eqlSN rfl rfl | exact Ex.neqSN rfl rfl | exact Ex.lenStr rfl)) rfl ?_ | refine rs_skip rfl rfl ?_)
  refine rs_end ?_
  refine qe_then ?_
  refine ct_seq ?_
  refine ct_region ?_
  refine rs_op rfl rfl (opR_fn rfl (Call.heap (fun w h => by (first | exact h | exact h.sw1 | exact h.sw2 | exact h.sw3 | exact h.sw4 | exact h.sw5 | exact h.sw6 | exact h.sw7 | exact h.sw8 | exact h.pull2 | exact h.pull3 | exact h.pull4 | exact h.pull5 | exact h.fit)) ((Shown16_c W0 _).mono ?_)))
  rintro v H' ⟨rfl, rfl⟩
  (first | refine rs_ex rfl (by (first | (constructor <;> first | rfl | exact RdC.rd | exact inferInstance) | exact Ex.pickF rfl rfl | exact Ex.eqlS rfl rfl | exact Ex.neqS rfl rfl | exact Ex.eqlPN rfl rfl | exact Ex.neqPN rfl rfl | exact Ex.eqlSN rfl rfl | exact Ex.neqSN rfl rfl | exact Ex.lenStr rfl)) rfl ?_ | refine rs_skip rfl rfl ?_)
  refine rs_end ?_
  refine qe_then ?_
  refine ct_seq ?_
  refine ct_region ?_
  (first | refine rs_ex rfl (by (first | (constructor <;> first | rfl | exact RdC.rd | exact inferInstance) | exact Ex.pickF rfl rfl | exact Ex.eqlS rfl rfl | exact Ex.neqS rfl rfl | exact Ex.eqlPN rfl rfl | exact Ex.neqPN rfl rfl | exact Ex.eqlSN rfl rfl | exact Ex.neqSN rfl rfl | exact Ex.lenStr rfl)) rfl ?_ | refine rs_skip rfl rfl ?_)
  refine rs_op rfl rfl (opR_fn rfl (Call.heap (fun w h => by (first | exact h | exact h.sw1 | exact h.sw2 | exact h.sw3 | exact h.sw4 | exact h.sw5 | exact h.sw6 | exact h.sw7 | exact h.sw8 | exact h.pull2 | exact h.pull3 | exact h.pull4 | exact h.pull5 | exact h.fit)) ((Few_c W0 p c l _ h1).mono ?_)))
  rintro v H' rfl
  (first | refine rs_ex rfl (by (first | (constructor <;> first | rfl | exact RdC.rd | exact inferInstance) | exact Ex.pickF rfl rfl | exact Ex.eqlS rfl rfl | exact Ex.neqS rfl rfl | exact Ex.eqlPN rfl rfl | exact Ex.neqPN rfl rfl | exact Ex.eqlSN rfl rfl | exact Ex.neqSN rfl rfl | exact Ex.lenStr rfl)) rfl ?_ | refine rs_skip rfl rfl ?_)
  refine rs_end ?_
  refine qe_then ?_
  refine ct_pr (fun w h => h.slv) ?_; rintro ⟨p1, c1, e, hv1⟩
  cases e
  have hL := fewL_length l
  generalize fewL l = L at *
  refine ct_seq ?_
  refine ct_region ?_
  (first | refine rs_ex rfl (by (first | (constructor <;> first | rfl | exact RdC.rd | exact inferInstance) | exact Ex.pickF rfl rfl | exact Ex.eqlS rfl rfl | exact Ex.neqS rfl rfl | exact Ex.eqlPN rfl rfl | exact Ex.neqPN rfl rfl | exact Ex.eqlSN rfl rfl | exact Ex.neqSN rfl rfl | exact Ex.lenStr rfl)) rfl ?_ | refine rs_skip rfl rfl ?_)
  refine rs_op rfl rfl (opR_fn rfl (Call.heap (fun w h => by (first | exact h | exact h.sw1 | exact h.sw2 | exact h.sw3 | exact h.sw4 | exact h.sw5 | exact h.sw6 | exact h.sw7 | exact h.sw8 | exact h.pull2 | exact h.pull3 | exact h.pull4 | exact h.pull5 | exact h.fit)) ((ModNew_ok W0 k _ hk1 hk2).mono ?_)))
  rintro v H' ⟨bm, rfl, rfl⟩
  iterate 5 (first | refine rs_ex rfl (by (first | (constructor <;> first | rfl | exact RdC.rd | exact inferInstance) | exact Ex.pickF rfl rfl | exact Ex.eqlS rfl rfl | exact Ex.neqS rfl rfl | exact Ex.eqlPN rfl rfl | exact Ex.neqPN rfl rfl | exact Ex.eqlSN rfl rfl | exact Ex.neqSN rfl rfl | exact Ex.lenStr rfl)) rfl ?_ | refine rs_skip rfl rfl ?_)
  refine rs_end ?_
  refine qe_then ?_
  refine ct_seq ?_
  refine ct_region ?_
  (first | refine rs_ex rfl (by (first | (constructor <;> first | rfl | exact RdC.rd | exact inferInstance) | exact Ex.pickF rfl rfl | exact Ex.eqlS rfl rfl | exact Ex.neqS rfl rfl | exact Ex.eqlPN rfl rfl | exact Ex.neqPN rfl rfl | exact Ex.eqlSN rfl rfl | exact Ex.neqSN rfl rfl | exact Ex.lenStr rfl)) rfl ?_ | refine rs_skip rfl rfl ?_)
  refine rs_op rfl rfl (opR_fn rfl (Call.heap (fun w h => by (first | exact h | exact h.sw1 | exact h.sw2 | exact h.sw3 | exact h.sw4 | exact h.sw5 | exact h.sw6 | exact h.sw7 | exact h.sw8 | exact h.pull2 | exact h.pull3 | exact h.pull4 | exact h.pull5 | exact h.fit)) ((RNew_ok W0 k _ hk1 hk2).mono ?_)))
  rintro v H' ⟨br, rfl, rfl⟩
  iterate 5 (first | refine rs_ex rfl (by (first | (constructor <;> first | rfl | exact RdC.rd | exact inferInstance) | exact Ex.pickF rfl rfl | exact Ex.eqlS rfl rfl | exact Ex.neqS rfl rfl | exact Ex.eqlPN rfl rfl | exact Ex.neqPN rfl rfl | exact Ex.eqlSN rfl rfl | exact Ex.neqSN rfl rfl | exact Ex.lenStr rfl)) rfl ?_ | refine rs_skip rfl rfl ?_)
  refine rs_end ?_
  refine qe_then ?_
  refine ct_seq ?_
  refine ct_seq ?_
  refine ct_region ?_
  iterate 3 (first | refine rs_ex rfl (by (first | (constructor <;> first | rfl | exact RdC.rd | exact inferInstance) | exact Ex.pickF rfl rfl | exact Ex.eqlS rfl rfl | exact Ex.neqS rfl rfl | exact Ex.eqlPN rfl rfl | exact Ex.neqPN rfl rfl | exact Ex.eqlSN rfl rfl | exact Ex.neqSN rfl rfl | exact Ex.lenStr rfl)) rfl ?_ | refine rs_skip rfl rfl ?_)
  refine rs_split (fun h28 => by simp at h28) (fun h28 => ?_)
  iterate 3 (first | refine rs_ex rfl (by (first | (constructor <;> first | rfl | exact RdC.rd | exact inferInstance) | exact Ex.pickF rfl rfl | exact Ex.eqlS rfl rfl | exact Ex.neqS rfl rfl | exact Ex.eqlPN rfl rfl | exact Ex.neqPN rfl rfl | exact Ex.eqlSN rfl rfl | exact Ex.neqSN rfl rfl | exact Ex.lenStr rfl)) rfl ?_ | refine rs_skip rfl rfl ?_)
  refine rs_end ?_
  refine qe_then ?_
  refine ct_cond rfl (fun h31 => by simp at h31) (fun h31 => ?_)
  refine ct_skip ?_
  refine qe_then ?_
  refine ct_seq ?_
  refine ct_seq ?_
  refine ct_region ?_
  (first | refine rs_ex rfl (by (first | (constructor <;> first | rfl | exact RdC.rd | exact inferInstance) | exact Ex.pickF rfl rfl | exact Ex.eqlS rfl rfl | exact Ex.neqS rfl rfl | exact Ex.eqlPN rfl rfl | exact Ex.neqPN rfl rfl | exact Ex.eqlSN rfl rfl | exact Ex.neqSN rfl rfl | exact Ex.lenStr rfl)) rfl ?_ | refine rs_skip rfl rfl ?_)
  refine rs_end ?_
  refine qe_then ?_
  refine ct_block ?_
  refine ct_loopc (ζ := Nat × Mod × RMod) (fun z => z.1 ≤ L.length ∧ Sim z.2.1 z.2.2 ∧ z.2.1.Ok z.1 ∧ z.2.2.Ok z.1 ∧ z.2.1.del.length = k) [(1, _), (2, _), (7, _), (8, _), (10, _)] (fun z => [(12, .int .i64 (z.1 : Int))]) (fun z => ModC bm z.2.1 :: RModC br z.2.2 :: SlT 52 (.slice p1 L.length c1) L :: []) (fun z => L.length - z.1) ((0, Mod.new k, RMod.new k)) (⟨Nat.zero_le _, sim_new k, Mod.ok_new k, RMod.ok_new k, by simp [Mod.new]⟩) ⟨rfl, rfl, rfl, rfl, rfl, rfl, trivial⟩ (fun w h => by first | exact h.fit | exact h) ?_
  rintro ⟨i, s, r⟩ ⟨hi, hsim, hs, hr, hd⟩
  simp only at hi hsim hs hr hd ⊢
  refine ct_seq ?_
  refine ct_seq ?_
  refine ct_region ?_
  iterate 4 (first | refine rs_ex rfl (by (first | (constructor <;> first | rfl | exact RdC.rd | exact inferInstance) | exact Ex.pickF rfl rfl | exact Ex.eqlS rfl rfl | exact Ex.neqS rfl rfl | exact Ex.eqlPN rfl rfl | exact Ex.neqPN rfl rfl | exact Ex.eqlSN rfl rfl | exact Ex.neqSN rfl rfl | exact Ex.lenStr rfl)) rfl ?_ | refine rs_skip rfl rfl ?_)
  refine rs_end ?_
  refine qe_then ?_
  refine ct_cond rfl (fun h41 => ?_) (fun h41 => ?_)
  · have hi1 : i < L.length := by simp at h41; exact h41
    obtain ⟨b1, rfl⟩ := hv1.some hi1
    obtain ⟨x, hx⟩ : ∃ x, x = L[i] := ⟨_, rfl⟩
    have hg : L[i]? = some x := by rw [hx]; exact List.getElem?_eq_getElem hi1
    have hst := sim_happen hsim hs hr (by omega) x
    have hs' := hs.happen (by omega) x
    have hr' := hr.happen x
    have hd' := happen_del s x
    rw [hd] at hd'
    refine ct_skip ?_
    refine qe_then ?_
    refine ct_seq ?_
    refine ct_block ?_
    refine ct_seq ?_
    refine ct_drawP [2] (by kernel_rfl) ?_
    refine ra_take 0 rfl (by kernel_rfl) (by kernel_rfl) rfl (by (first | (constructor <;> first | rfl | exact RdC.rd | exact inferInstance) | exact Ex.pickF rfl rfl | exact Ex.eqlS rfl rfl | exact Ex.neqS rfl rfl | exact Ex.eqlPN rfl rfl | exact Ex.neqPN rfl rfl | exact Ex.eqlSN rfl rfl | exact Ex.neqSN rfl rfl | exact Ex.lenStr rfl)) rfl (fun _ h => h.fit) ?_
    refine ra_take 1 rfl (by kernel_rfl) (by kernel_rfl) rfl (by (first | (constructor <;> first | rfl | exact RdC.rd | exact inferInstance) | exact Ex.pickF rfl rfl | exact Ex.eqlS rfl rfl | exact Ex.neqS rfl rfl | exact Ex.eqlPN rfl rfl | exact Ex.neqPN rfl rfl | exact Ex.eqlSN rfl rfl | exact Ex.neqSN rfl rfl | exact Ex.lenStr rfl)) rfl (fun _ h => h.fit) ?_
    refine ra_take 2 rfl (by kernel_rfl) (by kernel_rfl) rfl (by (first | (constructor <;> first | rfl | exact RdC.rd | exact inferInstance) | exact Ex.pickF rfl rfl | exact Ex.eqlS rfl rfl | exact Ex.neqS rfl rfl | exact Ex.eqlPN rfl rfl | exact Ex.neqPN rfl rfl | exact Ex.eqlSN rfl rfl | exact Ex.neqSN rfl rfl | exact Ex.lenStr rfl)) rfl (fun _ h => h.fit) ?_
    refine ra_take 3 rfl (by kernel_rfl) (by kernel_rfl) rfl (ex_indexAddr rfl rfl (by omega) (by omega)) rfl (fun _ h => h.fit) ?_
    refine ra_take 4 rfl (by kernel_rfl) (by kernel_rfl) rfl (ex_loadHapp x rfl (RdE.get hg)) rfl (fun _ h => h.fit) ?_
    refine ra_take 6 rfl (by kernel_rfl) (by kernel_rfl) rfl (by (first | (constructor <;> first | rfl | exact RdC.rd | exact inferInstance) | exact Ex.pickF rfl rfl | exact Ex.eqlS rfl rfl | exact Ex.neqS rfl rfl | exact Ex.eqlPN rfl rfl | exact Ex.neqPN rfl rfl | exact Ex.eqlSN rfl rfl | exact Ex.neqSN rfl rfl | exact Ex.lenStr rfl)) rfl (fun _ h => h.fit) ?_
    refine ra_take 7 rfl (by kernel_rfl) (by kernel_rfl) rfl (by (first | (constructor <;> first | rfl | exact RdC.rd | exact inferInstance) | exact Ex.pickF rfl rfl | exact Ex.eqlS rfl rfl | exact Ex.neqS rfl rfl | exact Ex.eqlPN rfl rfl | exact Ex.neqPN rfl rfl | exact Ex.eqlSN rfl rfl | exact Ex.neqSN rfl rfl | exact Ex.lenStr rfl)) rfl (fun _ h => h.fit) ?_
    refine ra_take 8 rfl (by kernel_rfl) (by kernel_rfl) rfl (by (first | (constructor <;> first | rfl | exact RdC.rd | exact inferInstance) | exact Ex.pickF rfl rfl | exact Ex.eqlS rfl rfl | exact Ex.neqS rfl rfl | exact Ex.eqlPN rfl rfl | exact Ex.neqPN rfl rfl | exact Ex.eqlSN rfl rfl | exact Ex.neqSN rfl rfl | exact Ex.lenStr rfl)) rfl (fun _ h => h.fit) ?_
    refine ra_take 9 rfl (by kernel_rfl) (by kernel_rfl) rfl (ex_indexAddr rfl rfl (by omega) (by omega)) rfl (fun _ h => h.fit) ?_
    refine ra_take 10 rfl (by kernel_rfl) (by kernel_rfl) rfl (ex_loadHapp x rfl (RdE.get hg)) rfl (fun _ h => h.fit) ?_
    refine ra_all (rs := [5]) (by kernel_rfl) rfl ?_
    refine each_op rfl rfl rfl (opR_fn rfl (Call.heap (fun w h => by (first | exact h | exact h.sw1 | exact h.sw2 | exact h.sw3 | exact h.sw4 | exact h.sw5 | exact h.sw6 | exact h.sw7 | exact h.sw8 | exact h.pull2 | exact h.pull3 | exact h.pull4 | exact h.pull5 | exact h.fit)) ((Happen_c W0 bm i s x _ hs (by omega) (by omega)).mono ?_))) each_nil
    rintro v H' ⟨rfl, rfl⟩
    refine ⟨.inr (fun w h => h.fit), ?_⟩
    refine ra_all (rs := [11]) (by kernel_rfl) rfl ?_
    refine each_op rfl rfl rfl (opR_fn rfl (Call.heap (fun w h => by (first | exact h | exact h.sw1 | exact h.sw2 | exact h.sw3 | exact h.sw4 | exact h.sw5 | exact h.sw6 | exact h.sw7 | exact h.sw8 | exact h.pull2 | exact h.pull3 | exact h.pull4 | exact h.pull5 | exact h.fit)) ((RHappen_c W0 br i r x _ hr (by omega)).mono ?_))) each_nil
    rintro v H' ⟨rfl, rfl⟩
    refine ⟨.inr (fun w h => h.fit), ?_⟩
    refine ra_exs (fun w h => RModC.open h) ?_
    rintro ⟨av, lv, dp⟩
    refine ra_prp (fun w h => h.sw2.slv) ?_
    rintro ⟨p2, c2, e, hv2⟩
    simp only at e ⊢
    subst e
    refine ra_SP [0, 1, 2, 3, 5] (fun w h => h.fit) ?_
    have hsim' := hst.2
    have hst1 := hst.1
    generalize (s.happen x).2 = s' at *
    generalize (r.happen x).2 = r' at *
    have hlen := hs'.bk.len
    have hlr := hr'.log
    refine ra_take 12 rfl (by kernel_rfl) (by kernel_rfl) rfl (by (first | (constructor <;> first | rfl | exact RdC.rd | exact inferInstance) | exact Ex.pickF rfl rfl | exact Ex.eqlS rfl rfl | exact Ex.neqS rfl rfl | exact Ex.eqlPN rfl rfl | exact Ex.neqPN rfl rfl | exact Ex.eqlSN rfl rfl | exact Ex.neqSN rfl rfl | exact Ex.lenStr rfl)) rfl (fun _ h => h.fit) ?_
    refine ra_take 13 rfl (by kernel_rfl) (by kernel_rfl) rfl (by (first | (constructor <;> first | rfl | exact RdC.rd | exact inferInstance) | exact Ex.pickF rfl rfl | exact Ex.eqlS rfl rfl | exact Ex.neqS rfl rfl | exact Ex.eqlPN rfl rfl | exact Ex.neqPN rfl rfl | exact Ex.eqlSN rfl rfl | exact Ex.neqSN rfl rfl | exact Ex.lenStr rfl)) rfl (fun _ h => h.fit) ?_
    refine ra_split (fun h57 => by simp [hst1] at h57) (fun h57 => ?_)
    refine ra_take 14 rfl (by kernel_rfl) (by kernel_rfl) rfl (by (first | (constructor <;> first | rfl | exact RdC.rd | exact inferInstance) | exact Ex.pickF rfl rfl | exact Ex.eqlS rfl rfl | exact Ex.neqS rfl rfl | exact Ex.eqlPN rfl rfl | exact Ex.neqPN rfl rfl | exact Ex.eqlSN rfl rfl | exact Ex.neqSN rfl rfl | exact Ex.lenStr rfl)) rfl (fun _ h => h.fit) ?_
    refine ra_take 16 rfl (by kernel_rfl) (by kernel_rfl) rfl (by (first | (constructor <;> first | rfl | exact RdC.rd | exact inferInstance) | exact Ex.pickF rfl rfl | exact Ex.eqlS rfl rfl | exact Ex.neqS rfl rfl | exact Ex.eqlPN rfl rfl | exact Ex.neqPN rfl rfl | exact Ex.eqlSN rfl rfl | exact Ex.neqSN rfl rfl | exact Ex.lenStr rfl)) rfl (fun _ h => h.fit) ?_
    refine ra_take 17 rfl (by kernel_rfl) (by kernel_rfl) rfl (by (first | (constructor <;> first | rfl | exact RdC.rd | exact inferInstance) | exact Ex.pickF rfl rfl | exact Ex.eqlS rfl rfl | exact Ex.neqS rfl rfl | exact Ex.eqlPN rfl rfl | exact Ex.neqPN rfl rfl | exact Ex.eqlSN rfl rfl | exact Ex.neqSN rfl rfl | exact Ex.lenStr rfl)) rfl (fun _ h => h.fit) ?_
    refine ra_take 18 rfl (by kernel_rfl) (by kernel_rfl) rfl (by (first | (constructor <;> first | rfl | exact RdC.rd | exact inferInstance) | exact Ex.pickF rfl rfl | exact Ex.eqlS rfl rfl | exact Ex.neqS rfl rfl | exact Ex.eqlPN rfl rfl | exact Ex.neqPN rfl rfl | exact Ex.eqlSN rfl rfl | exact Ex.neqSN rfl rfl | exact Ex.lenStr rfl)) rfl (fun _ h => h.fit) ?_
    refine ra_take 19 rfl (by kernel_rfl) (by kernel_rfl) rfl (by (first | (constructor <;> first | rfl | exact RdC.rd | exact inferInstance) | exact Ex.pickF rfl rfl | exact Ex.eqlS rfl rfl | exact Ex.neqS rfl rfl | exact Ex.eqlPN rfl rfl | exact Ex.neqPN rfl rfl | exact Ex.eqlSN rfl rfl | exact Ex.neqSN rfl rfl | exact Ex.lenStr rfl)) rfl (fun _ h => h.fit) ?_
    refine ra_all (rs := [15]) (by kernel_rfl) rfl ?_
    refine each_op rfl rfl rfl (opR_fn rfl (Call.heap (fun w h => by (first | exact h | exact h.sw1 | exact h.sw2 | exact h.sw3 | exact h.sw4 | exact h.sw5 | exact h.sw6 | exact h.sw7 | exact h.sw8 | exact h.pull2 | exact h.pull3 | exact h.pull4 | exact h.pull5 | exact h.fit)) ((ModLog_c W0 bm s' _ (by omega)).mono ?_))) each_nil
    rintro v H' rfl
    refine ⟨.inr (fun w h => h.fit), ?_⟩
    refine ra_prp (fun w h => h.slv) ?_
    rintro ⟨p3, c3, e, hv3⟩
    subst e
    refine ra_all (rs := [20]) (by kernel_rfl) rfl ?_
    refine each_op rfl rfl rfl (opR_fn rfl (Call.heap (fun w h => by (first | exact h | exact h.sw1 | exact h.sw2 | exact h.sw3 | exact h.sw4 | exact h.sw5 | exact h.sw6 | exact h.sw7 | exact h.sw8 | exact h.pull2 | exact h.pull3 | exact h.pull4 | exact h.pull5 | exact h.fit)) ((Same_c W0 p3 c3 s'.book.log p2 c2 r'.log _ (by exact RdS.slR (len := s'.book.log.length) inferInstance hv3) (by exact RdS.slR (len := r'.log.length) inferInstance hv2) (by omega)).mono ?_))) each_nil
    rintro v H' ⟨rfl, rfl⟩
    refine ⟨.inr (fun w h => h.fit), ?_⟩
    refine ra_take 21 rfl (by kernel_rfl) (by kernel_rfl) rfl (by (first | (constructor <;> first | rfl | exact RdC.rd | exact inferInstance) | exact Ex.pickF rfl rfl | exact Ex.eqlS rfl rfl | exact Ex.neqS rfl rfl | exact Ex.eqlPN rfl rfl | exact Ex.neqPN rfl rfl | exact Ex.eqlSN rfl rfl | exact Ex.neqSN rfl rfl | exact Ex.lenStr rfl)) rfl (fun _ h => h.fit) ?_
    refine ra_take 22 rfl (by kernel_rfl) (by kernel_rfl) rfl (by (first | (constructor <;> first | rfl | exact RdC.rd | exact inferInstance) | exact Ex.pickF rfl rfl | exact Ex.eqlS rfl rfl | exact Ex.neqS rfl rfl | exact Ex.eqlPN rfl rfl | exact Ex.neqPN rfl rfl | exact Ex.eqlSN rfl rfl | exact Ex.neqSN rfl rfl | exact Ex.lenStr rfl)) rfl (fun _ h => h.fit) ?_
    refine ra_take 23 rfl (by kernel_rfl) (by kernel_rfl) rfl (by (first | (constructor <;> first | rfl | exact RdC.rd | exact inferInstance) | exact Ex.pickF rfl rfl | exact Ex.eqlS rfl rfl | exact Ex.neqS rfl rfl | exact Ex.eqlPN rfl rfl | exact Ex.neqPN rfl rfl | exact Ex.eqlSN rfl rfl | exact Ex.neqSN rfl rfl | exact Ex.lenStr rfl)) rfl (fun _ h => h.fit) ?_
    refine ra_split (fun h67 => by simp [hsim'.log] at h67) (fun h67 => ?_)
    refine ra_take 24 rfl (by kernel_rfl) (by kernel_rfl) rfl (by (first | (constructor <;> first | rfl | exact RdC.rd | exact inferInstance) | exact Ex.pickF rfl rfl | exact Ex.eqlS rfl rfl | exact Ex.neqS rfl rfl | exact Ex.eqlPN rfl rfl | exact Ex.neqPN rfl rfl | exact Ex.eqlSN rfl rfl | exact Ex.neqSN rfl rfl | exact Ex.lenStr rfl)) rfl (fun _ h => h.fit) ?_
    refine ra_take 25 rfl (by kernel_rfl) (by kernel_rfl) rfl (by (first | (constructor <;> first | rfl | exact RdC.rd | exact inferInstance) | exact Ex.pickF rfl rfl | exact Ex.eqlS rfl rfl | exact Ex.neqS rfl rfl | exact Ex.eqlPN rfl rfl | exact Ex.neqPN rfl rfl | exact Ex.eqlSN rfl rfl | exact Ex.neqSN rfl rfl | exact Ex.lenStr rfl)) rfl (fun _ h => h.fit) ?_
    refine ra_take 27 rfl (by kernel_rfl) (by kernel_rfl) rfl (by (first | (constructor <;> first | rfl | exact RdC.rd | exact inferInstance) | exact Ex.pickF rfl rfl | exact Ex.eqlS rfl rfl | exact Ex.neqS rfl rfl | exact Ex.eqlPN rfl rfl | exact Ex.neqPN rfl rfl | exact Ex.eqlSN rfl rfl | exact Ex.neqSN rfl rfl | exact Ex.lenStr rfl)) rfl (fun _ h => h.fit) ?_
    refine ra_take 28 rfl (by kernel_rfl) (by kernel_rfl) rfl (by (first | (constructor <;> first | rfl | exact RdC.rd | exact inferInstance) | exact Ex.pickF rfl rfl | exact Ex.eqlS rfl rfl | exact Ex.neqS rfl rfl | exact Ex.eqlPN rfl rfl | exact Ex.neqPN rfl rfl | exact Ex.eqlSN rfl rfl | exact Ex.neqSN rfl rfl | exact Ex.lenStr rfl)) rfl (fun _ h => h.fit) ?_
    refine ra_all (rs := [26]) (by kernel_rfl) rfl ?_
    refine each_op rfl rfl rfl (opR_fn rfl (Call.heap (fun w h => by (first | exact h | exact h.sw1 | exact h.sw2 | exact h.sw3 | exact h.sw4 | exact h.sw5 | exact h.sw6 | exact h.sw7 | exact h.sw8 | exact h.pull2 | exact h.pull3 | exact h.pull4 | exact h.pull5 | exact h.fit)) ((Behind_c W0 bm (i + 1) s' f _ hs' (by omega)).mono ?_))) each_nil
    rintro v H' ⟨rfl, rfl⟩
    refine ⟨.inr (fun w h => h.fit), ?_⟩
    refine ra_all (rs := [29]) (by kernel_rfl) rfl ?_
    refine each_op rfl rfl rfl (opR_fn rfl (Call.heap (fun w h => by (first | exact h | exact h.sw1 | exact h.sw2 | exact h.sw3 | exact h.sw4 | exact h.sw5 | exact h.sw6 | exact h.sw7 | exact h.sw8 | exact h.pull2 | exact h.pull3 | exact h.pull4 | exact h.pull5 | exact h.fit)) ((RBehind_o W0 br dp c2 av p2 r' f _ hr'.dl (by omega)).mono ?_))) each_nil
    rintro v H' ⟨rfl, rfl⟩
    refine ⟨.inr (fun w h => h.fit), ?_⟩
    refine ra_take 30 rfl (by kernel_rfl) (by kernel_rfl) rfl (by (first | (constructor <;> first | rfl | exact RdC.rd | exact inferInstance) | exact Ex.pickF rfl rfl | exact Ex.eqlS rfl rfl | exact Ex.neqS rfl rfl | exact Ex.eqlPN rfl rfl | exact Ex.neqPN rfl rfl | exact Ex.eqlSN rfl rfl | exact Ex.neqSN rfl rfl | exact Ex.lenStr rfl)) rfl (fun _ h => h.fit) ?_
    refine ra_take 31 rfl (by kernel_rfl) (by kernel_rfl) rfl (by (first | (constructor <;> first | rfl | exact RdC.rd | exact inferInstance) | exact Ex.pickF rfl rfl | exact Ex.eqlS rfl rfl | exact Ex.neqS rfl rfl | exact Ex.eqlPN rfl rfl | exact Ex.neqPN rfl rfl | exact Ex.eqlSN rfl rfl | exact Ex.neqSN rfl rfl | exact Ex.lenStr rfl)) rfl (fun _ h => h.fit) ?_
    refine ra_end (by kernel_rfl) ?_
    refine qe_then ?_
    refine ct_cond rfl (fun h75 => by simp [sim_behind hsim'] at h75) (fun h75 => ?_)
    refine ct_skip ?_
    refine qe_block 1 ?_
    refine qe_then ?_
    refine ct_region ?_
    iterate 2 (first | refine rs_ex rfl (by (first | (constructor <;> first | rfl | exact RdC.rd | exact inferInstance) | exact Ex.pickF rfl rfl | exact Ex.eqlS rfl rfl | exact Ex.neqS rfl rfl | exact Ex.eqlPN rfl rfl | exact Ex.neqPN rfl rfl | exact Ex.eqlSN rfl rfl | exact Ex.neqSN rfl rfl | exact Ex.lenStr rfl)) rfl ?_ | refine rs_skip rfl rfl ?_)
    refine rs_rw (by rw [wrapS (by omega)]) ?_
    (first | refine rs_ex rfl (by (first | (constructor <;> first | rfl | exact RdC.rd | exact inferInstance) | exact Ex.pickF rfl rfl | exact Ex.eqlS rfl rfl | exact Ex.neqS rfl rfl | exact Ex.eqlPN rfl rfl | exact Ex.neqPN rfl rfl | exact Ex.eqlSN rfl rfl | exact Ex.neqSN rfl rfl | exact Ex.lenStr rfl)) rfl ?_ | refine rs_skip rfl rfl ?_)
    refine rs_end ?_
    refine qe_loopc ((i + 1, s', r')) (⟨by simp only; omega, hsim', hs', hr', hd'⟩) (by first | omega | (simp only; omega)) ⟨rfl, rfl, rfl, rfl, rfl, rfl, trivial⟩ (fun w h => At.sw1 (RModC.shut (dp := dp) (u := av) (v := .slice p2 r'.log.length c2) h.fit))
  · refine ct_exit ?_
    refine qe_then_exit ?_
    refine qe_loop_exit ?_
    refine qe_block_exit ?_
    refine qe_then ?_
    refine ct_seq ?_
    refine ct_region ?_
    iterate 2 (first | refine rs_ex rfl (by (first | (constructor <;> first | rfl | exact RdC.rd | exact inferInstance) | exact Ex.pickF rfl rfl | exact Ex.eqlS rfl rfl | exact Ex.neqS rfl rfl | exact Ex.eqlPN rfl rfl | exact Ex.neqPN rfl rfl | exact Ex.eqlSN rfl rfl | exact Ex.neqSN rfl rfl | exact Ex.lenStr rfl)) rfl ?_ | refine rs_skip rfl rfl ?_)
    refine rs_end ?_
    refine qe_then ?_
    refine ct_ret ?_
    exact ret1 rfl rfl rfl
theorem ModelHappens_c (W0 : World) (n : Int) (p : Option Addr) (c : Nat) (l : List Happ) (f : Int) (h1 : SlR (At W0 []) p l) :
    Call Try.prog W0 9 [.int .i64 n, .slice p l.length c, .int .i64 f] [] (fun v _ => v = .bool true) := by
  by_cases hn : n < 1 ∨ 16 < n
  · exact ModelHappens_bad W0 n p c l f h1 hn
  · obtain ⟨k, rfl⟩ : ∃ k : Nat, n = (k : Int) := ⟨n.toNat, by omega⟩
    exact ModelHappens_ok W0 k p c l f h1 (by omega) (by omega)
end Go.Rost
