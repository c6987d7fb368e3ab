/- The law EpochStale: what it does. -/
import Derived.Test.YtebdfelodihdhaaLe
namespace Go.Rost
open Go Go.RowKit Go.Proofs

theorem EpochStale_bad (W0 : World) (v : Int) (p : Option Addr) (c : Nat) (L : List EntP) (x : EntP) (hv : known v = false) :
    Call Try.prog W0 7 [.int .i64 v, .slice p L.length c, x.e.v x.p x.c] [] (fun v _ => v = .bool true) := by
  refine call_enter Try.func7 rfl Try.ntmps7 rfl ?_

  refine ct_seq ?_
  refine ct_region ?_
  refine rs_op rfl rfl (opR_box rfl fun b5 => ?_)
  (first | refine rs_ex rfl (by (first | (constructor <;> first | rfl | exact RdC.rd | exact inferInstance) | exact Ex.pickF rfl rfl | exact Ex.eqlS rfl rfl | exact Ex.neqS rfl rfl | exact Ex.eqlPN rfl rfl | exact Ex.neqPN rfl rfl | exact Ex.eqlSN rfl rfl | exact Ex.neqSN rfl rfl | exact Ex.lenStr rfl)) rfl ?_ | refine rs_skip rfl rfl ?_)
  refine rs_end ?_
  refine qe_then ?_
  refine ct_seq ?_
  refine ct_region ?_
  refine rs_op rfl rfl (opR_fn rfl (Call.heap (fun w h => by (first | exact h | exact h.sw1 | exact h.sw2 | exact h.sw3 | exact h.sw4 | exact h.sw5 | exact h.sw6 | exact h.sw7 | exact h.sw8 | exact h.pull2 | exact h.pull3 | exact h.pull4 | exact h.pull5 | exact h.fit)) ((Shown14_c W0 _).mono ?_)))
  rintro v H' ⟨rfl, rfl⟩
  (first | refine rs_ex rfl (by (first | (constructor <;> first | rfl | exact RdC.rd | exact inferInstance) | exact Ex.pickF rfl rfl | exact Ex.eqlS rfl rfl | exact Ex.neqS rfl rfl | exact Ex.eqlPN rfl rfl | exact Ex.neqPN rfl rfl | exact Ex.eqlSN rfl rfl | exact Ex.neqSN rfl rfl | exact Ex.lenStr rfl)) rfl ?_ | refine rs_skip rfl rfl ?_)
  refine rs_end ?_
  refine qe_then ?_
  refine ct_seq ?_
  refine ct_region ?_
  (first | refine rs_ex rfl (by (first | (constructor <;> first | rfl | exact RdC.rd | exact inferInstance) | exact Ex.pickF rfl rfl | exact Ex.eqlS rfl rfl | exact Ex.neqS rfl rfl | exact Ex.eqlPN rfl rfl | exact Ex.neqPN rfl rfl | exact Ex.eqlSN rfl rfl | exact Ex.neqSN rfl rfl | exact Ex.lenStr rfl)) rfl ?_ | refine rs_skip rfl rfl ?_)
  refine rs_op rfl rfl (opR_fn rfl (Call.heap (fun w h => by (first | exact h | exact h.sw1 | exact h.sw2 | exact h.sw3 | exact h.sw4 | exact h.sw5 | exact h.sw6 | exact h.sw7 | exact h.sw8 | exact h.pull2 | exact h.pull3 | exact h.pull4 | exact h.pull5 | exact h.fit)) ((New14_bad W0 v _ hv).mono ?_)))
  rintro v H' ⟨rfl, rfl⟩
  iterate 5 (first | refine rs_ex rfl (by (first | (constructor <;> first | rfl | exact RdC.rd | exact inferInstance) | exact Ex.pickF rfl rfl | exact Ex.eqlS rfl rfl | exact Ex.neqS rfl rfl | exact Ex.eqlPN rfl rfl | exact Ex.neqPN rfl rfl | exact Ex.eqlSN rfl rfl | exact Ex.neqSN rfl rfl | exact Ex.lenStr rfl)) rfl ?_ | refine rs_skip rfl rfl ?_)
  refine rs_end ?_
  refine qe_then ?_
  refine ct_seq ?_
  refine ct_seq ?_
  refine ct_region ?_
  iterate 2 (first | refine rs_ex rfl (by (first | (constructor <;> first | rfl | exact RdC.rd | exact inferInstance) | exact Ex.pickF rfl rfl | exact Ex.eqlS rfl rfl | exact Ex.neqS rfl rfl | exact Ex.eqlPN rfl rfl | exact Ex.neqPN rfl rfl | exact Ex.eqlSN rfl rfl | exact Ex.neqSN rfl rfl | exact Ex.lenStr rfl)) rfl ?_ | refine rs_skip rfl rfl ?_)
  refine rs_end ?_
  refine qe_then ?_
  refine ct_cond rfl (fun h24 => ?_) (fun h24 => by simp at h24)
  refine ct_seq ?_
  refine ct_region ?_
  iterate 2 (first | refine rs_ex rfl (by (first | (constructor <;> first | rfl | exact RdC.rd | exact inferInstance) | exact Ex.pickF rfl rfl | exact Ex.eqlS rfl rfl | exact Ex.neqS rfl rfl | exact Ex.eqlPN rfl rfl | exact Ex.neqPN rfl rfl | exact Ex.eqlSN rfl rfl | exact Ex.neqSN rfl rfl | exact Ex.lenStr rfl)) rfl ?_ | refine rs_skip rfl rfl ?_)
  refine rs_end ?_
  refine qe_then ?_
  refine ct_ret ?_
  exact ret1 rfl rfl rfl
theorem EpochStale_ok (W0 : World) (v : Int) (p : Option Addr) (c : Nat) (L : List EntP) (x : EntP) (h1 : SlR (At W0 []) p L) (hE : ∀ y ∈ L, y.Ok W0) (hx : x.Ok W0) (hv : known v = true) :
    Call Try.prog W0 7 [.int .i64 v, .slice p L.length c, x.e.v x.p x.c] [] (fun v _ => v = .bool true) := by
  refine call_enter Try.func7 rfl Try.ntmps7 rfl ?_

  refine ct_seq ?_
  refine ct_region ?_
  refine rs_op rfl rfl (opR_box rfl fun b5 => ?_)
  (first | refine rs_ex rfl (by (first | (constructor <;> first | rfl | exact RdC.rd | exact inferInstance) | exact Ex.pickF rfl rfl | exact Ex.eqlS rfl rfl | exact Ex.neqS rfl rfl | exact Ex.eqlPN rfl rfl | exact Ex.neqPN rfl rfl | exact Ex.eqlSN rfl rfl | exact Ex.neqSN rfl rfl | exact Ex.lenStr rfl)) rfl ?_ | refine rs_skip rfl rfl ?_)
  refine rs_end ?_
  refine qe_then ?_
  refine ct_seq ?_
  refine ct_region ?_
  refine rs_op rfl rfl (opR_fn rfl (Call.heap (fun w h => by (first | exact h | exact h.sw1 | exact h.sw2 | exact h.sw3 | exact h.sw4 | exact h.sw5 | exact h.sw6 | exact h.sw7 | exact h.sw8 | exact h.pull2 | exact h.pull3 | exact h.pull4 | exact h.pull5 | exact h.fit)) ((Shown14_c W0 _).mono ?_)))
  rintro v H' ⟨rfl, rfl⟩
  (first | refine rs_ex rfl (by (first | (constructor <;> first | rfl | exact RdC.rd | exact inferInstance) | exact Ex.pickF rfl rfl | exact Ex.eqlS rfl rfl | exact Ex.neqS rfl rfl | exact Ex.eqlPN rfl rfl | exact Ex.neqPN rfl rfl | exact Ex.eqlSN rfl rfl | exact Ex.neqSN rfl rfl | exact Ex.lenStr rfl)) rfl ?_ | refine rs_skip rfl rfl ?_)
  refine rs_end ?_
  refine qe_then ?_
  refine ct_seq ?_
  refine ct_region ?_
  (first | refine rs_ex rfl (by (first | (constructor <;> first | rfl | exact RdC.rd | exact inferInstance) | exact Ex.pickF rfl rfl | exact Ex.eqlS rfl rfl | exact Ex.neqS rfl rfl | exact Ex.eqlPN rfl rfl | exact Ex.neqPN rfl rfl | exact Ex.eqlSN rfl rfl | exact Ex.neqSN rfl rfl | exact Ex.lenStr rfl)) rfl ?_ | refine rs_skip rfl rfl ?_)
  refine rs_op rfl rfl (opR_fn rfl (Call.heap (fun w h => by (first | exact h | exact h.sw1 | exact h.sw2 | exact h.sw3 | exact h.sw4 | exact h.sw5 | exact h.sw6 | exact h.sw7 | exact h.sw8 | exact h.pull2 | exact h.pull3 | exact h.pull4 | exact h.pull5 | exact h.fit)) ((New14_ok W0 v _ hv).mono ?_)))
  rintro v H' ⟨b, rfl, rfl⟩
  iterate 5 (first | refine rs_ex rfl (by (first | (constructor <;> first | rfl | exact RdC.rd | exact inferInstance) | exact Ex.pickF rfl rfl | exact Ex.eqlS rfl rfl | exact Ex.neqS rfl rfl | exact Ex.eqlPN rfl rfl | exact Ex.neqPN rfl rfl | exact Ex.eqlSN rfl rfl | exact Ex.neqSN rfl rfl | exact Ex.lenStr rfl)) rfl ?_ | refine rs_skip rfl rfl ?_)
  refine rs_end ?_
  refine qe_then ?_
  refine ct_seq ?_
  refine ct_seq ?_
  refine ct_region ?_
  iterate 2 (first | refine rs_ex rfl (by (first | (constructor <;> first | rfl | exact RdC.rd | exact inferInstance) | exact Ex.pickF rfl rfl | exact Ex.eqlS rfl rfl | exact Ex.neqS rfl rfl | exact Ex.eqlPN rfl rfl | exact Ex.neqPN rfl rfl | exact Ex.eqlSN rfl rfl | exact Ex.neqSN rfl rfl | exact Ex.lenStr rfl)) rfl ?_ | refine rs_skip rfl rfl ?_)
  refine rs_end ?_
  refine qe_then ?_
  refine ct_cond rfl (fun h24 => by simp at h24) (fun h24 => ?_)
  refine ct_skip ?_
  refine qe_then ?_
  refine ct_meetc (ζ := Fold) (fun f => f.Ok 60) [(5, _), (7, _), (8, _)] (fun _ => []) (fun f => FoldC b f :: Blk b5 (.cells #[.int .i64 x.e.kind, .int .u32 x.e.epoch, .int .i64 x.e.ver, .slice x.p x.e.msgs.length x.c] 33 (0, 0)) :: []) ⟨rfl, rfl, rfl, trivial⟩ ?_ ?_
  · refine ct_seq ?_
    refine ct_region ?_
    (first | refine rs_ex rfl (by (first | (constructor <;> first | rfl | exact RdC.rd | exact inferInstance) | exact Ex.pickF rfl rfl | exact Ex.eqlS rfl rfl | exact Ex.neqS rfl rfl | exact Ex.eqlPN rfl rfl | exact Ex.neqPN rfl rfl | exact Ex.eqlSN rfl rfl | exact Ex.neqSN rfl rfl | exact Ex.lenStr rfl)) rfl ?_ | refine rs_skip rfl rfl ?_)
    refine rs_end ?_
    refine qe_then ?_
    refine ct_block ?_
    refine ct_loopc (ζ := Nat × Fold) (fun z => z.1 ≤ L.length ∧ z.1 ≤ 60 ∧ z.2.Ok z.1) [(1, _), (5, _), (7, _), (8, _)] (fun z => [(10, .int .i64 (z.1 : Int))]) (fun z => FoldC b z.2 :: Blk b5 (.cells #[.int .i64 x.e.kind, .int .u32 x.e.epoch, .int .i64 x.e.ver, .slice x.p x.e.msgs.length x.c] 33 (0, 0)) :: []) (fun z => 60 - z.1) ((0, Fold.new v)) (⟨Nat.zero_le _, Nat.zero_le _, Fold.ok_new v⟩) ⟨rfl, rfl, rfl, rfl, rfl, trivial⟩ (fun w h => by first | exact h.fit | exact h) ?_
    rintro ⟨i, f⟩ ⟨hi, hi60, hf⟩
    simp only at hi hi60 hf ⊢
    refine ct_seq ?_
    refine ct_seq ?_
    refine ct_region ?_
    iterate 5 (first | refine rs_ex rfl (by (first | (constructor <;> first | rfl | exact RdC.rd | exact inferInstance) | exact Ex.pickF rfl rfl | exact Ex.eqlS rfl rfl | exact Ex.neqS rfl rfl | exact Ex.eqlPN rfl rfl | exact Ex.neqPN rfl rfl | exact Ex.eqlSN rfl rfl | exact Ex.neqSN rfl rfl | exact Ex.lenStr rfl)) rfl ?_ | refine rs_skip rfl rfl ?_)
    refine rs_split (fun h30 => ?_) (fun h30 => ?_)
    · iterate 3 (first | refine rs_ex rfl (by (first | (constructor <;> first | rfl | exact RdC.rd | exact inferInstance) | exact Ex.pickF rfl rfl | exact Ex.eqlS rfl rfl | exact Ex.neqS rfl rfl | exact Ex.eqlPN rfl rfl | exact Ex.neqPN rfl rfl | exact Ex.eqlSN rfl rfl | exact Ex.neqSN rfl rfl | exact Ex.lenStr rfl)) rfl ?_ | refine rs_skip rfl rfl ?_)
      refine rs_end ?_
      refine qe_then ?_
      refine ct_cond rfl (fun h33 => ?_) (fun h33 => ?_)
      · have hi1 : i < L.length := by simp at h30; exact h30
        have hi2 : i < 60 := by simp at h33; omega
        obtain ⟨b1, o1, rfl, r1⟩ := h1.get (List.getElem?_eq_getElem hi1)
        obtain ⟨y, hy⟩ : ∃ y, y = L[i] := ⟨_, rfl⟩
        have hyE : y.Ok W0 := hE y (hy ▸ List.getElem_mem hi1)
        rw [← hy] at r1
        have hcl := cutE_len y.e
        refine ct_skip ?_
        refine qe_then ?_
        refine ct_seq ?_
        refine ct_block ?_
        refine ct_region ?_
        iterate 3 (first | refine rs_ex rfl (by (first | (constructor <;> first | rfl | exact RdC.rd | exact inferInstance) | exact Ex.pickF rfl rfl | exact Ex.eqlS rfl rfl | exact Ex.neqS rfl rfl | exact Ex.eqlPN rfl rfl | exact Ex.neqPN rfl rfl | exact Ex.eqlSN rfl rfl | exact Ex.neqSN rfl rfl | exact Ex.lenStr rfl)) rfl ?_ | refine rs_skip rfl rfl ?_)
        refine rs_ex rfl (ex_indexAddr rfl rfl (by omega) (by omega)) rfl ?_
        refine rs_ex rfl (ex_loadEnt y rfl r1.sub) rfl ?_
        refine rs_op rfl rfl (opR_fn rfl (Call.heap (fun w h => by (first | exact h | exact h.sw1 | exact h.sw2 | exact h.sw3 | exact h.sw4 | exact h.sw5 | exact h.sw6 | exact h.sw7 | exact h.sw8 | exact h.pull2 | exact h.pull3 | exact h.pull4 | exact h.pull5 | exact h.fit)) ((Cut14_c W0 y.e y.p y.c _ hyE.rd.sub hyE.le).mono ?_)))
        rintro v H' ⟨q, d, rfl, hvq, rfl⟩
        refine rs_op rfl rfl (opR_fn rfl (Call.heap (fun w h => by (first | exact h | exact h.sw1 | exact h.sw2 | exact h.sw3 | exact h.sw4 | exact h.sw5 | exact h.sw6 | exact h.sw7 | exact h.sw8 | exact h.pull2 | exact h.pull3 | exact h.pull4 | exact h.pull5 | exact h.fit)) ((Apply14_c W0 b i f y.e.cutE q d _ (by exact RdS.slR (len := y.e.cutE.msgs.length) inferInstance hvq) (by omega) hyE.ep hf (by omega)).mono ?_)))
        rintro v H' ⟨u, rfl, rfl⟩
        refine rs_end ?_
        refine qe_block 1 ?_
        refine qe_then ?_
        refine ct_region ?_
        iterate 2 (first | refine rs_ex rfl (by (first | (constructor <;> first | rfl | exact RdC.rd | exact inferInstance) | exact Ex.pickF rfl rfl | exact Ex.eqlS rfl rfl | exact Ex.neqS rfl rfl | exact Ex.eqlPN rfl rfl | exact Ex.neqPN rfl rfl | exact Ex.eqlSN rfl rfl | exact Ex.neqSN rfl rfl | exact Ex.lenStr rfl)) rfl ?_ | refine rs_skip rfl rfl ?_)
        refine rs_rw (by rw [wrapS (by omega)]) ?_
        (first | refine rs_ex rfl (by (first | (constructor <;> first | rfl | exact RdC.rd | exact inferInstance) | exact Ex.pickF rfl rfl | exact Ex.eqlS rfl rfl | exact Ex.neqS rfl rfl | exact Ex.eqlPN rfl rfl | exact Ex.neqPN rfl rfl | exact Ex.eqlSN rfl rfl | exact Ex.neqSN rfl rfl | exact Ex.lenStr rfl)) rfl ?_ | refine rs_skip rfl rfl ?_)
        refine rs_end ?_
        refine qe_loopc ((i + 1, (f.apply y.e.cutE).2)) (⟨by simp only; omega, by simp only; omega, hf.apply (by omega) _⟩) (by first | omega | (simp only; omega)) ⟨rfl, rfl, rfl, rfl, rfl, trivial⟩ (fun w h => by first | exact h.fit | exact h)
      · refine ct_exit ?_
        refine qe_then_exit ?_
        refine qe_loop_exit ?_
        refine qe_block_exit ?_
        refine qe_midc (f) (hf.mono (by omega)) ⟨rfl, rfl, rfl, trivial⟩ (fun w h => by first | exact h.fit | exact h)
    · iterate 3 (first | refine rs_ex rfl (by (first | (constructor <;> first | rfl | exact RdC.rd | exact inferInstance) | exact Ex.pickF rfl rfl | exact Ex.eqlS rfl rfl | exact Ex.neqS rfl rfl | exact Ex.eqlPN rfl rfl | exact Ex.neqPN rfl rfl | exact Ex.eqlSN rfl rfl | exact Ex.neqSN rfl rfl | exact Ex.lenStr rfl)) rfl ?_ | refine rs_skip rfl rfl ?_)
      refine rs_end ?_
      refine qe_then ?_
      refine ct_cond rfl (fun h => absurd h (by decide)) (fun _ => ?_)
      refine ct_exit ?_
      refine qe_then_exit ?_
      refine qe_loop_exit ?_
      refine qe_block_exit ?_
      refine qe_midc (f) (hf.mono (by omega)) ⟨rfl, rfl, rfl, trivial⟩ (fun w h => by first | exact h.fit | exact h)
  · intro f hf
    refine ct_seq ?_
    refine ct_region ?_
    (first | refine rs_ex rfl (by (first | (constructor <;> first | rfl | exact RdC.rd | exact inferInstance) | exact Ex.pickF rfl rfl | exact Ex.eqlS rfl rfl | exact Ex.neqS rfl rfl | exact Ex.eqlPN rfl rfl | exact Ex.neqPN rfl rfl | exact Ex.eqlSN rfl rfl | exact Ex.neqSN rfl rfl | exact Ex.lenStr rfl)) rfl ?_ | refine rs_skip rfl rfl ?_)
    refine rs_op rfl rfl (opR_fn rfl (Call.heap (fun w h => by (first | exact h | exact h.sw1 | exact h.sw2 | exact h.sw3 | exact h.sw4 | exact h.sw5 | exact h.sw6 | exact h.sw7 | exact h.sw8 | exact h.pull2 | exact h.pull3 | exact h.pull4 | exact h.pull5 | exact h.fit)) ((Eras14_c W0 b 60 f _ hf (by omega)).mono ?_)))
    rintro v H' rfl
    (first | refine rs_ex rfl (by (first | (constructor <;> first | rfl | exact RdC.rd | exact inferInstance) | exact Ex.pickF rfl rfl | exact Ex.eqlS rfl rfl | exact Ex.neqS rfl rfl | exact Ex.eqlPN rfl rfl | exact Ex.neqPN rfl rfl | exact Ex.eqlSN rfl rfl | exact Ex.neqSN rfl rfl | exact Ex.lenStr rfl)) rfl ?_ | refine rs_skip rfl rfl ?_)
    refine rs_end ?_
    refine qe_then ?_
    refine ct_pr (fun w h => h.slv) ?_; rintro ⟨p9, c9, e9, hv9⟩
    subst e9
    refine ct_seq ?_
    refine ct_region ?_
    (first | refine rs_ex rfl (by (first | (constructor <;> first | rfl | exact RdC.rd | exact inferInstance) | exact Ex.pickF rfl rfl | exact Ex.eqlS rfl rfl | exact Ex.neqS rfl rfl | exact Ex.eqlPN rfl rfl | exact Ex.neqPN rfl rfl | exact Ex.eqlSN rfl rfl | exact Ex.neqSN rfl rfl | exact Ex.lenStr rfl)) rfl ?_ | refine rs_skip rfl rfl ?_)
    refine rs_op rfl rfl (opR_fn rfl (Call.heap (fun w h => by (first | exact h | exact h.sw1 | exact h.sw2 | exact h.sw3 | exact h.sw4 | exact h.sw5 | exact h.sw6 | exact h.sw7 | exact h.sw8 | exact h.pull2 | exact h.pull3 | exact h.pull4 | exact h.pull5 | exact h.fit)) ((Log14_c W0 b f _ (by have := log_le hf; omega)).mono ?_)))
    rintro v H' rfl
    (first | refine rs_ex rfl (by (first | (constructor <;> first | rfl | exact RdC.rd | exact inferInstance) | exact Ex.pickF rfl rfl | exact Ex.eqlS rfl rfl | exact Ex.neqS rfl rfl | exact Ex.eqlPN rfl rfl | exact Ex.neqPN rfl rfl | exact Ex.eqlSN rfl rfl | exact Ex.neqSN rfl rfl | exact Ex.lenStr rfl)) rfl ?_ | refine rs_skip rfl rfl ?_)
    refine rs_end ?_
    refine qe_then ?_
    refine ct_pr (fun w h => h.slv) ?_; rintro ⟨p8, c8, e8, hv8⟩
    subst e8
    refine ct_seq ?_
    refine ct_region ?_
    (first | refine rs_ex rfl (by (first | (constructor <;> first | rfl | exact RdC.rd | exact inferInstance) | exact Ex.pickF rfl rfl | exact Ex.eqlS rfl rfl | exact Ex.neqS rfl rfl | exact Ex.eqlPN rfl rfl | exact Ex.neqPN rfl rfl | exact Ex.eqlSN rfl rfl | exact Ex.neqSN rfl rfl | exact Ex.lenStr rfl)) rfl ?_ | refine rs_skip rfl rfl ?_)
    refine rs_op rfl rfl (opR_fn rfl (Call.heap (fun w h => by (first | exact h | exact h.sw1 | exact h.sw2 | exact h.sw3 | exact h.sw4 | exact h.sw5 | exact h.sw6 | exact h.sw7 | exact h.sw8 | exact h.pull2 | exact h.pull3 | exact h.pull4 | exact h.pull5 | exact h.fit)) ((Count14_c W0 b f _).mono ?_)))
    rintro v H' ⟨rfl, rfl⟩
    (first | refine rs_ex rfl (by (first | (constructor <;> first | rfl | exact RdC.rd | exact inferInstance) | exact Ex.pickF rfl rfl | exact Ex.eqlS rfl rfl | exact Ex.neqS rfl rfl | exact Ex.eqlPN rfl rfl | exact Ex.neqPN rfl rfl | exact Ex.eqlSN rfl rfl | exact Ex.neqSN rfl rfl | exact Ex.lenStr rfl)) rfl ?_ | refine rs_skip rfl rfl ?_)
    refine rs_end ?_
    refine qe_then ?_
    refine ct_seq ?_
    refine ct_region ?_
    (first | refine rs_ex rfl (by (first | (constructor <;> first | rfl | exact RdC.rd | exact inferInstance) | exact Ex.pickF rfl rfl | exact Ex.eqlS rfl rfl | exact Ex.neqS rfl rfl | exact Ex.eqlPN rfl rfl | exact Ex.neqPN rfl rfl | exact Ex.eqlSN rfl rfl | exact Ex.neqSN rfl rfl | exact Ex.lenStr rfl)) rfl ?_ | refine rs_skip rfl rfl ?_)
    refine rs_op rfl rfl (opR_fn rfl (Call.heap (fun w h => by (first | exact h | exact h.sw1 | exact h.sw2 | exact h.sw3 | exact h.sw4 | exact h.sw5 | exact h.sw6 | exact h.sw7 | exact h.sw8 | exact h.pull2 | exact h.pull3 | exact h.pull4 | exact h.pull5 | exact h.fit)) ((Cut14_c W0 x.e x.p x.c _ hx.rd.sub hx.le).mono ?_)))
    rintro v H' ⟨q, d, rfl, hvq, rfl⟩
    refine rs_opN rfl (opR_store rfl rfl rfl rfl ?_)
    refine rs_end ?_
    refine qe_then ?_
    refine ct_seq ?_
    refine ct_seq ?_
    obtain ⟨z, hz⟩ := last_some hf.ne
    have hle := Fold.last_eq hz
    have hgz := last_get hz
    have hp := List.length_pos_iff.2 hf.ne
    have hlen := hf.len
    obtain ⟨b9, rfl⟩ := hv9.some (i := f.eras.length - 1) (by omega)
    have hcl := cutE_len x.e
    have hc0 := hf.c0
    have hc1 := hf.c1
    have hlog := log_le hf
    refine ct_draw0 (by kernel_rfl) ?_
    refine ra_take 0 rfl (by kernel_rfl) (by kernel_rfl) rfl (by (first | (constructor <;> first | rfl | exact RdC.rd | exact inferInstance) | exact Ex.pickF rfl rfl | exact Ex.eqlS rfl rfl | exact Ex.neqS rfl rfl | exact Ex.eqlPN rfl rfl | exact Ex.neqPN rfl rfl | exact Ex.eqlSN rfl rfl | exact Ex.neqSN rfl rfl | exact Ex.lenStr rfl)) rfl (fun _ h => h.fit) ?_
    refine ra_take 1 rfl (by kernel_rfl) (by kernel_rfl) rfl (by (first | (constructor <;> first | rfl | exact RdC.rd | exact inferInstance) | exact Ex.pickF rfl rfl | exact Ex.eqlS rfl rfl | exact Ex.neqS rfl rfl | exact Ex.eqlPN rfl rfl | exact Ex.neqPN rfl rfl | exact Ex.eqlSN rfl rfl | exact Ex.neqSN rfl rfl | exact Ex.lenStr rfl)) rfl (fun _ h => h.fit) ?_
    refine ra_take 2 rfl (by kernel_rfl) (by kernel_rfl) rfl (by (first | (constructor <;> first | rfl | exact RdC.rd | exact inferInstance) | exact Ex.pickF rfl rfl | exact Ex.eqlS rfl rfl | exact Ex.neqS rfl rfl | exact Ex.eqlPN rfl rfl | exact Ex.neqPN rfl rfl | exact Ex.eqlSN rfl rfl | exact Ex.neqSN rfl rfl | exact Ex.lenStr rfl)) rfl (fun _ h => h.fit) ?_
    refine ra_take 3 rfl (by kernel_rfl) (by kernel_rfl) rfl (by (first | (constructor <;> first | rfl | exact RdC.rd | exact inferInstance) | exact Ex.pickF rfl rfl | exact Ex.eqlS rfl rfl | exact Ex.neqS rfl rfl | exact Ex.eqlPN rfl rfl | exact Ex.neqPN rfl rfl | exact Ex.eqlSN rfl rfl | exact Ex.neqSN rfl rfl | exact Ex.lenStr rfl)) rfl (fun _ h => h.fit) ?_
    refine ra_split (fun h54 => by exact absurd (of_decide_eq_true h54) (by omega)) (fun h54 => ?_)
    refine ra_take 4 rfl (by kernel_rfl) (by kernel_rfl) rfl (by (first | (constructor <;> first | rfl | exact RdC.rd | exact inferInstance) | exact Ex.pickF rfl rfl | exact Ex.eqlS rfl rfl | exact Ex.neqS rfl rfl | exact Ex.eqlPN rfl rfl | exact Ex.neqPN rfl rfl | exact Ex.eqlSN rfl rfl | exact Ex.neqSN rfl rfl | exact Ex.lenStr rfl)) rfl (fun _ h => h.fit) ?_
    refine ra_take 5 rfl (by kernel_rfl) (by kernel_rfl) rfl (by (first | (constructor <;> first | rfl | exact RdC.rd | exact inferInstance) | exact Ex.pickF rfl rfl | exact Ex.eqlS rfl rfl | exact Ex.neqS rfl rfl | exact Ex.eqlPN rfl rfl | exact Ex.neqPN rfl rfl | exact Ex.eqlSN rfl rfl | exact Ex.neqSN rfl rfl | exact Ex.lenStr rfl)) rfl (fun _ h => h.fit) ?_
    refine ra_take 6 rfl (by kernel_rfl) (by kernel_rfl) rfl (by (first | (constructor <;> first | rfl | exact RdC.rd | exact inferInstance) | exact Ex.pickF rfl rfl | exact Ex.eqlS rfl rfl | exact Ex.neqS rfl rfl | exact Ex.eqlPN rfl rfl | exact Ex.neqPN rfl rfl | exact Ex.eqlSN rfl rfl | exact Ex.neqSN rfl rfl | exact Ex.lenStr rfl)) rfl (fun _ h => h.fit) ?_
    refine ra_take 7 rfl (by kernel_rfl) (by kernel_rfl) rfl (by (first | (constructor <;> first | rfl | exact RdC.rd | exact inferInstance) | exact Ex.pickF rfl rfl | exact Ex.eqlS rfl rfl | exact Ex.neqS rfl rfl | exact Ex.eqlPN rfl rfl | exact Ex.neqPN rfl rfl | exact Ex.eqlSN rfl rfl | exact Ex.neqSN rfl rfl | exact Ex.lenStr rfl)) rfl (fun _ h => h.fit) ?_
    refine ra_take 8 rfl (by kernel_rfl) (by kernel_rfl) rfl (by (first | (constructor <;> first | rfl | exact RdC.rd | exact inferInstance) | exact Ex.pickF rfl rfl | exact Ex.eqlS rfl rfl | exact Ex.neqS rfl rfl | exact Ex.eqlPN rfl rfl | exact Ex.neqPN rfl rfl | exact Ex.eqlSN rfl rfl | exact Ex.neqSN rfl rfl | exact Ex.lenStr rfl)) rfl (fun _ h => h.fit) ?_
    refine ra_take 9 rfl (by kernel_rfl) (by kernel_rfl) rfl (by (first | (constructor <;> first | rfl | exact RdC.rd | exact inferInstance) | exact Ex.pickF rfl rfl | exact Ex.eqlS rfl rfl | exact Ex.neqS rfl rfl | exact Ex.eqlPN rfl rfl | exact Ex.neqPN rfl rfl | exact Ex.eqlSN rfl rfl | exact Ex.neqSN rfl rfl | exact Ex.lenStr rfl)) rfl (fun _ h => h.fit) ?_
    refine ra_rw (by rw [wrap64 (by omega) (by omega), show (f.eras.length : Int) - 1 = ((f.eras.length - 1 : Nat) : Int) by omega]) ?_
    refine ra_take 10 rfl (by kernel_rfl) (by kernel_rfl) rfl (ex_indexAddr rfl rfl (by omega) (by omega)) rfl (fun _ h => h.fit) ?_
    refine ra_take 11 rfl (by kernel_rfl) (by kernel_rfl) rfl (by (first | (constructor <;> first | rfl | exact RdC.rd | exact inferInstance) | exact Ex.pickF rfl rfl | exact Ex.eqlS rfl rfl | exact Ex.neqS rfl rfl | exact Ex.eqlPN rfl rfl | exact Ex.neqPN rfl rfl | exact Ex.eqlSN rfl rfl | exact Ex.neqSN rfl rfl | exact Ex.lenStr rfl)) rfl (fun _ h => h.fit) ?_
    refine ra_take 12 rfl (by kernel_rfl) (by kernel_rfl) rfl (ex_loadCell (k := 0) rfl (RdE.get hgz) rfl) rfl (fun _ h => h.fit) ?_
    refine ra_take 13 rfl (by kernel_rfl) (by kernel_rfl) rfl (by (first | (constructor <;> first | rfl | exact RdC.rd | exact inferInstance) | exact Ex.pickF rfl rfl | exact Ex.eqlS rfl rfl | exact Ex.neqS rfl rfl | exact Ex.eqlPN rfl rfl | exact Ex.neqPN rfl rfl | exact Ex.eqlSN rfl rfl | exact Ex.neqSN rfl rfl | exact Ex.lenStr rfl)) rfl (fun _ h => h.fit) ?_
    refine ra_take 14 rfl (by kernel_rfl) (by kernel_rfl) rfl (by (first | (constructor <;> first | rfl | exact RdC.rd | exact inferInstance) | exact Ex.pickF rfl rfl | exact Ex.eqlS rfl rfl | exact Ex.neqS rfl rfl | exact Ex.eqlPN rfl rfl | exact Ex.neqPN rfl rfl | exact Ex.eqlSN rfl rfl | exact Ex.neqSN rfl rfl | exact Ex.lenStr rfl)) rfl (fun _ h => h.fit) ?_
    refine ra_take 15 rfl (by kernel_rfl) (by kernel_rfl) rfl (by (first | (constructor <;> first | rfl | exact RdC.rd | exact inferInstance) | exact Ex.pickF rfl rfl | exact Ex.eqlS rfl rfl | exact Ex.neqS rfl rfl | exact Ex.eqlPN rfl rfl | exact Ex.neqPN rfl rfl | exact Ex.eqlSN rfl rfl | exact Ex.neqSN rfl rfl | exact Ex.lenStr rfl)) rfl (fun _ h => h.fit) ?_
    refine ra_split (fun h66 => ?_) (fun h66 => ?_)
    · refine ra_skip 16 rfl (by kernel_rfl) (by kernel_rfl) rfl rfl (fun _ h => h.fit) ?_
      refine ra_skip 17 rfl (by kernel_rfl) (by kernel_rfl) rfl rfl (fun _ h => h.fit) ?_
      refine ra_skip 18 rfl (by kernel_rfl) (by kernel_rfl) rfl rfl (fun _ h => h.fit) ?_
      refine ra_take 19 rfl (by kernel_rfl) (by kernel_rfl) rfl (by (first | (constructor <;> first | rfl | exact RdC.rd | exact inferInstance) | exact Ex.pickF rfl rfl | exact Ex.eqlS rfl rfl | exact Ex.neqS rfl rfl | exact Ex.eqlPN rfl rfl | exact Ex.neqPN rfl rfl | exact Ex.eqlSN rfl rfl | exact Ex.neqSN rfl rfl | exact Ex.lenStr rfl)) rfl (fun _ h => h.fit) ?_
      refine ra_end (by kernel_rfl) ?_
      refine qe_then ?_
      refine ct_cond rfl (fun _ => ?_) (fun h => absurd h (by decide))
      refine ct_seq ?_
      refine ct_region ?_
      iterate 2 (first | refine rs_ex rfl (by (first | (constructor <;> first | rfl | exact RdC.rd | exact inferInstance) | exact Ex.pickF rfl rfl | exact Ex.eqlS rfl rfl | exact Ex.neqS rfl rfl | exact Ex.eqlPN rfl rfl | exact Ex.neqPN rfl rfl | exact Ex.eqlSN rfl rfl | exact Ex.neqSN rfl rfl | exact Ex.lenStr rfl)) rfl ?_ | refine rs_skip rfl rfl ?_)
      refine rs_split (fun h72 => ?_) (fun h72 => by simp at h72)
      iterate 5 (first | refine rs_ex rfl (by (first | (constructor <;> first | rfl | exact RdC.rd | exact inferInstance) | exact Ex.pickF rfl rfl | exact Ex.eqlS rfl rfl | exact Ex.neqS rfl rfl | exact Ex.eqlPN rfl rfl | exact Ex.neqPN rfl rfl | exact Ex.eqlSN rfl rfl | exact Ex.neqSN rfl rfl | exact Ex.lenStr rfl)) rfl ?_ | refine rs_skip rfl rfl ?_)
      refine rs_end ?_
      refine qe_then ?_
      refine ct_ret ?_
      exact ret1 rfl rfl (by rw [decide_eq_true (by omega)])
    · refine ra_take 16 rfl (by kernel_rfl) (by kernel_rfl) rfl (by (first | (constructor <;> first | rfl | exact RdC.rd | exact inferInstance) | exact Ex.pickF rfl rfl | exact Ex.eqlS rfl rfl | exact Ex.neqS rfl rfl | exact Ex.eqlPN rfl rfl | exact Ex.neqPN rfl rfl | exact Ex.eqlSN rfl rfl | exact Ex.neqSN rfl rfl | exact Ex.lenStr rfl)) rfl (fun _ h => h.fit) ?_
      refine ra_all (rs := [17]) (by kernel_rfl) rfl ?_
      refine each_op rfl rfl rfl (opR_fn rfl (Call.heap (fun w h => by (first | exact h | exact h.sw1 | exact h.sw2 | exact h.sw3 | exact h.sw4 | exact h.sw5 | exact h.sw6 | exact h.sw7 | exact h.sw8 | exact h.pull2 | exact h.pull3 | exact h.pull4 | exact h.pull5 | exact h.fit)) ((Right14_c W0 x.e.cutE q d _ (by exact RdS.slR (len := x.e.cutE.msgs.length) inferInstance hvq) (by omega) hx.ep).mono ?_))) each_nil
      rintro v H' ⟨rfl, rfl⟩
      refine ⟨.inr (fun w h => h.fit), ?_⟩
      refine ra_take 18 rfl (by kernel_rfl) (by kernel_rfl) rfl (by (first | (constructor <;> first | rfl | exact RdC.rd | exact inferInstance) | exact Ex.pickF rfl rfl | exact Ex.eqlS rfl rfl | exact Ex.neqS rfl rfl | exact Ex.eqlPN rfl rfl | exact Ex.neqPN rfl rfl | exact Ex.eqlSN rfl rfl | exact Ex.neqSN rfl rfl | exact Ex.lenStr rfl)) rfl (fun _ h => h.fit) ?_
      refine ra_take 19 rfl (by kernel_rfl) (by kernel_rfl) rfl (by (first | (constructor <;> first | rfl | exact RdC.rd | exact inferInstance) | exact Ex.pickF rfl rfl | exact Ex.eqlS rfl rfl | exact Ex.neqS rfl rfl | exact Ex.eqlPN rfl rfl | exact Ex.neqPN rfl rfl | exact Ex.eqlSN rfl rfl | exact Ex.neqSN rfl rfl | exact Ex.lenStr rfl)) rfl (fun _ h => h.fit) ?_
      refine ra_end (by kernel_rfl) ?_
      refine qe_then ?_
      refine ct_cond rfl (fun h70 => ?_) (fun h70 => ?_)
      · refine ct_seq ?_
        refine ct_region ?_
        iterate 2 (first | refine rs_ex rfl (by (first | (constructor <;> first | rfl | exact RdC.rd | exact inferInstance) | exact Ex.pickF rfl rfl | exact Ex.eqlS rfl rfl | exact Ex.neqS rfl rfl | exact Ex.eqlPN rfl rfl | exact Ex.neqPN rfl rfl | exact Ex.eqlSN rfl rfl | exact Ex.neqSN rfl rfl | exact Ex.lenStr rfl)) rfl ?_ | refine rs_skip rfl rfl ?_)
        refine rs_split (fun h72 => ?_) (fun h72 => by simp at h72)
        iterate 5 (first | refine rs_ex rfl (by (first | (constructor <;> first | rfl | exact RdC.rd | exact inferInstance) | exact Ex.pickF rfl rfl | exact Ex.eqlS rfl rfl | exact Ex.neqS rfl rfl | exact Ex.eqlPN rfl rfl | exact Ex.neqPN rfl rfl | exact Ex.eqlSN rfl rfl | exact Ex.neqSN rfl rfl | exact Ex.lenStr rfl)) rfl ?_ | refine rs_skip rfl rfl ?_)
        refine rs_end ?_
        refine qe_then ?_
        refine ct_ret ?_
        exact ret1 rfl rfl (by rw [decide_eq_true (by omega)])
      · refine ct_skip ?_
        refine qe_then ?_
        refine ct_seq ?_
        have hb : x.e.cutE.bad = false := by simpa using h70
        have hst : f.apply x.e.cutE = (([], false, 0), f.tick) := apply_stale hb (by rw [hle]; simpa using h66)
        refine ct_region ?_
        iterate 2 (first | refine rs_ex rfl (by (first | (constructor <;> first | rfl | exact RdC.rd | exact inferInstance) | exact Ex.pickF rfl rfl | exact Ex.eqlS rfl rfl | exact Ex.neqS rfl rfl | exact Ex.eqlPN rfl rfl | exact Ex.neqPN rfl rfl | exact Ex.eqlSN rfl rfl | exact Ex.neqSN rfl rfl | exact Ex.lenStr rfl)) rfl ?_ | refine rs_skip rfl rfl ?_)
        refine rs_op rfl rfl (opR_fn rfl (Call.heap (fun w h => by (first | exact h | exact h.sw1 | exact h.sw2 | exact h.sw3 | exact h.sw4 | exact h.sw5 | exact h.sw6 | exact h.sw7 | exact h.sw8 | exact h.pull2 | exact h.pull3 | exact h.pull4 | exact h.pull5 | exact h.fit)) ((Apply14_c W0 b 60 f x.e.cutE q d _ (by exact RdS.slR (len := x.e.cutE.msgs.length) inferInstance hvq) (by omega) hx.ep hf (by omega)).mono ?_)))
        rintro v H' ⟨u, rfl, rfl⟩
        rw [hst]
        refine rs_prp (fun w h => h.slv) ?_; rintro ⟨p7, c7, e7, hv7⟩
        subst e7
        iterate 7 (first | refine rs_ex rfl (by (first | (constructor <;> first | rfl | exact RdC.rd | exact inferInstance) | exact Ex.pickF rfl rfl | exact Ex.eqlS rfl rfl | exact Ex.neqS rfl rfl | exact Ex.eqlPN rfl rfl | exact Ex.neqPN rfl rfl | exact Ex.eqlSN rfl rfl | exact Ex.neqSN rfl rfl | exact Ex.lenStr rfl)) rfl ?_ | refine rs_skip rfl rfl ?_)
        refine rs_end ?_
        refine qe_then ?_
        refine ct_seq ?_
        refine ct_region ?_
        iterate 2 (first | refine rs_ex rfl (by (first | (constructor <;> first | rfl | exact RdC.rd | exact inferInstance) | exact Ex.pickF rfl rfl | exact Ex.eqlS rfl rfl | exact Ex.neqS rfl rfl | exact Ex.eqlPN rfl rfl | exact Ex.neqPN rfl rfl | exact Ex.eqlSN rfl rfl | exact Ex.neqSN rfl rfl | exact Ex.lenStr rfl)) rfl ?_ | refine rs_skip rfl rfl ?_)
        refine rs_split (fun h85 => ?_) (fun h85 => by simp [Fold.tick] at h85)
        iterate 4 (first | refine rs_ex rfl (by (first | (constructor <;> first | rfl | exact RdC.rd | exact inferInstance) | exact Ex.pickF rfl rfl | exact Ex.eqlS rfl rfl | exact Ex.neqS rfl rfl | exact Ex.eqlPN rfl rfl | exact Ex.neqPN rfl rfl | exact Ex.eqlSN rfl rfl | exact Ex.neqSN rfl rfl | exact Ex.lenStr rfl)) rfl ?_ | refine rs_skip rfl rfl ?_)
        refine rs_split (fun h89 => ?_) (fun h89 => by simp [Fold.tick] at h89)
        iterate 4 (first | refine rs_ex rfl (by (first | (constructor <;> first | rfl | exact RdC.rd | exact inferInstance) | exact Ex.pickF rfl rfl | exact Ex.eqlS rfl rfl | exact Ex.neqS rfl rfl | exact Ex.eqlPN rfl rfl | exact Ex.neqPN rfl rfl | exact Ex.eqlSN rfl rfl | exact Ex.neqSN rfl rfl | exact Ex.lenStr rfl)) rfl ?_ | refine rs_skip rfl rfl ?_)
        refine rs_split (fun h93 => ?_) (fun h93 => by simp [Fold.tick] at h93)
        iterate 5 (first | refine rs_ex rfl (by (first | (constructor <;> first | rfl | exact RdC.rd | exact inferInstance) | exact Ex.pickF rfl rfl | exact Ex.eqlS rfl rfl | exact Ex.neqS rfl rfl | exact Ex.eqlPN rfl rfl | exact Ex.neqPN rfl rfl | exact Ex.eqlSN rfl rfl | exact Ex.neqSN rfl rfl | exact Ex.lenStr rfl)) rfl ?_ | refine rs_skip rfl rfl ?_)
        refine rs_split (fun h98 => ?_) (fun h98 => by simp [Fold.tick] at h98)
        (first | refine rs_ex rfl (by (first | (constructor <;> first | rfl | exact RdC.rd | exact inferInstance) | exact Ex.pickF rfl rfl | exact Ex.eqlS rfl rfl | exact Ex.neqS rfl rfl | exact Ex.eqlPN rfl rfl | exact Ex.neqPN rfl rfl | exact Ex.eqlSN rfl rfl | exact Ex.neqSN rfl rfl | exact Ex.lenStr rfl)) rfl ?_ | refine rs_skip rfl rfl ?_)
        refine rs_op rfl rfl (opR_fn rfl (Call.heap (fun w h => by (first | exact h | exact h.sw1 | exact h.sw2 | exact h.sw3 | exact h.sw4 | exact h.sw5 | exact h.sw6 | exact h.sw7 | exact h.sw8 | exact h.pull2 | exact h.pull3 | exact h.pull4 | exact h.pull5 | exact h.fit)) ((Count14_c W0 b f.tick _).mono ?_)))
        rintro v H' ⟨rfl, rfl⟩
        iterate 2 (first | refine rs_ex rfl (by (first | (constructor <;> first | rfl | exact RdC.rd | exact inferInstance) | exact Ex.pickF rfl rfl | exact Ex.eqlS rfl rfl | exact Ex.neqS rfl rfl | exact Ex.eqlPN rfl rfl | exact Ex.neqPN rfl rfl | exact Ex.eqlSN rfl rfl | exact Ex.neqSN rfl rfl | exact Ex.lenStr rfl)) rfl ?_ | refine rs_skip rfl rfl ?_)
        refine rs_rw (by rw [wrap64 (by omega) (by omega)]) ?_
        iterate 3 (first | refine rs_ex rfl (by (first | (constructor <;> first | rfl | exact RdC.rd | exact inferInstance) | exact Ex.pickF rfl rfl | exact Ex.eqlS rfl rfl | exact Ex.neqS rfl rfl | exact Ex.eqlPN rfl rfl | exact Ex.neqPN rfl rfl | exact Ex.eqlSN rfl rfl | exact Ex.neqSN rfl rfl | exact Ex.lenStr rfl)) rfl ?_ | refine rs_skip rfl rfl ?_)
        refine rs_split (fun h105 => ?_) (fun h105 => by simp [Fold.tick] at h105)
        (first | refine rs_ex rfl (by (first | (constructor <;> first | rfl | exact RdC.rd | exact inferInstance) | exact Ex.pickF rfl rfl | exact Ex.eqlS rfl rfl | exact Ex.neqS rfl rfl | exact Ex.eqlPN rfl rfl | exact Ex.neqPN rfl rfl | exact Ex.eqlSN rfl rfl | exact Ex.neqSN rfl rfl | exact Ex.lenStr rfl)) rfl ?_ | refine rs_skip rfl rfl ?_)
        refine rs_op rfl rfl (opR_fn rfl (Call.heap (fun w h => by (first | exact h | exact h.sw1 | exact h.sw2 | exact h.sw3 | exact h.sw4 | exact h.sw5 | exact h.sw6 | exact h.sw7 | exact h.sw8 | exact h.pull2 | exact h.pull3 | exact h.pull4 | exact h.pull5 | exact h.fit)) ((Eras14_c W0 b 61 f.tick _ (hf.tick 61 (Nat.le_refl _)) (by omega)).mono ?_)))
        rintro v H' rfl
        refine rs_prp (fun w h => h.slv) ?_; rintro ⟨p6, c6, e6, hv6⟩
        subst e6
        (first | refine rs_ex rfl (by (first | (constructor <;> first | rfl | exact RdC.rd | exact inferInstance) | exact Ex.pickF rfl rfl | exact Ex.eqlS rfl rfl | exact Ex.neqS rfl rfl | exact Ex.eqlPN rfl rfl | exact Ex.neqPN rfl rfl | exact Ex.eqlSN rfl rfl | exact Ex.neqSN rfl rfl | exact Ex.lenStr rfl)) rfl ?_ | refine rs_skip rfl rfl ?_)
        refine rs_op rfl rfl (opR_fn rfl (Call.heap (fun w h => by (first | exact h | exact h.sw1 | exact h.sw2 | exact h.sw3 | exact h.sw4 | exact h.sw5 | exact h.sw6 | exact h.sw7 | exact h.sw8 | exact h.pull2 | exact h.pull3 | exact h.pull4 | exact h.pull5 | exact h.fit)) ((SameE_c W0 p6 c6 f.tick.eras _ c9 f.eras _ (by exact RdS.slR (len := f.tick.eras.length) inferInstance hv6) (by exact RdS.slR (len := f.eras.length) inferInstance hv9) (by show f.eras.length ≤ _; omega)).mono ?_)))
        rintro v H' ⟨rfl, rfl⟩
        iterate 2 (first | refine rs_ex rfl (by (first | (constructor <;> first | rfl | exact RdC.rd | exact inferInstance) | exact Ex.pickF rfl rfl | exact Ex.eqlS rfl rfl | exact Ex.neqS rfl rfl | exact Ex.eqlPN rfl rfl | exact Ex.neqPN rfl rfl | exact Ex.eqlSN rfl rfl | exact Ex.neqSN rfl rfl | exact Ex.lenStr rfl)) rfl ?_ | refine rs_skip rfl rfl ?_)
        refine rs_split (fun h111 => ?_) (fun h111 => by simp [Fold.tick] at h111)
        (first | refine rs_ex rfl (by (first | (constructor <;> first | rfl | exact RdC.rd | exact inferInstance) | exact Ex.pickF rfl rfl | exact Ex.eqlS rfl rfl | exact Ex.neqS rfl rfl | exact Ex.eqlPN rfl rfl | exact Ex.neqPN rfl rfl | exact Ex.eqlSN rfl rfl | exact Ex.neqSN rfl rfl | exact Ex.lenStr rfl)) rfl ?_ | refine rs_skip rfl rfl ?_)
        refine rs_op rfl rfl (opR_fn rfl (Call.heap (fun w h => by (first | exact h | exact h.sw1 | exact h.sw2 | exact h.sw3 | exact h.sw4 | exact h.sw5 | exact h.sw6 | exact h.sw7 | exact h.sw8 | exact h.pull2 | exact h.pull3 | exact h.pull4 | exact h.pull5 | exact h.fit)) ((Log14_c W0 b f.tick _ (by show f.book.log.length ≤ _; omega)).mono ?_)))
        rintro v H' rfl
        refine rs_prp (fun w h => h.slv) ?_; rintro ⟨p5, c5, e5, hv5⟩
        subst e5
        (first | refine rs_ex rfl (by (first | (constructor <;> first | rfl | exact RdC.rd | exact inferInstance) | exact Ex.pickF rfl rfl | exact Ex.eqlS rfl rfl | exact Ex.neqS rfl rfl | exact Ex.eqlPN rfl rfl | exact Ex.neqPN rfl rfl | exact Ex.eqlSN rfl rfl | exact Ex.neqSN rfl rfl | exact Ex.lenStr rfl)) rfl ?_ | refine rs_skip rfl rfl ?_)
        refine rs_op rfl rfl (opR_fn rfl (Call.heap (fun w h => by (first | exact h | exact h.sw1 | exact h.sw2 | exact h.sw3 | exact h.sw4 | exact h.sw5 | exact h.sw6 | exact h.sw7 | exact h.sw8 | exact h.pull2 | exact h.pull3 | exact h.pull4 | exact h.pull5 | exact h.fit)) ((Same_c W0 p5 c5 f.tick.book.log p8 c8 f.book.log _ (by exact RdS.slR (len := f.tick.book.log.length) inferInstance hv5) (by exact RdS.slR (len := f.book.log.length) inferInstance hv8) (by show f.book.log.length ≤ _; omega)).mono ?_)))
        rintro v H' ⟨rfl, rfl⟩
        iterate 2 (first | refine rs_ex rfl (by (first | (constructor <;> first | rfl | exact RdC.rd | exact inferInstance) | exact Ex.pickF rfl rfl | exact Ex.eqlS rfl rfl | exact Ex.neqS rfl rfl | exact Ex.eqlPN rfl rfl | exact Ex.neqPN rfl rfl | exact Ex.eqlSN rfl rfl | exact Ex.neqSN rfl rfl | exact Ex.lenStr rfl)) rfl ?_ | refine rs_skip rfl rfl ?_)
        refine rs_end ?_
        refine qe_then ?_
        refine ct_ret ?_
        exact ret1 rfl rfl (by rw [decide_eq_true (show f.tick.book.log = f.book.log from rfl)])
theorem EpochStale_c (W0 : World) (v : Int) (p : Option Addr) (c : Nat) (L : List EntP) (x : EntP) (h1 : SlR (At W0 []) p L) (hE : ∀ y ∈ L, y.Ok W0) (hx : x.Ok W0) :
    Call Try.prog W0 7 [.int .i64 v, .slice p L.length c, x.e.v x.p x.c] [] (fun v _ => v = .bool true) := by
  cases hv : known v with
  | false => exact EpochStale_bad W0 v p c L x hv
  | true => exact EpochStale_ok W0 v p c L x h1 hE hx hv
end Go.Rost
