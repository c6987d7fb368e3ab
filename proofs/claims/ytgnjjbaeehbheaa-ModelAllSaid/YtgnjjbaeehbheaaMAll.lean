/- The law ModelAll: what it does. -/
import Derived.Test.YtgnjjbaeehbheaaPl
namespace Go.Rost
open Go Go.RowKit Go.Proofs

theorem ModelAll_bad (W0 : World) (n : Int) (p : Option Addr) (c : Nat) (l : List Int) (hn : n < 1 ∨ 16 < n) :
    Call Try.prog W0 11 [.int .i64 n, .slice p l.length c] [] (fun v _ => v = .bool true) := by
  refine call_enter Try.func11 rfl Try.ntmps11 rfl ?_

  refine ct_seq ?_
  refine ct_region ?_
  (first | refine rs_ex rfl (by (first | (constructor <;> first | rfl | exact RdC.rd | exact inferInstance) | exact Ex.pickF rfl rfl | exact Ex.eqlS rfl rfl | exact Ex.neqS rfl rfl | exact Ex.eqlPN rfl rfl | exact Ex.neqPN rfl rfl | exact Ex.eqlSN rfl rfl | exact Ex.neqSN rfl rfl | exact Ex.lenStr rfl)) rfl ?_ | refine rs_skip rfl rfl ?_)
  refine rs_end ?_
  refine qe_then ?_
  refine ct_seq ?_
  refine ct_region ?_
  refine rs_op rfl rfl (opR_fn rfl (Call.heap (fun w h => by (first | exact h | exact h.sw1 | exact h.sw2 | exact h.sw3 | exact h.sw4 | exact h.sw5 | exact h.sw6 | exact h.sw7 | exact h.sw8 | exact h.pull2 | exact h.pull3 | exact h.pull4 | exact h.pull5 | exact h.fit)) ((Shown16_c W0 _).mono ?_)))
  rintro v H' ⟨rfl, rfl⟩
  (first | refine rs_ex rfl (by (first | (constructor <;> first | rfl | exact RdC.rd | exact inferInstance) | exact Ex.pickF rfl rfl | exact Ex.eqlS rfl rfl | exact Ex.neqS rfl rfl | exact Ex.eqlPN rfl rfl | exact Ex.neqPN rfl rfl | exact Ex.eqlSN rfl rfl | exact Ex.neqSN rfl rfl | exact Ex.lenStr rfl)) rfl ?_ | refine rs_skip rfl rfl ?_)
  refine rs_end ?_
  refine qe_then ?_
  refine ct_seq ?_
  refine ct_region ?_
  (first | refine rs_ex rfl (by (first | (constructor <;> first | rfl | exact RdC.rd | exact inferInstance) | exact Ex.pickF rfl rfl | exact Ex.eqlS rfl rfl | exact Ex.neqS rfl rfl | exact Ex.eqlPN rfl rfl | exact Ex.neqPN rfl rfl | exact Ex.eqlSN rfl rfl | exact Ex.neqSN rfl rfl | exact Ex.lenStr rfl)) rfl ?_ | refine rs_skip rfl rfl ?_)
  refine rs_op rfl rfl (opR_fn rfl (Call.heap (fun w h => by (first | exact h | exact h.sw1 | exact h.sw2 | exact h.sw3 | exact h.sw4 | exact h.sw5 | exact h.sw6 | exact h.sw7 | exact h.sw8 | exact h.pull2 | exact h.pull3 | exact h.pull4 | exact h.pull5 | exact h.fit)) ((ModNew_bad W0 n _ hn).mono ?_)))
  rintro v H' ⟨rfl, rfl⟩
  iterate 5 (first | refine rs_ex rfl (by (first | (constructor <;> first | rfl | exact RdC.rd | exact inferInstance) | exact Ex.pickF rfl rfl | exact Ex.eqlS rfl rfl | exact Ex.neqS rfl rfl | exact Ex.eqlPN rfl rfl | exact Ex.neqPN rfl rfl | exact Ex.eqlSN rfl rfl | exact Ex.neqSN rfl rfl | exact Ex.lenStr rfl)) rfl ?_ | refine rs_skip rfl rfl ?_)
  refine rs_end ?_
  refine qe_then ?_
  refine ct_seq ?_
  refine ct_seq ?_
  refine ct_region ?_
  iterate 2 (first | refine rs_ex rfl (by (first | (constructor <;> first | rfl | exact RdC.rd | exact inferInstance) | exact Ex.pickF rfl rfl | exact Ex.eqlS rfl rfl | exact Ex.neqS rfl rfl | exact Ex.eqlPN rfl rfl | exact Ex.neqPN rfl rfl | exact Ex.eqlSN rfl rfl | exact Ex.neqSN rfl rfl | exact Ex.lenStr rfl)) rfl ?_ | refine rs_skip rfl rfl ?_)
  refine rs_end ?_
  refine qe_then ?_
  refine ct_cond rfl (fun h23 => ?_) (fun h23 => by simp at h23)
  refine ct_seq ?_
  refine ct_region ?_
  iterate 2 (first | refine rs_ex rfl (by (first | (constructor <;> first | rfl | exact RdC.rd | exact inferInstance) | exact Ex.pickF rfl rfl | exact Ex.eqlS rfl rfl | exact Ex.neqS rfl rfl | exact Ex.eqlPN rfl rfl | exact Ex.neqPN rfl rfl | exact Ex.eqlSN rfl rfl | exact Ex.neqSN rfl rfl | exact Ex.lenStr rfl)) rfl ?_ | refine rs_skip rfl rfl ?_)
  refine rs_end ?_
  refine qe_then ?_
  refine ct_ret ?_
  exact ret1 rfl rfl rfl
theorem ModelAll_ok (W0 : World) (k : Nat) (p : Option Addr) (c : Nat) (l : List Int) (h1 : SlR (At W0 []) p l) (hk1 : 1 ≤ k) (hk2 : k ≤ 16) :
    Call Try.prog W0 11 [.int .i64 (k : Int), .slice p l.length c] [] (fun v _ => v = .bool true) := by
  refine call_enter Try.func11 rfl Try.ntmps11 rfl ?_

  refine ct_seq ?_
  refine ct_region ?_
  (first | refine rs_ex rfl (by (first | (constructor <;> first | rfl | exact RdC.rd | exact inferInstance) | exact Ex.pickF rfl rfl | exact Ex.eqlS rfl rfl | exact Ex.neqS rfl rfl | exact Ex.eqlPN rfl rfl | exact Ex.neqPN rfl rfl | exact Ex.eqlSN rfl rfl | exact Ex.neqSN rfl rfl | exact Ex.lenStr rfl)) rfl ?_ | refine rs_skip rfl rfl ?_)
  refine rs_end ?_
  refine qe_then ?_
  refine ct_seq ?_
  refine ct_region ?_
  refine rs_op rfl rfl (opR_fn rfl (Call.heap (fun w h => by (first | exact h | exact h.sw1 | exact h.sw2 | exact h.sw3 | exact h.sw4 | exact h.sw5 | exact h.sw6 | exact h.sw7 | exact h.sw8 | exact h.pull2 | exact h.pull3 | exact h.pull4 | exact h.pull5 | exact h.fit)) ((Shown16_c W0 _).mono ?_)))
  rintro v H' ⟨rfl, rfl⟩
  (first | refine rs_ex rfl (by (first | (constructor <;> first | rfl | exact RdC.rd | exact inferInstance) | exact Ex.pickF rfl rfl | exact Ex.eqlS rfl rfl | exact Ex.neqS rfl rfl | exact Ex.eqlPN rfl rfl | exact Ex.neqPN rfl rfl | exact Ex.eqlSN rfl rfl | exact Ex.neqSN rfl rfl | exact Ex.lenStr rfl)) rfl ?_ | refine rs_skip rfl rfl ?_)
  refine rs_end ?_
  refine qe_then ?_
  refine ct_seq ?_
  refine ct_region ?_
  (first | refine rs_ex rfl (by (first | (constructor <;> first | rfl | exact RdC.rd | exact inferInstance) | exact Ex.pickF rfl rfl | exact Ex.eqlS rfl rfl | exact Ex.neqS rfl rfl | exact Ex.eqlPN rfl rfl | exact Ex.neqPN rfl rfl | exact Ex.eqlSN rfl rfl | exact Ex.neqSN rfl rfl | exact Ex.lenStr rfl)) rfl ?_ | refine rs_skip rfl rfl ?_)
  refine rs_op rfl rfl (opR_fn rfl (Call.heap (fun w h => by (first | exact h | exact h.sw1 | exact h.sw2 | exact h.sw3 | exact h.sw4 | exact h.sw5 | exact h.sw6 | exact h.sw7 | exact h.sw8 | exact h.pull2 | exact h.pull3 | exact h.pull4 | exact h.pull5 | exact h.fit)) ((ModNew_ok W0 k _ hk1 hk2).mono ?_)))
  rintro v H' ⟨bm, rfl, rfl⟩
  iterate 5 (first | refine rs_ex rfl (by (first | (constructor <;> first | rfl | exact RdC.rd | exact inferInstance) | exact Ex.pickF rfl rfl | exact Ex.eqlS rfl rfl | exact Ex.neqS rfl rfl | exact Ex.eqlPN rfl rfl | exact Ex.neqPN rfl rfl | exact Ex.eqlSN rfl rfl | exact Ex.neqSN rfl rfl | exact Ex.lenStr rfl)) rfl ?_ | refine rs_skip rfl rfl ?_)
  refine rs_end ?_
  refine qe_then ?_
  refine ct_seq ?_
  refine ct_seq ?_
  refine ct_region ?_
  iterate 2 (first | refine rs_ex rfl (by (first | (constructor <;> first | rfl | exact RdC.rd | exact inferInstance) | exact Ex.pickF rfl rfl | exact Ex.eqlS rfl rfl | exact Ex.neqS rfl rfl | exact Ex.eqlPN rfl rfl | exact Ex.neqPN rfl rfl | exact Ex.eqlSN rfl rfl | exact Ex.neqSN rfl rfl | exact Ex.lenStr rfl)) rfl ?_ | refine rs_skip rfl rfl ?_)
  refine rs_end ?_
  refine qe_then ?_
  refine ct_cond rfl (fun h23 => by simp at h23) (fun h23 => ?_)
  refine ct_skip ?_
  refine qe_then ?_
  refine ct_seq ?_
  refine ct_region ?_
  refine rs_op rfl rfl (opR_alloc fun b8 => ?_)
  refine rs_end ?_
  refine qe_then ?_
  refine ct_seq ?_
  refine ct_region ?_
  (first | refine rs_ex rfl (by (first | (constructor <;> first | rfl | exact RdC.rd | exact inferInstance) | exact Ex.pickF rfl rfl | exact Ex.eqlS rfl rfl | exact Ex.neqS rfl rfl | exact Ex.eqlPN rfl rfl | exact Ex.neqPN rfl rfl | exact Ex.eqlSN rfl rfl | exact Ex.neqSN rfl rfl | exact Ex.lenStr rfl)) rfl ?_ | refine rs_skip rfl rfl ?_)
  refine rs_end ?_
  refine qe_then ?_
  refine ct_heap (H' := SlT (α := Msg) 34 (.slice none 0 0) [] :: Blk b8 (.cells (u32s (List.replicate 16 0)).toArray 54 (0, 0)) :: ModC bm (Mod.new k) :: []) (fun w h => At.slt_nil 34 h) ?_
  refine ct_meetc (ζ := Mod × RMod × Value) (fun z => Sim z.1 z.2.1 ∧ z.2.1.acc.length ≤ 40 ∧ SeqA z.2.1.acc ∧ z.2.1.log = [] ∧ z.2.1.del = List.replicate k 0 ∧ z.1.Ok 40 ∧ z.2.1.Ok 40) [(0, _), (5, _), (6, _)] (fun z => [(9, z.2.2)]) (fun z => ModC bm z.1 :: SlT 34 z.2.2 z.2.1.acc :: []) ⟨rfl, rfl, rfl, trivial⟩ ?_ ?_
  · refine ct_seq ?_
    refine ct_region ?_
    (first | refine rs_ex rfl (by (first | (constructor <;> first | rfl | exact RdC.rd | exact inferInstance) | exact Ex.pickF rfl rfl | exact Ex.eqlS rfl rfl | exact Ex.neqS rfl rfl | exact Ex.eqlPN rfl rfl | exact Ex.neqPN rfl rfl | exact Ex.eqlSN rfl rfl | exact Ex.neqSN rfl rfl | exact Ex.lenStr rfl)) rfl ?_ | refine rs_skip rfl rfl ?_)
    refine rs_end ?_
    refine qe_then ?_
    refine ct_block ?_
    refine ct_loopc (ζ := Nat × Mod × RMod × List Int × Value) (fun z => z.1 ≤ l.length ∧ z.1 ≤ 40 ∧ Sim z.2.1 z.2.2.1 ∧ z.2.1.Ok z.1 ∧ z.2.2.1.Ok z.1 ∧ SeqA z.2.2.1.acc ∧ z.2.2.1.log = [] ∧ z.2.2.1.del = List.replicate k 0 ∧ z.2.2.2.1.length = 16 ∧ ∀ f : Nat, f < 16 → z.2.2.2.1[f]? = some ((of z.2.2.1.acc (f : Int)).length : Int)) [(0, _), (1, _), (5, _), (6, _), (8, _)] (fun z => [(10, .int .i64 (z.1 : Int)), (9, z.2.2.2.2)]) (fun z => SlT 34 z.2.2.2.2 z.2.2.1.acc :: Blk b8 (.cells (u32s z.2.2.2.1).toArray 54 (0, 0)) :: ModC bm z.2.1 :: []) (fun z => 40 - z.1) ((0, Mod.new k, RMod.new k, List.replicate 16 0, .slice none 0 0)) (⟨Nat.zero_le _, Nat.zero_le _, sim_new k, Mod.ok_new k, RMod.ok_new k, fun f => rfl, rfl, rfl, List.length_replicate, fun f hf => by simp only; rw [List.getElem?_replicate, if_pos hf]; rfl⟩) ⟨rfl, rfl, rfl, rfl, rfl, rfl, rfl, trivial⟩ (fun w h => by first | exact h.fit | exact h) ?_
    rintro ⟨i, s, r, N, v⟩ ⟨hi, hi40, hsim, hs, hr, hseq, hlog, hdel, hN, hNg⟩
    simp only at hi hi40 hsim hs hr hseq hlog hdel hN hNg ⊢
    refine ct_seq ?_
    refine ct_seq ?_
    refine ct_region ?_
    iterate 5 (first | refine rs_ex rfl (by (first | (constructor <;> first | rfl | exact RdC.rd | exact inferInstance) | exact Ex.pickF rfl rfl | exact Ex.eqlS rfl rfl | exact Ex.neqS rfl rfl | exact Ex.eqlPN rfl rfl | exact Ex.neqPN rfl rfl | exact Ex.eqlSN rfl rfl | exact Ex.neqSN rfl rfl | exact Ex.lenStr rfl)) rfl ?_ | refine rs_skip rfl rfl ?_)
    refine rs_split (fun h29 => ?_) (fun h29 => ?_)
    · iterate 3 (first | refine rs_ex rfl (by (first | (constructor <;> first | rfl | exact RdC.rd | exact inferInstance) | exact Ex.pickF rfl rfl | exact Ex.eqlS rfl rfl | exact Ex.neqS rfl rfl | exact Ex.eqlPN rfl rfl | exact Ex.neqPN rfl rfl | exact Ex.eqlSN rfl rfl | exact Ex.neqSN rfl rfl | exact Ex.lenStr rfl)) rfl ?_ | refine rs_skip rfl rfl ?_)
      refine rs_end ?_
      refine qe_then ?_
      refine ct_cond rfl (fun h32 => ?_) (fun h32 => ?_)
      · have hi1 : i < l.length := by simp at h29; exact h29
        have hi2 : i < 40 := by simp at h32; omega
        obtain ⟨b1, o1, rfl, r1⟩ := h1.get (List.getElem?_eq_getElem hi1)
        generalize l[i] = x at r1
        have hwr := wrapU64_range x
        have hwk := wrapU64_id (n := (k : Int)) (by omega) (by omega)
        obtain ⟨f, hf⟩ : ∃ f : Nat, (IntKind.u64.wrap x).tmod (k : Int) = (f : Int) := ⟨((IntKind.u64.wrap x).tmod (k : Int)).toNat, by have := Int.tmod_nonneg (k : Int) hwr.1; omega⟩
        have hfk : f < k := by have := Int.tmod_lt_of_pos (IntKind.u64.wrap x) (b := (k : Int)) (by omega); omega
        obtain ⟨c0, hc0⟩ : ∃ c0, c0 = (of r.acc (f : Int)).length := ⟨_, rfl⟩
        have hc1 := of_le r.acc (f : Int)
        have hra := hr.acc
        have hg : N[f]? = some (c0 : Int) := by rw [hNg f (by omega), hc0]
        have hget : (u32s N).toArray[0 + (f : Int).toNat * 1]? = some (.int .u32 (c0 : Int)) := by rw [Int.toNat_natCast]; exact u32s_get (by rw [← hg]; congr 1; omega)
        have hdl : r.del.length = k := by rw [hdel]; exact List.length_replicate
        have hstep := racc (r := r) (f := f) (c := c0) (by omega) (by omega) hc0.symm (by omega)
        have hsh := sim_happen hsim hs hr (by omega) (acc1 f c0)
        have hs' := hs.happen (by omega) (acc1 f c0)
        have hr' := hr.happen (acc1 f c0)
        have hsd : s.del.length = k := by rw [hsim.del, hdl]
        refine ct_skip ?_
        refine qe_then ?_
        refine ct_seq ?_
        refine ct_block ?_
        refine ct_seq ?_
        refine ct_region ?_
        iterate 2 (first | refine rs_ex rfl (by (first | (constructor <;> first | rfl | exact RdC.rd | exact inferInstance) | exact Ex.pickF rfl rfl | exact Ex.eqlS rfl rfl | exact Ex.neqS rfl rfl | exact Ex.eqlPN rfl rfl | exact Ex.neqPN rfl rfl | exact Ex.eqlSN rfl rfl | exact Ex.neqSN rfl rfl | exact Ex.lenStr rfl)) rfl ?_ | refine rs_skip rfl rfl ?_)
        refine rs_ex rfl (ex_indexAddr rfl rfl (by omega) (by omega)) rfl ?_
        refine rs_ex rfl (ex_loadInt x rfl (r1.mono fun w h => h.bare)) rfl ?_
        iterate 3 (first | refine rs_ex rfl (by (first | (constructor <;> first | rfl | exact RdC.rd | exact inferInstance) | exact Ex.pickF rfl rfl | exact Ex.eqlS rfl rfl | exact Ex.neqS rfl rfl | exact Ex.eqlPN rfl rfl | exact Ex.neqPN rfl rfl | exact Ex.eqlSN rfl rfl | exact Ex.neqSN rfl rfl | exact Ex.lenStr rfl)) rfl ?_ | refine rs_skip rfl rfl ?_)
        refine rs_ex rfl (ex_rem rfl rfl (by rw [hwk]; omega)) rfl ?_
        refine rs_rw (by rw [hwk, hf]) ?_
        (first | refine rs_ex rfl (by (first | (constructor <;> first | rfl | exact RdC.rd | exact inferInstance) | exact Ex.pickF rfl rfl | exact Ex.eqlS rfl rfl | exact Ex.neqS rfl rfl | exact Ex.eqlPN rfl rfl | exact Ex.neqPN rfl rfl | exact Ex.eqlSN rfl rfl | exact Ex.neqSN rfl rfl | exact Ex.lenStr rfl)) rfl ?_ | refine rs_skip rfl rfl ?_)
        refine rs_rw (by rw [wrap64 (by omega) (by omega)]) ?_
        (first | refine rs_ex rfl (by (first | (constructor <;> first | rfl | exact RdC.rd | exact inferInstance) | exact Ex.pickF rfl rfl | exact Ex.eqlS rfl rfl | exact Ex.neqS rfl rfl | exact Ex.eqlPN rfl rfl | exact Ex.neqPN rfl rfl | exact Ex.eqlSN rfl rfl | exact Ex.neqSN rfl rfl | exact Ex.lenStr rfl)) rfl ?_ | refine rs_skip rfl rfl ?_)
        refine rs_end ?_
        refine qe_then ?_
        refine ct_seq ?_
        refine ct_region ?_
        (first | refine rs_ex rfl (by (first | (constructor <;> first | rfl | exact RdC.rd | exact inferInstance) | exact Ex.pickF rfl rfl | exact Ex.eqlS rfl rfl | exact Ex.neqS rfl rfl | exact Ex.eqlPN rfl rfl | exact Ex.neqPN rfl rfl | exact Ex.eqlSN rfl rfl | exact Ex.neqSN rfl rfl | exact Ex.lenStr rfl)) rfl ?_ | refine rs_skip rfl rfl ?_)
        refine rs_ex rfl (ex_indexArr rfl rfl (by omega) (by omega)) rfl ?_
        refine rs_ex rfl (Ex.load1 rfl RdC.rd ⟨hget⟩) rfl ?_
        (first | refine rs_ex rfl (by (first | (constructor <;> first | rfl | exact RdC.rd | exact inferInstance) | exact Ex.pickF rfl rfl | exact Ex.eqlS rfl rfl | exact Ex.neqS rfl rfl | exact Ex.eqlPN rfl rfl | exact Ex.neqPN rfl rfl | exact Ex.eqlSN rfl rfl | exact Ex.neqSN rfl rfl | exact Ex.lenStr rfl)) rfl ?_ | refine rs_skip rfl rfl ?_)
        refine rs_rw (by rw [wrap32 (by omega) (by omega)]) ?_
        refine rs_ex rfl (ex_indexArr rfl rfl (by omega) (by omega)) rfl ?_
        refine rs_opN rfl (opR_storeAt rfl rfl ⟨rfl⟩ rfl (by rw [u32s_length, hN]; omega) ?_)
        refine rs_end ?_
        refine qe_then ?_
        rw [u32s_set]
        obtain ⟨N', hN'⟩ : ∃ N', N' = N.set (0 + (f : Int).toNat * 1) ((c0 : Int) + 1) := ⟨_, rfl⟩
        have hNl : N'.length = 16 := by rw [hN', List.length_set, hN]
        have hNn : ∀ f' : Nat, f' < 16 → N'[f']? = some ((of (r.acc ++ [(acc1 f c0).m]) (f' : Int)).length : Int) := fun f' hf' => by
          rw [hN', of_append, show 0 + (f : Int).toNat * 1 = f by omega]
          by_cases he : f' = f
          · rw [he, List.getElem?_set_self (by omega), of_one_self (x := (acc1 f c0).m) (f := (f : Int)) rfl, List.length_append, List.length_singleton, ← hc0]; rfl
          · rw [List.getElem?_set_ne (by omega), of_one_ne (by simp only [acc1]; omega), List.append_nil]; exact hNg f' hf'
        have hgn : N'[f]? = some ((c0 : Int) + 1) := by rw [hN', show 0 + (f : Int).toNat * 1 = f by omega, List.getElem?_set_self (by omega)]
        have hget' : (u32s N').toArray[0 + (f : Int).toNat * 1]? = some (.int .u32 ((c0 : Int) + 1)) := by rw [Int.toNat_natCast]; exact u32s_get (by rw [← hgn]; congr 1; omega)
        rw [← hN']
        refine ct_seq ?_
        refine ct_region ?_
        iterate 3 (first | refine rs_ex rfl (by (first | (constructor <;> first | rfl | exact RdC.rd | exact inferInstance) | exact Ex.pickF rfl rfl | exact Ex.eqlS rfl rfl | exact Ex.neqS rfl rfl | exact Ex.eqlPN rfl rfl | exact Ex.neqPN rfl rfl | exact Ex.eqlSN rfl rfl | exact Ex.neqSN rfl rfl | exact Ex.lenStr rfl)) rfl ?_ | refine rs_skip rfl rfl ?_)
        refine rs_ex rfl (ex_indexArr rfl rfl (by omega) (by omega)) rfl ?_
        refine rs_ex rfl (Ex.load1 rfl RdC.rd ⟨hget'⟩) rfl ?_
        refine rs_op rfl rfl (opR_fn rfl (Call.heap (fun w h => by (first | exact h | exact h.sw1 | exact h.sw2 | exact h.sw3 | exact h.sw4 | exact h.sw5 | exact h.sw6 | exact h.sw7 | exact h.sw8 | exact h.pull2 | exact h.pull3 | exact h.pull4 | exact h.pull5 | exact h.fit)) ((Hap_c W0 1 f f ((c0 : Int) + 1) _).mono ?_)))
        rintro v H' ⟨rfl, rfl⟩
        refine rs_op rfl rfl (opR_alloc fun b12 => ?_)
        refine rs_opN rfl (opR_store rfl rfl rfl rfl ?_)
        refine rs_end ?_
        refine qe_then ?_
        refine ct_seq ?_
        refine ct_seq ?_
        refine ct_region ?_
        iterate 2 (first | refine rs_ex rfl (by (first | (constructor <;> first | rfl | exact RdC.rd | exact inferInstance) | exact Ex.pickF rfl rfl | exact Ex.eqlS rfl rfl | exact Ex.neqS rfl rfl | exact Ex.eqlPN rfl rfl | exact Ex.neqPN rfl rfl | exact Ex.eqlSN rfl rfl | exact Ex.neqSN rfl rfl | exact Ex.lenStr rfl)) rfl ?_ | refine rs_skip rfl rfl ?_)
        refine rs_op rfl rfl (opR_fn rfl (Call.heap (fun w h => by (first | exact h | exact h.sw1 | exact h.sw2 | exact h.sw3 | exact h.sw4 | exact h.sw5 | exact h.sw6 | exact h.sw7 | exact h.sw8 | exact h.pull2 | exact h.pull3 | exact h.pull4 | exact h.pull5 | exact h.fit)) ((Happen_c W0 bm i s (acc1 f c0) _ hs (by omega) (by omega)).mono ?_)))
        rintro v H' ⟨rfl, rfl⟩
        rw [hsh.1, hstep]
        (first | refine rs_ex rfl (by (first | (constructor <;> first | rfl | exact RdC.rd | exact inferInstance) | exact Ex.pickF rfl rfl | exact Ex.eqlS rfl rfl | exact Ex.neqS rfl rfl | exact Ex.eqlPN rfl rfl | exact Ex.neqPN rfl rfl | exact Ex.eqlSN rfl rfl | exact Ex.neqSN rfl rfl | exact Ex.lenStr rfl)) rfl ?_ | refine rs_skip rfl rfl ?_)
        refine rs_end ?_
        refine qe_then ?_
        refine ct_cond rfl (fun h58 => by simp at h58) (fun h58 => ?_)
        refine ct_skip ?_
        refine qe_then ?_
        refine ct_pr (fun w h => h.drop.drop.slv) ?_; rintro ⟨p9, c9, e, hv9⟩
        subst e
        refine ct_region ?_
        iterate 3 (first | refine rs_ex rfl (by (first | (constructor <;> first | rfl | exact RdC.rd | exact inferInstance) | exact Ex.pickF rfl rfl | exact Ex.eqlS rfl rfl | exact Ex.neqS rfl rfl | exact Ex.eqlPN rfl rfl | exact Ex.neqPN rfl rfl | exact Ex.eqlSN rfl rfl | exact Ex.neqSN rfl rfl | exact Ex.lenStr rfl)) rfl ?_ | refine rs_skip rfl rfl ?_)
        refine rs_op rfl rfl (opR_buildSlice rfl rfl rfl rfl fun b62 => ?_)
        refine rs_op rfl rfl (opR_append [(acc1 f c0).m] rfl rfl (SlR.blk RdC.rd [(acc1 f c0).m] rfl) rfl (by simp; omega) rfl fun p3 cap3 hv3 => ?_)
        (first | refine rs_ex rfl (by (first | (constructor <;> first | rfl | exact RdC.rd | exact inferInstance) | exact Ex.pickF rfl rfl | exact Ex.eqlS rfl rfl | exact Ex.neqS rfl rfl | exact Ex.eqlPN rfl rfl | exact Ex.neqPN rfl rfl | exact Ex.eqlSN rfl rfl | exact Ex.neqSN rfl rfl | exact Ex.lenStr rfl)) rfl ?_ | refine rs_skip rfl rfl ?_)
        refine rs_end ?_
        refine qe_block 1 ?_
        refine qe_then ?_
        refine ct_region ?_
        iterate 2 (first | refine rs_ex rfl (by (first | (constructor <;> first | rfl | exact RdC.rd | exact inferInstance) | exact Ex.pickF rfl rfl | exact Ex.eqlS rfl rfl | exact Ex.neqS rfl rfl | exact Ex.eqlPN rfl rfl | exact Ex.neqPN rfl rfl | exact Ex.eqlSN rfl rfl | exact Ex.neqSN rfl rfl | exact Ex.lenStr rfl)) rfl ?_ | refine rs_skip rfl rfl ?_)
        refine rs_rw (by rw [wrapS (by omega)]) ?_
        (first | refine rs_ex rfl (by (first | (constructor <;> first | rfl | exact RdC.rd | exact inferInstance) | exact Ex.pickF rfl rfl | exact Ex.eqlS rfl rfl | exact Ex.neqS rfl rfl | exact Ex.eqlPN rfl rfl | exact Ex.neqPN rfl rfl | exact Ex.eqlSN rfl rfl | exact Ex.neqSN rfl rfl | exact Ex.lenStr rfl)) rfl ?_ | refine rs_skip rfl rfl ?_)
        refine rs_end ?_
        refine qe_loopc ((i + 1, (s.happen (acc1 f c0)).2, { r with acc := r.acc ++ [(acc1 f c0).m] }, N', _)) (⟨by simp only; omega, by simp only; omega, by rw [hstep] at hsh; exact hsh.2, hs', by rw [hstep] at hr'; exact hr', hseq.snoc (by simp only [acc1]; rw [hc0]), hlog, hdel, hNl, hNn⟩) (by first | omega | (simp only; omega)) ⟨rfl, rfl, rfl, rfl, rfl, rfl, rfl, trivial⟩ (fun w h => by first | exact h.fit | exact h)
      · refine ct_exit ?_
        refine qe_then_exit ?_
        refine qe_loop_exit ?_
        refine qe_block_exit ?_
        have hr40 : r.Ok 40 := ⟨Nat.le_trans hr.acc (by omega), Nat.le_trans hr.log (by omega), hr.dl⟩
        refine qe_midc ((s, r, v)) (⟨hsim, by have := hr.acc; simp only; omega, hseq, hlog, hdel, hs.mono (by omega), hr40⟩) ⟨rfl, rfl, rfl, rfl, trivial⟩ (fun w h => by first | exact h.fit | exact h)
    · iterate 3 (first | refine rs_ex rfl (by (first | (constructor <;> first | rfl | exact RdC.rd | exact inferInstance) | exact Ex.pickF rfl rfl | exact Ex.eqlS rfl rfl | exact Ex.neqS rfl rfl | exact Ex.eqlPN rfl rfl | exact Ex.neqPN rfl rfl | exact Ex.eqlSN rfl rfl | exact Ex.neqSN rfl rfl | exact Ex.lenStr rfl)) rfl ?_ | refine rs_skip rfl rfl ?_)
      refine rs_end ?_
      refine qe_then ?_
      refine ct_cond rfl (fun h => absurd h (by decide)) (fun _ => ?_)
      refine ct_exit ?_
      refine qe_then_exit ?_
      refine qe_loop_exit ?_
      refine qe_block_exit ?_
      have hr40 : r.Ok 40 := ⟨Nat.le_trans hr.acc (by omega), Nat.le_trans hr.log (by omega), hr.dl⟩
      refine qe_midc ((s, r, v)) (⟨hsim, by have := hr.acc; simp only; omega, hseq, hlog, hdel, hs.mono (by omega), hr40⟩) ⟨rfl, rfl, rfl, rfl, trivial⟩ (fun w h => by first | exact h.fit | exact h)
  · rintro ⟨s, r, v⟩ ⟨hsim, hA, hseq, hlog, hdel, hs, hr⟩
    simp only at hsim hA hseq hlog hdel hs hr ⊢
    obtain ⟨A, hAe⟩ : ∃ A, A = r.acc := ⟨_, rfl⟩
    rw [← hAe] at hA hseq ⊢
    refine ct_pr (fun w h => h.drop.slv) ?_; rintro ⟨pA, cA, e, hvA⟩
    subst e
    refine ct_seq ?_
    refine ct_seq ?_
    refine ct_region ?_
    (first | refine rs_ex rfl (by (first | (constructor <;> first | rfl | exact RdC.rd | exact inferInstance) | exact Ex.pickF rfl rfl | exact Ex.eqlS rfl rfl | exact Ex.neqS rfl rfl | exact Ex.eqlPN rfl rfl | exact Ex.neqPN rfl rfl | exact Ex.eqlSN rfl rfl | exact Ex.neqSN rfl rfl | exact Ex.lenStr rfl)) rfl ?_ | refine rs_skip rfl rfl ?_)
    refine rs_end ?_
    refine qe_then ?_
    refine ct_block ?_
    refine ct_loopc (ζ := Nat × Mod × RMod) (fun z => z.1 ≤ k ∧ Sim z.2.1 z.2.2 ∧ (∃ n, n ≤ 40 + 40 * z.1 ∧ z.2.1.Ok n ∧ z.2.2.Ok n) ∧ z.2.2.acc = A ∧ z.2.2.del.length = k ∧ (∀ q, q < k → z.2.2.del[q]? = some (if q < z.1 then (A.length : Int) else 0)) ∧ ((z.1 = 0 ∧ z.2.2.log = []) ∨ z.2.2.log = A)) [(0, _), (5, _), (6, _), (9, _)] (fun z => [(13, .int .i64 (z.1 : Int))]) (fun z => ModC bm z.2.1 :: SlT 34 (.slice pA A.length cA) A :: []) (fun z => k - z.1) ((0, s, r)) (⟨Nat.zero_le _, hsim, ⟨40, by omega, hs, hr⟩, hAe.symm, by simp only [hdel]; exact List.length_replicate, fun q hq => by simp only [hdel]; rw [List.getElem?_replicate, if_pos hq, if_neg (Nat.not_lt_zero _)], .inl ⟨rfl, hlog⟩⟩) ⟨rfl, rfl, rfl, rfl, rfl, trivial⟩ (fun w h => by first | exact h.fit | exact h) ?_
    rintro ⟨a, s, r⟩ ⟨hak, hsim, ⟨n, hn, hs, hr⟩, hacc, hdl, hdg, hlg⟩
    simp only at hak hsim hn hs hr hacc hdl hdg hlg ⊢
    refine ct_seq ?_
    refine ct_seq ?_
    refine ct_region ?_
    iterate 3 (first | refine rs_ex rfl (by (first | (constructor <;> first | rfl | exact RdC.rd | exact inferInstance) | exact Ex.pickF rfl rfl | exact Ex.eqlS rfl rfl | exact Ex.neqS rfl rfl | exact Ex.eqlPN rfl rfl | exact Ex.neqPN rfl rfl | exact Ex.eqlSN rfl rfl | exact Ex.neqSN rfl rfl | exact Ex.lenStr rfl)) rfl ?_ | refine rs_skip rfl rfl ?_)
    refine rs_end ?_
    refine qe_then ?_
    refine ct_cond rfl (fun h66 => ?_) (fun h66 => ?_)
    · have hak1 : a < k := by simp at h66; exact h66
      refine ct_skip ?_
      refine qe_then ?_
      refine ct_seq ?_
      refine ct_block ?_
      refine ct_seq ?_
      refine ct_region ?_
      (first | refine rs_ex rfl (by (first | (constructor <;> first | rfl | exact RdC.rd | exact inferInstance) | exact Ex.pickF rfl rfl | exact Ex.eqlS rfl rfl | exact Ex.neqS rfl rfl | exact Ex.eqlPN rfl rfl | exact Ex.neqPN rfl rfl | exact Ex.eqlSN rfl rfl | exact Ex.neqSN rfl rfl | exact Ex.lenStr rfl)) rfl ?_ | refine rs_skip rfl rfl ?_)
      refine rs_end ?_
      refine qe_then ?_
      refine ct_block ?_
      refine ct_loopc (ζ := Nat × Mod × RMod) (fun z => z.1 ≤ A.length ∧ Sim z.2.1 z.2.2 ∧ (∃ n, n ≤ 40 + 40 * a + z.1 ∧ z.2.1.Ok n ∧ z.2.2.Ok n) ∧ z.2.2.acc = A ∧ z.2.2.del.length = k ∧ (∀ q, q < k → z.2.2.del[q]? = some (if q < a then (A.length : Int) else if q = a then (z.1 : Int) else 0)) ∧ ((a = 0 ∧ z.2.2.log = A.take z.1) ∨ z.2.2.log = A)) [(0, _), (5, _), (6, _), (9, _), (13, _)] (fun z => [(14, .int .i64 (z.1 : Int))]) (fun z => ModC bm z.2.1 :: SlT 34 (.slice pA A.length cA) A :: []) (fun z => A.length - z.1) ((0, s, r)) (⟨Nat.zero_le _, hsim, ⟨n, by simp only; omega, hs, hr⟩, hacc, hdl, fun q hq => by simp only; rw [hdg q hq]; congr 1; split <;> (first | rfl | (split <;> rfl)), hlg.imp (fun h => ⟨h.1, by rw [List.take_zero]; exact h.2⟩) id⟩) ⟨rfl, rfl, rfl, rfl, rfl, rfl, trivial⟩ (fun w h => by first | exact h.fit | exact h) ?_
      rintro ⟨j, s, r⟩ ⟨hj, hsim, ⟨n, hn, hs, hr⟩, hacc, hdl, hdg, hlg⟩
      simp only at hj hsim hn hs hr hacc hdl hdg hlg ⊢
      refine ct_seq ?_
      refine ct_seq ?_
      refine ct_region ?_
      iterate 4 (first | refine rs_ex rfl (by (first | (constructor <;> first | rfl | exact RdC.rd | exact inferInstance) | exact Ex.pickF rfl rfl | exact Ex.eqlS rfl rfl | exact Ex.neqS rfl rfl | exact Ex.eqlPN rfl rfl | exact Ex.neqPN rfl rfl | exact Ex.eqlSN rfl rfl | exact Ex.neqSN rfl rfl | exact Ex.lenStr rfl)) rfl ?_ | refine rs_skip rfl rfl ?_)
      refine rs_end ?_
      refine qe_then ?_
      refine ct_cond rfl (fun h72 => ?_) (fun h72 => ?_)
      · have hj1 : j < A.length := by simp at h72; exact h72
        obtain ⟨b1, rfl⟩ := hvA.some hj1
        obtain ⟨m, hm⟩ : ∃ m, m = A[j] := ⟨_, rfl⟩
        have hg : A[j]? = some m := by rw [hm]; exact List.getElem?_eq_getElem hj1
        obtain ⟨log', hst, hlg'⟩ := rdel hacc hseq hak1 hdl (by rw [hdg a hak1, if_neg (Nat.lt_irrefl _), if_pos rfl]) hg hlg
        have hsh := sim_happen hsim hs hr (by omega) ⟨3, (a : Int), m⟩
        have hs' := hs.happen (by omega) ⟨3, (a : Int), m⟩
        have hr' := hr.happen ⟨3, (a : Int), m⟩
        have hsd : s.del.length = k := by rw [hsim.del, hdl]
        rw [hst] at hsh hr'
        refine ct_skip ?_
        refine qe_then ?_
        refine ct_seq ?_
        refine ct_block ?_
        refine ct_seq ?_
        refine ct_region ?_
        iterate 4 (first | refine rs_ex rfl (by (first | (constructor <;> first | rfl | exact RdC.rd | exact inferInstance) | exact Ex.pickF rfl rfl | exact Ex.eqlS rfl rfl | exact Ex.neqS rfl rfl | exact Ex.eqlPN rfl rfl | exact Ex.neqPN rfl rfl | exact Ex.eqlSN rfl rfl | exact Ex.neqSN rfl rfl | exact Ex.lenStr rfl)) rfl ?_ | refine rs_skip rfl rfl ?_)
        refine rs_ex rfl (ex_indexAddr rfl rfl (by omega) (by omega)) rfl ?_
        refine rs_ex rfl (ex_loadMsg m rfl (RdE.get hg)) rfl ?_
        refine rs_ex rfl (ex_build rfl) rfl ?_
        refine rs_op rfl rfl (opR_fn rfl (Call.heap (fun w h => by (first | exact h | exact h.sw1 | exact h.sw2 | exact h.sw3 | exact h.sw4 | exact h.sw5 | exact h.sw6 | exact h.sw7 | exact h.sw8 | exact h.pull2 | exact h.pull3 | exact h.pull4 | exact h.pull5 | exact h.fit)) ((Happen_c W0 bm n s ⟨3, (a : Int), m⟩ _ hs (by omega) (by omega)).mono ?_)))
        rintro v H' ⟨rfl, rfl⟩
        rw [hsh.1]
        (first | refine rs_ex rfl (by (first | (constructor <;> first | rfl | exact RdC.rd | exact inferInstance) | exact Ex.pickF rfl rfl | exact Ex.eqlS rfl rfl | exact Ex.neqS rfl rfl | exact Ex.eqlPN rfl rfl | exact Ex.neqPN rfl rfl | exact Ex.eqlSN rfl rfl | exact Ex.neqSN rfl rfl | exact Ex.lenStr rfl)) rfl ?_ | refine rs_skip rfl rfl ?_)
        refine rs_end ?_
        refine qe_then ?_
        refine ct_cond rfl (fun h83 => by simp at h83) (fun h83 => ?_)
        refine ct_skip ?_
        refine qe_block 5 ?_
        refine qe_then ?_
        refine ct_region ?_
        iterate 2 (first | refine rs_ex rfl (by (first | (constructor <;> first | rfl | exact RdC.rd | exact inferInstance) | exact Ex.pickF rfl rfl | exact Ex.eqlS rfl rfl | exact Ex.neqS rfl rfl | exact Ex.eqlPN rfl rfl | exact Ex.neqPN rfl rfl | exact Ex.eqlSN rfl rfl | exact Ex.neqSN rfl rfl | exact Ex.lenStr rfl)) rfl ?_ | refine rs_skip rfl rfl ?_)
        refine rs_rw (by rw [wrapS (by omega)]) ?_
        (first | refine rs_ex rfl (by (first | (constructor <;> first | rfl | exact RdC.rd | exact inferInstance) | exact Ex.pickF rfl rfl | exact Ex.eqlS rfl rfl | exact Ex.neqS rfl rfl | exact Ex.eqlPN rfl rfl | exact Ex.neqPN rfl rfl | exact Ex.eqlSN rfl rfl | exact Ex.neqSN rfl rfl | exact Ex.lenStr rfl)) rfl ?_ | refine rs_skip rfl rfl ?_)
        refine rs_end ?_
        refine qe_loopc ((j + 1, (s.happen ⟨3, (a : Int), m⟩).2, ⟨A, log', r.del.set a ((j : Int) + 1)⟩)) (⟨by simp only; omega, hsh.2, ⟨n + 1, by simp only; omega, hs', hr'⟩, rfl, by simp [hdl], fun q hq => by
          simp only
          by_cases hqa : q = a
          · rw [hqa, List.getElem?_set_self (by omega), if_neg (Nat.lt_irrefl _), if_pos rfl]; simp
          · rw [List.getElem?_set_ne (by omega), hdg q hq, if_neg hqa, if_neg hqa], hlg'⟩) (by first | omega | (simp only; omega)) ⟨rfl, rfl, rfl, rfl, rfl, rfl, trivial⟩ (fun w h => by first | exact h.fit | exact h)
      · have hje : j = A.length := by simp at h72; omega
        subst hje
        rw [List.take_length] at hlg
        refine ct_exit ?_
        refine qe_then_exit ?_
        refine qe_loop_exit ?_
        refine qe_block_exit ?_
        refine qe_block 3 ?_
        refine qe_then ?_
        refine ct_region ?_
        iterate 2 (first | refine rs_ex rfl (by (first | (constructor <;> first | rfl | exact RdC.rd | exact inferInstance) | exact Ex.pickF rfl rfl | exact Ex.eqlS rfl rfl | exact Ex.neqS rfl rfl | exact Ex.eqlPN rfl rfl | exact Ex.neqPN rfl rfl | exact Ex.eqlSN rfl rfl | exact Ex.neqSN rfl rfl | exact Ex.lenStr rfl)) rfl ?_ | refine rs_skip rfl rfl ?_)
        refine rs_rw (by rw [wrapS (by omega)]) ?_
        (first | refine rs_ex rfl (by (first | (constructor <;> first | rfl | exact RdC.rd | exact inferInstance) | exact Ex.pickF rfl rfl | exact Ex.eqlS rfl rfl | exact Ex.neqS rfl rfl | exact Ex.eqlPN rfl rfl | exact Ex.neqPN rfl rfl | exact Ex.eqlSN rfl rfl | exact Ex.neqSN rfl rfl | exact Ex.lenStr rfl)) rfl ?_ | refine rs_skip rfl rfl ?_)
        refine rs_end ?_
        refine qe_loopc ((a + 1, s, r)) (⟨by simp only; omega, hsim, ⟨n, by simp only; omega, hs, hr⟩, hacc, hdl, fun q hq => by simp only; rw [hdg q hq]; congr 1; split <;> (first | (rw [if_pos (by omega)]) | (split <;> (first | (rw [if_pos (by omega)]) | (rw [if_neg (by omega)])))), hlg.elim (fun h => .inr h.2) .inr⟩) (by first | omega | (simp only; omega)) ⟨rfl, rfl, rfl, rfl, rfl, trivial⟩ (fun w h => by first | exact h.fit | exact h)
    · have hae : a = k := by simp at h66; omega
      subst hae
      have hlog : s.book.log = A := by rw [hsim.log]; exact hlg.elim (fun h => absurd h.1 (by omega)) id
      have hbeh : ∀ q : Nat, q < a → s.behind q = 0 := fun q hq => by
        rw [Mod.behind, if_neg (by rw [hsim.del, hdl]; omega), hlog, hsim.del, Int.toNat_natCast, hdg q hq, if_pos hq]; simp
      refine ct_exit ?_
      refine qe_then_exit ?_
      refine qe_loop_exit ?_
      refine qe_block_exit ?_
      refine qe_then ?_
      refine ct_seq ?_
      refine ct_seq ?_
      refine ct_region ?_
      (first | refine rs_ex rfl (by (first | (constructor <;> first | rfl | exact RdC.rd | exact inferInstance) | exact Ex.pickF rfl rfl | exact Ex.eqlS rfl rfl | exact Ex.neqS rfl rfl | exact Ex.eqlPN rfl rfl | exact Ex.neqPN rfl rfl | exact Ex.eqlSN rfl rfl | exact Ex.neqSN rfl rfl | exact Ex.lenStr rfl)) rfl ?_ | refine rs_skip rfl rfl ?_)
      refine rs_end ?_
      refine qe_then ?_
      refine ct_block ?_
      refine ct_loopk (ζ := Nat) (fun q => q ≤ a) [(0, _), (5, _), (6, _), (9, _)] (fun q => [(15, .int .i64 (q : Int))]) (fun q => a - q) (0) (Nat.zero_le _) ⟨rfl, rfl, rfl, rfl, rfl, trivial⟩ ?_
      intro q hq
      refine ct_seq ?_
      refine ct_seq ?_
      refine ct_region ?_
      iterate 3 (first | refine rs_ex rfl (by (first | (constructor <;> first | rfl | exact RdC.rd | exact inferInstance) | exact Ex.pickF rfl rfl | exact Ex.eqlS rfl rfl | exact Ex.neqS rfl rfl | exact Ex.eqlPN rfl rfl | exact Ex.neqPN rfl rfl | exact Ex.eqlSN rfl rfl | exact Ex.neqSN rfl rfl | exact Ex.lenStr rfl)) rfl ?_ | refine rs_skip rfl rfl ?_)
      refine rs_end ?_
      refine qe_then ?_
      refine ct_cond rfl (fun h86 => ?_) (fun h86 => ?_)
      · have hq1 : q < a := by simp at h86; exact h86
        refine ct_skip ?_
        refine qe_then ?_
        refine ct_seq ?_
        refine ct_block ?_
        refine ct_seq ?_
        refine ct_region ?_
        iterate 2 (first | refine rs_ex rfl (by (first | (constructor <;> first | rfl | exact RdC.rd | exact inferInstance) | exact Ex.pickF rfl rfl | exact Ex.eqlS rfl rfl | exact Ex.neqS rfl rfl | exact Ex.eqlPN rfl rfl | exact Ex.neqPN rfl rfl | exact Ex.eqlSN rfl rfl | exact Ex.neqSN rfl rfl | exact Ex.lenStr rfl)) rfl ?_ | refine rs_skip rfl rfl ?_)
        refine rs_op rfl rfl (opR_fn rfl (Call.heap (fun w h => by (first | exact h | exact h.sw1 | exact h.sw2 | exact h.sw3 | exact h.sw4 | exact h.sw5 | exact h.sw6 | exact h.sw7 | exact h.sw8 | exact h.pull2 | exact h.pull3 | exact h.pull4 | exact h.pull5 | exact h.fit)) ((Behind_c W0 bm n s q _ hs (by omega)).mono ?_)))
        rintro v H' ⟨rfl, rfl⟩
        rw [hbeh q hq1]
        (first | refine rs_ex rfl (by (first | (constructor <;> first | rfl | exact RdC.rd | exact inferInstance) | exact Ex.pickF rfl rfl | exact Ex.eqlS rfl rfl | exact Ex.neqS rfl rfl | exact Ex.eqlPN rfl rfl | exact Ex.neqPN rfl rfl | exact Ex.eqlSN rfl rfl | exact Ex.neqSN rfl rfl | exact Ex.lenStr rfl)) rfl ?_ | refine rs_skip rfl rfl ?_)
        refine rs_end ?_
        refine qe_then ?_
        refine ct_cond rfl (fun h92 => by simp at h92) (fun h92 => ?_)
        refine ct_skip ?_
        refine qe_block 7 ?_
        refine qe_then ?_
        refine ct_region ?_
        iterate 2 (first | refine rs_ex rfl (by (first | (constructor <;> first | rfl | exact RdC.rd | exact inferInstance) | exact Ex.pickF rfl rfl | exact Ex.eqlS rfl rfl | exact Ex.neqS rfl rfl | exact Ex.eqlPN rfl rfl | exact Ex.neqPN rfl rfl | exact Ex.eqlSN rfl rfl | exact Ex.neqSN rfl rfl | exact Ex.lenStr rfl)) rfl ?_ | refine rs_skip rfl rfl ?_)
        refine rs_rw (by rw [wrapS (by omega)]) ?_
        (first | refine rs_ex rfl (by (first | (constructor <;> first | rfl | exact RdC.rd | exact inferInstance) | exact Ex.pickF rfl rfl | exact Ex.eqlS rfl rfl | exact Ex.neqS rfl rfl | exact Ex.eqlPN rfl rfl | exact Ex.neqPN rfl rfl | exact Ex.eqlSN rfl rfl | exact Ex.neqSN rfl rfl | exact Ex.lenStr rfl)) rfl ?_ | refine rs_skip rfl rfl ?_)
        refine rs_end ?_
        refine qe_loopc (q + 1) (by first | omega | (simp only; omega)) (by first | omega | (simp only; omega)) ⟨rfl, rfl, rfl, rfl, rfl, trivial⟩ (fun w h => by first | exact h.fit | exact h)
      · refine ct_exit ?_
        refine qe_then_exit ?_
        refine qe_loop_exit ?_
        refine qe_block_exit ?_
        refine qe_then ?_
        refine ct_seq ?_
        refine ct_region ?_
        iterate 2 (first | refine rs_ex rfl (by (first | (constructor <;> first | rfl | exact RdC.rd | exact inferInstance) | exact Ex.pickF rfl rfl | exact Ex.eqlS rfl rfl | exact Ex.neqS rfl rfl | exact Ex.eqlPN rfl rfl | exact Ex.neqPN rfl rfl | exact Ex.eqlSN rfl rfl | exact Ex.neqSN rfl rfl | exact Ex.lenStr rfl)) rfl ?_ | refine rs_skip rfl rfl ?_)
        refine rs_split (fun h94 => ?_) (fun h94 => by simp at h94)
        (first | refine rs_ex rfl (by (first | (constructor <;> first | rfl | exact RdC.rd | exact inferInstance) | exact Ex.pickF rfl rfl | exact Ex.eqlS rfl rfl | exact Ex.neqS rfl rfl | exact Ex.eqlPN rfl rfl | exact Ex.neqPN rfl rfl | exact Ex.eqlSN rfl rfl | exact Ex.neqSN rfl rfl | exact Ex.lenStr rfl)) rfl ?_ | refine rs_skip rfl rfl ?_)
        refine rs_op rfl rfl (opR_fn rfl (Call.heap (fun w h => by (first | exact h | exact h.sw1 | exact h.sw2 | exact h.sw3 | exact h.sw4 | exact h.sw5 | exact h.sw6 | exact h.sw7 | exact h.sw8 | exact h.pull2 | exact h.pull3 | exact h.pull4 | exact h.pull5 | exact h.fit)) ((ModLog_c W0 bm s _ (by rw [hlog]; omega)).mono ?_)))
        rintro v H' rfl
        refine rs_prp (fun w h => h.slv) ?_
        rintro ⟨p3, c3, e, hv3⟩
        subst e
        (first | refine rs_ex rfl (by (first | (constructor <;> first | rfl | exact RdC.rd | exact inferInstance) | exact Ex.pickF rfl rfl | exact Ex.eqlS rfl rfl | exact Ex.neqS rfl rfl | exact Ex.eqlPN rfl rfl | exact Ex.neqPN rfl rfl | exact Ex.eqlSN rfl rfl | exact Ex.neqSN rfl rfl | exact Ex.lenStr rfl)) rfl ?_ | refine rs_skip rfl rfl ?_)
        refine rs_op rfl rfl (opR_fn rfl (Call.heap (fun w h => by (first | exact h | exact h.sw1 | exact h.sw2 | exact h.sw3 | exact h.sw4 | exact h.sw5 | exact h.sw6 | exact h.sw7 | exact h.sw8 | exact h.pull2 | exact h.pull3 | exact h.pull4 | exact h.pull5 | exact h.fit)) ((Same_c W0 p3 c3 s.book.log pA cA A _ (by exact RdS.slR (len := s.book.log.length) inferInstance hv3) (by exact RdS.slR (len := A.length) inferInstance hvA) (by rw [hlog]; omega)).mono ?_)))
        rintro v H' ⟨rfl, rfl⟩
        iterate 2 (first | refine rs_ex rfl (by (first | (constructor <;> first | rfl | exact RdC.rd | exact inferInstance) | exact Ex.pickF rfl rfl | exact Ex.eqlS rfl rfl | exact Ex.neqS rfl rfl | exact Ex.eqlPN rfl rfl | exact Ex.neqPN rfl rfl | exact Ex.eqlSN rfl rfl | exact Ex.neqSN rfl rfl | exact Ex.lenStr rfl)) rfl ?_ | refine rs_skip rfl rfl ?_)
        refine rs_end ?_
        refine qe_then ?_
        refine ct_ret ?_
        exact ret1 rfl rfl (by rw [decide_eq_true hlog])
theorem ModelAll_c (W0 : World) (n : Int) (p : Option Addr) (c : Nat) (l : List Int) (h1 : SlR (At W0 []) p l) :
    Call Try.prog W0 11 [.int .i64 n, .slice p l.length c] [] (fun v _ => v = .bool true) := by
  by_cases hn : n < 1 ∨ 16 < n
  · exact ModelAll_bad W0 n p c l hn
  · obtain ⟨k, rfl⟩ : ∃ k : Nat, n = (k : Int) := ⟨n.toNat, by omega⟩
    exact ModelAll_ok W0 k p c l h1 (by omega) (by omega)
end Go.Rost
