/- A pool of messages, in order: what is pending, batches, what is done. -/
import Derived.Test.YtdjjfmoknncojaaBt
import Derived.Test.YtdjjfmoknncojaaSn
import Derived.Test.YtdjjfmoknncojaaMo
import Derived.Test.YtdjjfmoknncojaaWr
namespace Go.Rost
open Go Go.RowKit Go.Proofs

def sortIt (bl : Nat) (p : Option Addr) (c : Nat) (l : List Msg) : Chunk := Star [Blk bl (.cells #[.slice p l.length c] 138 (0, 0)), SlT 139 (.slice p l.length c) l]
theorem ex_loadNote {S : World → Prop} {σ : Env} {x : Operand} {b o : Nat} (a : Msg) (hx : σ.val x = some (.pointer (some ⟨b, o, none⟩))) (h : Rd S b o (Enc.enc a)) : Ex Try.prog S σ (.load 139 x) a.v := ex_loadA a hx h
theorem Sorted_c (W0 : World) (b : Nat) (s : Pool) (H : List Chunk) :
    Call Try.prog W0 73 [.pointer (some ⟨b, 0, none⟩)] (PoolC b s :: H)
      (fun v H' => ∃ bl p c, v = .func (.func 85) #[] #[.pointer (some ⟨bl, 0, none⟩)] ∧ SlV p c s.p ∧ H' = sortIt bl p c s.p :: PoolC b s :: H) := by
  refine Call.ex (fun w h => PoolC.open h) ?_
  rintro ⟨⟨pr, dr, pm, dm⟩, hi⟩
  simp only at hi ⊢
  have hpl := hi.len
  have hle := hi.le
  refine call_enter Try.func73 rfl Try.ntmps73 rfl ?_

  refine ct_seq ?_
  refine ct_region ?_
  (first | refine rs_ex rfl (by (first | (constructor <;> first | rfl | exact RdC.rd | exact inferInstance) | exact Ex.pickF rfl rfl | exact Ex.eqlS rfl rfl | exact Ex.neqS rfl rfl | exact Ex.eqlPN rfl rfl | exact Ex.neqPN rfl rfl | exact Ex.eqlSN rfl rfl | exact Ex.neqSN rfl rfl | exact Ex.lenStr rfl)) rfl ?_ | refine rs_skip rfl rfl ?_)
  refine rs_end ?_
  refine qe_then ?_
  refine ct_seq ?_
  refine ct_region ?_
  refine rs_op rfl rfl (opR_alloc fun b3 => ?_)
  refine rs_end ?_
  refine qe_then ?_
  refine ct_seq ?_
  refine ct_seq ?_
  refine ct_region ?_
  iterate 4 (first | refine rs_ex rfl (by (first | (constructor <;> first | rfl | exact RdC.rd | exact inferInstance) | exact Ex.pickF rfl rfl | exact Ex.eqlS rfl rfl | exact Ex.neqS rfl rfl | exact Ex.eqlPN rfl rfl | exact Ex.neqPN rfl rfl | exact Ex.eqlSN rfl rfl | exact Ex.neqSN rfl rfl | exact Ex.lenStr rfl)) rfl ?_ | refine rs_skip rfl rfl ?_)
  refine rs_heap (H' := MapC Id.v Msg.v pr pm :: Blk b3 (.cells #[.slice none 0 0] 138 (0, 0)) :: Blk b (.cells #[.map (some pr), .map (some dr)] 123 (0, 0)) :: MapC Id.v boolV dr dm :: H) (fun w h => h.sw2) ?_
  refine rs_op rfl rfl (opR_range rfl fun r => ?_)
  refine rs_end ?_
  refine qe_then ?_
  refine ct_heap (H' := RngC Id.v Msg.v pr r pm pm none :: Blk b3 (.cells #[.slice none 0 0] 138 (0, 0)) :: SlT 139 (.slice none 0 0) ([] : List Msg) :: Blk b (.cells #[.map (some pr), .map (some dr)] 123 (0, 0)) :: MapC Id.v boolV dr dm :: H) (fun w h => At.top [_, _, _] [1, 2, 0] (At.slt_nil (α := Msg) 139 h)) ?_
  refine ct_block ?_
  refine ct_loopc (ζ := Value × List Msg × List (Id × Msg) × Option (Id × Msg)) (fun q => (q.2.1 ++ q.2.2.1.map (·.2)).Perm (pm.map (·.2))) [(3, _), (10, _)] (fun q => []) (fun q => RngC Id.v Msg.v pr r pm q.2.2.1 q.2.2.2 :: Blk b3 (.cells #[q.1] 138 (0, 0)) :: SlT 139 q.1 q.2.1 :: Blk b (.cells #[.map (some pr), .map (some dr)] 123 (0, 0)) :: MapC Id.v boolV dr dm :: H) (fun q => q.2.2.1.length) ((.slice none 0 0, [], pm, none)) (.refl _) ⟨rfl, rfl, trivial⟩ (fun w h => by first | exact h.fit | exact h) ?_
  rintro ⟨ov, taken, todo, cur⟩ hp
  simp only at hp ⊢
  have hlen := hp.length_eq
  rw [List.length_append, List.length_map, List.length_map] at hlen
  refine ct_seq ?_
  refine ct_region ?_
  refine rs_op rfl rfl (opR_next rfl (fun h0 => ?_) (fun x todo' hp' => ?_))
  · (first | refine rs_ex rfl (by (first | (constructor <;> first | rfl | exact RdC.rd | exact inferInstance) | exact Ex.pickF rfl rfl | exact Ex.eqlS rfl rfl | exact Ex.neqS rfl rfl | exact Ex.eqlPN rfl rfl | exact Ex.neqPN rfl rfl | exact Ex.eqlSN rfl rfl | exact Ex.neqSN rfl rfl | exact Ex.lenStr rfl)) rfl ?_ | refine rs_skip rfl rfl ?_)
    refine rs_end ?_
    refine qe_then ?_
    refine ct_seq ?_
    refine ct_cond rfl (fun h => absurd h (by decide)) (fun _ => ?_)
    refine ct_exit ?_
    refine qe_then_exit ?_
    refine qe_loop_exit ?_
    refine qe_block_exit ?_
    refine qe_then ?_
    refine ct_seq ?_
    refine ct_pr (fun w h => h.drop.drop.slv) ?_; rintro ⟨p, c, ep, hv⟩
    subst ep
    subst h0
    rw [List.map_nil, List.append_nil] at hp
    refine ct_region ?_
    (first | refine rs_ex rfl (by (first | (constructor <;> first | rfl | exact RdC.rd | exact inferInstance) | exact Ex.pickF rfl rfl | exact Ex.eqlS rfl rfl | exact Ex.neqS rfl rfl | exact Ex.eqlPN rfl rfl | exact Ex.neqPN rfl rfl | exact Ex.eqlSN rfl rfl | exact Ex.neqSN rfl rfl | exact Ex.lenStr rfl)) rfl ?_ | refine rs_skip rfl rfl ?_)
    refine rs_op rfl rfl (opR_fn rfl (Call.heap (fun w h => by (first | exact h | exact h.sw1 | exact h.sw2 | exact h.sw3 | exact h.sw4 | exact h.sw5 | exact h.sw6 | exact h.sw7 | exact h.sw8 | exact h.pull2 | exact h.pull3 | exact h.pull4 | exact h.pull5 | exact h.fit)) ((sort_note W0 p c taken _ hv (by omega)).mono ?_)))
    rintro v H' ⟨l', hp1, hs1, rfl⟩
    refine rs_end ?_
    refine qe_then ?_
    have hl : l' = s.p := Asc.unique (asc_of_sorted (by rw [← hi.keys]; exact hi.nodup) (hp1.trans hp) hs1) hi.asc ((hp1.trans hp).trans hi.perm.symm)
    have hl2 : taken.length = l'.length := hp1.length_eq.symm
    have hv2 : SlV p c l' := hv.same hl2.symm
    rw [hl2]
    subst hl
    refine ct_seq ?_
    refine ct_region ?_
    iterate 2 (first | refine rs_ex rfl (by (first | (constructor <;> first | rfl | exact RdC.rd | exact inferInstance) | exact Ex.pickF rfl rfl | exact Ex.eqlS rfl rfl | exact Ex.neqS rfl rfl | exact Ex.eqlPN rfl rfl | exact Ex.neqPN rfl rfl | exact Ex.eqlSN rfl rfl | exact Ex.neqSN rfl rfl | exact Ex.lenStr rfl)) rfl ?_ | refine rs_skip rfl rfl ?_)
    refine rs_end ?_
    refine qe_then ?_
    refine ct_ret ?_
    exact qe_heap (H' := sortIt b3 p c s.p :: PoolC b s :: H) (fun w h => At.star.2 (show At W0 ([_, _] ++ _) w from At.top [_, _, _] [1, 2, 0] (PoolC.shut hi (At.top [_, _, _, _, _] [3, 0, 4, 2, 1] (At.rng_done (At.sw1 h)))))) (ret1 rfl rfl ⟨b3, p, c, rfl, hv2, rfl⟩)
  · have hlen' := hp'.length_eq
    rw [List.length_cons] at hlen'
    (first | refine rs_ex rfl (by (first | (constructor <;> first | rfl | exact RdC.rd | exact inferInstance) | exact Ex.pickF rfl rfl | exact Ex.eqlS rfl rfl | exact Ex.neqS rfl rfl | exact Ex.eqlPN rfl rfl | exact Ex.neqPN rfl rfl | exact Ex.eqlSN rfl rfl | exact Ex.neqSN rfl rfl | exact Ex.lenStr rfl)) rfl ?_ | refine rs_skip rfl rfl ?_)
    refine rs_end ?_
    refine qe_then ?_
    refine ct_seq ?_
    refine ct_cond rfl (fun _ => ?_) (fun h => absurd h (by decide))
    refine ct_skip ?_
    refine qe_then ?_
    refine ct_block ?_
    refine ct_seq ?_
    refine ct_region ?_
    refine rs_ex rfl (ex_entry x (fun w hw => ⟨_, hw⟩) rfl) rfl ?_
    (first | refine rs_ex rfl (by (first | (constructor <;> first | rfl | exact RdC.rd | exact inferInstance) | exact Ex.pickF rfl rfl | exact Ex.eqlS rfl rfl | exact Ex.neqS rfl rfl | exact Ex.eqlPN rfl rfl | exact Ex.neqPN rfl rfl | exact Ex.eqlSN rfl rfl | exact Ex.neqSN rfl rfl | exact Ex.lenStr rfl)) rfl ?_ | refine rs_skip rfl rfl ?_)
    refine rs_op rfl rfl (opR_alloc fun b5 => ?_)
    refine rs_opN rfl (opR_store rfl rfl rfl rfl ?_)
    refine rs_end ?_
    refine qe_then ?_
    refine ct_pr (fun w h => h.drop.drop.drop.slv) ?_; rintro ⟨pt, ct, et, hvt⟩
    subst et
    refine ct_region ?_
    iterate 2 (first | refine rs_ex rfl (by (first | (constructor <;> first | rfl | exact RdC.rd | exact inferInstance) | exact Ex.pickF rfl rfl | exact Ex.eqlS rfl rfl | exact Ex.neqS rfl rfl | exact Ex.eqlPN rfl rfl | exact Ex.neqPN rfl rfl | exact Ex.eqlSN rfl rfl | exact Ex.neqSN rfl rfl | exact Ex.lenStr rfl)) rfl ?_ | refine rs_skip rfl rfl ?_)
    refine rs_op rfl rfl (opR_buildSlice rfl rfl rfl rfl fun b17 => ?_)
    refine rs_op rfl rfl (opR_append [x.2] rfl rfl (by exact SlR.blk RdC.rd [x.2] rfl) rfl (by simp; omega) rfl fun p4 c4 hv4 => ?_)
    refine rs_opN rfl (opR_store rfl rfl rfl rfl ?_)
    refine rs_end ?_
    refine qe_block 1 ?_
    refine qe_loopc ((.slice p4 (taken ++ [x.2]).length c4, taken ++ [x.2], todo', some x)) (by
      refine List.Perm.trans ?_ hp
      rw [List.append_assoc]
      refine List.Perm.append_left _ ?_
      exact (hp'.map (·.2)).symm) (by simp only; omega) ⟨rfl, rfl, trivial⟩ (fun w h => by first | exact h.fit | exact h)
theorem Sorted1_c (W0 : World) {ζ : Type} (y : Value) (gc : ζ → Option Code → Chunk) (step : ζ → Msg → ζ × Option Code) (J : ζ → List Msg → Prop) (z0 : ζ) (bs c : Nat) (p : Option Addr) (l : List Msg) (T : List Chunk)
    (hy : Yields Try.prog W0 y encM gc step J) (h0 : J z0 l) (hv : SlV p c l) (hl : l.length ≤ 100000) :
    Call Try.prog W0 85 [y, .pointer (some ⟨bs, 0, none⟩)] (sortIt bs p c l :: gc z0 none :: T)
      (fun _ H' => ∃ xs it', xs = l ∧ H' = it' :: gc (runs step z0 xs).1 (runs step z0 xs).2 :: T) := by
  refine Call.heap (H' := Blk bs (.cells #[.slice p l.length c] 138 (0, 0)) :: SlT 139 (.slice p l.length c) l :: gc z0 none :: T) (fun w h => At.star.1 h) ?_
  refine call_enter Try.func85 rfl Try.ntmps85 rfl ?_

  refine ct_seq ?_
  refine ct_region ?_
  iterate 3 (first | refine rs_ex rfl (by (first | (constructor <;> first | rfl | exact RdC.rd | exact inferInstance) | exact Ex.pickF rfl rfl | exact Ex.eqlS rfl rfl | exact Ex.neqS rfl rfl | exact Ex.eqlPN rfl rfl | exact Ex.neqPN rfl rfl | exact Ex.eqlSN rfl rfl | exact Ex.neqSN rfl rfl | exact Ex.lenStr rfl)) rfl ?_ | refine rs_skip rfl rfl ?_)
  refine rs_end ?_
  refine qe_then ?_
  refine ct_block ?_
  refine ct_loopc (ζ := Nat × ζ) (fun q => J q.2 (l.drop q.1) ∧ q.1 ≤ l.length ∧ runs step q.2 (l.drop q.1) = runs step z0 l) [(0, _), (5, _), (6, _)] (fun q => [(7, .int .i64 (q.1 : Int))]) (fun q => Blk bs (.cells #[.slice p l.length c] 138 (0, 0)) :: SlT 139 (.slice p l.length c) l :: gc q.2 none :: T) (fun q => l.length - q.1) ((0, z0)) (⟨h0, Nat.zero_le _, rfl⟩) ⟨rfl, rfl, rfl, rfl, trivial⟩ (fun w h => by first | exact h.fit | exact h) ?_
  rintro ⟨i, z⟩ ⟨hz, hi, hruns⟩
  simp only at hz hi hruns ⊢
  refine ct_seq ?_
  refine ct_region ?_
  (first | refine rs_ex rfl (by (first | (constructor <;> first | rfl | exact RdC.rd | exact inferInstance) | exact Ex.pickF rfl rfl | exact Ex.eqlS rfl rfl | exact Ex.neqS rfl rfl | exact Ex.eqlPN rfl rfl | exact Ex.neqPN rfl rfl | exact Ex.eqlSN rfl rfl | exact Ex.neqSN rfl rfl | exact Ex.lenStr rfl)) rfl ?_ | refine rs_skip rfl rfl ?_)
  refine rs_end ?_
  refine qe_then ?_
  refine ct_seq ?_
  refine ct_cond rfl (fun h8 => ?_) (fun h8 => ?_)
  · have hi1 : i < l.length := by simp at h8; exact h8
    obtain ⟨b1, rfl⟩ := hv.some hi1
    obtain ⟨x, hx⟩ : ∃ x, x = l[i] := ⟨_, rfl⟩
    have hx' : l[i]? = some x := by rw [hx]; exact List.getElem?_eq_getElem hi1
    rw [List.drop_eq_getElem_cons hi1, ← hx] at hruns hz
    refine ct_skip ?_
    refine qe_then ?_
    refine ct_seq ?_
    refine ct_block ?_
    refine ct_seq ?_
    refine ct_region ?_
    refine rs_ex rfl (ex_indexAddr rfl rfl (by omega) (by omega)) rfl ?_
    refine rs_ex rfl (ex_loadNote x rfl (RdE.get hx')) rfl ?_
    refine rs_op rfl rfl (opR_alloc fun b4 => ?_)
    refine rs_opN rfl (opR_store rfl rfl rfl rfl ?_)
    refine rs_end ?_
    refine qe_then ?_
    refine ct_seq ?_
    refine ct_region ?_
    iterate 2 (first | refine rs_ex rfl (by (first | (constructor <;> first | rfl | exact RdC.rd | exact inferInstance) | exact Ex.pickF rfl rfl | exact Ex.eqlS rfl rfl | exact Ex.neqS rfl rfl | exact Ex.eqlPN rfl rfl | exact Ex.neqPN rfl rfl | exact Ex.eqlSN rfl rfl | exact Ex.neqSN rfl rfl | exact Ex.lenStr rfl)) rfl ?_ | refine rs_skip rfl rfl ?_)
    have hcall := hy.call z x _ (Blk b4 (.cells #[.int .i64 x.id.from_, .int .u32 x.id.count, .string x.data] 139 (0, 0)) :: Blk bs (.cells #[.slice (some ⟨b1, 0, none⟩) l.length c] 138 (0, 0)) :: SlT 139 (.slice (some ⟨b1, 0, none⟩) l.length c) l :: T) hz
    refine rs_op rfl rfl (opR_callV rfl rfl (CallV.heap (fun w h => At.top [_, _, _, _] [3, 0, 1, 2] h) (hcall.mono ?_)))
    rintro v H' ⟨rfl, rfl⟩
    (first | refine rs_ex rfl (by (first | (constructor <;> first | rfl | exact RdC.rd | exact inferInstance) | exact Ex.pickF rfl rfl | exact Ex.eqlS rfl rfl | exact Ex.neqS rfl rfl | exact Ex.eqlPN rfl rfl | exact Ex.neqPN rfl rfl | exact Ex.eqlSN rfl rfl | exact Ex.neqSN rfl rfl | exact Ex.lenStr rfl)) rfl ?_ | refine rs_skip rfl rfl ?_)
    refine rs_end ?_
    refine qe_then ?_
    refine ct_cond rfl (fun h14 => ?_) (fun h14 => ?_)
    · obtain ⟨j, hj⟩ : ∃ j, (step z x).2 = some j := by
        cases hj : (step z x).2 with
        | none => rw [hj] at h14; cases h14
        | some j => exact ⟨j, rfl⟩
      refine ct_ret ?_
      exact qe_heap (H' := sortIt bs (some ⟨b1, 0, none⟩) c l :: gc (step z x).1 (step z x).2 :: T) (fun w h => At.star.2 (At.top [_, _, _, _] [2, 3, 0] h)) (ret0 rfl ⟨l, sortIt bs (some ⟨b1, 0, none⟩) c l, rfl, by rw [← hruns, runs, hj]⟩)
    · have hj : (step z x).2 = none := by
        cases hj : (step z x).2 with
        | none => rfl
        | some j => rw [hj] at h14; cases h14
      rw [hj]
      refine ct_skip ?_
      refine qe_block 1 ?_
      refine qe_then ?_
      refine ct_region ?_
      (first | refine rs_ex rfl (by (first | (constructor <;> first | rfl | exact RdC.rd | exact inferInstance) | exact Ex.pickF rfl rfl | exact Ex.eqlS rfl rfl | exact Ex.neqS rfl rfl | exact Ex.eqlPN rfl rfl | exact Ex.neqPN rfl rfl | exact Ex.eqlSN rfl rfl | exact Ex.neqSN rfl rfl | exact Ex.lenStr rfl)) rfl ?_ | refine rs_skip rfl rfl ?_)
      refine rs_rw (by rw [wrapS (by omega)]) ?_
      (first | refine rs_ex rfl (by (first | (constructor <;> first | rfl | exact RdC.rd | exact inferInstance) | exact Ex.pickF rfl rfl | exact Ex.eqlS rfl rfl | exact Ex.neqS rfl rfl | exact Ex.eqlPN rfl rfl | exact Ex.neqPN rfl rfl | exact Ex.eqlSN rfl rfl | exact Ex.neqSN rfl rfl | exact Ex.lenStr rfl)) rfl ?_ | refine rs_skip rfl rfl ?_)
      refine rs_end ?_
      refine qe_loopc ((i + 1, (step z x).1)) (⟨hy.keeps _ _ _ hz hj, by simp only; omega, by rw [← hruns, runs, hj]⟩) (by first | omega | (simp only; omega)) ⟨rfl, rfl, rfl, rfl, trivial⟩ (fun w h => At.top [_, _, _, _] [2, 3, 0] h)
  · have e : i = l.length := by simp at h8; omega
    subst e
    rw [List.drop_length] at hruns
    refine ct_exit ?_
    refine qe_then_exit ?_
    refine qe_loop_exit ?_
    refine qe_block_exit ?_
    refine qe_end ?_
    exact qe_heap (H' := sortIt bs p c l :: gc z none :: T) (fun w h => At.star.2 h) (ret0 rfl ⟨l, sortIt bs p c l, rfl, by rw [← hruns]; rfl⟩)
def batStep (n : Int) (z : List Msg) (x : Msg) : List Msg × Option Code := if (z.length : Int) = n then (z, some (.exit 1)) else (z ++ [x], none)
theorem runs_bat (n : Nat) : ∀ (l z : List Msg), z.length ≤ n → (runs (batStep n) z l).1 = z ++ l.take (n - z.length) ∧ ((runs (batStep n) z l).2 = none ∨ (runs (batStep n) z l).2 = some (.exit 1))
  | [], z, _ => by rw [runs]; simp
  | x :: l, z, hz => by
    by_cases h : z.length = n
    · have e : batStep n z x = (z, some (.exit 1)) := by rw [batStep, if_pos (by omega)]
      rw [runs, e]
      simp [h]
    · have e : batStep n z x = (z ++ [x], none) := by rw [batStep, if_neg (by omega)]
      rw [runs, e]
      simp only
      have ih := runs_bat n l (z ++ [x]) (by simp; omega)
      refine ⟨?_, ih.2⟩
      rw [ih.1, List.length_append, List.length_singleton, show n - z.length = (n - (z.length + 1)) + 1 by omega, List.take_succ_cons, List.append_assoc]
      rfl
theorem Batch_nil (W0 : World) (n : Int) (H : List Chunk) : Call Try.prog W0 43 [.pointer none, .int .i64 n] H (fun v H' => v = .tuple #[.slice none 0 0, .int .i64 1] ∧ H' = H) := by
  refine call_enterM Try.func43 rfl Try.ntmps43 rfl ?_
  refine ct_seq ?_
  refine ct_region ?_
  refine rs_op rfl rfl (opR_box rfl fun b3 => ?_)
  repeat (first | refine rs_ex rfl (by (first | (constructor <;> first | rfl | exact RdC.rd | exact inferInstance) | exact Ex.pickF rfl rfl | exact Ex.eqlS rfl rfl | exact Ex.neqS rfl rfl | exact Ex.eqlPN rfl rfl | exact Ex.neqPN rfl rfl | exact Ex.eqlSN rfl rfl | exact Ex.neqSN rfl rfl | exact Ex.lenStr rfl)) rfl ?_ | refine rs_skip rfl rfl ?_)
  refine rs_end (qe_then ?_)
  refine ct_scope ?_
  refine ct_seq (ct_block ?_)
  refine ct_seq (ct_region ?_)
  repeat (first | refine rs_ex rfl (by (first | (constructor <;> first | rfl | exact RdC.rd | exact inferInstance) | exact Ex.pickF rfl rfl | exact Ex.eqlS rfl rfl | exact Ex.neqS rfl rfl | exact Ex.eqlPN rfl rfl | exact Ex.neqPN rfl rfl | exact Ex.eqlSN rfl rfl | exact Ex.neqSN rfl rfl | exact Ex.lenStr rfl)) rfl ?_ | refine rs_skip rfl rfl ?_)
  refine rs_end (qe_then ?_)
  refine ct_cond rfl (fun _ => ?_) (fun h => by cases h)
  refine ct_seq (ct_region ?_)
  repeat (first | refine rs_ex rfl (by (first | (constructor <;> first | rfl | exact RdC.rd | exact inferInstance) | exact Ex.pickF rfl rfl | exact Ex.eqlS rfl rfl | exact Ex.neqS rfl rfl | exact Ex.eqlPN rfl rfl | exact Ex.neqPN rfl rfl | exact Ex.eqlSN rfl rfl | exact Ex.neqSN rfl rfl | exact Ex.lenStr rfl)) rfl ?_ | refine rs_skip rfl rfl ?_)
  exact rs_end (qe_then (ct_ret (retM (qe_heap (fun w h => h.drop) (ret2 rfl rfl rfl ⟨rfl, rfl⟩)))))
theorem Batch_c (W0 : World) (b : Nat) (s : Pool) (n : Int) (H : List Chunk) :
    Call Try.prog W0 43 [.pointer (some ⟨b, 0, none⟩), .int .i64 n] (PoolC b s :: H)
      (fun v H' => ∃ u, v = .tuple #[u, .int .i64 (batchErr n)] ∧ H' = SlT 34 u (s.batch n) :: PoolC b s :: H) := by
  refine Call.pr (fun w h => PoolC.inv h) ?_
  rintro ⟨hasc, hle⟩
  refine call_enterM Try.func43 rfl Try.ntmps43 rfl ?_

  refine ct_seq ?_
  refine ct_region ?_
  refine rs_op rfl rfl (opR_box rfl fun b3 => ?_)
  iterate 2 (first | refine rs_ex rfl (by (first | (constructor <;> first | rfl | exact RdC.rd | exact inferInstance) | exact Ex.pickF rfl rfl | exact Ex.eqlS rfl rfl | exact Ex.neqS rfl rfl | exact Ex.eqlPN rfl rfl | exact Ex.neqPN rfl rfl | exact Ex.eqlSN rfl rfl | exact Ex.neqSN rfl rfl | exact Ex.lenStr rfl)) rfl ?_ | refine rs_skip rfl rfl ?_)
  refine rs_end ?_
  refine qe_then ?_
  refine ct_scope ?_
  refine ct_seq ?_
  refine ct_block ?_
  refine ct_seq ?_
  refine ct_region ?_
  iterate 3 (first | refine rs_ex rfl (by (first | (constructor <;> first | rfl | exact RdC.rd | exact inferInstance) | exact Ex.pickF rfl rfl | exact Ex.eqlS rfl rfl | exact Ex.neqS rfl rfl | exact Ex.eqlPN rfl rfl | exact Ex.neqPN rfl rfl | exact Ex.eqlSN rfl rfl | exact Ex.neqSN rfl rfl | exact Ex.lenStr rfl)) rfl ?_ | refine rs_skip rfl rfl ?_)
  refine rs_end ?_
  refine qe_then ?_
  refine ct_cond rfl (fun h8 => by cases h8) (fun h8 => ?_)
  refine ct_seq ?_
  refine ct_region ?_
  iterate 3 (first | refine rs_ex rfl (by (first | (constructor <;> first | rfl | exact RdC.rd | exact inferInstance) | exact Ex.pickF rfl rfl | exact Ex.eqlS rfl rfl | exact Ex.neqS rfl rfl | exact Ex.eqlPN rfl rfl | exact Ex.neqPN rfl rfl | exact Ex.eqlSN rfl rfl | exact Ex.neqSN rfl rfl | exact Ex.lenStr rfl)) rfl ?_ | refine rs_skip rfl rfl ?_)
  refine rs_split (fun h14 => ?_) (fun h14 => ?_)
  · have hn : n < 1 ∨ 64 < n := .inl (by simpa using h14)
    iterate 4 (first | refine rs_ex rfl (by (first | (constructor <;> first | rfl | exact RdC.rd | exact inferInstance) | exact Ex.pickF rfl rfl | exact Ex.eqlS rfl rfl | exact Ex.neqS rfl rfl | exact Ex.eqlPN rfl rfl | exact Ex.neqPN rfl rfl | exact Ex.eqlSN rfl rfl | exact Ex.neqSN rfl rfl | exact Ex.lenStr rfl)) rfl ?_ | refine rs_skip rfl rfl ?_)
    refine rs_end ?_
    refine qe_then ?_
    refine ct_cond rfl (fun _ => ?_) (fun h => absurd h (by decide))
    refine ct_seq ?_
    refine ct_region ?_
    iterate 2 (first | refine rs_ex rfl (by (first | (constructor <;> first | rfl | exact RdC.rd | exact inferInstance) | exact Ex.pickF rfl rfl | exact Ex.eqlS rfl rfl | exact Ex.neqS rfl rfl | exact Ex.eqlPN rfl rfl | exact Ex.neqPN rfl rfl | exact Ex.eqlSN rfl rfl | exact Ex.neqSN rfl rfl | exact Ex.lenStr rfl)) rfl ?_ | refine rs_skip rfl rfl ?_)
    refine rs_end ?_
    refine qe_then ?_
    refine ct_ret ?_
    exact retM (qe_heap (H' := SlT (α := Msg) 34 (.slice none 0 0) [] :: PoolC b s :: H) (fun w h => At.slt_nil (α := Msg) 34 h.drop) (ret2 rfl rfl rfl ⟨_, by rw [batchErr, if_pos hn], by rw [Pool.batch, if_pos hn]⟩))
  · iterate 4 (first | refine rs_ex rfl (by (first | (constructor <;> first | rfl | exact RdC.rd | exact inferInstance) | exact Ex.pickF rfl rfl | exact Ex.eqlS rfl rfl | exact Ex.neqS rfl rfl | exact Ex.eqlPN rfl rfl | exact Ex.neqPN rfl rfl | exact Ex.eqlSN rfl rfl | exact Ex.neqSN rfl rfl | exact Ex.lenStr rfl)) rfl ?_ | refine rs_skip rfl rfl ?_)
    refine rs_end ?_
    refine qe_then ?_
    refine ct_cond rfl (fun h11 => ?_) (fun h11 => ?_)
    · have hn : n < 1 ∨ 64 < n := .inr (by simpa using h11)
      refine ct_seq ?_
      refine ct_region ?_
      iterate 2 (first | refine rs_ex rfl (by (first | (constructor <;> first | rfl | exact RdC.rd | exact inferInstance) | exact Ex.pickF rfl rfl | exact Ex.eqlS rfl rfl | exact Ex.neqS rfl rfl | exact Ex.eqlPN rfl rfl | exact Ex.neqPN rfl rfl | exact Ex.eqlSN rfl rfl | exact Ex.neqSN rfl rfl | exact Ex.lenStr rfl)) rfl ?_ | refine rs_skip rfl rfl ?_)
      refine rs_end ?_
      refine qe_then ?_
      refine ct_ret ?_
      exact retM (qe_heap (H' := SlT (α := Msg) 34 (.slice none 0 0) [] :: PoolC b s :: H) (fun w h => At.slt_nil (α := Msg) 34 h.drop) (ret2 rfl rfl rfl ⟨_, by rw [batchErr, if_pos hn], by rw [Pool.batch, if_pos hn]⟩))
    · have hn : ¬ (n < 1 ∨ 64 < n) := by simp at h11 h14; omega
      obtain ⟨k, rfl⟩ : ∃ k : Nat, n = (k : Int) := ⟨n.toNat, by omega⟩
      have hk : k ≤ 64 := by omega
      have eb : s.batch k = s.p.take k := by rw [Pool.batch, if_neg hn, Int.toNat_natCast]
      have hr := runs_bat k s.p [] (Nat.zero_le _)
      refine ct_skip ?_
      refine qe_block 0 ?_
      refine qe_then ?_
      refine ct_seq ?_
      refine ct_region ?_
      refine rs_op rfl rfl (opR_alloc fun b6 => ?_)
      refine rs_end ?_
      refine qe_then ?_
      refine ct_seq ?_
      refine ct_label ?_
      refine qe_then ?_
      refine ct_seq ?_
      refine ct_seq ?_
      refine ct_region ?_
      (first | refine rs_ex rfl (by (first | (constructor <;> first | rfl | exact RdC.rd | exact inferInstance) | exact Ex.pickF rfl rfl | exact Ex.eqlS rfl rfl | exact Ex.neqS rfl rfl | exact Ex.eqlPN rfl rfl | exact Ex.neqPN rfl rfl | exact Ex.eqlSN rfl rfl | exact Ex.neqSN rfl rfl | exact Ex.lenStr rfl)) rfl ?_ | refine rs_skip rfl rfl ?_)
      refine rs_op rfl rfl (opR_fn rfl (Call.heap (fun w h => by (first | exact h | exact h.sw1 | exact h.sw2 | exact h.sw3 | exact h.sw4 | exact h.sw5 | exact h.sw6 | exact h.sw7 | exact h.sw8 | exact h.pull2 | exact h.pull3 | exact h.pull4 | exact h.pull5 | exact h.fit)) ((Sorted_c W0 b s _).mono ?_)))
      rintro v H' ⟨bl, q, cq, rfl, hvq, rfl⟩
      refine rs_end ?_
      refine qe_then ?_
      refine ct_block ?_
      refine ct_rangeFunc (ζ := List Msg) (f := 85) (first := []) (cap := [.pointer (some ⟨bl, 0, none⟩)]) encM (sortIt bl q cq s.p) (fun z => [Star H, SlotC b6 22 34 z, PoolC b s, Blk b3 (.cells #[.int .i64 (k : Int)] 3 (0, 0))]) (batStep k) (fun z xs => z.length ≤ k) (fun xs => xs = s.p) ([]) rfl (fun _ => rfl) rfl (fun w h => At.sw1 (At.wrap (L := [_, _, _, _]) (At.sw1 (SlotC.shut (At.top [_, _, _, _, _] [3, 0, 1, 2, 4] (At.slt_nil (α := Msg) 34 h)))))) (fun y gc T hy => Sorted1_c W0 y gc _ _ [] bl cq q s.p T hy (Nat.zero_le _) hvq (by omega)) ?_ ?_ ?_
      · rintro l' z x xs hz T2
        refine ct_sub (τ := [(20, _), (3, _), (6, _)]) ⟨rfl, rfl, rfl, trivial⟩ ?_
        refine ct_app ?_
        refine ct_region ?_
        refine rs_op rfl rfl (opR_alloc fun b7 => ?_)
        refine rs_opN rfl (opR_store rfl rfl rfl rfl ?_)
        refine rs_end ?_
        refine qe_assignA (fun T' => ?_)
        refine ct_app ?_
        refine ct_ex (fun w h => SlotC.open (At.sw2 h)) ?_
        intro vo
        refine ct_block ?_
        refine ct_seq ?_
        refine ct_seq ?_
        refine ct_pr (fun w h => h.drop.slv) ?_; rintro ⟨po, co, eo, hvo⟩
        subst eo
        refine ct_region ?_
        iterate 4 (first | refine rs_ex rfl (by (first | (constructor <;> first | rfl | exact RdC.rd | exact inferInstance) | exact Ex.pickF rfl rfl | exact Ex.eqlS rfl rfl | exact Ex.neqS rfl rfl | exact Ex.eqlPN rfl rfl | exact Ex.neqPN rfl rfl | exact Ex.eqlSN rfl rfl | exact Ex.neqSN rfl rfl | exact Ex.lenStr rfl)) rfl ?_ | refine rs_skip rfl rfl ?_)
        refine rs_end ?_
        refine qe_then ?_
        refine ct_cond rfl (fun h24 => ?_) (fun h24 => ?_)
        · have hzk : (z.length : Int) = k := by simpa using h24
          have hst : batStep k z x = (z, some (.exit 1)) := by rw [batStep, if_pos hzk]
          refine ct_exit ?_
          refine qe_then_exit ?_
          refine qe_block_exit_ne rfl ?_
          exact qe_heap (H' := Star H :: SlotC b6 22 34 z :: PoolC b s :: Blk b3 (.cells #[.int .i64 (k : Int)] 3 (0, 0)) :: T') (fun w h => At.top [_, _, _, _] [1, 0, 2, 3] (SlotC.shut (At.top [_, _, _, _, _, _] [0, 1, 3, 4, 5] h))) (qe_round_exit [_, _, _, _] (fun w h => h) ⟨by rw [hst], by rw [hst]⟩)
        · have hzk : ¬ (z.length : Int) = k := by simpa using h24
          have hst : batStep k z x = (z ++ [x], none) := by rw [batStep, if_neg hzk]
          refine ct_skip ?_
          refine qe_then ?_
          refine ct_region ?_
          iterate 2 (first | refine rs_ex rfl (by (first | (constructor <;> first | rfl | exact RdC.rd | exact inferInstance) | exact Ex.pickF rfl rfl | exact Ex.eqlS rfl rfl | exact Ex.neqS rfl rfl | exact Ex.eqlPN rfl rfl | exact Ex.neqPN rfl rfl | exact Ex.eqlSN rfl rfl | exact Ex.neqSN rfl rfl | exact Ex.lenStr rfl)) rfl ?_ | refine rs_skip rfl rfl ?_)
          refine rs_op rfl rfl (opR_buildSlice rfl rfl rfl rfl fun b27 => ?_)
          refine rs_op rfl rfl (opR_append [x] rfl rfl (by exact SlR.blk RdC.rd [x] rfl) rfl (by simp; omega) rfl fun p9 c9 hv9 => ?_)
          refine rs_opN rfl (opR_store rfl rfl rfl rfl ?_)
          refine rs_end ?_
          refine qe_block 2 ?_
          exact qe_heap (H' := Star H :: SlotC b6 22 34 (z ++ [x]) :: PoolC b s :: Blk b3 (.cells #[.int .i64 (k : Int)] 3 (0, 0)) :: T') (fun w h => At.top [_, _, _, _] [1, 0, 2, 3] (SlotC.shut (At.top [_, _, _, _, _, _, _] [1, 2, 4, 5, 6] h))) (qe_roundA ⟨by rw [hst], by rw [hst]⟩)
      · intro z x xs hz he; rw [batStep] at he ⊢; split; · rename_i h; rw [if_pos h] at he; cases he
        simp; omega
      · rintro xs db rfl
        obtain ⟨hr1, hr2⟩ := hr
        have ez : ([] : List Msg) ++ s.p.take (k - ([] : List Msg).length) = s.p.take k := by simp
        rw [ez] at hr1
        rw [hr1]
        rcases hr2 with hr2 | hr2 <;> rw [hr2] <;> simp only
        · refine qe_exs (fun w h => SlotC.open (At.sw2 h)) ?_
          intro vo
          refine qe_heap (H' := Blk db (.deferred (some [])) :: Blk b6 (.cells #[vo] 22 (0, 0)) :: SlT 34 vo (s.p.take k) :: PoolC b s :: H) (fun w h => At.unwrap (L := [_, _, _, _]) (At.top [_, _, _, _, _, _] [3, 2, 0, 1, 4] h)) ?_
          refine qe_block 1 ?_
          refine qe_then ?_
          refine ct_seq ?_
          refine ct_region ?_
          iterate 3 (first | refine rs_ex rfl (by (first | (constructor <;> first | rfl | exact RdC.rd | exact inferInstance) | exact Ex.pickF rfl rfl | exact Ex.eqlS rfl rfl | exact Ex.neqS rfl rfl | exact Ex.eqlPN rfl rfl | exact Ex.neqPN rfl rfl | exact Ex.eqlSN rfl rfl | exact Ex.neqSN rfl rfl | exact Ex.lenStr rfl)) rfl ?_ | refine rs_skip rfl rfl ?_)
          refine rs_end ?_
          refine qe_then ?_
          refine ct_ret ?_
          exact retM_mark (retM (qe_heap (H' := SlT 34 vo (s.p.take k) :: PoolC b s :: H) (fun w h => h.drop) (ret2 rfl rfl rfl ⟨_, by rw [batchErr, if_neg hn], by rw [eb]⟩)))
        · refine ct_ex (fun w h => SlotC.open (At.sw2 h)) ?_
          intro vo
          refine ct_heap (H' := Blk db (.deferred (some [])) :: Blk b6 (.cells #[vo] 22 (0, 0)) :: SlT 34 vo (s.p.take k) :: PoolC b s :: H) (fun w h => At.unwrap (L := [_, _, _, _]) (At.top [_, _, _, _, _, _] [3, 2, 0, 1, 4] h)) ?_
          refine ct_exit ?_
          refine qe_block_exit ?_
          refine qe_then ?_
          refine ct_seq ?_
          refine ct_region ?_
          iterate 3 (first | refine rs_ex rfl (by (first | (constructor <;> first | rfl | exact RdC.rd | exact inferInstance) | exact Ex.pickF rfl rfl | exact Ex.eqlS rfl rfl | exact Ex.neqS rfl rfl | exact Ex.eqlPN rfl rfl | exact Ex.neqPN rfl rfl | exact Ex.eqlSN rfl rfl | exact Ex.neqSN rfl rfl | exact Ex.lenStr rfl)) rfl ?_ | refine rs_skip rfl rfl ?_)
          refine rs_end ?_
          refine qe_then ?_
          refine ct_ret ?_
          exact retM_mark (retM (qe_heap (H' := SlT 34 vo (s.p.take k) :: PoolC b s :: H) (fun w h => h.drop) (ret2 rfl rfl rfl ⟨_, by rw [batchErr, if_neg hn], by rw [eb]⟩)))
/-! ### All that is pending -/
def colStep (z : List Msg) (x : Msg) : List Msg × Option Code := (z ++ [x], none)
theorem runs_col : ∀ (l z : List Msg), runs colStep z l = (z ++ l, none)
  | [], z => by rw [runs, List.append_nil]
  | x :: l, z => by rw [runs, colStep]; simp only; rw [runs_col l, List.append_assoc]; rfl
theorem Collect_c (W0 : World) (bl : Nat) (q : Option Addr) (cq : Nat) (l : List Msg) (H : List Chunk) (hvq : SlV q cq l) (hl : l.length ≤ 1000) :
    Call Try.prog W0 75 [.func (.func 85) #[] #[.pointer (some ⟨bl, 0, none⟩)]] (sortIt bl q cq l :: H) (fun v H' => H' = SlT 34 v l :: H) := by
  have hA : Call Try.prog W0 88 [.slice none 0 0, .func (.func 85) #[] #[.pointer (some ⟨bl, 0, none⟩)]] (sortIt bl q cq l :: H) (fun v H' => H' = SlT 34 v l :: H) := by
    refine call_enterM Try.func88 rfl Try.ntmps88 rfl ?_

    refine ct_seq ?_
    refine ct_region ?_
    refine rs_op rfl rfl (opR_box rfl fun b2 => ?_)
    (first | refine rs_ex rfl (by (first | (constructor <;> first | rfl | exact RdC.rd | exact inferInstance) | exact Ex.pickF rfl rfl | exact Ex.eqlS rfl rfl | exact Ex.neqS rfl rfl | exact Ex.eqlPN rfl rfl | exact Ex.neqPN rfl rfl | exact Ex.eqlSN rfl rfl | exact Ex.neqSN rfl rfl | exact Ex.lenStr rfl)) rfl ?_ | refine rs_skip rfl rfl ?_)
    refine rs_end ?_
    refine qe_then ?_
    refine ct_seq ?_
    refine ct_seq ?_
    refine ct_region ?_
    (first | refine rs_ex rfl (by (first | (constructor <;> first | rfl | exact RdC.rd | exact inferInstance) | exact Ex.pickF rfl rfl | exact Ex.eqlS rfl rfl | exact Ex.neqS rfl rfl | exact Ex.eqlPN rfl rfl | exact Ex.neqPN rfl rfl | exact Ex.eqlSN rfl rfl | exact Ex.neqSN rfl rfl | exact Ex.lenStr rfl)) rfl ?_ | refine rs_skip rfl rfl ?_)
    refine rs_end ?_
    refine qe_then ?_
    refine ct_block ?_
    refine ct_rangeFunc (ζ := List Msg) (f := 85) (first := []) (cap := [.pointer (some ⟨bl, 0, none⟩)]) encM (sortIt bl q cq l) (fun z => [Star H, SlotC b2 22 34 z]) colStep (fun z xs => z.length + xs.length ≤ 1000) (fun xs => xs = l) ([]) rfl (fun _ => rfl) rfl (fun w h => At.sw1 (At.wrap (L := [_, _]) (At.sw1 (SlotC.shut (At.top [_, _, _] [1, 0, 2] (At.slt_nil (α := Msg) 34 h)))))) (fun y gc T hy => Sorted1_c W0 y gc _ _ [] bl cq q l T hy (by simp; omega) hvq (by omega)) ?_ ?_ ?_
    · rintro l' z x xs hz T2
      refine ct_sub (τ := [(7, _), (2, _)]) ⟨rfl, rfl, trivial⟩ ?_
      refine ct_app ?_
      refine ct_region ?_
      refine rs_op rfl rfl (opR_alloc fun b5 => ?_)
      refine rs_opN rfl (opR_store rfl rfl rfl rfl ?_)
      refine rs_end ?_
      refine qe_assignA (fun T' => ?_)
      refine ct_app ?_
      refine ct_ex (fun w h => SlotC.open (At.sw2 h)) ?_
      intro vo
      refine ct_block ?_
      refine ct_pr (fun w h => h.drop.slv) ?_; rintro ⟨po, co, eo, hvo⟩
      subst eo
      simp only [List.length_cons] at hz
      refine ct_region ?_
      iterate 2 (first | refine rs_ex rfl (by (first | (constructor <;> first | rfl | exact RdC.rd | exact inferInstance) | exact Ex.pickF rfl rfl | exact Ex.eqlS rfl rfl | exact Ex.neqS rfl rfl | exact Ex.eqlPN rfl rfl | exact Ex.neqPN rfl rfl | exact Ex.eqlSN rfl rfl | exact Ex.neqSN rfl rfl | exact Ex.lenStr rfl)) rfl ?_ | refine rs_skip rfl rfl ?_)
      refine rs_op rfl rfl (opR_buildSlice rfl rfl rfl rfl fun b10 => ?_)
      refine rs_op rfl rfl (opR_append [x] rfl rfl (by exact SlR.blk RdC.rd [x] rfl) rfl (by simp; omega) rfl fun p9 c9 hv9 => ?_)
      refine rs_opN rfl (opR_store rfl rfl rfl rfl ?_)
      refine rs_end ?_
      refine qe_block 1 ?_
      exact qe_heap (H' := Star H :: SlotC b2 22 34 (z ++ [x]) :: T') (fun w h => At.sw1 (SlotC.shut (At.top [_, _, _, _, _] [1, 2, 4] h))) (qe_roundA ⟨by rw [colStep], by rw [colStep]⟩)
    · intro z x xs hz _; rw [colStep]; simp only [List.length_cons] at hz; simp; omega
    · rintro xs db rfl
      rw [runs_col, List.nil_append]
      refine qe_exs (fun w h => SlotC.open (At.sw2 h)) ?_
      intro vo
      refine qe_heap (H' := Blk db (.deferred (some [])) :: Blk b2 (.cells #[vo] 22 (0, 0)) :: SlT 34 vo xs :: H) (fun w h => At.unwrap (L := [_, _, _]) (At.top [_, _, _, _] [3, 2, 0, 1] h)) ?_
      refine qe_block 0 ?_
      refine qe_then ?_
      refine ct_seq ?_
      refine ct_region ?_
      iterate 2 (first | refine rs_ex rfl (by (first | (constructor <;> first | rfl | exact RdC.rd | exact inferInstance) | exact Ex.pickF rfl rfl | exact Ex.eqlS rfl rfl | exact Ex.neqS rfl rfl | exact Ex.eqlPN rfl rfl | exact Ex.neqPN rfl rfl | exact Ex.eqlSN rfl rfl | exact Ex.neqSN rfl rfl | exact Ex.lenStr rfl)) rfl ?_ | refine rs_skip rfl rfl ?_)
      refine rs_end ?_
      refine qe_then ?_
      refine ct_ret ?_
      exact retM_mark (retM (qe_heap (H' := SlT 34 vo xs :: H) (fun w h => h.drop) (ret1 rfl rfl rfl)))
  refine call_enter Try.func75 rfl Try.ntmps75 rfl ?_

  refine ct_seq ?_
  refine ct_region ?_
  (first | refine rs_ex rfl (by (first | (constructor <;> first | rfl | exact RdC.rd | exact inferInstance) | exact Ex.pickF rfl rfl | exact Ex.eqlS rfl rfl | exact Ex.neqS rfl rfl | exact Ex.eqlPN rfl rfl | exact Ex.neqPN rfl rfl | exact Ex.eqlSN rfl rfl | exact Ex.neqSN rfl rfl | exact Ex.lenStr rfl)) rfl ?_ | refine rs_skip rfl rfl ?_)
  refine rs_end ?_
  refine qe_then ?_
  refine ct_seq ?_
  refine ct_region ?_
  (first | refine rs_ex rfl (by (first | (constructor <;> first | rfl | exact RdC.rd | exact inferInstance) | exact Ex.pickF rfl rfl | exact Ex.eqlS rfl rfl | exact Ex.neqS rfl rfl | exact Ex.eqlPN rfl rfl | exact Ex.neqPN rfl rfl | exact Ex.eqlSN rfl rfl | exact Ex.neqSN rfl rfl | exact Ex.lenStr rfl)) rfl ?_ | refine rs_skip rfl rfl ?_)
  refine rs_op rfl rfl (opR_fn rfl (Call.heap (fun w h => by (first | exact h | exact h.sw1 | exact h.sw2 | exact h.sw3 | exact h.sw4 | exact h.sw5 | exact h.sw6 | exact h.sw7 | exact h.sw8 | exact h.pull2 | exact h.pull3 | exact h.pull4 | exact h.pull5 | exact h.fit)) ((hA).mono ?_)))
  rintro v H' rfl
  (first | refine rs_ex rfl (by (first | (constructor <;> first | rfl | exact RdC.rd | exact inferInstance) | exact Ex.pickF rfl rfl | exact Ex.eqlS rfl rfl | exact Ex.neqS rfl rfl | exact Ex.eqlPN rfl rfl | exact Ex.neqPN rfl rfl | exact Ex.eqlSN rfl rfl | exact Ex.neqSN rfl rfl | exact Ex.lenStr rfl)) rfl ?_ | refine rs_skip rfl rfl ?_)
  refine rs_end ?_
  refine qe_then ?_
  refine ct_ret ?_
  exact ret1 rfl rfl rfl
theorem Pending_c (W0 : World) (b : Nat) (s : Pool) (H : List Chunk) : Call Try.prog W0 47 [.pointer (some ⟨b, 0, none⟩)] (PoolC b s :: H) (fun v H' => H' = SlT 34 v s.p :: PoolC b s :: H) := by
  refine Call.pr (fun w h => PoolC.inv h) ?_
  rintro ⟨hasc, hle⟩
  refine call_enter Try.func47 rfl Try.ntmps47 rfl ?_

  refine ct_seq ?_
  refine ct_region ?_
  (first | refine rs_ex rfl (by (first | (constructor <;> first | rfl | exact RdC.rd | exact inferInstance) | exact Ex.pickF rfl rfl | exact Ex.eqlS rfl rfl | exact Ex.neqS rfl rfl | exact Ex.eqlPN rfl rfl | exact Ex.neqPN rfl rfl | exact Ex.eqlSN rfl rfl | exact Ex.neqSN rfl rfl | exact Ex.lenStr rfl)) rfl ?_ | refine rs_skip rfl rfl ?_)
  refine rs_end ?_
  refine qe_then ?_
  refine ct_seq ?_
  refine ct_seq ?_
  refine ct_region ?_
  iterate 2 (first | refine rs_ex rfl (by (first | (constructor <;> first | rfl | exact RdC.rd | exact inferInstance) | exact Ex.pickF rfl rfl | exact Ex.eqlS rfl rfl | exact Ex.neqS rfl rfl | exact Ex.eqlPN rfl rfl | exact Ex.neqPN rfl rfl | exact Ex.eqlSN rfl rfl | exact Ex.neqSN rfl rfl | exact Ex.lenStr rfl)) rfl ?_ | refine rs_skip rfl rfl ?_)
  refine rs_end ?_
  refine qe_then ?_
  refine ct_cond rfl (fun h4 => by cases h4) (fun h4 => ?_)
  refine ct_skip ?_
  refine qe_then ?_
  refine ct_seq ?_
  refine ct_region ?_
  (first | refine rs_ex rfl (by (first | (constructor <;> first | rfl | exact RdC.rd | exact inferInstance) | exact Ex.pickF rfl rfl | exact Ex.eqlS rfl rfl | exact Ex.neqS rfl rfl | exact Ex.eqlPN rfl rfl | exact Ex.neqPN rfl rfl | exact Ex.eqlSN rfl rfl | exact Ex.neqSN rfl rfl | exact Ex.lenStr rfl)) rfl ?_ | refine rs_skip rfl rfl ?_)
  refine rs_op rfl rfl (opR_fn rfl (Call.heap (fun w h => by (first | exact h | exact h.sw1 | exact h.sw2 | exact h.sw3 | exact h.sw4 | exact h.sw5 | exact h.sw6 | exact h.sw7 | exact h.sw8 | exact h.pull2 | exact h.pull3 | exact h.pull4 | exact h.pull5 | exact h.fit)) ((Sorted_c W0 b s _).mono ?_)))
  rintro v H' ⟨bl, q, cq, rfl, hvq, rfl⟩
  refine rs_op rfl rfl (opR_fn rfl (Call.heap (fun w h => by (first | exact h | exact h.sw1 | exact h.sw2 | exact h.sw3 | exact h.sw4 | exact h.sw5 | exact h.sw6 | exact h.sw7 | exact h.sw8 | exact h.pull2 | exact h.pull3 | exact h.pull4 | exact h.pull5 | exact h.fit)) ((Collect_c W0 bl q cq s.p _ hvq hle).mono ?_)))
  rintro v H' rfl
  (first | refine rs_ex rfl (by (first | (constructor <;> first | rfl | exact RdC.rd | exact inferInstance) | exact Ex.pickF rfl rfl | exact Ex.eqlS rfl rfl | exact Ex.neqS rfl rfl | exact Ex.eqlPN rfl rfl | exact Ex.neqPN rfl rfl | exact Ex.eqlSN rfl rfl | exact Ex.neqSN rfl rfl | exact Ex.lenStr rfl)) rfl ?_ | refine rs_skip rfl rfl ?_)
  refine rs_end ?_
  refine qe_then ?_
  refine ct_ret ?_
  exact ret1 rfl rfl rfl
theorem Pending_nil (W0 : World) (H : List Chunk) : Call Try.prog W0 47 [.pointer none] H (fun v H' => v = .slice none 0 0 ∧ H' = H) := by
  refine call_enter Try.func47 rfl Try.ntmps47 rfl ?_

  refine ct_seq ?_
  refine ct_region ?_
  (first | refine rs_ex rfl (by (first | (constructor <;> first | rfl | exact RdC.rd | exact inferInstance) | exact Ex.pickF rfl rfl | exact Ex.eqlS rfl rfl | exact Ex.neqS rfl rfl | exact Ex.eqlPN rfl rfl | exact Ex.neqPN rfl rfl | exact Ex.eqlSN rfl rfl | exact Ex.neqSN rfl rfl | exact Ex.lenStr rfl)) rfl ?_ | refine rs_skip rfl rfl ?_)
  refine rs_end ?_
  refine qe_then ?_
  refine ct_seq ?_
  refine ct_seq ?_
  refine ct_region ?_
  iterate 2 (first | refine rs_ex rfl (by (first | (constructor <;> first | rfl | exact RdC.rd | exact inferInstance) | exact Ex.pickF rfl rfl | exact Ex.eqlS rfl rfl | exact Ex.neqS rfl rfl | exact Ex.eqlPN rfl rfl | exact Ex.neqPN rfl rfl | exact Ex.eqlSN rfl rfl | exact Ex.neqSN rfl rfl | exact Ex.lenStr rfl)) rfl ?_ | refine rs_skip rfl rfl ?_)
  refine rs_end ?_
  refine qe_then ?_
  refine ct_cond rfl (fun h4 => ?_) (fun h4 => by cases h4)
  refine ct_seq ?_
  refine ct_region ?_
  (first | refine rs_ex rfl (by (first | (constructor <;> first | rfl | exact RdC.rd | exact inferInstance) | exact Ex.pickF rfl rfl | exact Ex.eqlS rfl rfl | exact Ex.neqS rfl rfl | exact Ex.eqlPN rfl rfl | exact Ex.neqPN rfl rfl | exact Ex.eqlSN rfl rfl | exact Ex.neqSN rfl rfl | exact Ex.lenStr rfl)) rfl ?_ | refine rs_skip rfl rfl ?_)
  refine rs_end ?_
  refine qe_then ?_
  refine ct_ret ?_
  exact ret1 rfl rfl ⟨rfl, rfl⟩
end Go.Rost
