/- What waits in a book, told in order: given that the sort does what it says. -/
import Derived.Test.YtdjjfmoknncojaaIds
import Derived.Test.YtdjjfmoknncojaaRm
import Derived.Test.YtdjjfmoknncojaaFs
import Derived.Test.YtdjjfmoknncojaaCf
import Derived.Test.YtdjjfmoknncojaaSo
namespace Go.Rost
open Go Go.RowKit Go.Proofs

theorem Waiting_of (le : Msg → Msg → Prop) (hs : SortOk (α := Msg) Try.prog 58 (.func (.func 59) #[] #[]) 34 le) (W0 : World) (b : Nat) (s : Book) (H : List Chunk) (hl : s.waits.length ≤ 50000) :
    Call Try.prog W0 23 [.pointer (some ⟨b, 0, none⟩)] (BookC b s :: H) (fun v H' => ∃ l, l.Perm (s.waits.map (·.2)) ∧ l.Pairwise le ∧ H' = SlT 34 v l :: BookC b s :: H) := by
  refine Call.ex3 (fun w h => BookC.open h) ?_; intro lv wr nr
  refine call_enter Try.func23 rfl Try.ntmps23 rfl ?_

  refine ct_seq ?_
  refine ct_region ?_
  (first | refine rs_ex rfl (by (first | (constructor <;> first | rfl | exact RdC.rd | exact inferInstance) | exact Ex.pickF rfl rfl | exact Ex.eqlS rfl rfl | exact Ex.neqS rfl rfl | exact Ex.eqlPN rfl rfl | exact Ex.neqPN rfl rfl | exact Ex.eqlSN rfl rfl | exact Ex.neqSN rfl rfl | exact Ex.lenStr rfl)) rfl ?_ | refine rs_skip rfl rfl ?_)
  refine rs_end ?_
  refine qe_then ?_
  refine ct_seq ?_
  refine ct_seq ?_
  refine ct_region ?_
  iterate 2 (first | refine rs_ex rfl (by (first | (constructor <;> first | rfl | exact RdC.rd | exact inferInstance) | exact Ex.pickF rfl rfl | exact Ex.eqlS rfl rfl | exact Ex.neqS rfl rfl | exact Ex.eqlPN rfl rfl | exact Ex.neqPN rfl rfl | exact Ex.eqlSN rfl rfl | exact Ex.neqSN rfl rfl | exact Ex.lenStr rfl)) rfl ?_ | refine rs_skip rfl rfl ?_)
  refine rs_end ?_
  refine qe_then ?_
  refine ct_cond rfl (fun h7 => by cases h7) (fun h7 => ?_)
  refine ct_skip ?_
  refine qe_then ?_
  refine ct_seq ?_
  refine ct_region ?_
  (first | refine rs_ex rfl (by (first | (constructor <;> first | rfl | exact RdC.rd | exact inferInstance) | exact Ex.pickF rfl rfl | exact Ex.eqlS rfl rfl | exact Ex.neqS rfl rfl | exact Ex.eqlPN rfl rfl | exact Ex.neqPN rfl rfl | exact Ex.eqlSN rfl rfl | exact Ex.neqSN rfl rfl | exact Ex.lenStr rfl)) rfl ?_ | refine rs_skip rfl rfl ?_)
  refine rs_end ?_
  refine qe_then ?_
  refine ct_seq ?_
  refine ct_seq ?_
  refine ct_region ?_
  iterate 4 (first | refine rs_ex rfl (by (first | (constructor <;> first | rfl | exact RdC.rd | exact inferInstance) | exact Ex.pickF rfl rfl | exact Ex.eqlS rfl rfl | exact Ex.neqS rfl rfl | exact Ex.eqlPN rfl rfl | exact Ex.neqPN rfl rfl | exact Ex.eqlSN rfl rfl | exact Ex.neqSN rfl rfl | exact Ex.lenStr rfl)) rfl ?_ | refine rs_skip rfl rfl ?_)
  refine rs_heap (H' := MapC Id.v Msg.v wr s.waits :: Blk b (.cells #[lv, .map (some wr), .map (some nr)] 97 (0, 0)) :: SlT 34 lv s.log :: MapC intV u32V nr s.next :: H) (fun w h => h.sw2) ?_
  refine rs_op rfl rfl (opR_range rfl fun r => ?_)
  refine rs_end ?_
  refine qe_then ?_
  refine ct_heap (H' := RngC Id.v Msg.v wr r s.waits s.waits none :: SlT 34 (.slice none 0 0) ([] : List Msg) :: Blk b (.cells #[lv, .map (some wr), .map (some nr)] 97 (0, 0)) :: SlT 34 lv s.log :: MapC intV u32V nr s.next :: H) (fun w h => At.sw1 (At.slt_nil (α := Msg) 34 h)) ?_
  refine ct_block ?_
  refine ct_loopc (ζ := Value × List Msg × List (Id × Msg) × Option (Id × Msg)) (fun q => (q.2.1 ++ q.2.2.1.map (·.2)).Perm (s.waits.map (·.2))) [(12, _)] (fun q => [(3, q.1)]) (fun q => RngC Id.v Msg.v wr r s.waits q.2.2.1 q.2.2.2 :: SlT 34 q.1 q.2.1 :: Blk b (.cells #[lv, .map (some wr), .map (some nr)] 97 (0, 0)) :: SlT 34 lv s.log :: MapC intV u32V nr s.next :: H) (fun q => q.2.2.1.length) ((.slice none 0 0, [], s.waits, none)) (.refl _) ⟨rfl, rfl, trivial⟩ (fun w h => by first | exact h.fit | exact h) ?_
  rintro ⟨ov, taken, todo, cur⟩ hp
  simp only at hp ⊢
  have hlen := hp.length_eq
  rw [List.length_append, List.length_map, List.length_map] at hlen
  refine ct_seq ?_
  refine ct_region ?_
  refine rs_op rfl rfl (opR_next rfl (fun h0 => ?_) (fun x todo' hp' => ?_))
  · (first | refine rs_ex rfl (by (first | (constructor <;> first | rfl | exact RdC.rd | exact inferInstance) | exact Ex.pickF rfl rfl | exact Ex.eqlS rfl rfl | exact Ex.neqS rfl rfl | exact Ex.eqlPN rfl rfl | exact Ex.neqPN rfl rfl | exact Ex.eqlSN rfl rfl | exact Ex.neqSN rfl rfl | exact Ex.lenStr rfl)) rfl ?_ | refine rs_skip rfl rfl ?_)
    refine rs_end ?_
    refine qe_then ?_
    refine ct_seq ?_
    refine ct_cond rfl (fun h => absurd h (by decide)) (fun _ => ?_)
    refine ct_exit ?_
    refine qe_then_exit ?_
    refine qe_loop_exit ?_
    refine qe_block_exit ?_
    refine qe_then ?_
    refine ct_seq ?_
    refine ct_pr (fun w h => h.drop.slv) ?_; rintro ⟨p, c, ep, hv⟩
    subst ep
    subst h0
    rw [List.map_nil, List.append_nil] at hp
    refine ct_region ?_
    (first | refine rs_ex rfl (by (first | (constructor <;> first | rfl | exact RdC.rd | exact inferInstance) | exact Ex.pickF rfl rfl | exact Ex.eqlS rfl rfl | exact Ex.neqS rfl rfl | exact Ex.eqlPN rfl rfl | exact Ex.neqPN rfl rfl | exact Ex.eqlSN rfl rfl | exact Ex.neqSN rfl rfl | exact Ex.lenStr rfl)) rfl ?_ | refine rs_skip rfl rfl ?_)
    refine rs_op rfl rfl (opR_fn rfl (Call.heap (fun w h => by (first | exact h | exact h.sw1 | exact h.sw2 | exact h.sw3 | exact h.sw4 | exact h.sw5 | exact h.sw6 | exact h.sw7 | exact h.sw8 | exact h.pull2 | exact h.pull3 | exact h.pull4 | exact h.pull5 | exact h.fit)) ((hs W0 p c taken _ hv (by omega)).mono ?_)))
    rintro v H' ⟨l', hp1, hs1, rfl⟩
    refine rs_end ?_
    refine qe_then ?_
    refine ct_seq ?_
    refine ct_region ?_
    iterate 2 (first | refine rs_ex rfl (by (first | (constructor <;> first | rfl | exact RdC.rd | exact inferInstance) | exact Ex.pickF rfl rfl | exact Ex.eqlS rfl rfl | exact Ex.neqS rfl rfl | exact Ex.eqlPN rfl rfl | exact Ex.neqPN rfl rfl | exact Ex.eqlSN rfl rfl | exact Ex.neqSN rfl rfl | exact Ex.lenStr rfl)) rfl ?_ | refine rs_skip rfl rfl ?_)
    refine rs_end ?_
    refine qe_then ?_
    refine ct_ret ?_
    exact qe_heap (H' := SlT 34 (.slice p taken.length c) l' :: BookC b s :: H) (fun w h => At.sw1 (BookC.shut (s := s) (At.top [_, _, _, _, _] [2, 3, 0, 4, 1] (At.rng_done (At.sw1 h))))) (ret1 rfl rfl ⟨l', hp1.trans hp, hs1, rfl⟩)
  · have hlen' := hp'.length_eq
    rw [List.length_cons] at hlen'
    (first | refine rs_ex rfl (by (first | (constructor <;> first | rfl | exact RdC.rd | exact inferInstance) | exact Ex.pickF rfl rfl | exact Ex.eqlS rfl rfl | exact Ex.neqS rfl rfl | exact Ex.eqlPN rfl rfl | exact Ex.neqPN rfl rfl | exact Ex.eqlSN rfl rfl | exact Ex.neqSN rfl rfl | exact Ex.lenStr rfl)) rfl ?_ | refine rs_skip rfl rfl ?_)
    refine rs_end ?_
    refine qe_then ?_
    refine ct_seq ?_
    refine ct_cond rfl (fun _ => ?_) (fun h => absurd h (by decide))
    refine ct_skip ?_
    refine qe_then ?_
    refine ct_block ?_
    refine ct_seq ?_
    refine ct_region ?_
    refine rs_ex rfl (ex_entry x (fun w hw => ⟨_, hw⟩) rfl) rfl ?_
    (first | refine rs_ex rfl (by (first | (constructor <;> first | rfl | exact RdC.rd | exact inferInstance) | exact Ex.pickF rfl rfl | exact Ex.eqlS rfl rfl | exact Ex.neqS rfl rfl | exact Ex.eqlPN rfl rfl | exact Ex.neqPN rfl rfl | exact Ex.eqlSN rfl rfl | exact Ex.neqSN rfl rfl | exact Ex.lenStr rfl)) rfl ?_ | refine rs_skip rfl rfl ?_)
    refine rs_op rfl rfl (opR_alloc fun b5 => ?_)
    refine rs_opN rfl (opR_store rfl rfl rfl rfl ?_)
    refine rs_end ?_
    refine qe_then ?_
    refine ct_region ?_
    iterate 2 (first | refine rs_ex rfl (by (first | (constructor <;> first | rfl | exact RdC.rd | exact inferInstance) | exact Ex.pickF rfl rfl | exact Ex.eqlS rfl rfl | exact Ex.neqS rfl rfl | exact Ex.eqlPN rfl rfl | exact Ex.neqPN rfl rfl | exact Ex.eqlSN rfl rfl | exact Ex.neqSN rfl rfl | exact Ex.lenStr rfl)) rfl ?_ | refine rs_skip rfl rfl ?_)
    refine rs_op rfl rfl (opR_buildSlice rfl rfl rfl rfl fun b19 => ?_)
    refine rs_op rfl rfl (opR_append [x.2] rfl rfl (by exact SlR.blk RdC.rd [x.2] rfl) rfl (by simp; omega) rfl fun p4 c4 hv4 => ?_)
    (first | refine rs_ex rfl (by (first | (constructor <;> first | rfl | exact RdC.rd | exact inferInstance) | exact Ex.pickF rfl rfl | exact Ex.eqlS rfl rfl | exact Ex.neqS rfl rfl | exact Ex.eqlPN rfl rfl | exact Ex.neqPN rfl rfl | exact Ex.eqlSN rfl rfl | exact Ex.neqSN rfl rfl | exact Ex.lenStr rfl)) rfl ?_ | refine rs_skip rfl rfl ?_)
    refine rs_end ?_
    refine qe_block 1 ?_
    refine qe_loopc ((_, taken ++ [x.2], todo', some x)) (by
      refine List.Perm.trans ?_ hp
      rw [List.append_assoc]
      refine List.Perm.append_left _ ?_
      exact (hp'.map (·.2)).symm) (by simp only; omega) ⟨rfl, rfl, trivial⟩ (fun w h => by first | exact h.fit | exact h)
theorem Waiting_nil (W0 : World) (H : List Chunk) : Call Try.prog W0 23 [.pointer none] H (fun v H' => v = .slice none 0 0 ∧ H' = H) := by
  refine call_enter Try.func23 rfl Try.ntmps23 rfl ?_

  refine ct_seq ?_
  refine ct_region ?_
  (first | refine rs_ex rfl (by (first | (constructor <;> first | rfl | exact RdC.rd | exact inferInstance) | exact Ex.pickF rfl rfl | exact Ex.eqlS rfl rfl | exact Ex.neqS rfl rfl | exact Ex.eqlPN rfl rfl | exact Ex.neqPN rfl rfl | exact Ex.eqlSN rfl rfl | exact Ex.neqSN rfl rfl | exact Ex.lenStr rfl)) rfl ?_ | refine rs_skip rfl rfl ?_)
  refine rs_end ?_
  refine qe_then ?_
  refine ct_seq ?_
  refine ct_seq ?_
  refine ct_region ?_
  iterate 2 (first | refine rs_ex rfl (by (first | (constructor <;> first | rfl | exact RdC.rd | exact inferInstance) | exact Ex.pickF rfl rfl | exact Ex.eqlS rfl rfl | exact Ex.neqS rfl rfl | exact Ex.eqlPN rfl rfl | exact Ex.neqPN rfl rfl | exact Ex.eqlSN rfl rfl | exact Ex.neqSN rfl rfl | exact Ex.lenStr rfl)) rfl ?_ | refine rs_skip rfl rfl ?_)
  refine rs_end ?_
  refine qe_then ?_
  refine ct_cond rfl (fun h7 => ?_) (fun h7 => by cases h7)
  refine ct_seq ?_
  refine ct_region ?_
  (first | refine rs_ex rfl (by (first | (constructor <;> first | rfl | exact RdC.rd | exact inferInstance) | exact Ex.pickF rfl rfl | exact Ex.eqlS rfl rfl | exact Ex.neqS rfl rfl | exact Ex.eqlPN rfl rfl | exact Ex.neqPN rfl rfl | exact Ex.eqlSN rfl rfl | exact Ex.neqSN rfl rfl | exact Ex.lenStr rfl)) rfl ?_ | refine rs_skip rfl rfl ?_)
  refine rs_end ?_
  refine qe_then ?_
  refine ct_ret ?_
  exact ret1 rfl rfl ⟨rfl, rfl⟩
end Go.Rost
