/- A follower of numbers: moving to a later epoch; its numbers. -/
import Derived.Test.YtdjjfmoknncojaaG11
namespace Go.Rost
open Go Go.RowKit Go.Proofs Go.Shelf

/-- What is left in the buffer once some of it was gone through. -/
def leftB (to : Int) (B seen : List (Plc × Msg)) : List (Plc × Msg) := B.filter fun q => decide (to < q.1.e ∨ ¬ q.1 ∈ mkeys seen)
theorem memk (q : Plc) (seen : List (Plc × Msg)) (x : Plc × Msg) : q ∈ mkeys (seen ++ [x]) ↔ q ∈ mkeys seen ∨ q = x.1 := by simp [mkeys]
theorem leftB_nil (to : Int) (B : List (Plc × Msg)) : leftB to B [] = B := by
  unfold leftB
  rw [List.filter_eq_self]
  intro q _
  simp [mkeys]
theorem leftB_sub (to : Int) (B seen : List (Plc × Msg)) : (leftB to B seen).Sublist B := List.filter_sublist
theorem leftB_late {to : Int} {B seen : List (Plc × Msg)} {x : Plc × Msg} (h : to < x.1.e) : leftB to B (seen ++ [x]) = leftB to B seen := by
  unfold leftB
  apply List.filter_congr
  intro q _
  apply decide_eq_decide.2
  rw [memk]
  constructor
  · rintro (h1 | h1)
    · exact .inl h1
    · exact .inr fun h2 => h1 (.inl h2)
  · rintro (h1 | h1)
    · exact .inl h1
    · by_cases e : q.1 = x.1
      · left; rw [e]; exact h
      · exact .inr fun h2 => h2.elim h1 e
theorem leftB_del {to : Int} {B seen : List (Plc × Msg)} {x : Plc × Msg} (hB : (mkeys B).Nodup) (h : ¬ to < x.1.e) : mdel (leftB to B seen) x.1 = leftB to B (seen ++ [x]) := by
  rw [mdel_filter x.1 (hB.sublist ((leftB_sub to B seen).map _))]
  unfold leftB
  rw [List.filter_filter]
  apply List.filter_congr
  intro q _
  rw [Bool.eq_iff_iff, Bool.and_eq_true, decide_eq_true_eq, decide_eq_true_eq, decide_eq_true_eq, memk]
  constructor
  · rintro ⟨h1, h2⟩
    exact h2.imp id fun h3 h4 => h4.elim h3 h1
  · intro h1
    by_cases e : q.1 = x.1
    · rcases h1 with h1 | h1
      · rw [e] at h1; exact absurd h1 h
      · exact absurd (.inr e) h1
    · exact ⟨e, h1.imp id fun h3 h4 => h3 (.inl h4)⟩
theorem leftB_all {to : Int} {B seen : List (Plc × Msg)} (h : seen.Perm B) : leftB to B seen = later to B := by
  unfold leftB later
  apply List.filter_congr
  intro q hq
  apply decide_eq_decide.2
  have : q.1 ∈ mkeys seen := List.mem_map.2 ⟨q, h.symm.subset hq, rfl⟩
  exact ⟨fun h1 => h1.elim id fun h2 => absurd this h2, .inl⟩
theorem Move_c (W0 : World) (b : Nat) (f : Fol) (to : Int) (H : List Chunk) (hto : f.e < to) (hbn : (mkeys f.b).Nodup) (hbl : f.b.length ≤ 100) :
    Call Try.prog W0 30 [.pointer (some ⟨b, 0, none⟩), .int .u32 to] (FolC b f :: H)
      (fun v H' => ∃ u l, v = .tuple #[u, .int .i64 0] ∧ l.Perm ((ofE to f.b).map toN) ∧ H' = SlT 34 u ((f.moved to).recvs l).1 :: FolC b ((f.moved to).recvs l).2 :: H) := by
  refine Call.ex (fun w h => FolC.open h) ?_
  rintro ⟨wr, br⟩
  simp only
  refine call_enter Try.func30 rfl Try.ntmps30 rfl ?_

  refine ct_seq ?_
  refine ct_region ?_
  iterate 2 (first | refine rs_ex rfl (by (first | (constructor <;> first | rfl | exact RdC.rd | exact inferInstance) | exact Ex.pickF rfl rfl | exact Ex.eqlS rfl rfl | exact Ex.neqS rfl rfl | exact Ex.eqlPN rfl rfl | exact Ex.neqPN rfl rfl | exact Ex.eqlSN rfl rfl | exact Ex.neqSN rfl rfl | exact Ex.lenStr rfl)) rfl ?_ | refine rs_skip rfl rfl ?_)
  refine rs_end ?_
  refine qe_then ?_
  refine ct_seq ?_
  refine ct_block ?_
  refine ct_seq ?_
  refine ct_region ?_
  iterate 3 (first | refine rs_ex rfl (by (first | (constructor <;> first | rfl | exact RdC.rd | exact inferInstance) | exact Ex.pickF rfl rfl | exact Ex.eqlS rfl rfl | exact Ex.neqS rfl rfl | exact Ex.eqlPN rfl rfl | exact Ex.neqPN rfl rfl | exact Ex.eqlSN rfl rfl | exact Ex.neqSN rfl rfl | exact Ex.lenStr rfl)) rfl ?_ | refine rs_skip rfl rfl ?_)
  refine rs_end ?_
  refine qe_then ?_
  refine ct_cond rfl (fun h14 => by cases h14) (fun h14 => ?_)
  refine ct_seq ?_
  refine ct_region ?_
  iterate 4 (first | refine rs_ex rfl (by (first | (constructor <;> first | rfl | exact RdC.rd | exact inferInstance) | exact Ex.pickF rfl rfl | exact Ex.eqlS rfl rfl | exact Ex.neqS rfl rfl | exact Ex.eqlPN rfl rfl | exact Ex.neqPN rfl rfl | exact Ex.eqlSN rfl rfl | exact Ex.neqSN rfl rfl | exact Ex.lenStr rfl)) rfl ?_ | refine rs_skip rfl rfl ?_)
  refine rs_op rfl rfl (opR_fn rfl (Call.heap (fun w h => by (first | exact h | exact h.sw1 | exact h.sw2 | exact h.sw3 | exact h.sw4 | exact h.sw5 | exact h.sw6 | exact h.sw7 | exact h.sw8 | exact h.pull2 | exact h.pull3 | exact h.pull4 | exact h.pull5 | exact h.fit)) ((IsLater_c W0 b f.e to _ _ _ _ (by exact RdC.rd)).mono ?_)))
  rintro v H' ⟨rfl, rfl⟩
  iterate 2 (first | refine rs_ex rfl (by (first | (constructor <;> first | rfl | exact RdC.rd | exact inferInstance) | exact Ex.pickF rfl rfl | exact Ex.eqlS rfl rfl | exact Ex.neqS rfl rfl | exact Ex.eqlPN rfl rfl | exact Ex.neqPN rfl rfl | exact Ex.eqlSN rfl rfl | exact Ex.neqSN rfl rfl | exact Ex.lenStr rfl)) rfl ?_ | refine rs_skip rfl rfl ?_)
  refine rs_end ?_
  refine qe_then ?_
  refine ct_cond rfl (fun h17 => by simp at h17; omega) (fun h17 => ?_)
  refine ct_skip ?_
  refine qe_block 0 ?_
  refine qe_then ?_
  refine ct_seq ?_
  refine ct_region ?_
  iterate 6 (first | refine rs_ex rfl (by (first | (constructor <;> first | rfl | exact RdC.rd | exact inferInstance) | exact Ex.pickF rfl rfl | exact Ex.eqlS rfl rfl | exact Ex.neqS rfl rfl | exact Ex.eqlPN rfl rfl | exact Ex.neqPN rfl rfl | exact Ex.eqlSN rfl rfl | exact Ex.neqSN rfl rfl | exact Ex.lenStr rfl)) rfl ?_ | refine rs_skip rfl rfl ?_)
  refine rs_opN rfl (opR_store rfl rfl rfl rfl ?_)
  iterate 2 (first | refine rs_ex rfl (by (first | (constructor <;> first | rfl | exact RdC.rd | exact inferInstance) | exact Ex.pickF rfl rfl | exact Ex.eqlS rfl rfl | exact Ex.neqS rfl rfl | exact Ex.eqlPN rfl rfl | exact Ex.neqPN rfl rfl | exact Ex.eqlSN rfl rfl | exact Ex.neqSN rfl rfl | exact Ex.lenStr rfl)) rfl ?_ | refine rs_skip rfl rfl ?_)
  refine rs_opN rfl (opR_store rfl rfl rfl rfl ?_)
  refine rs_end ?_
  refine qe_then ?_
  refine ct_seq ?_
  refine ct_region ?_
  iterate 4 (first | refine rs_ex rfl (by (first | (constructor <;> first | rfl | exact RdC.rd | exact inferInstance) | exact Ex.pickF rfl rfl | exact Ex.eqlS rfl rfl | exact Ex.neqS rfl rfl | exact Ex.eqlPN rfl rfl | exact Ex.neqPN rfl rfl | exact Ex.eqlSN rfl rfl | exact Ex.neqSN rfl rfl | exact Ex.lenStr rfl)) rfl ?_ | refine rs_skip rfl rfl ?_)
  refine rs_opN rfl (opR_clear rfl ?_)
  refine rs_end ?_
  refine qe_then ?_
  refine ct_seq ?_
  refine ct_region ?_
  (first | refine rs_ex rfl (by (first | (constructor <;> first | rfl | exact RdC.rd | exact inferInstance) | exact Ex.pickF rfl rfl | exact Ex.eqlS rfl rfl | exact Ex.neqS rfl rfl | exact Ex.eqlPN rfl rfl | exact Ex.neqPN rfl rfl | exact Ex.eqlSN rfl rfl | exact Ex.neqSN rfl rfl | exact Ex.lenStr rfl)) rfl ?_ | refine rs_skip rfl rfl ?_)
  refine rs_end ?_
  refine qe_then ?_
  refine ct_seq ?_
  refine ct_seq ?_
  refine ct_region ?_
  iterate 4 (first | refine rs_ex rfl (by (first | (constructor <;> first | rfl | exact RdC.rd | exact inferInstance) | exact Ex.pickF rfl rfl | exact Ex.eqlS rfl rfl | exact Ex.neqS rfl rfl | exact Ex.eqlPN rfl rfl | exact Ex.neqPN rfl rfl | exact Ex.eqlSN rfl rfl | exact Ex.neqSN rfl rfl | exact Ex.lenStr rfl)) rfl ?_ | refine rs_skip rfl rfl ?_)
  refine rs_heap (H' := MapC Plc.v Msg.v br f.b :: Blk b (.cells #[.int .u32 to, .int .u32 1, .map (some wr), .map (some br)] 108 (0, 0)) :: MapC Plc.v Msg.v wr [] :: H) (fun w h => h.fit) ?_
  refine rs_op rfl rfl (opR_range rfl fun r => ?_)
  refine rs_end ?_
  refine qe_then ?_
  refine ct_heap (H' := RngC Plc.v Msg.v br r (leftB to f.b []) f.b none :: SlT 51 (.slice none 0 0) ([] : List Numb) :: Blk b (.cells #[.int .u32 to, .int .u32 1, .map (some wr), .map (some br)] 108 (0, 0)) :: MapC Plc.v Msg.v wr [] :: H) (fun w h => by rw [leftB_nil]; exact At.sw1 (At.slt_nil (α := Numb) 51 h)) ?_
  refine ct_block ?_
  refine ct_loopc (ζ := Value × List (Plc × Msg) × List (Plc × Msg) × Option (Plc × Msg)) (fun q => (q.2.1 ++ q.2.2.1).Perm f.b) [(0, _), (1, _), (40, _)] (fun q => [(6, q.1)]) (fun q => RngC Plc.v Msg.v br r (leftB to f.b q.2.1) q.2.2.1 q.2.2.2 :: SlT 51 q.1 ((ofE to q.2.1).map toN) :: Blk b (.cells #[.int .u32 to, .int .u32 1, .map (some wr), .map (some br)] 108 (0, 0)) :: MapC Plc.v Msg.v wr [] :: H) (fun q => q.2.2.1.length) ((.slice none 0 0, [], f.b, none)) (.refl _) ⟨rfl, rfl, rfl, rfl, trivial⟩ (fun w h => by first | exact h.fit | exact h) ?_
  rintro ⟨ov, seen, todo, cur⟩ hp
  simp only at hp ⊢
  have hlen := hp.length_eq
  rw [List.length_append] at hlen
  refine ct_seq ?_
  refine ct_region ?_
  refine rs_op rfl rfl (opR_next rfl (fun h0 => ?_) (fun x todo' hp' => ?_))
  · subst h0
    rw [List.append_nil] at hp
    (first | refine rs_ex rfl (by (first | (constructor <;> first | rfl | exact RdC.rd | exact inferInstance) | exact Ex.pickF rfl rfl | exact Ex.eqlS rfl rfl | exact Ex.neqS rfl rfl | exact Ex.eqlPN rfl rfl | exact Ex.neqPN rfl rfl | exact Ex.eqlSN rfl rfl | exact Ex.neqSN rfl rfl | exact Ex.lenStr rfl)) rfl ?_ | refine rs_skip rfl rfl ?_)
    refine rs_end ?_
    refine qe_then ?_
    refine ct_seq ?_
    refine ct_cond rfl (fun h => absurd h (by decide)) (fun _ => ?_)
    refine ct_exit ?_
    refine qe_then_exit ?_
    refine qe_loop_exit ?_
    refine qe_block_exit ?_
    refine qe_then ?_
    refine ct_seq ?_
    rw [leftB_all hp]
    refine ct_pr (fun w h => h.drop.slv) ?_; rintro ⟨p6, c6, e6, hv6⟩
    subst e6
    have hnl : ((ofE to seen).map toN).length ≤ 100 := by
      have := List.length_filter_le (fun q : Plc × Msg => decide (q.1.e = to)) seen
      rw [List.length_map]
      unfold ofE
      omega
    have hnp : ((ofE to seen).map toN).Perm ((ofE to f.b).map toN) := (hp.filter _).map _
    refine ct_region ?_
    (first | refine rs_ex rfl (by (first | (constructor <;> first | rfl | exact RdC.rd | exact inferInstance) | exact Ex.pickF rfl rfl | exact Ex.eqlS rfl rfl | exact Ex.neqS rfl rfl | exact Ex.eqlPN rfl rfl | exact Ex.neqPN rfl rfl | exact Ex.eqlSN rfl rfl | exact Ex.neqSN rfl rfl | exact Ex.lenStr rfl)) rfl ?_ | refine rs_skip rfl rfl ?_)
    refine rs_op rfl rfl (opR_fn rfl (Call.heap (fun w h => by (first | exact h | exact h.sw1 | exact h.sw2 | exact h.sw3 | exact h.sw4 | exact h.sw5 | exact h.sw6 | exact h.sw7 | exact h.sw8 | exact h.pull2 | exact h.pull3 | exact h.pull4 | exact h.pull5 | exact h.fit)) ((sort_num W0 p6 c6 ((ofE to seen).map toN) _ hv6 (by omega)).mono ?_)))
    rintro v H' ⟨l, hp1, _, rfl⟩
    refine rs_end ?_
    refine qe_then ?_
    have hl2 : ((ofE to seen).map toN).length = l.length := hp1.length_eq.symm
    have hv2 : SlV p6 c6 l := hv6.same hl2.symm
    rw [hl2]
    have hll : l.length ≤ 100 := by rw [← hl2]; exact hnl
    refine ct_heap (H' := SlT 34 (.slice none 0 0) ([] : List Msg) :: FolC b (f.moved to) :: SlT 51 (.slice p6 l.length c6) l :: H) (fun w h => At.slt_nil (α := Msg) 34 (FolC.shut (f := f.moved to) (At.top [_, _, _, _] [2, 3, 0, 1] (At.rng_done (At.sw1 h))))) ?_
    refine ct_seq ?_
    refine ct_region ?_
    (first | refine rs_ex rfl (by (first | (constructor <;> first | rfl | exact RdC.rd | exact inferInstance) | exact Ex.pickF rfl rfl | exact Ex.eqlS rfl rfl | exact Ex.neqS rfl rfl | exact Ex.eqlPN rfl rfl | exact Ex.neqPN rfl rfl | exact Ex.eqlSN rfl rfl | exact Ex.neqSN rfl rfl | exact Ex.lenStr rfl)) rfl ?_ | refine rs_skip rfl rfl ?_)
    refine rs_end ?_
    refine qe_then ?_
    refine ct_seq ?_
    refine ct_seq ?_
    refine ct_region ?_
    iterate 3 (first | refine rs_ex rfl (by (first | (constructor <;> first | rfl | exact RdC.rd | exact inferInstance) | exact Ex.pickF rfl rfl | exact Ex.eqlS rfl rfl | exact Ex.neqS rfl rfl | exact Ex.eqlPN rfl rfl | exact Ex.neqPN rfl rfl | exact Ex.eqlSN rfl rfl | exact Ex.neqSN rfl rfl | exact Ex.lenStr rfl)) rfl ?_ | refine rs_skip rfl rfl ?_)
    refine rs_end ?_
    refine qe_then ?_
    refine ct_block ?_
    refine ct_loopc (ζ := Nat × (Option Addr × Nat) × List Msg × Fol) (fun q => q.1 ≤ l.length ∧ SlV q.2.1.1 q.2.1.2 q.2.2.1 ∧ q.2.2.1 = ((f.moved to).recvs (l.take q.1)).1 ∧ q.2.2.2 = ((f.moved to).recvs (l.take q.1)).2) [(0, _), (69, _), (70, _)] (fun q => [(71, .int .i64 (q.1 : Int)), (9, .slice q.2.1.1 q.2.2.1.length q.2.1.2)]) (fun q => SlT 34 (.slice q.2.1.1 q.2.2.1.length q.2.1.2) q.2.2.1 :: FolC b q.2.2.2 :: SlT 51 (.slice p6 l.length c6) l :: H) (fun q => l.length - q.1) ((0, (none, 0), [], f.moved to)) (⟨Nat.zero_le _, ⟨Nat.le_refl _, .inl ⟨rfl, rfl, rfl⟩⟩, by simp [Fol.recvs], by simp [Fol.recvs]⟩) ⟨rfl, rfl, rfl, rfl, rfl, trivial⟩ (fun w h => by first | exact h.fit | exact h) ?_
    rintro ⟨j, ⟨po, co⟩, o, g⟩ ⟨hj, hvo, ho, hg⟩
    simp only at hj hvo ho hg ⊢
    have hrl := recvs_len (l.take j) (f.moved to)
    rw [← ho, ← hg, List.length_take] at hrl
    have hw0 : (f.moved to).w.length = 0 := rfl
    refine ct_seq ?_
    refine ct_region ?_
    (first | refine rs_ex rfl (by (first | (constructor <;> first | rfl | exact RdC.rd | exact inferInstance) | exact Ex.pickF rfl rfl | exact Ex.eqlS rfl rfl | exact Ex.neqS rfl rfl | exact Ex.eqlPN rfl rfl | exact Ex.neqPN rfl rfl | exact Ex.eqlSN rfl rfl | exact Ex.neqSN rfl rfl | exact Ex.lenStr rfl)) rfl ?_ | refine rs_skip rfl rfl ?_)
    refine rs_end ?_
    refine qe_then ?_
    refine ct_seq ?_
    refine ct_cond rfl (fun h72 => ?_) (fun h72 => ?_)
    · have hj1 : j < l.length := by simp at h72; exact h72
      obtain ⟨bl, rfl⟩ := hv2.some hj1
      obtain ⟨x, hx⟩ : ∃ x, x = l[j] := ⟨_, rfl⟩
      have hx' : l[j]? = some x := by rw [hx]; exact List.getElem?_eq_getElem hj1
      have hst := recvs_snoc (l.take j) (f.moved to) x
      rw [← ho, ← hg, show l.take j ++ [x] = l.take (j + 1) by rw [List.take_succ_eq_append_getElem hj1, ← hx]] at hst
      have hrx := g.recv_len x
      refine ct_skip ?_
      refine qe_then ?_
      refine ct_seq ?_
      refine ct_block ?_
      refine ct_seq ?_
      refine ct_region ?_
      refine rs_ex rfl (ex_indexAddr rfl rfl (by omega) (by omega)) rfl ?_
      refine rs_ex rfl (ex_loadNumb x rfl (RdE.get hx')) rfl ?_
      refine rs_op rfl rfl (opR_alloc fun b11 => ?_)
      refine rs_opN rfl (opR_store rfl rfl rfl rfl ?_)
      refine rs_end ?_
      refine qe_then ?_
      refine ct_seq ?_
      refine ct_region ?_
      iterate 2 (first | refine rs_ex rfl (by (first | (constructor <;> first | rfl | exact RdC.rd | exact inferInstance) | exact Ex.pickF rfl rfl | exact Ex.eqlS rfl rfl | exact Ex.neqS rfl rfl | exact Ex.eqlPN rfl rfl | exact Ex.neqPN rfl rfl | exact Ex.eqlSN rfl rfl | exact Ex.neqSN rfl rfl | exact Ex.lenStr rfl)) rfl ?_ | refine rs_skip rfl rfl ?_)
      refine rs_op rfl rfl (opR_fn rfl (Call.heap (fun w h => by (first | exact h | exact h.sw1 | exact h.sw2 | exact h.sw3 | exact h.sw4 | exact h.sw5 | exact h.sw6 | exact h.sw7 | exact h.sw8 | exact h.pull2 | exact h.pull3 | exact h.pull4 | exact h.pull5 | exact h.fit)) ((Receive_c W0 b g x _ (by omega)).mono ?_)))
      rintro v H' ⟨u, rfl, rfl⟩
      refine rs_prp (fun w h => h.slv) ?_; rintro ⟨pu, cu, eu, hvu⟩
      subst eu
      iterate 5 (first | refine rs_ex rfl (by (first | (constructor <;> first | rfl | exact RdC.rd | exact inferInstance) | exact Ex.pickF rfl rfl | exact Ex.eqlS rfl rfl | exact Ex.neqS rfl rfl | exact Ex.eqlPN rfl rfl | exact Ex.neqPN rfl rfl | exact Ex.eqlSN rfl rfl | exact Ex.neqSN rfl rfl | exact Ex.lenStr rfl)) rfl ?_ | refine rs_skip rfl rfl ?_)
      refine rs_end ?_
      refine qe_then ?_
      refine ct_region ?_
      iterate 2 (first | refine rs_ex rfl (by (first | (constructor <;> first | rfl | exact RdC.rd | exact inferInstance) | exact Ex.pickF rfl rfl | exact Ex.eqlS rfl rfl | exact Ex.neqS rfl rfl | exact Ex.eqlPN rfl rfl | exact Ex.neqPN rfl rfl | exact Ex.eqlSN rfl rfl | exact Ex.neqSN rfl rfl | exact Ex.lenStr rfl)) rfl ?_ | refine rs_skip rfl rfl ?_)
      refine rs_op rfl rfl (opR_fn rfl (Call.heap (fun w h => by (first | exact h | exact h.sw1 | exact h.sw2 | exact h.sw3 | exact h.sw4 | exact h.sw5 | exact h.sw6 | exact h.sw7 | exact h.sw8 | exact h.pull2 | exact h.pull3 | exact h.pull4 | exact h.pull5 | exact h.fit)) ((Joined_c W0 (.slice po o.length co) o pu (g.recv x).1.1 cu _ (by exact RdS.slR (len := (g.recv x).1.1.length) inferInstance hvu) (by omega)).mono ?_)))
      rintro v H' rfl
      refine rs_prp (fun w h => h.slv) ?_; rintro ⟨p8, c8, e8, hv8⟩
      subst e8
      (first | refine rs_ex rfl (by (first | (constructor <;> first | rfl | exact RdC.rd | exact inferInstance) | exact Ex.pickF rfl rfl | exact Ex.eqlS rfl rfl | exact Ex.neqS rfl rfl | exact Ex.eqlPN rfl rfl | exact Ex.neqPN rfl rfl | exact Ex.eqlSN rfl rfl | exact Ex.neqSN rfl rfl | exact Ex.lenStr rfl)) rfl ?_ | refine rs_skip rfl rfl ?_)
      refine rs_end ?_
      refine qe_block 4 ?_
      refine qe_then ?_
      refine ct_region ?_
      (first | refine rs_ex rfl (by (first | (constructor <;> first | rfl | exact RdC.rd | exact inferInstance) | exact Ex.pickF rfl rfl | exact Ex.eqlS rfl rfl | exact Ex.neqS rfl rfl | exact Ex.eqlPN rfl rfl | exact Ex.neqPN rfl rfl | exact Ex.eqlSN rfl rfl | exact Ex.neqSN rfl rfl | exact Ex.lenStr rfl)) rfl ?_ | refine rs_skip rfl rfl ?_)
      refine rs_rw (by rw [wrapS (by omega)]) ?_
      (first | refine rs_ex rfl (by (first | (constructor <;> first | rfl | exact RdC.rd | exact inferInstance) | exact Ex.pickF rfl rfl | exact Ex.eqlS rfl rfl | exact Ex.neqS rfl rfl | exact Ex.eqlPN rfl rfl | exact Ex.neqPN rfl rfl | exact Ex.eqlSN rfl rfl | exact Ex.neqSN rfl rfl | exact Ex.lenStr rfl)) rfl ?_ | refine rs_skip rfl rfl ?_)
      refine rs_end ?_
      refine qe_loopc ((j + 1, (p8, c8), o ++ (g.recv x).1.1, (g.recv x).2)) (⟨by simp only; omega, hv8, by simp only; rw [hst], by simp only; rw [hst]⟩) (by first | omega | (simp only; omega)) ⟨rfl, rfl, rfl, rfl, rfl, trivial⟩ (fun w h => by first | exact h.fit | exact h)
    · have hje : j = l.length := by simp at h72; omega
      subst hje
      rw [List.take_length] at ho hg
      subst ho
      subst hg
      refine ct_exit ?_
      refine qe_then_exit ?_
      refine qe_loop_exit ?_
      refine qe_block_exit ?_
      refine qe_then ?_
      refine ct_seq ?_
      refine ct_region ?_
      iterate 3 (first | refine rs_ex rfl (by (first | (constructor <;> first | rfl | exact RdC.rd | exact inferInstance) | exact Ex.pickF rfl rfl | exact Ex.eqlS rfl rfl | exact Ex.neqS rfl rfl | exact Ex.eqlPN rfl rfl | exact Ex.neqPN rfl rfl | exact Ex.eqlSN rfl rfl | exact Ex.neqSN rfl rfl | exact Ex.lenStr rfl)) rfl ?_ | refine rs_skip rfl rfl ?_)
      refine rs_end ?_
      refine qe_then ?_
      refine ct_ret ?_
      exact qe_heap (H' := SlT 34 (.slice po ((f.moved to).recvs l).1.length co) ((f.moved to).recvs l).1 :: FolC b ((f.moved to).recvs l).2 :: H) (fun w h => h.fit) (ret2 rfl rfl rfl ⟨_, l, rfl, hp1.trans hnp, rfl⟩)
  · have hlen' := hp'.length_eq
    rw [List.length_cons] at hlen'
    have hp2 : ((seen ++ [x]) ++ todo').Perm f.b := by
      refine List.Perm.trans ?_ hp
      rw [List.append_assoc]
      exact List.Perm.append_left _ hp'.symm
    (first | refine rs_ex rfl (by (first | (constructor <;> first | rfl | exact RdC.rd | exact inferInstance) | exact Ex.pickF rfl rfl | exact Ex.eqlS rfl rfl | exact Ex.neqS rfl rfl | exact Ex.eqlPN rfl rfl | exact Ex.neqPN rfl rfl | exact Ex.eqlSN rfl rfl | exact Ex.neqSN rfl rfl | exact Ex.lenStr rfl)) rfl ?_ | refine rs_skip rfl rfl ?_)
    refine rs_end ?_
    refine qe_then ?_
    refine ct_seq ?_
    refine ct_cond rfl (fun _ => ?_) (fun h => absurd h (by decide))
    refine ct_skip ?_
    refine qe_then ?_
    refine ct_block ?_
    refine ct_seq ?_
    refine ct_region ?_
    refine rs_ex rfl (ex_entry x (fun w hw => ⟨_, hw⟩) rfl) rfl ?_
    iterate 2 (first | refine rs_ex rfl (by (first | (constructor <;> first | rfl | exact RdC.rd | exact inferInstance) | exact Ex.pickF rfl rfl | exact Ex.eqlS rfl rfl | exact Ex.neqS rfl rfl | exact Ex.eqlPN rfl rfl | exact Ex.neqPN rfl rfl | exact Ex.eqlSN rfl rfl | exact Ex.neqSN rfl rfl | exact Ex.lenStr rfl)) rfl ?_ | refine rs_skip rfl rfl ?_)
    refine rs_op rfl rfl (opR_alloc fun b7 => ?_)
    refine rs_op rfl rfl (opR_alloc fun b8 => ?_)
    refine rs_opN rfl (opR_store rfl rfl rfl rfl ?_)
    refine rs_opN rfl (opR_store rfl rfl rfl rfl ?_)
    refine rs_end ?_
    refine qe_then ?_
    refine ct_seq ?_
    refine ct_seq ?_
    refine ct_region ?_
    iterate 4 (first | refine rs_ex rfl (by (first | (constructor <;> first | rfl | exact RdC.rd | exact inferInstance) | exact Ex.pickF rfl rfl | exact Ex.eqlS rfl rfl | exact Ex.neqS rfl rfl | exact Ex.eqlPN rfl rfl | exact Ex.neqPN rfl rfl | exact Ex.eqlSN rfl rfl | exact Ex.neqSN rfl rfl | exact Ex.lenStr rfl)) rfl ?_ | refine rs_skip rfl rfl ?_)
    refine rs_end ?_
    refine qe_then ?_
    refine ct_cond rfl (fun h49 => ?_) (fun h49 => ?_)
    · have hlt : to < x.1.e := by simpa using h49
      have ef : ofE to (seen ++ [x]) = ofE to seen := by
        unfold ofE
        rw [List.filter_append, List.filter_cons_of_neg (by simp; omega), List.filter_nil, List.append_nil]
      refine ct_exit ?_
      refine qe_then_exit ?_
      refine qe_block_exit ?_
      refine qe_loopc ((ov, seen ++ [x], todo', some x)) (hp2) (by simp only; omega) ⟨rfl, rfl, rfl, rfl, trivial⟩ (fun w h => by rw [leftB_late hlt, ef]; exact h.drop.drop)
    · have hlt : ¬ to < x.1.e := by simpa using h49
      refine ct_skip ?_
      refine qe_then ?_
      refine ct_seq ?_
      refine ct_heap (H' := RngC Plc.v Msg.v br r (leftB to f.b seen) todo' (some x) :: Blk b8 (.cells #[.int .i64 x.2.id.from_, .int .u32 x.2.id.count, .string x.2.data] 34 (0, 0)) :: Blk b7 (.cells #[.int .u32 x.1.e, .int .u32 x.1.n] 111 (0, 0)) :: SlT 51 ov ((ofE to seen).map toN) :: Blk b (.cells #[.int .u32 to, .int .u32 1, .map (some wr), .map (some br)] 108 (0, 0)) :: MapC Plc.v Msg.v wr [] :: H) (fun w h => h.fit) ?_
      refine ct_draw0 (by kernel_rfl) ?_
      refine ra_take 0 rfl (by kernel_rfl) (by kernel_rfl) rfl (by (first | (constructor <;> first | rfl | exact RdC.rd | exact inferInstance) | exact Ex.pickF rfl rfl | exact Ex.eqlS rfl rfl | exact Ex.neqS rfl rfl | exact Ex.eqlPN rfl rfl | exact Ex.neqPN rfl rfl | exact Ex.eqlSN rfl rfl | exact Ex.neqSN rfl rfl | exact Ex.lenStr rfl)) rfl (fun _ h => h.fit) ?_
      refine ra_take 1 rfl (by kernel_rfl) (by kernel_rfl) rfl (by (first | (constructor <;> first | rfl | exact RdC.rd | exact inferInstance) | exact Ex.pickF rfl rfl | exact Ex.eqlS rfl rfl | exact Ex.neqS rfl rfl | exact Ex.eqlPN rfl rfl | exact Ex.neqPN rfl rfl | exact Ex.eqlSN rfl rfl | exact Ex.neqSN rfl rfl | exact Ex.lenStr rfl)) rfl (fun _ h => h.fit) ?_
      refine ra_take 2 rfl (by kernel_rfl) (by kernel_rfl) rfl (by (first | (constructor <;> first | rfl | exact RdC.rd | exact inferInstance) | exact Ex.pickF rfl rfl | exact Ex.eqlS rfl rfl | exact Ex.neqS rfl rfl | exact Ex.eqlPN rfl rfl | exact Ex.neqPN rfl rfl | exact Ex.eqlSN rfl rfl | exact Ex.neqSN rfl rfl | exact Ex.lenStr rfl)) rfl (fun _ h => h.fit) ?_
      refine ra_take 3 rfl (by kernel_rfl) (by kernel_rfl) rfl (by (first | (constructor <;> first | rfl | exact RdC.rd | exact inferInstance) | exact Ex.pickF rfl rfl | exact Ex.eqlS rfl rfl | exact Ex.neqS rfl rfl | exact Ex.eqlPN rfl rfl | exact Ex.neqPN rfl rfl | exact Ex.eqlSN rfl rfl | exact Ex.neqSN rfl rfl | exact Ex.lenStr rfl)) rfl (fun _ h => h.fit) ?_
      refine ra_take 4 rfl (by kernel_rfl) (by kernel_rfl) rfl (by (first | (constructor <;> first | rfl | exact RdC.rd | exact inferInstance) | exact Ex.pickF rfl rfl | exact Ex.eqlS rfl rfl | exact Ex.neqS rfl rfl | exact Ex.eqlPN rfl rfl | exact Ex.neqPN rfl rfl | exact Ex.eqlSN rfl rfl | exact Ex.neqSN rfl rfl | exact Ex.lenStr rfl)) rfl (fun _ h => h.fit) ?_
      refine ra_all (rs := [5]) (by kernel_rfl) rfl ?_
      refine each_opN rfl rfl (opR_rdelete (c := x) rfl rfl (hbn.sublist ((leftB_sub to f.b seen).map _)) ?_) each_nil
      refine ⟨.inl (by kernel_rfl), ?_⟩
      refine ra_end (by kernel_rfl) ?_
      refine qe_then ?_
      rw [leftB_del hbn hlt]
      refine ct_pr (fun w h => h.drop.drop.drop.slv) ?_; rintro ⟨p6, c6, e6, hv6⟩
      subst e6
      refine ct_seq ?_
      refine ct_region ?_
      iterate 4 (first | refine rs_ex rfl (by (first | (constructor <;> first | rfl | exact RdC.rd | exact inferInstance) | exact Ex.pickF rfl rfl | exact Ex.eqlS rfl rfl | exact Ex.neqS rfl rfl | exact Ex.eqlPN rfl rfl | exact Ex.neqPN rfl rfl | exact Ex.eqlSN rfl rfl | exact Ex.neqSN rfl rfl | exact Ex.lenStr rfl)) rfl ?_ | refine rs_skip rfl rfl ?_)
      refine rs_end ?_
      refine qe_then ?_
      refine ct_cond rfl (fun h58 => ?_) (fun h58 => ?_)
      · have he : x.1.e = to := by simpa using h58
        have ef : (ofE to (seen ++ [x])).map toN = (ofE to seen).map toN ++ [⟨to, x.1.n, x.2⟩] := by
          unfold ofE
          rw [List.filter_append, List.filter_cons_of_pos (by simp [he]), List.filter_nil, List.map_append, List.map_singleton]
          unfold toN
          rw [he]
        refine ct_region ?_
        iterate 5 (first | refine rs_ex rfl (by (first | (constructor <;> first | rfl | exact RdC.rd | exact inferInstance) | exact Ex.pickF rfl rfl | exact Ex.eqlS rfl rfl | exact Ex.neqS rfl rfl | exact Ex.eqlPN rfl rfl | exact Ex.neqPN rfl rfl | exact Ex.eqlSN rfl rfl | exact Ex.neqSN rfl rfl | exact Ex.lenStr rfl)) rfl ?_ | refine rs_skip rfl rfl ?_)
        refine rs_ex rfl (ex_build rfl) rfl ?_
        refine rs_op rfl rfl (opR_buildSlice rfl rfl rfl rfl fun b65 => ?_)
        refine rs_op rfl rfl (opR_append [⟨to, x.1.n, x.2⟩] rfl rfl (by exact SlR.blk RdC.rd [(⟨to, x.1.n, x.2⟩ : Numb)] rfl) rfl (by have := List.length_filter_le (fun q : Plc × Msg => decide (q.1.e = to)) seen; simp [ofE]; omega) rfl fun p7 c7 hv7 => ?_)
        (first | refine rs_ex rfl (by (first | (constructor <;> first | rfl | exact RdC.rd | exact inferInstance) | exact Ex.pickF rfl rfl | exact Ex.eqlS rfl rfl | exact Ex.neqS rfl rfl | exact Ex.eqlPN rfl rfl | exact Ex.neqPN rfl rfl | exact Ex.eqlSN rfl rfl | exact Ex.neqSN rfl rfl | exact Ex.lenStr rfl)) rfl ?_ | refine rs_skip rfl rfl ?_)
        refine rs_end ?_
        refine qe_block 2 ?_
        refine qe_loopc ((.slice p7 ((ofE to seen).map toN ++ [(⟨to, x.1.n, x.2⟩ : Numb)]).length c7, seen ++ [x], todo', none)) (hp2) (by simp only; omega) ⟨rfl, rfl, rfl, rfl, trivial⟩ (fun w h => by rw [ef]; exact h.fit)
      · have he : ¬ x.1.e = to := by simpa using h58
        have ef : ofE to (seen ++ [x]) = ofE to seen := by
          unfold ofE
          rw [List.filter_append, List.filter_cons_of_neg (by simpa using he), List.filter_nil, List.append_nil]
        refine ct_skip ?_
        refine qe_block 2 ?_
        refine qe_loopc ((.slice p6 ((ofE to seen).map toN).length c6, seen ++ [x], todo', none)) (hp2) (by simp only; omega) ⟨rfl, rfl, rfl, rfl, trivial⟩ (fun w h => by rw [ef]; exact h.fit)
end Go.Rost
