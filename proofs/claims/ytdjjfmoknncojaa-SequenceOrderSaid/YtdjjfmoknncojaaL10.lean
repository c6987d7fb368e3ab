/- What the laws of layer 10 lean on. -/
import Derived.Test.YtdjjfmoknncojaaTk
import Derived.Test.YtdjjfmoknncojaaSt
namespace Go.Rost
open Go Go.RowKit Go.Proofs

theorem Same_c (W0 : World) (p1 : Option Addr) (c1 : Nat) (l1 : List Msg) (p2 : Option Addr) (c2 : Nat) (l2 : List Msg) (H : List Chunk) (h1 : SlR (At W0 H) p1 l1) (h2 : SlR (At W0 H) p2 l2) (hl : l1.length ≤ 4000000000000000000) :
    Call Try.prog W0 26 [.slice p1 l1.length c1, .slice p2 l2.length c2] H (fun v H' => v = .bool (decide (l1 = l2)) ∧ H' = H) := by
  refine call_enter Try.func26 rfl Try.ntmps26 rfl ?_
  refine ct_seq (ct_region ?_)
  repeat (first | refine rs_ex rfl (by (first | (constructor <;> first | rfl | exact RdC.rd | exact inferInstance) | exact Ex.pickF rfl rfl | exact Ex.eqlS rfl rfl | exact Ex.neqS rfl rfl | exact Ex.eqlPN rfl rfl | exact Ex.neqPN rfl rfl | exact Ex.eqlSN rfl rfl | exact Ex.neqSN rfl rfl | exact Ex.lenStr rfl)) rfl ?_ | refine rs_skip rfl rfl ?_)
  refine rs_end (qe_then ?_)
  refine ct_seq ?_
  refine ct_seq (ct_region ?_)
  repeat (first | refine rs_ex rfl (by (first | (constructor <;> first | rfl | exact RdC.rd | exact inferInstance) | exact Ex.pickF rfl rfl | exact Ex.eqlS rfl rfl | exact Ex.neqS rfl rfl | exact Ex.eqlPN rfl rfl | exact Ex.neqPN rfl rfl | exact Ex.eqlSN rfl rfl | exact Ex.neqSN rfl rfl | exact Ex.lenStr rfl)) rfl ?_ | refine rs_skip rfl rfl ?_)
  refine rs_end (qe_then ?_)
  refine ct_cond rfl (fun hn => ?_) (fun hn => ?_)
  · refine ct_seq (ct_region ?_)
    repeat (first | refine rs_ex rfl (by (first | (constructor <;> first | rfl | exact RdC.rd | exact inferInstance) | exact Ex.pickF rfl rfl | exact Ex.eqlS rfl rfl | exact Ex.neqS rfl rfl | exact Ex.eqlPN rfl rfl | exact Ex.neqPN rfl rfl | exact Ex.eqlSN rfl rfl | exact Ex.neqSN rfl rfl | exact Ex.lenStr rfl)) rfl ?_ | refine rs_skip rfl rfl ?_)
    refine rs_end (qe_then (ct_ret (ret1 rfl rfl ⟨?_, rfl⟩)))
    have : l1 ≠ l2 := fun e => by subst e; simp at hn
    simp [this]
  have hn' : l1.length = l2.length := by simp at hn; omega
  refine ct_skip (qe_then ?_)
  refine ct_seq ?_
  refine ct_seq (ct_region ?_)
  repeat (first | refine rs_ex rfl (by (first | (constructor <;> first | rfl | exact RdC.rd | exact inferInstance) | exact Ex.pickF rfl rfl | exact Ex.eqlS rfl rfl | exact Ex.neqS rfl rfl | exact Ex.eqlPN rfl rfl | exact Ex.neqPN rfl rfl | exact Ex.eqlSN rfl rfl | exact Ex.neqSN rfl rfl | exact Ex.lenStr rfl)) rfl ?_ | refine rs_skip rfl rfl ?_)
  refine rs_end (qe_then (ct_block ?_))
  refine ct_loop (ζ := Nat) (fun i => i ≤ l1.length ∧ l1.take i = l2.take i) (fun i => [(5, .int .i64 (i : Int)), (0, .slice p1 l1.length c1), (1, .slice p2 l2.length c2)]) (fun _ => H) (fun i => l1.length - i) 0 ⟨Nat.zero_le _, rfl⟩ ⟨rfl, rfl, rfl, trivial⟩ (fun w h => h) ?_
  rintro i ⟨hi, hs⟩
  refine ct_seq ?_
  refine ct_seq (ct_region ?_)
  repeat (first | refine rs_ex rfl (by (first | (constructor <;> first | rfl | exact RdC.rd | exact inferInstance) | exact Ex.pickF rfl rfl | exact Ex.eqlS rfl rfl | exact Ex.neqS rfl rfl | exact Ex.eqlPN rfl rfl | exact Ex.neqPN rfl rfl | exact Ex.eqlSN rfl rfl | exact Ex.neqSN rfl rfl | exact Ex.lenStr rfl)) rfl ?_ | refine rs_skip rfl rfl ?_)
  refine rs_end (qe_then ?_)
  refine ct_cond rfl (fun hc => ?_) (fun hc => ?_)
  · have hi1 : i < l1.length := by simp at hc; exact hc
    have hi2 : i < l2.length := by omega
    obtain ⟨b1, o1, rfl, r1⟩ := h1.get (List.getElem?_eq_getElem hi1)
    obtain ⟨b2, o2, rfl, r2⟩ := h2.get (List.getElem?_eq_getElem hi2)
    refine ct_skip (qe_then ?_)
    refine ct_seq (ct_block ?_)
    refine ct_seq (ct_draw0 (by kernel_rfl) ?_)
    refine ra_take 0 rfl (by kernel_rfl) (by kernel_rfl) rfl (by (first | (constructor <;> first | rfl | exact RdC.rd | exact inferInstance) | exact Ex.pickF rfl rfl | exact Ex.eqlS rfl rfl | exact Ex.neqS rfl rfl | exact Ex.eqlPN rfl rfl | exact Ex.neqPN rfl rfl | exact Ex.eqlSN rfl rfl | exact Ex.neqSN rfl rfl | exact Ex.lenStr rfl)) rfl (by first | exact fun _ h => h | exact fun _ h => h.drop | exact fun _ h => h.drop.drop | exact fun _ h => h.drop.drop.drop | exact fun _ h => h.drop.drop.drop.drop | exact fun _ h => h.drop.drop.drop.drop.drop | exact fun _ h => h.drop.drop.drop.drop.drop.drop | exact fun _ h => h.drop.drop.drop.drop.drop.drop.drop | exact fun _ h => h.drop.drop.drop.drop.drop.drop.drop.drop) ?_
    refine ra_take 1 rfl (by kernel_rfl) (by kernel_rfl) rfl (by (first | (constructor <;> first | rfl | exact RdC.rd | exact inferInstance) | exact Ex.pickF rfl rfl | exact Ex.eqlS rfl rfl | exact Ex.neqS rfl rfl | exact Ex.eqlPN rfl rfl | exact Ex.neqPN rfl rfl | exact Ex.eqlSN rfl rfl | exact Ex.neqSN rfl rfl | exact Ex.lenStr rfl)) rfl (by first | exact fun _ h => h | exact fun _ h => h.drop | exact fun _ h => h.drop.drop | exact fun _ h => h.drop.drop.drop | exact fun _ h => h.drop.drop.drop.drop | exact fun _ h => h.drop.drop.drop.drop.drop | exact fun _ h => h.drop.drop.drop.drop.drop.drop | exact fun _ h => h.drop.drop.drop.drop.drop.drop.drop | exact fun _ h => h.drop.drop.drop.drop.drop.drop.drop.drop) ?_
    refine ra_take 2 rfl (by kernel_rfl) (by kernel_rfl) rfl (ex_indexAddr rfl rfl (by omega) (by omega)) rfl (by first | exact fun _ h => h | exact fun _ h => h.drop | exact fun _ h => h.drop.drop | exact fun _ h => h.drop.drop.drop | exact fun _ h => h.drop.drop.drop.drop | exact fun _ h => h.drop.drop.drop.drop.drop | exact fun _ h => h.drop.drop.drop.drop.drop.drop | exact fun _ h => h.drop.drop.drop.drop.drop.drop.drop | exact fun _ h => h.drop.drop.drop.drop.drop.drop.drop.drop) ?_
    refine ra_take 3 rfl (by kernel_rfl) (by kernel_rfl) rfl (ex_loadMsg (l1[i]) rfl r1) rfl (by first | exact fun _ h => h | exact fun _ h => h.drop | exact fun _ h => h.drop.drop | exact fun _ h => h.drop.drop.drop | exact fun _ h => h.drop.drop.drop.drop | exact fun _ h => h.drop.drop.drop.drop.drop | exact fun _ h => h.drop.drop.drop.drop.drop.drop | exact fun _ h => h.drop.drop.drop.drop.drop.drop.drop | exact fun _ h => h.drop.drop.drop.drop.drop.drop.drop.drop) ?_
    refine ra_take 4 rfl (by kernel_rfl) (by kernel_rfl) rfl (by (first | (constructor <;> first | rfl | exact RdC.rd | exact inferInstance) | exact Ex.pickF rfl rfl | exact Ex.eqlS rfl rfl | exact Ex.neqS rfl rfl | exact Ex.eqlPN rfl rfl | exact Ex.neqPN rfl rfl | exact Ex.eqlSN rfl rfl | exact Ex.neqSN rfl rfl | exact Ex.lenStr rfl)) rfl (by first | exact fun _ h => h | exact fun _ h => h.drop | exact fun _ h => h.drop.drop | exact fun _ h => h.drop.drop.drop | exact fun _ h => h.drop.drop.drop.drop | exact fun _ h => h.drop.drop.drop.drop.drop | exact fun _ h => h.drop.drop.drop.drop.drop.drop | exact fun _ h => h.drop.drop.drop.drop.drop.drop.drop | exact fun _ h => h.drop.drop.drop.drop.drop.drop.drop.drop) ?_
    refine ra_take 5 rfl (by kernel_rfl) (by kernel_rfl) rfl (by (first | (constructor <;> first | rfl | exact RdC.rd | exact inferInstance) | exact Ex.pickF rfl rfl | exact Ex.eqlS rfl rfl | exact Ex.neqS rfl rfl | exact Ex.eqlPN rfl rfl | exact Ex.neqPN rfl rfl | exact Ex.eqlSN rfl rfl | exact Ex.neqSN rfl rfl | exact Ex.lenStr rfl)) rfl (by first | exact fun _ h => h | exact fun _ h => h.drop | exact fun _ h => h.drop.drop | exact fun _ h => h.drop.drop.drop | exact fun _ h => h.drop.drop.drop.drop | exact fun _ h => h.drop.drop.drop.drop.drop | exact fun _ h => h.drop.drop.drop.drop.drop.drop | exact fun _ h => h.drop.drop.drop.drop.drop.drop.drop | exact fun _ h => h.drop.drop.drop.drop.drop.drop.drop.drop) ?_
    refine ra_take 6 rfl (by kernel_rfl) (by kernel_rfl) rfl (ex_indexAddr rfl rfl (by omega) (by omega)) rfl (by first | exact fun _ h => h | exact fun _ h => h.drop | exact fun _ h => h.drop.drop | exact fun _ h => h.drop.drop.drop | exact fun _ h => h.drop.drop.drop.drop | exact fun _ h => h.drop.drop.drop.drop.drop | exact fun _ h => h.drop.drop.drop.drop.drop.drop | exact fun _ h => h.drop.drop.drop.drop.drop.drop.drop | exact fun _ h => h.drop.drop.drop.drop.drop.drop.drop.drop) ?_
    refine ra_take 7 rfl (by kernel_rfl) (by kernel_rfl) rfl (ex_loadMsg (l2[i]) rfl r2) rfl (by first | exact fun _ h => h | exact fun _ h => h.drop | exact fun _ h => h.drop.drop | exact fun _ h => h.drop.drop.drop | exact fun _ h => h.drop.drop.drop.drop | exact fun _ h => h.drop.drop.drop.drop.drop | exact fun _ h => h.drop.drop.drop.drop.drop.drop | exact fun _ h => h.drop.drop.drop.drop.drop.drop.drop | exact fun _ h => h.drop.drop.drop.drop.drop.drop.drop.drop) ?_
    refine ra_take 8 rfl (by kernel_rfl) (by kernel_rfl) rfl (ex_neqMsg l1[i] l2[i] rfl rfl) rfl (by first | exact fun _ h => h | exact fun _ h => h.drop | exact fun _ h => h.drop.drop | exact fun _ h => h.drop.drop.drop | exact fun _ h => h.drop.drop.drop.drop | exact fun _ h => h.drop.drop.drop.drop.drop | exact fun _ h => h.drop.drop.drop.drop.drop.drop | exact fun _ h => h.drop.drop.drop.drop.drop.drop.drop | exact fun _ h => h.drop.drop.drop.drop.drop.drop.drop.drop) ?_
    refine ra_end (by kernel_rfl) (qe_then ?_)
    refine ct_cond rfl (fun he => ?_) (fun he => ?_)
    · refine ct_seq (ct_region ?_)
      repeat (first | refine rs_ex rfl (by (first | (constructor <;> first | rfl | exact RdC.rd | exact inferInstance) | exact Ex.pickF rfl rfl | exact Ex.eqlS rfl rfl | exact Ex.neqS rfl rfl | exact Ex.eqlPN rfl rfl | exact Ex.neqPN rfl rfl | exact Ex.eqlSN rfl rfl | exact Ex.neqSN rfl rfl | exact Ex.lenStr rfl)) rfl ?_ | refine rs_skip rfl rfl ?_)
      refine rs_end (qe_then (ct_ret (ret1 rfl rfl ⟨?_, rfl⟩)))
      have : l1 ≠ l2 := fun e => by subst e; simp at he
      simp [this]
    · have he' : l1[i] = l2[i] := by simpa using he
      refine ct_skip (qe_block 1 (qe_then ?_))
      refine ct_region ?_
      repeat (first | refine rs_ex rfl (by (first | (constructor <;> first | rfl | exact RdC.rd | exact inferInstance) | exact Ex.pickF rfl rfl | exact Ex.eqlS rfl rfl | exact Ex.neqS rfl rfl | exact Ex.eqlPN rfl rfl | exact Ex.neqPN rfl rfl | exact Ex.eqlSN rfl rfl | exact Ex.neqSN rfl rfl | exact Ex.lenStr rfl)) rfl ?_ | refine rs_skip rfl rfl ?_)
      refine rs_rw (by rw [wrapS (by omega)]) ?_
      repeat (first | refine rs_ex rfl (by (first | (constructor <;> first | rfl | exact RdC.rd | exact inferInstance) | exact Ex.pickF rfl rfl | exact Ex.eqlS rfl rfl | exact Ex.neqS rfl rfl | exact Ex.eqlPN rfl rfl | exact Ex.neqPN rfl rfl | exact Ex.eqlSN rfl rfl | exact Ex.neqSN rfl rfl | exact Ex.lenStr rfl)) rfl ?_ | refine rs_skip rfl rfl ?_)
      refine rs_end (qe_loop (i + 1) ⟨by omega, ?_⟩ (by omega) ⟨rfl, rfl, rfl, trivial⟩ (fun w h => h))
      rw [List.take_succ_eq_append_getElem hi1, List.take_succ_eq_append_getElem hi2, hs, he']
  · have e : i = l1.length := by simp at hc; omega
    subst e
    (refine ct_exit ?_; repeat (first | refine qe_then_exit ?_ | refine qe_loop_exit ?_ | refine qe_mid_exit ?_ | refine qe_block_exit_ne rfl ?_); refine qe_block_exit ?_)
    refine qe_then ?_
    refine ct_seq (ct_region ?_)
    repeat (first | refine rs_ex rfl (by (first | (constructor <;> first | rfl | exact RdC.rd | exact inferInstance) | exact Ex.pickF rfl rfl | exact Ex.eqlS rfl rfl | exact Ex.neqS rfl rfl | exact Ex.eqlPN rfl rfl | exact Ex.neqPN rfl rfl | exact Ex.eqlSN rfl rfl | exact Ex.neqSN rfl rfl | exact Ex.lenStr rfl)) rfl ?_ | refine rs_skip rfl rfl ?_)
    refine rs_end (qe_then (ct_ret (ret1 rfl rfl ⟨?_, rfl⟩)))
    have : l1 = l2 := by rw [List.take_length, hn', List.take_length] at hs; exact hs
    simp [this]
def Msg.cut (m : Msg) : Msg := ⟨m.id, m.data.extract 0 (min m.data.size 1100)⟩
def cutL (l : List Msg) : List Msg := (l.take 80).map Msg.cut
theorem min_if (n m : Nat) : (if (OfNat.ofNat m : Int) < (n : Int) then (OfNat.ofNat m : Int) else (n : Int)) = ((min n m : Nat) : Int) := by
  show (if (m : Int) < (n : Int) then (m : Int) else (n : Int)) = _
  split <;> omega
theorem Cut_c (W0 : World) (p : Option Addr) (c : Nat) (l : List Msg) (H : List Chunk) (h1 : SlR (At W0 H) p l) :
    Call Try.prog W0 19 [.slice p l.length c] H (fun v H' => H' = SlT 34 v (cutL l) :: H) := by
  refine call_enter Try.func19 rfl Try.ntmps19 rfl ?_
  refine ct_seq (ct_region ?_)
  repeat (first | refine rs_ex rfl (by (first | (constructor <;> first | rfl | exact RdC.rd | exact inferInstance) | exact Ex.pickF rfl rfl | exact Ex.eqlS rfl rfl | exact Ex.neqS rfl rfl | exact Ex.eqlPN rfl rfl | exact Ex.neqPN rfl rfl | exact Ex.eqlSN rfl rfl | exact Ex.neqSN rfl rfl | exact Ex.lenStr rfl)) rfl ?_ | refine rs_skip rfl rfl ?_)
  refine rs_end (qe_then ?_)
  refine ct_seq (ct_region ?_)
  repeat (first | refine rs_ex rfl (by (first | (constructor <;> first | rfl | exact RdC.rd | exact inferInstance) | exact Ex.pickF rfl rfl | exact Ex.eqlS rfl rfl | exact Ex.neqS rfl rfl | exact Ex.eqlPN rfl rfl | exact Ex.neqPN rfl rfl | exact Ex.eqlSN rfl rfl | exact Ex.neqSN rfl rfl | exact Ex.lenStr rfl)) rfl ?_ | refine rs_skip rfl rfl ?_)
  refine rs_end (qe_then ?_)
  refine ct_seq ?_
  refine ct_seq (ct_region ?_)
  repeat (first | refine rs_ex rfl (by (first | (constructor <;> first | rfl | exact RdC.rd | exact inferInstance) | exact Ex.pickF rfl rfl | exact Ex.eqlS rfl rfl | exact Ex.neqS rfl rfl | exact Ex.eqlPN rfl rfl | exact Ex.neqPN rfl rfl | exact Ex.eqlSN rfl rfl | exact Ex.neqSN rfl rfl | exact Ex.lenStr rfl)) rfl ?_ | refine rs_skip rfl rfl ?_)
  refine rs_end (qe_then (ct_block ?_))
  refine ct_loop (ζ := Nat × Value) (fun z => z.1 ≤ l.length ∧ z.1 ≤ 80) (fun z => [(4, .int .i64 (z.1 : Int)), (0, .slice p l.length c), (3, z.2)]) (fun z => SlT 34 z.2 ((l.take z.1).map Msg.cut) :: H) (fun z => 80 - z.1)
    (0, .slice none 0 0) ⟨Nat.zero_le _, Nat.zero_le _⟩ ⟨rfl, rfl, rfl, trivial⟩ (fun w h => At.slt_nil (α := Msg) 34 h) ?_
  rintro ⟨i, v⟩ ⟨hi, hi80⟩
  simp only at hi hi80 ⊢
  refine ct_seq ?_
  refine ct_seq (ct_region ?_)
  repeat' (first | (first | refine rs_ex rfl (by (first | (constructor <;> first | rfl | exact RdC.rd | exact inferInstance) | exact Ex.pickF rfl rfl | exact Ex.eqlS rfl rfl | exact Ex.neqS rfl rfl | exact Ex.eqlPN rfl rfl | exact Ex.neqPN rfl rfl | exact Ex.eqlSN rfl rfl | exact Ex.neqSN rfl rfl | exact Ex.lenStr rfl)) rfl ?_ | refine rs_skip rfl rfl ?_) | (refine rs_split (fun h => ?_) (fun h => ?_) <;> (first | refine rs_ex rfl (by (first | (constructor <;> first | rfl | exact RdC.rd | exact inferInstance) | exact Ex.pickF rfl rfl | exact Ex.eqlS rfl rfl | exact Ex.neqS rfl rfl | exact Ex.eqlPN rfl rfl | exact Ex.neqPN rfl rfl | exact Ex.eqlSN rfl rfl | exact Ex.neqSN rfl rfl | exact Ex.lenStr rfl)) rfl ?_ | refine rs_skip rfl rfl ?_)))
  all_goals
    refine rs_end (qe_then ?_)
    refine ct_cond rfl (fun hc => ?_) (fun hc => ?_)
  all_goals first | (exfalso; cases hc; done) | skip
  · have hi1 : i < l.length := by simp_all
    have hi2 : i < 80 := by simp at hc; omega
    obtain ⟨b1, o1, rfl, r1⟩ := h1.get (List.getElem?_eq_getElem hi1)
    refine ct_skip (qe_then ?_)
    refine ct_seq (ct_block ?_)
    refine ct_seq (ct_region ?_)
    repeat (first | refine rs_ex rfl (by (first | (constructor <;> first | rfl | exact RdC.rd | exact inferInstance) | exact Ex.pickF rfl rfl | exact Ex.eqlS rfl rfl | exact Ex.neqS rfl rfl | exact Ex.eqlPN rfl rfl | exact Ex.neqPN rfl rfl | exact Ex.eqlSN rfl rfl | exact Ex.neqSN rfl rfl | exact Ex.lenStr rfl)) rfl ?_ | refine rs_skip rfl rfl ?_)
    refine rs_ex rfl (ex_indexAddr rfl rfl (by omega) (by omega)) rfl ?_
    refine rs_ex rfl (ex_loadMsg (l[i]) rfl (r1.mono fun w h => h.drop)) rfl ?_
    refine rs_op rfl rfl (opR_alloc fun bm => ?_)
    refine rs_opN rfl (opR_store rfl rfl rfl rfl ?_)
    refine rs_end (qe_then ?_)
    refine ct_seq (ct_region ?_)
    repeat (first | refine rs_ex rfl (by (first | (constructor <;> first | rfl | exact RdC.rd | exact inferInstance) | exact Ex.pickF rfl rfl | exact Ex.eqlS rfl rfl | exact Ex.neqS rfl rfl | exact Ex.eqlPN rfl rfl | exact Ex.neqPN rfl rfl | exact Ex.eqlSN rfl rfl | exact Ex.neqSN rfl rfl | exact Ex.lenStr rfl)) rfl ?_ | refine rs_skip rfl rfl ?_)
    refine rs_ex rfl (ex_min rfl rfl) rfl ?_
    refine rs_rw (by rw [show (if (1100 : Int) < (l[i].data.size : Int) then (1100 : Int) else (l[i].data.size : Int)) = ((min l[i].data.size 1100 : Nat) : Int) from min_if _ 1100]) ?_
    refine rs_ex rfl (ex_sliceStr (i := 0) (j := min l[i].data.size 1100) rfl (.inl ⟨rfl, rfl⟩) (.inr ⟨_, _, rfl, rfl⟩) (by omega) (by omega)) rfl ?_
    repeat (first | refine rs_ex rfl (by (first | (constructor <;> first | rfl | exact RdC.rd | exact inferInstance) | exact Ex.pickF rfl rfl | exact Ex.eqlS rfl rfl | exact Ex.neqS rfl rfl | exact Ex.eqlPN rfl rfl | exact Ex.neqPN rfl rfl | exact Ex.eqlSN rfl rfl | exact Ex.neqSN rfl rfl | exact Ex.lenStr rfl)) rfl ?_ | refine rs_skip rfl rfl ?_)
    refine rs_opN rfl (opR_store rfl rfl rfl rfl ?_)
    refine rs_end (qe_then ?_)
    refine ct_region ?_
    repeat (first | refine rs_ex rfl (by (first | (constructor <;> first | rfl | exact RdC.rd | exact inferInstance) | exact Ex.pickF rfl rfl | exact Ex.eqlS rfl rfl | exact Ex.neqS rfl rfl | exact Ex.eqlPN rfl rfl | exact Ex.neqPN rfl rfl | exact Ex.eqlSN rfl rfl | exact Ex.neqSN rfl rfl | exact Ex.lenStr rfl)) rfl ?_ | refine rs_skip rfl rfl ?_)
    refine rs_op rfl rfl (opR_buildSlice rfl rfl rfl rfl fun wb => ?_)
    refine rs_op rfl rfl (opR_append [l[i].cut] rfl rfl (SlR.blk RdC.rd [l[i].cut] rfl) rfl ?_ rfl fun p3 cap3 hv3 => ?_)
    · simp; omega
    repeat (first | refine rs_ex rfl (by (first | (constructor <;> first | rfl | exact RdC.rd | exact inferInstance) | exact Ex.pickF rfl rfl | exact Ex.eqlS rfl rfl | exact Ex.neqS rfl rfl | exact Ex.eqlPN rfl rfl | exact Ex.neqPN rfl rfl | exact Ex.eqlSN rfl rfl | exact Ex.neqSN rfl rfl | exact Ex.lenStr rfl)) rfl ?_ | refine rs_skip rfl rfl ?_)
    refine rs_end (qe_block 1 (qe_then ?_))
    refine ct_region ?_
    repeat (first | refine rs_ex rfl (by (first | (constructor <;> first | rfl | exact RdC.rd | exact inferInstance) | exact Ex.pickF rfl rfl | exact Ex.eqlS rfl rfl | exact Ex.neqS rfl rfl | exact Ex.eqlPN rfl rfl | exact Ex.neqPN rfl rfl | exact Ex.eqlSN rfl rfl | exact Ex.neqSN rfl rfl | exact Ex.lenStr rfl)) rfl ?_ | refine rs_skip rfl rfl ?_)
    refine rs_rw (by rw [wrapS (by omega)]) ?_
    repeat (first | refine rs_ex rfl (by (first | (constructor <;> first | rfl | exact RdC.rd | exact inferInstance) | exact Ex.pickF rfl rfl | exact Ex.eqlS rfl rfl | exact Ex.neqS rfl rfl | exact Ex.eqlPN rfl rfl | exact Ex.neqPN rfl rfl | exact Ex.eqlSN rfl rfl | exact Ex.neqSN rfl rfl | exact Ex.lenStr rfl)) rfl ?_ | refine rs_skip rfl rfl ?_)
    refine rs_end (qe_loop (i + 1, _) ⟨by simp; omega, by simp; omega⟩ (by simp; omega) ⟨rfl, rfl, rfl, trivial⟩ (fun w h => ?_))
    have h2 := At.top [_, _, _] [2] h
    simp only [List.take_succ_eq_append_getElem hi1, List.map_append, List.map_cons, List.map_nil] at h2 ⊢
    exact h2
  all_goals
    (refine ct_exit ?_; repeat (first | refine qe_then_exit ?_ | refine qe_loop_exit ?_ | refine qe_mid_exit ?_ | refine qe_block_exit_ne rfl ?_); refine qe_block_exit ?_)
    refine qe_then ?_
    refine ct_seq (ct_region ?_)
    repeat (first | refine rs_ex rfl (by (first | (constructor <;> first | rfl | exact RdC.rd | exact inferInstance) | exact Ex.pickF rfl rfl | exact Ex.eqlS rfl rfl | exact Ex.neqS rfl rfl | exact Ex.eqlPN rfl rfl | exact Ex.neqPN rfl rfl | exact Ex.eqlSN rfl rfl | exact Ex.neqSN rfl rfl | exact Ex.lenStr rfl)) rfl ?_ | refine rs_skip rfl rfl ?_)
    refine rs_end (qe_then (ct_ret (ret1 rfl rfl ?_)))
    have e : l.take 80 = l.take i := by
      rcases Nat.lt_or_ge i 80 with h | h
      · have : i = l.length := by simp_all <;> omega
        rw [this, List.take_length, List.take_of_length_le (by omega)]
      · have : i = 80 := by omega
        rw [this]
    rw [cutL, e]
end Go.Rost
