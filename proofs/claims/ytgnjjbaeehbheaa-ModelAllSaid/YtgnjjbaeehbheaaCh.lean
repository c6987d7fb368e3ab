/- The model of a log: how many happen. -/
import Derived.Test.YtgnjjbaeehbheaaHp
namespace Go.Rost
open Go Go.RowKit Go.Proofs

theorem Happens_c (W0 : World) (b c n : Nat) (p : Option Addr) (H : List Chunk) : Call Try.prog W0 50 [.pointer (some ⟨b, 0, none⟩), .slice p n c] H
    (fun u H' => ∃ bm bl, u = .func (.func 65) #[] #[.pointer (some ⟨bl, 0, none⟩), .pointer (some ⟨bm, 0, none⟩)] ∧ H' = Blk bl (.cells #[.slice p n c] 46 (0, 0)) :: Blk bm (.cells #[.pointer (some ⟨b, 0, none⟩)] 56 (0, 0)) :: H) := by
  refine call_enter Try.func50 rfl Try.ntmps50 rfl ?_
  ((repeat refine ct_seq ?_); refine ct_region ?_)
  refine rs_op rfl rfl (opR_box rfl ?_); intro bm
  refine rs_op rfl rfl (opR_box rfl ?_); intro bl
  repeat (first | refine rs_ex rfl (by (first | (constructor <;> first | rfl | exact RdC.rd | exact inferInstance) | exact Ex.pickF rfl rfl | exact Ex.eqlS rfl rfl | exact Ex.neqS rfl rfl | exact Ex.eqlPN rfl rfl | exact Ex.neqPN rfl rfl | exact Ex.eqlSN rfl rfl | exact Ex.neqSN rfl rfl | exact Ex.lenStr rfl)) rfl ?_ | refine rs_skip rfl rfl ?_)
  refine rs_end (qe_then ?_)
  ((repeat refine ct_seq ?_); refine ct_region ?_; repeat (first | refine rs_ex rfl (by (first | (constructor <;> first | rfl | exact RdC.rd | exact inferInstance) | exact Ex.pickF rfl rfl | exact Ex.eqlS rfl rfl | exact Ex.neqS rfl rfl | exact Ex.eqlPN rfl rfl | exact Ex.neqPN rfl rfl | exact Ex.eqlSN rfl rfl | exact Ex.neqSN rfl rfl | exact Ex.lenStr rfl)) rfl ?_ | refine rs_skip rfl rfl ?_))
  refine rs_end (qe_then (ct_ret (ret1 rfl rfl ⟨_, _, rfl, rfl⟩)))
/-- How many happen, and whether all do. -/
def checkV : Mod → List Happ → Nat × Int
  | _, [] => (0, 0)
  | s, h :: l => if (s.happen h).1 = 0 then ((checkV (s.happen h).2 l).1 + 1, (checkV (s.happen h).2 l).2) else (0, 160)
def ckStep (z : Nat × Int) (m : Bool) : (Nat × Int) × Option Code := if m = true then ((z.1 + 1, z.2), none) else ((z.1, 160), some (.exit 0))
theorem runs_ck : ∀ (l : List Happ) (s : Mod) (k : Nat), (runs ckStep (k, 0) (hapsV s l)).1 = (k + (checkV s l).1, (checkV s l).2) ∧ ((runs ckStep (k, 0) (hapsV s l)).2 = none ∨ (runs ckStep (k, 0) (hapsV s l)).2 = some (.exit 0))
  | [], s, k => ⟨rfl, .inl rfl⟩
  | h :: l, s, k => by
    rw [hapsV, runs, checkV]
    by_cases h0 : (s.happen h).1 = 0
    · have e : ckStep (k, 0) (decide ((s.happen h).1 = 0)) = ((k + 1, 0), none) := by simp [ckStep, h0]
      rw [e, if_pos h0]
      obtain ⟨a, b⟩ := runs_ck l (s.happen h).2 (k + 1)
      refine ⟨?_, b⟩
      rw [a]
      show (_, _) = (_, _)
      congr 1
      show k + 1 + _ = k + (_ + 1)
      omega
    · have e : ckStep (k, 0) (decide ((s.happen h).1 = 0)) = ((k, 160), some (.exit 0)) := by simp [ckStep, h0]
      rw [e, if_neg h0]
      exact ⟨rfl, .inr rfl⟩
def checkN (n : Int) (l : List Happ) : Int × Int := if n < 1 ∨ 16 < n then (0, 2) else (((checkV (Mod.new n.toNat) l).1 : Int), (checkV (Mod.new n.toNat) l).2)
theorem hapsV_length : ∀ (l : List Happ) (s : Mod), (hapsV s l).length = l.length
  | [], _ => rfl
  | h :: l, s => by rw [hapsV, List.length_cons, hapsV_length l, List.length_cons]
theorem Check_in (W0 : World) (n : Int) (p : Option Addr) (c : Nat) (l : List Happ) (hr : SlR (At W0 []) p l) (hl : l.length ≤ 30000) :
    Call Try.prog W0 32 [.int .i64 n, .slice p l.length c] [] (fun v _ => v = .tuple #[.int .i64 (checkN n l).1, .int .i64 (checkN n l).2]) := by
  refine call_enterM Try.func32 rfl Try.ntmps32 rfl ?_
  ((repeat refine ct_seq ?_); refine ct_region ?_; repeat (first | refine rs_ex rfl (by (first | (constructor <;> first | rfl | exact RdC.rd | exact inferInstance) | exact Ex.pickF rfl rfl | exact Ex.eqlS rfl rfl | exact Ex.neqS rfl rfl | exact Ex.eqlPN rfl rfl | exact Ex.neqPN rfl rfl | exact Ex.eqlSN rfl rfl | exact Ex.neqSN rfl rfl | exact Ex.lenStr rfl)) rfl ?_ | refine rs_skip rfl rfl ?_))
  refine rs_end (qe_then (ct_scope ?_))
  ((repeat refine ct_seq ?_); refine ct_region ?_; repeat (first | refine rs_ex rfl (by (first | (constructor <;> first | rfl | exact RdC.rd | exact inferInstance) | exact Ex.pickF rfl rfl | exact Ex.eqlS rfl rfl | exact Ex.neqS rfl rfl | exact Ex.eqlPN rfl rfl | exact Ex.neqPN rfl rfl | exact Ex.eqlSN rfl rfl | exact Ex.neqSN rfl rfl | exact Ex.lenStr rfl)) rfl ?_ | refine rs_skip rfl rfl ?_))
  refine rs_op rfl rfl (opR_fn rfl ((ModNew_c W0 n _).mono ?_))
  rintro v H' (⟨hn, rfl, rfl⟩ | ⟨b, k, rfl, hk1, hk2, rfl, rfl⟩)
  · repeat (first | refine rs_ex rfl (by (first | (constructor <;> first | rfl | exact RdC.rd | exact inferInstance) | exact Ex.pickF rfl rfl | exact Ex.eqlS rfl rfl | exact Ex.neqS rfl rfl | exact Ex.eqlPN rfl rfl | exact Ex.neqPN rfl rfl | exact Ex.eqlSN rfl rfl | exact Ex.neqSN rfl rfl | exact Ex.lenStr rfl)) rfl ?_ | refine rs_skip rfl rfl ?_)
    refine rs_op rfl rfl (opR_alloc fun b7 => ?_)
    repeat (first | refine rs_ex rfl (by (first | (constructor <;> first | rfl | exact RdC.rd | exact inferInstance) | exact Ex.pickF rfl rfl | exact Ex.eqlS rfl rfl | exact Ex.neqS rfl rfl | exact Ex.eqlPN rfl rfl | exact Ex.neqPN rfl rfl | exact Ex.eqlSN rfl rfl | exact Ex.neqSN rfl rfl | exact Ex.lenStr rfl)) rfl ?_ | refine rs_skip rfl rfl ?_)
    refine rs_opN rfl (opR_store rfl rfl rfl rfl ?_)
    refine rs_end (qe_then ?_)
    ((repeat refine ct_seq ?_); refine ct_region ?_; repeat (first | refine rs_ex rfl (by (first | (constructor <;> first | rfl | exact RdC.rd | exact inferInstance) | exact Ex.pickF rfl rfl | exact Ex.eqlS rfl rfl | exact Ex.neqS rfl rfl | exact Ex.eqlPN rfl rfl | exact Ex.neqPN rfl rfl | exact Ex.eqlSN rfl rfl | exact Ex.neqSN rfl rfl | exact Ex.lenStr rfl)) rfl ?_ | refine rs_skip rfl rfl ?_))
    refine rs_end (qe_then ?_)
    refine ct_cond rfl (fun _ => ?_) (fun h => by cases h)
    ((repeat refine ct_seq ?_); refine ct_draw0 (by kernel_rfl) ?_)
    refine ra_take 0 rfl (by kernel_rfl) (by kernel_rfl) rfl (by (first | (constructor <;> first | rfl | exact RdC.rd | exact inferInstance) | exact Ex.pickF rfl rfl | exact Ex.eqlS rfl rfl | exact Ex.neqS rfl rfl | exact Ex.eqlPN rfl rfl | exact Ex.neqPN rfl rfl | exact Ex.eqlSN rfl rfl | exact Ex.neqSN rfl rfl | exact Ex.lenStr rfl)) rfl (by first | exact fun _ h => h | exact fun _ h => h.drop | exact fun _ h => h.drop.drop | exact fun _ h => h.drop.drop.drop | exact fun _ h => h.drop.drop.drop.drop | exact fun _ h => h.drop.drop.drop.drop.drop | exact fun _ h => h.drop.drop.drop.drop.drop.drop | exact fun _ h => h.drop.drop.drop.drop.drop.drop.drop | exact fun _ h => h.drop.drop.drop.drop.drop.drop.drop.drop) ?_
    refine ra_take 1 rfl (by kernel_rfl) (by kernel_rfl) rfl (by (first | (constructor <;> first | rfl | exact RdC.rd | exact inferInstance) | exact Ex.pickF rfl rfl | exact Ex.eqlS rfl rfl | exact Ex.neqS rfl rfl | exact Ex.eqlPN rfl rfl | exact Ex.neqPN rfl rfl | exact Ex.eqlSN rfl rfl | exact Ex.neqSN rfl rfl | exact Ex.lenStr rfl)) rfl (by first | exact fun _ h => h | exact fun _ h => h.drop | exact fun _ h => h.drop.drop | exact fun _ h => h.drop.drop.drop | exact fun _ h => h.drop.drop.drop.drop | exact fun _ h => h.drop.drop.drop.drop.drop | exact fun _ h => h.drop.drop.drop.drop.drop.drop | exact fun _ h => h.drop.drop.drop.drop.drop.drop.drop | exact fun _ h => h.drop.drop.drop.drop.drop.drop.drop.drop) ?_
    refine ra_take 2 rfl (by kernel_rfl) (by kernel_rfl) rfl (by (first | (constructor <;> first | rfl | exact RdC.rd | exact inferInstance) | exact Ex.pickF rfl rfl | exact Ex.eqlS rfl rfl | exact Ex.neqS rfl rfl | exact Ex.eqlPN rfl rfl | exact Ex.neqPN rfl rfl | exact Ex.eqlSN rfl rfl | exact Ex.neqSN rfl rfl | exact Ex.lenStr rfl)) rfl (by first | exact fun _ h => h | exact fun _ h => h.drop | exact fun _ h => h.drop.drop | exact fun _ h => h.drop.drop.drop | exact fun _ h => h.drop.drop.drop.drop | exact fun _ h => h.drop.drop.drop.drop.drop | exact fun _ h => h.drop.drop.drop.drop.drop.drop | exact fun _ h => h.drop.drop.drop.drop.drop.drop.drop | exact fun _ h => h.drop.drop.drop.drop.drop.drop.drop.drop) ?_
    have e : checkN n l = (0, 2) := by rw [checkN, if_pos hn]
    refine ra_end (by kernel_rfl) (qe_then (ct_ret (retM (ret2 rfl rfl rfl (by rw [e])))))
  · repeat (first | refine rs_ex rfl (by (first | (constructor <;> first | rfl | exact RdC.rd | exact inferInstance) | exact Ex.pickF rfl rfl | exact Ex.eqlS rfl rfl | exact Ex.neqS rfl rfl | exact Ex.eqlPN rfl rfl | exact Ex.neqPN rfl rfl | exact Ex.eqlSN rfl rfl | exact Ex.neqSN rfl rfl | exact Ex.lenStr rfl)) rfl ?_ | refine rs_skip rfl rfl ?_)
    refine rs_op rfl rfl (opR_alloc fun b7 => ?_)
    repeat (first | refine rs_ex rfl (by (first | (constructor <;> first | rfl | exact RdC.rd | exact inferInstance) | exact Ex.pickF rfl rfl | exact Ex.eqlS rfl rfl | exact Ex.neqS rfl rfl | exact Ex.eqlPN rfl rfl | exact Ex.neqPN rfl rfl | exact Ex.eqlSN rfl rfl | exact Ex.neqSN rfl rfl | exact Ex.lenStr rfl)) rfl ?_ | refine rs_skip rfl rfl ?_)
    refine rs_opN rfl (opR_store rfl rfl rfl rfl ?_)
    refine rs_end (qe_then ?_)
    ((repeat refine ct_seq ?_); refine ct_region ?_; repeat (first | refine rs_ex rfl (by (first | (constructor <;> first | rfl | exact RdC.rd | exact inferInstance) | exact Ex.pickF rfl rfl | exact Ex.eqlS rfl rfl | exact Ex.neqS rfl rfl | exact Ex.eqlPN rfl rfl | exact Ex.neqPN rfl rfl | exact Ex.eqlSN rfl rfl | exact Ex.neqSN rfl rfl | exact Ex.lenStr rfl)) rfl ?_ | refine rs_skip rfl rfl ?_))
    refine rs_end (qe_then ?_)
    refine ct_cond rfl (fun h => by cases h) (fun _ => ?_)
    refine ct_skip (qe_then ?_)
    have e : checkN (k : Int) l = (((checkV (Mod.new k) l).1 : Int), (checkV (Mod.new k) l).2) := by rw [checkN, if_neg (by omega)]; rfl
    ((repeat refine ct_seq ?_); refine ct_region ?_)
    refine rs_op rfl rfl (opR_alloc fun b8 => ?_)
    refine rs_opN rfl (opR_store rfl rfl rfl rfl ?_)
    refine rs_end (qe_then ?_)
    refine ct_seq (ct_label (qe_then ?_))
    ((repeat refine ct_seq ?_); refine ct_region ?_; repeat (first | refine rs_ex rfl (by (first | (constructor <;> first | rfl | exact RdC.rd | exact inferInstance) | exact Ex.pickF rfl rfl | exact Ex.eqlS rfl rfl | exact Ex.neqS rfl rfl | exact Ex.eqlPN rfl rfl | exact Ex.neqPN rfl rfl | exact Ex.eqlSN rfl rfl | exact Ex.neqSN rfl rfl | exact Ex.lenStr rfl)) rfl ?_ | refine rs_skip rfl rfl ?_))
    refine rs_op rfl rfl (opR_fn rfl ((Happens_c W0 b c l.length p _).mono ?_))
    rintro v H' ⟨bm, bl, rfl, rfl⟩
    refine rs_end (qe_then ?_)
    (repeat refine ct_seq ?_)
    refine ct_block ?_
    refine ct_rangeFunc (f := 65) (first := []) (cap := [.pointer (some ⟨bl, 0, none⟩), .pointer (some ⟨bm, 0, none⟩)]) encB (Star [Blk bl (.cells #[.slice p l.length c] 46 (0, 0)), Blk bm (.cells #[.pointer (some ⟨b, 0, none⟩)] 56 (0, 0)), ModC b (Mod.new k)])
      (fun z : Nat × Int => [Blk b8 (.cells #[.int .i64 (z.1 : Int)] 3 (0, 0)), Blk b7 (.cells #[.int .i64 z.2] 27 (0, 0))]) ckStep (fun z xs => z.1 + xs.length ≤ 30000) (fun xs => xs = hapsV (Mod.new k) l) (0, 0) rfl (fun _ => rfl) rfl (fun w h => ?_)
      (fun y' gc' T' hy' => Happens1_c W0 y' gc' _ _ _ bl bm b c 0 p l (Mod.new k) T' hy' (by rw [hapsV_length]; simpa using hl) hr (Mod.ok_new k) (by omega) (by simp [Mod.new]; omega)) ?_ ?_ ?_
    · exact At.star.2 (At.top [_, _, _, _, _] [0, 1, 4, 2, 3] h)
    · rintro l' ⟨q, r⟩ x xs hz T2
      simp only [List.length_cons] at hz
      refine ct_sub (τ := [(21, .bool x), (7, .pointer (some ⟨b7, 0, none⟩)), (8, .pointer (some ⟨b8, 0, none⟩))]) ⟨rfl, rfl, rfl, trivial⟩ ?_
      ((repeat refine ct_seq ?_); refine ct_region ?_; repeat (first | refine rs_ex rfl (by (first | (constructor <;> first | rfl | exact RdC.rd | exact inferInstance) | exact Ex.pickF rfl rfl | exact Ex.eqlS rfl rfl | exact Ex.neqS rfl rfl | exact Ex.eqlPN rfl rfl | exact Ex.neqPN rfl rfl | exact Ex.eqlSN rfl rfl | exact Ex.neqSN rfl rfl | exact Ex.lenStr rfl)) rfl ?_ | refine rs_skip rfl rfl ?_))
      refine rs_end (qe_assign [Blk b8 (.cells #[.int .i64 (q : Int)] 3 (0, 0)), Blk b7 (.cells #[.int .i64 r] 27 (0, 0))] (fun w h => h) (fun T' => ?_))
      refine ct_heap (H' := Blk b8 (.cells #[.int .i64 (q : Int)] 3 (0, 0)) :: Blk b7 (.cells #[.int .i64 r] 27 (0, 0)) :: T') (fun w h => h) ?_
      refine ct_block ?_
      cases x with
      | false =>
        ((repeat refine ct_seq ?_); refine ct_region ?_; repeat (first | refine rs_ex rfl (by (first | (constructor <;> first | rfl | exact RdC.rd | exact inferInstance) | exact Ex.pickF rfl rfl | exact Ex.eqlS rfl rfl | exact Ex.neqS rfl rfl | exact Ex.eqlPN rfl rfl | exact Ex.neqPN rfl rfl | exact Ex.eqlSN rfl rfl | exact Ex.neqSN rfl rfl | exact Ex.lenStr rfl)) rfl ?_ | refine rs_skip rfl rfl ?_))
        refine rs_end (qe_then ?_)
        refine ct_cond rfl (fun _ => ?_) (fun h => by cases h)
        ((repeat refine ct_seq ?_); refine ct_region ?_)
        refine rs_opN rfl (opR_store rfl rfl rfl rfl ?_)
        refine rs_end (qe_then (ct_exit (qe_then_exit (qe_block_exit_ne rfl (qe_round_exit [Blk b8 (.cells #[.int .i64 (q : Int)] 3 (0, 0)), Blk b7 (.cells #[.int .i64 160] 27 (0, 0))] (fun w h => h) ⟨rfl, rfl⟩)))))
      | true =>
        ((repeat refine ct_seq ?_); refine ct_region ?_; repeat (first | refine rs_ex rfl (by (first | (constructor <;> first | rfl | exact RdC.rd | exact inferInstance) | exact Ex.pickF rfl rfl | exact Ex.eqlS rfl rfl | exact Ex.neqS rfl rfl | exact Ex.eqlPN rfl rfl | exact Ex.neqPN rfl rfl | exact Ex.eqlSN rfl rfl | exact Ex.neqSN rfl rfl | exact Ex.lenStr rfl)) rfl ?_ | refine rs_skip rfl rfl ?_))
        refine rs_end (qe_then ?_)
        refine ct_cond rfl (fun h => by cases h) (fun _ => ?_)
        refine ct_skip (qe_then ?_)
        ((repeat refine ct_seq ?_); refine ct_region ?_; repeat (first | refine rs_ex rfl (by (first | (constructor <;> first | rfl | exact RdC.rd | exact inferInstance) | exact Ex.pickF rfl rfl | exact Ex.eqlS rfl rfl | exact Ex.neqS rfl rfl | exact Ex.eqlPN rfl rfl | exact Ex.neqPN rfl rfl | exact Ex.eqlSN rfl rfl | exact Ex.neqSN rfl rfl | exact Ex.lenStr rfl)) rfl ?_ | refine rs_skip rfl rfl ?_))
        refine rs_rw (by rw [wrapS (by omega)]) ?_
        refine rs_opN rfl (opR_store rfl rfl rfl rfl ?_)
        refine rs_end (qe_block 1 (qe_round [Blk b8 (.cells #[.int .i64 ((q + 1 : Nat) : Int)] 3 (0, 0)), Blk b7 (.cells #[.int .i64 r] 27 (0, 0))] (fun w h => h) ⟨rfl, rfl⟩))
    · rintro ⟨q, r⟩ x xs hz hs
      simp only [List.length_cons] at hz
      cases x with
      | false => simp [ckStep] at hs
      | true => show q + 1 + xs.length ≤ 30000; omega
    · rintro xs db rfl
      obtain ⟨hr1, hr2⟩ := runs_ck l (Mod.new k) 0
      generalize runs ckStep (0, 0) (hapsV (Mod.new k) l) = R at hr1 hr2 ⊢
      obtain ⟨z, jj⟩ := R
      simp only at hr1 hr2
      subst hr1
      rw [Nat.zero_add]
      rcases hr2 with rfl | rfl
      · refine qe_block 0 (qe_then ?_)
        ((repeat refine ct_seq ?_); refine ct_draw0 (by kernel_rfl) ?_)
        refine ra_take 0 rfl (by kernel_rfl) (by kernel_rfl) rfl (by (first | (constructor <;> first | rfl | exact RdC.rd | exact inferInstance) | exact Ex.pickF rfl rfl | exact Ex.eqlS rfl rfl | exact Ex.neqS rfl rfl | exact Ex.eqlPN rfl rfl | exact Ex.neqPN rfl rfl | exact Ex.eqlSN rfl rfl | exact Ex.neqSN rfl rfl | exact Ex.lenStr rfl)) rfl (by first | exact fun _ h => h | exact fun _ h => h.drop | exact fun _ h => h.drop.drop | exact fun _ h => h.drop.drop.drop | exact fun _ h => h.drop.drop.drop.drop | exact fun _ h => h.drop.drop.drop.drop.drop | exact fun _ h => h.drop.drop.drop.drop.drop.drop | exact fun _ h => h.drop.drop.drop.drop.drop.drop.drop | exact fun _ h => h.drop.drop.drop.drop.drop.drop.drop.drop) ?_
        refine ra_take 1 rfl (by kernel_rfl) (by kernel_rfl) rfl (by (first | (constructor <;> first | rfl | exact RdC.rd | exact inferInstance) | exact Ex.pickF rfl rfl | exact Ex.eqlS rfl rfl | exact Ex.neqS rfl rfl | exact Ex.eqlPN rfl rfl | exact Ex.neqPN rfl rfl | exact Ex.eqlSN rfl rfl | exact Ex.neqSN rfl rfl | exact Ex.lenStr rfl)) rfl (by first | exact fun _ h => h | exact fun _ h => h.drop | exact fun _ h => h.drop.drop | exact fun _ h => h.drop.drop.drop | exact fun _ h => h.drop.drop.drop.drop | exact fun _ h => h.drop.drop.drop.drop.drop | exact fun _ h => h.drop.drop.drop.drop.drop.drop | exact fun _ h => h.drop.drop.drop.drop.drop.drop.drop | exact fun _ h => h.drop.drop.drop.drop.drop.drop.drop.drop) ?_
        refine ra_take 2 rfl (by kernel_rfl) (by kernel_rfl) rfl (by (first | (constructor <;> first | rfl | exact RdC.rd | exact inferInstance) | exact Ex.pickF rfl rfl | exact Ex.eqlS rfl rfl | exact Ex.neqS rfl rfl | exact Ex.eqlPN rfl rfl | exact Ex.neqPN rfl rfl | exact Ex.eqlSN rfl rfl | exact Ex.neqSN rfl rfl | exact Ex.lenStr rfl)) rfl (by first | exact fun _ h => h | exact fun _ h => h.drop | exact fun _ h => h.drop.drop | exact fun _ h => h.drop.drop.drop | exact fun _ h => h.drop.drop.drop.drop | exact fun _ h => h.drop.drop.drop.drop.drop | exact fun _ h => h.drop.drop.drop.drop.drop.drop | exact fun _ h => h.drop.drop.drop.drop.drop.drop.drop | exact fun _ h => h.drop.drop.drop.drop.drop.drop.drop.drop) ?_
        refine ra_take 3 rfl (by kernel_rfl) (by kernel_rfl) rfl (by (first | (constructor <;> first | rfl | exact RdC.rd | exact inferInstance) | exact Ex.pickF rfl rfl | exact Ex.eqlS rfl rfl | exact Ex.neqS rfl rfl | exact Ex.eqlPN rfl rfl | exact Ex.neqPN rfl rfl | exact Ex.eqlSN rfl rfl | exact Ex.neqSN rfl rfl | exact Ex.lenStr rfl)) rfl (by first | exact fun _ h => h | exact fun _ h => h.drop | exact fun _ h => h.drop.drop | exact fun _ h => h.drop.drop.drop | exact fun _ h => h.drop.drop.drop.drop | exact fun _ h => h.drop.drop.drop.drop.drop | exact fun _ h => h.drop.drop.drop.drop.drop.drop | exact fun _ h => h.drop.drop.drop.drop.drop.drop.drop | exact fun _ h => h.drop.drop.drop.drop.drop.drop.drop.drop) ?_
        refine ra_end (by kernel_rfl) (qe_then (ct_ret (retM_mark (retM (ret2 rfl rfl rfl (by rw [e]))))))
      · refine ct_exit (qe_block_exit (qe_then ?_))
        ((repeat refine ct_seq ?_); refine ct_draw0 (by kernel_rfl) ?_)
        refine ra_take 0 rfl (by kernel_rfl) (by kernel_rfl) rfl (by (first | (constructor <;> first | rfl | exact RdC.rd | exact inferInstance) | exact Ex.pickF rfl rfl | exact Ex.eqlS rfl rfl | exact Ex.neqS rfl rfl | exact Ex.eqlPN rfl rfl | exact Ex.neqPN rfl rfl | exact Ex.eqlSN rfl rfl | exact Ex.neqSN rfl rfl | exact Ex.lenStr rfl)) rfl (by first | exact fun _ h => h | exact fun _ h => h.drop | exact fun _ h => h.drop.drop | exact fun _ h => h.drop.drop.drop | exact fun _ h => h.drop.drop.drop.drop | exact fun _ h => h.drop.drop.drop.drop.drop | exact fun _ h => h.drop.drop.drop.drop.drop.drop | exact fun _ h => h.drop.drop.drop.drop.drop.drop.drop | exact fun _ h => h.drop.drop.drop.drop.drop.drop.drop.drop) ?_
        refine ra_take 1 rfl (by kernel_rfl) (by kernel_rfl) rfl (by (first | (constructor <;> first | rfl | exact RdC.rd | exact inferInstance) | exact Ex.pickF rfl rfl | exact Ex.eqlS rfl rfl | exact Ex.neqS rfl rfl | exact Ex.eqlPN rfl rfl | exact Ex.neqPN rfl rfl | exact Ex.eqlSN rfl rfl | exact Ex.neqSN rfl rfl | exact Ex.lenStr rfl)) rfl (by first | exact fun _ h => h | exact fun _ h => h.drop | exact fun _ h => h.drop.drop | exact fun _ h => h.drop.drop.drop | exact fun _ h => h.drop.drop.drop.drop | exact fun _ h => h.drop.drop.drop.drop.drop | exact fun _ h => h.drop.drop.drop.drop.drop.drop | exact fun _ h => h.drop.drop.drop.drop.drop.drop.drop | exact fun _ h => h.drop.drop.drop.drop.drop.drop.drop.drop) ?_
        refine ra_take 2 rfl (by kernel_rfl) (by kernel_rfl) rfl (by (first | (constructor <;> first | rfl | exact RdC.rd | exact inferInstance) | exact Ex.pickF rfl rfl | exact Ex.eqlS rfl rfl | exact Ex.neqS rfl rfl | exact Ex.eqlPN rfl rfl | exact Ex.neqPN rfl rfl | exact Ex.eqlSN rfl rfl | exact Ex.neqSN rfl rfl | exact Ex.lenStr rfl)) rfl (by first | exact fun _ h => h | exact fun _ h => h.drop | exact fun _ h => h.drop.drop | exact fun _ h => h.drop.drop.drop | exact fun _ h => h.drop.drop.drop.drop | exact fun _ h => h.drop.drop.drop.drop.drop | exact fun _ h => h.drop.drop.drop.drop.drop.drop | exact fun _ h => h.drop.drop.drop.drop.drop.drop.drop | exact fun _ h => h.drop.drop.drop.drop.drop.drop.drop.drop) ?_
        refine ra_take 3 rfl (by kernel_rfl) (by kernel_rfl) rfl (by (first | (constructor <;> first | rfl | exact RdC.rd | exact inferInstance) | exact Ex.pickF rfl rfl | exact Ex.eqlS rfl rfl | exact Ex.neqS rfl rfl | exact Ex.eqlPN rfl rfl | exact Ex.neqPN rfl rfl | exact Ex.eqlSN rfl rfl | exact Ex.neqSN rfl rfl | exact Ex.lenStr rfl)) rfl (by first | exact fun _ h => h | exact fun _ h => h.drop | exact fun _ h => h.drop.drop | exact fun _ h => h.drop.drop.drop | exact fun _ h => h.drop.drop.drop.drop | exact fun _ h => h.drop.drop.drop.drop.drop | exact fun _ h => h.drop.drop.drop.drop.drop.drop | exact fun _ h => h.drop.drop.drop.drop.drop.drop.drop | exact fun _ h => h.drop.drop.drop.drop.drop.drop.drop.drop) ?_
        refine ra_end (by kernel_rfl) (qe_then (ct_ret (retM_mark (retM (ret2 rfl rfl rfl (by rw [e]))))))
theorem Check_c (W0 : World) (n : Int) (p : Option Addr) (c : Nat) (l : List Happ) (H : List Chunk) (hr : SlR (At W0 H) p l) (hl : l.length ≤ 30000) :
    Call Try.prog W0 32 [.int .i64 n, .slice p l.length c] H (fun v H' => v = .tuple #[.int .i64 (checkN n l).1, .int .i64 (checkN n l).2] ∧ H' = H) := by
  refine (Call.fresh (K := fun v _ => v = .tuple #[.int .i64 (checkN n l).1, .int .i64 (checkN n l).2]) fun W1 hW1 => Check_in W1 n p c l ?_ hl).mono (fun v H' ⟨⟨_, hv⟩, hH⟩ => ⟨hv, hH⟩)
  rcases hr with rfl | ⟨b, o, rfl, hrd⟩
  · exact .nil
  · refine .inr ⟨b, o, rfl, fun w hw i u hu => ?_⟩
    have h1 := hrd W1 hW1 i u hu
    have hb : b < W1.heap.size := by
      unfold World.cell? at h1
      cases hh : W1.heap[b]? with
      | none => rw [hh] at h1; cases h1
      | some oo => exact (Array.getElem?_eq_some_iff.1 hh).1
    unfold World.cell? at h1 ⊢
    rw [show w.heap[b]? = W1.heap[b]? from hw.1.block b hb]
    exact h1
end Go.Rost
