/- The model of a log: going through what happens. -/
import Derived.Test.YtgnjjbaeehbheaaCk
import Derived.Test.YtgnjjbaeehbheaaMk
namespace Go.Rost
open Go Go.RowKit Go.Proofs

def hapsV : Mod → List Happ → List Bool
  | _, [] => []
  | s, h :: l => decide ((s.happen h).1 = 0) :: hapsV (s.happen h).2 l
def stepI {ζ : Type} (step : ζ → Bool → ζ × Option Code) (q : Mod × ζ × Option Code × Nat) (h : Happ) : (Mod × ζ × Option Code × Nat) × Option Code :=
  (((q.1.happen h).2, (step q.2.1 (decide ((q.1.happen h).1 = 0))).1, (step q.2.1 (decide ((q.1.happen h).1 = 0))).2, q.2.2.2 + 1), if (step q.2.1 (decide ((q.1.happen h).1 = 0))).2.isNone = true then none else some .ret)
theorem runs_stepI {ζ : Type} (step : ζ → Bool → ζ × Option Code) : ∀ (l : List Happ) (s : Mod) (z : ζ) (k : Nat),
    ((runs (stepI step) (s, z, none, k) l).1.2.1, (runs (stepI step) (s, z, none, k) l).1.2.2.1) = runs step z (hapsV s l) ∧ (runs (stepI step) (s, z, none, k) l).2 = if (runs step z (hapsV s l)).2.isNone = true then none else some .ret
  | [], s, z, k => ⟨rfl, rfl⟩
  | h :: l, s, z, k => by
    rw [hapsV, runs, runs]
    cases hj : (step z (decide ((s.happen h).1 = 0))).2 with
    | none =>
      have e : stepI step (s, z, none, k) h = (((s.happen h).2, (step z (decide ((s.happen h).1 = 0))).1, none, k + 1), none) := by simp [stepI, hj]
      rw [e]
      exact runs_stepI step l _ _ _
    | some j =>
      have e : stepI step (s, z, none, k) h = (((s.happen h).2, (step z (decide ((s.happen h).1 = 0))).1, some j, k + 1), some .ret) := by simp [stepI, hj]
      rw [e]
      exact ⟨rfl, rfl⟩
def encB (m : Bool) : List Value := [.bool m]
theorem Happens1_c (W0 : World) {ζ : Type} (y : Value) (gc : ζ → Option Code → Chunk) (step : ζ → Bool → ζ × Option Code) (J : ζ → List Bool → Prop) (z0 : ζ) (bl bm b c n : Nat) (p : Option Addr) (l : List Happ) (s : Mod) (T : List Chunk)
    (hy : Yields Try.prog W0 y encB gc step J) (h0 : J z0 (hapsV s l)) (hr : SlR (At W0 []) p l) (hok : s.Ok n) (hn : n + l.length ≤ 40000) (hd : s.del.length ≤ 16) :
    Call Try.prog W0 65 [y, .pointer (some ⟨bl, 0, none⟩), .pointer (some ⟨bm, 0, none⟩)]
      (Star [Blk bl (.cells #[.slice p l.length c] 46 (0, 0)), Blk bm (.cells #[.pointer (some ⟨b, 0, none⟩)] 56 (0, 0)), ModC b s] :: gc z0 none :: T)
      (fun v H' => ∃ xs it', xs = hapsV s l ∧ H' = it' :: gc (runs step z0 xs).1 (runs step z0 xs).2 :: T) := by
  obtain ⟨yf, y1, y2, rfl⟩ := hy.fv
  refine Call.heap (H' := Blk bl (.cells #[.slice p l.length c] 46 (0, 0)) :: Blk bm (.cells #[.pointer (some ⟨b, 0, none⟩)] 56 (0, 0)) :: ModC b s :: gc z0 none :: T) (fun w h => At.star.1 h) ?_
  refine call_enterM Try.func65 rfl Try.ntmps65 rfl ?_
  ((repeat refine ct_seq ?_); refine ct_region ?_)
  refine rs_op rfl rfl (opR_box rfl ?_); intro by_
  refine rs_end (qe_then ?_)
  ((repeat refine ct_seq ?_); refine ct_region ?_; repeat (first | refine rs_ex rfl (by (first | (constructor <;> first | rfl | exact RdC.rd | exact inferInstance) | exact Ex.pickF rfl rfl | exact Ex.eqlS rfl rfl | exact Ex.neqS rfl rfl | exact Ex.eqlPN rfl rfl | exact Ex.neqPN rfl rfl | exact Ex.eqlSN rfl rfl | exact Ex.neqSN rfl rfl | exact Ex.lenStr rfl)) rfl ?_ | refine rs_skip rfl rfl ?_))
  refine rs_op rfl rfl (opR_fn rfl ((Values_c W0 _ p l.length c _ rfl).mono ?_))
  rintro v H' ⟨b5, rfl, rfl⟩
  refine rs_end (qe_then (ct_block ?_))
  refine ct_rangeFunc (f := 74) (first := []) (cap := [.pointer (some ⟨b5, 0, none⟩)]) encH (Blk b5 (.cells #[.slice p l.length c] 46 (0, 0))) (fun q => ModC b q.1 :: gc q.2.1 q.2.2.1 :: Blk by_ (.cells #[.func yf y1 y2] 112 (0, 0)) :: Blk bm (.cells #[.pointer (some ⟨b, 0, none⟩)] 56 (0, 0)) :: T) (stepI step)
    (fun q xs => q.2.2.1 = none ∧ J q.2.1 (hapsV q.1 xs) ∧ q.1.Ok q.2.2.2 ∧ q.2.2.2 + xs.length ≤ 40000 ∧ q.1.del.length ≤ 16) (fun xs => xs = l) (s, z0, none, n) rfl (fun _ => rfl) rfl (fun w h => ?_)
    (fun y' gc' T' hy' => Values1_c W0 y' gc' _ _ _ b5 c p l T' hy' ⟨rfl, h0, hok, hn, hd⟩ hr (by omega)) ?_ ?_ ?_
  · exact At.top [_, _, _, _, _, _] [0, 4, 5, 1, 3] h
  · rintro l' ⟨s', z, j, k⟩ x xs ⟨hj0, hJ, hok', hk, hd'⟩ T2
    simp only at hj0 hJ hok' hk hd'
    subst hj0
    simp only [List.length_cons] at hk
    refine ct_sub (τ := [(7, x.v), (3, .pointer (some ⟨by_, 0, none⟩)), (2, .pointer (some ⟨bm, 0, none⟩))]) ⟨rfl, rfl, rfl, trivial⟩ ?_
    refine ct_heap (H' := ModC b s' :: gc z none :: Blk by_ (.cells #[.func yf y1 y2] 112 (0, 0)) :: Blk bm (.cells #[.pointer (some ⟨b, 0, none⟩)] 56 (0, 0)) :: (T ++ T2)) (fun w h => h) ?_
    ((repeat refine ct_seq ?_); refine ct_region ?_)
    refine rs_op rfl rfl (opR_alloc fun b4 => ?_)
    refine rs_opN rfl (opR_store rfl rfl rfl rfl ?_)
    refine rs_end (qe_assign (ModC b s' :: gc z none :: Blk b4 (.cells #[.int .i64 x.kind, .int .i64 x.node, .int .i64 x.m.id.from_, .int .u32 x.m.id.count, .string x.m.data] 52 (0, 0)) :: Blk by_ (.cells #[.func yf y1 y2] 112 (0, 0)) :: Blk bm (.cells #[.pointer (some ⟨b, 0, none⟩)] 56 (0, 0)) :: T) (fun w h => At.top [_, _, _] [1, 2, 0] h) (fun T' => ?_))
    refine ct_heap (H' := ModC b s' :: gc z none :: Blk b4 (.cells #[.int .i64 x.kind, .int .i64 x.node, .int .i64 x.m.id.from_, .int .u32 x.m.id.count, .string x.m.data] 52 (0, 0)) :: Blk by_ (.cells #[.func yf y1 y2] 112 (0, 0)) :: Blk bm (.cells #[.pointer (some ⟨b, 0, none⟩)] 56 (0, 0)) :: (T ++ T')) (fun w h => h) ?_
    refine ct_block (ct_seq (ct_draw (by kernel_rfl) (At W0 (Blk b4 (.cells #[.int .i64 x.kind, .int .i64 x.node, .int .i64 x.m.id.from_, .int .u32 x.m.id.count, .string x.m.data] 52 (0, 0)) :: Blk by_ (.cells #[.func yf y1 y2] 112 (0, 0)) :: Blk bm (.cells #[.pointer (some ⟨b, 0, none⟩)] 56 (0, 0)) :: (T ++ T'))) ?_))
    refine ra_take 0 rfl (by kernel_rfl) (by kernel_rfl) rfl (by (first | (constructor <;> first | rfl | exact RdC.rd | exact inferInstance) | exact Ex.pickF rfl rfl | exact Ex.eqlS rfl rfl | exact Ex.neqS rfl rfl | exact Ex.eqlPN rfl rfl | exact Ex.neqPN rfl rfl | exact Ex.eqlSN rfl rfl | exact Ex.neqSN rfl rfl | exact Ex.lenStr rfl)) rfl (by first | exact fun _ h => h | exact fun _ h => h.drop | exact fun _ h => h.drop.drop | exact fun _ h => h.drop.drop.drop | exact fun _ h => h.drop.drop.drop.drop | exact fun _ h => h.drop.drop.drop.drop.drop | exact fun _ h => h.drop.drop.drop.drop.drop.drop | exact fun _ h => h.drop.drop.drop.drop.drop.drop.drop | exact fun _ h => h.drop.drop.drop.drop.drop.drop.drop.drop) ?_
    refine ra_take 1 rfl (by kernel_rfl) (by kernel_rfl) rfl (by (first | (constructor <;> first | rfl | exact RdC.rd | exact inferInstance) | exact Ex.pickF rfl rfl | exact Ex.eqlS rfl rfl | exact Ex.neqS rfl rfl | exact Ex.eqlPN rfl rfl | exact Ex.neqPN rfl rfl | exact Ex.eqlSN rfl rfl | exact Ex.neqSN rfl rfl | exact Ex.lenStr rfl)) rfl (by first | exact fun _ h => h | exact fun _ h => h.drop | exact fun _ h => h.drop.drop | exact fun _ h => h.drop.drop.drop | exact fun _ h => h.drop.drop.drop.drop | exact fun _ h => h.drop.drop.drop.drop.drop | exact fun _ h => h.drop.drop.drop.drop.drop.drop | exact fun _ h => h.drop.drop.drop.drop.drop.drop.drop | exact fun _ h => h.drop.drop.drop.drop.drop.drop.drop.drop) ?_
    refine ra_take 2 rfl (by kernel_rfl) (by kernel_rfl) rfl (by (first | (constructor <;> first | rfl | exact RdC.rd | exact inferInstance) | exact Ex.pickF rfl rfl | exact Ex.eqlS rfl rfl | exact Ex.neqS rfl rfl | exact Ex.eqlPN rfl rfl | exact Ex.neqPN rfl rfl | exact Ex.eqlSN rfl rfl | exact Ex.neqSN rfl rfl | exact Ex.lenStr rfl)) rfl (by first | exact fun _ h => h | exact fun _ h => h.drop | exact fun _ h => h.drop.drop | exact fun _ h => h.drop.drop.drop | exact fun _ h => h.drop.drop.drop.drop | exact fun _ h => h.drop.drop.drop.drop.drop | exact fun _ h => h.drop.drop.drop.drop.drop.drop | exact fun _ h => h.drop.drop.drop.drop.drop.drop.drop | exact fun _ h => h.drop.drop.drop.drop.drop.drop.drop.drop) ?_
    refine ra_all (rs := [3]) (by kernel_rfl) rfl ?_
    refine each_op rfl rfl rfl (opR_fn rfl ((Happen_c W0 b k s' x _ hok' (by omega) hd').mono ?_)) each_nil
    rintro v H' ⟨rfl, rfl⟩
    refine ⟨.inr (fun w h => h.drop.drop), ?_⟩
    refine ra_take 4 rfl (by kernel_rfl) (by kernel_rfl) rfl (by (first | (constructor <;> first | rfl | exact RdC.rd | exact inferInstance) | exact Ex.pickF rfl rfl | exact Ex.eqlS rfl rfl | exact Ex.neqS rfl rfl | exact Ex.eqlPN rfl rfl | exact Ex.neqPN rfl rfl | exact Ex.eqlSN rfl rfl | exact Ex.neqSN rfl rfl | exact Ex.lenStr rfl)) rfl (by first | exact fun _ h => h | exact fun _ h => h.drop | exact fun _ h => h.drop.drop | exact fun _ h => h.drop.drop.drop | exact fun _ h => h.drop.drop.drop.drop | exact fun _ h => h.drop.drop.drop.drop.drop | exact fun _ h => h.drop.drop.drop.drop.drop.drop | exact fun _ h => h.drop.drop.drop.drop.drop.drop.drop | exact fun _ h => h.drop.drop.drop.drop.drop.drop.drop.drop) ?_
    refine ra_all (rs := [5]) (by kernel_rfl) rfl ?_
    have hcall := hy.call z (decide ((s'.happen x).1 = 0)) (hapsV (s'.happen x).2 xs) (ModC b (s'.happen x).2 :: Blk b4 (.cells #[.int .i64 x.kind, .int .i64 x.node, .int .i64 x.m.id.from_, .int .u32 x.m.id.count, .string x.m.data] 52 (0, 0)) :: Blk by_ (.cells #[.func yf y1 y2] 112 (0, 0)) :: Blk bm (.cells #[.pointer (some ⟨b, 0, none⟩)] 56 (0, 0)) :: (T ++ T')) hJ
    refine each_op rfl rfl rfl (opR_callV rfl rfl (CallV.heap (fun w h => h.sw1) (hcall.mono ?_))) each_nil
    rintro v H' ⟨rfl, rfl⟩
    refine ⟨.inr (fun w h => h.drop.drop), ?_⟩
    cases hj : (step z (decide ((s'.happen x).1 = 0))).2 with
    | none =>
      have e : stepI step (s', z, none, k) x = (((s'.happen x).2, (step z (decide ((s'.happen x).1 = 0))).1, none, k + 1), none) := by simp [stepI, hj]
      rw [e]
      refine ra_take 6 rfl (by kernel_rfl) (by kernel_rfl) rfl (by (first | (constructor <;> first | rfl | exact RdC.rd | exact inferInstance) | exact Ex.pickF rfl rfl | exact Ex.eqlS rfl rfl | exact Ex.neqS rfl rfl | exact Ex.eqlPN rfl rfl | exact Ex.neqPN rfl rfl | exact Ex.eqlSN rfl rfl | exact Ex.neqSN rfl rfl | exact Ex.lenStr rfl)) rfl (by first | exact fun _ h => h | exact fun _ h => h.drop | exact fun _ h => h.drop.drop | exact fun _ h => h.drop.drop.drop | exact fun _ h => h.drop.drop.drop.drop | exact fun _ h => h.drop.drop.drop.drop.drop | exact fun _ h => h.drop.drop.drop.drop.drop.drop | exact fun _ h => h.drop.drop.drop.drop.drop.drop.drop | exact fun _ h => h.drop.drop.drop.drop.drop.drop.drop.drop) ?_
      refine ra_end (by kernel_rfl) (qe_then ?_)
      refine ct_cond rfl (fun h => by cases h) (fun _ => ?_)
      refine ct_skip (qe_block 1 (qe_round (ModC b (s'.happen x).2 :: gc (step z (decide ((s'.happen x).1 = 0))).1 none :: Blk by_ (.cells #[.func yf y1 y2] 112 (0, 0)) :: Blk bm (.cells #[.pointer (some ⟨b, 0, none⟩)] 56 (0, 0)) :: T) (fun w h => ?_) ⟨rfl, rfl⟩))
      exact At.top [_, _, _, _, _] [1, 0, 3, 4] h
    | some jj =>
      have e : stepI step (s', z, none, k) x = (((s'.happen x).2, (step z (decide ((s'.happen x).1 = 0))).1, some jj, k + 1), some .ret) := by simp [stepI, hj]
      rw [e]
      refine ra_take 6 rfl (by kernel_rfl) (by kernel_rfl) rfl (by (first | (constructor <;> first | rfl | exact RdC.rd | exact inferInstance) | exact Ex.pickF rfl rfl | exact Ex.eqlS rfl rfl | exact Ex.neqS rfl rfl | exact Ex.eqlPN rfl rfl | exact Ex.neqPN rfl rfl | exact Ex.eqlSN rfl rfl | exact Ex.neqSN rfl rfl | exact Ex.lenStr rfl)) rfl (by first | exact fun _ h => h | exact fun _ h => h.drop | exact fun _ h => h.drop.drop | exact fun _ h => h.drop.drop.drop | exact fun _ h => h.drop.drop.drop.drop | exact fun _ h => h.drop.drop.drop.drop.drop | exact fun _ h => h.drop.drop.drop.drop.drop.drop | exact fun _ h => h.drop.drop.drop.drop.drop.drop.drop | exact fun _ h => h.drop.drop.drop.drop.drop.drop.drop.drop) ?_
      refine ra_end (by kernel_rfl) (qe_then ?_)
      refine ct_cond rfl (fun _ => ?_) (fun h => by cases h)
      refine ct_ret (qe_block_ret 1 (qe_round_ret (ModC b (s'.happen x).2 :: gc (step z (decide ((s'.happen x).1 = 0))).1 (some jj) :: Blk by_ (.cells #[.func yf y1 y2] 112 (0, 0)) :: Blk bm (.cells #[.pointer (some ⟨b, 0, none⟩)] 56 (0, 0)) :: T) (fun w h => ?_) ⟨rfl, rfl⟩))
      exact At.top [_, _, _, _, _] [1, 0, 3, 4] h
  · rintro ⟨s', z, j, k⟩ x xs ⟨hj0, hJ, hok', hk, hd'⟩ hs
    simp only at hj0 hJ hok' hk hd'
    simp only [List.length_cons] at hk
    have hj : (step z (decide ((s'.happen x).1 = 0))).2 = none := by
      cases hj : (step z (decide ((s'.happen x).1 = 0))).2 with
      | none => rfl
      | some jj => simp [stepI, hj] at hs
    exact ⟨hj, hy.keeps z _ _ hJ hj, hok'.happen (by omega) x, by show k + 1 + xs.length ≤ 40000; omega, by show (s'.happen x).2.del.length ≤ 16; rw [happen_del]; exact hd'⟩
  · rintro xs db rfl
    have hrs := runs_stepI step xs s z0 n
    generalize runs (stepI step) (s, z0, none, n) xs = R at hrs ⊢
    obtain ⟨⟨s2, z2, j2, k2⟩, jj⟩ := R
    simp only at hrs
    obtain ⟨hr1, hr2⟩ := hrs
    subst hr2
    have fin : ∀ w, At W0 (Blk db (.deferred (some [])) :: ModC b s2 :: gc z2 j2 :: Blk by_ (.cells #[.func yf y1 y2] 112 (0, 0)) :: Blk bm (.cells #[.pointer (some ⟨b, 0, none⟩)] 56 (0, 0)) :: T) w → At W0 (Blk db (.deferred (some [])) :: ModC b s2 :: gc z2 j2 :: T) w := fun w h => At.top [_, _, _, _, _] [0, 1, 2] h
    have hk : ∃ ys it', ys = hapsV s xs ∧ (ModC b s2 :: gc z2 j2 :: T) = it' :: gc (runs step z0 ys).1 (runs step z0 ys).2 :: T := ⟨hapsV s xs, ModC b s2, rfl, by rw [← hr1]⟩
    cases hq : (runs step z0 (hapsV s xs)).2.isNone with
    | true => exact qe_block 0 (qe_heap fin (retM_mark (retM (ret0 rfl hk))))
    | false => exact ct_ret (qe_block_ret 0 (qe_heap fin (retM_mark (retM (ret0 rfl hk)))))
end Go.Rost
