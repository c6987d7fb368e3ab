/- The batch of bytes, read whole: as the package ids does, as the reference does. -/
import Derived.Test.YtgnjjbaeehbheaaPk
import Derived.Test.YtgnjjbaeehbheaaL10
namespace Go.Rost
open Go Go.RowKit Go.Proofs

def takeN : Nat → ByteArray → List Msg → Option (List Msg × ByteArray)
  | 0, s, out => some (out, s)
  | n + 1, s, out => match part1 s with
    | none => none
    | some x => takeN n x.2 (out ++ [x.1])
def firstOf (s : ByteArray) : Nat := ((s[0]?).getD 0).toNat
def unpackV (s : ByteArray) : List Msg × Int :=
  if s.size = 0 ∨ 64 < firstOf s then ([], 101) else
  match takeN (firstOf s) (s.extract 1 s.size) [] with
  | none => ([], 101)
  | some (l, r) => if r.size = 0 then (l, 0) else ([], 101)
def upStep (n : Nat) (z : List Msg × ByteArray) (x : Msg × ByteArray) : (List Msg × ByteArray) × Option Code :=
  if z.1.length = n then (z, some (.exit 0)) else ((z.1 ++ [x.1], x.2), none)
theorem runs_jump (n : Nat) : ∀ (xs : List (Msg × ByteArray)) (z : List Msg × ByteArray), (runs (upStep n) z xs).2 = none ∨ (runs (upStep n) z xs).2 = some (.exit 0)
  | [], _ => .inl rfl
  | x :: xs, z => by
    rw [runs]
    unfold upStep
    split
    · rename_i e
      split at e
      · cases e
      · exact runs_jump n xs _
    · rename_i j e
      split at e
      · cases e; exact .inr rfl
      · cases e
theorem runs_take (n : Nat) : ∀ (k : Nat) (s : ByteArray) (out : List Msg), out.length + k = n →
    (takeN k s out = none → (runs (upStep n) (out, s) (items s)).1.1.length < n) ∧ (∀ l r, takeN k s out = some (l, r) → (runs (upStep n) (out, s) (items s)).1 = (l, r) ∧ l.length = n)
  | 0, s, out, h => by
    refine ⟨fun e => (by cases e), fun l r e => ?_⟩
    cases e
    refine ⟨?_, by omega⟩
    cases hp : part1 s with
    | none => rw [items_none hp]; rfl
    | some x =>
      rw [items_some hp, runs]
      unfold upStep
      rw [if_pos (by simpa using h)]
  | k + 1, s, out, h => by
    cases hp : part1 s with
    | none =>
      rw [items_none hp, takeN, hp]
      refine ⟨fun _ => by show out.length < n; omega, fun l r e => (by cases e)⟩
    | some x =>
      have ih := runs_take n k x.2 (out ++ [x.1]) (by simp; omega)
      have e1 : takeN (k + 1) s out = takeN k x.2 (out ++ [x.1]) := by rw [takeN, hp]
      have e2 : upStep n (out, s) x = ((out ++ [x.1], x.2), none) := by unfold upStep; rw [if_neg (by simp; omega)]
      have e3 : runs (upStep n) (out, s) (items s) = runs (upStep n) (out ++ [x.1], x.2) (items x.2) := by rw [items_some hp, runs, e2]
      rw [e1, e3]
      exact ih
def UpG (bo br bs : Nat) (s : ByteArray) (z : List Msg × ByteArray) : List Chunk :=
  [Exs fun v => Star [Blk bo (.cells #[v] 22 (0, 0)), SlT 34 v z.1], Blk br (.cells #[.string z.2] 9 (0, 0)), Blk bs (.cells #[.string s] 9 (0, 0))]
theorem ex_gtrU8 {P : Program} {S : World → Prop} {σ : Env} {T T' : TypeId} {x y : Operand} {k : IntKind} {m n : Int} (hx : σ.val x = some (.int k m)) (hy : σ.val y = some (.int k n)) : Ex P S σ (.binOp .gtr T x y T') (.bool (decide (n < m))) := Ex.gtr hx hy
theorem size_pos {s : ByteArray} (h : s.size ≠ 0) : s[0]? = some ((s[0]?).getD 0) := by
  have : s[0]? = some (s[0]'(by omega)) := by simp [getElem?_pos, show 0 < s.size by omega]
  rw [this]; rfl
theorem dec_empty {s : ByteArray} : decide (s = (⟨#[]⟩ : ByteArray)) = decide (s.size = 0) := by
  by_cases h : s.size = 0
  · rw [empty_of_size h]; rfl
  · have : s ≠ ⟨#[]⟩ := fun e => h (by rw [e]; rfl)
    simp [h, this]
theorem Unpack_c (W0 : World) (s : ByteArray) (H : List Chunk) (hs : s.size ≤ 100000) :
    Call Try.prog W0 23 [.string s] H (fun v H' => ∃ u, v = .tuple #[u, .int .i64 (unpackV s).2] ∧ H' = SlT 34 u (unpackV s).1 :: H) := by
  refine call_enterM Try.func23 rfl Try.ntmps23 rfl ?_
  ((repeat refine ct_seq ?_); refine ct_region ?_)
  refine rs_op rfl rfl (opR_box rfl ?_); intro bs
  repeat (first | refine rs_ex rfl (by (first | (constructor <;> first | rfl | exact RdC.rd | exact inferInstance) | exact Ex.pickF rfl rfl | exact Ex.eqlS rfl rfl | exact Ex.neqS rfl rfl | exact Ex.eqlPN rfl rfl | exact Ex.neqPN rfl rfl | exact Ex.eqlSN rfl rfl | exact Ex.neqSN rfl rfl | exact Ex.lenStr rfl)) rfl ?_ | refine rs_skip rfl rfl ?_)
  refine rs_end (qe_then ?_)
  ((repeat refine ct_seq ?_); refine ct_region ?_)
  (first | refine rs_ex rfl (by (first | (constructor <;> first | rfl | exact RdC.rd | exact inferInstance) | exact Ex.pickF rfl rfl | exact Ex.eqlS rfl rfl | exact Ex.neqS rfl rfl | exact Ex.eqlPN rfl rfl | exact Ex.neqPN rfl rfl | exact Ex.eqlSN rfl rfl | exact Ex.neqSN rfl rfl | exact Ex.lenStr rfl)) rfl ?_ | refine rs_skip rfl rfl ?_)
  (first | refine rs_ex rfl (by (first | (constructor <;> first | rfl | exact RdC.rd | exact inferInstance) | exact Ex.pickF rfl rfl | exact Ex.eqlS rfl rfl | exact Ex.neqS rfl rfl | exact Ex.eqlPN rfl rfl | exact Ex.neqPN rfl rfl | exact Ex.eqlSN rfl rfl | exact Ex.neqSN rfl rfl | exact Ex.lenStr rfl)) rfl ?_ | refine rs_skip rfl rfl ?_)
  refine rs_rw (by rw [dec_empty]) ?_
  (first | refine rs_ex rfl (by (first | (constructor <;> first | rfl | exact RdC.rd | exact inferInstance) | exact Ex.pickF rfl rfl | exact Ex.eqlS rfl rfl | exact Ex.neqS rfl rfl | exact Ex.eqlPN rfl rfl | exact Ex.neqPN rfl rfl | exact Ex.eqlSN rfl rfl | exact Ex.neqSN rfl rfl | exact Ex.lenStr rfl)) rfl ?_ | refine rs_skip rfl rfl ?_)
  refine rs_split (fun h1 => ?_) (fun h1 => ?_)
  · repeat (first | refine rs_ex rfl (by (first | (constructor <;> first | rfl | exact RdC.rd | exact inferInstance) | exact Ex.pickF rfl rfl | exact Ex.eqlS rfl rfl | exact Ex.neqS rfl rfl | exact Ex.eqlPN rfl rfl | exact Ex.neqPN rfl rfl | exact Ex.eqlSN rfl rfl | exact Ex.neqSN rfl rfl | exact Ex.lenStr rfl)) rfl ?_ | refine rs_skip rfl rfl ?_)
    refine rs_end (qe_then ?_)
    refine ct_cond rfl (fun _ => ?_) (fun h => by cases h)
    ((repeat refine ct_seq ?_); refine ct_region ?_; repeat (first | refine rs_ex rfl (by (first | (constructor <;> first | rfl | exact RdC.rd | exact inferInstance) | exact Ex.pickF rfl rfl | exact Ex.eqlS rfl rfl | exact Ex.neqS rfl rfl | exact Ex.eqlPN rfl rfl | exact Ex.neqPN rfl rfl | exact Ex.eqlSN rfl rfl | exact Ex.neqSN rfl rfl | exact Ex.lenStr rfl)) rfl ?_ | refine rs_skip rfl rfl ?_))
    have e : unpackV s = ([], 101) := by rw [unpackV, if_pos (.inl (by simpa using h1))]
    refine rs_end (qe_then (ct_ret (retM (qe_heap (fun w h => At.slt_nil (α := Msg) 34 h.drop) (ret2 rfl rfl rfl ⟨_, by rw [e], by rw [e]⟩)))))
  have h0 : s.size ≠ 0 := by simpa using h1
  (first | refine rs_ex rfl (by (first | (constructor <;> first | rfl | exact RdC.rd | exact inferInstance) | exact Ex.pickF rfl rfl | exact Ex.eqlS rfl rfl | exact Ex.neqS rfl rfl | exact Ex.eqlPN rfl rfl | exact Ex.neqPN rfl rfl | exact Ex.eqlSN rfl rfl | exact Ex.neqSN rfl rfl | exact Ex.lenStr rfl)) rfl ?_ | refine rs_skip rfl rfl ?_)
  refine rs_ex rfl (ex_indexStr (i := 0) rfl rfl (size_pos h0)) rfl ?_
  repeat (first | refine rs_ex rfl (by (first | (constructor <;> first | rfl | exact RdC.rd | exact inferInstance) | exact Ex.pickF rfl rfl | exact Ex.eqlS rfl rfl | exact Ex.neqS rfl rfl | exact Ex.eqlPN rfl rfl | exact Ex.neqPN rfl rfl | exact Ex.eqlSN rfl rfl | exact Ex.neqSN rfl rfl | exact Ex.lenStr rfl)) rfl ?_ | refine rs_skip rfl rfl ?_)
  refine rs_end (qe_then ?_)
  refine ct_cond rfl (fun h2 => ?_) (fun h2 => ?_)
  · ((repeat refine ct_seq ?_); refine ct_region ?_; repeat (first | refine rs_ex rfl (by (first | (constructor <;> first | rfl | exact RdC.rd | exact inferInstance) | exact Ex.pickF rfl rfl | exact Ex.eqlS rfl rfl | exact Ex.neqS rfl rfl | exact Ex.eqlPN rfl rfl | exact Ex.neqPN rfl rfl | exact Ex.eqlSN rfl rfl | exact Ex.neqSN rfl rfl | exact Ex.lenStr rfl)) rfl ?_ | refine rs_skip rfl rfl ?_))
    have e : unpackV s = ([], 101) := by rw [unpackV, if_pos (.inr (by unfold firstOf; simp at h2; omega))]
    refine rs_end (qe_then (ct_ret (retM (qe_heap (fun w h => At.slt_nil (α := Msg) 34 h.drop) (ret2 rfl rfl rfl ⟨_, by rw [e], by rw [e]⟩)))))
  have hn : ¬ (s.size = 0 ∨ 64 < firstOf s) := by unfold firstOf; simp at h2; omega
  have hu : unpackV s = match takeN (firstOf s) (s.extract 1 s.size) [] with
      | none => ([], 101)
      | some (l, r) => if r.size = 0 then (l, 0) else ([], 101) := by rw [unpackV, if_neg hn]
  obtain ⟨n, hfn⟩ : ∃ n, n = firstOf s := ⟨_, rfl⟩
  have hb0 : s[0]? = some ((s[0]?).getD 0) := size_pos h0
  have hn64 : n ≤ 64 := by omega
  have hbyte : ((s[0]?).getD 0).toNat = n := hfn.symm
  rw [← hfn] at hu
  refine ct_skip (qe_then ?_)
  ((repeat refine ct_seq ?_); refine ct_region ?_)
  refine rs_op rfl rfl (opR_alloc fun bo => ?_)
  refine rs_end (qe_then ?_)
  ((repeat refine ct_seq ?_); refine ct_region ?_; repeat (first | refine rs_ex rfl (by (first | (constructor <;> first | rfl | exact RdC.rd | exact inferInstance) | exact Ex.pickF rfl rfl | exact Ex.eqlS rfl rfl | exact Ex.neqS rfl rfl | exact Ex.eqlPN rfl rfl | exact Ex.neqPN rfl rfl | exact Ex.eqlSN rfl rfl | exact Ex.neqSN rfl rfl | exact Ex.lenStr rfl)) rfl ?_ | refine rs_skip rfl rfl ?_))
  refine rs_ex rfl (ex_sliceStr (i := 1) (j := s.size) rfl (.inr ⟨_, _, rfl, rfl⟩) (.inl ⟨rfl, rfl⟩) (by omega) (by omega)) rfl ?_
  refine rs_op rfl rfl (opR_alloc fun br => ?_)
  refine rs_opN rfl (opR_store rfl rfl rfl rfl ?_)
  refine rs_end (qe_then ?_)
  ((repeat refine ct_seq ?_); refine ct_region ?_; repeat (first | refine rs_ex rfl (by (first | (constructor <;> first | rfl | exact RdC.rd | exact inferInstance) | exact Ex.pickF rfl rfl | exact Ex.eqlS rfl rfl | exact Ex.neqS rfl rfl | exact Ex.eqlPN rfl rfl | exact Ex.neqPN rfl rfl | exact Ex.eqlSN rfl rfl | exact Ex.neqSN rfl rfl | exact Ex.lenStr rfl)) rfl ?_ | refine rs_skip rfl rfl ?_))
  refine rs_op rfl rfl (opR_fn rfl ((Parted_c W0 (s.extract 1 s.size) _).mono ?_))
  rintro v H' ⟨b1, rfl, rfl⟩
  refine rs_end (qe_then ?_)
  (repeat refine ct_seq ?_)
  refine ct_block ?_
  obtain ⟨s1, hs1⟩ : ∃ s1, s1 = s.extract 1 s.size := ⟨_, rfl⟩
  have hs1z : s1.size ≤ 100000 := by rw [hs1]; simp; omega
  rw [← hs1] at hu
  refine ct_rangeFunc (f := 61) (first := []) (cap := [.pointer (some ⟨b1, 0, none⟩)]) encMS (Blk b1 (.cells #[.string s1] 9 (0, 0))) (fun z => UpG bo br bs s z ++ H) (upStep n) (fun z => z.1.length ≤ n) (fun _ => True) (fun xs => xs = items s1) ([], s1)
    rfl (fun _ _ => rfl) rfl (Nat.zero_le _) (fun w h => ?_) (fun y gc T hy => Parted1_c W0 y gc _ _ _ b1 s1 T hy (Nat.zero_le _) hs1z) ?_ (fun z x hz _ hj => ?_) ?_
  · rw [← hs1] at h
    have h1 := (At.slt_nil (α := Msg) 34 h)
    have h2 : At W0 (Star [Blk bo (.cells #[.slice none 0 0] 22 (0, 0)), SlT (α := Msg) 34 (.slice none 0 0) []] :: Blk b1 (.cells #[.string s1] 9 (0, 0)) :: Blk br (.cells #[.string s1] 9 (0, 0)) :: Blk bs (.cells #[.string s] 9 (0, 0)) :: H) w :=
      At.star.2 (At.top [_, _, _, _, _] [3, 0, 1, 2, 4] h1)
    exact At.sw1 (At.ex.2 ⟨_, h2⟩)
  · intro l z x hz _ T
    obtain ⟨m, r⟩ := x
    obtain ⟨out, rest⟩ := z
    refine ct_ex (H' := fun v => Star [Blk bo (.cells #[v] 22 (0, 0)), SlT 34 v out] :: Blk br (.cells #[.string rest] 9 (0, 0)) :: Blk bs (.cells #[.string s] 9 (0, 0)) :: (H ++ T)) (fun w h => At.ex.1 h) ?_
    intro v
    refine ct_sub (τ := [(1, .pointer (some ⟨bs, 0, none⟩)), (4, .pointer (some ⟨bo, 0, none⟩)), (5, .pointer (some ⟨br, 0, none⟩)), (19, m.v), (20, .string r)]) ⟨rfl, rfl, rfl, rfl, rfl, trivial⟩ ?_
    ((repeat refine ct_seq ?_); refine ct_region ?_)
    refine rs_op rfl rfl (opR_alloc fun b6 => ?_)
    refine rs_opN rfl (opR_store rfl rfl rfl rfl ?_)
    refine rs_end (qe_then ?_)
    ((repeat refine ct_seq ?_); refine ct_region ?_; repeat (first | refine rs_ex rfl (by (first | (constructor <;> first | rfl | exact RdC.rd | exact inferInstance) | exact Ex.pickF rfl rfl | exact Ex.eqlS rfl rfl | exact Ex.neqS rfl rfl | exact Ex.eqlPN rfl rfl | exact Ex.neqPN rfl rfl | exact Ex.eqlSN rfl rfl | exact Ex.neqSN rfl rfl | exact Ex.lenStr rfl)) rfl ?_ | refine rs_skip rfl rfl ?_))
    refine rs_end (qe_assign (Blk b6 (.cells m.cells.toArray 34 (0, 0)) :: Blk bo (.cells #[v] 22 (0, 0)) :: SlT 34 v out :: Blk br (.cells #[.string rest] 9 (0, 0)) :: Blk bs (.cells #[.string s] 9 (0, 0)) :: H) (fun w h => ?_) (fun T' => ?_))
    · exact At.sw2 (At.star.1 (At.sw1 h))
    refine ct_heap (H' := Blk b6 (.cells #[.int .i64 m.id.from_, .int .u32 m.id.count, .string m.data] 34 (0, 0)) :: Blk bo (.cells #[v] 22 (0, 0)) :: SlT 34 v out :: Blk br (.cells #[.string rest] 9 (0, 0)) :: Blk bs (.cells #[.string s] 9 (0, 0)) :: (H ++ T')) (fun w h => h) ?_
    refine ct_block (ct_pr (fun w h => h.drop.drop.slv) ?_)
    rintro ⟨p, cap, e, hv⟩
    cases e
    have hz' : out.length ≤ n := hz
    ((repeat refine ct_seq ?_); refine ct_draw0 (by kernel_rfl) ?_)
    refine ra_take 0 rfl (by kernel_rfl) (by kernel_rfl) rfl (by (first | (constructor <;> first | rfl | exact RdC.rd | exact inferInstance) | exact Ex.pickF rfl rfl | exact Ex.eqlS rfl rfl | exact Ex.neqS rfl rfl | exact Ex.eqlPN rfl rfl | exact Ex.neqPN rfl rfl | exact Ex.eqlSN rfl rfl | exact Ex.neqSN rfl rfl | exact Ex.lenStr rfl)) rfl (by first | exact fun _ h => h | exact fun _ h => h.drop | exact fun _ h => h.drop.drop | exact fun _ h => h.drop.drop.drop | exact fun _ h => h.drop.drop.drop.drop) ?_
    refine ra_take 1 rfl (by kernel_rfl) (by kernel_rfl) rfl (by (first | (constructor <;> first | rfl | exact RdC.rd | exact inferInstance) | exact Ex.pickF rfl rfl | exact Ex.eqlS rfl rfl | exact Ex.neqS rfl rfl | exact Ex.eqlPN rfl rfl | exact Ex.neqPN rfl rfl | exact Ex.eqlSN rfl rfl | exact Ex.neqSN rfl rfl | exact Ex.lenStr rfl)) rfl (by first | exact fun _ h => h | exact fun _ h => h.drop | exact fun _ h => h.drop.drop | exact fun _ h => h.drop.drop.drop | exact fun _ h => h.drop.drop.drop.drop) ?_
    refine ra_take 2 rfl (by kernel_rfl) (by kernel_rfl) rfl (by (first | (constructor <;> first | rfl | exact RdC.rd | exact inferInstance) | exact Ex.pickF rfl rfl | exact Ex.eqlS rfl rfl | exact Ex.neqS rfl rfl | exact Ex.eqlPN rfl rfl | exact Ex.neqPN rfl rfl | exact Ex.eqlSN rfl rfl | exact Ex.neqSN rfl rfl | exact Ex.lenStr rfl)) rfl (by first | exact fun _ h => h | exact fun _ h => h.drop | exact fun _ h => h.drop.drop | exact fun _ h => h.drop.drop.drop | exact fun _ h => h.drop.drop.drop.drop) ?_
    refine ra_take 3 rfl (by kernel_rfl) (by kernel_rfl) rfl (ex_indexStr (i := 0) rfl rfl hb0) rfl (by first | exact fun _ h => h | exact fun _ h => h.drop | exact fun _ h => h.drop.drop | exact fun _ h => h.drop.drop.drop | exact fun _ h => h.drop.drop.drop.drop) ?_
    refine ra_take 4 rfl (by kernel_rfl) (by kernel_rfl) rfl (by (first | (constructor <;> first | rfl | exact RdC.rd | exact inferInstance) | exact Ex.pickF rfl rfl | exact Ex.eqlS rfl rfl | exact Ex.neqS rfl rfl | exact Ex.eqlPN rfl rfl | exact Ex.neqPN rfl rfl | exact Ex.eqlSN rfl rfl | exact Ex.neqSN rfl rfl | exact Ex.lenStr rfl)) rfl (by first | exact fun _ h => h | exact fun _ h => h.drop | exact fun _ h => h.drop.drop | exact fun _ h => h.drop.drop.drop | exact fun _ h => h.drop.drop.drop.drop) ?_
    refine ra_rw (by rw [i64_byte, hbyte]) ?_
    refine ra_take 5 rfl (by kernel_rfl) (by kernel_rfl) rfl (by (first | (constructor <;> first | rfl | exact RdC.rd | exact inferInstance) | exact Ex.pickF rfl rfl | exact Ex.eqlS rfl rfl | exact Ex.neqS rfl rfl | exact Ex.eqlPN rfl rfl | exact Ex.neqPN rfl rfl | exact Ex.eqlSN rfl rfl | exact Ex.neqSN rfl rfl | exact Ex.lenStr rfl)) rfl (by first | exact fun _ h => h | exact fun _ h => h.drop | exact fun _ h => h.drop.drop | exact fun _ h => h.drop.drop.drop | exact fun _ h => h.drop.drop.drop.drop) ?_
    refine ra_end (by kernel_rfl) (qe_then ?_)
    refine ct_cond rfl (fun he => ?_) (fun he => ?_)
    · have he' : out.length = n := by simp at he; omega
      have hst : upStep n (out, rest) (m, r) = ((out, rest), some (.exit 0)) := by unfold upStep; rw [if_pos (by exact he')]
      rw [hst]
      refine ct_exit (qe_then_exit (qe_block_exit_ne rfl (qe_round_exit (UpG bo br bs s (out, rest) ++ H) (fun w h => ?_) ⟨rfl, rfl⟩)))
      exact At.ex.2 ⟨_, At.star.2 h.drop⟩
    · have he' : out.length ≠ n := by intro e; rw [e] at he; simp at he
      have hst : upStep n (out, rest) (m, r) = ((out ++ [m], r), none) := by unfold upStep; rw [if_neg (by exact he')]
      rw [hst]
      refine ct_skip (qe_then ?_)
      ((repeat refine ct_seq ?_); refine ct_region ?_; repeat (first | refine rs_ex rfl (by (first | (constructor <;> first | rfl | exact RdC.rd | exact inferInstance) | exact Ex.pickF rfl rfl | exact Ex.eqlS rfl rfl | exact Ex.neqS rfl rfl | exact Ex.eqlPN rfl rfl | exact Ex.neqPN rfl rfl | exact Ex.eqlSN rfl rfl | exact Ex.neqSN rfl rfl | exact Ex.lenStr rfl)) rfl ?_ | refine rs_skip rfl rfl ?_))
      refine rs_op rfl rfl (opR_buildSlice rfl rfl rfl rfl fun wb => ?_)
      refine rs_op rfl rfl (opR_append [m] rfl rfl (SlR.blk RdC.rd [m] rfl) rfl ?_ rfl fun p3 cap3 hv3 => ?_)
      · simp; omega
      refine rs_opN rfl (opR_store rfl rfl rfl rfl ?_)
      refine rs_end (qe_then ?_)
      ((repeat refine ct_seq ?_); refine ct_region ?_; repeat (first | refine rs_ex rfl (by (first | (constructor <;> first | rfl | exact RdC.rd | exact inferInstance) | exact Ex.pickF rfl rfl | exact Ex.eqlS rfl rfl | exact Ex.neqS rfl rfl | exact Ex.eqlPN rfl rfl | exact Ex.neqPN rfl rfl | exact Ex.eqlSN rfl rfl | exact Ex.neqSN rfl rfl | exact Ex.lenStr rfl)) rfl ?_ | refine rs_skip rfl rfl ?_))
      refine rs_opN rfl (opR_store rfl rfl rfl rfl ?_)
      refine rs_end (qe_block 1 (qe_round (UpG bo br bs s (out ++ [m], r) ++ H) (fun w h => ?_) ⟨rfl, rfl⟩))
      exact At.ex.2 ⟨_, At.star.2 h.drop.drop⟩
  · unfold upStep at hj ⊢
    split
    · rename_i e; rw [if_pos e] at hj; cases hj
    · simp; omega
  · rintro xs db rfl
    have hrt := runs_take n n s1 [] (by simp)
    have hres : (takeN n s1 [] = none ∧ (runs (upStep n) ([], s1) (items s1)).1.1.length < n) ∨ (takeN n s1 [] = some (runs (upStep n) ([], s1) (items s1)).1 ∧ (runs (upStep n) ([], s1) (items s1)).1.1.length = n) := by
      cases ht : takeN n s1 [] with
      | none => exact .inl ⟨rfl, hrt.1 ht⟩
      | some q =>
        obtain ⟨l, r⟩ := q
        obtain ⟨h1, h2⟩ := hrt.2 l r ht
        exact .inr ⟨by rw [h1], by rw [h1]; exact h2⟩
    have hjump := runs_jump n (items s1) ([], s1)
    generalize runs (upStep n) ([], s1) (items s1) = R at hres hjump ⊢
    obtain ⟨⟨out, rest⟩, j⟩ := R
    simp only at hres hjump
    have key : ∀ {Q : Exit → Act → World → Prop} {c : Code}, (∀ v, CT ⟨Try.prog, none, 43, W0⟩ [mark db] c [(1, .pointer (some ⟨bs, 0, none⟩)), (4, .pointer (some ⟨bo, 0, none⟩)), (5, .pointer (some ⟨br, 0, none⟩))]
        (Blk bo (.cells #[v] 22 (0, 0)) :: SlT 34 v out :: Blk br (.cells #[.string rest] 9 (0, 0)) :: Blk bs (.cells #[.string s] 9 (0, 0)) :: Blk db (.deferred (some [])) :: H) Q) →
        CT ⟨Try.prog, none, 43, W0⟩ [mark db] c ((18, .func (.func 61) #[] #[.pointer (some ⟨b1, 0, none⟩)]) :: (5, .pointer (some ⟨br, 0, none⟩)) :: (4, .pointer (some ⟨bo, 0, none⟩)) :: (1, .pointer (some ⟨bs, 0, none⟩)) :: []) (Blk db (.deferred (some [])) :: (UpG bo br bs s (out, rest) ++ H)) Q := by
      intro Q c hk
      refine ct_sub (τ := [(1, .pointer (some ⟨bs, 0, none⟩)), (4, .pointer (some ⟨bo, 0, none⟩)), (5, .pointer (some ⟨br, 0, none⟩))]) ⟨rfl, rfl, rfl, trivial⟩ ?_
      refine ct_ex (H' := fun v => Blk bo (.cells #[v] 22 (0, 0)) :: SlT 34 v out :: Blk br (.cells #[.string rest] 9 (0, 0)) :: Blk bs (.cells #[.string s] 9 (0, 0)) :: Blk db (.deferred (some [])) :: H) (fun w h => ?_) hk
      obtain ⟨v, h⟩ := At.ex.1 h.sw1
      have h2 : At W0 (Blk bo (.cells #[v] 22 (0, 0)) :: SlT 34 v out :: Blk db (.deferred (some [])) :: Blk br (.cells #[.string rest] 9 (0, 0)) :: Blk bs (.cells #[.string s] 9 (0, 0)) :: H) w := At.star.1 h
      exact ⟨v, At.top [_, _, _, _, _] [0, 1, 3, 4, 2] h2⟩
    rcases hjump with rfl | rfl
    · refine qe_block 0 (qe_then (ct_sub (τ := [(18, .func (.func 61) #[] #[.pointer (some ⟨b1, 0, none⟩)]), (5, .pointer (some ⟨br, 0, none⟩)), (4, .pointer (some ⟨bo, 0, none⟩)), (1, .pointer (some ⟨bs, 0, none⟩))]) ⟨rfl, rfl, rfl, rfl, trivial⟩ (key ?_)))
      intro v
      refine ct_pr (fun w h => h.drop.slv) ?_; rintro ⟨p, cap, e, hv⟩
      cases e
      ((repeat refine ct_seq ?_); refine ct_draw0 (by kernel_rfl) ?_)
      refine ra_take 0 rfl (by kernel_rfl) (by kernel_rfl) rfl (by (first | (constructor <;> first | rfl | exact RdC.rd | exact inferInstance) | exact Ex.pickF rfl rfl | exact Ex.eqlS rfl rfl | exact Ex.neqS rfl rfl | exact Ex.eqlPN rfl rfl | exact Ex.neqPN rfl rfl | exact Ex.eqlSN rfl rfl | exact Ex.neqSN rfl rfl | exact Ex.lenStr rfl)) rfl (by first | exact fun _ h => h | exact fun _ h => h.drop | exact fun _ h => h.drop.drop | exact fun _ h => h.drop.drop.drop | exact fun _ h => h.drop.drop.drop.drop) ?_
      refine ra_take 1 rfl (by kernel_rfl) (by kernel_rfl) rfl (by (first | (constructor <;> first | rfl | exact RdC.rd | exact inferInstance) | exact Ex.pickF rfl rfl | exact Ex.eqlS rfl rfl | exact Ex.neqS rfl rfl | exact Ex.eqlPN rfl rfl | exact Ex.neqPN rfl rfl | exact Ex.eqlSN rfl rfl | exact Ex.neqSN rfl rfl | exact Ex.lenStr rfl)) rfl (by first | exact fun _ h => h | exact fun _ h => h.drop | exact fun _ h => h.drop.drop | exact fun _ h => h.drop.drop.drop | exact fun _ h => h.drop.drop.drop.drop) ?_
      refine ra_take 2 rfl (by kernel_rfl) (by kernel_rfl) rfl (by (first | (constructor <;> first | rfl | exact RdC.rd | exact inferInstance) | exact Ex.pickF rfl rfl | exact Ex.eqlS rfl rfl | exact Ex.neqS rfl rfl | exact Ex.eqlPN rfl rfl | exact Ex.neqPN rfl rfl | exact Ex.eqlSN rfl rfl | exact Ex.neqSN rfl rfl | exact Ex.lenStr rfl)) rfl (by first | exact fun _ h => h | exact fun _ h => h.drop | exact fun _ h => h.drop.drop | exact fun _ h => h.drop.drop.drop | exact fun _ h => h.drop.drop.drop.drop) ?_
      refine ra_take 3 rfl (by kernel_rfl) (by kernel_rfl) rfl (ex_indexStr (i := 0) rfl rfl hb0) rfl (by first | exact fun _ h => h | exact fun _ h => h.drop | exact fun _ h => h.drop.drop | exact fun _ h => h.drop.drop.drop | exact fun _ h => h.drop.drop.drop.drop) ?_
      refine ra_take 4 rfl (by kernel_rfl) (by kernel_rfl) rfl (by (first | (constructor <;> first | rfl | exact RdC.rd | exact inferInstance) | exact Ex.pickF rfl rfl | exact Ex.eqlS rfl rfl | exact Ex.neqS rfl rfl | exact Ex.eqlPN rfl rfl | exact Ex.neqPN rfl rfl | exact Ex.eqlSN rfl rfl | exact Ex.neqSN rfl rfl | exact Ex.lenStr rfl)) rfl (by first | exact fun _ h => h | exact fun _ h => h.drop | exact fun _ h => h.drop.drop | exact fun _ h => h.drop.drop.drop | exact fun _ h => h.drop.drop.drop.drop) ?_
      refine ra_rw (by rw [i64_byte, hbyte]) ?_
      refine ra_take 5 rfl (by kernel_rfl) (by kernel_rfl) rfl (by (first | (constructor <;> first | rfl | exact RdC.rd | exact inferInstance) | exact Ex.pickF rfl rfl | exact Ex.eqlS rfl rfl | exact Ex.neqS rfl rfl | exact Ex.eqlPN rfl rfl | exact Ex.neqPN rfl rfl | exact Ex.eqlSN rfl rfl | exact Ex.neqSN rfl rfl | exact Ex.lenStr rfl)) rfl (by first | exact fun _ h => h | exact fun _ h => h.drop | exact fun _ h => h.drop.drop | exact fun _ h => h.drop.drop.drop | exact fun _ h => h.drop.drop.drop.drop) ?_
      rcases hres with ⟨ht, hlt⟩ | ⟨ht, hlen⟩
      · have e : unpackV s = ([], 101) := by rw [hu, ht]
        refine ra_rw (v := .bool true) (by simp; omega) ?_
        refine ra_take 6 rfl (by kernel_rfl) (by kernel_rfl) rfl (by (first | (constructor <;> first | rfl | exact RdC.rd | exact inferInstance) | exact Ex.pickF rfl rfl | exact Ex.eqlS rfl rfl | exact Ex.neqS rfl rfl | exact Ex.eqlPN rfl rfl | exact Ex.neqPN rfl rfl | exact Ex.eqlSN rfl rfl | exact Ex.neqSN rfl rfl | exact Ex.lenStr rfl)) rfl (by first | exact fun _ h => h | exact fun _ h => h.drop | exact fun _ h => h.drop.drop | exact fun _ h => h.drop.drop.drop | exact fun _ h => h.drop.drop.drop.drop) ?_
        refine ra_skip 7 rfl (by kernel_rfl) (by kernel_rfl) rfl rfl (by first | exact fun _ h => h | exact fun _ h => h.drop | exact fun _ h => h.drop.drop | exact fun _ h => h.drop.drop.drop | exact fun _ h => h.drop.drop.drop.drop) ?_
        refine ra_skip 8 rfl (by kernel_rfl) (by kernel_rfl) rfl rfl (by first | exact fun _ h => h | exact fun _ h => h.drop | exact fun _ h => h.drop.drop | exact fun _ h => h.drop.drop.drop | exact fun _ h => h.drop.drop.drop.drop) ?_
        refine ra_take 9 rfl (by kernel_rfl) (by kernel_rfl) rfl (by (first | (constructor <;> first | rfl | exact RdC.rd | exact inferInstance) | exact Ex.pickF rfl rfl | exact Ex.eqlS rfl rfl | exact Ex.neqS rfl rfl | exact Ex.eqlPN rfl rfl | exact Ex.neqPN rfl rfl | exact Ex.eqlSN rfl rfl | exact Ex.neqSN rfl rfl | exact Ex.lenStr rfl)) rfl (by first | exact fun _ h => h | exact fun _ h => h.drop | exact fun _ h => h.drop.drop | exact fun _ h => h.drop.drop.drop | exact fun _ h => h.drop.drop.drop.drop) ?_
        refine ra_end (by kernel_rfl) (qe_then ?_)
        refine ct_cond rfl (fun _ => ?_) (fun h => by cases h)
        ((repeat refine ct_seq ?_); refine ct_region ?_; repeat (first | refine rs_ex rfl (by (first | (constructor <;> first | rfl | exact RdC.rd | exact inferInstance) | exact Ex.pickF rfl rfl | exact Ex.eqlS rfl rfl | exact Ex.neqS rfl rfl | exact Ex.eqlPN rfl rfl | exact Ex.neqPN rfl rfl | exact Ex.eqlSN rfl rfl | exact Ex.neqSN rfl rfl | exact Ex.lenStr rfl)) rfl ?_ | refine rs_skip rfl rfl ?_))
        refine rs_end (qe_then (ct_ret (qe_heap (H' := Blk db (.deferred (some [])) :: SlT (α := Msg) 34 (.slice none 0 0) [] :: H) (fun w h => ?_) (retM_mark (retM (ret2 rfl rfl rfl ⟨_, by rw [e], by rw [e]⟩))))))
        exact At.sw1 (At.slt_nil (α := Msg) 34 (At.top [_, _, _, _, _] [4] h))
      · refine ra_rw (v := .bool false) (by simp; omega) ?_
        refine ra_take 6 rfl (by kernel_rfl) (by kernel_rfl) rfl (by (first | (constructor <;> first | rfl | exact RdC.rd | exact inferInstance) | exact Ex.pickF rfl rfl | exact Ex.eqlS rfl rfl | exact Ex.neqS rfl rfl | exact Ex.eqlPN rfl rfl | exact Ex.neqPN rfl rfl | exact Ex.eqlSN rfl rfl | exact Ex.neqSN rfl rfl | exact Ex.lenStr rfl)) rfl (by first | exact fun _ h => h | exact fun _ h => h.drop | exact fun _ h => h.drop.drop | exact fun _ h => h.drop.drop.drop | exact fun _ h => h.drop.drop.drop.drop) ?_
        refine ra_take 7 rfl (by kernel_rfl) (by kernel_rfl) rfl (by (first | (constructor <;> first | rfl | exact RdC.rd | exact inferInstance) | exact Ex.pickF rfl rfl | exact Ex.eqlS rfl rfl | exact Ex.neqS rfl rfl | exact Ex.eqlPN rfl rfl | exact Ex.neqPN rfl rfl | exact Ex.eqlSN rfl rfl | exact Ex.neqSN rfl rfl | exact Ex.lenStr rfl)) rfl (by first | exact fun _ h => h | exact fun _ h => h.drop | exact fun _ h => h.drop.drop | exact fun _ h => h.drop.drop.drop | exact fun _ h => h.drop.drop.drop.drop) ?_
        refine ra_take 8 rfl (by kernel_rfl) (by kernel_rfl) rfl (by (first | (constructor <;> first | rfl | exact RdC.rd | exact inferInstance) | exact Ex.pickF rfl rfl | exact Ex.eqlS rfl rfl | exact Ex.neqS rfl rfl | exact Ex.eqlPN rfl rfl | exact Ex.neqPN rfl rfl | exact Ex.eqlSN rfl rfl | exact Ex.neqSN rfl rfl | exact Ex.lenStr rfl)) rfl (by first | exact fun _ h => h | exact fun _ h => h.drop | exact fun _ h => h.drop.drop | exact fun _ h => h.drop.drop.drop | exact fun _ h => h.drop.drop.drop.drop) ?_
        refine ra_rw (by rw [dec_empty]) ?_
        refine ra_split (fun hr => ?_) (fun hr => ?_)
        · have e : unpackV s = ([], 101) := by
            rw [hu, ht]
            exact if_neg (by simpa using hr)
          refine ra_take 9 rfl (by kernel_rfl) (by kernel_rfl) rfl (by (first | (constructor <;> first | rfl | exact RdC.rd | exact inferInstance) | exact Ex.pickF rfl rfl | exact Ex.eqlS rfl rfl | exact Ex.neqS rfl rfl | exact Ex.eqlPN rfl rfl | exact Ex.neqPN rfl rfl | exact Ex.eqlSN rfl rfl | exact Ex.neqSN rfl rfl | exact Ex.lenStr rfl)) rfl (by first | exact fun _ h => h | exact fun _ h => h.drop | exact fun _ h => h.drop.drop | exact fun _ h => h.drop.drop.drop | exact fun _ h => h.drop.drop.drop.drop) ?_
          refine ra_end (by kernel_rfl) (qe_then ?_)
          refine ct_cond rfl (fun _ => ?_) (fun h => by cases h)
          ((repeat refine ct_seq ?_); refine ct_region ?_; repeat (first | refine rs_ex rfl (by (first | (constructor <;> first | rfl | exact RdC.rd | exact inferInstance) | exact Ex.pickF rfl rfl | exact Ex.eqlS rfl rfl | exact Ex.neqS rfl rfl | exact Ex.eqlPN rfl rfl | exact Ex.neqPN rfl rfl | exact Ex.eqlSN rfl rfl | exact Ex.neqSN rfl rfl | exact Ex.lenStr rfl)) rfl ?_ | refine rs_skip rfl rfl ?_))
          refine rs_end (qe_then (ct_ret (qe_heap (H' := Blk db (.deferred (some [])) :: SlT (α := Msg) 34 (.slice none 0 0) [] :: H) (fun w h => ?_) (retM_mark (retM (ret2 rfl rfl rfl ⟨_, by rw [e], by rw [e]⟩))))))
          exact At.sw1 (At.slt_nil (α := Msg) 34 (At.top [_, _, _, _, _] [4] h))
        · have e : unpackV s = (out, 0) := by
            rw [hu, ht]
            exact if_pos (by simpa using hr)
          refine ra_take 9 rfl (by kernel_rfl) (by kernel_rfl) rfl (by (first | (constructor <;> first | rfl | exact RdC.rd | exact inferInstance) | exact Ex.pickF rfl rfl | exact Ex.eqlS rfl rfl | exact Ex.neqS rfl rfl | exact Ex.eqlPN rfl rfl | exact Ex.neqPN rfl rfl | exact Ex.eqlSN rfl rfl | exact Ex.neqSN rfl rfl | exact Ex.lenStr rfl)) rfl (by first | exact fun _ h => h | exact fun _ h => h.drop | exact fun _ h => h.drop.drop | exact fun _ h => h.drop.drop.drop | exact fun _ h => h.drop.drop.drop.drop) ?_
          refine ra_end (by kernel_rfl) (qe_then ?_)
          refine ct_cond rfl (fun h => by cases h) (fun _ => ?_)
          refine ct_skip (qe_then ?_)
          ((repeat refine ct_seq ?_); refine ct_region ?_; repeat (first | refine rs_ex rfl (by (first | (constructor <;> first | rfl | exact RdC.rd | exact inferInstance) | exact Ex.pickF rfl rfl | exact Ex.eqlS rfl rfl | exact Ex.neqS rfl rfl | exact Ex.eqlPN rfl rfl | exact Ex.neqPN rfl rfl | exact Ex.eqlSN rfl rfl | exact Ex.neqSN rfl rfl | exact Ex.lenStr rfl)) rfl ?_ | refine rs_skip rfl rfl ?_))
          refine rs_end (qe_then (ct_ret (qe_heap (H' := Blk db (.deferred (some [])) :: SlT 34 (.slice p out.length cap) out :: H) (fun w h => ?_) (retM_mark (retM (ret2 rfl rfl rfl ⟨_, by rw [e], by rw [e]⟩))))))
          exact At.top [_, _, _, _, _] [4, 1] h
    · refine ct_exit (qe_block_exit (qe_then (ct_sub (τ := [(18, .func (.func 61) #[] #[.pointer (some ⟨b1, 0, none⟩)]), (5, .pointer (some ⟨br, 0, none⟩)), (4, .pointer (some ⟨bo, 0, none⟩)), (1, .pointer (some ⟨bs, 0, none⟩))]) ⟨rfl, rfl, rfl, rfl, trivial⟩ (key ?_))))
      intro v
      refine ct_pr (fun w h => h.drop.slv) ?_; rintro ⟨p, cap, e, hv⟩
      cases e
      ((repeat refine ct_seq ?_); refine ct_draw0 (by kernel_rfl) ?_)
      refine ra_take 0 rfl (by kernel_rfl) (by kernel_rfl) rfl (by (first | (constructor <;> first | rfl | exact RdC.rd | exact inferInstance) | exact Ex.pickF rfl rfl | exact Ex.eqlS rfl rfl | exact Ex.neqS rfl rfl | exact Ex.eqlPN rfl rfl | exact Ex.neqPN rfl rfl | exact Ex.eqlSN rfl rfl | exact Ex.neqSN rfl rfl | exact Ex.lenStr rfl)) rfl (by first | exact fun _ h => h | exact fun _ h => h.drop | exact fun _ h => h.drop.drop | exact fun _ h => h.drop.drop.drop | exact fun _ h => h.drop.drop.drop.drop) ?_
      refine ra_take 1 rfl (by kernel_rfl) (by kernel_rfl) rfl (by (first | (constructor <;> first | rfl | exact RdC.rd | exact inferInstance) | exact Ex.pickF rfl rfl | exact Ex.eqlS rfl rfl | exact Ex.neqS rfl rfl | exact Ex.eqlPN rfl rfl | exact Ex.neqPN rfl rfl | exact Ex.eqlSN rfl rfl | exact Ex.neqSN rfl rfl | exact Ex.lenStr rfl)) rfl (by first | exact fun _ h => h | exact fun _ h => h.drop | exact fun _ h => h.drop.drop | exact fun _ h => h.drop.drop.drop | exact fun _ h => h.drop.drop.drop.drop) ?_
      refine ra_take 2 rfl (by kernel_rfl) (by kernel_rfl) rfl (by (first | (constructor <;> first | rfl | exact RdC.rd | exact inferInstance) | exact Ex.pickF rfl rfl | exact Ex.eqlS rfl rfl | exact Ex.neqS rfl rfl | exact Ex.eqlPN rfl rfl | exact Ex.neqPN rfl rfl | exact Ex.eqlSN rfl rfl | exact Ex.neqSN rfl rfl | exact Ex.lenStr rfl)) rfl (by first | exact fun _ h => h | exact fun _ h => h.drop | exact fun _ h => h.drop.drop | exact fun _ h => h.drop.drop.drop | exact fun _ h => h.drop.drop.drop.drop) ?_
      refine ra_take 3 rfl (by kernel_rfl) (by kernel_rfl) rfl (ex_indexStr (i := 0) rfl rfl hb0) rfl (by first | exact fun _ h => h | exact fun _ h => h.drop | exact fun _ h => h.drop.drop | exact fun _ h => h.drop.drop.drop | exact fun _ h => h.drop.drop.drop.drop) ?_
      refine ra_take 4 rfl (by kernel_rfl) (by kernel_rfl) rfl (by (first | (constructor <;> first | rfl | exact RdC.rd | exact inferInstance) | exact Ex.pickF rfl rfl | exact Ex.eqlS rfl rfl | exact Ex.neqS rfl rfl | exact Ex.eqlPN rfl rfl | exact Ex.neqPN rfl rfl | exact Ex.eqlSN rfl rfl | exact Ex.neqSN rfl rfl | exact Ex.lenStr rfl)) rfl (by first | exact fun _ h => h | exact fun _ h => h.drop | exact fun _ h => h.drop.drop | exact fun _ h => h.drop.drop.drop | exact fun _ h => h.drop.drop.drop.drop) ?_
      refine ra_rw (by rw [i64_byte, hbyte]) ?_
      refine ra_take 5 rfl (by kernel_rfl) (by kernel_rfl) rfl (by (first | (constructor <;> first | rfl | exact RdC.rd | exact inferInstance) | exact Ex.pickF rfl rfl | exact Ex.eqlS rfl rfl | exact Ex.neqS rfl rfl | exact Ex.eqlPN rfl rfl | exact Ex.neqPN rfl rfl | exact Ex.eqlSN rfl rfl | exact Ex.neqSN rfl rfl | exact Ex.lenStr rfl)) rfl (by first | exact fun _ h => h | exact fun _ h => h.drop | exact fun _ h => h.drop.drop | exact fun _ h => h.drop.drop.drop | exact fun _ h => h.drop.drop.drop.drop) ?_
      rcases hres with ⟨ht, hlt⟩ | ⟨ht, hlen⟩
      · have e : unpackV s = ([], 101) := by rw [hu, ht]
        refine ra_rw (v := .bool true) (by simp; omega) ?_
        refine ra_take 6 rfl (by kernel_rfl) (by kernel_rfl) rfl (by (first | (constructor <;> first | rfl | exact RdC.rd | exact inferInstance) | exact Ex.pickF rfl rfl | exact Ex.eqlS rfl rfl | exact Ex.neqS rfl rfl | exact Ex.eqlPN rfl rfl | exact Ex.neqPN rfl rfl | exact Ex.eqlSN rfl rfl | exact Ex.neqSN rfl rfl | exact Ex.lenStr rfl)) rfl (by first | exact fun _ h => h | exact fun _ h => h.drop | exact fun _ h => h.drop.drop | exact fun _ h => h.drop.drop.drop | exact fun _ h => h.drop.drop.drop.drop) ?_
        refine ra_skip 7 rfl (by kernel_rfl) (by kernel_rfl) rfl rfl (by first | exact fun _ h => h | exact fun _ h => h.drop | exact fun _ h => h.drop.drop | exact fun _ h => h.drop.drop.drop | exact fun _ h => h.drop.drop.drop.drop) ?_
        refine ra_skip 8 rfl (by kernel_rfl) (by kernel_rfl) rfl rfl (by first | exact fun _ h => h | exact fun _ h => h.drop | exact fun _ h => h.drop.drop | exact fun _ h => h.drop.drop.drop | exact fun _ h => h.drop.drop.drop.drop) ?_
        refine ra_take 9 rfl (by kernel_rfl) (by kernel_rfl) rfl (by (first | (constructor <;> first | rfl | exact RdC.rd | exact inferInstance) | exact Ex.pickF rfl rfl | exact Ex.eqlS rfl rfl | exact Ex.neqS rfl rfl | exact Ex.eqlPN rfl rfl | exact Ex.neqPN rfl rfl | exact Ex.eqlSN rfl rfl | exact Ex.neqSN rfl rfl | exact Ex.lenStr rfl)) rfl (by first | exact fun _ h => h | exact fun _ h => h.drop | exact fun _ h => h.drop.drop | exact fun _ h => h.drop.drop.drop | exact fun _ h => h.drop.drop.drop.drop) ?_
        refine ra_end (by kernel_rfl) (qe_then ?_)
        refine ct_cond rfl (fun _ => ?_) (fun h => by cases h)
        ((repeat refine ct_seq ?_); refine ct_region ?_; repeat (first | refine rs_ex rfl (by (first | (constructor <;> first | rfl | exact RdC.rd | exact inferInstance) | exact Ex.pickF rfl rfl | exact Ex.eqlS rfl rfl | exact Ex.neqS rfl rfl | exact Ex.eqlPN rfl rfl | exact Ex.neqPN rfl rfl | exact Ex.eqlSN rfl rfl | exact Ex.neqSN rfl rfl | exact Ex.lenStr rfl)) rfl ?_ | refine rs_skip rfl rfl ?_))
        refine rs_end (qe_then (ct_ret (qe_heap (H' := Blk db (.deferred (some [])) :: SlT (α := Msg) 34 (.slice none 0 0) [] :: H) (fun w h => ?_) (retM_mark (retM (ret2 rfl rfl rfl ⟨_, by rw [e], by rw [e]⟩))))))
        exact At.sw1 (At.slt_nil (α := Msg) 34 (At.top [_, _, _, _, _] [4] h))
      · refine ra_rw (v := .bool false) (by simp; omega) ?_
        refine ra_take 6 rfl (by kernel_rfl) (by kernel_rfl) rfl (by (first | (constructor <;> first | rfl | exact RdC.rd | exact inferInstance) | exact Ex.pickF rfl rfl | exact Ex.eqlS rfl rfl | exact Ex.neqS rfl rfl | exact Ex.eqlPN rfl rfl | exact Ex.neqPN rfl rfl | exact Ex.eqlSN rfl rfl | exact Ex.neqSN rfl rfl | exact Ex.lenStr rfl)) rfl (by first | exact fun _ h => h | exact fun _ h => h.drop | exact fun _ h => h.drop.drop | exact fun _ h => h.drop.drop.drop | exact fun _ h => h.drop.drop.drop.drop) ?_
        refine ra_take 7 rfl (by kernel_rfl) (by kernel_rfl) rfl (by (first | (constructor <;> first | rfl | exact RdC.rd | exact inferInstance) | exact Ex.pickF rfl rfl | exact Ex.eqlS rfl rfl | exact Ex.neqS rfl rfl | exact Ex.eqlPN rfl rfl | exact Ex.neqPN rfl rfl | exact Ex.eqlSN rfl rfl | exact Ex.neqSN rfl rfl | exact Ex.lenStr rfl)) rfl (by first | exact fun _ h => h | exact fun _ h => h.drop | exact fun _ h => h.drop.drop | exact fun _ h => h.drop.drop.drop | exact fun _ h => h.drop.drop.drop.drop) ?_
        refine ra_take 8 rfl (by kernel_rfl) (by kernel_rfl) rfl (by (first | (constructor <;> first | rfl | exact RdC.rd | exact inferInstance) | exact Ex.pickF rfl rfl | exact Ex.eqlS rfl rfl | exact Ex.neqS rfl rfl | exact Ex.eqlPN rfl rfl | exact Ex.neqPN rfl rfl | exact Ex.eqlSN rfl rfl | exact Ex.neqSN rfl rfl | exact Ex.lenStr rfl)) rfl (by first | exact fun _ h => h | exact fun _ h => h.drop | exact fun _ h => h.drop.drop | exact fun _ h => h.drop.drop.drop | exact fun _ h => h.drop.drop.drop.drop) ?_
        refine ra_rw (by rw [dec_empty]) ?_
        refine ra_split (fun hr => ?_) (fun hr => ?_)
        · have e : unpackV s = ([], 101) := by
            rw [hu, ht]
            exact if_neg (by simpa using hr)
          refine ra_take 9 rfl (by kernel_rfl) (by kernel_rfl) rfl (by (first | (constructor <;> first | rfl | exact RdC.rd | exact inferInstance) | exact Ex.pickF rfl rfl | exact Ex.eqlS rfl rfl | exact Ex.neqS rfl rfl | exact Ex.eqlPN rfl rfl | exact Ex.neqPN rfl rfl | exact Ex.eqlSN rfl rfl | exact Ex.neqSN rfl rfl | exact Ex.lenStr rfl)) rfl (by first | exact fun _ h => h | exact fun _ h => h.drop | exact fun _ h => h.drop.drop | exact fun _ h => h.drop.drop.drop | exact fun _ h => h.drop.drop.drop.drop) ?_
          refine ra_end (by kernel_rfl) (qe_then ?_)
          refine ct_cond rfl (fun _ => ?_) (fun h => by cases h)
          ((repeat refine ct_seq ?_); refine ct_region ?_; repeat (first | refine rs_ex rfl (by (first | (constructor <;> first | rfl | exact RdC.rd | exact inferInstance) | exact Ex.pickF rfl rfl | exact Ex.eqlS rfl rfl | exact Ex.neqS rfl rfl | exact Ex.eqlPN rfl rfl | exact Ex.neqPN rfl rfl | exact Ex.eqlSN rfl rfl | exact Ex.neqSN rfl rfl | exact Ex.lenStr rfl)) rfl ?_ | refine rs_skip rfl rfl ?_))
          refine rs_end (qe_then (ct_ret (qe_heap (H' := Blk db (.deferred (some [])) :: SlT (α := Msg) 34 (.slice none 0 0) [] :: H) (fun w h => ?_) (retM_mark (retM (ret2 rfl rfl rfl ⟨_, by rw [e], by rw [e]⟩))))))
          exact At.sw1 (At.slt_nil (α := Msg) 34 (At.top [_, _, _, _, _] [4] h))
        · have e : unpackV s = (out, 0) := by
            rw [hu, ht]
            exact if_pos (by simpa using hr)
          refine ra_take 9 rfl (by kernel_rfl) (by kernel_rfl) rfl (by (first | (constructor <;> first | rfl | exact RdC.rd | exact inferInstance) | exact Ex.pickF rfl rfl | exact Ex.eqlS rfl rfl | exact Ex.neqS rfl rfl | exact Ex.eqlPN rfl rfl | exact Ex.neqPN rfl rfl | exact Ex.eqlSN rfl rfl | exact Ex.neqSN rfl rfl | exact Ex.lenStr rfl)) rfl (by first | exact fun _ h => h | exact fun _ h => h.drop | exact fun _ h => h.drop.drop | exact fun _ h => h.drop.drop.drop | exact fun _ h => h.drop.drop.drop.drop) ?_
          refine ra_end (by kernel_rfl) (qe_then ?_)
          refine ct_cond rfl (fun h => by cases h) (fun _ => ?_)
          refine ct_skip (qe_then ?_)
          ((repeat refine ct_seq ?_); refine ct_region ?_; repeat (first | refine rs_ex rfl (by (first | (constructor <;> first | rfl | exact RdC.rd | exact inferInstance) | exact Ex.pickF rfl rfl | exact Ex.eqlS rfl rfl | exact Ex.neqS rfl rfl | exact Ex.eqlPN rfl rfl | exact Ex.neqPN rfl rfl | exact Ex.eqlSN rfl rfl | exact Ex.neqSN rfl rfl | exact Ex.lenStr rfl)) rfl ?_ | refine rs_skip rfl rfl ?_))
          refine rs_end (qe_then (ct_ret (qe_heap (H' := Blk db (.deferred (some [])) :: SlT 34 (.slice p out.length cap) out :: H) (fun w h => ?_) (retM_mark (retM (ret2 rfl rfl rfl ⟨_, by rw [e], by rw [e]⟩))))))
          exact At.top [_, _, _, _, _] [4, 1] h
end Go.Rost
