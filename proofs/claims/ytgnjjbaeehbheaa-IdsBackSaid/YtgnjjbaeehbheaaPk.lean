/- The batch of bytes, read: message by message. -/
import Derived.Test.YtgnjjbaeehbheaaCrc
import Derived.Test.YtgnjjbaeehbheaaIds
namespace Go.Rost
open Go Go.RowKit Go.Proofs

theorem empty_of_size {s : ByteArray} (h : s.size = 0) : s = ⟨#[]⟩ := by
  obtain ⟨d⟩ := s
  have : d.size = 0 := h
  rw [Array.eq_empty_of_size_eq_zero this]
/-- One message of a batch's bytes, and what is left behind it. -/
def part1 (s : ByteArray) : Option (Msg × ByteArray) :=
  if 9 ≤ s.size then
    if 1000 < getv (s.extract 5 9) ∨ (s.size : Int) - 9 < getv (s.extract 5 9) then none
    else if Msg.right ⟨⟨((s[0]?).getD 0).toNat, getv (s.extract 1 5)⟩, s.extract 9 (9 + (getv (s.extract 5 9)).toNat)⟩ = true then
      some (⟨⟨((s[0]?).getD 0).toNat, getv (s.extract 1 5)⟩, s.extract 9 (9 + (getv (s.extract 5 9)).toNat)⟩, s.extract (9 + (getv (s.extract 5 9)).toNat) s.size)
    else none
  else none
theorem part1_lt {s : ByteArray} {x : Msg × ByteArray} (h : part1 s = some x) : x.2.size < s.size := by
  unfold part1 at h
  split at h
  · split at h
    · cases h
    · split at h
      · cases h
        simp only [ByteArray.size_extract]
        omega
      · cases h
  · cases h
def items (s : ByteArray) : List (Msg × ByteArray) :=
  match _h : part1 s with
  | none => []
  | some x => x :: items x.2
termination_by s.size
decreasing_by exact part1_lt (by assumption)
theorem items_none {s : ByteArray} (h : part1 s = none) : items s = [] := by
  rw [items]; split
  · rfl
  · rename_i h'; rw [h] at h'; cases h'
theorem items_some {s : ByteArray} {x : Msg × ByteArray} (h : part1 s = some x) : items s = x :: items x.2 := by
  rw [items]; split
  · rename_i h'; rw [h] at h'; cases h'
  · rename_i y h'; rw [h] at h'; cases h'; rfl
def encMS (x : Msg × ByteArray) : List Value := [x.1.v, .string x.2]

theorem Parted_c (W0 : World) (s : ByteArray) (H : List Chunk) : Call Try.prog W0 43 [.string s] H (fun v H' => ∃ b, v = .func (.func 61) #[] #[.pointer (some ⟨b, 0, none⟩)] ∧ H' = Blk b (.cells #[.string s] 9 (0, 0)) :: H) := by
  refine call_enter Try.func43 rfl Try.ntmps43 rfl ?_
  ((repeat refine ct_seq ?_); refine ct_region ?_)
  refine rs_op rfl rfl (opR_box rfl ?_); intro bx
  repeat (first | refine rs_ex rfl (by (first | (constructor <;> first | rfl | exact RdC.rd | exact inferInstance) | exact Ex.pickF rfl rfl | exact Ex.eqlS rfl rfl | exact Ex.neqS rfl rfl | exact Ex.eqlPN rfl rfl | exact Ex.neqPN rfl rfl | exact Ex.eqlSN rfl rfl | exact Ex.neqSN rfl rfl | exact Ex.lenStr rfl)) rfl ?_ | refine rs_skip rfl rfl ?_)
  refine rs_end (qe_then ?_)
  ((repeat refine ct_seq ?_); refine ct_region ?_; repeat (first | refine rs_ex rfl (by (first | (constructor <;> first | rfl | exact RdC.rd | exact inferInstance) | exact Ex.pickF rfl rfl | exact Ex.eqlS rfl rfl | exact Ex.neqS rfl rfl | exact Ex.eqlPN rfl rfl | exact Ex.neqPN rfl rfl | exact Ex.eqlSN rfl rfl | exact Ex.neqSN rfl rfl | exact Ex.lenStr rfl)) rfl ?_ | refine rs_skip rfl rfl ?_))
  refine rs_end (qe_then (ct_ret (ret1 rfl rfl ⟨_, rfl, rfl⟩)))
theorem getD0 {s : ByteArray} (h : 9 ≤ s.size) : s[0]? = some ((s[0]?).getD 0) := by
  have : s[0]? = some (s[0]'(by omega)) := by
    simp [getElem?_pos, show 0 < s.size by omega]
  rw [this]; rfl
theorem Parted1_c (W0 : World) {ζ : Type} (y : Value) (gc : ζ → Option Code → Chunk) (step : ζ → (Msg × ByteArray) → ζ × Option Code) (I : ζ → Prop) (z0 : ζ) (bs : Nat) (s : ByteArray) (T : List Chunk)
    (hy : Yields Try.prog W0 y encMS gc step I (fun _ => True)) (h0 : I z0) (hs : s.size ≤ 100000) :
    Call Try.prog W0 61 [y, .pointer (some ⟨bs, 0, none⟩)] (Blk bs (.cells #[.string s] 9 (0, 0)) :: gc z0 none :: T)
      (fun v H' => ∃ xs it', xs = items s ∧ H' = it' :: gc (runs step z0 xs).1 (runs step z0 xs).2 :: T) := by
  refine call_enter Try.func61 rfl Try.ntmps61 rfl ?_
  refine ct_scope (ct_seq (ct_label (qe_then (ct_block ?_))))
  refine ct_loop (ζ := ByteArray × ζ) (fun q => I q.2 ∧ q.1.size ≤ s.size ∧ runs step q.2 (items q.1) = runs step z0 (items s)) (fun _ => [(0, y), (1, .pointer (some ⟨bs, 0, none⟩))])
    (fun q => Blk bs (.cells #[.string q.1] 9 (0, 0)) :: gc q.2 none :: T) (fun q => q.1.size) (s, z0) ⟨h0, Nat.le_refl _, rfl⟩ ⟨rfl, rfl, trivial⟩ (fun w h => h) ?_
  rintro ⟨s', z⟩ ⟨hz, hsz, hruns⟩
  simp only at hz hsz hruns ⊢
  ((repeat refine ct_seq ?_); refine ct_region ?_; repeat (first | refine rs_ex rfl (by (first | (constructor <;> first | rfl | exact RdC.rd | exact inferInstance) | exact Ex.pickF rfl rfl | exact Ex.eqlS rfl rfl | exact Ex.neqS rfl rfl | exact Ex.eqlPN rfl rfl | exact Ex.neqPN rfl rfl | exact Ex.eqlSN rfl rfl | exact Ex.neqSN rfl rfl | exact Ex.lenStr rfl)) rfl ?_ | refine rs_skip rfl rfl ?_))
  refine rs_end (qe_then ?_)
  have stop : ∀ it, part1 s' = none → ∃ xs it', xs = items s ∧ (it :: gc z none :: T) = it' :: gc (runs step z0 xs).1 (runs step z0 xs).2 :: T := by
    intro it hp
    rw [items_none hp] at hruns
    exact ⟨items s, it, rfl, by rw [← hruns]; rfl⟩
  refine ct_cond rfl (fun hc => ?_) (fun hc => ?_)
  · have h9 : 9 ≤ s'.size := by simp at hc; omega
    refine ct_skip (qe_then (ct_block ?_))
    ((repeat refine ct_seq ?_); refine ct_region ?_; repeat (first | refine rs_ex rfl (by (first | (constructor <;> first | rfl | exact RdC.rd | exact inferInstance) | exact Ex.pickF rfl rfl | exact Ex.eqlS rfl rfl | exact Ex.neqS rfl rfl | exact Ex.eqlPN rfl rfl | exact Ex.neqPN rfl rfl | exact Ex.eqlSN rfl rfl | exact Ex.neqSN rfl rfl | exact Ex.lenStr rfl)) rfl ?_ | refine rs_skip rfl rfl ?_))
    refine rs_ex rfl (ex_sliceStr (i := 1) (j := 5) rfl (.inr ⟨_, _, rfl, rfl⟩) (.inr ⟨_, _, rfl, rfl⟩) (by omega) (by omega)) rfl ?_
    refine rs_op rfl rfl (opR_fn rfl ((Get_c W0 (s'.extract 1 5) _ (by simp; omega)).mono ?_))
    rintro v H' ⟨rfl, rfl⟩
    repeat (first | refine rs_ex rfl (by (first | (constructor <;> first | rfl | exact RdC.rd | exact inferInstance) | exact Ex.pickF rfl rfl | exact Ex.eqlS rfl rfl | exact Ex.neqS rfl rfl | exact Ex.eqlPN rfl rfl | exact Ex.neqPN rfl rfl | exact Ex.eqlSN rfl rfl | exact Ex.neqSN rfl rfl | exact Ex.lenStr rfl)) rfl ?_ | refine rs_skip rfl rfl ?_)
    refine rs_end (qe_then ?_)
    ((repeat refine ct_seq ?_); refine ct_region ?_; repeat (first | refine rs_ex rfl (by (first | (constructor <;> first | rfl | exact RdC.rd | exact inferInstance) | exact Ex.pickF rfl rfl | exact Ex.eqlS rfl rfl | exact Ex.neqS rfl rfl | exact Ex.eqlPN rfl rfl | exact Ex.neqPN rfl rfl | exact Ex.eqlSN rfl rfl | exact Ex.neqSN rfl rfl | exact Ex.lenStr rfl)) rfl ?_ | refine rs_skip rfl rfl ?_))
    refine rs_ex rfl (ex_sliceStr (i := 5) (j := 9) rfl (.inr ⟨_, _, rfl, rfl⟩) (.inr ⟨_, _, rfl, rfl⟩) (by omega) (by omega)) rfl ?_
    refine rs_op rfl rfl (opR_fn rfl ((Get_c W0 (s'.extract 5 9) _ (by simp; omega)).mono ?_))
    rintro v H' ⟨rfl, rfl⟩
    repeat (first | refine rs_ex rfl (by (first | (constructor <;> first | rfl | exact RdC.rd | exact inferInstance) | exact Ex.pickF rfl rfl | exact Ex.eqlS rfl rfl | exact Ex.neqS rfl rfl | exact Ex.eqlPN rfl rfl | exact Ex.neqPN rfl rfl | exact Ex.eqlSN rfl rfl | exact Ex.neqSN rfl rfl | exact Ex.lenStr rfl)) rfl ?_ | refine rs_skip rfl rfl ?_)
    refine rs_end (qe_then ?_)
    have hcr := getv_range (s'.extract 1 5)
    have hnr := getv_range (s'.extract 5 9)
    generalize hC : getv (s'.extract 1 5) = cnt at *
    generalize hN : getv (s'.extract 5 9) = n at *
    ((repeat refine ct_seq ?_); refine ct_region ?_)
    (first | refine rs_ex rfl (by (first | (constructor <;> first | rfl | exact RdC.rd | exact inferInstance) | exact Ex.pickF rfl rfl | exact Ex.eqlS rfl rfl | exact Ex.neqS rfl rfl | exact Ex.eqlPN rfl rfl | exact Ex.neqPN rfl rfl | exact Ex.eqlSN rfl rfl | exact Ex.neqSN rfl rfl | exact Ex.lenStr rfl)) rfl ?_ | refine rs_skip rfl rfl ?_)
    (first | refine rs_ex rfl (by (first | (constructor <;> first | rfl | exact RdC.rd | exact inferInstance) | exact Ex.pickF rfl rfl | exact Ex.eqlS rfl rfl | exact Ex.neqS rfl rfl | exact Ex.eqlPN rfl rfl | exact Ex.neqPN rfl rfl | exact Ex.eqlSN rfl rfl | exact Ex.neqSN rfl rfl | exact Ex.lenStr rfl)) rfl ?_ | refine rs_skip rfl rfl ?_)
    (first | refine rs_ex rfl (by (first | (constructor <;> first | rfl | exact RdC.rd | exact inferInstance) | exact Ex.pickF rfl rfl | exact Ex.eqlS rfl rfl | exact Ex.neqS rfl rfl | exact Ex.eqlPN rfl rfl | exact Ex.neqPN rfl rfl | exact Ex.eqlSN rfl rfl | exact Ex.neqSN rfl rfl | exact Ex.lenStr rfl)) rfl ?_ | refine rs_skip rfl rfl ?_)
    refine rs_split (fun h1 => ?_) (fun h1 => ?_)
    · repeat (first | refine rs_ex rfl (by (first | (constructor <;> first | rfl | exact RdC.rd | exact inferInstance) | exact Ex.pickF rfl rfl | exact Ex.eqlS rfl rfl | exact Ex.neqS rfl rfl | exact Ex.eqlPN rfl rfl | exact Ex.neqPN rfl rfl | exact Ex.eqlSN rfl rfl | exact Ex.neqSN rfl rfl | exact Ex.lenStr rfl)) rfl ?_ | refine rs_skip rfl rfl ?_)
      refine rs_end (qe_then ?_)
      (repeat refine ct_seq ?_)
      refine ct_cond rfl (fun _ => ?_) (fun h => by cases h)
      (refine ct_exit ?_; repeat (first | refine qe_then_exit ?_ | refine qe_loop_exit ?_ | refine qe_mid_exit ?_ | refine qe_block_exit_ne rfl ?_); refine qe_block_exit ?_)
      refine qe_straight (qe_end (ret0 rfl (stop _ ?_)))
      rw [part1, if_pos h9, hN, if_pos (.inl (by simpa using h1))]
    (first | refine rs_ex rfl (by (first | (constructor <;> first | rfl | exact RdC.rd | exact inferInstance) | exact Ex.pickF rfl rfl | exact Ex.eqlS rfl rfl | exact Ex.neqS rfl rfl | exact Ex.eqlPN rfl rfl | exact Ex.neqPN rfl rfl | exact Ex.eqlSN rfl rfl | exact Ex.neqSN rfl rfl | exact Ex.lenStr rfl)) rfl ?_ | refine rs_skip rfl rfl ?_)
    (first | refine rs_ex rfl (by (first | (constructor <;> first | rfl | exact RdC.rd | exact inferInstance) | exact Ex.pickF rfl rfl | exact Ex.eqlS rfl rfl | exact Ex.neqS rfl rfl | exact Ex.eqlPN rfl rfl | exact Ex.neqPN rfl rfl | exact Ex.eqlSN rfl rfl | exact Ex.neqSN rfl rfl | exact Ex.lenStr rfl)) rfl ?_ | refine rs_skip rfl rfl ?_)
    (first | refine rs_ex rfl (by (first | (constructor <;> first | rfl | exact RdC.rd | exact inferInstance) | exact Ex.pickF rfl rfl | exact Ex.eqlS rfl rfl | exact Ex.neqS rfl rfl | exact Ex.eqlPN rfl rfl | exact Ex.neqPN rfl rfl | exact Ex.eqlSN rfl rfl | exact Ex.neqSN rfl rfl | exact Ex.lenStr rfl)) rfl ?_ | refine rs_skip rfl rfl ?_)
    refine rs_rw (by rw [wrap64 (by omega) (by omega)]) ?_
    (first | refine rs_ex rfl (by (first | (constructor <;> first | rfl | exact RdC.rd | exact inferInstance) | exact Ex.pickF rfl rfl | exact Ex.eqlS rfl rfl | exact Ex.neqS rfl rfl | exact Ex.eqlPN rfl rfl | exact Ex.neqPN rfl rfl | exact Ex.eqlSN rfl rfl | exact Ex.neqSN rfl rfl | exact Ex.lenStr rfl)) rfl ?_ | refine rs_skip rfl rfl ?_)
    (first | refine rs_ex rfl (by (first | (constructor <;> first | rfl | exact RdC.rd | exact inferInstance) | exact Ex.pickF rfl rfl | exact Ex.eqlS rfl rfl | exact Ex.neqS rfl rfl | exact Ex.eqlPN rfl rfl | exact Ex.neqPN rfl rfl | exact Ex.eqlSN rfl rfl | exact Ex.neqSN rfl rfl | exact Ex.lenStr rfl)) rfl ?_ | refine rs_skip rfl rfl ?_)
    refine rs_rw (by rw [wrap64 (by omega) (by omega)]) ?_
    repeat (first | refine rs_ex rfl (by (first | (constructor <;> first | rfl | exact RdC.rd | exact inferInstance) | exact Ex.pickF rfl rfl | exact Ex.eqlS rfl rfl | exact Ex.neqS rfl rfl | exact Ex.eqlPN rfl rfl | exact Ex.neqPN rfl rfl | exact Ex.eqlSN rfl rfl | exact Ex.neqSN rfl rfl | exact Ex.lenStr rfl)) rfl ?_ | refine rs_skip rfl rfl ?_)
    refine rs_end (qe_then ?_)
    (repeat refine ct_seq ?_)
    refine ct_cond rfl (fun h2 => ?_) (fun h2 => ?_)
    · (refine ct_exit ?_; repeat (first | refine qe_then_exit ?_ | refine qe_loop_exit ?_ | refine qe_mid_exit ?_ | refine qe_block_exit_ne rfl ?_); refine qe_block_exit ?_)
      refine qe_straight (qe_end (ret0 rfl (stop _ ?_)))
      rw [part1, if_pos h9, hN, if_pos (.inr (by simpa using h2))]
    have hno : ¬ (1000 < n ∨ (s'.size : Int) - 9 < n) := by simp at h1 h2; omega
    have hn0 : 0 ≤ n := hnr.1
    obtain ⟨k, rfl⟩ : ∃ k : Nat, n = (k : Int) := ⟨n.toNat, by omega⟩
    refine ct_skip (qe_then ?_)
    obtain ⟨m, hm⟩ : ∃ m : Msg, m = ⟨⟨((s'[0]?).getD 0).toNat, cnt⟩, s'.extract 9 (9 + k)⟩ := ⟨_, rfl⟩
    obtain ⟨r, hr⟩ : ∃ r, r = s'.extract (9 + k) s'.size := ⟨_, rfl⟩
    have hp : part1 s' = if m.right = true then some (m, r) else none := by
      rw [part1, if_pos h9, hN, hC, if_neg hno]
      simp only [Int.toNat_natCast, ← hm, ← hr]
    ((repeat refine ct_seq ?_); refine ct_draw0 (by kernel_rfl) ?_)
    refine ra_take 0 rfl (by kernel_rfl) (by kernel_rfl) rfl (by (first | (constructor <;> first | rfl | exact RdC.rd | exact inferInstance) | exact Ex.pickF rfl rfl | exact Ex.eqlS rfl rfl | exact Ex.neqS rfl rfl | exact Ex.eqlPN rfl rfl | exact Ex.neqPN rfl rfl | exact Ex.eqlSN rfl rfl | exact Ex.neqSN rfl rfl | exact Ex.lenStr rfl)) rfl (by first | exact fun _ h => h | exact fun _ h => h.drop | exact fun _ h => h.drop.drop | exact fun _ h => h.drop.drop.drop | exact fun _ h => h.drop.drop.drop.drop) ?_
    refine ra_take 1 rfl (by kernel_rfl) (by kernel_rfl) rfl (ex_indexStr (i := 0) rfl rfl (getD0 h9)) rfl (by first | exact fun _ h => h | exact fun _ h => h.drop | exact fun _ h => h.drop.drop | exact fun _ h => h.drop.drop.drop | exact fun _ h => h.drop.drop.drop.drop) ?_
    refine ra_take 2 rfl (by kernel_rfl) (by kernel_rfl) rfl (by (first | (constructor <;> first | rfl | exact RdC.rd | exact inferInstance) | exact Ex.pickF rfl rfl | exact Ex.eqlS rfl rfl | exact Ex.neqS rfl rfl | exact Ex.eqlPN rfl rfl | exact Ex.neqPN rfl rfl | exact Ex.eqlSN rfl rfl | exact Ex.neqSN rfl rfl | exact Ex.lenStr rfl)) rfl (by first | exact fun _ h => h | exact fun _ h => h.drop | exact fun _ h => h.drop.drop | exact fun _ h => h.drop.drop.drop | exact fun _ h => h.drop.drop.drop.drop) ?_
    refine ra_rw (by rw [i64_byte]) ?_
    refine ra_take 3 rfl (by kernel_rfl) (by kernel_rfl) rfl (by (first | (constructor <;> first | rfl | exact RdC.rd | exact inferInstance) | exact Ex.pickF rfl rfl | exact Ex.eqlS rfl rfl | exact Ex.neqS rfl rfl | exact Ex.eqlPN rfl rfl | exact Ex.neqPN rfl rfl | exact Ex.eqlSN rfl rfl | exact Ex.neqSN rfl rfl | exact Ex.lenStr rfl)) rfl (by first | exact fun _ h => h | exact fun _ h => h.drop | exact fun _ h => h.drop.drop | exact fun _ h => h.drop.drop.drop | exact fun _ h => h.drop.drop.drop.drop) ?_
    refine ra_take 4 rfl (by kernel_rfl) (by kernel_rfl) rfl (ex_build rfl) rfl (by first | exact fun _ h => h | exact fun _ h => h.drop | exact fun _ h => h.drop.drop | exact fun _ h => h.drop.drop.drop | exact fun _ h => h.drop.drop.drop.drop) ?_
    refine ra_take 5 rfl (by kernel_rfl) (by kernel_rfl) rfl (by (first | (constructor <;> first | rfl | exact RdC.rd | exact inferInstance) | exact Ex.pickF rfl rfl | exact Ex.eqlS rfl rfl | exact Ex.neqS rfl rfl | exact Ex.eqlPN rfl rfl | exact Ex.neqPN rfl rfl | exact Ex.eqlSN rfl rfl | exact Ex.neqSN rfl rfl | exact Ex.lenStr rfl)) rfl (by first | exact fun _ h => h | exact fun _ h => h.drop | exact fun _ h => h.drop.drop | exact fun _ h => h.drop.drop.drop | exact fun _ h => h.drop.drop.drop.drop) ?_
    refine ra_take 6 rfl (by kernel_rfl) (by kernel_rfl) rfl (by (first | (constructor <;> first | rfl | exact RdC.rd | exact inferInstance) | exact Ex.pickF rfl rfl | exact Ex.eqlS rfl rfl | exact Ex.neqS rfl rfl | exact Ex.eqlPN rfl rfl | exact Ex.neqPN rfl rfl | exact Ex.eqlSN rfl rfl | exact Ex.neqSN rfl rfl | exact Ex.lenStr rfl)) rfl (by first | exact fun _ h => h | exact fun _ h => h.drop | exact fun _ h => h.drop.drop | exact fun _ h => h.drop.drop.drop | exact fun _ h => h.drop.drop.drop.drop) ?_
    refine ra_take 7 rfl (by kernel_rfl) (by kernel_rfl) rfl (by (first | (constructor <;> first | rfl | exact RdC.rd | exact inferInstance) | exact Ex.pickF rfl rfl | exact Ex.eqlS rfl rfl | exact Ex.neqS rfl rfl | exact Ex.eqlPN rfl rfl | exact Ex.neqPN rfl rfl | exact Ex.eqlSN rfl rfl | exact Ex.neqSN rfl rfl | exact Ex.lenStr rfl)) rfl (by first | exact fun _ h => h | exact fun _ h => h.drop | exact fun _ h => h.drop.drop | exact fun _ h => h.drop.drop.drop | exact fun _ h => h.drop.drop.drop.drop) ?_
    refine ra_rw (by rw [wrap64 (by omega) (by omega)]) ?_
    refine ra_take 8 rfl (by kernel_rfl) (by kernel_rfl) rfl (by (first | (constructor <;> first | rfl | exact RdC.rd | exact inferInstance) | exact Ex.pickF rfl rfl | exact Ex.eqlS rfl rfl | exact Ex.neqS rfl rfl | exact Ex.eqlPN rfl rfl | exact Ex.neqPN rfl rfl | exact Ex.eqlSN rfl rfl | exact Ex.neqSN rfl rfl | exact Ex.lenStr rfl)) rfl (by first | exact fun _ h => h | exact fun _ h => h.drop | exact fun _ h => h.drop.drop | exact fun _ h => h.drop.drop.drop | exact fun _ h => h.drop.drop.drop.drop) ?_
    refine ra_rw (v := .int .i64 ((9 + k : Nat) : Int)) (by rw [wrap64 (by omega) (by omega)]; simp) ?_
    refine ra_take 9 rfl (by kernel_rfl) (by kernel_rfl) rfl (ex_sliceStr (i := 9) (j := 9 + k) rfl (.inr ⟨_, _, rfl, rfl⟩) (.inr ⟨_, _, rfl, rfl⟩) (by omega) (by omega)) rfl (by first | exact fun _ h => h | exact fun _ h => h.drop | exact fun _ h => h.drop.drop | exact fun _ h => h.drop.drop.drop | exact fun _ h => h.drop.drop.drop.drop) ?_
    refine ra_take 10 rfl (by kernel_rfl) (by kernel_rfl) rfl (ex_build rfl) rfl (by first | exact fun _ h => h | exact fun _ h => h.drop | exact fun _ h => h.drop.drop | exact fun _ h => h.drop.drop.drop | exact fun _ h => h.drop.drop.drop.drop) ?_
    refine ra_all (rs := [11]) (by kernel_rfl) rfl ?_
    refine each_op rfl rfl rfl (opR_alloc fun bm => ⟨.inr (by first | exact fun _ h => h | exact fun _ h => h.drop | exact fun _ h => h.drop.drop | exact fun _ h => h.drop.drop.drop | exact fun _ h => h.drop.drop.drop.drop), ?_⟩) each_nil
    refine ra_all (rs := [12]) (by kernel_rfl) rfl ?_
    refine each_opN rfl rfl (opR_store rfl rfl rfl rfl ⟨.inl (by kernel_rfl), ?_⟩) each_nil
    refine ra_end (by kernel_rfl) (qe_then ?_)
    refine ct_heap (H' := Blk bm (.cells #[.int .i64 m.id.from_, .int .u32 m.id.count, .string m.data] 34 (0, 0)) :: Blk bs (.cells #[.string s'] 9 (0, 0)) :: gc z none :: T) (fun w h => by rw [hm]; exact h) ?_
    refine ct_sub (τ := [(0, y), (1, .pointer (some ⟨bs, 0, none⟩)), (7, .pointer (some ⟨bm, 0, none⟩)), (5, .int .u32 (k : Int))]) ⟨rfl, rfl, rfl, rfl, trivial⟩ ?_
    ((repeat refine ct_seq ?_); refine ct_region ?_)
    (first | refine rs_ex rfl (by (first | (constructor <;> first | rfl | exact RdC.rd | exact inferInstance) | exact Ex.pickF rfl rfl | exact Ex.eqlS rfl rfl | exact Ex.neqS rfl rfl | exact Ex.eqlPN rfl rfl | exact Ex.neqPN rfl rfl | exact Ex.eqlSN rfl rfl | exact Ex.neqSN rfl rfl | exact Ex.lenStr rfl)) rfl ?_ | refine rs_skip rfl rfl ?_)
    (first | refine rs_ex rfl (by (first | (constructor <;> first | rfl | exact RdC.rd | exact inferInstance) | exact Ex.pickF rfl rfl | exact Ex.eqlS rfl rfl | exact Ex.neqS rfl rfl | exact Ex.eqlPN rfl rfl | exact Ex.neqPN rfl rfl | exact Ex.eqlSN rfl rfl | exact Ex.neqSN rfl rfl | exact Ex.lenStr rfl)) rfl ?_ | refine rs_skip rfl rfl ?_)
    (first | refine rs_ex rfl (by (first | (constructor <;> first | rfl | exact RdC.rd | exact inferInstance) | exact Ex.pickF rfl rfl | exact Ex.eqlS rfl rfl | exact Ex.neqS rfl rfl | exact Ex.eqlPN rfl rfl | exact Ex.neqPN rfl rfl | exact Ex.eqlSN rfl rfl | exact Ex.neqSN rfl rfl | exact Ex.lenStr rfl)) rfl ?_ | refine rs_skip rfl rfl ?_)
    refine rs_rw (by rw [wrap64 (by omega) (by omega)]) ?_
    (first | refine rs_ex rfl (by (first | (constructor <;> first | rfl | exact RdC.rd | exact inferInstance) | exact Ex.pickF rfl rfl | exact Ex.eqlS rfl rfl | exact Ex.neqS rfl rfl | exact Ex.eqlPN rfl rfl | exact Ex.neqPN rfl rfl | exact Ex.eqlSN rfl rfl | exact Ex.neqSN rfl rfl | exact Ex.lenStr rfl)) rfl ?_ | refine rs_skip rfl rfl ?_)
    refine rs_rw (v := .int .i64 ((9 + k : Nat) : Int)) (by rw [wrap64 (by omega) (by omega)]; simp) ?_
    refine rs_ex rfl (ex_sliceStr (i := 9 + k) (j := s'.size) rfl (.inr ⟨_, _, rfl, rfl⟩) (.inl ⟨rfl, rfl⟩) (by omega) (by omega)) rfl ?_
    rw [← hr]
    refine rs_opN rfl (opR_store rfl rfl rfl rfl ?_)
    refine rs_end (qe_then ?_)
    ((repeat refine ct_seq ?_); refine ct_region ?_)
    repeat (first | refine rs_ex rfl (by (first | (constructor <;> first | rfl | exact RdC.rd | exact inferInstance) | exact Ex.pickF rfl rfl | exact Ex.eqlS rfl rfl | exact Ex.neqS rfl rfl | exact Ex.eqlPN rfl rfl | exact Ex.neqPN rfl rfl | exact Ex.eqlSN rfl rfl | exact Ex.neqSN rfl rfl | exact Ex.lenStr rfl)) rfl ?_ | refine rs_skip rfl rfl ?_)
    refine rs_op rfl rfl (opR_fn rfl ((Right_c W0 m _).mono ?_))
    rintro v H' ⟨rfl, rfl⟩
    (first | refine rs_ex rfl (by (first | (constructor <;> first | rfl | exact RdC.rd | exact inferInstance) | exact Ex.pickF rfl rfl | exact Ex.eqlS rfl rfl | exact Ex.neqS rfl rfl | exact Ex.eqlPN rfl rfl | exact Ex.neqPN rfl rfl | exact Ex.eqlSN rfl rfl | exact Ex.neqSN rfl rfl | exact Ex.lenStr rfl)) rfl ?_ | refine rs_skip rfl rfl ?_)
    refine rs_split (fun hr1 => ?_) (fun hr1 => ?_)
    · repeat (first | refine rs_ex rfl (by (first | (constructor <;> first | rfl | exact RdC.rd | exact inferInstance) | exact Ex.pickF rfl rfl | exact Ex.eqlS rfl rfl | exact Ex.neqS rfl rfl | exact Ex.eqlPN rfl rfl | exact Ex.neqPN rfl rfl | exact Ex.eqlSN rfl rfl | exact Ex.neqSN rfl rfl | exact Ex.lenStr rfl)) rfl ?_ | refine rs_skip rfl rfl ?_)
      refine rs_end (qe_then ?_)
      refine ct_cond rfl (fun _ => ?_) (fun h => by cases h)
      refine ct_ret (qe_heap (fun w h => h.drop) (ret0 rfl (stop _ ?_)))
      rw [hp, if_neg (by simpa using hr1)]
    have hr2 : m.right = true := by simpa using hr1
    have hp2 : part1 s' = some (m, r) := by rw [hp, if_pos hr2]
    have hlt := part1_lt hp2
    rw [items_some hp2] at hruns
    repeat (first | refine rs_ex rfl (by (first | (constructor <;> first | rfl | exact RdC.rd | exact inferInstance) | exact Ex.pickF rfl rfl | exact Ex.eqlS rfl rfl | exact Ex.neqS rfl rfl | exact Ex.eqlPN rfl rfl | exact Ex.neqPN rfl rfl | exact Ex.eqlSN rfl rfl | exact Ex.neqSN rfl rfl | exact Ex.lenStr rfl)) rfl ?_ | refine rs_skip rfl rfl ?_)
    have hcall := (hy.call z (m, r) (Blk bm (.cells #[.int .i64 m.id.from_, .int .u32 m.id.count, .string m.data] 34 (0, 0)) :: Blk bs (.cells #[.string r] 9 (0, 0)) :: T) hz trivial)
    refine rs_op rfl rfl (opR_callV rfl rfl (CallV.heap (fun w h => At.top [_, _, _] [2, 0, 1] h) (hcall.mono ?_)))
    rintro v H' ⟨rfl, rfl⟩
    cases hj : (step z (m, r)).2 with
    | none =>
      repeat (first | refine rs_ex rfl (by (first | (constructor <;> first | rfl | exact RdC.rd | exact inferInstance) | exact Ex.pickF rfl rfl | exact Ex.eqlS rfl rfl | exact Ex.neqS rfl rfl | exact Ex.eqlPN rfl rfl | exact Ex.neqPN rfl rfl | exact Ex.eqlSN rfl rfl | exact Ex.neqSN rfl rfl | exact Ex.lenStr rfl)) rfl ?_ | refine rs_skip rfl rfl ?_)
      refine rs_end (qe_then ?_)
      refine ct_cond rfl (fun h => by cases h) (fun _ => ?_)
      refine ct_skip (qe_block 1 (qe_loop (r, (step z (m, r)).1) ⟨hy.keeps _ _ hz trivial hj, by simp only at hlt ⊢; omega, ?_⟩ hlt ⟨rfl, rfl, trivial⟩ (fun w h => ?_)))
      · rw [← hruns, runs, hj]
      · exact At.top [_, _, _] [2, 0] h
    | some j =>
      repeat (first | refine rs_ex rfl (by (first | (constructor <;> first | rfl | exact RdC.rd | exact inferInstance) | exact Ex.pickF rfl rfl | exact Ex.eqlS rfl rfl | exact Ex.neqS rfl rfl | exact Ex.eqlPN rfl rfl | exact Ex.neqPN rfl rfl | exact Ex.eqlSN rfl rfl | exact Ex.neqSN rfl rfl | exact Ex.lenStr rfl)) rfl ?_ | refine rs_skip rfl rfl ?_)
      refine rs_end (qe_then ?_)
      refine ct_cond rfl (fun _ => ?_) (fun h => by cases h)
      refine ct_ret (qe_heap (H' := Blk bs (.cells #[.string r] 9 (0, 0)) :: gc (step z (m, r)).1 (some j) :: T) (fun w h => At.top [_, _, _] [2, 0] h) (ret0 rfl ⟨items s, Blk bs (.cells #[.string r] 9 (0, 0)), rfl, ?_⟩))
      rw [← hruns, runs, hj]
  · (refine ct_exit ?_; repeat (first | refine qe_then_exit ?_ | refine qe_loop_exit ?_ | refine qe_mid_exit ?_ | refine qe_block_exit_ne rfl ?_); refine qe_block_exit ?_)
    refine qe_straight (qe_end (ret0 rfl (stop _ ?_)))
    have h9 : ¬ 9 ≤ s'.size := by simp at hc; omega
    rw [part1, if_neg h9]
end Go.Rost
