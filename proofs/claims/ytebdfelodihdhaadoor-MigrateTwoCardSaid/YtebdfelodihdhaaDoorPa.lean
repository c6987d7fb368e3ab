/- The batch's bytes, written: as the package ids does, as the reference does. -/
import Derived.Test.YtebdfelodihdhaaDoorPp
import Derived.Test.YtebdfelodihdhaaDoorBk
namespace Go.Rost
open Go Go.RowKit Go.Proofs

def enc1 (m : Msg) : List UInt8 := [UInt8.ofNat m.id.from_.toNat] ++ (putL m.id.count ++ (putL (m.data.size : Int) ++ m.data.data.toList))
def packL (l : List Msg) : List UInt8 := UInt8.ofNat l.length :: l.flatMap enc1
def packV (l : List Msg) : ByteArray × Int :=
  if 64 < l.length then (⟨#[]⟩, 101) else if (l.all Msg.right) = true then (⟨(packL l).toArray⟩, 0) else (⟨#[]⟩, 100)
theorem enc1_length {m : Msg} (h : m.right = true) : (enc1 m).length ≤ 1009 := by
  have := (right_spec h).2.2.2.2
  simp [enc1, putL]
  omega
theorem flat_enc_le : ∀ (l : List Msg), (∀ x ∈ l, x.right = true) → (l.flatMap enc1).length ≤ 1009 * l.length
  | [], _ => by simp
  | m :: l, h => by
    have h1 := enc1_length (h m (by simp))
    have h2 := flat_enc_le l (fun x hx => h x (by simp [hx]))
    rw [List.flatMap_cons, List.length_append, List.length_cons]
    omega
theorem packV_bad {l : List Msg} {i : Nat} (hl : ¬ 64 < l.length) (hi : i < l.length) (h : (l[i]).right ≠ true) : packV l = (⟨#[]⟩, 100) := by
  rw [packV, if_neg hl, if_neg]
  intro e
  exact h (List.all_eq_true.1 e _ (List.getElem_mem hi))
theorem packV_good {l : List Msg} (hl : ¬ 64 < l.length) (h : ∀ x ∈ l, x.right = true) : packV l = (⟨(packL l).toArray⟩, 0) := by
  rw [packV, if_neg hl, if_pos (List.all_eq_true.2 h)]
theorem mem_take_succ {l : List Msg} {i : Nat} (hi : i < l.length) (h : ∀ x ∈ l.take i, x.right = true) (hr : (l[i]).right = true) : ∀ x ∈ l.take (i + 1), x.right = true := by
  intro x hx
  rw [List.take_succ_eq_append_getElem hi, List.mem_append, List.mem_singleton] at hx
  rcases hx with hx | rfl
  · exact h x hx
  · exact hr
theorem Pack_c (W0 : World) (p : Option Addr) (c : Nat) (l : List Msg) (H : List Chunk) (hr : SlR (At W0 H) p l) (hl : l.length ≤ 1000) :
    Call Tryd.prog W0 84 [.slice p l.length c] H (fun v H' => v = .tuple #[.string (packV l).1, .int .i64 (packV l).2] ∧ H' = H) := by
  refine call_enter Tryd.func84 rfl Tryd.ntmps84 rfl ?_
  ((repeat refine ct_seq ?_); refine ct_region ?_; repeat (first | refine rs_ex rfl (by (first | (constructor <;> first | rfl | exact RdC.rd | exact inferInstance) | exact Ex.pickF rfl rfl | exact Ex.eqlS rfl rfl | exact Ex.neqS rfl rfl | exact Ex.eqlPN rfl rfl | exact Ex.neqPN rfl rfl | exact Ex.eqlSN rfl rfl | exact Ex.neqSN rfl rfl | exact Ex.lenStr rfl)) rfl ?_ | refine rs_skip rfl rfl ?_))
  refine rs_end (qe_then ?_)
  ((repeat refine ct_seq ?_); refine ct_region ?_; repeat (first | refine rs_ex rfl (by (first | (constructor <;> first | rfl | exact RdC.rd | exact inferInstance) | exact Ex.pickF rfl rfl | exact Ex.eqlS rfl rfl | exact Ex.neqS rfl rfl | exact Ex.eqlPN rfl rfl | exact Ex.neqPN rfl rfl | exact Ex.eqlSN rfl rfl | exact Ex.neqSN rfl rfl | exact Ex.lenStr rfl)) rfl ?_ | refine rs_skip rfl rfl ?_))
  refine rs_end (qe_then ?_)
  refine ct_cond rfl (fun h => ?_) (fun h => ?_)
  · ((repeat refine ct_seq ?_); refine ct_region ?_; repeat (first | refine rs_ex rfl (by (first | (constructor <;> first | rfl | exact RdC.rd | exact inferInstance) | exact Ex.pickF rfl rfl | exact Ex.eqlS rfl rfl | exact Ex.neqS rfl rfl | exact Ex.eqlPN rfl rfl | exact Ex.neqPN rfl rfl | exact Ex.eqlSN rfl rfl | exact Ex.neqSN rfl rfl | exact Ex.lenStr rfl)) rfl ?_ | refine rs_skip rfl rfl ?_))
    have e : packV l = (⟨#[]⟩, 101) := by rw [packV, if_pos (by simp at h; omega)]
    refine rs_end (qe_then (ct_ret (ret2 rfl rfl rfl ⟨by rw [e], rfl⟩)))
  have h64 : ¬ 64 < l.length := by simp at h; omega
  refine ct_skip (qe_then ?_)
  ((repeat refine ct_seq ?_); refine ct_region ?_)
  refine rs_op rfl rfl (opR_alloc fun b => ?_)
  refine rs_end (qe_then ?_)
  refine ct_heap (fun w h => BuildC.shut (l := []) (.inl rfl) (At.sw1 (At.slt_nil (α := UInt8) 5 h))) ?_
  ((repeat refine ct_seq ?_); refine ct_region ?_; repeat (first | refine rs_ex rfl (by (first | (constructor <;> first | rfl | exact RdC.rd | exact inferInstance) | exact Ex.pickF rfl rfl | exact Ex.eqlS rfl rfl | exact Ex.neqS rfl rfl | exact Ex.eqlPN rfl rfl | exact Ex.neqPN rfl rfl | exact Ex.eqlSN rfl rfl | exact Ex.neqSN rfl rfl | exact Ex.lenStr rfl)) rfl ?_ | refine rs_skip rfl rfl ?_))
  refine rs_rw (v := .int .u8 ((UInt8.ofNat l.length).toNat : Int)) (by rw [u8_wrap (by omega)]; simp) ?_
  refine rs_op rfl rfl (opR_fn rfl ((WriteByte_c W0 b [] (UInt8.ofNat l.length) _ (by simp)).mono ?_))
  rintro v H' ⟨rfl, rfl⟩
  refine rs_end (qe_then ?_)
  ((repeat refine ct_seq ?_); refine ct_region ?_; repeat (first | refine rs_ex rfl (by (first | (constructor <;> first | rfl | exact RdC.rd | exact inferInstance) | exact Ex.pickF rfl rfl | exact Ex.eqlS rfl rfl | exact Ex.neqS rfl rfl | exact Ex.eqlPN rfl rfl | exact Ex.neqPN rfl rfl | exact Ex.eqlSN rfl rfl | exact Ex.neqSN rfl rfl | exact Ex.lenStr rfl)) rfl ?_ | refine rs_skip rfl rfl ?_))
  refine rs_end (qe_then ?_)
  (repeat refine ct_seq ?_)
  refine ct_block ?_
  refine ct_loop (ζ := Nat) (fun i => i ≤ l.length ∧ ∀ x ∈ l.take i, x.right = true) (fun i => [(16, .int .i64 (i : Int)), (15, .int .i64 (l.length : Int)), (14, .slice p l.length c), (4, .pointer (some ⟨b, 0, none⟩))])
    (fun i => BuildC b (UInt8.ofNat l.length :: (l.take i).flatMap enc1) :: H) (fun i => l.length - i) 0 ⟨Nat.zero_le _, fun x hx => by simp at hx⟩ ⟨rfl, rfl, rfl, rfl, trivial⟩ (fun w h => by simpa using h) ?_
  rintro i ⟨hi, hall⟩
  ((repeat refine ct_seq ?_); refine ct_region ?_; repeat (first | refine rs_ex rfl (by (first | (constructor <;> first | rfl | exact RdC.rd | exact inferInstance) | exact Ex.pickF rfl rfl | exact Ex.eqlS rfl rfl | exact Ex.neqS rfl rfl | exact Ex.eqlPN rfl rfl | exact Ex.neqPN rfl rfl | exact Ex.eqlSN rfl rfl | exact Ex.neqSN rfl rfl | exact Ex.lenStr rfl)) rfl ?_ | refine rs_skip rfl rfl ?_))
  refine rs_end (qe_then ?_)
  (repeat refine ct_seq ?_)
  refine ct_cond rfl (fun hc => ?_) (fun hc => ?_)
  · have hi1 : i < l.length := by simp at hc; exact hc
    obtain ⟨b1, o1, rfl, r1⟩ := hr.get (List.getElem?_eq_getElem hi1)
    obtain ⟨m, hm⟩ : ∃ m, m = l[i] := ⟨_, rfl⟩
    rw [← hm] at r1
    refine ct_skip (qe_then ?_)
    (repeat refine ct_seq ?_)
    refine ct_block ?_
    ((repeat refine ct_seq ?_); refine ct_region ?_; repeat (first | refine rs_ex rfl (by (first | (constructor <;> first | rfl | exact RdC.rd | exact inferInstance) | exact Ex.pickF rfl rfl | exact Ex.eqlS rfl rfl | exact Ex.neqS rfl rfl | exact Ex.eqlPN rfl rfl | exact Ex.neqPN rfl rfl | exact Ex.eqlSN rfl rfl | exact Ex.neqSN rfl rfl | exact Ex.lenStr rfl)) rfl ?_ | refine rs_skip rfl rfl ?_))
    refine rs_ex rfl (ex_indexAddr rfl rfl (by omega) (by omega)) rfl ?_
    refine rs_ex rfl (ex_loadMsg m rfl (r1.mono fun w h => h.drop)) rfl ?_
    refine rs_op rfl rfl (opR_alloc fun b6 => ?_)
    refine rs_opN rfl (opR_store rfl rfl rfl rfl ?_)
    refine rs_end (qe_then ?_)
    ((repeat refine ct_seq ?_); refine ct_region ?_; repeat (first | refine rs_ex rfl (by (first | (constructor <;> first | rfl | exact RdC.rd | exact inferInstance) | exact Ex.pickF rfl rfl | exact Ex.eqlS rfl rfl | exact Ex.neqS rfl rfl | exact Ex.eqlPN rfl rfl | exact Ex.neqPN rfl rfl | exact Ex.eqlSN rfl rfl | exact Ex.neqSN rfl rfl | exact Ex.lenStr rfl)) rfl ?_ | refine rs_skip rfl rfl ?_))
    refine rs_op rfl rfl (opR_fn rfl ((Right_c W0 m _).mono ?_))
    rintro v H' ⟨rfl, rfl⟩
    repeat (first | refine rs_ex rfl (by (first | (constructor <;> first | rfl | exact RdC.rd | exact inferInstance) | exact Ex.pickF rfl rfl | exact Ex.eqlS rfl rfl | exact Ex.neqS rfl rfl | exact Ex.eqlPN rfl rfl | exact Ex.neqPN rfl rfl | exact Ex.eqlSN rfl rfl | exact Ex.neqSN rfl rfl | exact Ex.lenStr rfl)) rfl ?_ | refine rs_skip rfl rfl ?_)
    refine rs_end (qe_then ?_)
    refine ct_cond rfl (fun hr1 => ?_) (fun hr1 => ?_)
    · ((repeat refine ct_seq ?_); refine ct_region ?_; repeat (first | refine rs_ex rfl (by (first | (constructor <;> first | rfl | exact RdC.rd | exact inferInstance) | exact Ex.pickF rfl rfl | exact Ex.eqlS rfl rfl | exact Ex.neqS rfl rfl | exact Ex.eqlPN rfl rfl | exact Ex.neqPN rfl rfl | exact Ex.eqlSN rfl rfl | exact Ex.neqSN rfl rfl | exact Ex.lenStr rfl)) rfl ?_ | refine rs_skip rfl rfl ?_))
      have e := packV_bad h64 hi1 (by rw [← hm]; simpa using hr1)
      refine rs_end (qe_then (ct_ret (qe_heap (fun w h => h.drop.drop) (ret2 rfl rfl rfl ⟨by rw [e], rfl⟩))))
    have hmr : m.right = true := by simpa using hr1
    have hm' := right_spec hmr
    have hfl := flat_enc_le (l.take i) hall
    have hen := enc1_length hmr
    have hti : (l.take i).length ≤ 64 := by simp; omega
    refine ct_skip (qe_then ?_)
    ((repeat refine ct_seq ?_); refine ct_region ?_; repeat (first | refine rs_ex rfl (by (first | (constructor <;> first | rfl | exact RdC.rd | exact inferInstance) | exact Ex.pickF rfl rfl | exact Ex.eqlS rfl rfl | exact Ex.neqS rfl rfl | exact Ex.eqlPN rfl rfl | exact Ex.neqPN rfl rfl | exact Ex.eqlSN rfl rfl | exact Ex.neqSN rfl rfl | exact Ex.lenStr rfl)) rfl ?_ | refine rs_skip rfl rfl ?_))
    refine rs_rw (v := .int .u8 ((UInt8.ofNat m.id.from_.toNat).toNat : Int)) (by rw [u8_wrap hm'.1]) ?_
    refine rs_op rfl rfl (opR_fn rfl (Call.heap (fun w h => h.sw1) ((WriteByte_c W0 b _ (UInt8.ofNat m.id.from_.toNat) _ (by rw [List.length_cons]; omega)).mono ?_)))
    rintro v H' ⟨rfl, rfl⟩
    refine rs_end (qe_then ?_)
    refine ct_sub (τ := [(16, .int .i64 (i : Int)), (15, .int .i64 (l.length : Int)), (14, .slice (some ⟨b1, o1, none⟩) l.length c), (4, .pointer (some ⟨b, 0, none⟩)), (6, .pointer (some ⟨b6, 0, none⟩))]) ⟨rfl, rfl, rfl, rfl, rfl, trivial⟩ ?_
    ((repeat refine ct_seq ?_); refine ct_draw0 (by kernel_rfl) ?_)
    refine ra_take 0 rfl (by kernel_rfl) (by kernel_rfl) rfl (by (first | (constructor <;> first | rfl | exact RdC.rd | exact inferInstance) | exact Ex.pickF rfl rfl | exact Ex.eqlS rfl rfl | exact Ex.neqS rfl rfl | exact Ex.eqlPN rfl rfl | exact Ex.neqPN rfl rfl | exact Ex.eqlSN rfl rfl | exact Ex.neqSN rfl rfl | exact Ex.lenStr rfl)) rfl (by first | exact fun _ h => h | exact fun _ h => h.drop | exact fun _ h => h.drop.drop | exact fun _ h => h.drop.drop.drop | exact fun _ h => h.drop.drop.drop.drop | exact fun _ h => h.drop.drop.drop.drop.drop | exact fun _ h => h.drop.drop.drop.drop.drop.drop | exact fun _ h => h.drop.drop.drop.drop.drop.drop.drop | exact fun _ h => h.drop.drop.drop.drop.drop.drop.drop.drop) ?_
    refine ra_take 1 rfl (by kernel_rfl) (by kernel_rfl) rfl (by (first | (constructor <;> first | rfl | exact RdC.rd | exact inferInstance) | exact Ex.pickF rfl rfl | exact Ex.eqlS rfl rfl | exact Ex.neqS rfl rfl | exact Ex.eqlPN rfl rfl | exact Ex.neqPN rfl rfl | exact Ex.eqlSN rfl rfl | exact Ex.neqSN rfl rfl | exact Ex.lenStr rfl)) rfl (by first | exact fun _ h => h | exact fun _ h => h.drop | exact fun _ h => h.drop.drop | exact fun _ h => h.drop.drop.drop | exact fun _ h => h.drop.drop.drop.drop | exact fun _ h => h.drop.drop.drop.drop.drop | exact fun _ h => h.drop.drop.drop.drop.drop.drop | exact fun _ h => h.drop.drop.drop.drop.drop.drop.drop | exact fun _ h => h.drop.drop.drop.drop.drop.drop.drop.drop) ?_
    refine ra_take 2 rfl (by kernel_rfl) (by kernel_rfl) rfl (by (first | (constructor <;> first | rfl | exact RdC.rd | exact inferInstance) | exact Ex.pickF rfl rfl | exact Ex.eqlS rfl rfl | exact Ex.neqS rfl rfl | exact Ex.eqlPN rfl rfl | exact Ex.neqPN rfl rfl | exact Ex.eqlSN rfl rfl | exact Ex.neqSN rfl rfl | exact Ex.lenStr rfl)) rfl (by first | exact fun _ h => h | exact fun _ h => h.drop | exact fun _ h => h.drop.drop | exact fun _ h => h.drop.drop.drop | exact fun _ h => h.drop.drop.drop.drop | exact fun _ h => h.drop.drop.drop.drop.drop | exact fun _ h => h.drop.drop.drop.drop.drop.drop | exact fun _ h => h.drop.drop.drop.drop.drop.drop.drop | exact fun _ h => h.drop.drop.drop.drop.drop.drop.drop.drop) ?_
    refine ra_take 4 rfl (by kernel_rfl) (by kernel_rfl) rfl (by (first | (constructor <;> first | rfl | exact RdC.rd | exact inferInstance) | exact Ex.pickF rfl rfl | exact Ex.eqlS rfl rfl | exact Ex.neqS rfl rfl | exact Ex.eqlPN rfl rfl | exact Ex.neqPN rfl rfl | exact Ex.eqlSN rfl rfl | exact Ex.neqSN rfl rfl | exact Ex.lenStr rfl)) rfl (by first | exact fun _ h => h | exact fun _ h => h.drop | exact fun _ h => h.drop.drop | exact fun _ h => h.drop.drop.drop | exact fun _ h => h.drop.drop.drop.drop | exact fun _ h => h.drop.drop.drop.drop.drop | exact fun _ h => h.drop.drop.drop.drop.drop.drop | exact fun _ h => h.drop.drop.drop.drop.drop.drop.drop | exact fun _ h => h.drop.drop.drop.drop.drop.drop.drop.drop) ?_
    refine ra_take 5 rfl (by kernel_rfl) (by kernel_rfl) rfl (by (first | (constructor <;> first | rfl | exact RdC.rd | exact inferInstance) | exact Ex.pickF rfl rfl | exact Ex.eqlS rfl rfl | exact Ex.neqS rfl rfl | exact Ex.eqlPN rfl rfl | exact Ex.neqPN rfl rfl | exact Ex.eqlSN rfl rfl | exact Ex.neqSN rfl rfl | exact Ex.lenStr rfl)) rfl (by first | exact fun _ h => h | exact fun _ h => h.drop | exact fun _ h => h.drop.drop | exact fun _ h => h.drop.drop.drop | exact fun _ h => h.drop.drop.drop.drop | exact fun _ h => h.drop.drop.drop.drop.drop | exact fun _ h => h.drop.drop.drop.drop.drop.drop | exact fun _ h => h.drop.drop.drop.drop.drop.drop.drop | exact fun _ h => h.drop.drop.drop.drop.drop.drop.drop.drop) ?_
    refine ra_take 6 rfl (by kernel_rfl) (by kernel_rfl) rfl (by (first | (constructor <;> first | rfl | exact RdC.rd | exact inferInstance) | exact Ex.pickF rfl rfl | exact Ex.eqlS rfl rfl | exact Ex.neqS rfl rfl | exact Ex.eqlPN rfl rfl | exact Ex.neqPN rfl rfl | exact Ex.eqlSN rfl rfl | exact Ex.neqSN rfl rfl | exact Ex.lenStr rfl)) rfl (by first | exact fun _ h => h | exact fun _ h => h.drop | exact fun _ h => h.drop.drop | exact fun _ h => h.drop.drop.drop | exact fun _ h => h.drop.drop.drop.drop | exact fun _ h => h.drop.drop.drop.drop.drop | exact fun _ h => h.drop.drop.drop.drop.drop.drop | exact fun _ h => h.drop.drop.drop.drop.drop.drop.drop | exact fun _ h => h.drop.drop.drop.drop.drop.drop.drop.drop) ?_
    refine ra_take 7 rfl (by kernel_rfl) (by kernel_rfl) rfl (by (first | (constructor <;> first | rfl | exact RdC.rd | exact inferInstance) | exact Ex.pickF rfl rfl | exact Ex.eqlS rfl rfl | exact Ex.neqS rfl rfl | exact Ex.eqlPN rfl rfl | exact Ex.neqPN rfl rfl | exact Ex.eqlSN rfl rfl | exact Ex.neqSN rfl rfl | exact Ex.lenStr rfl)) rfl (by first | exact fun _ h => h | exact fun _ h => h.drop | exact fun _ h => h.drop.drop | exact fun _ h => h.drop.drop.drop | exact fun _ h => h.drop.drop.drop.drop | exact fun _ h => h.drop.drop.drop.drop.drop | exact fun _ h => h.drop.drop.drop.drop.drop.drop | exact fun _ h => h.drop.drop.drop.drop.drop.drop.drop | exact fun _ h => h.drop.drop.drop.drop.drop.drop.drop.drop) ?_
    refine ra_rw (by rw [wrap32 (by omega) (by omega)]) ?_
    refine ra_take 9 rfl (by kernel_rfl) (by kernel_rfl) rfl (by (first | (constructor <;> first | rfl | exact RdC.rd | exact inferInstance) | exact Ex.pickF rfl rfl | exact Ex.eqlS rfl rfl | exact Ex.neqS rfl rfl | exact Ex.eqlPN rfl rfl | exact Ex.neqPN rfl rfl | exact Ex.eqlSN rfl rfl | exact Ex.neqSN rfl rfl | exact Ex.lenStr rfl)) rfl (by first | exact fun _ h => h | exact fun _ h => h.drop | exact fun _ h => h.drop.drop | exact fun _ h => h.drop.drop.drop | exact fun _ h => h.drop.drop.drop.drop | exact fun _ h => h.drop.drop.drop.drop.drop | exact fun _ h => h.drop.drop.drop.drop.drop.drop | exact fun _ h => h.drop.drop.drop.drop.drop.drop.drop | exact fun _ h => h.drop.drop.drop.drop.drop.drop.drop.drop) ?_
    refine ra_take 10 rfl (by kernel_rfl) (by kernel_rfl) rfl (by (first | (constructor <;> first | rfl | exact RdC.rd | exact inferInstance) | exact Ex.pickF rfl rfl | exact Ex.eqlS rfl rfl | exact Ex.neqS rfl rfl | exact Ex.eqlPN rfl rfl | exact Ex.neqPN rfl rfl | exact Ex.eqlSN rfl rfl | exact Ex.neqSN rfl rfl | exact Ex.lenStr rfl)) rfl (by first | exact fun _ h => h | exact fun _ h => h.drop | exact fun _ h => h.drop.drop | exact fun _ h => h.drop.drop.drop | exact fun _ h => h.drop.drop.drop.drop | exact fun _ h => h.drop.drop.drop.drop.drop | exact fun _ h => h.drop.drop.drop.drop.drop.drop | exact fun _ h => h.drop.drop.drop.drop.drop.drop.drop | exact fun _ h => h.drop.drop.drop.drop.drop.drop.drop.drop) ?_
    refine ra_all (rs := [3]) (by kernel_rfl) rfl ?_
    refine each_op rfl rfl rfl (opR_fn rfl ((Put_c W0 m.id.count _ (by omega)).mono ?_)) each_nil
    rintro v H' ⟨rfl, rfl⟩
    refine ⟨.inr (fun w h => h), ?_⟩
    refine ra_all (rs := [8]) (by kernel_rfl) rfl ?_
    refine each_op rfl rfl rfl (opR_fn rfl ((Put_c W0 (m.data.size : Int) _ (by omega)).mono ?_)) each_nil
    rintro v H' ⟨rfl, rfl⟩
    refine ⟨.inr (fun w h => h), ?_⟩
    refine ra_all (rs := [11]) (by kernel_rfl) rfl ?_
    refine each_op rfl rfl rfl (opR_buildSlice rfl rfl rfl rfl fun wb => ⟨.inr (by first | exact fun _ h => h | exact fun _ h => h.drop | exact fun _ h => h.drop.drop | exact fun _ h => h.drop.drop.drop | exact fun _ h => h.drop.drop.drop.drop | exact fun _ h => h.drop.drop.drop.drop.drop | exact fun _ h => h.drop.drop.drop.drop.drop.drop | exact fun _ h => h.drop.drop.drop.drop.drop.drop.drop | exact fun _ h => h.drop.drop.drop.drop.drop.drop.drop.drop), ?_⟩) each_nil
    refine ra_all (rs := [12]) (by kernel_rfl) rfl ?_
    have hjb : joinB [(⟨(putL m.id.count).toArray⟩ : ByteArray), ⟨(putL (m.data.size : Int)).toArray⟩, m.data] = putL m.id.count ++ (putL (m.data.size : Int) ++ m.data.data.toList) := by simp [joinB]
    refine each_op rfl rfl rfl (opR_fn rfl (Call.heap (fun w h => h.sw1) ((Lays_c W0 b _ _ _ [(⟨(putL m.id.count).toArray⟩ : ByteArray), ⟨(putL (m.data.size : Int)).toArray⟩, m.data] _ (SlR.blk RdC.rd _ rfl) ?_ (by simp)).mono ?_))) each_nil
    · rw [hjb]
      simp only [List.length_append, List.length_cons, List.length_nil, putL, size_list]
      omega
    rintro v H' rfl
    refine ⟨.inl (by kernel_rfl), ?_⟩
    rw [hjb]
    refine ra_end (by kernel_rfl) (qe_block 1 (qe_then ?_))
    ((repeat refine ct_seq ?_); refine ct_region ?_; repeat (first | refine rs_ex rfl (by (first | (constructor <;> first | rfl | exact RdC.rd | exact inferInstance) | exact Ex.pickF rfl rfl | exact Ex.eqlS rfl rfl | exact Ex.neqS rfl rfl | exact Ex.eqlPN rfl rfl | exact Ex.neqPN rfl rfl | exact Ex.eqlSN rfl rfl | exact Ex.neqSN rfl rfl | exact Ex.lenStr rfl)) rfl ?_ | refine rs_skip rfl rfl ?_))
    refine rs_rw (by rw [wrapS (by omega)]) ?_
    repeat (first | refine rs_ex rfl (by (first | (constructor <;> first | rfl | exact RdC.rd | exact inferInstance) | exact Ex.pickF rfl rfl | exact Ex.eqlS rfl rfl | exact Ex.neqS rfl rfl | exact Ex.eqlPN rfl rfl | exact Ex.neqPN rfl rfl | exact Ex.eqlSN rfl rfl | exact Ex.neqSN rfl rfl | exact Ex.lenStr rfl)) rfl ?_ | refine rs_skip rfl rfl ?_)
    refine rs_end (qe_loop (i + 1) ⟨by omega, mem_take_succ hi1 hall (by rw [← hm]; exact hmr)⟩ (by omega) ⟨rfl, rfl, rfl, rfl, trivial⟩ (fun w h => ?_))
    have h2 := At.top [_, _, _] [0] h
    rw [List.take_succ_eq_append_getElem hi1, ← hm, List.flatMap_append]
    simp [enc1] at h2 ⊢
    exact At.top [_] [0] h2
  · have e : i = l.length := by simp at hc; omega
    subst e
    rw [List.take_length] at hall ⊢
    have e := packV_good h64 hall
    have hfl := flat_enc_le l hall
    (refine ct_exit ?_; repeat (first | refine qe_then_exit ?_ | refine qe_loop_exit ?_ | refine qe_mid_exit ?_ | refine qe_block_exit_ne rfl ?_); refine qe_block_exit ?_)
    refine qe_then ?_
    ((repeat refine ct_seq ?_); refine ct_region ?_)
    refine rs_op rfl rfl (opR_fn rfl ((String_c W0 b _ _ (by simp) (by rw [List.length_cons]; omega)).mono ?_))
    rintro v H' ⟨rfl, rfl⟩
    repeat (first | refine rs_ex rfl (by (first | (constructor <;> first | rfl | exact RdC.rd | exact inferInstance) | exact Ex.pickF rfl rfl | exact Ex.eqlS rfl rfl | exact Ex.neqS rfl rfl | exact Ex.eqlPN rfl rfl | exact Ex.neqPN rfl rfl | exact Ex.eqlSN rfl rfl | exact Ex.neqSN rfl rfl | exact Ex.lenStr rfl)) rfl ?_ | refine rs_skip rfl rfl ?_)
    refine rs_end (qe_then (ct_ret (ret2 rfl rfl rfl ⟨by rw [e]; rfl, rfl⟩)))
end Go.Rost
