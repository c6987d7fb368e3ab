/- The batch's bytes, written as the reference does; the law IdsPacks. -/
import Derived.Test.YtgnjjbaeehbheaaPa
import Derived.Test.YtgnjjbaeehbheaaLUn
import Derived.Test.YtgnjjbaeehbheaaLNext
namespace Go.Rost
open Go Go.RowKit Go.Proofs

theorem AnyS.mono {F : Fence} {P : Program} {ops : Array Oper} {S S' : World → Prop} {X : Act → World → Prop} (h : ∀ w, S' w → S w) : ∀ (fuel : Nat) (done : List Nat) (a : Act) (w : World), AnyS F P ops S' X fuel done a w → AnyS F P ops S X fuel done a w
  | 0, _, _, _, k => k
  | fuel + 1, done, a, w, k => ⟨k.1, fun i hi => opIn_mono (fun a' w' k' => ⟨k'.1.imp id (h w'), AnyS.mono h fuel _ a' w' k'.2⟩) (k.2 i hi)⟩
/-- From here on more is owned for sure. -/
theorem ra_str {C : Cx} {ds : List Deferred} {ops : Array Oper} {S : World → Prop} {fuel : Nat} {done : List Nat} {σ : Env} {H : List Chunk} {K : Env → List Chunk → Prop} (S' : World → Prop) (h : ∀ w, S' w → S w) (k : RA C ds ops S' fuel done σ H K) : RA C ds ops S fuel done σ H K :=
  fun a w hs hw => AnyS.mono h _ _ _ _ (k a w hs hw)
/-- Behind a region: all that is known is M. -/
theorem ct_meet_block {C : Cx} {ds : List Deferred} {x : Code} {σ : Env} {H : List Chunk} {Q : Exit → Act → World → Prop} {M : Env → List Chunk → Prop} (h : CT C ds x σ H (Mid C ds M Q)) (hk : ∀ σ' H', M σ' H' → QE C ds Q .normal σ' H') : CT C ds x σ H Q := fun a w hs hw => by
  refine wpIn_mono (h a w hs hw) ?_
  intro e a' w' he
  cases e <;> first | (obtain ⟨σ', H', hm, hs', hw'⟩ := he; exact hk σ' H' hm a' w' hs' hw') | exact he
def toB (l : List UInt8) : ByteArray := ⟨l.toArray⟩
theorem toB_add (l m : List UInt8) : toB l ++ toB m = toB (l ++ m) := by
  apply ByteArray.ext
  apply Array.toList_inj.mp
  simp [toB]
theorem toB_size (l : List UInt8) : (toB l).size = l.length := by
  show (l.toArray).size = l.length
  simp
theorem toB_self (s : ByteArray) : toB s.data.toList = s := by simp [toB]
theorem RefPack_c (W0 : World) (p : Option Addr) (c : Nat) (l : List Msg) (H : List Chunk) (hr : SlR (At W0 H) p l) (hl : l.length ≤ 1000) :
    Call Try.prog W0 27 [.slice p l.length c] H (fun v H' => v = .tuple #[.string (packV l).1, .int .i64 (packV l).2] ∧ H' = H) := by
  refine call_enter Try.func27 rfl Try.ntmps27 rfl ?_
  ((repeat refine ct_seq ?_); refine ct_region ?_; repeat (first | refine rs_ex rfl (by (first | (constructor <;> first | rfl | exact RdC.rd | exact inferInstance) | exact Ex.pickF rfl rfl | exact Ex.eqlS rfl rfl | exact Ex.neqS rfl rfl | exact Ex.eqlPN rfl rfl | exact Ex.neqPN rfl rfl | exact Ex.eqlSN rfl rfl | exact Ex.neqSN rfl rfl | exact Ex.lenStr rfl)) rfl ?_ | refine rs_skip rfl rfl ?_))
  refine rs_end (qe_then ?_)
  ((repeat refine ct_seq ?_); refine ct_region ?_; repeat (first | refine rs_ex rfl (by (first | (constructor <;> first | rfl | exact RdC.rd | exact inferInstance) | exact Ex.pickF rfl rfl | exact Ex.eqlS rfl rfl | exact Ex.neqS rfl rfl | exact Ex.eqlPN rfl rfl | exact Ex.neqPN rfl rfl | exact Ex.eqlSN rfl rfl | exact Ex.neqSN rfl rfl | exact Ex.lenStr rfl)) rfl ?_ | refine rs_skip rfl rfl ?_))
  refine rs_end (qe_then ?_)
  refine ct_cond rfl (fun h => ?_) (fun h => ?_)
  · ((repeat refine ct_seq ?_); refine ct_region ?_; repeat (first | refine rs_ex rfl (by (first | (constructor <;> first | rfl | exact RdC.rd | exact inferInstance) | exact Ex.pickF rfl rfl | exact Ex.eqlS rfl rfl | exact Ex.neqS rfl rfl | exact Ex.eqlPN rfl rfl | exact Ex.neqPN rfl rfl | exact Ex.eqlSN rfl rfl | exact Ex.neqSN rfl rfl | exact Ex.lenStr rfl)) rfl ?_ | refine rs_skip rfl rfl ?_))
    have e : packV l = (⟨#[]⟩, 101) := by rw [packV, if_pos (by simp at h; omega)]
    refine rs_end (qe_then (ct_ret (ret2 rfl rfl rfl ⟨by rw [e], rfl⟩)))
  have h64 : ¬ 64 < l.length := by simp at h; omega
  refine ct_skip (qe_then ?_)
  ((repeat refine ct_seq ?_); refine ct_region ?_; repeat (first | refine rs_ex rfl (by (first | (constructor <;> first | rfl | exact RdC.rd | exact inferInstance) | exact Ex.pickF rfl rfl | exact Ex.eqlS rfl rfl | exact Ex.neqS rfl rfl | exact Ex.eqlPN rfl rfl | exact Ex.neqPN rfl rfl | exact Ex.eqlSN rfl rfl | exact Ex.neqSN rfl rfl | exact Ex.lenStr rfl)) rfl ?_ | refine rs_skip rfl rfl ?_))
  refine rs_rw (v := .int .u8 ((UInt8.ofNat l.length).toNat : Int)) (by rw [u8_wrap (by omega)]; simp) ?_
  refine rs_op rfl rfl (opR_buildSlice rfl rfl rfl rfl fun wb => ?_)
  refine rs_ex rfl (ex_bytesStr (l := [UInt8.ofNat l.length]) Try.underlying85 Try.underlying9 Try.underlying5 rfl (SlR.blk RdC.rd [UInt8.ofNat l.length] rfl) (fun e => by cases e)) rfl ?_
  repeat (first | refine rs_ex rfl (by (first | (constructor <;> first | rfl | exact RdC.rd | exact inferInstance) | exact Ex.pickF rfl rfl | exact Ex.eqlS rfl rfl | exact Ex.neqS rfl rfl | exact Ex.eqlPN rfl rfl | exact Ex.neqPN rfl rfl | exact Ex.eqlSN rfl rfl | exact Ex.neqSN rfl rfl | exact Ex.lenStr rfl)) rfl ?_ | refine rs_skip rfl rfl ?_)
  refine rs_end (qe_then ?_)
  ((repeat refine ct_seq ?_); refine ct_region ?_; repeat (first | refine rs_ex rfl (by (first | (constructor <;> first | rfl | exact RdC.rd | exact inferInstance) | exact Ex.pickF rfl rfl | exact Ex.eqlS rfl rfl | exact Ex.neqS rfl rfl | exact Ex.eqlPN rfl rfl | exact Ex.neqPN rfl rfl | exact Ex.eqlSN rfl rfl | exact Ex.neqSN rfl rfl | exact Ex.lenStr rfl)) rfl ?_ | refine rs_skip rfl rfl ?_))
  refine rs_end (qe_then ?_)
  (repeat refine ct_seq ?_)
  refine ct_block ?_
  refine ct_loop (ζ := Nat) (fun i => i ≤ l.length ∧ ∀ x ∈ l.take i, x.right = true) (fun i => [(5, .int .i64 (i : Int)), (0, .slice p l.length c), (4, .string (toB (UInt8.ofNat l.length :: (l.take i).flatMap enc1)))])
    (fun _ => H) (fun i => l.length - i) 0 ⟨Nat.zero_le _, fun x hx => by simp at hx⟩ ⟨rfl, rfl, rfl, trivial⟩ (fun w h => h.drop) ?_
  rintro i ⟨hi, hall⟩
  ((repeat refine ct_seq ?_); refine ct_region ?_; repeat (first | refine rs_ex rfl (by (first | (constructor <;> first | rfl | exact RdC.rd | exact inferInstance) | exact Ex.pickF rfl rfl | exact Ex.eqlS rfl rfl | exact Ex.neqS rfl rfl | exact Ex.eqlPN rfl rfl | exact Ex.neqPN rfl rfl | exact Ex.eqlSN rfl rfl | exact Ex.neqSN rfl rfl | exact Ex.lenStr rfl)) rfl ?_ | refine rs_skip rfl rfl ?_))
  refine rs_end (qe_then ?_)
  (repeat refine ct_seq ?_)
  refine ct_cond rfl (fun hc => ?_) (fun hc => ?_)
  · have hi1 : i < l.length := by simp at hc; exact hc
    obtain ⟨b1, o1, rfl, r1⟩ := hr.get (List.getElem?_eq_getElem hi1)
    obtain ⟨m, hm⟩ : ∃ m, m = l[i] := ⟨_, rfl⟩
    rw [← hm] at r1
    refine ct_skip (qe_then ?_)
    (repeat refine ct_seq ?_)
    refine ct_block ?_
    ((repeat refine ct_seq ?_); refine ct_region ?_; repeat (first | refine rs_ex rfl (by (first | (constructor <;> first | rfl | exact RdC.rd | exact inferInstance) | exact Ex.pickF rfl rfl | exact Ex.eqlS rfl rfl | exact Ex.neqS rfl rfl | exact Ex.eqlPN rfl rfl | exact Ex.neqPN rfl rfl | exact Ex.eqlSN rfl rfl | exact Ex.neqSN rfl rfl | exact Ex.lenStr rfl)) rfl ?_ | refine rs_skip rfl rfl ?_))
    refine rs_ex rfl (ex_indexAddr rfl rfl (by omega) (by omega)) rfl ?_
    refine rs_ex rfl (ex_loadMsg m rfl r1) rfl ?_
    refine rs_op rfl rfl (opR_fn rfl ((RefRight_c W0 m _).mono ?_))
    rintro v H' ⟨rfl, rfl⟩
    repeat (first | refine rs_ex rfl (by (first | (constructor <;> first | rfl | exact RdC.rd | exact inferInstance) | exact Ex.pickF rfl rfl | exact Ex.eqlS rfl rfl | exact Ex.neqS rfl rfl | exact Ex.eqlPN rfl rfl | exact Ex.neqPN rfl rfl | exact Ex.eqlSN rfl rfl | exact Ex.neqSN rfl rfl | exact Ex.lenStr rfl)) rfl ?_ | refine rs_skip rfl rfl ?_)
    refine rs_end (qe_then ?_)
    ((repeat refine ct_seq ?_); refine ct_region ?_; repeat (first | refine rs_ex rfl (by (first | (constructor <;> first | rfl | exact RdC.rd | exact inferInstance) | exact Ex.pickF rfl rfl | exact Ex.eqlS rfl rfl | exact Ex.neqS rfl rfl | exact Ex.eqlPN rfl rfl | exact Ex.neqPN rfl rfl | exact Ex.eqlSN rfl rfl | exact Ex.neqSN rfl rfl | exact Ex.lenStr rfl)) rfl ?_ | refine rs_skip rfl rfl ?_))
    refine rs_end (qe_then ?_)
    refine ct_cond rfl (fun hr1 => ?_) (fun hr1 => ?_)
    · ((repeat refine ct_seq ?_); refine ct_region ?_; repeat (first | refine rs_ex rfl (by (first | (constructor <;> first | rfl | exact RdC.rd | exact inferInstance) | exact Ex.pickF rfl rfl | exact Ex.eqlS rfl rfl | exact Ex.neqS rfl rfl | exact Ex.eqlPN rfl rfl | exact Ex.neqPN rfl rfl | exact Ex.eqlSN rfl rfl | exact Ex.neqSN rfl rfl | exact Ex.lenStr rfl)) rfl ?_ | refine rs_skip rfl rfl ?_))
      have e := packV_bad h64 hi1 (by rw [← hm]; simpa using hr1)
      refine rs_end (qe_then (ct_ret (ret2 rfl rfl rfl ⟨by rw [e], rfl⟩)))
    have hmr : m.right = true := by simpa using hr1
    have hm' := right_spec hmr
    have hfl := flat_enc_le (l.take i) hall
    have hen := enc1_length hmr
    have hti : (l.take i).length ≤ 64 := by simp; omega
    obtain ⟨A, hA⟩ : ∃ A, A = UInt8.ofNat l.length :: (l.take i).flatMap enc1 := ⟨_, rfl⟩
    have hAl : A.length ≤ 100000 := by rw [hA, List.length_cons]; omega
    rw [← hA]
    refine ct_skip (qe_then ?_)
    refine ct_sub (τ := [(5, .int .i64 (i : Int)), (0, .slice (some ⟨b1, o1, none⟩) l.length c), (4, .string (toB A))]) ⟨rfl, rfl, rfl, trivial⟩ ?_
    have hlast : toB (A ++ [UInt8.ofNat m.id.from_.toNat] ++ putL m.id.count ++ putL (m.data.size : Int)) ++ m.data = toB (A ++ enc1 m) := by
      have h1 := toB_add (A ++ [UInt8.ofNat m.id.from_.toNat] ++ putL m.id.count ++ putL (m.data.size : Int)) m.data.data.toList
      rw [toB_self] at h1
      rw [h1]
      simp [enc1]
    refine ct_meet_block (M := fun σ' G' => σ' = [(5, .int .i64 (i : Int)), (0, .slice (some ⟨b1, o1, none⟩) l.length c), (4, .string (toB (A ++ enc1 m)))] ∧ G' = H') (ct_draw0 (by kernel_rfl) ?_) ?_
    refine ra_take 0 rfl (by kernel_rfl) (by kernel_rfl) rfl (by (first | (constructor <;> first | rfl | exact RdC.rd | exact inferInstance) | exact Ex.pickF rfl rfl | exact Ex.eqlS rfl rfl | exact Ex.neqS rfl rfl | exact Ex.eqlPN rfl rfl | exact Ex.neqPN rfl rfl | exact Ex.eqlSN rfl rfl | exact Ex.neqSN rfl rfl | exact Ex.lenStr rfl)) rfl (by first | exact fun _ h => h | exact fun _ h => h.drop | exact fun _ h => h.drop.drop | exact fun _ h => h.drop.drop.drop | exact fun _ h => h.drop.drop.drop.drop) ?_
    refine ra_take 1 rfl (by kernel_rfl) (by kernel_rfl) rfl (by (first | (constructor <;> first | rfl | exact RdC.rd | exact inferInstance) | exact Ex.pickF rfl rfl | exact Ex.eqlS rfl rfl | exact Ex.neqS rfl rfl | exact Ex.eqlPN rfl rfl | exact Ex.neqPN rfl rfl | exact Ex.eqlSN rfl rfl | exact Ex.neqSN rfl rfl | exact Ex.lenStr rfl)) rfl (by first | exact fun _ h => h | exact fun _ h => h.drop | exact fun _ h => h.drop.drop | exact fun _ h => h.drop.drop.drop | exact fun _ h => h.drop.drop.drop.drop) ?_
    refine ra_take 2 rfl (by kernel_rfl) (by kernel_rfl) rfl (by (first | (constructor <;> first | rfl | exact RdC.rd | exact inferInstance) | exact Ex.pickF rfl rfl | exact Ex.eqlS rfl rfl | exact Ex.neqS rfl rfl | exact Ex.eqlPN rfl rfl | exact Ex.neqPN rfl rfl | exact Ex.eqlSN rfl rfl | exact Ex.neqSN rfl rfl | exact Ex.lenStr rfl)) rfl (by first | exact fun _ h => h | exact fun _ h => h.drop | exact fun _ h => h.drop.drop | exact fun _ h => h.drop.drop.drop | exact fun _ h => h.drop.drop.drop.drop) ?_
    refine ra_take 3 rfl (by kernel_rfl) (by kernel_rfl) rfl (ex_indexAddr rfl rfl (by omega) (by omega)) rfl (by first | exact fun _ h => h | exact fun _ h => h.drop | exact fun _ h => h.drop.drop | exact fun _ h => h.drop.drop.drop | exact fun _ h => h.drop.drop.drop.drop) ?_
    refine ra_take 4 rfl (by kernel_rfl) (by kernel_rfl) rfl (by (first | (constructor <;> first | rfl | exact RdC.rd | exact inferInstance) | exact Ex.pickF rfl rfl | exact Ex.eqlS rfl rfl | exact Ex.neqS rfl rfl | exact Ex.eqlPN rfl rfl | exact Ex.neqPN rfl rfl | exact Ex.eqlSN rfl rfl | exact Ex.neqSN rfl rfl | exact Ex.lenStr rfl)) rfl (by first | exact fun _ h => h | exact fun _ h => h.drop | exact fun _ h => h.drop.drop | exact fun _ h => h.drop.drop.drop | exact fun _ h => h.drop.drop.drop.drop) ?_
    refine ra_take 5 rfl (by kernel_rfl) (by kernel_rfl) rfl (by (first | (constructor <;> first | rfl | exact RdC.rd | exact inferInstance) | exact Ex.pickF rfl rfl | exact Ex.eqlS rfl rfl | exact Ex.neqS rfl rfl | exact Ex.eqlPN rfl rfl | exact Ex.neqPN rfl rfl | exact Ex.eqlSN rfl rfl | exact Ex.neqSN rfl rfl | exact Ex.lenStr rfl)) rfl (by first | exact fun _ h => h | exact fun _ h => h.drop | exact fun _ h => h.drop.drop | exact fun _ h => h.drop.drop.drop | exact fun _ h => h.drop.drop.drop.drop) ?_
    refine ra_take 6 rfl (by kernel_rfl) (by kernel_rfl) rfl (ex_loadCell (k := 0) rfl r1 rfl) rfl (by first | exact fun _ h => h | exact fun _ h => h.drop | exact fun _ h => h.drop.drop | exact fun _ h => h.drop.drop.drop | exact fun _ h => h.drop.drop.drop.drop) ?_
    refine ra_take 7 rfl (by kernel_rfl) (by kernel_rfl) rfl (by (first | (constructor <;> first | rfl | exact RdC.rd | exact inferInstance) | exact Ex.pickF rfl rfl | exact Ex.eqlS rfl rfl | exact Ex.neqS rfl rfl | exact Ex.eqlPN rfl rfl | exact Ex.neqPN rfl rfl | exact Ex.eqlSN rfl rfl | exact Ex.neqSN rfl rfl | exact Ex.lenStr rfl)) rfl (by first | exact fun _ h => h | exact fun _ h => h.drop | exact fun _ h => h.drop.drop | exact fun _ h => h.drop.drop.drop | exact fun _ h => h.drop.drop.drop.drop) ?_
    refine ra_rw (v := .int .u8 ((UInt8.ofNat m.id.from_.toNat).toNat : Int)) (by rw [u8_wrap hm'.1]) ?_
    refine ra_take 11 rfl (by kernel_rfl) (by kernel_rfl) rfl (by (first | (constructor <;> first | rfl | exact RdC.rd | exact inferInstance) | exact Ex.pickF rfl rfl | exact Ex.eqlS rfl rfl | exact Ex.neqS rfl rfl | exact Ex.eqlPN rfl rfl | exact Ex.neqPN rfl rfl | exact Ex.eqlSN rfl rfl | exact Ex.neqSN rfl rfl | exact Ex.lenStr rfl)) rfl (by first | exact fun _ h => h | exact fun _ h => h.drop | exact fun _ h => h.drop.drop | exact fun _ h => h.drop.drop.drop | exact fun _ h => h.drop.drop.drop.drop) ?_
    refine ra_take 12 rfl (by kernel_rfl) (by kernel_rfl) rfl (by (first | (constructor <;> first | rfl | exact RdC.rd | exact inferInstance) | exact Ex.pickF rfl rfl | exact Ex.eqlS rfl rfl | exact Ex.neqS rfl rfl | exact Ex.eqlPN rfl rfl | exact Ex.neqPN rfl rfl | exact Ex.eqlSN rfl rfl | exact Ex.neqSN rfl rfl | exact Ex.lenStr rfl)) rfl (by first | exact fun _ h => h | exact fun _ h => h.drop | exact fun _ h => h.drop.drop | exact fun _ h => h.drop.drop.drop | exact fun _ h => h.drop.drop.drop.drop) ?_
    refine ra_take 13 rfl (by kernel_rfl) (by kernel_rfl) rfl (ex_indexAddr rfl rfl (by omega) (by omega)) rfl (by first | exact fun _ h => h | exact fun _ h => h.drop | exact fun _ h => h.drop.drop | exact fun _ h => h.drop.drop.drop | exact fun _ h => h.drop.drop.drop.drop) ?_
    refine ra_take 14 rfl (by kernel_rfl) (by kernel_rfl) rfl (by (first | (constructor <;> first | rfl | exact RdC.rd | exact inferInstance) | exact Ex.pickF rfl rfl | exact Ex.eqlS rfl rfl | exact Ex.neqS rfl rfl | exact Ex.eqlPN rfl rfl | exact Ex.neqPN rfl rfl | exact Ex.eqlSN rfl rfl | exact Ex.neqSN rfl rfl | exact Ex.lenStr rfl)) rfl (by first | exact fun _ h => h | exact fun _ h => h.drop | exact fun _ h => h.drop.drop | exact fun _ h => h.drop.drop.drop | exact fun _ h => h.drop.drop.drop.drop) ?_
    refine ra_take 15 rfl (by kernel_rfl) (by kernel_rfl) rfl (by (first | (constructor <;> first | rfl | exact RdC.rd | exact inferInstance) | exact Ex.pickF rfl rfl | exact Ex.eqlS rfl rfl | exact Ex.neqS rfl rfl | exact Ex.eqlPN rfl rfl | exact Ex.neqPN rfl rfl | exact Ex.eqlSN rfl rfl | exact Ex.neqSN rfl rfl | exact Ex.lenStr rfl)) rfl (by first | exact fun _ h => h | exact fun _ h => h.drop | exact fun _ h => h.drop.drop | exact fun _ h => h.drop.drop.drop | exact fun _ h => h.drop.drop.drop.drop) ?_
    refine ra_take 16 rfl (by kernel_rfl) (by kernel_rfl) rfl (ex_loadCell (k := 1) rfl r1 rfl) rfl (by first | exact fun _ h => h | exact fun _ h => h.drop | exact fun _ h => h.drop.drop | exact fun _ h => h.drop.drop.drop | exact fun _ h => h.drop.drop.drop.drop) ?_
    refine ra_take 19 rfl (by kernel_rfl) (by kernel_rfl) rfl (by (first | (constructor <;> first | rfl | exact RdC.rd | exact inferInstance) | exact Ex.pickF rfl rfl | exact Ex.eqlS rfl rfl | exact Ex.neqS rfl rfl | exact Ex.eqlPN rfl rfl | exact Ex.neqPN rfl rfl | exact Ex.eqlSN rfl rfl | exact Ex.neqSN rfl rfl | exact Ex.lenStr rfl)) rfl (by first | exact fun _ h => h | exact fun _ h => h.drop | exact fun _ h => h.drop.drop | exact fun _ h => h.drop.drop.drop | exact fun _ h => h.drop.drop.drop.drop) ?_
    refine ra_take 20 rfl (by kernel_rfl) (by kernel_rfl) rfl (by (first | (constructor <;> first | rfl | exact RdC.rd | exact inferInstance) | exact Ex.pickF rfl rfl | exact Ex.eqlS rfl rfl | exact Ex.neqS rfl rfl | exact Ex.eqlPN rfl rfl | exact Ex.neqPN rfl rfl | exact Ex.eqlSN rfl rfl | exact Ex.neqSN rfl rfl | exact Ex.lenStr rfl)) rfl (by first | exact fun _ h => h | exact fun _ h => h.drop | exact fun _ h => h.drop.drop | exact fun _ h => h.drop.drop.drop | exact fun _ h => h.drop.drop.drop.drop) ?_
    refine ra_take 21 rfl (by kernel_rfl) (by kernel_rfl) rfl (ex_indexAddr rfl rfl (by omega) (by omega)) rfl (by first | exact fun _ h => h | exact fun _ h => h.drop | exact fun _ h => h.drop.drop | exact fun _ h => h.drop.drop.drop | exact fun _ h => h.drop.drop.drop.drop) ?_
    refine ra_take 22 rfl (by kernel_rfl) (by kernel_rfl) rfl (by (first | (constructor <;> first | rfl | exact RdC.rd | exact inferInstance) | exact Ex.pickF rfl rfl | exact Ex.eqlS rfl rfl | exact Ex.neqS rfl rfl | exact Ex.eqlPN rfl rfl | exact Ex.neqPN rfl rfl | exact Ex.eqlSN rfl rfl | exact Ex.neqSN rfl rfl | exact Ex.lenStr rfl)) rfl (by first | exact fun _ h => h | exact fun _ h => h.drop | exact fun _ h => h.drop.drop | exact fun _ h => h.drop.drop.drop | exact fun _ h => h.drop.drop.drop.drop) ?_
    refine ra_take 23 rfl (by kernel_rfl) (by kernel_rfl) rfl (ex_loadCell (k := 2) rfl r1 rfl) rfl (by first | exact fun _ h => h | exact fun _ h => h.drop | exact fun _ h => h.drop.drop | exact fun _ h => h.drop.drop.drop | exact fun _ h => h.drop.drop.drop.drop) ?_
    refine ra_take 24 rfl (by kernel_rfl) (by kernel_rfl) rfl (by (first | (constructor <;> first | rfl | exact RdC.rd | exact inferInstance) | exact Ex.pickF rfl rfl | exact Ex.eqlS rfl rfl | exact Ex.neqS rfl rfl | exact Ex.eqlPN rfl rfl | exact Ex.neqPN rfl rfl | exact Ex.eqlSN rfl rfl | exact Ex.neqSN rfl rfl | exact Ex.lenStr rfl)) rfl (by first | exact fun _ h => h | exact fun _ h => h.drop | exact fun _ h => h.drop.drop | exact fun _ h => h.drop.drop.drop | exact fun _ h => h.drop.drop.drop.drop) ?_
    refine ra_take 25 rfl (by kernel_rfl) (by kernel_rfl) rfl (by (first | (constructor <;> first | rfl | exact RdC.rd | exact inferInstance) | exact Ex.pickF rfl rfl | exact Ex.eqlS rfl rfl | exact Ex.neqS rfl rfl | exact Ex.eqlPN rfl rfl | exact Ex.neqPN rfl rfl | exact Ex.eqlSN rfl rfl | exact Ex.neqSN rfl rfl | exact Ex.lenStr rfl)) rfl (by first | exact fun _ h => h | exact fun _ h => h.drop | exact fun _ h => h.drop.drop | exact fun _ h => h.drop.drop.drop | exact fun _ h => h.drop.drop.drop.drop) ?_
    refine ra_rw (by rw [wrap32 (by omega) (by omega)]) ?_
    refine ra_take 28 rfl (by kernel_rfl) (by kernel_rfl) rfl (by (first | (constructor <;> first | rfl | exact RdC.rd | exact inferInstance) | exact Ex.pickF rfl rfl | exact Ex.eqlS rfl rfl | exact Ex.neqS rfl rfl | exact Ex.eqlPN rfl rfl | exact Ex.neqPN rfl rfl | exact Ex.eqlSN rfl rfl | exact Ex.neqSN rfl rfl | exact Ex.lenStr rfl)) rfl (by first | exact fun _ h => h | exact fun _ h => h.drop | exact fun _ h => h.drop.drop | exact fun _ h => h.drop.drop.drop | exact fun _ h => h.drop.drop.drop.drop) ?_
    refine ra_take 29 rfl (by kernel_rfl) (by kernel_rfl) rfl (by (first | (constructor <;> first | rfl | exact RdC.rd | exact inferInstance) | exact Ex.pickF rfl rfl | exact Ex.eqlS rfl rfl | exact Ex.neqS rfl rfl | exact Ex.eqlPN rfl rfl | exact Ex.neqPN rfl rfl | exact Ex.eqlSN rfl rfl | exact Ex.neqSN rfl rfl | exact Ex.lenStr rfl)) rfl (by first | exact fun _ h => h | exact fun _ h => h.drop | exact fun _ h => h.drop.drop | exact fun _ h => h.drop.drop.drop | exact fun _ h => h.drop.drop.drop.drop) ?_
    refine ra_take 30 rfl (by kernel_rfl) (by kernel_rfl) rfl (ex_indexAddr rfl rfl (by omega) (by omega)) rfl (by first | exact fun _ h => h | exact fun _ h => h.drop | exact fun _ h => h.drop.drop | exact fun _ h => h.drop.drop.drop | exact fun _ h => h.drop.drop.drop.drop) ?_
    refine ra_take 31 rfl (by kernel_rfl) (by kernel_rfl) rfl (by (first | (constructor <;> first | rfl | exact RdC.rd | exact inferInstance) | exact Ex.pickF rfl rfl | exact Ex.eqlS rfl rfl | exact Ex.neqS rfl rfl | exact Ex.eqlPN rfl rfl | exact Ex.neqPN rfl rfl | exact Ex.eqlSN rfl rfl | exact Ex.neqSN rfl rfl | exact Ex.lenStr rfl)) rfl (by first | exact fun _ h => h | exact fun _ h => h.drop | exact fun _ h => h.drop.drop | exact fun _ h => h.drop.drop.drop | exact fun _ h => h.drop.drop.drop.drop) ?_
    refine ra_take 32 rfl (by kernel_rfl) (by kernel_rfl) rfl (ex_loadCell (k := 2) rfl r1 rfl) rfl (by first | exact fun _ h => h | exact fun _ h => h.drop | exact fun _ h => h.drop.drop | exact fun _ h => h.drop.drop.drop | exact fun _ h => h.drop.drop.drop.drop) ?_
    refine ra_all (rs := [8, 17]) (by kernel_rfl) rfl ?_
    refine each_op rfl rfl rfl (opR_buildSlice rfl rfl rfl rfl fun wb2 => ⟨.inr (by first | exact fun _ h => h | exact fun _ h => h.drop | exact fun _ h => h.drop.drop | exact fun _ h => h.drop.drop.drop | exact fun _ h => h.drop.drop.drop.drop), ?_⟩) (each_op rfl rfl rfl (opR_fn rfl ((RefPut_c W0 m.id.count _ (by omega)).mono ?_)) each_nil)
    · refine ra_str (At W0 (Blk wb2 (.cells #[.int .u8 ((UInt8.ofNat m.id.from_.toNat).toNat : Int)] 5 (0, 0)) :: _)) (fun w h => h.drop) ?_
      refine ra_take 9 rfl (by kernel_rfl) (by kernel_rfl) rfl (ex_bytesStr (l := [UInt8.ofNat m.id.from_.toNat]) Try.underlying85 Try.underlying9 Try.underlying5 rfl (SlR.blk RdC.rd [UInt8.ofNat m.id.from_.toNat] rfl) (fun e => by cases e)) rfl (by first | exact fun _ h => h | exact fun _ h => h.drop | exact fun _ h => h.drop.drop | exact fun _ h => h.drop.drop.drop | exact fun _ h => h.drop.drop.drop.drop) ?_
      refine ra_take 10 rfl (by kernel_rfl) (by kernel_rfl) rfl (ex_addS (a := toB A) (b := toB [UInt8.ofNat m.id.from_.toNat]) rfl rfl (by rw [toB_size, toB_size]; simp; omega)) rfl (by first | exact fun _ h => h | exact fun _ h => h.drop | exact fun _ h => h.drop.drop | exact fun _ h => h.drop.drop.drop | exact fun _ h => h.drop.drop.drop.drop) ?_
      refine ra_rw (by rw [toB_add]) ?_
      refine ra_all (rs := [17]) (by kernel_rfl) rfl ?_
      refine each_op rfl rfl rfl (opR_fn rfl ((RefPut_c W0 m.id.count _ (by omega)).mono ?_)) each_nil
      rintro v G' ⟨rfl, rfl⟩
      refine ⟨.inr (fun w h => h), ?_⟩
      refine ra_take 18 rfl (by kernel_rfl) (by kernel_rfl) rfl (ex_addS (a := toB (A ++ [UInt8.ofNat m.id.from_.toNat])) (b := toB (putL m.id.count)) rfl rfl (by rw [toB_size, toB_size]; simp [putL]; omega)) rfl (by first | exact fun _ h => h | exact fun _ h => h.drop | exact fun _ h => h.drop.drop | exact fun _ h => h.drop.drop.drop | exact fun _ h => h.drop.drop.drop.drop) ?_
      refine ra_rw (by rw [toB_add]) ?_
      refine ra_all (rs := [26]) (by kernel_rfl) rfl ?_
      refine each_op rfl rfl rfl (opR_fn rfl ((RefPut_c W0 (m.data.size : Int) _ (by omega)).mono ?_)) each_nil
      rintro v G' ⟨rfl, rfl⟩
      refine ⟨.inr (fun w h => h), ?_⟩
      refine ra_take 27 rfl (by kernel_rfl) (by kernel_rfl) rfl (ex_addS (a := toB (A ++ [UInt8.ofNat m.id.from_.toNat] ++ putL m.id.count)) (b := toB (putL (m.data.size : Int))) rfl rfl (by rw [toB_size, toB_size]; simp [putL]; omega)) rfl (by first | exact fun _ h => h | exact fun _ h => h.drop | exact fun _ h => h.drop.drop | exact fun _ h => h.drop.drop.drop | exact fun _ h => h.drop.drop.drop.drop) ?_
      refine ra_rw (by rw [toB_add]) ?_
      refine ra_take 33 rfl (by kernel_rfl) (by kernel_rfl) rfl (ex_addS (a := toB (A ++ [UInt8.ofNat m.id.from_.toNat] ++ putL m.id.count ++ putL (m.data.size : Int))) (b := m.data) rfl rfl (by rw [toB_size]; simp [putL]; omega)) rfl (by first | exact fun _ h => h | exact fun _ h => h.drop | exact fun _ h => h.drop.drop | exact fun _ h => h.drop.drop.drop | exact fun _ h => h.drop.drop.drop.drop) ?_
      refine ra_rw (v := .string (toB (A ++ enc1 m))) (congrArg Value.string hlast) ?_
      refine ra_take 34 rfl (by kernel_rfl) (by kernel_rfl) rfl (by (first | (constructor <;> first | rfl | exact RdC.rd | exact inferInstance) | exact Ex.pickF rfl rfl | exact Ex.eqlS rfl rfl | exact Ex.neqS rfl rfl | exact Ex.eqlPN rfl rfl | exact Ex.neqPN rfl rfl | exact Ex.eqlSN rfl rfl | exact Ex.neqSN rfl rfl | exact Ex.lenStr rfl)) rfl (by first | exact fun _ h => h | exact fun _ h => h.drop | exact fun _ h => h.drop.drop | exact fun _ h => h.drop.drop.drop | exact fun _ h => h.drop.drop.drop.drop) ?_
      refine ra_end (by kernel_rfl) (qe_mid ⟨rfl, rfl⟩ ⟨rfl, rfl, rfl, trivial⟩ (fun w h => h.drop))
    · rintro v G' ⟨rfl, rfl⟩
      refine ⟨.inr (fun w h => h), ?_⟩
      refine ra_all (rs := [8, 26]) (by kernel_rfl) rfl ?_
      refine each_op rfl rfl rfl (opR_buildSlice rfl rfl rfl rfl fun wb2 => ⟨.inr (by first | exact fun _ h => h | exact fun _ h => h.drop | exact fun _ h => h.drop.drop | exact fun _ h => h.drop.drop.drop | exact fun _ h => h.drop.drop.drop.drop), ?_⟩) (each_op rfl rfl rfl (opR_fn rfl ((RefPut_c W0 (m.data.size : Int) _ (by omega)).mono ?_)) each_nil)
      · refine ra_str (At W0 (Blk wb2 (.cells #[.int .u8 ((UInt8.ofNat m.id.from_.toNat).toNat : Int)] 5 (0, 0)) :: _)) (fun w h => h.drop) ?_
        refine ra_take 9 rfl (by kernel_rfl) (by kernel_rfl) rfl (ex_bytesStr (l := [UInt8.ofNat m.id.from_.toNat]) Try.underlying85 Try.underlying9 Try.underlying5 rfl (SlR.blk RdC.rd [UInt8.ofNat m.id.from_.toNat] rfl) (fun e => by cases e)) rfl (by first | exact fun _ h => h | exact fun _ h => h.drop | exact fun _ h => h.drop.drop | exact fun _ h => h.drop.drop.drop | exact fun _ h => h.drop.drop.drop.drop) ?_
        refine ra_take 10 rfl (by kernel_rfl) (by kernel_rfl) rfl (ex_addS (a := toB A) (b := toB [UInt8.ofNat m.id.from_.toNat]) rfl rfl (by rw [toB_size, toB_size]; simp; omega)) rfl (by first | exact fun _ h => h | exact fun _ h => h.drop | exact fun _ h => h.drop.drop | exact fun _ h => h.drop.drop.drop | exact fun _ h => h.drop.drop.drop.drop) ?_
        refine ra_rw (by rw [toB_add]) ?_
        refine ra_take 18 rfl (by kernel_rfl) (by kernel_rfl) rfl (ex_addS (a := toB (A ++ [UInt8.ofNat m.id.from_.toNat])) (b := toB (putL m.id.count)) rfl rfl (by rw [toB_size, toB_size]; simp [putL]; omega)) rfl (by first | exact fun _ h => h | exact fun _ h => h.drop | exact fun _ h => h.drop.drop | exact fun _ h => h.drop.drop.drop | exact fun _ h => h.drop.drop.drop.drop) ?_
        refine ra_rw (by rw [toB_add]) ?_
        refine ra_all (rs := [26]) (by kernel_rfl) rfl ?_
        refine each_op rfl rfl rfl (opR_fn rfl ((RefPut_c W0 (m.data.size : Int) _ (by omega)).mono ?_)) each_nil
        rintro v G' ⟨rfl, rfl⟩
        refine ⟨.inr (fun w h => h), ?_⟩
        refine ra_take 27 rfl (by kernel_rfl) (by kernel_rfl) rfl (ex_addS (a := toB (A ++ [UInt8.ofNat m.id.from_.toNat] ++ putL m.id.count)) (b := toB (putL (m.data.size : Int))) rfl rfl (by rw [toB_size, toB_size]; simp [putL]; omega)) rfl (by first | exact fun _ h => h | exact fun _ h => h.drop | exact fun _ h => h.drop.drop | exact fun _ h => h.drop.drop.drop | exact fun _ h => h.drop.drop.drop.drop) ?_
        refine ra_rw (by rw [toB_add]) ?_
        refine ra_take 33 rfl (by kernel_rfl) (by kernel_rfl) rfl (ex_addS (a := toB (A ++ [UInt8.ofNat m.id.from_.toNat] ++ putL m.id.count ++ putL (m.data.size : Int))) (b := m.data) rfl rfl (by rw [toB_size]; simp [putL]; omega)) rfl (by first | exact fun _ h => h | exact fun _ h => h.drop | exact fun _ h => h.drop.drop | exact fun _ h => h.drop.drop.drop | exact fun _ h => h.drop.drop.drop.drop) ?_
        refine ra_rw (v := .string (toB (A ++ enc1 m))) (congrArg Value.string hlast) ?_
        refine ra_take 34 rfl (by kernel_rfl) (by kernel_rfl) rfl (by (first | (constructor <;> first | rfl | exact RdC.rd | exact inferInstance) | exact Ex.pickF rfl rfl | exact Ex.eqlS rfl rfl | exact Ex.neqS rfl rfl | exact Ex.eqlPN rfl rfl | exact Ex.neqPN rfl rfl | exact Ex.eqlSN rfl rfl | exact Ex.neqSN rfl rfl | exact Ex.lenStr rfl)) rfl (by first | exact fun _ h => h | exact fun _ h => h.drop | exact fun _ h => h.drop.drop | exact fun _ h => h.drop.drop.drop | exact fun _ h => h.drop.drop.drop.drop) ?_
        refine ra_end (by kernel_rfl) (qe_mid ⟨rfl, rfl⟩ ⟨rfl, rfl, rfl, trivial⟩ (fun w h => h.drop))
      · rintro v G' ⟨rfl, rfl⟩
        refine ⟨.inr (fun w h => h), ?_⟩
        refine ra_all (rs := [8]) (by kernel_rfl) rfl ?_
        refine each_op rfl rfl rfl (opR_buildSlice rfl rfl rfl rfl fun wb2 => ⟨.inr (by first | exact fun _ h => h | exact fun _ h => h.drop | exact fun _ h => h.drop.drop | exact fun _ h => h.drop.drop.drop | exact fun _ h => h.drop.drop.drop.drop), ?_⟩) each_nil
        refine ra_str (At W0 (Blk wb2 (.cells #[.int .u8 ((UInt8.ofNat m.id.from_.toNat).toNat : Int)] 5 (0, 0)) :: _)) (fun w h => h.drop) ?_
        refine ra_take 9 rfl (by kernel_rfl) (by kernel_rfl) rfl (ex_bytesStr (l := [UInt8.ofNat m.id.from_.toNat]) Try.underlying85 Try.underlying9 Try.underlying5 rfl (SlR.blk RdC.rd [UInt8.ofNat m.id.from_.toNat] rfl) (fun e => by cases e)) rfl (by first | exact fun _ h => h | exact fun _ h => h.drop | exact fun _ h => h.drop.drop | exact fun _ h => h.drop.drop.drop | exact fun _ h => h.drop.drop.drop.drop) ?_
        refine ra_take 10 rfl (by kernel_rfl) (by kernel_rfl) rfl (ex_addS (a := toB A) (b := toB [UInt8.ofNat m.id.from_.toNat]) rfl rfl (by rw [toB_size, toB_size]; simp; omega)) rfl (by first | exact fun _ h => h | exact fun _ h => h.drop | exact fun _ h => h.drop.drop | exact fun _ h => h.drop.drop.drop | exact fun _ h => h.drop.drop.drop.drop) ?_
        refine ra_rw (by rw [toB_add]) ?_
        refine ra_take 18 rfl (by kernel_rfl) (by kernel_rfl) rfl (ex_addS (a := toB (A ++ [UInt8.ofNat m.id.from_.toNat])) (b := toB (putL m.id.count)) rfl rfl (by rw [toB_size, toB_size]; simp [putL]; omega)) rfl (by first | exact fun _ h => h | exact fun _ h => h.drop | exact fun _ h => h.drop.drop | exact fun _ h => h.drop.drop.drop | exact fun _ h => h.drop.drop.drop.drop) ?_
        refine ra_rw (by rw [toB_add]) ?_
        refine ra_take 27 rfl (by kernel_rfl) (by kernel_rfl) rfl (ex_addS (a := toB (A ++ [UInt8.ofNat m.id.from_.toNat] ++ putL m.id.count)) (b := toB (putL (m.data.size : Int))) rfl rfl (by rw [toB_size, toB_size]; simp [putL]; omega)) rfl (by first | exact fun _ h => h | exact fun _ h => h.drop | exact fun _ h => h.drop.drop | exact fun _ h => h.drop.drop.drop | exact fun _ h => h.drop.drop.drop.drop) ?_
        refine ra_rw (by rw [toB_add]) ?_
        refine ra_take 33 rfl (by kernel_rfl) (by kernel_rfl) rfl (ex_addS (a := toB (A ++ [UInt8.ofNat m.id.from_.toNat] ++ putL m.id.count ++ putL (m.data.size : Int))) (b := m.data) rfl rfl (by rw [toB_size]; simp [putL]; omega)) rfl (by first | exact fun _ h => h | exact fun _ h => h.drop | exact fun _ h => h.drop.drop | exact fun _ h => h.drop.drop.drop | exact fun _ h => h.drop.drop.drop.drop) ?_
        refine ra_rw (v := .string (toB (A ++ enc1 m))) (congrArg Value.string hlast) ?_
        refine ra_take 34 rfl (by kernel_rfl) (by kernel_rfl) rfl (by (first | (constructor <;> first | rfl | exact RdC.rd | exact inferInstance) | exact Ex.pickF rfl rfl | exact Ex.eqlS rfl rfl | exact Ex.neqS rfl rfl | exact Ex.eqlPN rfl rfl | exact Ex.neqPN rfl rfl | exact Ex.eqlSN rfl rfl | exact Ex.neqSN rfl rfl | exact Ex.lenStr rfl)) rfl (by first | exact fun _ h => h | exact fun _ h => h.drop | exact fun _ h => h.drop.drop | exact fun _ h => h.drop.drop.drop | exact fun _ h => h.drop.drop.drop.drop) ?_
        refine ra_end (by kernel_rfl) (qe_mid ⟨rfl, rfl⟩ ⟨rfl, rfl, rfl, trivial⟩ (fun w h => h.drop))
    rintro σ' G' ⟨rfl, rfl⟩
    refine qe_block 1 (qe_then ?_)
    ((repeat refine ct_seq ?_); refine ct_region ?_; repeat (first | refine rs_ex rfl (by (first | (constructor <;> first | rfl | exact RdC.rd | exact inferInstance) | exact Ex.pickF rfl rfl | exact Ex.eqlS rfl rfl | exact Ex.neqS rfl rfl | exact Ex.eqlPN rfl rfl | exact Ex.neqPN rfl rfl | exact Ex.eqlSN rfl rfl | exact Ex.neqSN rfl rfl | exact Ex.lenStr rfl)) rfl ?_ | refine rs_skip rfl rfl ?_))
    refine rs_rw (by rw [wrapS (by omega)]) ?_
    repeat (first | refine rs_ex rfl (by (first | (constructor <;> first | rfl | exact RdC.rd | exact inferInstance) | exact Ex.pickF rfl rfl | exact Ex.eqlS rfl rfl | exact Ex.neqS rfl rfl | exact Ex.eqlPN rfl rfl | exact Ex.neqPN rfl rfl | exact Ex.eqlSN rfl rfl | exact Ex.neqSN rfl rfl | exact Ex.lenStr rfl)) rfl ?_ | refine rs_skip rfl rfl ?_)
    refine rs_end (qe_loop (i + 1) ⟨by omega, mem_take_succ hi1 hall (by rw [← hm]; exact hmr)⟩ (by omega) ⟨rfl, rfl, ?_, trivial⟩ (fun w h => h))
    rw [List.take_succ_eq_append_getElem hi1, ← hm, List.flatMap_append, hA]
    simp
    rfl
  · have e : i = l.length := by simp at hc; omega
    subst e
    rw [List.take_length] at hall ⊢
    have e := packV_good h64 hall
    (refine ct_exit ?_; repeat (first | refine qe_then_exit ?_ | refine qe_loop_exit ?_ | refine qe_mid_exit ?_ | refine qe_block_exit_ne rfl ?_); refine qe_block_exit ?_)
    refine qe_then ?_
    ((repeat refine ct_seq ?_); refine ct_region ?_; repeat (first | refine rs_ex rfl (by (first | (constructor <;> first | rfl | exact RdC.rd | exact inferInstance) | exact Ex.pickF rfl rfl | exact Ex.eqlS rfl rfl | exact Ex.neqS rfl rfl | exact Ex.eqlPN rfl rfl | exact Ex.neqPN rfl rfl | exact Ex.eqlSN rfl rfl | exact Ex.neqSN rfl rfl | exact Ex.lenStr rfl)) rfl ?_ | refine rs_skip rfl rfl ?_))
    refine rs_end (qe_then (ct_ret (ret2 rfl rfl rfl ⟨by rw [e]; rfl, rfl⟩)))
end Go.Rost
