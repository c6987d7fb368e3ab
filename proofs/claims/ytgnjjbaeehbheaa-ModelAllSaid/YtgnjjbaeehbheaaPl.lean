/- The model's reference, without the program: all that is accepted can be delivered everywhere. -/
import Derived.Test.YtgnjjbaeehbheaaPo
import Derived.Test.YtgnjjbaeehbheaaAr
namespace Go.Rost
open Go Go.RowKit Go.Proofs

theorem ex_rem {P : Program} {S : World → Prop} {σ : Env} {T T' : TypeId} {x y : Operand} {k : IntKind} {a b : Int} (hx : σ.val x = some (.int k a)) (hy : σ.val y = some (.int k b)) (hb : b ≠ 0) : Ex P S σ (.binOp .rem T x y T') (.int k (a.tmod b)) := by
  refine Ex.any (fun ρ hρ c hop w hw => ?_) (fun _ _ e => by cases e) (fun _ e => by cases e)
  simp [execOp, hop, hρ _ _ hx, hρ _ _ hy, binOp, eqGuard, Op.intDiv, hb]
theorem wrapU64_range (n : Int) : 0 ≤ IntKind.u64.wrap n ∧ IntKind.u64.wrap n < 18446744073709551616 := by
  have h : IntKind.u64.wrap n = n % 18446744073709551616 := by simp [IntKind.wrap, IntKind.signed, IntKind.bits]
  rw [h]
  omega
theorem wrapU64_id {n : Int} (h0 : 0 ≤ n) (h1 : n < 18446744073709551616) : IntKind.u64.wrap n = n := by
  have h : IntKind.u64.wrap n = n % 18446744073709551616 := by simp [IntKind.wrap, IntKind.signed, IntKind.bits]
  rw [h]
  omega
def SeqA (l : List Msg) : Prop := ∀ f, (of l f).map (·.id.count) = upTo (of l f).length
theorem SeqA.snoc {l : List Msg} (h : SeqA l) {m : Msg} (hm : m.id.count = ((of l m.id.from_).length : Int) + 1) : SeqA (l ++ [m]) := fun f => by
  rw [of_append]
  by_cases hf : m.id.from_ = f
  · rw [of_one_self hf, List.map_append, h f, List.length_append, List.length_singleton, upTo_succ, ← hf, List.map_singleton, hm]
  · rw [of_one_ne hf, List.append_nil]; exact h f
def acc1 (f : Nat) (c : Nat) : Happ := ⟨1, (f : Int), ⟨⟨(f : Int), (c : Int) + 1⟩, ⟨#[]⟩⟩⟩
theorem racc {r : RMod} {f c : Nat} (hf : f < r.del.length) (hd : r.del.length ≤ 16) (hc : (of r.acc f).length = c) (hc1 : c ≤ 1000) : r.happen (acc1 f c) = (0, { r with acc := r.acc ++ [(acc1 f c).m] }) := by
  have h0 : ¬ ((acc1 f c).node < 0 ∨ (r.del.length : Int) ≤ (acc1 f c).node) := by show ¬ ((f : Int) < 0 ∨ (r.del.length : Int) ≤ (f : Int)); omega
  have h1 : r.accOK (acc1 f c) = true := by
    have e : (ByteArray.mk #[]).size = 0 := rfl
    show (Msg.right ⟨⟨(f : Int), (c : Int) + 1⟩, ⟨#[]⟩⟩ && (decide ((f : Int) = (f : Int)) && decide ((c : Int) + 1 = ((of r.acc (f : Int)).length : Int) + 1))) = true
    rw [hc]
    simp only [Msg.right, e, Bool.and_eq_true, decide_eq_true_eq]
    repeat' apply And.intro
    all_goals first | trivial | omega
  rw [RMod.happen, if_neg h0, if_neg (by simp [acc1]), if_pos (by rfl), if_pos h1]
theorem rdel {r : RMod} {A : List Msg} {a j k : Nat} {m : Msg} (hA : r.acc = A) (hs : SeqA A) (ha : a < k) (hk : r.del.length = k) (hd : r.del[a]? = some (j : Int)) (hm : A[j]? = some m) (hl : (a = 0 ∧ r.log = A.take j) ∨ r.log = A) :
    ∃ log', r.happen ⟨3, (a : Int), m⟩ = (0, ⟨A, log', r.del.set a ((j : Int) + 1)⟩) ∧ ((a = 0 ∧ log' = A.take (j + 1)) ∨ log' = A) := by
  obtain ⟨hj, he⟩ := List.getElem?_eq_some_iff.1 hm
  have h0 : ¬ ((a : Int) < 0 ∨ (r.del.length : Int) ≤ (a : Int)) := by omega
  rw [RMod.happen, if_neg h0, if_neg (show ¬ (3 : Int) = 2 by decide), if_neg (show ¬ (3 : Int) = 1 by decide), if_pos rfl]
  simp only [Int.toNat_natCast, hd, Option.getD_some]
  rcases hl with ⟨h00, hl⟩ | hl
  · have hlen : r.log.length = j := by rw [hl, List.length_take]; omega
    have hok : r.layOK m = true := by
      have := seq_at hs hm
      simp only [RMod.layOK, Bool.and_eq_true, decide_eq_true_eq]
      exact ⟨by rw [hA]; exact List.mem_of_getElem? hm, by rw [hl]; exact this⟩
    rw [if_pos (by omega), if_pos hok, hA]
    refine ⟨_, rfl, .inl ⟨h00, ?_⟩⟩
    rw [hl, List.take_succ_eq_append_getElem hj, he]
  · rw [if_neg (by rw [hl]; omega), if_pos (by rw [hl]; exact hm), hA]
    exact ⟨_, rfl, .inr hl⟩
end Go.Rost
