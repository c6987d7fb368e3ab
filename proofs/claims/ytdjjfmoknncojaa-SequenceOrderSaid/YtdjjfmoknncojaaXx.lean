/- More expressions: remainders, ids of messages, conversions to unsigned. -/
import Derived.Test.YtdjjfmoknncojaaSt
namespace Go.Rost
open Go Go.RowKit Go.Proofs

theorem ex_loadIdOf {S : World → Prop} {σ : Env} {x : Operand} {b o : Nat} (m : Msg) (hx : σ.val x = some (.pointer (some ⟨b, o, none⟩))) (h : Rd S b o (Enc.enc m)) : Ex Try.prog S σ (.load 32 x) m.id.v := by
  refine Ex.any (fun ρ hρ c hop w hw => ?_) (fun _ _ e => by cases e) (fun _ e => by cases e)
  refine run_loadOp hop (hρ _ _ hx) (run_loadAgg (vs := [.int .i64 m.id.from_, .int .u32 m.id.count]) rfl (fun j v e => ?_))
  refine h w hw j v ?_
  match j, e with
  | 0, e => exact e
  | 1, e => exact e
  | j + 2, e => simp at e
theorem ex_rem {P : Program} {S : World → Prop} {σ : Env} {T T' : TypeId} {x y : Operand} {k : IntKind} {a b : Int} (hx : σ.val x = some (.int k a)) (hy : σ.val y = some (.int k b)) (hb : b ≠ 0) : Ex P S σ (.binOp .rem T x y T') (.int k (a.tmod b)) := by
  refine Ex.any (fun ρ hρ c hop w hw => ?_) (fun _ _ e => by cases e) (fun _ e => by cases e)
  simp [execOp, hop, hρ _ _ hx, hρ _ _ hy, binOp, eqGuard, Op.intDiv, hb]
theorem ex_quo {P : Program} {S : World → Prop} {σ : Env} {T T' : TypeId} {x y : Operand} {k : IntKind} {a b : Int} (hx : σ.val x = some (.int k a)) (hy : σ.val y = some (.int k b)) (hb : b ≠ 0) : Ex P S σ (.binOp .quo T x y T') (.int k (k.wrap (a.tdiv b))) := by
  refine Ex.any (fun ρ hρ c hop w hw => ?_) (fun _ _ e => by cases e) (fun _ e => by cases e)
  simp [execOp, hop, hρ _ _ hx, hρ _ _ hy, binOp, eqGuard, Op.intDiv, hb]
theorem tmod_nat {a b : Nat} : ((a : Int)).tmod (b : Int) = ((a % b : Nat) : Int) := by
  rw [Int.tmod_eq_emod_of_nonneg (by omega)]; rfl
theorem tdiv_nat {a b : Nat} : ((a : Int)).tdiv (b : Int) = ((a / b : Nat) : Int) := by
  rw [Int.tdiv_eq_ediv_of_nonneg (by omega)]; rfl
theorem wrapU64_range (n : Int) : 0 ≤ IntKind.u64.wrap n ∧ IntKind.u64.wrap n < 18446744073709551616 := by
  have h : IntKind.u64.wrap n = n % 18446744073709551616 := by simp [IntKind.wrap, IntKind.signed, IntKind.bits]
  rw [h]
  omega
theorem wrapU64_id {n : Int} (h0 : 0 ≤ n) (h1 : n < 18446744073709551616) : IntKind.u64.wrap n = n := by
  have h : IntKind.u64.wrap n = n % 18446744073709551616 := by simp [IntKind.wrap, IntKind.signed, IntKind.bits]
  rw [h]
  omega
theorem eqT_bool {P : Program} {T : TypeId} [h : TUnder P T .bool] (d : Nat) (a b : Bool) (w : World) (hd : 1 ≤ d) : (Op.equalIn d T (.bool a) (.bool b)).run P w = .ok (decide (a = b)) w := by
  obtain ⟨d, rfl⟩ : ∃ e, d = e + 1 := ⟨d - 1, by omega⟩
  simp only [Op.equalIn, Sem.run_bind, h.under, Result.andThen_ok, Sem.run_pure]
  cases a <;> cases b <;> rfl
theorem ex_eqBool {P : Program} {S : World → Prop} {σ : Env} {T T' : TypeId} {x y : Operand} [hT : TUnder P T .bool] (a b : Bool) (hx : σ.val x = some (.bool a)) (hy : σ.val y = some (.bool b)) : Ex P S σ (.binOp .eql T x y T') (.bool (decide (a = b))) := by
  refine Ex.any (fun ρ hρ c hop w hw => ?_) (fun _ _ e => by cases e) (fun _ e => by cases e)
  have he : (Op.equal T (.bool a) (.bool b)).run P w = .ok (decide (a = b)) w := eqT_bool 10000 a b w (by decide)
  simp [execOp, hop, hρ _ _ hx, hρ _ _ hy, eqGuard, binOp, he]
theorem ex_neqBool {P : Program} {S : World → Prop} {σ : Env} {T T' : TypeId} {x y : Operand} [hT : TUnder P T .bool] (a b : Bool) (hx : σ.val x = some (.bool a)) (hy : σ.val y = some (.bool b)) : Ex P S σ (.binOp .neq T x y T') (.bool (!decide (a = b))) := by
  refine Ex.any (fun ρ hρ c hop w hw => ?_) (fun _ _ e => by cases e) (fun _ e => by cases e)
  have he : (Op.equal T (.bool a) (.bool b)).run P w = .ok (decide (a = b)) w := eqT_bool 10000 a b w (by decide)
  simp [execOp, hop, hρ _ _ hx, hρ _ _ hy, eqGuard, binOp, he]
end Go.Rost
