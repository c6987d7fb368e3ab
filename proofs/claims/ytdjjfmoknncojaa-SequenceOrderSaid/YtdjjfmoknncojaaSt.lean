/- Strings, elements of slices, small numbers. -/
import Derived.Test.YtdjjfmoknncojaaDt
namespace Go.Rost
open Go Go.RowKit Go.Proofs

theorem wrap64 {n : Int} (h0 : -9223372036854775808 ≤ n) (h1 : n < 9223372036854775808) : IntKind.i64.wrap n = n := by
  simp only [IntKind.wrap, IntKind.bits, IntKind.signed]
  simp
  split <;> omega
theorem wrap32 {n : Int} (h0 : 0 ≤ n) (h1 : n < 4294967296) : IntKind.u32.wrap n = n := by
  simp only [IntKind.wrap, IntKind.bits, IntKind.signed]
  simp
  omega
theorem wrapS {i : Nat} (h : i < 4611686018427387904) : IntKind.i64.wrap ((i : Int) + 1) = ((i + 1 : Nat) : Int) := wrap64 (by omega) (by omega)
section
variable {P : Program} {S : World → Prop} {σ : Env}
theorem ex_sliceStr {T : TypeId} {x : Operand} {lo hi : Option Operand} {s : ByteArray} {i j : Nat} [hT : TUnder P T .string] (hx : σ.val x = some (.string s))
    (hlo : (lo = none ∧ i = 0) ∨ ∃ y k, lo = some y ∧ σ.val y = some (.int k (i : Int))) (hhi : (hi = none ∧ j = s.size) ∨ ∃ y k, hi = some y ∧ σ.val y = some (.int k (j : Int)))
    (h1 : i ≤ j) (h2 : j ≤ s.size) : Ex P S σ (.slice T x lo hi none) (.string (s.extract i j)) := by
  refine Ex.any (fun ρ hρ c hop w hw => ?_) (fun _ _ e => by cases e) (fun _ e => by cases e)
  have hb : (Instr.sliceBounds false s.size s.size (lo.map ρ) (hi.map ρ) none).run P w = .ok (i, j, s.size) w := by
    have hj : ∀ (y : Nat) (k : IntKind) (code : BoundsCode), j ≤ y → (Instr.sliceBound (.int k (j : Int)) y code).run P w = .ok j w := fun y k code h => by
      have : (j : Int) ≤ y := by omega
      simp [Instr.sliceBound, asIntOf, this]
    have hi' : ∀ (y : Nat) (k : IntKind) (code : BoundsCode), i ≤ y → (Instr.sliceBound (.int k (i : Int)) y code).run P w = .ok i w := fun y k code h => by
      have : (i : Int) ≤ y := by omega
      simp [Instr.sliceBound, asIntOf, this]
    rcases hlo with ⟨rfl, rfl⟩ | ⟨y, k, rfl, hy⟩ <;> rcases hhi with ⟨rfl, rfl⟩ | ⟨y', k', rfl, hy'⟩
    · simp [Instr.sliceBounds]
    · simp [Instr.sliceBounds, hρ _ _ hy', hj _ _ _ h2]
    · simp [Instr.sliceBounds, hρ _ _ hy, hi' _ _ _ h1]
    · simp [Instr.sliceBounds, hρ _ _ hy, hρ _ _ hy', hj _ _ _ h2, hi' _ _ _ h1]
  simp only [execOp, hop, Instr.sliceAt, Sem.run_bind, hT.under, Result.andThen_ok, Instr.slice, hρ _ _ hx, Option.map_none, hb, Sem.run_pure, Option.isSome_none, Bool.false_eq_true, if_false]
theorem ex_min {x y : Operand} {k : IntKind} {m n : Int} {ts : Array TypeId} (hx : σ.val x = some (.int k m)) (hy : σ.val y = some (.int k n)) : Ex P S σ (.call ⟨.builtin .min, #[x, y], ts⟩) (.int k (if n < m then n else m)) := by
  refine Ex.any (fun ρ hρ c hop w hw => ?_) (fun _ _ e => by cases e) (fun _ e => by cases e)
  simp [execOp, hop, resolve, hρ _ _ hx, hρ _ _ hy, invoke, builtin, Builtin.min_, Builtin.min2]
theorem ex_indexStr {T : TypeId} {x y : Operand} {k : IntKind} {s : ByteArray} {i : Nat} {c : UInt8} [hT : TUnder P T .string] (hx : σ.val x = some (.string s)) (hy : σ.val y = some (.int k (i : Int))) (hc : s[i]? = some c) : Ex P S σ (.index T x y) (.int .u8 c.toNat) := by
  refine Ex.any (fun ρ hρ d hop w hw => ?_) (fun _ _ e => by cases e) (fun _ e => by cases e)
  have h0 : (0 : Int) ≤ i := by omega
  simp [execOp, hop, Instr.index, hρ _ _ hx, hρ _ _ hy, asIntOf, hT.under, hc]
end
theorem SlR.get {α : Type} [Enc α] {S : World → Prop} {p : Option Addr} {l : List α} {i : Nat} (h : SlR S p l) {x : α} (hx : l[i]? = some x) : ∃ b o, p = some ⟨b, o, none⟩ ∧ Rd S b (o + (i : Int).toNat * Enc.n α) (Enc.enc x) := by
  rcases h with rfl | ⟨b, o, rfl, hr⟩
  · cases hx
  · exact ⟨b, o, rfl, hr.get hx⟩
theorem guard_agg {P : Program} {op : BinOp} {T : TypeId} {x y : Operand} {a b : Array Value} (h : P.eqGuardType P.depth T = false) (w : World) : (eqGuard op T x y (.agg a) (.agg b)).run P w = .ok () w := by
  unfold eqGuard
  cases op <;> simp <;> (intro e; rw [h] at e; cases e)
theorem ex_eqMsg {S : World → Prop} {σ : Env} {T' : TypeId} {x y : Operand} (a b : Msg) (hx : σ.val x = some a.v) (hy : σ.val y = some b.v) : Ex Try.prog S σ (.binOp .eql 34 x y T') (.bool (decide (a = b))) :=
  ex_eqT a b hx hy rfl fun w => guard_agg (by kernel_rfl) w
theorem ex_neqMsg {S : World → Prop} {σ : Env} {T' : TypeId} {x y : Operand} (a b : Msg) (hx : σ.val x = some a.v) (hy : σ.val y = some b.v) : Ex Try.prog S σ (.binOp .neq 34 x y T') (.bool (!decide (a = b))) :=
  ex_neqT a b hx hy rfl fun w => guard_agg (by kernel_rfl) w
theorem ex_eqId {S : World → Prop} {σ : Env} {T' : TypeId} {x y : Operand} (a b : Id) (hx : σ.val x = some a.v) (hy : σ.val y = some b.v) : Ex Try.prog S σ (.binOp .eql 32 x y T') (.bool (decide (a = b))) :=
  ex_eqT a b hx hy rfl fun w => guard_agg (by kernel_rfl) w
theorem ex_neqId {S : World → Prop} {σ : Env} {T' : TypeId} {x y : Operand} (a b : Id) (hx : σ.val x = some a.v) (hy : σ.val y = some b.v) : Ex Try.prog S σ (.binOp .neq 32 x y T') (.bool (!decide (a = b))) :=
  ex_neqT a b hx hy rfl fun w => guard_agg (by kernel_rfl) w
theorem ex_loadMsg {S : World → Prop} {σ : Env} {x : Operand} {b o : Nat} (a : Msg) (hx : σ.val x = some (.pointer (some ⟨b, o, none⟩))) (h : Rd S b o (Enc.enc a)) : Ex Try.prog S σ (.load 34 x) a.v := ex_loadA a hx h
theorem ex_loadCell {P : Program} {S : World → Prop} {σ : Env} {T : TypeId} {x : Operand} {b o k : Nat} {vs : List Value} {v : Value} [TPlain P T] (hx : σ.val x = some (.pointer (some ⟨b, o + k, none⟩))) (h : Rd S b o vs) (hv : vs[k]? = some v) : Ex P S σ (.load T x) v := by
  refine Ex.any (fun ρ hρ c hop w hw => ?_) (fun _ _ e => by cases e) (fun _ e => by cases e)
  exact run_loadOp hop (hρ _ _ hx) (run_isAgg_load1 (h w hw k v hv))
end Go.Rost
