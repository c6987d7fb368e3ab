/- Equality of plain structs. -/
import Derived.Test.YtdjjfmoknncojaaSl
import Derived.Laws.StructEq
namespace Go.Rost
open Go Go.RowKit
section
variable {P : Program} {d : Nat} {xs ys : Array Value} {f : Field} {fs : List Field} {a b : Value} {r s : Bool} {w : World}
theorem fields_cons (hn : f.name ≠ "_") (ha : (part f.type xs f.offset).run P w = .ok a w) (hb : (part f.type ys f.offset).run P w = .ok b w) (he : (Op.equalIn d f.type a b).run P w = .ok r w)
    (hr : (Op.eqFields d xs ys fs).run P w = .ok s w) : (Op.eqFields d xs ys (f :: fs)).run P w = .ok (r && s) w := by
  rw [Op.eqFields, if_pos hn]
  simp only [Sem.run_bind, ha, hb, he, Result.andThen_ok]
  cases r
  · rfl
  · exact hr
theorem fields_nil : (Op.eqFields d xs ys []).run P w = .ok true w := rfl
theorem struct_eq {t : TypeId} {fs : Array Field} (hu : P.underlying t = some (.struct fs)) (hp : P.stoodInHeld t = false) (h : (Op.eqFields d xs ys fs.toList).run P w = .ok r w) : (Op.equalIn (d + 1) t (.agg xs) (.agg ys)).run P w = .ok r w := by
  have hf : P.fieldsOf t = fs := by simp [Program.fieldsOf, hu]
  rw [run_equalIn_struct (P := P) w d t xs ys (by rw [hf]; exact hu) hp, hf]
  exact h
end
/-- Values of a type compare as what they stand for. -/
class EqT (P : Program) (T : TypeId) {α : Type} [DecidableEq α] (ev : α → Value) (k : outParam Nat) : Prop where
  eq : ∀ d a b w, k ≤ d → (Op.equalIn d T (ev a) (ev b)).run P w = .ok (decide (a = b)) w
  le : k ≤ 10000
def intV (n : Int) : Value := .int .i64 n
def u32V (n : Int) : Value := .int .u32 n
def u64V (n : Int) : Value := .int .u64 n
def boolV (b : Bool) : Value := .bool b
def strV (s : ByteArray) : Value := .string s
instance {n : Int} : CellsOf (intV n) [.int .i64 n] := ⟨rfl⟩
instance {n : Int} : CellsOf (u32V n) [.int .u32 n] := ⟨rfl⟩
instance {s : ByteArray} : CellsOf (strV s) [.string s] := ⟨rfl⟩
theorem eqT_int {P : Program} {T : TypeId} {k : IntKind} [h : TUnder P T (.int k)] (d : Nat) (a b : Int) (w : World) (hd : 1 ≤ d) : (Op.equalIn d T (.int k a) (.int k b)).run P w = .ok (decide (a = b)) w := by
  obtain ⟨d, rfl⟩ : ∃ e, d = e + 1 := ⟨d - 1, by omega⟩
  simp only [Op.equalIn, Sem.run_bind, h.under, Result.andThen_ok, if_true, Sem.run_pure]
  rfl
theorem eqT_str {P : Program} {T : TypeId} [h : TUnder P T .string] (d : Nat) (a b : ByteArray) (w : World) (hd : 1 ≤ d) : (Op.equalIn d T (.string a) (.string b)).run P w = .ok (decide (a = b)) w := by
  obtain ⟨d, rfl⟩ : ∃ e, d = e + 1 := ⟨d - 1, by omega⟩
  simp only [Op.equalIn, Sem.run_bind, h.under, Result.andThen_ok, Sem.run_pure, beq_toListBytes, toList_eq_iff]
theorem chk_int {P : Program} {T : TypeId} {k : IntKind} [h : TUnder P T (.int k)] (e : Bool) (d : Nat) (n : Int) (w : World) : (Instr.checkKey e (d + 1) T (.int k n)).run P w = .ok () w := by
  simp only [Instr.checkKey, Sem.run_bind, h.under, Result.andThen_ok, Sem.run_pure]
instance {P : Program} {T : TypeId} [TUnder P T (.int .i64)] : EqT P T intV 1 := ⟨fun d a b w hd => eqT_int d a b w hd, by decide⟩
instance {P : Program} {T : TypeId} [TUnder P T (.int .u32)] : EqT P T u32V 1 := ⟨fun d a b w hd => eqT_int d a b w hd, by decide⟩
instance {P : Program} {T : TypeId} [TUnder P T .string] : EqT P T strV 1 := ⟨fun d a b w hd => eqT_str d a b w hd, by decide⟩
theorem bits_int (d : Nat) {k : IntKind} (n : Int) : Instr.sameBits d (.int k n) (.int k n) = true := by unfold Instr.sameBits; simp
instance {P : Program} {T : TypeId} [h : TUnder P T (.int .i64)] : KeyC P T intV where
  eq a b w := eqT_int _ a b w (by decide)
  chk e k w := chk_int e 9999 k w
  now := ⟨_, h.under, .inl fun a b => by simp only [intV, Instr.sameNow, if_true]; rfl⟩
  bits a := bits_int 9999 a
theorem ex_eqT {P : Program} {S : World → Prop} {σ : Env} {T T' : TypeId} {x y : Operand} {α : Type} [DecidableEq α] {ev : α → Value} {k : Nat} [h : EqT P T ev k] (a b : α) (hx : σ.val x = some (ev a)) (hy : σ.val y = some (ev b))
    (hb : binOp .eql T (ev a) (ev b) = (do pure (.bool (← Op.equal T (ev a) (ev b)))) := by rfl) (hg : ∀ w, (eqGuard .eql T x y (ev a) (ev b)).run P w = .ok () w) : Ex P S σ (.binOp .eql T x y T') (.bool (decide (a = b))) := by
  refine Ex.any (fun ρ hρ c hop w hw => ?_) (fun _ _ e => by cases e) (fun _ e => by cases e)
  have he : (Op.equal T (ev a) (ev b)).run P w = .ok (decide (a = b)) w := h.eq 10000 a b w h.le
  simp only [execOp, hop, hρ _ _ hx, hρ _ _ hy, Sem.run_bind, hg, Result.andThen_ok, hb, he, Sem.run_pure]
theorem ex_neqT {P : Program} {S : World → Prop} {σ : Env} {T T' : TypeId} {x y : Operand} {α : Type} [DecidableEq α] {ev : α → Value} {k : Nat} [h : EqT P T ev k] (a b : α) (hx : σ.val x = some (ev a)) (hy : σ.val y = some (ev b))
    (hb : binOp .neq T (ev a) (ev b) = (do pure (.bool (!(← Op.equal T (ev a) (ev b))))) := by rfl) (hg : ∀ w, (eqGuard .neq T x y (ev a) (ev b)).run P w = .ok () w) : Ex P S σ (.binOp .neq T x y T') (.bool (!decide (a = b))) := by
  refine Ex.any (fun ρ hρ c hop w hw => ?_) (fun _ _ e => by cases e) (fun _ e => by cases e)
  have he : (Op.equal T (ev a) (ev b)).run P w = .ok (decide (a = b)) w := h.eq 10000 a b w h.le
  simp only [execOp, hop, hρ _ _ hx, hρ _ _ hy, Sem.run_bind, hg, Result.andThen_ok, hb, he, Sem.run_pure]
end Go.Rost
