/- One rule an operation: what it yields out of the slots and the owned blocks. -/
import Derived.Test.YtdjjfmoknncojaaFw
import Derived.Laws.Strings
namespace Go.Rost
open Go Go.RowKit

/-! ### Slots -/
abbrev Env := List (Nat × Value)
def Env.get : Env → Nat → Option Value
  | [], _ => none
  | (k, v) :: σ, t => bif Nat.beq k t then some v else Env.get σ t
def Env.val (σ : Env) : Operand → Option Value
  | .tmp t => σ.get t
  | .const v => some v
  | .global g => some (.pointer (some ⟨g, 0, none⟩))
  | .func f => some (.func (.func f) #[] #[])
def Env.vals (σ : Env) : List Operand → Option (List Value)
  | [] => some []
  | x :: xs => match σ.val x with
    | some v => match Env.vals σ xs with
      | some vs => some (v :: vs)
      | none => none
    | none => none
structure Sat (N : Nat) (ds : List Deferred) (σ : Env) (a : Act) : Prop where
  size : a.tmps.size = N
  defers : a.defers = ds
  get : ∀ t v, σ.get t = some v → a.tmps.getD t undef = v
theorem Sat.val {N : Nat} {ds : List Deferred} {σ : Env} {a : Act} (h : Sat N ds σ a) {x : Operand} {v : Value} (e : σ.val x = some v) : a.eval x = v := by
  cases x with
  | tmp t => exact h.get t v e
  | const u => exact Option.some.inj e
  | global g => exact Option.some.inj e
  | func f => exact Option.some.inj e
theorem Sat.put {N : Nat} {ds : List Deferred} {σ : Env} {a : Act} (h : Sat N ds σ a) {d : Nat} (hd : Nat.blt d N = true) (v : Value) :
    Sat N ds ((d, v) :: σ) (a.put (some d) v) := by
  have hlt : d < a.tmps.size := by rw [h.size]; exact Nat.blt_eq.mp hd
  refine ⟨by simp [Act.put, h.size], h.defers, fun t u e => ?_⟩
  simp only [Env.get] at e
  by_cases hdt : d = t
  · subst hdt
    simp only [Nat.beq_refl, cond_true, Option.some.injEq] at e
    subst e
    simp [Act.put, hlt]
  · have : Nat.beq d t = false := by cases hb : Nat.beq d t with
      | true => exact absurd (Nat.eq_of_beq_eq_true hb) hdt
      | false => rfl
    rw [this] at e
    simp only [cond_false] at e
    have := h.get t u e
    rw [← this]
    simp [Act.put, Array.getElem?_setIfInBounds_ne hdt]
theorem Sat.put_none {N : Nat} {ds : List Deferred} {σ : Env} {a : Act} (h : Sat N ds σ a) (v : Value) : Sat N ds σ (a.put none v) := h
def Env.sub : Env → Env → Prop
  | [], _ => True
  | (t, v) :: r, σ => σ.get t = some v ∧ Env.sub r σ
theorem Env.sub_get : ∀ {τ σ : Env}, Env.sub τ σ → ∀ t v, τ.get t = some v → σ.get t = some v
  | [], _, _, _, _, e => by cases e
  | (k, u) :: r, σ, ⟨h1, h2⟩, t, v, e => by
    simp only [Env.get] at e
    cases hb : Nat.beq k t with
    | true => rw [hb] at e; simp at e; subst e; rw [← Nat.eq_of_beq_eq_true hb]; exact h1
    | false => rw [hb] at e; exact Env.sub_get h2 t v e
theorem Sat.sub {N : Nat} {ds : List Deferred} {σ τ : Env} {a : Act} (h : Sat N ds σ a) (hs : Env.sub τ σ) : Sat N ds τ a :=
  ⟨h.size, h.defers, fun t v e => h.get t v (Env.sub_get hs t v e)⟩

/-! ### Types -/
class TPlain (P : Program) (T : TypeId) : Prop where
  agg : ∀ w, (isAgg T).run P w = .ok false w
  size : ∀ w, (sizeOf T).run P w = .ok 1 w
class TAgg (P : Program) (T : TypeId) (n : outParam Nat) : Prop where
  agg : ∀ w, (isAgg T).run P w = .ok true w
  size : ∀ w, (sizeOf T).run P w = .ok n w
class TSize (P : Program) (T : TypeId) (n : outParam Nat) : Prop where
  size : ∀ w, (sizeOf T).run P w = .ok n w
class TZero (P : Program) (T : TypeId) (z : outParam Value) : Prop where
  zero : ∀ w, (zeroValue T).run P w = .ok z w
class TField (P : Program) (S : TypeId) (i : Nat) (off : outParam Nat) : Prop where
  place : ∀ b o w, (Instr.fieldAt S (.pointer (some ⟨b, o, none⟩)) i).run P w = .ok (.pointer (some ⟨b, o + off, none⟩)) w
class TUnder (P : Program) (T : TypeId) (d : outParam TypeDesc) : Prop where
  under : ∀ w, (underlying T).run P w = .ok d w
class TBytes (P : Program) (T : TypeId) (n : outParam Nat) : Prop where
  info : ∀ w, ∃ i, (typeInfo T).run P w = .ok i w ∧ i.bytes = n

/-! ### Cells -/
/-- In every world that meets S the cells from ⟨b, o⟩ on read as 'vs'. -/
def Rd (S : World → Prop) (b o : Nat) (vs : List Value) : Prop := ∀ w, S w → ∀ i v, vs[i]? = some v → w.cell? ⟨b, o + i, none⟩ = some v
/-- In every world that meets S block b is a row of these cells. -/
def RdBlk (S : World → Prop) (b : Nat) (cs : Array Value) : Prop := ∀ w, S w → ∃ T fz, w.heap[b]? = some (.cells cs T fz)
theorem RdBlk.cell {S : World → Prop} {b : Nat} {cs : Array Value} (h : RdBlk S b cs) {o : Nat} {v : Value} (e : cs[o]? = some v) {w : World} (hw : S w) : w.cell? ⟨b, o, none⟩ = some v := by
  obtain ⟨T, fz, hb⟩ := h w hw
  simp [World.cell?, hb, e]
/-- A cell of a row that is written out. -/
class GetL (L : List Value) (o : Nat) (v : outParam Value) : Prop where
  eq : L[o]? = some v
instance GetL.zero {v : Value} {L : List Value} : GetL (v :: L) 0 v := ⟨rfl⟩
instance GetL.succ {x v : Value} {L : List Value} {o : Nat} [h : GetL L o v] : GetL (x :: L) (o + 1) v := ⟨by simpa using h.eq⟩
class GetC (cs : Array Value) (o : Nat) (v : outParam Value) : Prop where
  eq : cs[o]? = some v
instance GetC.of {L : List Value} {o : Nat} {v : Value} [h : GetL L o v] : GetC L.toArray o v := ⟨by simpa using h.eq⟩
class GetN (cs : Array Value) (o n : Nat) (vs : outParam (List Value)) : Prop where
  eq : ∀ (j : Nat) (v : Value), vs[j]? = some v → cs[o + j]? = some v
  len : vs.length = n
instance GetN.zero {cs : Array Value} {o : Nat} : GetN cs o 0 [] := ⟨fun _ _ e => (by simp at e), rfl⟩
instance GetN.succ {cs : Array Value} {o n : Nat} {v : Value} {vs : List Value} [h : GetC cs o v] [k : GetN cs (o + 1) n vs] : GetN cs o (n + 1) (v :: vs) := ⟨fun j u e => by
  cases j with
  | zero => simp at e; subst e; exact h.eq
  | succ j => rw [show o + (j + 1) = o + 1 + j by omega]; exact k.eq j u (by simpa using e), by rw [List.length_cons, k.len]⟩
theorem Addr.add_none (b o n : Nat) : (⟨b, o, none⟩ : Addr).add n = ⟨b, o + n, none⟩ := by
  unfold Addr.add; split <;> simp_all
theorem run_loadCellsFrom (P : Program) (w : World) (b o : Nat) : ∀ (vs : List Value) (i : Nat) (acc : Array Value),
    (∀ j v, vs[j]? = some v → w.cell? ⟨b, o + (i + j), none⟩ = some v) → (loadCellsFrom ⟨b, o, none⟩ i vs.length acc).run P w = .ok (acc ++ vs.toArray) w
  | [], i, acc, _ => by simp [loadCellsFrom]
  | v :: vs, i, acc, h => by
    have h0 := h 0 v rfl
    simp only [List.length_cons, loadCellsFrom, Sem.run_bind, run_load, Addr.add_none]
    rw [Nat.add_zero] at h0
    simp only [h0, Result.andThen_ok]
    rw [run_loadCellsFrom P w b o vs (i + 1) (acc.push v) (fun j u e => by have := h (j + 1) u (by simpa using e); rw [show i + 1 + j = i + (j + 1) by omega]; exact this)]
    simp
theorem run_loadCells {P : Program} {w : World} {b o : Nat} {vs : List Value} (h : ∀ j v, vs[j]? = some v → w.cell? ⟨b, o + j, none⟩ = some v) :
    (loadCells ⟨b, o, none⟩ vs.length).run P w = .ok vs.toArray w := by
  unfold loadCells
  rw [run_loadCellsFrom P w b o vs 0 #[] (fun j v e => by rw [Nat.zero_add]; exact h j v e)]
  simp

/-! ### Operations that change nothing -/
def isTrue : Option Bool → Bool | some b => b | none => false
inductive Ex (P : Program) (S : World → Prop) (σ : Env) : Op → Value → Prop
  | move {x : Operand} {v : Value} : σ.val x = some v → Ex P S σ (.move x) v
  | assign {x : Operand} {v : Value} : σ.val x = some v → Ex P S σ (.assign x) v
  | pickT {c a b : Operand} {v : Value} : σ.val c = some (.bool true) → σ.val a = some v → Ex P S σ (.pick c a b) v
  | pickF {c a b : Operand} {v : Value} : σ.val c = some (.bool false) → σ.val b = some v → Ex P S σ (.pick c a b) v
  | nilCheck {x : Operand} {p : Addr} : σ.val x = some (.pointer (some p)) → Ex P S σ (.nilCheck x) (.pointer (some p))
  | fieldAddr0 {T : TypeId} {x : Operand} {i b o : Nat} [TField P T i 0] : σ.val x = some (.pointer (some ⟨b, o, none⟩)) → Ex P S σ (.fieldAddr T x i) (.pointer (some ⟨b, o, none⟩))
  | fieldAddr {T : TypeId} {x : Operand} {i off b o : Nat} [TField P T i off] : σ.val x = some (.pointer (some ⟨b, o, none⟩)) → Ex P S σ (.fieldAddr T x i) (.pointer (some ⟨b, o + off, none⟩))
  | load1 {T : TypeId} {x : Operand} {b o : Nat} {cs : Array Value} {v : Value} [TPlain P T] : σ.val x = some (.pointer (some ⟨b, o, none⟩)) → RdBlk S b cs → GetC cs o v → Ex P S σ (.load T x) v
  | loadN {T n : TypeId} {x : Operand} {b o : Nat} {cs : Array Value} {vs : List Value} [TAgg P T n] : σ.val x = some (.pointer (some ⟨b, o, none⟩)) → RdBlk S b cs → GetN cs o n vs → Ex P S σ (.load T x) (.agg vs.toArray)
  | not {T : TypeId} {x : Operand} {b : Bool} : σ.val x = some (.bool b) → Ex P S σ (.unOp .not T x) (.bool !b)
  | lss {T T' : TypeId} {x y : Operand} {k : IntKind} {m n : Int} : σ.val x = some (.int k m) → σ.val y = some (.int k n) → Ex P S σ (.binOp .lss T x y T') (.bool (decide (m < n)))
  | leq {T T' : TypeId} {x y : Operand} {k : IntKind} {m n : Int} : σ.val x = some (.int k m) → σ.val y = some (.int k n) → Ex P S σ (.binOp .leq T x y T') (.bool (decide (m ≤ n)))
  | gtr {T T' : TypeId} {x y : Operand} {k : IntKind} {m n : Int} : σ.val x = some (.int k m) → σ.val y = some (.int k n) → Ex P S σ (.binOp .gtr T x y T') (.bool (decide (n < m)))
  | geq {T T' : TypeId} {x y : Operand} {k : IntKind} {m n : Int} : σ.val x = some (.int k m) → σ.val y = some (.int k n) → Ex P S σ (.binOp .geq T x y T') (.bool (decide (n ≤ m)))
  | eqlI {T T' : TypeId} {x y : Operand} {k : IntKind} {m n : Int} : σ.val x = some (.int k m) → σ.val y = some (.int k n) → Ex P S σ (.binOp .eql T x y T') (.bool (decide (m = n)))
  | neqI {T T' : TypeId} {x y : Operand} {k : IntKind} {m n : Int} : σ.val x = some (.int k m) → σ.val y = some (.int k n) → Ex P S σ (.binOp .neq T x y T') (.bool (!decide (m = n)))
  | eqlS {T T' : TypeId} {x y : Operand} {m n : ByteArray} : σ.val x = some (.string m) → σ.val y = some (.string n) → Ex P S σ (.binOp .eql T x y T') (.bool (decide (m = n)))
  | neqS {T T' : TypeId} {x y : Operand} {m n : ByteArray} : σ.val x = some (.string m) → σ.val y = some (.string n) → Ex P S σ (.binOp .neq T x y T') (.bool (!decide (m = n)))
  | add {T T' : TypeId} {x y : Operand} {k : IntKind} {m n : Int} : σ.val x = some (.int k m) → σ.val y = some (.int k n) → Ex P S σ (.binOp .add T x y T') (.int k (k.wrap (m + n)))
  | sub {T T' : TypeId} {x y : Operand} {k : IntKind} {m n : Int} : σ.val x = some (.int k m) → σ.val y = some (.int k n) → Ex P S σ (.binOp .sub T x y T') (.int k (k.wrap (m - n)))
  | mul {T T' : TypeId} {x y : Operand} {k : IntKind} {m n : Int} : σ.val x = some (.int k m) → σ.val y = some (.int k n) → Ex P S σ (.binOp .mul T x y T') (.int k (k.wrap (m * n)))
  | eqlPN {T T' E : TypeId} {x y : Operand} {p : Option Addr} [TUnder P T (.pointer E)] : σ.val x = some (.pointer p) → σ.val y = some (.pointer none) → Ex P S σ (.binOp .eql T x y T') (.bool p.isNone)
  | neqPN {T T' E : TypeId} {x y : Operand} {p : Option Addr} [TUnder P T (.pointer E)] : σ.val x = some (.pointer p) → σ.val y = some (.pointer none) → Ex P S σ (.binOp .neq T x y T') (.bool (!p.isNone))
  | eqlSN {T T' E : TypeId} {x y : Operand} {p : Option Addr} {l c l' c' : Nat} [TUnder P T (.slice E)] : σ.val x = some (.slice p l c) → σ.val y = some (.slice none l' c') → Ex P S σ (.binOp .eql T x y T') (.bool p.isNone)
  | neqSN {T T' E : TypeId} {x y : Operand} {p : Option Addr} {l c l' c' : Nat} [TUnder P T (.slice E)] : σ.val x = some (.slice p l c) → σ.val y = some (.slice none l' c') → Ex P S σ (.binOp .neq T x y T') (.bool (!p.isNone))
  | lenSl {T E : TypeId} {x : Operand} {p : Option Addr} {l c : Nat} [TUnder P T (.slice E)] : σ.val x = some (.slice p l c) → Ex P S σ (.call ⟨.builtin .len, #[x], #[T]⟩) (.int .i64 l)
  | lenStr {T : TypeId} {x : Operand} {s : ByteArray} [TUnder P T .string] : σ.val x = some (.string s) → Ex P S σ (.call ⟨.builtin .len, #[x], #[T]⟩) (.int .i64 s.size)
  | extract {x : Operand} {i : Nat} {vs : Array Value} {v : Value} : σ.val x = some (.tuple vs) → GetC vs i v → Ex P S σ (.extract x i) v
  | convI {T T' : TypeId} {x : Operand} {k k' : IntKind} {m : Int} [TUnder P T (.int k)] [TUnder P T' (.int k')] : σ.val x = some (.int k m) → Ex P S σ (.convert T T' x) (.int k' (k'.wrap m))
  | makeFunc {fn : Fn} {ys zs : Array Operand} {us vs : List Value} : σ.vals ys.toList = some us → σ.vals zs.toList = some vs → Ex P S σ (.makeFunc fn ys zs) (.func fn us.toArray vs.toArray)
  | makeIface {T : TypeId} {x : Operand} {v : Value} {d : TypeDesc} [TUnder P T d] : (∀ ms, d ≠ .interface ms) → σ.val x = some v → Ex P S σ (.makeInterface T x) (.iface T v)
  | any {o : Op} {v : Value} : (∀ (ρ : Operand → Value), (∀ x u, σ.val x = some u → ρ x = u) → ∀ c : Oper, c.op = o → ∀ w, S w → (execOp ρ c).run P w = .ok (.value v) w) → (∀ cs b, o ≠ .select cs b) → (∀ c, o ≠ .defer c) → Ex P S σ o v

theorem bytes_ext {x y : ByteArray} (h : x.data.toList = y.data.toList) : x = y := by
  cases x; cases y
  exact congrArg ByteArray.mk (Array.toList_inj.mp h)
theorem toList_eq_iff (x y : ByteArray) : (x.toList == y.toList) = decide (x = y) := by
  rw [ByteArray.toList_eq, ByteArray.toList_eq, Bool.eq_iff_iff, beq_iff_eq, decide_eq_true_iff]
  exact ⟨bytes_ext, fun h => by rw [h]⟩

theorem mapM_val {σ : Env} {ρ : Operand → Value} (h : ∀ x u, σ.val x = some u → ρ x = u) : ∀ {ys : List Operand} {us : List Value}, σ.vals ys = some us → ys.map ρ = us
  | [], us, e => by cases e; rfl
  | y :: ys, us, e => by
    simp only [Env.vals] at e
    cases hy : σ.val y with
    | none => rw [hy] at e; cases e
    | some v =>
      cases hr : σ.vals ys with
      | none => rw [hy, hr] at e; cases e
      | some vs =>
        rw [hy, hr] at e
        cases e
        rw [List.map_cons, h y v hy, mapM_val h hr]

theorem run_isAgg_load1 {P : Program} {T : TypeId} [TPlain P T] {w : World} {a : Addr} {v : Value} (h : w.cell? a = some v) :
    (Instr.loadAt T (.pointer (some a))).run P w = .ok v w := by
  simp [Instr.loadAt, Instr.sureAddr, loadVar, TPlain.agg, h]
theorem run_loadAgg {P : Program} {T : TypeId} {n : Nat} [TAgg P T n] {w : World} {b o : Nat} {vs : List Value} (hn : vs.length = n)
    (h : ∀ j v, vs[j]? = some v → w.cell? ⟨b, o + j, none⟩ = some v) : (Instr.loadAt T (.pointer (some ⟨b, o, none⟩))).run P w = .ok (.agg vs.toArray) w := by
  subst hn
  simp [Instr.loadAt, Instr.sureAddr, loadVar, TAgg.agg (P := P) (T := T) (n := vs.length), TAgg.size (P := P) (T := T), run_loadCells h]

theorem equal_ptr_nil {P : Program} {T E : TypeId} [TUnder P T (.pointer E)] (d : Nat) (p : Option Addr) (w : World) : (Op.equalIn (d + 1) T (.pointer p) (.pointer none)).run P w = .ok p.isNone w := by
  cases p <;> simp only [Op.equalIn, Sem.run_bind, TUnder.under (P := P) (T := T), Result.andThen_ok] <;> rfl
theorem equal_slice_nil {P : Program} {T E : TypeId} [TUnder P T (.slice E)] (d : Nat) (p : Option Addr) (l c l' c' : Nat) (w : World) : (Op.equalIn (d + 1) T (.slice p l c) (.slice none l' c')).run P w = .ok p.isNone w := by
  cases p <;> simp [Op.equalIn, TUnder.under (P := P) (T := T)]
theorem run_binop {P : Program} {ρ : Operand → Value} {c : Oper} {op : BinOp} {T T' : TypeId} {x y : Operand} (hc : c.op = .binOp op T x y T') {u v r : Value} (hx : ρ x = u) (hy : ρ y = v) {w : World}
    (hg : eqGuard op T x y u v = pure ()) (h : (binOp op T u v).run P w = .ok r w) : (execOp ρ c).run P w = .ok (.value r) w := by
  simp only [execOp, hc, hx, hy, hg, Sem.run_bind, Sem.run_pure, Result.andThen_ok, h]
theorem run_eql {P : Program} {T : TypeId} {u v : Value} {w : World} {b : Bool} 
    (h : (Op.equal T u v).run P w = .ok b w) (hb : binOp .eql T u v = (do pure (.bool (← Op.equal T u v))) := by rfl) : (binOp .eql T u v).run P w = .ok (.bool b) w := by
  rw [hb]; simp only [Sem.run_bind, h, Result.andThen_ok, Sem.run_pure]
theorem run_neq {P : Program} {T : TypeId} {u v : Value} {w : World} {b : Bool}
    (h : (Op.equal T u v).run P w = .ok b w) (hb : binOp .neq T u v = (do pure (.bool (!(← Op.equal T u v)))) := by rfl) : (binOp .neq T u v).run P w = .ok (.bool !b) w := by
  rw [hb]; simp only [Sem.run_bind, h, Result.andThen_ok, Sem.run_pure]
theorem loadsN {P : Program} {S : World → Prop} {b o : Nat} {cs : Array Value} {w : World} (hw : S w) (hb : RdBlk S b cs) {T : TypeId} {n : Nat} [TAgg P T n] (vs : List Value) (hn : vs.length = n)
    (h : ∀ j v, vs[j]? = some v → cs[o + j]? = some v) : (Instr.loadAt T (.pointer (some ⟨b, o, none⟩))).run P w = .ok (.agg vs.toArray) w := run_loadAgg hn (fun j v e => hb.cell (h j v e) hw)
theorem run_loadOp {P : Program} {ρ : Operand → Value} {c : Oper} {T : TypeId} {x : Operand} (hc : c.op = .load T x) {u r : Value} (hx : ρ x = u) {w : World}
    (h : (Instr.loadAt T u).run P w = .ok r w) : (execOp ρ c).run P w = .ok (.value r) w := by
  simp only [execOp, hc, hx, h, Sem.run_bind, Sem.run_pure, Result.andThen_ok]
theorem Ex.run {P : Program} {S : World → Prop} {σ : Env} {o : Op} {v : Value} (h : Ex P S σ o v) (ρ : Operand → Value) (hρ : ∀ x u, σ.val x = some u → ρ x = u)
    (c : Oper) (hc : c.op = o) (w : World) (hw : S w) : (execOp ρ c).run P w = .ok (.value v) w := by
  cases h with
  | move e => simp [execOp, hc, hρ _ _ e]
  | assign e => simp [execOp, hc, hρ _ _ e]
  | pickT e e' => simp [execOp, hc, hρ _ _ e, hρ _ _ e', asBool]
  | pickF e e' => simp [execOp, hc, hρ _ _ e, hρ _ _ e', asBool]
  | nilCheck e => simp [execOp, hc, hρ _ _ e]
  | fieldAddr0 e => simp [execOp, hc, hρ _ _ e, TField.place (off := 0)]
  | fieldAddr e => simp [execOp, hc, hρ _ _ e, TField.place]
  | load1 e hb hcs => simp [execOp, hc, hρ _ _ e, run_isAgg_load1 (hb.cell hcs.eq hw)]
  | loadN e hb hg => exact run_loadOp hc (hρ _ _ e) (loadsN hw hb _ hg.len (fun j v e => hg.eq j v e))
  | not e => simp [execOp, hc, hρ _ _ e, Op.unary]
  | lss e e' => simp [execOp, hc, hρ _ _ e, hρ _ _ e', binOp, eqGuard, Op.intCmp]
  | leq e e' => simp [execOp, hc, hρ _ _ e, hρ _ _ e', binOp, eqGuard, Op.intCmp]
  | gtr e e' => simp [execOp, hc, hρ _ _ e, hρ _ _ e', binOp, eqGuard, Op.intCmp]
  | geq e e' => simp [execOp, hc, hρ _ _ e, hρ _ _ e', binOp, eqGuard, Op.intCmp]
  | eqlI e e' => simp [execOp, hc, hρ _ _ e, hρ _ _ e', binOp, eqGuard, Op.intCmp]; rfl
  | neqI e e' => simp [execOp, hc, hρ _ _ e, hρ _ _ e', binOp, eqGuard, Op.intCmp]; rfl
  | eqlS e e' => simp [execOp, hc, hρ _ _ e, hρ _ _ e', binOp, eqGuard, Op.stringOp, toList_eq_iff]
  | neqS e e' => simp [execOp, hc, hρ _ _ e, hρ _ _ e', binOp, eqGuard, Op.stringOp, toList_eq_iff]
  | add e e' => simp [execOp, hc, hρ _ _ e, hρ _ _ e', binOp, eqGuard, Op.intArith]
  | sub e e' => simp [execOp, hc, hρ _ _ e, hρ _ _ e', binOp, eqGuard, Op.intArith]
  | mul e e' => simp [execOp, hc, hρ _ _ e, hρ _ _ e', binOp, eqGuard, Op.intArith]
  | @eqlPN T T' E x y p _ e e' =>
    refine run_binop hc (hρ _ _ e) (hρ _ _ e') (by rfl) ?_
    refine run_eql ?_
    exact equal_ptr_nil 9999 p w
  | @neqPN T T' E x y p _ e e' =>
    refine run_binop hc (hρ _ _ e) (hρ _ _ e') (by rfl) ?_
    refine run_neq ?_
    exact equal_ptr_nil 9999 p w
  | @eqlSN T T' E x y p l c' l' c'' _ e e' =>
    refine run_binop hc (hρ _ _ e) (hρ _ _ e') (by rfl) ?_
    refine run_eql ?_
    exact equal_slice_nil 9999 p l c' l' c'' w
  | @neqSN T T' E x y p l c' l' c'' _ e e' =>
    refine run_binop hc (hρ _ _ e) (hρ _ _ e') (by rfl) ?_
    refine run_neq ?_
    exact equal_slice_nil 9999 p l c' l' c'' w
  | @lenSl T E x p l c' _ e => simp [execOp, hc, hρ _ _ e, resolve, invoke, builtin, Builtin.len_, TUnder.under (P := P) (T := T), goInt]
  | @lenStr T x s _ e => simp [execOp, hc, hρ _ _ e, resolve, invoke, builtin, Builtin.len_, TUnder.under (P := P) (T := T), goInt]
  | extract e e' => simp [execOp, hc, hρ _ _ e, Instr.extract, e'.eq]
  | @convI T T' x k k' m _ _ e => simp [execOp, hc, hρ _ _ e, convert, TUnder.under (P := P) (T := T), TUnder.under (P := P) (T := T'), Conv.intToInt]
  | @makeFunc fn ys zs us vs e e' =>
    have h1 := mapM_val hρ e
    have h2 := mapM_val hρ e'
    have k1 : ys.map ρ = us.toArray := by apply Array.toList_inj.mp; rw [Array.toList_map, h1]
    have k2 : zs.map ρ = vs.toArray := by apply Array.toList_inj.mp; rw [Array.toList_map, h2]
    simp [execOp, hc, Instr.makeFunc, k1, k2]
  | @makeIface T x v d _ hd e => simp only [execOp, hc, hρ _ _ e, Instr.makeInterface, Sem.run_bind, TUnder.under (P := P) (T := T), Result.andThen_ok]; cases d <;> first | rfl | exact absurd rfl (hd _)
  | any h _ _ => exact h ρ hρ c hc w hw

theorem Ex.noSel {P : Program} {S : World → Prop} {σ : Env} {o : Op} {v : Value} (h : Ex P S σ o v) : (∀ cs b, o ≠ .select cs b) ∧ (∀ c, o ≠ .defer c) := by
  cases h
  case any h2 h1 h0 => first | exact ⟨h1, h0⟩ | exact ⟨h2, h1⟩ | exact ⟨h0, h1⟩
  all_goals exact ⟨fun _ _ h => (by cases h), fun _ h => (by cases h)⟩

end Go.Rost
