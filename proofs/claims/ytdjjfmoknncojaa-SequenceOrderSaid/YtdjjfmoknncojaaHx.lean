/- Operations that make memory or write it. -/
import Derived.Test.YtdjjfmoknncojaaCt
namespace Go.Rost
open Go Go.RowKit

/-! ### Choosing among the owned -/
theorem sat_fam : ∀ {L : List Chunk} {h : Hp}, sat L h ↔ ∃ f : Nat → Hp, (∀ (i : Nat) (c : Chunk), L[i]? = some c → c (f i)) ∧ (∀ i, Le (f i) h) ∧ ∀ i j, i ≠ j → Dj (f i) (f j)
  | [], h => ⟨fun _ => ⟨fun _ _ => none, fun _ _ e => (by simp at e), fun _ => ⟨fun _ _ e => (by cases e)⟩, fun _ _ _ => ⟨fun _ => .inl rfl⟩⟩, fun _ => trivial⟩
  | c :: L, h => by
    constructor
    · rintro ⟨h1, h2, l1, l2, d, hc, s⟩
      obtain ⟨f, hf, hl, hd⟩ := (sat_fam (L := L)).1 s
      refine ⟨fun i => match i with | 0 => h1 | i + 1 => f i, fun i c' e => ?_, fun i => ?_, fun i j hij => ?_⟩
      · cases i with
        | zero => simp at e; subst e; exact hc
        | succ i => simp at e; exact hf i c' e
      · cases i with
        | zero => exact l1
        | succ i => exact (hl i).trans l2
      · cases i <;> cases j
        · exact absurd rfl hij
        · exact d.le (hl _)
        · exact (d.le (hl _)).symm
        · exact hd _ _ (fun h => hij (by rw [h]))
    · rintro ⟨f, hf, hl, hd⟩
      refine ⟨f 0, fun x => if (f 0 x).isSome then none else h x, hl 0, ⟨fun x o e => ?_⟩, ⟨fun x => ?_⟩, hf 0 c rfl, (sat_fam (L := L)).2 ⟨fun i => f (i + 1), fun i c' e => hf (i + 1) c' (by simpa using e), fun i => ⟨fun x o e => ?_⟩, fun i j hij => hd _ _ (by omega)⟩⟩
      · split at e
        · cases e
        · exact e
      · cases e : f 0 x with
        | none => exact .inl rfl
        | some o => right; simp
      · have := (hd 0 (i + 1) (by omega)).out x
        rcases this with e' | e'
        · simp only [e', Option.isSome_none, Bool.false_eq_true, if_false]; exact (hl (i + 1)).out x o e
        · have e2 : f (i + 1) x = some o := e
          rw [e'] at e2; cases e2
def pickL {α : Type} (is : List Nat) (L : List α) : List α := match is with
  | [] => []
  | i :: is => match L[i]? with
    | some x => x :: pickL is L
    | none => pickL is L
theorem sat_pick {L : List Chunk} {h : Hp} (s : sat L h) : ∀ (is : List Nat), is.Nodup → sat (pickL is L) h := by
  obtain ⟨f, hf, hl, hd⟩ := sat_fam.1 s
  have key : ∀ (is : List Nat), is.Nodup → ∃ g : Nat → Hp, (∀ (i : Nat) (c : Chunk), (pickL is L)[i]? = some c → c (g i)) ∧ (∀ i, Le (g i) h) ∧ (∀ i j, i ≠ j → Dj (g i) (g j)) ∧ ∀ k, k ∉ is → ∀ i, Dj (f k) (g i) := by
    intro is
    induction is with
    | nil => intro _; exact ⟨fun _ _ => none, fun _ _ e => (by simp [pickL] at e), fun _ => ⟨fun _ _ e => (by cases e)⟩, fun _ _ _ => ⟨fun _ => .inl rfl⟩, fun _ _ _ => ⟨fun _ => .inr rfl⟩⟩
    | cons k is ih =>
      intro hn
      obtain ⟨hk, hn⟩ := List.nodup_cons.1 hn
      obtain ⟨g, hg, gl, gd, gf⟩ := ih hn
      cases e : L[k]? with
      | none => exact ⟨g, by simpa [pickL, e] using hg, gl, gd, fun m hm i => gf m (fun h => hm (by simp [h])) i⟩
      | some c =>
        refine ⟨fun i => match i with | 0 => f k | i + 1 => g i, fun i c' e' => ?_, fun i => ?_, fun i j hij => ?_, fun m hm i => ?_⟩
        · cases i with
          | zero => simp [pickL, e] at e'; subst e'; exact hf k c e
          | succ i => simp [pickL, e] at e'; exact hg i c' e'
        · cases i with
          | zero => exact hl k
          | succ i => exact gl i
        · cases i <;> cases j
          · exact absurd rfl hij
          · exact gf k hk _
          · exact (gf k hk _).symm
          · exact gd _ _ (fun h => hij (by rw [h]))
        · cases i with
          | zero => exact hd m k (fun h => hm (by simp [h]))
          | succ i => exact gf m (fun h => hm (by simp [h])) i
  intro is hn
  obtain ⟨g, hg, gl, gd, _⟩ := key is hn
  exact sat_fam.2 ⟨g, hg, gl, gd⟩
def nodupB : List Nat → Bool
  | [] => true
  | i :: is => !is.contains i && nodupB is
theorem nodupB_spec : ∀ {is : List Nat}, nodupB is = true → is.Nodup
  | [], _ => List.nodup_nil
  | i :: is, h => by
    simp only [nodupB, Bool.and_eq_true, Bool.not_eq_true'] at h
    exact List.nodup_cons.2 ⟨by simpa using h.1, nodupB_spec h.2⟩
/-- The owned numbers 'is', in this order. -/
theorem At.pick {W0 : World} {H : List Chunk} {w : World} (h : At W0 H w) (is : List Nat) (hn : nodupB is = true := by rfl) : At W0 (pickL is H) w :=
  ⟨h.1, h.2.elim fun k x => ⟨k, x.1, sat_pick x.2 is (nodupB_spec hn)⟩⟩
/-- The first ones, chosen and ordered; behind them what was behind them. -/
theorem At.top {W0 : World} {H : List Chunk} {w : World} (L : List Chunk) (is : List Nat) (h : At W0 (L ++ H) w) (hn : nodupB is = true := by rfl) : At W0 (pickL is L ++ H) w := by
  obtain ⟨hb, k, hk, s⟩ := h
  obtain ⟨h1, h2, l1, l2, d, s1, s2⟩ := (sat_append _ _ _).1 s
  exact ⟨hb, k, hk, (sat_append _ _ _).2 ⟨h1, h2, l1, l2, d, sat_pick s1 is (nodupB_spec hn), s2⟩⟩
section
variable {W0 : World} {a b c d e f : Chunk} {H : List Chunk} {w : World}
theorem At.sw1 (h : At W0 (a :: b :: H) w) : At W0 (b :: a :: H) w := h.perm (.swap _ _ _)
theorem At.sw2 (h : At W0 (a :: b :: c :: H) w) : At W0 (c :: a :: b :: H) w := At.top [_, _, _] [2, 0, 1] h
theorem At.sw3 (h : At W0 (a :: b :: c :: d :: H) w) : At W0 (d :: a :: b :: c :: H) w := At.top [_, _, _, _] [3, 0, 1, 2] h
theorem At.sw4 (h : At W0 (a :: b :: c :: d :: e :: H) w) : At W0 (e :: a :: b :: c :: d :: H) w := At.top [_, _, _, _, _] [4, 0, 1, 2, 3] h
theorem At.sw5 (h : At W0 (a :: b :: c :: d :: e :: f :: H) w) : At W0 (f :: a :: b :: c :: d :: e :: H) w := At.top [_, _, _, _, _, _] [5, 0, 1, 2, 3, 4] h
/-- The first one goes behind the second, the third, .. -/
theorem At.bk2 (h : At W0 (a :: b :: c :: H) w) : At W0 (b :: c :: a :: H) w := At.top [_, _, _] [1, 2, 0] h
theorem At.bk3 (h : At W0 (a :: b :: c :: d :: H) w) : At W0 (b :: c :: d :: a :: H) w := At.top [_, _, _, _] [1, 2, 3, 0] h
theorem At.bk4 (h : At W0 (a :: b :: c :: d :: e :: H) w) : At W0 (b :: c :: d :: e :: a :: H) w := At.top [_, _, _, _, _] [1, 2, 3, 4, 0] h
theorem At.dr1 (h : At W0 (a :: b :: H) w) : At W0 (a :: H) w := h.sw1.drop
theorem At.dr2 (h : At W0 (a :: b :: c :: H) w) : At W0 (a :: b :: H) w := At.top [_, _, _] [0, 1] h
theorem At.dr3 (h : At W0 (a :: b :: c :: d :: H) w) : At W0 (a :: b :: c :: H) w := At.top [_, _, _, _] [0, 1, 2] h
end
theorem fieldAt_of {P : Program} {S : TypeId} {i n : Nat} {fields : Array Field} {f : Field} {w : World} (hu : (underlying S).run P w = .ok (.struct fields) w) (hf : fields[i]? = some f) (hs : (sizeOf f.type).run P w = .ok n w) (hn : n ≠ 0) (b o : Nat) :
    (Instr.fieldAt S (.pointer (some ⟨b, o, none⟩)) i).run P w = .ok (.pointer (some ⟨b, o + f.offset, none⟩)) w := by
  simp [Instr.fieldAt, hu, hf, Instr.sureAddr, fieldPlace, hs, hn, Addr.add_none]

/-! ### Literal lists -/
class AppL (a b : List Value) (c : outParam (List Value)) : Prop where
  eq : a ++ b = c
instance AppL.nil {b : List Value} : AppL [] b b := ⟨rfl⟩
instance AppL.cons {x : Value} {a b c : List Value} [h : AppL a b c] : AppL (x :: a) b (x :: c) := ⟨by rw [List.cons_append, h.eq]⟩
class SetL (L : List Value) (o : Nat) (v : Value) (L' : outParam (List Value)) : Prop where
  lt : o < L.length
  eq : L.set o v = L'
instance SetL.zero {x v : Value} {L : List Value} : SetL (x :: L) 0 v (v :: L) := ⟨by simp, rfl⟩
instance SetL.succ {x v : Value} {L L' : List Value} {o : Nat} [h : SetL L o v L'] : SetL (x :: L) (o + 1) v (x :: L') := ⟨by have := h.lt; simp; omega, by rw [List.set_cons_succ, h.eq]⟩
def setsL (L : List Value) (o : Nat) : List Value → List Value
  | [] => L
  | v :: vs => setsL (L.set o v) (o + 1) vs
class SetsL (L : List Value) (o : Nat) (vs : List Value) (L' : outParam (List Value)) : Prop where
  le : o + vs.length ≤ L.length ∨ vs = []
  eq : setsL L o vs = L'
instance SetsL.nil {L : List Value} {o : Nat} : SetsL L o [] L := ⟨.inr rfl, rfl⟩
instance SetsL.cons {L L1 L2 : List Value} {o : Nat} {v : Value} {vs : List Value} [h : SetL L o v L1] [k : SetsL L1 (o + 1) vs L2] : SetsL L o (v :: vs) L2 :=
  ⟨by left; have h1 := h.lt; have h2 := h.eq; have h3 : L1.length = L.length := by rw [← h2, List.length_set]
      rcases k.le with h4 | h4
      · simp; omega
      · subst h4; simp; omega, by rw [setsL, h.eq, k.eq]⟩
/-- The cells of a value, written out. -/
class CellsOf (v : Value) (cs : outParam (List Value)) : Prop where
  eq : v.cells = cs.toArray
instance {cs : List Value} : CellsOf (.agg cs.toArray) cs := ⟨rfl⟩
instance {k : IntKind} {n : Int} : CellsOf (.int k n) [.int k n] := ⟨rfl⟩
instance {b : Bool} : CellsOf (.bool b) [.bool b] := ⟨rfl⟩
instance {s : ByteArray} : CellsOf (.string s) [.string s] := ⟨rfl⟩
instance {p : Option Addr} : CellsOf (.pointer p) [.pointer p] := ⟨rfl⟩
instance {p : Option Addr} {l c : Nat} : CellsOf (.slice p l c) [.slice p l c] := ⟨rfl⟩
instance {r : Option Nat} : CellsOf (.map r) [.map r] := ⟨rfl⟩
instance {fn : Fn} {a b : Array Value} : CellsOf (.func fn a b) [.func fn a b] := ⟨rfl⟩
instance : CellsOf .nilFunc [.nilFunc] := ⟨rfl⟩
instance : CellsOf .nilIface [.nilIface] := ⟨rfl⟩
instance {t : TypeId} {v : Value} : CellsOf (.iface t v) [.iface t v] := ⟨rfl⟩
/-- Each fits one cell. -/
def ones : List Value → Bool
  | [] => true
  | v :: vs => v.oneCell' && ones vs

/-! ### New blocks -/
section
variable {C : Cx} {ds : List Deferred} {σ : Env} {H : List Chunk} {K : Value → List Chunk → Prop} {dst : Option Tmp} {ty : TypeId} {pos : String} {aft : Array Edge} {g : Option (Nat × Bool)}
theorem opR_box {T : TypeId} {x : Operand} {v : Value} {cs : List Value} (hv : σ.val x = some v) [hc : CellsOf v cs] (h : ∀ b, K (.pointer (some ⟨b, 0, none⟩)) (Blk b (.cells cs.toArray T (0, 0)) :: H)) :
    OpR C ds ⟨dst, .box T x, ty, pos, aft, g⟩ σ H K := by
  refine OpR.of_run (fun c e => by cases e) fun ρ hρ w hw => ⟨_, _, _, ?_, h w.heap.size, hw.alloc _⟩
  simp [execOp, Instr.box, newVar, newRow, hρ _ _ hv, hc.eq]
theorem opR_alloc {T : TypeId} {z : Value} {cs : List Value} [hz : TZero C.P T z] [hc : CellsOf z cs] (h : ∀ b, K (.pointer (some ⟨b, 0, none⟩)) (Blk b (.cells cs.toArray T (0, 0)) :: H)) :
    OpR C ds ⟨dst, .alloc T, ty, pos, aft, g⟩ σ H K := by
  refine OpR.of_run (fun c e => by cases e) fun ρ hρ w hw => ⟨_, _, _, ?_, h w.heap.size, hw.alloc _⟩
  simp [execOp, Instr.alloc, newVar, newRow, hz.zero, hc.eq]
theorem opR_makeMap {T : TypeId} (h : ∀ b, K (.map (some b)) (Blk b (.map #[] 0) :: H)) : OpR C ds ⟨dst, .makeMap T none, ty, pos, aft, g⟩ σ H K := by
  refine OpR.of_run (fun c e => by cases e) fun ρ hρ w hw => ⟨_, _, _, ?_, h w.heap.size, hw.alloc _⟩
  simp [execOp, Instr.makeMap]

/-! ### Stores -/
theorem heap_self {w : World} {b : Nat} {o : Obj} (hb : w.heap[b]? = some o) : w.heap.setIfInBounds b o = w.heap := by
  have hlt := (Array.getElem?_eq_some_iff.1 hb).1
  apply Array.ext_getElem?
  intro j
  by_cases hj : b = j
  · subst hj; rw [Array.getElem?_setIfInBounds_self_of_lt hlt, hb]
  · rw [Array.getElem?_setIfInBounds_ne hj]
theorem setCell_blk {w : World} {b o : Nat} {L : List Value} {E : TypeId} {v : Value} (hb : w.heap[b]? = some (.cells L.toArray E (0, 0))) :
    w.setCell ⟨b, o, none⟩ v = { w with heap := w.heap.setIfInBounds b (.cells (L.set o v).toArray E (0, 0)) } := by
  have hlt := (Array.getElem?_eq_some_iff.1 hb).1
  unfold World.setCell
  congr 1
  apply Array.ext_getElem?
  intro i
  rw [Array.getElem?_modify]
  by_cases hi : b = i
  · subst hi; rw [if_pos rfl, Array.getElem?_setIfInBounds_self_of_lt hlt, hb]; simp
  · rw [Array.getElem?_setIfInBounds_ne hi]; simp [hi]
theorem run_storeCells (P : Program) (b : Nat) (E : TypeId) : ∀ (vs : List Value) (i o : Nat) (L : List Value) (w : World), w.heap[b]? = some (.cells L.toArray E (0, 0)) → o + i + vs.length ≤ L.length → ones vs = true →
    (storeCells ⟨b, o, none⟩ vs i).run P w = .ok () { w with heap := w.heap.setIfInBounds b (.cells (setsL L (o + i) vs).toArray E (0, 0)) }
  | [], i, o, L, w, hb, _, _ => by
    simp only [storeCells, Sem.run_pure, setsL, heap_self hb]
  | v :: vs, i, o, L, w, hb, hlen, h1 => by
    simp only [ones, Bool.and_eq_true] at h1
    simp only [List.length_cons] at hlen
    have hlt := (Array.getElem?_eq_some_iff.1 hb).1
    have hc : w.cell? ⟨b, o + i, none⟩ = some (L[o + i]'(by omega)) := by simp [World.cell?, hb, show o + i < L.length by omega]
    have hfz : w.frozen? ⟨b, o + i, none⟩ = false := by simp [World.frozen?, hb]
    simp only [storeCells, Sem.run_bind, Addr.add_none, run_store P w _ v .plain h1.1, hc, hfz, Bool.false_eq_true, if_false, Result.andThen_ok, setCell_blk hb]
    rw [run_storeCells P b E vs (i + 1) o (L.set (o + i) v) _ (by simp [hlt]) (by simp; omega) h1.2]
    simp [setsL, Nat.add_assoc]
end
/-- A write that turns one owned block keeps the others: H and H' differ at that block alone. -/
inductive Upd1 (b : Nat) (o o' : Obj) : List Chunk → List Chunk → Prop
  | head {H : List Chunk} : Upd1 b o o' (Blk b o :: H) (Blk b o' :: H)
  | tail {c : Chunk} {H H' : List Chunk} : Upd1 b o o' H H' → Upd1 b o o' (c :: H) (c :: H')
theorem Upd1.split {b : Nat} {o o' : Obj} {H H' : List Chunk} (h : Upd1 b o o' H H') : ∃ R, H.Perm (Blk b o :: R) ∧ H'.Perm (Blk b o' :: R) := by
  induction h with
  | head => exact ⟨_, .refl _, .refl _⟩
  | tail _ ih => obtain ⟨R, h1, h2⟩ := ih; exact ⟨_ :: R, (h1.cons _).trans (.swap _ _ _), (h2.cons _).trans (.swap _ _ _)⟩
theorem Upd1.read {b : Nat} {o o' : Obj} {H H' : List Chunk} (h : Upd1 b o o' H H') {W0 : World} {w : World} (hw : At W0 H w) : w.heap[b]? = some o := by
  obtain ⟨R, h1, _⟩ := h.split
  exact (hw.perm h1).read
theorem Upd1.write {b : Nat} {o o' : Obj} {H H' : List Chunk} (h : Upd1 b o o' H H') {W0 : World} {w : World} (hw : At W0 H w) : At W0 H' { w with heap := w.heap.setIfInBounds b o' } := by
  obtain ⟨R, h1, h2⟩ := h.split
  exact ((hw.perm h1).write (o' := o')).perm h2.symm
/-- The row of block b among the owned, and the list with it turned. -/
class FindC (b : Nat) (H : List Chunk) (o : outParam Obj) (H' : outParam (Obj → List Chunk)) : Prop where
  upd : ∀ o', Upd1 b o o' H (H' o')
instance FindC.head {b : Nat} {o : Obj} {H : List Chunk} : FindC b (Blk b o :: H) o (fun o' => Blk b o' :: H) := ⟨fun _ => .head⟩
instance (priority := low) FindC.tail {b : Nat} {o : Obj} {c : Chunk} {H : List Chunk} {H' : Obj → List Chunk} [h : FindC b H o H'] : FindC b (c :: H) o (fun o' => c :: H' o') := ⟨fun o' => .tail (h.upd o')⟩
section
variable {C : Cx} {ds : List Deferred} {σ : Env} {H : List Chunk} {K : Value → List Chunk → Prop} {dst : Option Tmp} {ty : TypeId} {pos : String} {aft : Array Edge} {g : Option (Nat × Bool)}
theorem opR_store {T : TypeId} {x y : Operand} {b o n : Nat} {v : Value} {cs L L' : List Value} {E : TypeId} {H' : Obj → List Chunk} [hT : TSize C.P T n] (hx : σ.val x = some (.pointer (some ⟨b, o, none⟩))) (hy : σ.val y = some v) [hc : CellsOf v cs]
    (hn : cs.length = n) (h1 : ones cs = true) [hf : FindC b H (.cells L.toArray E (0, 0)) H'] [hs : SetsL L o cs L'] (h : K undef (H' (.cells L'.toArray E (0, 0)))) : OpR C ds ⟨dst, .store T x y, ty, pos, aft, g⟩ σ H K := by
  refine OpR.of_skip (fun c e => by cases e) fun ρ hρ w hw => ⟨_, _, ?_, h, (hf.upd _).write hw⟩
  have hb := (hf.upd (.cells L'.toArray E (0, 0))).read hw
  have hle : o + 0 + cs.length ≤ L.length ∨ cs = [] := hs.le
  simp only [execOp, hρ _ _ hx, hρ _ _ hy, Instr.storeAt, Instr.sureAddr, storeVar, Sem.run_bind, Sem.run_pure, Result.andThen_ok, hT.size, hc.eq, List.size_toArray, hn, ne_eq, not_true, if_false]
  rcases hle with hle | rfl
  · rw [run_storeCells C.P b E cs 0 o L w hb hle h1]
    simp [hs.eq]
  · have he : L' = L := by rw [← hs.eq]; rfl
    subst he
    simp [storeCells, heap_self hb]

end

/-! ### Structs and slices written out -/
def partsV (σ : Env) : List (Nat × Operand) → Option (List (Nat × Value))
  | [] => some []
  | (i, x) :: xs => match σ.val x with
    | some v => match partsV σ xs with
      | some vs => some ((i, v) :: vs)
      | none => none
    | none => none
theorem partsV_spec {σ : Env} {ρ : Operand → Value} (h : ∀ x u, σ.val x = some u → ρ x = u) : ∀ {xs : List (Nat × Operand)} {vs : List (Nat × Value)}, partsV σ xs = some vs → xs.map (fun p => (p.1, ρ p.2)) = vs
  | [], _, e => by cases e; rfl
  | (i, x) :: xs, vs, e => by
    simp only [partsV] at e
    cases hx : σ.val x with
    | none => rw [hx] at e; cases e
    | some v =>
      cases hr : partsV σ xs with
      | none => rw [hx, hr] at e; cases e
      | some us => rw [hx, hr] at e; cases e; rw [List.map_cons, partsV_spec h hr, h x v hx]
theorem partsV_arr {σ : Env} {ρ : Operand → Value} (h : ∀ x u, σ.val x = some u → ρ x = u) {xs : Array (Nat × Operand)} {vs : List (Nat × Value)} (e : partsV σ xs.toList = some vs) : (xs.map fun x => match x with | (i, x) => (i, ρ x)) = vs.toArray := by
  apply Array.toList_inj.mp
  rw [Array.toList_map, ← partsV_spec h e]
theorem fold_sets : ∀ (c : List Value) (k o : Nat) (L : List Value), (c.zipIdx k).foldl (fun (cs : Array Value) (p : Value × Nat) => cs.setIfInBounds (o + p.2) p.1) L.toArray = (setsL L (o + k) c).toArray
  | [], k, o, L => rfl
  | x :: c, k, o, L => by
    simp only [List.zipIdx_cons, List.foldl_cons, List.setIfInBounds_toArray, setsL]
    rw [fold_sets c (k + 1) o]
    rfl
theorem fill_cons {place : Nat → Option (Nat × Nat)} {L c : List Value} {i o n : Nat} {v : Value} {rest : List (Nat × Value)} (hp : place i = some (o, n)) (hc : v.cells = c.toArray) (hn : c.length = n) (hl : o + n ≤ L.length) :
    Instr.fill place L.toArray ((i, v) :: rest) = Instr.fill place (setsL L o c).toArray rest := by
  subst hn
  simp only [Instr.fill, hp, hc, List.size_toArray, ne_eq, not_true, decide_false, Bool.false_or, decide_eq_true_eq]
  rw [if_neg (by omega), ← Array.foldl_toList, Array.toList_zipIdx]
  exact congrArg (fun x => Instr.fill place x rest) (fold_sets c 0 o L)
theorem setsL_length : ∀ (c : List Value) (L : List Value) (o : Nat), (setsL L o c).length = L.length
  | [], _, _ => rfl
  | x :: c, L, o => by rw [setsL, setsL_length c, List.length_set]
/-- Parts 0, 1, .. of n cells each, laid into L from cell o on. -/
class FillS (n i o : Nat) (L : List Value) (vs : List (Nat × Value)) (L' : outParam (List Value)) : Prop where
  fill : o = i * n → Instr.fill (fun i => some (i * n, n)) L.toArray vs = some L'.toArray
instance FillS.nil {n i o : Nat} {L : List Value} : FillS n i o L [] L := ⟨fun _ => rfl⟩
class LenL (L : List Value) (n : outParam Nat) : Prop where
  eq : L.length = n
instance LenL.nil : LenL [] 0 := ⟨rfl⟩
instance LenL.cons {x : Value} {L : List Value} {n : Nat} [h : LenL L n] : LenL (x :: L) (n + 1) := ⟨by simp [h.eq]⟩
instance FillS.cons {n i o : Nat} {L c L1 L2 : List Value} {v : Value} {vs : List (Nat × Value)} [hc : CellsOf v c] [hn : LenL c n] [hs : SetsL L o c L1] [hr : FillS n (i + 1) (o + n) L1 vs L2] : FillS n i o L ((i, v) :: vs) L2 :=
  ⟨fun ho => by
    have hle : o + n ≤ L.length ∨ n = 0 := by
      rcases hs.le with h | h
      · left; rw [← hn.eq]; exact h
      · right; rw [← hn.eq, h]; rfl
    by_cases h0 : n = 0
    · subst h0
      have hnil : c = [] := List.length_eq_zero_iff.1 hn.eq
      subst hnil
      have e1 : L1 = L := by rw [← hs.eq]; rfl
      subst e1
      have := hr.fill (by omega)
      have e2 : ([] : List Value).toArray.zipIdx.foldl (fun (cs : Array Value) (p : Value × Nat) => cs.setIfInBounds (i * 0 + p.2) p.1) L1.toArray = L1.toArray := rfl
      simp only [Instr.fill, hc.eq]
      rw [if_neg (by simp)]
      exact this
    · rw [fill_cons (o := i * n) rfl hc.eq hn.eq (by rw [← ho]; exact hle.resolve_right h0), ← ho, hs.eq]
      exact hr.fill (by rw [ho, Nat.add_mul, Nat.one_mul])⟩
class PlaceAt (pl : List (Nat × Nat)) (i : Nat) (o n : outParam Nat) : Prop where
  eq : pl[i]? = some (o, n)
instance PlaceAt.zero {o n : Nat} {pl : List (Nat × Nat)} : PlaceAt ((o, n) :: pl) 0 o n := ⟨rfl⟩
instance PlaceAt.succ {x : Nat × Nat} {pl : List (Nat × Nat)} {i o n : Nat} [h : PlaceAt pl i o n] : PlaceAt (x :: pl) (i + 1) o n := ⟨by simpa using h.eq⟩
/-- Parts laid into the cells of a struct whose fields lie at 'pl'. -/
class FillP (pl : List (Nat × Nat)) (L : List Value) (vs : List (Nat × Value)) (L' : outParam (List Value)) : Prop where
  fill : Instr.fill (fun i => pl[i]?) L.toArray vs = some L'.toArray
instance FillP.nil {pl : List (Nat × Nat)} {L : List Value} : FillP pl L [] L := ⟨rfl⟩
instance FillP.cons {pl : List (Nat × Nat)} {i o n : Nat} {L c L1 L2 : List Value} {v : Value} {x : Value} {vs : List (Nat × Value)} [hp : PlaceAt pl i o n] [hc : CellsOf v (x :: c)] [hn : LenL (x :: c) n] [hs : SetsL L o (x :: c) L1] [hr : FillP pl L1 vs L2] : FillP pl L ((i, v) :: vs) L2 :=
  ⟨by rw [fill_cons hp.eq hc.eq hn.eq (by rw [← hn.eq]; exact hs.le.resolve_right (by simp)), hs.eq]; exact hr.fill⟩
class TPlaces (P : Program) (T : TypeId) (pl : outParam (List (Nat × Nat))) : Prop where
  places : ∀ w, ∃ fields, (underlying T).run P w = .ok (.struct fields) w ∧ (fields.mapM fun f => do pure (f.offset, ← sizeOf f.type) : Sem (Array (Nat × Nat))).run P w = .ok pl.toArray w
class RepL (n : Nat) (z : List Value) (Z : outParam (List Value)) : Prop where
  eq : (List.replicate n z).flatten = Z
instance RepL.zero {z : List Value} : RepL 0 z [] := ⟨rfl⟩
instance RepL.succ {n : Nat} {z Z l : List Value} [h : RepL n z Z] [k : AppL z Z l] : RepL (n + 1) z l := ⟨by rw [List.replicate_succ, List.flatten_cons, h.eq, k.eq]⟩
theorem zeros_eq (z : List Value) (hz : z ≠ []) (n : Nat) : ((Array.range (n * z.length)).map (z.toArray[· % z.toArray.size]!)) = ((List.replicate n z).flatten).toArray := by
  have hpos : 0 < z.length := by cases z with | nil => exact absurd rfl hz | cons => simp
  apply Array.ext
  · simp
  · intro i h1 h2
    simp only [Array.size_map, Array.size_range] at h1
    have hm : i % z.length < z.length := Nat.mod_lt _ hpos
    simp only [Array.getElem_map, Array.getElem_range, List.size_toArray, List.getElem_toArray]
    rw [getElem!_pos z.toArray _ (by simpa using hm)]
    simp only [List.getElem_toArray]
    have key : ∀ (n i : Nat) (h : i < (List.replicate n z).flatten.length), (List.replicate n z).flatten[i] = z[i % z.length]'(Nat.mod_lt _ hpos) := by
      intro n
      induction n with
      | zero => intro i h; simp at h
      | succ n ih =>
        intro i h
        simp only [List.replicate_succ, List.flatten_cons]
        by_cases hi : i < z.length
        · rw [List.getElem_append_left hi]; congr 1; exact (Nat.mod_eq_of_lt hi).symm
        · rw [List.getElem_append_right (by omega), ih]
          congr 1
          exact (Nat.mod_eq_sub_mod (by omega)).symm
    exact (key n i _).symm
section
variable {C : Cx} {ds : List Deferred} {σ : Env} {H : List Chunk} {K : Value → List Chunk → Prop} {dst : Option Tmp} {ty : TypeId} {pos : String} {aft : Array Edge} {g : Option (Nat × Bool)}
theorem ex_build {P : Program} {S : World → Prop} {T : TypeId} {parts : Array (Nat × Operand)} {vs : List (Nat × Value)} {z : Value} {zs L : List Value} {pl : List (Nat × Nat)} (hv : partsV σ parts.toList = some vs) [hz : TZero P T z] [hc : CellsOf z zs] [hp : TPlaces P T pl] [hf : FillP pl zs vs L] :
    Ex P S σ (.build T parts) (.agg L.toArray) := by
  refine Ex.any (fun ρ hρ c hop w _ => ?_) (fun _ _ e => by cases e) (fun _ e => by cases e)
  obtain ⟨fields, h1, h2⟩ := hp.places w
  have hfill : Instr.fill (fun i => pl.toArray[i]?) zs.toArray vs = some L.toArray := by simpa using hf.fill
  simp only [execOp, hop, Instr.build, Sem.run_bind, hz.zero, Result.andThen_ok, h1, h2, partsV_arr hρ hv, hc.eq, hfill, Sem.run_pure]
theorem opR_buildSlice {T E : TypeId} {n len : Nat} {parts : Array (Nat × Operand)} {vs : List (Nat × Value)} {z : Value} {zs Z L : List Value} (hv : partsV σ parts.toList = some vs) [hu : TUnder C.P T (.slice E)] [hsz : TSize C.P E n] [hz : TZero C.P E z] [hc : CellsOf z zs] [hn : LenL zs n]
    [hZ : RepL len zs Z] [hf : FillS n 0 0 Z vs L] (hn0 : Nat.ble 1 n = true) (hlen : Nat.ble (len * n) 1000 = true) (h0 : Nat.ble 1 len = true) (h : ∀ b, K (.slice (some ⟨b, 0, none⟩) len len) (Blk b (.cells L.toArray E (0, 0)) :: H)) :
    OpR C ds ⟨dst, .buildSlice T len parts, ty, pos, aft, g⟩ σ H K := by
  refine OpR.of_run (fun c e => by cases e) fun ρ hρ w hw => ⟨_, _, _, ?_, h w.heap.size, hw.alloc _⟩
  have hn1 : 1 ≤ n := Nat.le_of_ble_eq_true hn0
  have hl1 : len * n ≤ 1000 := Nat.le_of_ble_eq_true hlen
  have hl2 : 1 ≤ len := Nat.le_of_ble_eq_true h0
  have hzn : zs ≠ [] := fun e => by have := hn.eq; rw [e] at this; simp at this; omega
  have hbig : ¬ (len * n > 2 ^ 24) := by omega
  have hne : ¬ (len * n = 0) := by have := Nat.mul_le_mul hl2 hn1; omega
  have hzz : ((Array.range (len * n)).map (zs.toArray[· % zs.toArray.size]!)) = Z.toArray := by rw [← hZ.eq, ← zeros_eq zs hzn len, hn.eq]
  have hfill := hf.fill (by omega)
  simp only [execOp, Instr.buildSlice, Sem.run_bind, hu.under, Result.andThen_ok, hsz.size, hbig, if_false, hne, hz.zero, hc.eq, Sem.run_pure, partsV_arr hρ hv, hzz, hfill, newRow, run_newObj]
theorem opR_buildSlice0 {T E n : TypeId} [hu : TUnder C.P T (.slice E)] [hsz : TSize C.P E n] (h : ∀ b, K (.slice (some ⟨b, 0, none⟩) 0 0) (Blk b (.cells #[] E (0, 0)) :: H)) :
    OpR C ds ⟨dst, .buildSlice T 0 #[], ty, pos, aft, g⟩ σ H K := by
  refine OpR.of_run (fun c e => by cases e) fun ρ hρ w hw => ⟨_, _, _, ?_, h w.heap.size, hw.alloc _⟩
  simp [execOp, Instr.buildSlice, hu.under, hsz.size, newRow, Instr.fill]
  congr 2
  apply Array.eq_empty_of_size_eq_zero
  simp
end
end Go.Rost
