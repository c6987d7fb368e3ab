/- A small logic of owned blocks over the walk of code: what a call may lean on, what it owns, one rule an operation. -/
import Derived.RangeFuncIn
import Derived.RangeFuncRecord
import Derived.RangeFuncLeaves
import Derived.OrdersIn
import Derived.Below
import Derived.KernelRfl
namespace Go.Rost
open Go Go.RowKit

/-! ### Pieces of a heap -/
abbrev Hp := Nat → Option Obj
abbrev Chunk := Hp → Prop
structure Le (h k : Hp) : Prop where
  out : ∀ b o, h b = some o → k b = some o
structure Dj (h k : Hp) : Prop where
  out : ∀ b, h b = none ∨ k b = none
theorem Le.refl (h : Hp) : Le h h := ⟨fun _ _ e => e⟩
theorem Le.trans {a b c : Hp} (h : Le a b) (k : Le b c) : Le a c := ⟨fun x o e => k.out x o (h.out x o e)⟩
theorem Dj.symm {a b : Hp} (h : Dj a b) : Dj b a := ⟨fun x => (h.out x).symm⟩
theorem Dj.le {a b c : Hp} (h : Dj a b) (k : Le c b) : Dj a c := ⟨fun x => by
  rcases h.out x with h | h
  · exact .inl h
  · right
    cases e : c x with
    | none => rfl
    | some o => rw [k.out x o e] at h; cases h⟩
def un (a b : Hp) : Hp := fun x => (a x).orElse fun _ => b x
theorem un_left {a b : Hp} : Le a (un a b) := ⟨fun x o e => by simp [un, e]⟩
theorem un_right {a b : Hp} (h : Dj a b) : Le b (un a b) := ⟨fun x o e => by
  rcases h.out x with h | h
  · simp [un, h, e]
  · rw [h] at e; cases e⟩
theorem un_le {a b c : Hp} (h : Le a c) (k : Le b c) : Le (un a b) c := ⟨fun x o e => by
  cases ha : a x with
  | none => simp [un, ha] at e; exact k.out x o e
  | some o' => simp [un, ha] at e; subst e; exact h.out x _ ha⟩
theorem Dj.un {a b c : Hp} (h : Dj c a) (k : Dj c b) : Dj c (un a b) := ⟨fun x => by
  rcases h.out x with h | h
  · exact .inl h
  · rcases k.out x with k | k
    · exact .inl k
    · right; simp [Rost.un, h, k]⟩

def sat : List Chunk → Hp → Prop
  | [], _ => True
  | c :: cs, h => ∃ h1 h2 : Hp, Le h1 h ∧ Le h2 h ∧ Dj h1 h2 ∧ c h1 ∧ sat cs h2

theorem sat_le : ∀ {L : List Chunk} {h k : Hp}, sat L h → Le h k → sat L k
  | [], _, _, _, _ => trivial
  | _ :: _, _, _, ⟨h1, h2, l1, l2, d, c, s⟩, hk => ⟨h1, h2, l1.trans hk, l2.trans hk, d, c, s⟩

theorem sat_append (L M : List Chunk) : ∀ (h : Hp), sat (L ++ M) h ↔ ∃ h1 h2 : Hp, Le h1 h ∧ Le h2 h ∧ Dj h1 h2 ∧ sat L h1 ∧ sat M h2 := by
  induction L with
  | nil =>
    intro h
    constructor
    · intro s; exact ⟨fun _ => none, h, ⟨fun _ _ e => (by cases e)⟩, .refl h, ⟨fun _ => .inl rfl⟩, trivial, s⟩
    · rintro ⟨_, _, _, l2, _, _, s⟩; exact sat_le s l2
  | cons c L ih =>
    intro h
    constructor
    · rintro ⟨h1, h2, l1, l2, d, hc, s⟩
      obtain ⟨k1, k2, m1, m2, e, s1, s2⟩ := (ih h2).1 s
      exact ⟨un h1 k1, k2, un_le l1 (m1.trans l2), m2.trans l2, (Dj.un (d.le m2).symm e.symm).symm, ⟨h1, k1, un_left, un_right (d.le m1), d.le m1, hc, s1⟩, s2⟩
    · rintro ⟨h1, h2, l1, l2, d, ⟨k1, k2, m1, m2, e, hc, s1⟩, s2⟩
      have d1 : Dj k1 h2 := (d.symm.le m1).symm
      have d2 : Dj k2 h2 := (d.symm.le m2).symm
      exact ⟨k1, un k2 h2, m1.trans l1, un_le (m2.trans l1) l2, Dj.un e d1, hc, (ih _).2 ⟨k2, h2, un_left, un_right d2, d2, s1, s2⟩⟩

theorem sat_perm {L M : List Chunk} (p : L.Perm M) : ∀ {h : Hp}, sat L h → sat M h := by
  induction p with
  | nil => exact id
  | cons c _ ih => rintro h ⟨h1, h2, l1, l2, d, hc, s⟩; exact ⟨h1, h2, l1, l2, d, hc, ih s⟩
  | swap c d L =>
    rintro h ⟨h1, h2, l1, l2, dj, hc, ⟨k1, k2, m1, m2, e, hd, s⟩⟩
    exact ⟨k1, un h1 k2, m1.trans l2, un_le l1 (m2.trans l2), Dj.un (dj.le m1).symm e, hd, h1, k2, un_left, un_right (dj.le m2), dj.le m2, hc, s⟩
  | trans _ _ ih1 ih2 => exact fun s => ih2 (ih1 s)

/-- One block, as a chunk. -/
def Blk (b : Nat) (o : Obj) : Chunk := fun h => h b = some o
/-- Several chunks as one. -/
def Star (L : List Chunk) : Chunk := fun h => sat L h
/-- Something is there, and a chunk. -/
def Exs {α : Type} (c : α → Chunk) : Chunk := fun h => ∃ x, c x h
def Pr (p : Prop) (c : Chunk) : Chunk := fun h => p ∧ c h

/-! ### The world: what was there at the start lies as it lay; beside it the owned chunks -/
structure Belo (B : Nat) (w w' : World) : Prop extends Below B w w' where
  dr : w.drawn ≤ w'.drawn
def At (W0 : World) (H : List Chunk) (w : World) : Prop :=
  Belo W0.heap.size W0 w ∧ ∃ h : Hp, (∀ b o, h b = some o → W0.heap.size ≤ b ∧ w.heap[b]? = some o) ∧ sat H h

theorem At.below {W0 : World} {H : List Chunk} {w : World} (h : At W0 H w) : Below W0.heap.size W0 w := h.1.toBelow
theorem At.start (W0 : World) : At W0 [] W0 := ⟨⟨Below.refl _ _, Nat.le_refl _⟩, fun _ => none, fun _ _ e => (by cases e), trivial⟩
theorem At.perm {W0 : World} {H K : List Chunk} {w : World} (h : At W0 H w) (p : H.Perm K) : At W0 K w := ⟨h.1, h.2.elim fun k x => ⟨k, x.1, sat_perm p x.2⟩⟩
theorem At.drop {W0 : World} {c : Chunk} {H : List Chunk} {w : World} (h : At W0 (c :: H) w) : At W0 H w := by
  obtain ⟨hb, k, hk, _, h2, _, l2, _, _, s⟩ := h
  exact ⟨hb, k, hk, sat_le s l2⟩
theorem At.drew {W0 : World} {H : List Chunk} {w : World} (h : At W0 H w) (d : Nat) (hd : w.drawn ≤ d := by first | exact Nat.le_succ _ | omega | (simp; omega)) : At W0 H { w with drawn := d } :=
  ⟨⟨⟨h.1.os, h.1.tape, h.1.output, h.1.size, h.1.block⟩, Nat.le_trans h.1.dr hd⟩, h.2⟩
theorem At.read {W0 : World} {b : Nat} {o : Obj} {H : List Chunk} {w : World} (h : At W0 (Blk b o :: H) w) : w.heap[b]? = some o := by
  obtain ⟨_, k, hk, h1, h2, l1, _, _, hc, _⟩ := h
  exact (hk b o (l1.out b o hc)).2
theorem At.low {W0 : World} {b : Nat} {o : Obj} {H : List Chunk} {w : World} (h : At W0 (Blk b o :: H) w) : W0.heap.size ≤ b := by
  obtain ⟨_, k, hk, h1, h2, l1, _, _, hc, _⟩ := h
  exact (hk b o (l1.out b o hc)).1
theorem At.base {W0 : World} {H : List Chunk} {w : World} (h : At W0 H w) {b : Nat} {o : Obj} (e : W0.heap[b]? = some o) : w.heap[b]? = some o :=
  (h.1.block b (Array.getElem?_eq_some_iff.1 e).1).trans e
theorem At.alloc {W0 : World} {H : List Chunk} {w : World} (h : At W0 H w) (o : Obj) : At W0 (Blk w.heap.size o :: H) { w with heap := w.heap.push o } := by
  obtain ⟨hb, k, hk, s⟩ := h
  have hnew : ∀ b o', k b = some o' → b < w.heap.size := fun b o' e => (Array.getElem?_eq_some_iff.1 (hk b o' e).2).1
  have hkn : k w.heap.size = none := by
    cases e : k w.heap.size with
    | none => rfl
    | some o' => exact absurd (hnew _ _ e) (Nat.lt_irrefl _)
  refine ⟨?_, fun b => if b = w.heap.size then some o else k b, ?_, fun b => if b = w.heap.size then some o else none, k, ?_, ?_, ?_, ?_, s⟩
  · refine ⟨⟨hb.os, hb.tape, hb.output, by have := hb.size; simp; omega, fun i hi => ?_⟩, hb.dr⟩
    have := hb.size
    rw [← hb.block i hi, Array.getElem?_push, if_neg (by omega)]
  · intro b o' e
    by_cases hbs : b = w.heap.size
    · subst hbs; simp at e; subst e; exact ⟨hb.size, by simp⟩
    · simp [hbs] at e
      exact ⟨(hk b o' e).1, by rw [Array.getElem?_push, if_neg hbs]; exact (hk b o' e).2⟩
  · refine ⟨fun b o' e => ?_⟩; by_cases hbs : b = w.heap.size <;> simp [hbs] at e ⊢; exact e
  · refine ⟨fun b o' e => ?_⟩
    by_cases hbs : b = w.heap.size
    · subst hbs; rw [hkn] at e; cases e
    · simp [hbs, e]
  · refine ⟨fun b => ?_⟩; by_cases hbs : b = w.heap.size
    · subst hbs; exact .inr hkn
    · left; simp [hbs]
  · simp [Blk]
theorem At.write {W0 : World} {b : Nat} {o o' : Obj} {H : List Chunk} {w : World} (h : At W0 (Blk b o :: H) w) :
    At W0 (Blk b o' :: H) { w with heap := w.heap.setIfInBounds b o' } := by
  have hlow := h.low
  have hread := h.read
  obtain ⟨hb, k, hk, h1, h2, l1, l2, d, hc, s⟩ := h
  have hlt : b < w.heap.size := (Array.getElem?_eq_some_iff.1 hread).1
  have h2b : h2 b = none := by
    rcases d.out b with e | e
    · rw [Blk] at hc; rw [hc] at e; cases e
    · exact e
  refine ⟨?_, fun x => if x = b then some o' else h2 x, ?_, fun x => if x = b then some o' else none, h2, ?_, ?_, ?_, ?_, s⟩
  · refine ⟨⟨hb.os, hb.tape, hb.output, by have := hb.size; simp; omega, fun i hi => ?_⟩, hb.dr⟩
    rw [← hb.block i hi, Array.getElem?_setIfInBounds_ne (by omega)]
  · intro x o'' e
    by_cases hx : x = b
    · subst hx; simp at e; subst e; exact ⟨hlow, by simp [hlt]⟩
    · simp [hx] at e
      have := hk x o'' (l2.out x o'' e)
      exact ⟨this.1, by rw [Array.getElem?_setIfInBounds_ne (fun h => hx h.symm)]; exact this.2⟩
  · refine ⟨fun x o'' e => ?_⟩; by_cases hx : x = b <;> simp [hx] at e ⊢; exact e
  · refine ⟨fun x o'' e => ?_⟩
    by_cases hx : x = b
    · subst hx; rw [h2b] at e; cases e
    · simp [hx, e]
  · refine ⟨fun x => ?_⟩; by_cases hx : x = b
    · subst hx; exact .inr h2b
    · left; simp [hx]
  · simp [Blk]
theorem At.star {W0 : World} {L H : List Chunk} {w : World} : At W0 (Star L :: H) w ↔ At W0 (L ++ H) w := by
  constructor
  · rintro ⟨hb, k, hk, s⟩; exact ⟨hb, k, hk, (sat_append _ _ _).2 s⟩
  · rintro ⟨hb, k, hk, s⟩; exact ⟨hb, k, hk, (sat_append _ _ _).1 s⟩
theorem At.ex {α : Type} {W0 : World} {c : α → Chunk} {H : List Chunk} {w : World} : At W0 (Exs c :: H) w ↔ ∃ x, At W0 (c x :: H) w := by
  constructor
  · rintro ⟨hb, k, hk, h1, h2, l1, l2, d, ⟨x, hc⟩, s⟩; exact ⟨x, hb, k, hk, h1, h2, l1, l2, d, hc, s⟩
  · rintro ⟨x, hb, k, hk, h1, h2, l1, l2, d, hc, s⟩; exact ⟨hb, k, hk, h1, h2, l1, l2, d, ⟨x, hc⟩, s⟩
theorem At.pr {p : Prop} {W0 : World} {c : Chunk} {H : List Chunk} {w : World} : At W0 (Pr p c :: H) w ↔ p ∧ At W0 (c :: H) w := by
  constructor
  · rintro ⟨hb, k, hk, h1, h2, l1, l2, d, ⟨hp, hc⟩, s⟩; exact ⟨hp, hb, k, hk, h1, h2, l1, l2, d, hc, s⟩
  · rintro ⟨hp, hb, k, hk, h1, h2, l1, l2, d, hc, s⟩; exact ⟨hb, k, hk, h1, h2, l1, l2, d, ⟨hp, hc⟩, s⟩
theorem At.imp {W0 : World} {c c' : Chunk} {H : List Chunk} {w : World} (h : At W0 (c :: H) w) (hc : ∀ k, c k → c' k) : At W0 (c' :: H) w := by
  obtain ⟨hb, k, hk, h1, h2, l1, l2, d, x, s⟩ := h
  exact ⟨hb, k, hk, h1, h2, l1, l2, d, hc _ x, s⟩
/-- Two owned blocks are two. -/
theorem At.ne {W0 : World} {b b' : Nat} {o o' : Obj} {H : List Chunk} {w : World} (h : At W0 (Blk b o :: Blk b' o' :: H) w) : b ≠ b' := by
  rintro rfl
  obtain ⟨_, _, _, h1, h2, _, _, d, hc, ⟨k1, _, l1, _, _, hc', _⟩⟩ := h
  rcases d.out b with e | e
  · rw [Blk] at hc; rw [hc] at e; cases e
  · have := l1.out b o' hc'; rw [this] at e; cases e

end Go.Rost
