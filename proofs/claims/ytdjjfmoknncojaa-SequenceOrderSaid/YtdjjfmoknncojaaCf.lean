/- Calls that leave what is owned alone. -/
import Derived.Test.YtdjjfmoknncojaaFs
namespace Go.Rost
open Go Go.RowKit

/-- A call that leaves what is owned alone: it may be walked over the world as it is. -/
theorem Call.fresh {P : Program} {W0 : World} {f : FuncId} {args : List Value} {H : List Chunk} {K : Value → List Chunk → Prop} (h : ∀ W1, At W0 H W1 → Call P W1 f args [] K) : Call P W0 f args H (fun v H' => (∃ H1, K v H1) ∧ H' = H) := by
  intro w hw
  refine (h w hw w (At.start w)).mono ?_
  rintro e w' ⟨v, H1, he, hk, hw'⟩
  refine ⟨v, H, he, ⟨⟨H1, hk⟩, rfl⟩, ?_⟩
  obtain ⟨hb, k, hk2, s⟩ := hw
  have hb' := hw'.1
  refine ⟨⟨⟨hb'.os.trans hb.os, hb'.tape.trans hb.tape, hb'.output.trans hb.output, Nat.le_trans hb.size hb'.size, fun i hi => (hb'.block i (Nat.lt_of_lt_of_le hi hb.size)).trans (hb.block i hi)⟩, Nat.le_trans hb.dr hb'.dr⟩, k, fun b o e => ⟨(hk2 b o e).1, ?_⟩, s⟩
  have h2 := (hk2 b o e).2
  rw [hb'.block b (Array.getElem?_eq_some_iff.1 h2).1]
  exact h2
theorem At.bare {W0 : World} {H : List Chunk} {w : World} (h : At W0 H w) : At W0 [] w := ⟨h.1, fun _ => none, fun _ _ e => (by cases e), trivial⟩
/-- .. and what it leaves behind is owned too. -/
theorem Call.over {P : Program} {W0 : World} {f : FuncId} {args : List Value} {H : List Chunk} {K : Value → List Chunk → Prop} (h : ∀ W1, At W0 H W1 → Call P W1 f args [] K) : Call P W0 f args H (fun v H' => ∃ H1, K v H1 ∧ H' = H1 ++ H) := by
  intro w hw
  refine (h w hw w (At.start w)).mono ?_
  rintro e w' ⟨v, H1, he, hk, hw'⟩
  refine ⟨v, H1 ++ H, he, ⟨H1, hk, rfl⟩, ?_⟩
  obtain ⟨hb, k, hk2, s⟩ := hw
  obtain ⟨hb', k', hk', s'⟩ := hw'
  have hlt : ∀ b o, k b = some o → b < w.heap.size := fun b o e => (Array.getElem?_eq_some_iff.1 (hk2 b o e).2).1
  have hdj : Dj k' k := ⟨fun b => by
    cases e : k' b with
    | none => exact .inl rfl
    | some o =>
      right
      cases e2 : k b with
      | none => rfl
      | some o2 => have h1 := (hk' b o e).1; have h2 := hlt b o2 e2; omega⟩
  refine ⟨⟨⟨hb'.os.trans hb.os, hb'.tape.trans hb.tape, hb'.output.trans hb.output, Nat.le_trans hb.size hb'.size, fun i hi => (hb'.block i (Nat.lt_of_lt_of_le hi hb.size)).trans (hb.block i hi)⟩, Nat.le_trans hb.dr hb'.dr⟩, un k' k, fun b o e => ?_, ?_⟩
  · cases e1 : k' b with
    | some o1 =>
      have : un k' k b = some o1 := by simp [un, e1]
      rw [this] at e
      have e3 : o1 = o := Option.some.inj e
      subst e3
      exact ⟨Nat.le_trans hb.size (hk' b o1 e1).1, (hk' b o1 e1).2⟩
    | none =>
      have : un k' k b = k b := by simp [un, e1]
      rw [this] at e
      refine ⟨(hk2 b o e).1, ?_⟩
      rw [hb'.block b (hlt b o e)]
      exact (hk2 b o e).2
  · exact (sat_append _ _ _).2 ⟨k', k, un_left, un_right hdj, hdj, s', s⟩
theorem Rd.base {W0 W1 : World} {H : List Chunk} {b o : Nat} {vs : List Value} (h : Rd (At W0 H) b o vs) (hw : At W0 H W1) : Rd (At W1 []) b o vs := fun w hw' i v e => by
  have h1 := h W1 hw i v e
  unfold World.cell? at h1 ⊢
  cases hx : W1.heap[b]? with
  | none => rw [hx] at h1; cases h1
  | some ob =>
    have hlt := (Array.getElem?_eq_some_iff.1 hx).1
    rw [hw'.1.block b hlt]
    exact h1
theorem SlR.base {α : Type} [Enc α] {W0 W1 : World} {H : List Chunk} {p : Option Addr} {l : List α} (h : SlR (At W0 H) p l) (hw : At W0 H W1) : SlR (At W1 []) p l := by
  rcases h with rfl | ⟨b, o, rfl, hr⟩
  · exact .nil
  · exact .inr ⟨b, o, rfl, hr.base hw⟩
theorem RdBlk.base {W0 W1 : World} {H : List Chunk} {b : Nat} {cs : Array Value} (h : RdBlk (At W0 H) b cs) (hw : At W0 H W1) : RdBlk (At W1 []) b cs := fun w hw' => by
  obtain ⟨T, fz, e⟩ := h W1 hw
  exact ⟨T, fz, hw'.base e⟩
/-- A slot that holds a slice that is owned. -/
def SlotC {α : Type} [Enc α] (b : Nat) (T E : TypeId) (l : List α) : Chunk := Exs fun v : Value => Star [Blk b (.cells #[v] T (0, 0)), SlT E v l]
theorem SlotC.open {α : Type} [Enc α] {W0 : World} {b : Nat} {T E : TypeId} {l : List α} {H : List Chunk} {w : World} (h : At W0 (SlotC b T E l :: H) w) : ∃ v, At W0 (Blk b (.cells #[v] T (0, 0)) :: SlT E v l :: H) w := by
  obtain ⟨v, h⟩ := At.ex.1 h
  exact ⟨v, At.star.1 h⟩
theorem SlotC.shut {α : Type} [Enc α] {W0 : World} {b : Nat} {T E : TypeId} {v : Value} {l : List α} {H : List Chunk} {w : World} (h : At W0 (Blk b (.cells #[v] T (0, 0)) :: SlT E v l :: H) w) : At W0 (SlotC b T E l :: H) w := At.ex.2 ⟨v, At.star.2 h⟩
theorem qe_exs {C : Cx} {ds : List Deferred} {Q : Exit → Act → World → Prop} {e : Exit} {σ : Env} {H : List Chunk} {α : Type} {H' : α → List Chunk} (he : ∀ w, At C.W0 H w → ∃ x, At C.W0 (H' x) w) (h : ∀ x, QE C ds Q e σ (H' x)) : QE C ds Q e σ H := fun a w hs hw => let ⟨x, hx⟩ := he w hw; h x a w hs hx
theorem Call.post {P : Program} {W0 : World} {f : FuncId} {args : List Value} {H : List Chunk} {K K' : Value → List Chunk → Prop} (h : Call P W0 f args H K) (hk : ∀ v H, K v H → ∃ H', K' v H' ∧ ∀ w, At W0 H w → At W0 H' w) : Call P W0 f args H K' :=
  fun w hw => (h w hw).mono fun _ _ ⟨v, H1, he, k, hw'⟩ => let ⟨H2, k2, h2⟩ := hk v H1 k; ⟨v, H2, he, k2, h2 _ hw'⟩
end Go.Rost
