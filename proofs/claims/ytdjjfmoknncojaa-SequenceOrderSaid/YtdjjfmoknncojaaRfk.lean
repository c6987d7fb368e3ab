/- A range over a function that leaves something behind. -/
import Derived.Test.YtdjjfmoknncojaaFr
namespace Go.Rost
open Go Go.RowKit

theorem ct_rangeFuncK {P : Program} {N : Nat} {W0 : World} {ds : List Deferred} {σ : Env} {H : List Chunk} {Q : Exit → Act → World → Prop} {g : Operand} {ps : Array Tmp} {assign body : Code} {f : FuncId} {first cap : List Value} [Fun P f]
    {ι ζ : Type} (enc : ι → List Value) (it : Chunk) (IT : List ι → Chunk) (G : ζ → List Chunk) (step : ζ → ι → ζ × Option Code) (J : ζ → List ι → Prop) (XS : List ι → Prop) (z0 : ζ)
    (hg : σ.val g = some (.func (.func f) first.toArray cap.toArray)) (hlen : ∀ x, (enc x).length = ps.size) (hps : (ps.toList.all fun t => Nat.blt t N) = true)
    (hH : ∀ w, At W0 H w → At W0 (it :: G z0) w)
    (iter : ∀ (y : Value) (gc : ζ → Option Code → Chunk) (T : List Chunk), Yields P W0 y enc gc step J →
      Call P W0 f (first ++ ([y] ++ cap)) (it :: gc z0 none :: T) (fun _v H' => ∃ xs, XS xs ∧ H' = IT xs :: gc (runs step z0 xs).1 (runs step z0 xs).2 :: T))
    (round : ∀ l z x xs, J z (x :: xs) → RoundOK ⟨P, some l, N, W0⟩ assign body (zipEnv σ (ps.toList.zip (enc x))) (G z) (fun j H' => j = (step z x).2 ∧ H' = G (step z x).1))
    (keep : ∀ z x xs, J z (x :: xs) → (step z x).2 = none → J (step z x).1 xs)
    (after : ∀ xs db, XS xs → match (runs step z0 xs).2 with
      | none => QE ⟨P, none, N, W0⟩ (mark db :: ds) Q .normal σ (Blk db (.deferred (some [])) :: (G (runs step z0 xs).1 ++ [IT xs]))
      | some c => CT ⟨P, none, N, W0⟩ (mark db :: ds) c σ (Blk db (.deferred (some [])) :: (G (runs step z0 xs).1 ++ [IT xs])) Q) :
    CT ⟨P, none, N, W0⟩ ds (.rangeFunc g ps assign body) σ H Q := by
  intro a w hs hw
  refine wpIn_rangeFunc fun fn _ => ?_
  have hround : (fw none).round = none := rfl
  rw [hround]
  obtain ⟨W2, hW2⟩ : ∃ W2, W2 = (w.alloc (.deferred (some []))).alloc (.loop { state := .ready, pending := none, fn, tmps := a.tmps, params := ps, assign, body, defers := w.heap.size }) := ⟨_, rfl⟩
  have hA : At W0 (Blk (w.heap.size + 1) (.loop { state := .ready, pending := none, fn, tmps := a.tmps, params := ps, assign, body, defers := w.heap.size }) :: Blk w.heap.size (.deferred (some [])) :: it :: G z0) W2 := by
    have h1 := (hH w hw).alloc (.deferred (some []))
    have h2 := h1.alloc (.loop { state := .ready, pending := none, fn, tmps := a.tmps, params := ps, assign, body, defers := w.heap.size })
    have e2 : ({ w with heap := w.heap.push (.deferred (some [])) } : World).heap.size = w.heap.size + 1 := by simp
    rw [e2] at h2
    rw [hW2]
    exact h2
  refine ⟨w.heap.size + 1, [mark w.heap.size], W2, { target := .fn (.func f) cap.toArray, args := first.toArray ++ #[.func (.yield (w.heap.size + 1)) #[] #[]] }, W2, f, first.toArray ++ #[.func (.yield (w.heap.size + 1)) #[] #[]] ++ cap.toArray, W2,
    by rw [hW2]; exact run_enterLoop_outer fn a.tmps ps assign body, ?_, fun _ _ => trivial, ?_, fw_depth _, ?_⟩
  · have h1 := hs.val hg
    simp [resolve, h1, Deferred.ofValue]
    rfl
  · simp only [invoke]
    exact Fun.enter _ _
  have hy : Yields P W0 (.func (.yield (w.heap.size + 1)) #[] #[]) enc (fun z j => LoopC { state := .ready, pending := none, fn, tmps := a.tmps, params := ps, assign, body, defers := w.heap.size } (w.heap.size + 1) j (G z)) step J :=
    loop_yields (σ := σ) (N := N) ⟨hs.size, rfl, hs.get⟩ hlen hps (fun z x xs hz => round _ z x xs hz) keep
  have hB : At W0 (it :: LoopC { state := .ready, pending := none, fn, tmps := a.tmps, params := ps, assign, body, defers := w.heap.size } (w.heap.size + 1) none (G z0) :: []) W2 := by
    refine (LoopC.shut (T := [it]) (j := none) ?_).sw1
    refine hA.perm ?_
    refine List.Perm.cons _ ?_
    refine (List.Perm.trans ?_ (List.perm_append_comm (l₁ := [Blk w.heap.size (.deferred (some [])), it]) (l₂ := G z0)))
    exact List.Perm.refl _
  have hc := iter _ _ [] hy W2 hB
  have hc' := (callsIn_wide (n := 0)).2 hc
  rw [show (first.toArray ++ #[Value.func (.yield (w.heap.size + 1)) #[] #[]] ++ cap.toArray) = (first ++ ([Value.func (.yield (w.heap.size + 1)) #[] #[]] ++ cap)).toArray by simp]
  refine hc'.mono ?_
  rintro e w3 ⟨v, H', rfl, ⟨xs, hxs, rfl⟩, hw3⟩
  have hw4 := LoopC.open hw3.sw1
  have hrd := hw4.read
  refine ⟨_, _, run_endLoop hrd (by dsimp only; split <;> simp), ?_⟩
  have hw5 := hw4.write_loop (r' := { state := .exhausted, pending := (runs step z0 xs).2, fn, tmps := a.tmps, params := ps, assign, body, defers := w.heap.size })
  have hw6 := hw5.drop.first
  have hs' : Sat N (mark w.heap.size :: ds) σ { a with defers := [mark w.heap.size] ++ a.defers } := ⟨hs.size, by simp [hs.defers], hs.get⟩
  have haf := after xs w.heap.size hxs
  cases hj : (runs step z0 xs).2 with
  | none =>
    rw [hj] at haf
    simp only
    exact haf _ _ hs' (by rw [hj] at hw6; exact hw6)
  | some c =>
    rw [hj] at haf
    simp only
    exact haf _ _ hs' (by rw [hj] at hw6; exact hw6)
end Go.Rost
