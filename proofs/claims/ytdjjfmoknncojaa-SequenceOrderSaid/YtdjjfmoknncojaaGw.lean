/- A world that a call leaves, as draws and new blocks behind the one that it met. -/
import Derived.Test.YtdjjfmoknncojaaHx
import Derived.Sort.Grow
import Derived.Deep.Draws
namespace Go.Rost
open Go Go.RowKit

theorem At.grown {W w' : World} (h : At W [] w') : ∃ q os', w' = Go.Sort.grow (W.drewN q) os' := by
  obtain ⟨hb, _⟩ := h
  refine ⟨w'.drawn - W.drawn, w'.heap.extract W.heap.size w'.heap.size, ?_⟩
  have h1 := hb.os
  have h2 := hb.tape
  have h3 := hb.output
  have h4 := hb.size
  have h5 := hb.block
  have h6 := hb.dr
  have hh : w'.heap = W.heap ++ w'.heap.extract W.heap.size w'.heap.size := by
    apply Array.ext_getElem?
    intro i
    rw [Array.getElem?_append]
    split
    · rename_i hi; exact h5 i hi
    · rename_i hi
      rw [Array.getElem?_extract]
      split
      · congr 1; omega
      · rw [Array.getElem?_eq_none (by omega)]
  obtain ⟨heap, tape, drawn, os, output⟩ := w'
  simp only at h1 h2 h3 h4 h6 hh
  subst h1
  subst h2
  subst h3
  unfold Go.Sort.grow World.drewN
  simp only [World.mk.injEq, true_and, and_true]
  exact ⟨hh, by omega⟩
end Go.Rost
