/- slices.SortFunc, in terms of what is owned: what it leaves is a permutation, sorted. -/
import Derived.Test.YtdjjfmoknncojaaGw
import Derived.Test.YtdjjfmoknncojaaCf
import Derived.Shelf.SlSortCmp.NoneTotal
namespace Go.Rost
open Go Go.RowKit Go.Proofs Go.Shelf

theorem At.grow {W0 : World} {H : List Chunk} {w : World} (h : At W0 H w) (n : Nat) (os : Array Obj) : At W0 H (Go.Sort.grow (w.drewN n) os) := by
  obtain ⟨hb, k, hk, s⟩ := h
  have hlt : ∀ b o, w.heap[b]? = some o → (Go.Sort.grow (w.drewN n) os).heap[b]? = some o := fun b o e => by
    have := (Array.getElem?_eq_some_iff.1 e).1
    show (w.heap ++ os)[b]? = some o
    rw [Array.getElem?_append_left this]; exact e
  refine ⟨⟨⟨hb.os, hb.tape, hb.output, ?_, fun i hi => ?_⟩, ?_⟩, k, fun b o e => ⟨(hk b o e).1, hlt b o (hk b o e).2⟩, s⟩
  · have := hb.size
    show W0.heap.size ≤ (w.heap ++ os).size
    rw [Array.size_append]; omega
  · have := hb.size
    show (w.heap ++ os)[i]? = _
    rw [Array.getElem?_append_left (by omega)]; exact hb.block i hi
  · have := hb.dr
    show W0.drawn ≤ w.drawn + n
    omega
section
variable {α : Type} [Enc α] [Inhabited α]
theorem flatK_flat (l : List α) : Go.Sort.flatK (Enc.enc (α := α)) (Enc.n α) l.toArray = (flat l).toArray := by
  have hs : (Go.Sort.flatK (Enc.enc (α := α)) (Enc.n α) l.toArray).size = (flat l).toArray.size := by
    rw [Go.Sort.size_flatK, List.size_toArray, List.size_toArray, flat_length]
  refine Go.Sort.ext_get! hs fun t ht => ?_
  rw [Go.Sort.size_flatK, List.size_toArray] at ht
  rw [Go.Sort.get_flatK _ _ _ t (by simpa using ht)]
  have hp := Enc.pos (α := α)
  have hi : t / Enc.n α < l.length := by
    rw [Nat.div_lt_iff_lt_mul hp]; exact ht
  have hj : t % Enc.n α < Enc.n α := Nat.mod_lt _ hp
  have h1 := flat_get (List.getElem?_eq_getElem hi) hj
  have h2 : t / Enc.n α * Enc.n α + t % Enc.n α = t := by rw [Nat.mul_comm]; exact Nat.div_add_mod t _
  rw [h2] at h1
  have h3 : l.toArray[t / Enc.n α]! = l[t / Enc.n α] := by
    rw [getElem!_pos l.toArray _ (by simpa using hi)]; simp
  rw [h3]
  have hl : t < (flat l).length := by rw [flat_length]; exact ht
  rw [getElem!_pos (flat l).toArray t (by simpa using hl)]
  have h4 : t % Enc.n α < (Enc.enc l[t / Enc.n α]).length := by rw [Enc.len]; exact hj
  rw [getElem!_pos (Enc.enc l[t / Enc.n α]) _ h4, List.getElem_toArray]
  rw [List.getElem?_eq_getElem hl, List.getElem?_eq_getElem h4] at h1
  exact (Option.some.inj h1).symm
theorem putRowK_blk {w : World} {b : Nat} {E : TypeId} {l l' : List α} {sp : List Value} (hb : w.heap[b]? = some (.cells (flat l ++ sp).toArray E (0, 0))) (hl : l'.length = l.length) (n : Nat) :
    Go.Sort.putRowK (Enc.enc (α := α)) (Enc.n α) (Go.Sort.ahead w n) b 0 l'.toArray = { w with heap := w.heap.setIfInBounds b (.cells (flat l' ++ sp).toArray E (0, 0)), drawn := w.drawn + n } := by
  have hlt := (Array.getElem?_eq_some_iff.1 hb).1
  unfold Go.Sort.putRowK Go.Sort.putRow
  rw [flatK_flat]
  unfold Go.Sort.mapBlock Go.Sort.ahead
  simp only [World.mk.injEq, and_true]
  apply Array.ext_getElem?
  intro i
  rw [Array.getElem?_modify]
  by_cases hi : b = i
  · subst hi
    rw [if_pos rfl, Array.getElem?_setIfInBounds_self_of_lt hlt, hb, Option.map_some]
    congr 1
    unfold Go.Sort.onCells
    simp only [Obj.cells.injEq, and_true]
    have hfl : (flat l').length = (flat l).length := by rw [flat_length, flat_length, hl]
    apply Array.ext_getElem?
    intro j
    unfold Go.Sort.putCells
    rw [Array.getElem?_mapIdx, List.getElem?_toArray, List.getElem?_toArray, List.getElem?_append, List.getElem?_append]
    by_cases hj : j < (flat l').length
    · rw [if_pos (by omega), if_pos hj, List.getElem?_eq_getElem (by omega : j < (flat l).length), Option.map_some, if_pos ⟨Nat.zero_le _, by simpa using hj⟩]
      rw [Nat.sub_zero, getElem!_pos (flat l').toArray j (by simpa using hj), List.getElem_toArray, List.getElem?_eq_getElem hj]
      rfl
    · rw [if_neg (by omega), if_neg hj, hfl]
      cases sp[j - (flat l).length]? with
      | none => rfl
      | some y => rw [Option.map_some, if_neg (by simpa using hj)]
  · rw [if_neg hi, Array.getElem?_setIfInBounds_ne hi]
theorem holdsK_blk {w : World} {b : Nat} {E : TypeId} {l : List α} {sp : List Value} (hb : w.heap[b]? = some (.cells (flat l ++ sp).toArray E (0, 0))) : Go.Sort.HoldsK (Enc.enc (α := α)) (Enc.n α) w b 0 l.toArray := by
  unfold Go.Sort.HoldsK
  rw [flatK_flat]
  intro j hj
  rw [List.size_toArray] at hj
  rw [getElem!_pos (flat l).toArray j (by simpa using hj), List.getElem_toArray]
  constructor
  · simp only [World.cell?, hb, Nat.zero_add, id]
    rw [List.getElem?_toArray, List.getElem?_append_left hj, List.getElem?_eq_getElem hj]
    rfl
  · simp [World.frozen?, hb]

/-- What a sort does. -/
def SortOk (P : Program) (f : FuncId) (fv : Value) (T : TypeId) (le : α → α → Prop) : Prop :=
  ∀ (W0 : World) (p : Option Addr) (c : Nat) (l : List α) (H : List Chunk), SlV p c l → l.length ≤ 100000 → Call P W0 f [.slice p l.length c, fv] (SlT T (.slice p l.length c) l :: H) (fun _ H' => ∃ l' : List α, l'.Perm l ∧ l'.Pairwise le ∧ H' = SlT T (.slice p l.length c) l' :: H)
omit [Enc α] in
theorem permIn_list {l : List α} {d' : Array α} (h : Go.Sort.PermIn 0 l.toArray.size l.toArray d') : d'.toList.Perm l := by
  obtain ⟨h1, _, h3⟩ := h
  have e1 : d'.extract 0 l.toArray.size = d' := by rw [← h1]; simp
  have e2 : l.toArray.extract 0 l.toArray.size = l.toArray := by simp
  rw [e1, e2] at h3
  exact h3
omit [Enc α] in
theorem sorted_list {lt : α → α → Bool} {d' : Array α} {n : Nat} (h : Go.Sort.SortedIn lt 0 n d') (hn : d'.size = n) : d'.toList.Pairwise fun x y => lt y x = false := by
  rw [List.pairwise_iff_getElem]
  intro i j hi hj hij
  have := h i j (Nat.zero_le _) hij (by rw [← hn]; simpa using hj)
  rw [getElem!_pos d' i (by simpa using hi), getElem!_pos d' j (by simpa using hj)] at this
  simpa using this
theorem sort_ok {P : Program} {ρ : Ren} [EncA α] (L : SlLaysF0.n6 P ρ) (E : TypeId) (aE : ∀ w, (isAgg (ρ.t 24)).run P w = .ok true w) (zE : ∀ w, (Go.sizeOf (ρ.t 24)).run P w = .ok (Enc.n α) w) (cf : α → α → Int) (hO : Go.Sort.SWO (ltOf cf)) (g : FuncId) [Fun P g]
    (hc : ∀ W (x y : α), Call P W g [Enc.val x, Enc.val y] [] (fun v _ => v = .int .i64 (cf x y))) : SortOk (α := α) P (ρ.f 6) (.func (.func g) #[] #[]) E (fun x y => ltOf cf y x = false) := by
  intro W0 p c l H hv hlen w hw
  rcases hw.slt with ⟨e, e', hw'⟩ | ⟨b, cap, sp, e, hsp, hw'⟩
  · subst e'
    cases e
    refine (AnyF.slices_SortFunc_none L none 0 (.func (.func g) #[] #[]) w).mono ?_
    rintro e w' ⟨rfl, rfl⟩
    exact ⟨_, _, rfl, ⟨[], .refl _, .nil, rfl⟩, hw⟩
  · cases e
    have hb := hw'.read
    have hblk : b < w.heap.size := (Array.getElem?_eq_some_iff.1 hb).1
    have h := AnyQ.slices_SortFunc L (Enc.n α) aE zE (Enc.enc (α := α)) Enc.len (fun x v hv => by
      have h1 := Enc.one x
      have key : ∀ L : List Value, ones L = true → ∀ v ∈ L, v.oneCell' = true := by
        intro L
        induction L with
        | nil => intro _ v hv; cases hv
        | cons u L ih =>
          intro h v hv
          simp only [ones, Bool.and_eq_true] at h
          rcases List.mem_cons.1 hv with rfl | hv
          · exact h.1
          · exact ih h.2 v hv
      exact key _ h1 v hv) cf hO g #[] b 0 c l.toArray w Fun.enter (fun m os dk _ x y => by
        have h1 := hc (sortWorldK (Enc.enc (α := α)) (Enc.n α) w b 0 m dk os) x y _ (At.start _)
        rw [EncA.agg, EncA.agg] at h1
        refine Calls.mono (R := fun e w' => ∃ v H', e = .returned v ∧ v = .int .i64 (cf x y) ∧ At (sortWorldK (Enc.enc (α := α)) (Enc.n α) w b 0 m dk os) H' w') h1 ?_
        rintro e w' ⟨v, H', rfl, rfl, hat⟩
        exact ⟨rfl, At.grown hat.bare⟩) (holdsK_blk hb) hblk (by rw [List.size_toArray]; omega)
    rw [List.size_toArray] at h
    refine Calls.mono h ?_
    rintro e w' ⟨rfl, d', n, os, hp, hs, rfl⟩
    have hperm := permIn_list (by rw [List.size_toArray]; exact hp)
    have hl' := hperm.length_eq
    have hsz : d'.size = l.length := by rw [← Array.length_toList]; exact hl'
    refine ⟨_, _, rfl, ⟨d'.toList, hperm, sorted_list hs hsz, rfl⟩, ?_⟩
    have hput := putRowK_blk (l' := d'.toList) hb hl' n
    have h3 : At W0 (SlT E (.slice (some ⟨b, 0, none⟩) l.length c) d'.toList :: H) { w with heap := w.heap.setIfInBounds b (.cells (flat d'.toList ++ sp).toArray E (0, 0)) } := by
      have := At.slt_blk (E := E) (l := d'.toList) (cap := c) hw'.write sp rfl (by rw [List.length_append, flat_length, hl', ← flat_length, ← List.length_append]; exact hsp)
      rw [hl'] at this
      exact this
    have h4 := h3.grow n os
    unfold sortWorldK
    rw [show d' = d'.toList.toArray by simp, hput]
    exact h4
end
end Go.Rost
