/- What a follower takes, without the program: it hangs on the set that came alone. -/
import Derived.Test.YtdjjfmoknncojaaG11
import Derived.Test.YtdjjfmoknncojaaIo
namespace Go.Rost
open Go Go.RowKit Go.Proofs

/-- Messages with their places, from a number on. -/
def numd (e : Int) : Int → List Msg → List (Plc × Msg)
  | _, [] => []
  | n, m :: l => (⟨e, n⟩, m) :: numd e (n + 1) l
theorem numd_len (e : Int) : ∀ (n : Int) (l : List Msg), (numd e n l).length = l.length
  | _, [] => rfl
  | n, m :: l => by rw [numd, List.length_cons, numd_len e (n + 1) l, List.length_cons]
theorem numd_append (e : Int) : ∀ (n : Int) (l k : List Msg), numd e n (l ++ k) = numd e n l ++ numd e (n + l.length) k
  | n, [], k => by simp [numd]
  | n, m :: l, k => by
    rw [List.cons_append, numd, numd_append e (n + 1) l k, numd, List.cons_append]
    congr 3
    simp; omega
theorem numd_get (e : Int) : ∀ (n : Int) (l : List Msg) (i : Nat) (m : Msg), l[i]? = some m → (⟨e, n + i⟩, m) ∈ numd e n l
  | n, [], i, m, h => by simp at h
  | n, x :: l, 0, m, h => by simp at h; subst h; simp [numd]
  | n, x :: l, i + 1, m, h => by
    rw [numd]
    refine List.mem_cons_of_mem _ ?_
    have := numd_get e (n + 1) l i m (by simpa using h)
    rw [show n + ((i + 1 : Nat) : Int) = n + 1 + (i : Int) by omega]
    exact this
theorem numd_mem (e : Int) : ∀ (n : Int) (l : List Msg) (q : Plc × Msg), q ∈ numd e n l → ∃ i : Nat, q.1 = ⟨e, n + i⟩ ∧ l[i]? = some q.2
  | n, [], q, h => by cases h
  | n, x :: l, q, h => by
    rw [numd] at h
    rcases List.mem_cons.1 h with rfl | h
    · exact ⟨0, by simp, rfl⟩
    · obtain ⟨i, h1, h2⟩ := numd_mem e (n + 1) l q h
      exact ⟨i + 1, by rw [h1]; congr 1; omega, by simpa using h2⟩
structure Drained (f g : Fol) (out : List Msg) : Prop where
  perm : (numd f.e f.nx out ++ g.w).Perm f.w
  e : g.e = f.e
  b : g.b = f.b
  nx : g.nx = f.nx + out.length
  dry : look g.w ⟨g.e, g.nx⟩ = none
theorem Fol.drained : ∀ (k : Nat) (f : Fol), f.w.length ≤ k → 0 ≤ f.nx → f.nx + k < 4294967296 → Drained f (f.drainN k).2 (f.drainN k).1
  | 0, f, hk, _, _ => by
    have hw : f.w = [] := List.length_eq_zero_iff.1 (by omega)
    refine ⟨by simp [Fol.drainN, numd], rfl, rfl, by simp [Fol.drainN], ?_⟩
    show look f.w _ = none
    rw [hw]; rfl
  | k + 1, f, hk, h0, h1 => by
    cases hs : f.step with
    | none =>
      rw [show f.drainN (k + 1) = ([], f) by rw [Fol.drainN, hs]]
      refine ⟨by simp [numd], rfl, rfl, by simp, ?_⟩
      unfold Fol.step at hs
      split at hs
      · assumption
      · cases hs
    | some q =>
      obtain ⟨m, g⟩ := q
      rw [show f.drainN (k + 1) = (m :: (g.drainN k).1, (g.drainN k).2) by rw [Fol.drainN, hs]]
      have hl := Fol.step_len hs
      unfold Fol.step at hs
      cases hk2 : look f.w ⟨f.e, f.nx⟩ with
      | none => rw [hk2] at hs; cases hs
      | some x =>
        rw [hk2] at hs
        cases hs
        have hnx : IntKind.u32.wrap (f.nx + 1) = f.nx + 1 := wrap32 (by omega) (by omega)
        have ih := Fol.drained k ({ f with w := mdel f.w ⟨f.e, f.nx⟩, nx := IntKind.u32.wrap (f.nx + 1) } : Fol) (by simp only at hl ⊢; omega) (by simp only; omega) (by simp only; omega)
        rw [hnx] at ih ⊢
        refine ⟨?_, ih.e, ih.b, by rw [ih.nx]; simp; omega, ih.dry⟩
        rw [numd, List.cons_append]
        exact (ih.perm.cons _).trans (look_perm hk2).symm
theorem perm_nodup_keys {l k : List (Plc × Msg)} (p : l.Perm k) (h : (mkeys k).Nodup) : (mkeys l).Nodup := (p.map _).nodup_iff.2 h
theorem entry_inj {l : List (Plc × Msg)} (h : (mkeys l).Nodup) {p : Plc} {m m' : Msg} (h1 : (p, m) ∈ l) (h2 : (p, m') ∈ l) : m = m' := by
  have a := look_mem h h1
  have b := look_mem h h2
  rw [a] at b
  exact Option.some.inj b
theorem look_none_mem {l : List (Plc × Msg)} {p : Plc} (h : look l p = none) (m : Msg) : (p, m) ∉ l := fun hm =>
  (mem_keys_look.1 h) (List.mem_map.2 ⟨_, hm, rfl⟩)
theorem numd_le {e n : Int} {o1 o2 : List Msg} {w1 w2 : List (Plc × Msg)} (p : (numd e n o1 ++ w1).Perm (numd e n o2 ++ w2)) (d1 : look w1 ⟨e, n + o1.length⟩ = none) : o2.length ≤ o1.length := by
  refine Classical.byContradiction fun hc => ?_
  obtain ⟨m, hm⟩ : ∃ m, o2[o1.length]? = some m := ⟨_, List.getElem?_eq_getElem (by omega)⟩
  have h := p.symm.subset (List.mem_append.2 (.inl (numd_get e n o2 o1.length m hm)))
  rcases List.mem_append.1 h with h | h
  · obtain ⟨i, h1, h2⟩ := numd_mem e n o1 _ h
    simp only [Plc.mk.injEq, true_and] at h1
    have := (List.getElem?_eq_some_iff.1 h2).1
    omega
  · exact look_none_mem d1 m h
/-- What was taken, and what is left, hang on what came alone. -/
theorem numd_unique {e n : Int} {o1 o2 : List Msg} {w1 w2 : List (Plc × Msg)} (p : (numd e n o1 ++ w1).Perm (numd e n o2 ++ w2)) (hn : (mkeys (numd e n o2 ++ w2)).Nodup) (d1 : look w1 ⟨e, n + o1.length⟩ = none) (d2 : look w2 ⟨e, n + o2.length⟩ = none) : o1 = o2 ∧ w1.Perm w2 := by
  have hl : o1.length = o2.length := Nat.le_antisymm (numd_le p.symm d2) (numd_le p d1)
  have ho : o1 = o2 := by
    apply List.ext_getElem? 
    intro i
    by_cases hi : i < o1.length
    · have h1 : o1[i]? = some o1[i] := List.getElem?_eq_getElem hi
      have h2 : o2[i]? = some o2[i] := List.getElem?_eq_getElem (by omega)
      have m1 := p.subset (List.mem_append.2 (.inl (numd_get e n o1 i _ h1)))
      have m2 : ((⟨e, n + i⟩, o2[i]) : Plc × Msg) ∈ numd e n o2 ++ w2 := List.mem_append.2 (.inl (numd_get e n o2 i _ h2))
      rw [h1, h2, entry_inj hn m1 m2]
    · rw [List.getElem?_eq_none (by omega), List.getElem?_eq_none (by omega)]
  subst ho
  exact ⟨rfl, (List.perm_append_left_iff _).1 p⟩
end Go.Rost
