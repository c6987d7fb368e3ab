/- What is pending, without the program: in order, by origin, then by Count. -/
import Derived.Test.YtdjjfmoknncojaaWc
import Derived.Test.YtdjjfmoknncojaaTk
import Derived.Shelf.SlSortCmp.Insertion
namespace Go.Rost
open Go Go.RowKit Go.Proofs

def idLt (a b : Id) : Prop := a.from_ < b.from_ ∨ (a.from_ = b.from_ ∧ a.count < b.count)
instance {a b : Id} : Decidable (idLt a b) := by unfold idLt; infer_instance
theorem idLt_irrefl (a : Id) : ¬ idLt a a := by unfold idLt; omega
theorem idLt_trans {a b c : Id} (h : idLt a b) (g : idLt b c) : idLt a c := by unfold idLt at *; omega
theorem idLt_asym {a b : Id} (h : idLt a b) : ¬ idLt b a := by unfold idLt at *; omega
theorem idLt_tri (a b : Id) : idLt a b ∨ a = b ∨ idLt b a := by
  obtain ⟨f, c⟩ := a
  obtain ⟨g, d⟩ := b
  unfold idLt
  simp only [Id.mk.injEq]
  omega
theorem lt_msgCmp (x y : Msg) : ltOf msgCmp x y = decide (idLt x.id y.id) := by
  unfold ltOf msgCmp orV cmpV idLt
  apply decide_eq_decide.2
  repeat' split
  all_goals omega
theorem swo_msg : Go.Sort.SWO (ltOf msgCmp) where
  irrefl x := by rw [lt_msgCmp]; simp [idLt_irrefl]
  trans x y z h g := by
    rw [lt_msgCmp] at *
    simp only [decide_eq_true_eq] at *
    exact idLt_trans h g
  ntrans x y z h g := by
    rw [lt_msgCmp] at *
    simp only [decide_eq_false_iff_not] at *
    unfold idLt at *; omega
/-- Sorted: each ahead of what stands behind it. -/
def Asc (l : List Msg) : Prop := l.Pairwise fun x y => idLt x.id y.id
theorem Asc.unique : ∀ {l k : List Msg}, Asc l → Asc k → l.Perm k → l = k
  | [], k, _, _, p => (p.symm.eq_nil).symm
  | x :: l, k, h, g, p => by
    cases k with
    | nil => exact absurd p.eq_nil (by simp)
    | cons y k =>
      have h1 := List.pairwise_cons.1 h
      have g1 := List.pairwise_cons.1 g
      have hxy : x = y := by
        have hx : x ∈ y :: k := p.subset (by simp)
        have hy : y ∈ x :: l := p.symm.subset (by simp)
        rcases List.mem_cons.1 hx with e | hx
        · exact e
        rcases List.mem_cons.1 hy with e | hy
        · exact e.symm
        exact absurd (h1.1 y hy) (idLt_asym (g1.1 x hx))
      subst hxy
      rw [Asc.unique h1.2 g1.2 (p.cons_inv)]
theorem Asc.ids {l : List Msg} (h : Asc l) : (l.map (·.id)).Nodup := by
  rw [List.Nodup, List.pairwise_map]
  refine List.Pairwise.imp (R := fun x y : Msg => idLt x.id y.id) ?_ h
  intro a b hab e
  rw [e] at hab
  exact idLt_irrefl _ hab
theorem asc_of_sorted {l k : List Msg} (hk : (k.map (·.id)).Nodup) (p : l.Perm k) (h : l.Pairwise fun x y => ltOf msgCmp y x = false) : Asc l := by
  have hn : (l.map (·.id)).Nodup := (p.map _).nodup_iff.2 hk
  rw [List.Nodup, List.pairwise_map] at hn
  refine (h.and hn).imp fun {a b} ⟨h1, h2⟩ => ?_
  rw [lt_msgCmp] at h1
  simp only [decide_eq_false_iff_not] at h1
  rcases idLt_tri a.id b.id with h3 | h3 | h3
  · exact h3
  · exact absurd h3 h2
  · exact absurd h3 h1
/-- A message put in its place. -/
def ins (m : Msg) : List Msg → List Msg
  | [] => [m]
  | x :: l => if idLt x.id m.id then x :: ins m l else m :: x :: l
theorem ins_perm (m : Msg) : ∀ l, (ins m l).Perm (m :: l)
  | [] => .refl _
  | x :: l => by
    unfold ins
    split
    · exact ((ins_perm m l).cons x).trans (.swap _ _ _)
    · exact .refl _
theorem ins_length (m : Msg) (l : List Msg) : (ins m l).length = l.length + 1 := (ins_perm m l).length_eq
theorem ins_asc {m : Msg} : ∀ {l : List Msg}, Asc l → (∀ x ∈ l, x.id ≠ m.id) → Asc (ins m l)
  | [], _, _ => List.pairwise_singleton _ _
  | x :: l, h, hm => by
    have h1 := List.pairwise_cons.1 h
    unfold ins
    split
    · rename_i hlt
      refine List.pairwise_cons.2 ⟨fun y hy => ?_, ins_asc h1.2 fun y hy => hm y (by simp [hy])⟩
      rcases List.mem_cons.1 ((ins_perm m l).subset hy) with rfl | hy
      · exact hlt
      · exact h1.1 y hy
    · rename_i hlt
      have hmx : idLt m.id x.id := by
        rcases idLt_tri m.id x.id with h3 | h3 | h3
        · exact h3
        · exact absurd h3.symm (hm x (by simp))
        · exact absurd h3 hlt
      refine List.pairwise_cons.2 ⟨fun y hy => ?_, h⟩
      rcases List.mem_cons.1 hy with rfl | hy
      · exact hmx
      · exact idLt_trans hmx (h1.1 y hy)
/-- How many stand ahead of a message. -/
def insAt (m : Msg) : List Msg → Nat
  | [] => 0
  | x :: l => if idLt x.id m.id then insAt m l + 1 else 0
theorem insAt_le (m : Msg) : ∀ l, insAt m l ≤ l.length
  | [] => Nat.le_refl _
  | x :: l => by
    unfold insAt
    split
    · simpa using insAt_le m l
    · exact Nat.zero_le _
theorem ins_at (m : Msg) : ∀ l, ins m l = l.take (insAt m l) ++ (m :: l.drop (insAt m l))
  | [] => rfl
  | x :: l => by
    unfold ins insAt
    split
    · simp [ins_at m l]
    · simp
theorem insAt_lt (m : Msg) : ∀ (l : List Msg) (i : Nat) (x : Msg), l[i]? = some x → i < insAt m l → idLt x.id m.id
  | [], i, x, h, _ => by simp at h
  | y :: l, i, x, h, hi => by
    unfold insAt at hi
    split at hi
    · rename_i hlt
      cases i with
      | zero => simp at h; subst h; exact hlt
      | succ i => exact insAt_lt m l i x (by simpa using h) (by omega)
    · omega
theorem insAt_eq (m : Msg) : ∀ (l : List Msg) (x : Msg), l[insAt m l]? = some x → ¬ idLt x.id m.id
  | [], x, h => by simp at h
  | y :: l, x, h => by
    unfold insAt at h
    split at h
    · exact insAt_eq m l x (by simpa using h)
    · rename_i hlt
      simp at h; subst h; exact hlt

/-! ### A pool of messages: what is pending, what is done -/
structure Pool where
  p : List Msg
  d : List Id
def Pool.new : Pool := ⟨[], []⟩
def Pool.has (s : Pool) (i : Id) : Bool := decide (i ∈ s.p.map (·.id))
def Pool.is (s : Pool) (i : Id) : Bool := decide (i ∈ s.d)
def Pool.addErr (s : Pool) (m : Msg) : Int := if m.right = false then 100 else if s.is m.id = true ∨ s.has m.id = true then 0 else if s.p.length = 1000 then 120 else 0
def Pool.add (s : Pool) (m : Msg) : Pool := if m.right = false ∨ s.is m.id = true ∨ s.has m.id = true ∨ s.p.length = 1000 then s else ⟨ins m s.p, s.d⟩
def Pool.done1 (s : Pool) (m : Msg) : Pool := ⟨s.p.filter fun x => decide (x.id ≠ m.id), s.d ++ [m.id]⟩
def Pool.doneN : Pool → List Msg → Pool × List Msg
  | s, [] => (s, [])
  | s, m :: l => if s.is m.id = true then doneN s l else ((doneN (s.done1 m) l).1, m :: (doneN (s.done1 m) l).2)
def rightAll (l : List Msg) : Bool := l.all (·.right)
def Pool.doneErr (l : List Msg) : Int := if rightAll l = true then 0 else 100
def Pool.done (s : Pool) (l : List Msg) : Pool := if rightAll l = true then (s.doneN l).1 else s
def Pool.did (s : Pool) (l : List Msg) : List Msg := if rightAll l = true then (s.doneN l).2 else []
def batchErr (n : Int) : Int := if n < 1 ∨ 64 < n then 2 else 0
def Pool.batch (s : Pool) (n : Int) : List Msg := if n < 1 ∨ 64 < n then [] else s.p.take n.toNat
theorem Pool.doneN_in {s : Pool} {m : Msg} {l : List Msg} (h : s.is m.id = true) : s.doneN (m :: l) = s.doneN l := by rw [doneN, if_pos h]
theorem Pool.doneN_new {s : Pool} {m : Msg} {l : List Msg} (h : s.is m.id = false) : s.doneN (m :: l) = (((s.done1 m).doneN l).1, m :: ((s.done1 m).doneN l).2) := by rw [doneN, if_neg (by simp [h])]

theorem mset_new {κ ν : Type} [DecidableEq κ] {m : List (κ × ν)} {k : κ} (v : ν) (h : look m k = none) : mset m k v = m ++ [(k, v)] := by
  induction m with
  | nil => rfl
  | cons p m ih =>
    rw [look_cons] at h
    unfold mset
    by_cases hk : k = p.1
    · rw [if_pos hk] at h; cases h
    · rw [if_neg hk] at h; rw [if_neg hk, ih h]; rfl
theorem mdel_filter {κ ν : Type} [DecidableEq κ] {m : List (κ × ν)} (k : κ) (h : (mkeys m).Nodup) : mdel m k = m.filter fun p => decide (p.1 ≠ k) := by
  induction m with
  | nil => rfl
  | cons p m ih =>
    rw [mkeys, List.map_cons, List.nodup_cons] at h
    unfold mdel
    by_cases hk : k = p.1
    · rw [if_pos hk, List.filter_cons_of_neg (by simp [hk])]
      symm
      rw [List.filter_eq_self]
      intro q hq
      have : q.1 ≠ k := fun e => h.1 (by rw [← hk, ← e]; exact List.mem_map.2 ⟨q, hq, rfl⟩)
      simpa using this
    · rw [if_neg hk, List.filter_cons_of_pos (by simpa using fun e => hk e.symm), ih h.2]
/-- The maps that hold a pool. -/
structure PoolIs (pm : List (Id × Msg)) (dm : List (Id × Bool)) (s : Pool) : Prop where
  perm : s.p.Perm (pm.map (·.2))
  key : ∀ x ∈ pm, x.1 = x.2.id
  nodup : (mkeys pm).Nodup
  asc : Asc s.p
  done : ∀ i, look dm i = if i ∈ s.d then some true else none
  le : s.p.length ≤ 1000
theorem PoolIs.new : PoolIs [] [] Pool.new := ⟨.refl _, (by simp), List.nodup_nil, List.Pairwise.nil, fun i => (by simp [look_nil, Pool.new]), (by simp [Pool.new])⟩
section
variable {pm : List (Id × Msg)} {dm : List (Id × Bool)} {s : Pool}
theorem PoolIs.keys (h : PoolIs pm dm s) : mkeys pm = (pm.map (·.2)).map (·.id) := by
  rw [mkeys, List.map_map]
  exact List.map_congr_left fun x hx => h.key x hx
theorem PoolIs.look (h : PoolIs pm dm s) (i : Id) : (Rost.look pm i).isSome = s.has i := by
  have hm : i ∈ s.p.map (·.id) ↔ i ∈ mkeys pm := by
    rw [h.keys]; exact (h.perm.map _).mem_iff
  unfold Pool.has
  rw [Bool.eq_iff_iff]
  simp only [decide_eq_true_eq]
  rw [hm]
  cases e : Rost.look pm i with
  | none => simp [mem_keys_look.1 e]
  | some v => simp; exact Classical.byContradiction fun hc => by rw [mem_keys_look.2 hc] at e; cases e
theorem PoolIs.len (h : PoolIs pm dm s) : pm.length = s.p.length := by have := h.perm.length_eq; simpa using this.symm
theorem PoolIs.isdone (h : PoolIs pm dm s) (i : Id) : (Rost.look dm i).getD false = s.is i := by
  rw [h.done]
  unfold Pool.is
  split <;> simp [*]
theorem PoolIs.add (h : PoolIs pm dm s) {m : Msg} (hm : s.has m.id = false) (hl : s.p.length < 1000) : PoolIs (mset pm m.id m) dm ⟨ins m s.p, s.d⟩ := by
  have hlk : Rost.look pm m.id = none := by
    have := h.look m.id
    rw [hm] at this
    simpa using this
  have e := mset_new m hlk
  refine ⟨?_, ?_, nodup_mset h.nodup _ _, ?_, h.done, ?_⟩
  · rw [e, List.map_append]
    refine (ins_perm m s.p).trans ?_
    exact (List.Perm.cons m h.perm).trans (List.perm_append_comm (l₁ := [m]))
  · intro x hx
    rw [e, List.mem_append] at hx
    rcases hx with hx | hx
    · exact h.key x hx
    · simp at hx; subst hx; rfl
  · refine ins_asc h.asc fun x hx e => ?_
    unfold Pool.has at hm
    simp only [decide_eq_false_iff_not] at hm
    exact hm (List.mem_map.2 ⟨x, hx, e⟩)
  · show (ins m s.p).length ≤ 1000
    rw [ins_length]; omega
theorem PoolIs.done1 (h : PoolIs pm dm s) (m : Msg) : PoolIs (mdel pm m.id) (mset dm m.id true) (s.done1 m) := by
  refine ⟨?_, ?_, nodup_mdel h.nodup _, ?_, ?_, ?_⟩
  · rw [mdel_filter _ h.nodup]
    show (s.p.filter fun x => decide (x.id ≠ m.id)).Perm _
    refine (h.perm.filter _).trans ?_
    rw [List.filter_map]
    refine List.Perm.of_eq ?_
    congr 1
    apply List.filter_congr
    intro x hx
    simp [h.key x hx]
  · intro x hx
    exact h.key x ((mkeys_mdel_sub pm m.id).subset hx)
  · exact h.asc.filter _
  · intro i
    rw [look_mset, h.done]
    show _ = if i ∈ s.d ++ [m.id] then _ else _
    by_cases e : i = m.id
    · simp [e]
    · simp [e]
  · have := List.length_filter_le (fun x : Msg => decide (x.id ≠ m.id)) s.p
    have := h.le
    show (s.p.filter _).length ≤ 1000
    omega
end
end Go.Rost
