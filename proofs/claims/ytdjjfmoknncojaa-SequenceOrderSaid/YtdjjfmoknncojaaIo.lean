/- In whatever order messages come, the same are taken: without the program. -/
import Derived.Test.YtdjjfmoknncojaaSq
import Derived.Test.YtdjjfmoknncojaaBp
namespace Go.Rost
open Go

theorem look_perm {κ ν : Type} [DecidableEq κ] {m : List (κ × ν)} {k : κ} {v : ν} (h : look m k = some v) : m.Perm ((k, v) :: mdel m k) := by
  induction m with
  | nil => cases h
  | cons p m ih =>
    rw [look_cons] at h
    unfold mdel
    by_cases hk : k = p.1
    · rw [if_pos hk] at h ⊢
      cases h
      rw [hk]
    · rw [if_neg hk] at h ⊢
      exact ((ih h).cons p).trans (.swap _ _ _)
theorem look_mem {κ ν : Type} [DecidableEq κ] {m : List (κ × ν)} (hn : (mkeys m).Nodup) {k : κ} {v : ν} (h : (k, v) ∈ m) : look m k = some v := by
  induction m with
  | nil => cases h
  | cons p m ih =>
    rw [mkeys, List.map_cons, List.nodup_cons] at hn
    rw [look_cons]
    rcases List.mem_cons.1 h with e | h
    · rw [← e, if_pos rfl]
    · have hne : k ≠ p.1 := fun e => hn.1 (by rw [← e]; exact List.mem_map.2 ⟨(k, v), h, rfl⟩)
      rw [if_neg hne]
      exact ih hn.2 h
/-- What a book holds. -/
def Book.all (s : Book) : List Msg := s.log ++ s.waits.map (·.2)
theorem Book.all_step {s s' : Book} {f : Int} (e : s.step f = some s') : s'.all.Perm s.all := by
  unfold Book.step at e
  cases hk : look s.waits ⟨f, s.nextOf f⟩ with
  | none => rw [hk] at e; cases e
  | some x =>
    rw [hk] at e
    obtain rfl := (Option.some.inj e).symm
    show ((s.log ++ [x]) ++ (mdel s.waits _).map (·.2)).Perm (s.log ++ s.waits.map (·.2))
    rw [List.append_assoc]
    exact List.Perm.append_left _ ((look_perm hk).map (fun q : Id × Msg => q.2)).symm
theorem Book.all_drain {f : Int} : ∀ (k : Nat) (s : Book), (Book.drainN f k s).all.Perm s.all
  | 0, s => .refl _
  | k + 1, s => by
    cases e : s.step f with
    | none => rw [Book.drainN, e]
    | some s' =>
      rw [Book.drainN, e]
      exact (Book.all_drain k s').trans (Book.all_step e)
theorem Book.all_refused {s : Book} {m : Msg} (h : m.right = false ∨ s.has m.id = true) : s.take m = s := by rw [Book.take, if_pos h]
theorem Book.all_taken {s : Book} {m : Msg} (hr : m.right = true) (hh : s.has m.id = false) : (s.take m).all.Perm (m :: s.all) := by
  rw [Book.take, if_neg (by simp [hr, hh])]
  refine (Book.all_drain _ _).trans ?_
  show (s.log ++ (mset s.waits m.id m).map (·.2)).Perm _
  have hl : look s.waits m.id = none := Book.has_look (by simp [hh])
  rw [mset_new m hl, List.map_append, ← List.append_assoc]
  exact List.perm_append_comm (l₂ := [m])
theorem log_has {l : List Msg} (hs : ∀ f, (of l f).map (·.id.count) = upTo (of l f).length) {i : Id} (h0 : 0 < i.count) (h1 : i.count ≤ ((of l i.from_).length : Int)) : ∃ x ∈ l, x.id = i := by
  obtain ⟨j, hj⟩ : ∃ j : Nat, i.count = (j : Int) + 1 := ⟨(i.count - 1).toNat, by omega⟩
  have hjl : j < (of l i.from_).length := by omega
  have h2 := congrArg (·[j]?) (hs i.from_)
  simp only [List.getElem?_map] at h2
  rw [upTo_get _ j hjl, List.getElem?_eq_getElem hjl, Option.map_some] at h2
  have hm : (of l i.from_)[j] ∈ of l i.from_ := List.getElem_mem hjl
  have hf := List.mem_filter.1 hm
  refine ⟨_, hf.1, ?_⟩
  have e1 : (of l i.from_)[j].id.from_ = i.from_ := by simpa using hf.2
  have e2 : (of l i.from_)[j].id.count = i.count := by rw [hj]; exact Option.some.inj h2
  have key : ∀ a b : Id, a.from_ = b.from_ → a.count = b.count → a = b := by
    rintro ⟨_, _⟩ ⟨_, _⟩ h1 h2
    simp only at h1 h2
    rw [h1, h2]
  exact key _ _ e1 e2
theorem Book.Inv.has_mem {s : Book} {n : Nat} (h : s.Inv n) (hn : n ≤ 50000) {i : Id} (e : s.has i = true) : i ∈ s.all.map (·.id) := by
  unfold Book.has at e
  rw [Bool.or_eq_true] at e
  rcases e with e | e
  · obtain ⟨x, hx⟩ := Option.isSome_iff_exists.1 e
    have hm : (i, x) ∈ s.waits := (look_perm hx).symm.subset (by simp)
    refine List.mem_map.2 ⟨x, List.mem_append.2 (.inr (List.mem_map.2 ⟨_, hm, rfl⟩)), (h.key _ _ hx).1⟩
  · simp only [Bool.and_eq_true, decide_eq_true_eq] at e
    by_cases hf : i.from_ < 0 ∨ 16 ≤ i.from_
    · have h2 := e.2
      rw [Book.nextOf, if_pos hf] at h2
      omega
    · have h2 := e.2
      rw [h.nextOf hn (by omega) (by omega)] at h2
      obtain ⟨x, hx, hi⟩ := log_has h.seq e.1 (by omega)
      exact List.mem_map.2 ⟨x, List.mem_append.2 (.inl hx), hi⟩
theorem Book.takes_all : ∀ (L : List Msg) {s : Book} {n : Nat}, s.Good n → n + L.length ≤ 50000 → (∀ m ∈ L, m.id ∉ s.all.map (·.id)) → (L.map (·.id)).Nodup → (s.takes L).all.Perm (s.all ++ L.filter (·.right))
  | [], s, n, _, _, _, _ => by rw [Book.takes_nil, List.filter_nil, List.append_nil]
  | m :: L, s, n, hg, hn, hd, hu => by
    rw [List.length_cons] at hn
    rw [List.map_cons, List.nodup_cons] at hu
    have e : s.takes (m :: L) = (s.take m).takes L := rfl
    rw [e]
    have hg' := hg.take (by omega) m
    cases hr : m.right with
    | false =>
      rw [Book.all_refused (.inl hr)] at hg' ⊢
      rw [List.filter_cons_of_neg (by simp [hr])]
      exact Book.takes_all L hg' (by omega) (fun x hx => hd x (by simp [hx])) hu.2
    | true =>
      have hh : s.has m.id = false := by
        cases hh : s.has m.id with
        | false => rfl
        | true => exact absurd (hg.inv.has_mem (by omega) hh) (hd m (by simp))
      have hp := Book.all_taken hr hh
      rw [List.filter_cons_of_pos (by simp [hr])]
      refine (Book.takes_all L hg' (by omega) (fun x hx hm => ?_) hu.2).trans ?_
      · have h2 := (hp.map (·.id)).subset hm
        rw [List.map_cons] at h2
        rcases List.mem_cons.1 h2 with h3 | h3
        · exact hu.1 (by rw [← h3]; exact List.mem_map.2 ⟨x, hx, rfl⟩)
        · exact hd x (by simp [hx]) h3
      · exact (hp.append_right _).trans List.perm_middle.symm
theorem Book.Good.count_lt {s : Book} {n : Nat} (h : s.Good n) (hn : n ≤ 50000) {x : Msg} (hx : x ∈ s.log) : x.id.count < s.nextOf x.id.from_ := by
  have hr := right_spec (h.inv.rt x hx)
  rw [h.inv.nextOf hn (by omega) (by omega)]
  have := seq_le h.inv.seq hx
  omega
theorem Book.Good.wait_ge {s : Book} {n : Nat} (h : s.Good n) (hn : n ≤ 50000) (hu : (s.all.map (·.id)).Nodup) {x : Msg} (hx : x ∈ s.waits.map (·.2)) : ¬ x.id.count < s.nextOf x.id.from_ := by
  obtain ⟨⟨i, y⟩, hm, e⟩ := List.mem_map.1 hx
  subst e
  have hl := look_mem h.inv.nod hm
  have hk := h.inv.key _ _ hl
  have hr := right_spec hk.2
  intro hc
  simp only at hc
  rw [h.inv.nextOf hn (by omega) (by omega)] at hc
  obtain ⟨z, hz, hzi⟩ := log_has h.inv.seq (i := y.id) (by omega) (by omega)
  unfold Book.all at hu
  rw [List.map_append, List.nodup_append] at hu
  exact hu.2.2 _ (List.mem_map.2 ⟨z, hz, rfl⟩) _ (List.mem_map.2 ⟨y, hx, rfl⟩) hzi
theorem filter_split {α : Type} (p : α → Bool) {a b : List α} (ha : ∀ x ∈ a, p x = true) (hb : ∀ x ∈ b, p x = false) : (a ++ b).filter p = a ∧ (a ++ b).filter (fun x => !p x) = b := by
  rw [List.filter_append, List.filter_append]
  constructor
  · rw [List.filter_eq_self.2 ha, List.filter_eq_nil_iff.2 (fun x hx => by simp [hb x hx]), List.append_nil]
  · rw [List.filter_eq_nil_iff.2 (fun x hx => by simp [ha x hx]), List.filter_eq_self.2 (fun x hx => by simp [hb x hx]), List.nil_append]
theorem Book.Good.split {s : Book} {n : Nat} (h : s.Good n) (hn : n ≤ 50000) (hu : (s.all.map (·.id)).Nodup) :
    s.all.filter (fun x => decide (x.id.count < s.nextOf x.id.from_)) = s.log ∧ s.all.filter (fun x => !decide (x.id.count < s.nextOf x.id.from_)) = s.waits.map (·.2) :=
  filter_split _ (fun _ hx => by simpa using h.count_lt hn hx) (fun _ hx => by simpa using h.wait_ge hn hu hx)
theorem Book.Good.le_of {s t : Book} {n k : Nat} (h : s.Good n) (g : t.Good k) (hn : n ≤ 50000) (hp : t.all.Perm s.all) {f : Int} (h0 : 0 ≤ f) (h1 : f < 16) : (of t.log f).length ≤ (of s.log f).length := by
  refine Classical.byContradiction fun hc => ?_
  obtain ⟨x, hx, hi⟩ := log_has g.inv.seq (i := ⟨f, s.nextOf f⟩) (by rw [h.inv.nextOf hn h0 h1]; simp only; omega) (by rw [h.inv.nextOf hn h0 h1]; simp only; omega)
  have hs : x ∈ s.all := hp.subset (List.mem_append.2 (.inl hx))
  rcases List.mem_append.1 hs with hs | hs
  · have := h.count_lt hn hs
    rw [hi] at this
    exact absurd this (Int.lt_irrefl _)
  · obtain ⟨⟨i, y⟩, hm, e⟩ := List.mem_map.1 hs
    subst e
    have hl := look_mem h.inv.nod hm
    have hk := (h.inv.key _ _ hl).1
    have hd := h.dry f h0 h1
    unfold Book.Dry at hd
    simp only at hi
    rw [← hi, hk, hl] at hd
    cases hd
theorem Book.Good.same {s t : Book} {n k : Nat} (h : s.Good n) (g : t.Good k) (hn : n ≤ 50000) (hk : k ≤ 50000) (hp : t.all.Perm s.all) (f : Int) : t.nextOf f = s.nextOf f := by
  by_cases hf : f < 0 ∨ 16 ≤ f
  · rw [Book.nextOf, Book.nextOf, if_pos hf, if_pos hf]
  · rw [h.inv.nextOf hn (by omega) (by omega), g.inv.nextOf hk (by omega) (by omega)]
    have h1 := h.le_of g hn hp (f := f) (by omega) (by omega)
    have h2 := g.le_of h hk hp.symm (f := f) (by omega) (by omega)
    omega
structure Alike (s t : Book) : Prop where
  next : ∀ f, t.nextOf f = s.nextOf f
  log : t.log.Perm s.log
  waits : (t.waits.map (·.2)).Perm (s.waits.map (·.2))
  ids : ((s.waits.map (·.2)).map (·.id)).Nodup
  has : ∀ x ∈ s.log, t.has x.id = true
theorem orders {L K : List Msg} (hp : K.Perm L) (hu : (L.map (·.id)).Nodup) (hl : L.length ≤ 50000) : Alike (Book.new.takes L) (Book.new.takes K) := by
  have hlk : K.length ≤ 50000 := by rw [hp.length_eq]; exact hl
  have huk : (K.map (·.id)).Nodup := (hp.map _).nodup_iff.2 hu
  have gs := Book.good_new.takes L (by omega)
  have gt := Book.good_new.takes K (by omega)
  have hn : 0 + L.length ≤ 50000 := by omega
  have hk : 0 + K.length ≤ 50000 := by omega
  have as1 := Book.takes_all L Book.good_new (by omega) (fun m _ hm => by cases hm) hu
  have at_ := Book.takes_all K Book.good_new (by omega) (fun m _ hm => by cases hm) huk
  have hall : (Book.new.takes K).all.Perm (Book.new.takes L).all := at_.trans (((hp.filter _).append_left _).trans as1.symm)
  have hnext := gs.same gt hn hk hall
  have hus : ((Book.new.takes L).all.map (·.id)).Nodup := by
    refine (as1.map _).nodup_iff.2 ?_
    show ((L.filter (·.right)).map (·.id)).Nodup
    exact hu.sublist (List.filter_sublist.map _)
  have hut : ((Book.new.takes K).all.map (·.id)).Nodup := (hall.map _).nodup_iff.2 hus
  have ss := gs.split hn hus
  have st := gt.split hk hut
  have hlog : (Book.new.takes K).log.Perm (Book.new.takes L).log := by
    rw [← ss.1, ← st.1]
    simp only [hnext]
    exact hall.filter _
  refine ⟨hnext, hlog, ?_, ?_, fun x hx => ?_⟩
  · rw [← ss.2, ← st.2]
    simp only [hnext]
    exact hall.filter _
  · unfold Book.all at hus
    rw [List.map_append, List.nodup_append] at hus
    exact hus.2.1
  · have hx' := hlog.symm.subset hx
    have h1 := gt.count_lt hk hx'
    have h2 := right_spec (gt.inv.rt x hx')
    unfold Book.has
    rw [Bool.or_eq_true]
    right
    simp only [Bool.and_eq_true, decide_eq_true_eq]
    exact ⟨by omega, h1⟩

/-! ### A list turned -/
def rot {α : Type} (r : Nat) (l : List α) : List α := l.drop r ++ l.take r
theorem rot_perm {α : Type} (r : Nat) (l : List α) : (rot r l).Perm l := by
  unfold rot
  refine List.perm_append_comm.trans ?_
  rw [List.take_append_drop]
theorem rot_get {α : Type} (t : Nat) (l : List α) {i : Nat} (hi : i < l.length) : (rot (t % l.length) l)[i]? = l[(i + t) % l.length]? := by
  have hr : t % l.length < l.length := Nat.mod_lt _ (by omega)
  have e : (i + t) % l.length = (i + t % l.length) % l.length := by simp [Nat.add_mod]
  rw [e]
  generalize t % l.length = r at *
  unfold rot
  rw [List.getElem?_append, List.length_drop, List.getElem?_drop, List.getElem?_take]
  split
  · rw [Nat.mod_eq_of_lt (by omega), Nat.add_comm]
  · rw [if_pos (by omega), Nat.mod_eq_sub_mod (by omega), Nat.mod_eq_of_lt (by omega)]
    congr 1
    omega
end Go.Rost
