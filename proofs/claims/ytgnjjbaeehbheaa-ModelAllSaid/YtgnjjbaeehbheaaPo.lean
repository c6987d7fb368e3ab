/- The model of a log, without the program: checked happenings; how many of an origin each node has delivered. -/
import Derived.Test.YtgnjjbaeehbheaaPd
namespace Go.Rost
open Go Go.RowKit Go.Proofs

theorem chk_step {s : Mod} {L : List Happ} {i : Nat} {x : Happ} (hx : L[i]? = some x) (h : 0 < (checkV s (L.drop i)).1) : (s.happen x).1 = 0 ∧ (checkV (s.happen x).2 (L.drop (i + 1))).1 + 1 = (checkV s (L.drop i)).1 := by
  obtain ⟨hlt, he⟩ := List.getElem?_eq_some_iff.1 hx
  have hd : L.drop i = x :: L.drop (i + 1) := by rw [List.drop_eq_getElem_cons hlt, he]
  rw [hd, checkV] at h ⊢
  split at h
  · rename_i h0; rw [if_pos h0]; exact ⟨h0, rfl⟩
  · exact absurd h (Nat.lt_irrefl _)
theorem chk_le : ∀ (L : List Happ) (s : Mod), (checkV s L).1 ≤ L.length
  | [], _ => Nat.le_refl _
  | h :: l, s => by
    rw [checkV]
    split
    · have := chk_le l (s.happen h).2; simp; omega
    · exact Nat.zero_le _
theorem chk_err : ∀ (L : List Happ) (s : Mod), (checkV s L).2 = 0 ∨ (checkV s L).2 = 160
  | [], _ => .inl rfl
  | h :: l, s => by
    rw [checkV]
    split
    · exact chk_err l (s.happen h).2
    · exact .inr rfl
/-- How many a node has delivered; how many of an origin. -/
def dOf (s : Mod) (a : Nat) : Nat := ((s.del[a]?).getD 0).toNat
def cntD (s : Mod) (a f : Nat) : Nat := (of (s.book.log.take (dOf s a)) (f : Int)).length
theorem dOf_le {s : Mod} {n : Nat} (h : s.Ok n) (a : Nat) : dOf s a ≤ s.book.log.length := by
  unfold dOf
  cases e : s.del[a]? with
  | none => exact Nat.zero_le _
  | some d => have := h.dl d (List.mem_of_getElem? e); simp; omega
theorem Deliv.take_log {s s' : Mod} {x : Happ} {d : Nat} (h : Deliv s s' x d) {j : Nat} (hj : j ≤ s.book.log.length) : s'.book.log.take j = s.book.log.take j := by
  rcases h.log with e | ⟨_, e⟩
  · rw [e]
  · rw [e, List.take_append_of_le_length hj]
theorem Deliv.dOf {s s' : Mod} {x : Happ} {d : Nat} (h : Deliv s s' x d) (a : Nat) : Go.Rost.dOf s' a = if a = x.node.toNat then d + 1 else Go.Rost.dOf s a := by
  unfold Go.Rost.dOf
  rw [h.del]
  by_cases ha : a = x.node.toNat
  · rw [if_pos ha, ha, List.getElem?_set_self (by have := h.node; omega)]; simp
  · rw [if_neg ha, List.getElem?_set_ne (fun e => ha e.symm)]
theorem Deliv.dOf_was {s s' : Mod} {x : Happ} {d : Nat} (h : Deliv s s' x d) : Go.Rost.dOf s x.node.toNat = d := by unfold Go.Rost.dOf; rw [h.was]; simp
theorem Deliv.taken {s s' : Mod} {x : Happ} {d : Nat} (h : Deliv s s' x d) {n : Nat} (hok : s.Ok n) (a : Nat) : s'.book.log.take (Go.Rost.dOf s' a) = if a = x.node.toNat then s.book.log.take d ++ [x.m] else s.book.log.take (Go.Rost.dOf s a) := by
  rw [h.dOf]
  split
  · obtain ⟨hlt, he⟩ := List.getElem?_eq_some_iff.1 h.get
    rw [List.take_succ_eq_append_getElem hlt, he, h.take_log h.le]
  · exact h.take_log (dOf_le hok a)
/-- The Count of what is delivered. -/
theorem Deliv.count {s s' : Mod} {x : Happ} {d n : Nat} (h : Deliv s s' x d) (hok' : s'.Ok n) : x.m.right = true ∧ x.m.id.count = ((of (s.book.log.take d) x.m.id.from_).length : Int) + 1 := by
  refine ⟨hok'.bk.rt _ (List.mem_of_getElem? h.get), ?_⟩
  rw [seq_at hok'.bk.seq h.get, h.take_log h.le]
theorem cntD_same {s s' : Mod} (hb : s'.book = s.book) (hd : s'.del = s.del) (a f : Nat) : cntD s' a f = cntD s a f := by unfold cntD dOf; rw [hb, hd]
theorem Deliv.cntD {s s' : Mod} {x : Happ} {d n g : Nat} (h : Deliv s s' x d) (hok : s.Ok n) (hg : x.m.id.from_ = (g : Int)) (a f : Nat) : Go.Rost.cntD s' a f = if a = x.node.toNat ∧ f = g then Go.Rost.cntD s a f + 1 else Go.Rost.cntD s a f := by
  unfold Go.Rost.cntD
  rw [h.taken hok]
  by_cases ha : a = x.node.toNat
  · rw [if_pos ha, ha, h.dOf_was, of_append]
    by_cases hf : f = g
    · rw [if_pos ⟨rfl, hf⟩, of_one_self (by omega), List.length_append, List.length_singleton]
    · rw [if_neg (fun e => hf e.2), of_one_ne (by omega), List.append_nil]
  · rw [if_neg ha, if_neg (fun e => ha e.1)]
end Go.Rost
