/- The model of a log, without the program: what was delivered. -/
import Derived.Test.YtgnjjbaeehbheaaPm
namespace Go.Rost
open Go Go.RowKit Go.Proofs

theorem upTo_get (n i : Nat) (h : i < n) : (upTo n)[i]? = some ((i : Int) + 1) := by simp [upTo, h]
/-- Where a message stands in the log: its Count is one more than how many of its origin stand ahead of it. -/
theorem seq_at {l : List Msg} (hs : ∀ f, (of l f).map (·.id.count) = upTo (of l f).length) {d : Nat} {m : Msg} (h : l[d]? = some m) : m.id.count = ((of (l.take d) m.id.from_).length : Int) + 1 := by
  obtain ⟨hlt, hm⟩ := List.getElem?_eq_some_iff.1 h
  have e : l = l.take d ++ (m :: l.drop (d + 1)) := by
    conv => lhs; rw [← List.take_append_drop d l]
    rw [List.drop_eq_getElem_cons hlt, hm]
  have h1 : of l m.id.from_ = of (l.take d) m.id.from_ ++ (m :: of (l.drop (d + 1)) m.id.from_) := by
    conv => lhs; rw [e]
    rw [of_append, show m :: l.drop (d + 1) = [m] ++ l.drop (d + 1) from rfl, of_append, of_one_self rfl]
    rfl
  have h2 : ((of l m.id.from_).map (·.id.count))[(of (l.take d) m.id.from_).length]? = (upTo (of l m.id.from_).length)[(of (l.take d) m.id.from_).length]? := by rw [hs]
  rw [upTo_get _ _ (by rw [h1]; simp)] at h2
  rw [List.getElem?_map, h1] at h2
  simpa using h2
theorem of_take_le (l : List Msg) (f : Int) {i j : Nat} (h : i ≤ j) : (of (l.take i) f).length ≤ (of (l.take j) f).length := by
  obtain ⟨k, rfl⟩ := Nat.exists_eq_add_of_le h
  have : l.take (i + k) = l.take i ++ (l.drop i).take k := by rw [List.take_add]
  rw [this, of_append, List.length_append]
  omega
theorem of_take_lt {l : List Msg} {i j : Nat} {m : Msg} (h : l[i]? = some m) (hij : i < j) : (of (l.take i) m.id.from_).length < (of (l.take j) m.id.from_).length := by
  obtain ⟨hlt, hm⟩ := List.getElem?_eq_some_iff.1 h
  have h1 := of_take_le l m.id.from_ (Nat.succ_le_of_lt hij)
  rw [List.take_succ_eq_append_getElem hlt, of_append, hm, of_one_self rfl, List.length_append, List.length_singleton] at h1
  omega
/-- No id stands twice in such a log. -/
theorem seq_inj {l : List Msg} (hs : ∀ f, (of l f).map (·.id.count) = upTo (of l f).length) {i j : Nat} {x y : Msg} (hx : l[i]? = some x) (hy : l[j]? = some y) (e : x.id = y.id) : i = j := by
  have h1 := seq_at hs hx
  have h2 := seq_at hs hy
  rw [e] at h1
  rcases Nat.lt_trichotomy i j with h | h | h
  · have := of_take_lt hx h; rw [e] at this; omega
  · exact h
  · have := of_take_lt hy h; omega
theorem seq_le {l : List Msg} (hs : ∀ f, (of l f).map (·.id.count) = upTo (of l f).length) {x : Msg} (hx : x ∈ l) : x.id.count ≤ ((of l x.id.from_).length : Int) := by
  obtain ⟨i, hi, rfl⟩ := List.getElem_of_mem hx
  have h1 := seq_at hs (List.getElem?_eq_getElem hi)
  have h2 := of_take_lt (List.getElem?_eq_getElem hi) hi
  rw [List.take_length] at h2
  omega
/-- A message was delivered at a node. -/
def Dld (s : Mod) (a : Int) (m : Msg) : Prop := ∃ d j : Nat, 0 ≤ a ∧ s.del[a.toNat]? = some (d : Int) ∧ j < d ∧ s.book.log[j]? = some m
theorem happen_val (s : Mod) (x : Happ) : (s.happen x).1 = 0 ∨ (s.happen x).1 = 160 := by
  unfold Mod.happen
  repeat' split
  all_goals first | (left; rfl) | (right; rfl)
theorem accept_book (s : Mod) (h : Happ) : (s.accept h).book = s.book := by unfold Mod.accept; split <;> rfl
structure Deliv (s s' : Mod) (x : Happ) (d : Nat) : Prop where
  node : 0 ≤ x.node ∧ x.node < s.del.length
  was : s.del[x.node.toNat]? = some (d : Int)
  le : d ≤ s.book.log.length
  del : s'.del = s.del.set x.node.toNat ((d : Int) + 1)
  get : s'.book.log[d]? = some x.m
  log : s'.book.log = s.book.log ∨ (d = s.book.log.length ∧ s'.book.log = s.book.log ++ [x.m])
  acc : look s.acc x.m.id = some x.m ∨ x.m ∈ s.book.log
/-- What happens: nothing of what was delivered changes, or one more message is delivered. -/
theorem happen_what {s : Mod} {n : Nat} (hok : s.Ok n) (hn : n ≤ 49999) (x : Happ) :
    ((s.happen x).2.book = s.book ∧ (s.happen x).2.del = s.del ∧ ((s.happen x).1 = 0 → x.kind ≠ 3)) ∨ (x.kind = 3 ∧ (s.happen x).1 = 0 ∧ ∃ d, Deliv s (s.happen x).2 x d) := by
  unfold Mod.happen
  split
  · exact .inl ⟨rfl, rfl, fun h => by cases h⟩
  · rename_i hin
    have hin : 0 ≤ x.node ∧ x.node < s.del.length := by simp [Mod.inRange] at hin; omega
    split
    · rename_i hk
      split
      · exact .inl ⟨accept_book s x, accept_del s x, fun _ => by omega⟩
      · exact .inl ⟨rfl, rfl, fun _ => by omega⟩
    · split
      · exact .inl ⟨rfl, rfl, fun _ => by omega⟩
      · split
        · rename_i hk3
          split
          · rename_i hd
            refine .inr ⟨hk3, rfl, ?_⟩
            have hlt : x.node.toNat < s.del.length := by omega
            obtain ⟨d0, hd0⟩ : ∃ d0, s.del[x.node.toNat]? = some d0 := ⟨_, List.getElem?_eq_getElem hlt⟩
            have hdb := hok.dl d0 (List.mem_of_getElem? hd0)
            obtain ⟨d, rfl⟩ : ∃ d : Nat, d0 = (d : Int) := ⟨d0.toNat, by omega⟩
            refine ⟨d, ?_⟩
            revert hd
            unfold Mod.deliver
            rw [hd0]
            simp only [Option.getD_some, Int.toNat_natCast]
            split
            · rename_i hkl
              have hkl' : d = s.book.log.length := by omega
              split
              · rename_i hl
                intro _
                simp only [Go.Rost.layOK, Bool.and_eq_true, decide_eq_true_eq] at hl
                have ht := take_next hok.wt (hok.ac _ _ hl.1).2 hl.2
                exact ⟨hin, hd0, by omega, rfl, by show (s.book.take x.m).log[d]? = _; rw [ht.1, hkl']; simp, .inr ⟨hkl', ht.1⟩, .inl hl.1⟩
              · intro h; cases h
            · split
              · rename_i hg
                intro _
                exact ⟨hin, hd0, by omega, rfl, hg, .inl rfl, .inr (List.mem_of_getElem? hg)⟩
              · intro h; cases h
          · exact .inl ⟨rfl, rfl, fun h => by cases h⟩
        · rename_i hk3; exact .inl ⟨rfl, rfl, fun _ => hk3⟩
theorem Deliv.mem_log {s s' : Mod} {x : Happ} {d : Nat} (h : Deliv s s' x d) {j : Nat} {m : Msg} (hj : s.book.log[j]? = some m) : s'.book.log[j]? = some m := by
  rcases h.log with e | ⟨_, e⟩
  · rw [e]; exact hj
  · rw [e, List.getElem?_append_left (List.getElem?_eq_some_iff.1 hj).1]; exact hj
theorem Dld.keeps {s : Mod} {n : Nat} (hok : s.Ok n) (hn : n ≤ 49999) {a : Int} {m : Msg} (h : Dld s a m) (x : Happ) : Dld (s.happen x).2 a m := by
  obtain ⟨d, j, ha, hd, hjd, hj⟩ := h
  rcases happen_what hok hn x with ⟨e1, e2, _⟩ | ⟨_, _, d', hd'⟩
  · exact ⟨d, j, ha, by rw [e2]; exact hd, hjd, by rw [e1]; exact hj⟩
  · by_cases hn : x.node.toNat = a.toNat
    · have hdd : d' = d := by have := hd'.was; rw [hn, hd] at this; simp at this; omega
      subst hdd
      refine ⟨d' + 1, j, ha, ?_, by omega, hd'.mem_log hj⟩
      rw [hd'.del, hn, List.getElem?_set_self (List.getElem?_eq_some_iff.1 hd).1]
      rfl
    · exact ⟨d, j, ha, by rw [hd'.del, List.getElem?_set_ne hn]; exact hd, hjd, hd'.mem_log hj⟩
theorem Dld.here {s : Mod} {n : Nat} (hok : s.Ok n) (hn : n ≤ 49999) {x : Happ} (hk : x.kind = 3) (h0 : (s.happen x).1 = 0) : Dld (s.happen x).2 x.node x.m := by
  rcases happen_what hok hn x with ⟨_, _, e⟩ | ⟨_, _, d, hd⟩
  · exact absurd hk (e h0)
  · refine ⟨d + 1, d, hd.node.1, ?_, by omega, hd.get⟩
    rw [hd.del, List.getElem?_set_self (by have := hd.node; omega)]
    rfl
theorem Dld.again {s : Mod} {n : Nat} (hok : s.Ok n) (hn : n ≤ 49998) {x : Happ} (hk : x.kind = 3) (h : Dld s x.node x.m) : (s.happen x).1 = 160 := by
  rcases happen_val s x with h0 | h0
  · exfalso
    have hok' := hok.happen (by omega) x
    obtain ⟨d, j, ha, hd, hjd, hj⟩ := h
    rcases happen_what hok (by omega) x with ⟨_, _, e⟩ | ⟨_, _, d', hd'⟩
    · exact absurd hk (e h0)
    · have hdd : d' = d := by have := hd'.was; rw [hd] at this; simp at this; omega
      subst hdd
      have := seq_inj hok'.bk.seq hd'.get (hd'.mem_log hj) rfl
      omega
  · exact h0
end Go.Rost
