/- Where a message stands in a log, without the program. -/
import Derived.Test.YtdjjfmoknncojaaBk
namespace Go.Rost
open Go Go.RowKit Go.Proofs

theorem upTo_get (n i : Nat) (h : i < n) : (upTo n)[i]? = some ((i : Int) + 1) := by simp [upTo, h]
/-- Where a message stands in the log: its Count is one more than how many of its origin stand ahead of it. -/
theorem seq_at {l : List Msg} (hs : ∀ f, (of l f).map (·.id.count) = upTo (of l f).length) {d : Nat} {m : Msg} (h : l[d]? = some m) : m.id.count = ((of (l.take d) m.id.from_).length : Int) + 1 := by
  obtain ⟨hlt, hm⟩ := List.getElem?_eq_some_iff.1 h
  have e : l = l.take d ++ (m :: l.drop (d + 1)) := by
    conv => lhs; rw [← List.take_append_drop d l]
    rw [List.drop_eq_getElem_cons hlt, hm]
  have h1 : of l m.id.from_ = of (l.take d) m.id.from_ ++ (m :: of (l.drop (d + 1)) m.id.from_) := by
    conv => lhs; rw [e]
    rw [of_append, show m :: l.drop (d + 1) = [m] ++ l.drop (d + 1) from rfl, of_append, of_one_self rfl]
    rfl
  have h2 : ((of l m.id.from_).map (·.id.count))[(of (l.take d) m.id.from_).length]? = (upTo (of l m.id.from_).length)[(of (l.take d) m.id.from_).length]? := by rw [hs]
  rw [upTo_get _ _ (by rw [h1]; simp)] at h2
  rw [List.getElem?_map, h1] at h2
  simpa using h2
theorem of_take_le (l : List Msg) (f : Int) {i j : Nat} (h : i ≤ j) : (of (l.take i) f).length ≤ (of (l.take j) f).length := by
  obtain ⟨k, rfl⟩ := Nat.exists_eq_add_of_le h
  have : l.take (i + k) = l.take i ++ (l.drop i).take k := by rw [List.take_add]
  rw [this, of_append, List.length_append]
  omega
theorem of_take_lt {l : List Msg} {i j : Nat} {m : Msg} (h : l[i]? = some m) (hij : i < j) : (of (l.take i) m.id.from_).length < (of (l.take j) m.id.from_).length := by
  obtain ⟨hlt, hm⟩ := List.getElem?_eq_some_iff.1 h
  have h1 := of_take_le l m.id.from_ (Nat.succ_le_of_lt hij)
  rw [List.take_succ_eq_append_getElem hlt, of_append, hm, of_one_self rfl, List.length_append, List.length_singleton] at h1
  omega
/-- No id stands twice in such a log. -/
theorem seq_inj {l : List Msg} (hs : ∀ f, (of l f).map (·.id.count) = upTo (of l f).length) {i j : Nat} {x y : Msg} (hx : l[i]? = some x) (hy : l[j]? = some y) (e : x.id = y.id) : i = j := by
  have h1 := seq_at hs hx
  have h2 := seq_at hs hy
  rw [e] at h1
  rcases Nat.lt_trichotomy i j with h | h | h
  · have := of_take_lt hx h; rw [e] at this; omega
  · exact h
  · have := of_take_lt hy h; omega
theorem seq_le {l : List Msg} (hs : ∀ f, (of l f).map (·.id.count) = upTo (of l f).length) {x : Msg} (hx : x ∈ l) : x.id.count ≤ ((of l x.id.from_).length : Int) := by
  obtain ⟨i, hi, rfl⟩ := List.getElem_of_mem hx
  have h1 := seq_at hs (List.getElem?_eq_getElem hi)
  have h2 := of_take_lt (List.getElem?_eq_getElem hi) hi
  rw [List.take_length] at h2
  omega
end Go.Rost
