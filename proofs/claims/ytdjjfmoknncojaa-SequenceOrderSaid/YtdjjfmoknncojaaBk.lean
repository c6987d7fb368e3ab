/- A book of messages, without the program: what is kept, what comes next. -/
import Derived.Test.YtdjjfmoknncojaaTk
import Derived.Test.YtdjjfmoknncojaaSt
namespace Go.Rost
open Go Go.RowKit Go.Proofs

theorem right_spec {m : Msg} (h : m.right = true) : 0 ≤ m.id.from_ ∧ m.id.from_ < 16 ∧ 0 < m.id.count ∧ m.id.count < 4294967295 ∧ (m.data.size : Int) ≤ 1000 := by
  simp only [Msg.right, Bool.and_eq_true, decide_eq_true_eq] at h
  exact h
/-- The messages of an origin in a log. -/
def of (l : List Msg) (f : Int) : List Msg := l.filter fun x => decide (x.id.from_ = f)
theorem of_append (l m : List Msg) (f : Int) : of (l ++ m) f = of l f ++ of m f := by simp [of]
theorem of_one_self {x : Msg} {f : Int} (h : x.id.from_ = f) : of [x] f = [x] := by simp [of, h]
theorem of_one_ne {x : Msg} {f : Int} (h : x.id.from_ ≠ f) : of [x] f = [] := by simp [of, h]
theorem of_le (l : List Msg) (f : Int) : (of l f).length ≤ l.length := List.length_filter_le _ _
def upTo (n : Nat) : List Int := (List.range n).map fun i : Nat => (i : Int) + 1
theorem upTo_succ (n : Nat) : upTo (n + 1) = upTo n ++ [(n : Int) + 1] := by simp [upTo, List.range_succ]
structure Book.Inv (s : Book) (n : Nat) : Prop where
  len : s.log.length + s.waits.length ≤ n
  nod : (mkeys s.waits).Nodup
  key : ∀ i x, look s.waits i = some x → x.id = i ∧ x.right = true
  rt : ∀ x ∈ s.log, x.right = true
  seq : ∀ f, (of s.log f).map (·.id.count) = upTo (of s.log f).length
  cnt : ∀ f, (look s.next f).getD 0 = ((of s.log f).length : Int)
theorem Book.inv_new : Book.new.Inv 0 := ⟨by decide, by simp [Book.new, mkeys], (by intro i x h; cases h), (by intro x h; cases h), fun _ => rfl, fun _ => rfl⟩
theorem Book.Inv.num {s : Book} {n : Nat} (h : s.Inv n) (f : Int) : (of s.log f).length ≤ n := by
  have := of_le s.log f; have := h.len; omega
theorem Book.Inv.nextOf {s : Book} {n : Nat} (h : s.Inv n) (hn : n ≤ 50000) {f : Int} (h0 : 0 ≤ f) (h1 : f < 16) : s.nextOf f = ((of s.log f).length : Int) + 1 := by
  have := h.num f
  rw [Book.nextOf, if_neg (by omega), h.cnt, wrap32 (by omega) (by omega)]
theorem Book.Inv.mono {s : Book} {n m : Nat} (h : s.Inv n) (hm : n ≤ m) : s.Inv m := ⟨by have := h.len; omega, h.nod, h.key, h.rt, h.seq, h.cnt⟩
theorem Book.Inv.step {s s' : Book} {n : Nat} (h : s.Inv n) (hn : n ≤ 50000) {f : Int} (h0 : 0 ≤ f) (h1 : f < 16) (e : s.step f = some s') :
    s'.Inv n ∧ ∃ x, look s.waits ⟨f, s.nextOf f⟩ = some x ∧ x.id = ⟨f, s.nextOf f⟩ ∧ s'.log = s.log ++ [x] ∧ ∀ i, look s'.waits i = if i = ⟨f, s.nextOf f⟩ then none else look s.waits i := by
  have hl := Book.step_length e
  unfold Book.step at e
  cases hk : look s.waits ⟨f, s.nextOf f⟩ with
  | none => rw [hk] at e; cases e
  | some x =>
    rw [hk] at e
    obtain rfl := (Option.some.inj e).symm
    have hx := h.key _ _ hk
    have hf : x.id.from_ = f := by rw [hx.1]
    have hc : x.id.count = s.nextOf f := by rw [hx.1]
    have hw : ∀ i, look (mdel s.waits ⟨f, s.nextOf f⟩) i = if i = ⟨f, s.nextOf f⟩ then none else look s.waits i := fun i => look_mdel h.nod _ _
    refine ⟨⟨?_, nodup_mdel h.nod _, ?_, ?_, ?_, ?_⟩, x, rfl, hx.1, rfl, hw⟩
    · have := h.len; omega
    · intro i y hy
      rw [hw] at hy
      split at hy
      · cases hy
      · exact h.key _ _ hy
    · intro y hy
      simp only [List.mem_append, List.mem_singleton] at hy
      rcases hy with hy | rfl
      · exact h.rt _ hy
      · exact hx.2
    · intro g
      show (of (s.log ++ [x]) g).map (·.id.count) = upTo (of (s.log ++ [x]) g).length
      rw [of_append]
      by_cases hg : x.id.from_ = g
      · rw [of_one_self hg, List.length_append, List.length_singleton, upTo_succ, List.map_append, h.seq, List.map_singleton, hc, h.nextOf hn h0 h1]
        rw [← hf, hg]
      · rw [of_one_ne hg, List.append_nil]; exact h.seq g
    · intro g
      show (look (mset s.next f (IntKind.u32.wrap ((look s.next f).getD 0 + 1))) g).getD 0 = ((of (s.log ++ [x]) g).length : Int)
      rw [look_mset, of_append]
      by_cases hg : g = f
      · subst hg
        have := h.num g
        rw [if_pos rfl, of_one_self hf, h.cnt, wrap32 (by omega) (by omega)]
        simp
      · rw [if_neg hg, of_one_ne (by rw [hf]; exact fun e => hg e.symm), List.append_nil]; exact h.cnt g
/-- No message waits that comes next. -/
def Book.Dry (s : Book) (f : Int) : Prop := look s.waits ⟨f, s.nextOf f⟩ = none
theorem Book.nextOf_log {s s' : Book} {n n' : Nat} (h : s.Inv n) (h' : s'.Inv n') (hn : n ≤ 50000) (hn' : n' ≤ 50000) {f : Int} (e : of s'.log f = of s.log f) : s'.nextOf f = s.nextOf f := by
  by_cases hf : f < 0 ∨ 16 ≤ f
  · rw [Book.nextOf, Book.nextOf, if_pos hf, if_pos hf]
  · rw [h.nextOf hn (by omega) (by omega), h'.nextOf hn' (by omega) (by omega), e]
theorem Book.Inv.drainN {n : Nat} (hn : n ≤ 50000) {f : Int} (h0 : 0 ≤ f) (h1 : f < 16) : ∀ (k : Nat) (s : Book), s.Inv n → s.waits.length ≤ k →
    (Book.drainN f k s).Inv n ∧ (Book.drainN f k s).Dry f ∧ (∃ t, (Book.drainN f k s).log = s.log ++ t ∧ ∀ x ∈ t, x.id.from_ = f) ∧ (∀ i, i.from_ ≠ f → look (Book.drainN f k s).waits i = look s.waits i)
  | 0, s, h, hl => by
    refine ⟨h, ?_, ⟨[], by simp [Book.drainN], fun x hx => by cases hx⟩, fun i _ => rfl⟩
    show look s.waits _ = none
    have : s.waits = [] := List.length_eq_zero_iff.1 (by omega)
    rw [this]; rfl
  | k + 1, s, h, hl => by
    cases e : s.step f with
    | none =>
      have ed : Book.drainN f (k + 1) s = s := by rw [Book.drainN, e]
      rw [ed]
      refine ⟨h, ?_, ⟨[], by simp, fun x hx => by cases hx⟩, fun i _ => rfl⟩
      unfold Book.step at e
      unfold Book.Dry
      split at e
      · assumption
      · cases e
    | some s' =>
      have ed : Book.drainN f (k + 1) s = Book.drainN f k s' := by rw [Book.drainN, e]
      rw [ed]
      have hl' := Book.step_length e
      obtain ⟨hi, x, _, hx, hlog, hw⟩ := h.step hn h0 h1 e
      obtain ⟨a, b, ⟨t, ht, htf⟩, c⟩ := Book.Inv.drainN hn h0 h1 k s' hi (by omega)
      refine ⟨a, b, ⟨x :: t, by rw [ht, hlog]; simp, ?_⟩, ?_⟩
      · intro y hy
        rcases List.mem_cons.1 hy with rfl | hy
        · rw [hx]
        · exact htf y hy
      · intro i hif
        rw [c i hif, hw, if_neg]
        intro e; apply hif; rw [e]
theorem Book.Inv.put {s : Book} {n : Nat} {m : Msg} (h : s.Inv n) (hr : m.right = true) (hh : look s.waits m.id = none) : (s.put m).Inv (n + 1) := by
  refine ⟨?_, nodup_mset h.nod _ _, ?_, h.rt, h.seq, h.cnt⟩
  · show s.log.length + (mset s.waits m.id m).length ≤ n + 1
    rw [mset_length_new m hh]; have := h.len; omega
  · intro i x hx
    have hx' : look (mset s.waits m.id m) i = some x := hx
    rw [look_mset] at hx'
    split at hx'
    · rename_i e; cases hx'; exact ⟨e.symm, hr⟩
    · exact h.key _ _ hx'
theorem Book.has_look {s : Book} {i : Id} (h : s.has i ≠ true) : look s.waits i = none := by
  cases e : look s.waits i with
  | none => rfl
  | some x => exact absurd (by simp [Book.has, e]) h
theorem Book.Inv.take {s : Book} {n : Nat} (h : s.Inv n) (hn : n + 1 ≤ 50000) (hd : ∀ f, 0 ≤ f → f < 16 → s.Dry f) (m : Msg) :
    (s.take m).Inv (n + 1) ∧ (∀ f, 0 ≤ f → f < 16 → (s.take m).Dry f) ∧ ∃ t, (s.take m).log = s.log ++ t ∧ ∀ x ∈ t, x.id.from_ = m.id.from_ := by
  by_cases hc : m.right = false ∨ s.has m.id = true
  · rw [Book.take, if_pos hc]
    exact ⟨h.mono (by omega), hd, [], by simp, fun x hx => by cases hx⟩
  · rw [Book.take, if_neg hc]
    have hr : m.right = true := by
      cases e : m.right
      · exact absurd (.inl e) hc
      · rfl
    have hr' := right_spec hr
    have hp := h.put hr (Book.has_look fun e => hc (.inr e))
    obtain ⟨a, b, ⟨t, ht, htf⟩, c⟩ := Book.Inv.drainN (n := n + 1) hn hr'.1 hr'.2.1 (s.put m).waits.length (s.put m) hp (Nat.le_refl _)
    refine ⟨a, fun f h0 h1 => ?_, t, ht, htf⟩
    by_cases hf : f = m.id.from_
    · subst hf; exact b
    · have hof : of (Book.drainN m.id.from_ (s.put m).waits.length (s.put m)).log f = of s.log f := by
        rw [ht, of_append]
        have : of t f = [] := by
          unfold of
          rw [List.filter_eq_nil_iff]
          intro x hx; simp [htf x hx]; exact fun e => hf e.symm
        rw [this, List.append_nil]; rfl
      show look _ _ = none
      rw [show ((s.put m).drain m.id.from_).nextOf f = s.nextOf f from Book.nextOf_log h a (by omega) hn hof]
      refine (c ⟨f, s.nextOf f⟩ hf).trans ?_
      show look (mset s.waits m.id m) _ = none
      rw [look_mset, if_neg (fun e => hf (by rw [← e]))]
      exact hd f h0 h1
/-- What a book is behind a list of messages. -/
def Book.takes (s : Book) (l : List Msg) : Book := l.foldl Book.take s
theorem Book.takes_nil (s : Book) : s.takes [] = s := rfl
theorem Book.takes_snoc (s : Book) (l : List Msg) (m : Msg) : s.takes (l ++ [m]) = (s.takes l).take m := by simp [Book.takes]
structure Book.Good (s : Book) (n : Nat) : Prop where
  inv : s.Inv n
  dry : ∀ f, 0 ≤ f → f < 16 → s.Dry f
theorem Book.good_new : Book.new.Good 0 := ⟨Book.inv_new, fun _ _ _ => rfl⟩
theorem Book.Good.take {s : Book} {n : Nat} (h : s.Good n) (hn : n + 1 ≤ 50000) (m : Msg) : (s.take m).Good (n + 1) :=
  let ⟨a, b, _⟩ := h.inv.take hn h.dry m; ⟨a, b⟩
theorem Book.Good.takes : ∀ (l : List Msg) {s : Book} {n : Nat}, s.Good n → n + l.length ≤ 50000 → (s.takes l).Good (n + l.length)
  | [], _, _, h, _ => h
  | m :: l, s, n, h, hn => by
    rw [List.length_cons] at hn ⊢
    have := Book.Good.takes l (h.take (by omega) m) (by omega)
    rw [show n + (l.length + 1) = n + 1 + l.length by omega]
    exact this
theorem Book.Good.has {s : Book} {n : Nat} (h : s.Good n) (_hn : n ≤ 50000) {f : Int} (h0 : 0 ≤ f) (h1 : f < 16) : s.has ⟨f, s.nextOf f⟩ = false := by
  rw [Book.has, h.dry f h0 h1]; simp
end Go.Rost
