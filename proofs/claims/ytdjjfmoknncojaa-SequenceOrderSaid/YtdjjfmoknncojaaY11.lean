/- A way of layer 11. -/
import Derived.Test.YtdjjfmoknncojaaS11
import Derived.Test.YtdjjfmoknncojaaV11
namespace Go.Rost
open Go Go.RowKit Go.Proofs

structure WayS where
  two : Bool
  at_ : Int
def WayS.v (a : WayS) : Value := .agg #[.bool a.two, .int .i64 a.at_]
instance : Enc WayS := ⟨2, WayS.v, fun a => [.bool a.two, .int .i64 a.at_], fun _ => rfl, fun _ => rfl, by decide⟩
instance : EncA WayS := ⟨fun _ => rfl⟩
end Go.Rost
/- Of a family of numbered messages a follower takes the first ones: without the program. -/
namespace Go.Rost
open Go Go.RowKit Go.Proofs

def fam (e : Int) (g : Nat → Msg) (n : Nat) : List Numb := (List.range n).map fun i : Nat => (⟨e, (i : Int) + 1, g i⟩ : Numb)
theorem fam_len (e : Int) (g : Nat → Msg) (n : Nat) : (fam e g n).length = n := by simp [fam]
theorem fam_get {e : Int} {g : Nat → Msg} {n i : Nat} (h : i < n) : (fam e g n)[i]? = some ⟨e, (i : Int) + 1, g i⟩ := by simp [fam, h]
theorem fam_snoc (e : Int) (g : Nat → Msg) (n : Nat) : fam e g (n + 1) = fam e g n ++ [⟨e, (n : Int) + 1, g n⟩] := by simp [fam, List.range_succ]
theorem fam_next {e : Int} {g : Nat → Msg} {N : Nat} (hr : ∀ i, i < N → (g i).right = true) (hd : ∀ i j, i < N → j < N → (g i).id = (g j).id → i = j) {i : Nat} (hi : i < N) : (⟨e, fam e g i⟩ : Seq).next (g i) = ⟨e, fam e g (i + 1)⟩ := by
  have hp : posN (g i).id (fam e g i) = none := posN_none.2 fun x hx => by
    obtain ⟨j, hj, rfl⟩ := List.mem_map.1 hx
    have hj := List.mem_range.1 hj
    intro h
    have := hd j i (by omega) hi h
    omega
  rw [Seq.next, if_neg (by simp [hr i hi]), hp, fam_snoc]
  simp only [fam_len]
def gS (i : Nat) : Msg := msgM ((i % 3 : Nat) : Int) ((i / 3 + 1 : Nat) : Int)
def gT (i : Nat) : Msg := msgM ((3 + i % 2 : Nat) : Int) ((i / 2 + 1 : Nat) : Int)
theorem right_if {m : Msg} (h : 0 ≤ m.id.from_ ∧ m.id.from_ < 16 ∧ 0 < m.id.count ∧ m.id.count < 4294967295 ∧ (m.data.size : Int) ≤ 1000) : m.right = true := by
  simp only [Msg.right, Bool.and_eq_true, decide_eq_true_eq]
  exact h
theorem msgM_right {f c : Nat} (hf : f < 16) (h0 : 0 < c) (hc : c < 4294967295) : (msgM f c).right = true :=
  right_if ⟨show (0 : Int) ≤ (f : Int) by omega, show (f : Int) < 16 by omega, show (0 : Int) < (c : Int) by omega, show (c : Int) < 4294967295 by omega, show ((1 : Nat) : Int) ≤ 1000 by decide⟩
theorem msgM_id {a b c d : Nat} (h : (msgM a b).id = (msgM c d).id) : a = c ∧ b = d := by
  have h1 := congrArg Id.from_ h
  have h2 := congrArg Id.count h
  simp only [msgM] at h1 h2
  omega
theorem gS_right {i : Nat} (h : i < 100) : (gS i).right = true := msgM_right (by omega) (by omega) (by omega)
theorem gT_right {i : Nat} (h : i < 100) : (gT i).right = true := msgM_right (by omega) (by omega) (by omega)
theorem gS_inj {i j : Nat} (h : (gS i).id = (gS j).id) : i = j := by have := msgM_id h; omega
theorem gT_inj {i j : Nat} (h : (gT i).id = (gT j).id) : i = j := by have := msgM_id h; omega

/-- All that a follower holds of its epoch is of the family. -/
structure Fam (e0 : Int) (g : Nat → Msg) (n : Nat) (f : Fol) (a : List Msg) : Prop where
  e : f.e = e0
  nx : f.nx = (a.length : Int) + 1
  all : ∀ q ∈ numd e0 1 a ++ f.w, ∃ j, j < n ∧ q = (⟨e0, (j : Int) + 1⟩, g j)
theorem Fam.get {e : Int} {g : Nat → Msg} {n : Nat} {f : Fol} {a : List Msg} (h : Fam e g n f a) {i : Nat} {m : Msg} (hi : a[i]? = some m) : i < n ∧ m = g i := by
  obtain ⟨j, hj, hq⟩ := h.all _ (List.mem_append.2 (.inl (numd_get e 1 a i m hi)))
  have h1 := congrArg (fun q : Plc × Msg => q.1.n) hq
  have h2 := congrArg (fun q : Plc × Msg => q.2) hq
  simp only at h1 h2
  have : j = i := by omega
  subst this
  exact ⟨hj, h2⟩
theorem Fam.len {e : Int} {g : Nat → Msg} {n : Nat} {f : Fol} {a : List Msg} (h : Fam e g n f a) : a.length ≤ n := by
  refine Classical.byContradiction fun hc => ?_
  have := (h.get (i := n) (m := a[n]) (List.getElem?_eq_getElem (by omega))).1
  omega
theorem Fam.full {e : Int} {g : Nat → Msg} {n : Nat} {f : Fol} {a : List Msg} (h : Fam e g n f a) (hd : f.Dry) (hall : ∀ k, k < n → ((⟨e, (k : Int) + 1⟩, g k) : Plc × Msg) ∈ numd e 1 a ++ f.w) : a.length = n := by
  have hl := h.len
  refine Classical.byContradiction fun hc => ?_
  rcases List.mem_append.1 (hall a.length (by omega)) with h1 | h1
  · obtain ⟨i, hq, hi⟩ := numd_mem e 1 a _ h1
    have hq := congrArg Plc.n hq
    have hi2 := (List.getElem?_eq_some_iff.1 hi).1
    simp only at hq
    omega
  · unfold Fol.Dry at hd
    rw [h.e, h.nx] at hd
    exact look_none_mem hd _ h1
theorem keep_mem {l : List (Plc × Msg)} {p : Plc} {m : Msg} {q : Plc × Msg} (h : q ∈ keep l p m) : q ∈ l ∨ q = (p, m) := by
  cases hl : look l p with
  | none => rw [keep_none m hl] at h; simpa using h
  | some x => rw [keep_some m (by rw [hl]; rfl)] at h; exact .inl h
theorem keep_sub {l : List (Plc × Msg)} {p : Plc} {m : Msg} {q : Plc × Msg} (h : q ∈ l) : q ∈ keep l p m := by
  cases hl : look l p with
  | none => rw [keep_none m hl]; simp [h]
  | some x => rw [keep_some m (by rw [hl]; rfl)]; exact h
theorem keep_key {l : List (Plc × Msg)} (p : Plc) (m : Msg) : ∃ m', (p, m') ∈ keep l p m := by
  cases hl : look l p with
  | none => exact ⟨m, by rw [keep_none m hl]; simp⟩
  | some x => exact ⟨x, by rw [keep_some m (by rw [hl]; rfl)]; exact (look_perm hl).symm.subset (by simp)⟩
/-- What comes of the family, is taken or waits. -/
structure FamStep (e : Int) (g : Nat → Msg) (n : Nat) (f f' : Fol) (a o : List Msg) (c : Int) (k : Nat) : Prop where
  fam : Fam e g n f' (a ++ o)
  code : c = 0
  b : f'.b = f.b
  sub : ∀ q ∈ numd e 1 a ++ f.w, q ∈ numd e 1 (a ++ o) ++ f'.w
  has : ((⟨e, (k : Int) + 1⟩, g k) : Plc × Msg) ∈ numd e 1 (a ++ o) ++ f'.w
theorem Fam.recv {e : Int} {g : Nat → Msg} {n : Nat} {f : Fol} {a : List Msg} {N : Nat} (h : Fam e g n f a) (ok : f.Ok N) (hN : N ≤ 100000) {k : Nat} (hk : k < n) (hr : (g k).right = true) :
    FamStep e g n f (f.recv ⟨e, (k : Int) + 1, g k⟩).2 a (f.recv ⟨e, (k : Int) + 1, g k⟩).1.1 (f.recv ⟨e, (k : Int) + 1, g k⟩).1.2 k := by
  obtain ⟨x, hx⟩ : ∃ x : Numb, x = ⟨e, (k : Int) + 1, g k⟩ := ⟨_, rfl⟩
  have xe : x.e = e := by rw [hx]
  have xn : x.n = (k : Int) + 1 := by rw [hx]
  have xm : x.m = g k := by rw [hx]
  rw [← hx]
  have he := h.e
  have hnx := h.nx
  by_cases hlt : x.n < f.nx
  · have hrec : f.recv x = (([], 0), f) := by
      rw [Fol.recv, if_neg (by rw [xm, hr, xn]; simp; omega), if_neg (by omega), if_neg (by omega), if_pos hlt]
    rw [hrec]
    simp only
    have hka : k < a.length := by omega
    refine ⟨by rw [List.append_nil]; exact h, rfl, rfl, by simp, ?_⟩
    rw [List.append_nil]
    refine List.mem_append.2 (.inl ?_)
    have hi := List.getElem?_eq_getElem hka
    have := numd_get e 1 a k _ hi
    rw [(h.get hi).2, show (1 : Int) + (k : Int) = (k : Int) + 1 by omega] at this
    exact this
  · have hrec : f.recv x = (((f.kept x).drain.1, 0), (f.kept x).drain.2) := by
      rw [Fol.recv, if_neg (by rw [xm, hr, xn]; simp; omega), if_neg (by omega), if_neg (by omega), if_neg hlt]
    rw [hrec]
    simp only
    have d := Fol.kept_drained ok hN x
    have dp := d.perm
    have ke : (f.kept x).e = e := he
    have kn : (f.kept x).nx = 1 + (a.length : Int) := by show f.nx = _; omega
    have kw : (f.kept x).w = keep f.w ⟨x.e, x.n⟩ x.m := rfl
    rw [ke, kn, kw] at dp
    have dall : (numd e 1 (a ++ (f.kept x).drain.1) ++ (f.kept x).drain.2.w).Perm (numd e 1 a ++ keep f.w ⟨x.e, x.n⟩ x.m) := by
      rw [numd_append, List.append_assoc]
      exact List.Perm.append_left _ dp
    have fall : ∀ q ∈ numd e 1 a ++ keep f.w ⟨x.e, x.n⟩ x.m, ∃ j, j < n ∧ q = (⟨e, (j : Int) + 1⟩, g j) := by
      intro q hq
      rcases List.mem_append.1 hq with hq | hq
      · exact h.all q (List.mem_append.2 (.inl hq))
      · rcases keep_mem hq with hq | hq
        · exact h.all q (List.mem_append.2 (.inr hq))
        · exact ⟨k, hk, by rw [hq, xe, xn, xm]⟩
    refine ⟨⟨by rw [d.e, ke], by rw [d.nx, kn, List.length_append]; omega, fun q hq => fall q (dall.subset hq)⟩, rfl, by rw [d.b]; rfl, fun q hq => dall.symm.subset ?_, dall.symm.subset ?_⟩
    · rcases List.mem_append.1 hq with hq | hq
      · exact List.mem_append.2 (.inl hq)
      · exact List.mem_append.2 (.inr (keep_sub hq))
    · obtain ⟨m', hm'⟩ := keep_key (l := f.w) (⟨x.e, x.n⟩ : Plc) x.m
      obtain ⟨j, hj, hq⟩ := fall _ (List.mem_append.2 (.inr hm'))
      have h1 := congrArg (fun q : Plc × Msg => q.1.n) hq
      have h2 := congrArg (fun q : Plc × Msg => q.2) hq
      simp only at h1 h2
      have hjk : j = k := by omega
      subst hjk
      rw [h2, xe, xn] at hm'
      rw [xe, xn]
      exact List.mem_append.2 (.inr hm')
/-- What comes of a later epoch is kept. -/
theorem recv_late {f : Fol} {x : Numb} (hr : x.m.right = true) (hn : x.n ≠ 0) (hl : f.e < x.e) : f.recv x = (([], 0), { f with b := if f.b.length < 64 then keep f.b ⟨x.e, x.n⟩ x.m else f.b }) := by
  rw [Fol.recv, if_neg (by simp [hr, hn]), if_pos hl]
theorem recv_old {f : Fol} {x : Numb} (hr : x.m.right = true) (hn : x.n ≠ 0) (hl : x.e < f.e) : f.recv x = (([], 110), f) := by
  rw [Fol.recv, if_neg (by simp [hr, hn]), if_neg (by omega), if_pos hl]
theorem Fam.keepB {e : Int} {g : Nat → Msg} {n : Nat} {f : Fol} {a : List Msg} (h : Fam e g n f a) (b : List (Plc × Msg)) : Fam e g n { f with b := b } a := ⟨h.e, h.nx, h.all⟩
/-- The buffer is of the family. -/
def FamB (e : Int) (g : Nat → Msg) (n : Nat) (b : List (Plc × Msg)) : Prop := ∀ q ∈ b, ∃ j, j < n ∧ q = (⟨e, (j : Int) + 1⟩, g j)
theorem FamB.keep {e : Int} {g : Nat → Msg} {n : Nat} {b : List (Plc × Msg)} (h : FamB e g n b) {k : Nat} (hk : k < n) : FamB e g n (if b.length < 64 then keep b ⟨e, (k : Int) + 1⟩ (g k) else b) := by
  intro q hq
  split at hq
  · rcases keep_mem hq with hq | hq
    · exact h q hq
    · exact ⟨k, hk, hq⟩
  · exact h q hq
theorem Fam.recvs {e : Int} {g : Nat → Msg} {n : Nat} (hr : ∀ i, i < n → (g i).right = true) : ∀ (l : List Numb) {f : Fol} {a : List Msg} {N : Nat}, Fam e g n f a → f.Ok N → N + l.length ≤ 100000 → (∀ x ∈ l, ∃ j, j < n ∧ x = ⟨e, (j : Int) + 1, g j⟩) →
    Fam e g n (f.recvs l).2 (a ++ (f.recvs l).1) ∧ (f.recvs l).2.Ok (N + l.length) ∧ (f.recvs l).2.b = f.b ∧ (∀ q ∈ numd e 1 a ++ f.w, q ∈ numd e 1 (a ++ (f.recvs l).1) ++ (f.recvs l).2.w) ∧ ∀ x ∈ l, ofN x ∈ numd e 1 (a ++ (f.recvs l).1) ++ (f.recvs l).2.w
  | [], f, a, N, h, ok, _, _ => by
    rw [Fol.recvs]
    rw [List.append_nil]
    exact ⟨h, ok, rfl, fun q hq => hq, fun x hx => by cases hx⟩
  | x :: l, f, a, N, h, ok, hl, hx => by
    rw [List.length_cons] at hl
    obtain ⟨j, hj, rfl⟩ := hx x (by simp)
    have s := h.recv ok (by omega) hj (hr j hj)
    have ok2 := ok.recv (by omega) ⟨e, (j : Int) + 1, g j⟩ (by show (0 : Int) ≤ (j : Int) + 1; omega)
    obtain ⟨i1, i2, i3, i4, i5⟩ := Fam.recvs hr l s.fam ok2 (by omega) (fun y hy => hx y (by simp [hy]))
    rw [Fol.recvs]
    simp only
    rw [← List.append_assoc, List.length_cons, show N + (l.length + 1) = N + 1 + l.length by omega]
    refine ⟨i1, i2, by rw [i3, s.b], fun q hq => i4 q (s.sub q hq), fun y hy => ?_⟩
    rcases List.mem_cons.1 hy with rfl | hy
    · exact i4 _ s.has
    · exact i5 y hy
/-- A follower moves to the family's epoch. -/
theorem Fam.move {e : Int} {g : Nat → Msg} {n : Nat} (hr : ∀ i, i < n → (g i).right = true) {f : Fol} {N : Nat} (ok : f.Ok N) (hb : FamB e g n f.b) {l : List Numb} (hp : l.Perm ((ofE e f.b).map toN)) :
    Fam e g n ((f.moved e).recvs l).2 ((f.moved e).recvs l).1 ∧ ((f.moved e).recvs l).2.Ok 64 ∧ ((f.moved e).recvs l).2.b = [] ∧ ∀ q ∈ f.b, q ∈ numd e 1 ((f.moved e).recvs l).1 ++ ((f.moved e).recvs l).2.w := by
  have hl : l.length ≤ 64 := by
    have h1 := hp.length_eq
    have h2 := (now_spec ok e).2.2
    unfold Fol.now at h2
    omega
  have hm : Fam e g n (f.moved e) [] := ⟨rfl, rfl, fun q hq => by cases hq⟩
  obtain ⟨i1, i2, i3, _, i5⟩ := Fam.recvs hr l hm (ok.moved e) (by omega) (fun x hx => by
    obtain ⟨q, hq, rfl⟩ := List.mem_map.1 (hp.subset hx)
    obtain ⟨j, hj, rfl⟩ := hb q (List.mem_filter.1 hq).1
    exact ⟨j, hj, rfl⟩)
  rw [List.nil_append] at i1 i5
  refine ⟨i1, i2.mono (by omega), ?_, fun q hq => ?_⟩
  · rw [i3]
    show later e f.b = []
    unfold later
    rw [List.filter_eq_nil_iff]
    intro q hq
    obtain ⟨j, _, rfl⟩ := hb q hq
    simp
  · refine i5 (toN q) (hp.symm.subset (List.mem_map.2 ⟨q, List.mem_filter.2 ⟨hq, ?_⟩, rfl⟩))
    obtain ⟨j, _, rfl⟩ := hb q hq
    simp
end Go.Rost
