/- A follower receives one after the other, without the program: in whatever order they come the same is taken. -/
import Derived.Test.YtdjjfmoknncojaaP11
namespace Go.Rost
open Go Go.RowKit Go.Proofs

def ofN (x : Numb) : Plc × Msg := (⟨x.e, x.n⟩, x.m)
theorem toN_ofN (q : Plc × Msg) : ofN (toN q) = q := rfl
theorem keep_none {l : List (Plc × Msg)} {p : Plc} (m : Msg) (h : look l p = none) : keep l p m = l ++ [(p, m)] := by
  rw [keep, if_neg (by simp [h]), mset_new m h]
theorem keep_some {l : List (Plc × Msg)} {p : Plc} (m : Msg) (h : (look l p).isSome = true) : keep l p m = l := by rw [keep, if_pos h]
theorem keep_nodup {l : List (Plc × Msg)} (h : (mkeys l).Nodup) (p : Plc) (m : Msg) : (mkeys (keep l p m)).Nodup := by
  rw [keep]
  split
  · exact h
  · exact nodup_mset h p m
theorem look_perm_eq {l k : List (Plc × Msg)} (hn : (mkeys k).Nodup) (h : l.Perm k) (p : Plc) : look l p = look k p := by
  cases e : look k p with
  | none =>
    cases e2 : look l p with
    | none => rfl
    | some m =>
      have hm : (p, m) ∈ l := (look_perm e2).symm.subset (by simp)
      exact absurd (h.subset hm) (look_none_mem e m)
  | some m =>
    have hm : (p, m) ∈ k := (look_perm e).symm.subset (by simp)
    exact look_mem (perm_nodup_keys h hn) (h.symm.subset hm)
theorem keep_perm {l k : List (Plc × Msg)} (hn : (mkeys k).Nodup) (h : l.Perm k) (p : Plc) (m : Msg) : (keep l p m).Perm (keep k p m) := by
  have e := look_perm_eq hn h p
  cases e2 : look k p with
  | none =>
    rw [e2] at e
    rw [keep_none m e, keep_none m e2]
    exact h.append_right _
  | some x =>
    rw [e2] at e
    rw [keep_some m (by simp [e]), keep_some m (by simp [e2])]
    exact h
theorem Drained.keys {f g : Fol} {o : List Msg} (h : Drained f g o) (hn : (mkeys f.w).Nodup) : (mkeys g.w).Nodup := by
  have := perm_nodup_keys h.perm hn
  unfold mkeys at this ⊢
  rw [List.map_append, List.nodup_append] at this
  exact this.2.1
def Fol.Dry (f : Fol) : Prop := look f.w ⟨f.e, f.nx⟩ = none
structure Fol.Ok (f : Fol) (N : Nat) : Prop where
  wn : (mkeys f.w).Nodup
  bn : (mkeys f.b).Nodup
  dry : f.Dry
  n0 : 1 ≤ f.nx
  n1 : f.nx + f.w.length ≤ N + 1
  bl : f.b.length ≤ 64
  bok : ∀ q ∈ f.b, q.2.right = true ∧ 1 ≤ q.1.n
theorem Fol.ok_new (e : Int) : (⟨e, 1, [], []⟩ : Fol).Ok 0 := ⟨List.nodup_nil, List.nodup_nil, rfl, Int.le_refl _, by simp, Nat.zero_le _, by simp⟩
theorem Fol.kept_drained {f : Fol} {N : Nat} (h : f.Ok N) (hN : N ≤ 100000) (x : Numb) : Drained (f.kept x) (f.kept x).drain.2 (f.kept x).drain.1 := by
  have h0 := h.n0
  have h1 := h.n1
  have hk := keep_len f.w ⟨x.e, x.n⟩ x.m
  refine Fol.drained _ (f.kept x) (Nat.le_refl _) (by show 0 ≤ f.nx; omega) ?_
  show f.nx + ((keep f.w ⟨x.e, x.n⟩ x.m).length : Int) < 4294967296
  omega
theorem Fol.Ok.recv {f : Fol} {N : Nat} (h : f.Ok N) (hN : N ≤ 100000) (x : Numb) (hx : 0 ≤ x.n) : (f.recv x).2.Ok (N + 1) := by
  have mono : f.Ok (N + 1) := ⟨h.wn, h.bn, h.dry, h.n0, by have := h.n1; omega, h.bl, h.bok⟩
  rw [Fol.recv]
  split
  · exact mono
  rename_i hc
  split
  · refine ⟨h.wn, ?_, h.dry, h.n0, by have := h.n1; simp only; omega, ?_, ?_⟩
    · simp only
      split
      · exact keep_nodup h.bn _ _
      · exact h.bn
    · simp only
      split
      · have := keep_len f.b ⟨x.e, x.n⟩ x.m; omega
      · exact h.bl
    · simp only
      split
      · intro q hq
        rw [keep] at hq
        split at hq
        · exact h.bok q hq
        · rename_i hl
          rw [mset_new x.m (by simpa using hl)] at hq
          rcases List.mem_append.1 hq with hq | hq
          · exact h.bok q hq
          · simp at hq
            subst hq
            simp only [not_or, Bool.not_eq_false] at hc
            exact ⟨hc.1, by simp only; omega⟩
      · exact h.bok
  split
  · exact mono
  split
  · exact mono
  have hd := Fol.kept_drained h hN x
  have hl := hd.perm.length_eq
  rw [List.length_append, numd_len] at hl
  have hk := keep_len f.w ⟨x.e, x.n⟩ x.m
  have hkw : (f.kept x).w.length = (keep f.w ⟨x.e, x.n⟩ x.m).length := rfl
  have h1 := h.n1
  have h0 := h.n0
  have hnx := hd.nx
  have hfx : (f.kept x).nx = f.nx := rfl
  refine ⟨hd.keys (keep_nodup h.wn _ _), ?_, hd.dry, by simp only; omega, by simp only; omega, ?_, ?_⟩
  · simp only; rw [hd.b]; exact h.bn
  · simp only; rw [hd.b]; exact h.bl
  · simp only; rw [hd.b]; exact h.bok
/-- Two that tell the same. -/
structure FolR (f g : Fol) : Prop where
  e : f.e = g.e
  nx : f.nx = g.nx
  b : f.b = g.b
  w : f.w.Perm g.w
theorem FolR.recv {f g : Fol} {N : Nat} (r : FolR f g) (hf : f.Ok N) (hg : g.Ok N) (hN : N ≤ 100000) (x : Numb) : (f.recv x).1 = (g.recv x).1 ∧ FolR (f.recv x).2 (g.recv x).2 := by
  rw [Fol.recv, Fol.recv, r.e, r.nx, r.b]
  split
  · exact ⟨rfl, r⟩
  split
  · exact ⟨rfl, rfl, rfl, rfl, r.w⟩
  split
  · exact ⟨rfl, r⟩
  split
  · exact ⟨rfl, r⟩
  have df := Fol.kept_drained hf hN x
  have dg := Fol.kept_drained hg hN x
  have hk : (f.kept x).w.Perm (g.kept x).w := keep_perm hg.wn r.w _ _
  have pf := df.perm
  have pg := dg.perm
  have ee : (f.kept x).e = (g.kept x).e := r.e
  have en : (f.kept x).nx = (g.kept x).nx := r.nx
  have dfd := df.dry
  have dgd := dg.dry
  rw [df.e, df.nx, ee, en] at dfd
  rw [dg.e, dg.nx] at dgd
  rw [ee, en] at pf
  have u := numd_unique (pf.trans (hk.trans pg.symm)) (perm_nodup_keys pg (keep_nodup hg.wn _ _)) dfd dgd
  refine ⟨by simp only; rw [u.1], ?_, ?_, ?_, u.2⟩
  · simp only; rw [df.e, dg.e]; exact r.e
  · simp only; rw [df.nx, dg.nx, u.1]; rw [en]
  · simp only; rw [df.b, dg.b]; exact r.b

/-! ### One behind the other -/
structure Taken (f g : Fol) (out : List Msg) (A : List (Plc × Msg)) : Prop where
  perm : (numd f.e f.nx out ++ g.w).Perm A
  e : g.e = f.e
  b : g.b = f.b
  nx : g.nx = f.nx + out.length
  dry : g.Dry
theorem mkeys_append (a b : List (Plc × Msg)) : mkeys (a ++ b) = mkeys a ++ mkeys b := by simp [mkeys]
theorem Taken.step {f g : Fol} {out : List Msg} {A : List (Plc × Msg)} (h : Taken f g out A) (h0 : 1 ≤ f.nx) (x : Numb) (he : x.e = f.e) (hr : x.m.right = true) (hn0 : x.n ≠ 0) (hn : f.nx ≤ x.n) (hx : (⟨x.e, x.n⟩ : Plc) ∉ mkeys A) (hb : f.nx + A.length + 1 < 4294967296) :
    Taken f (g.recv x).2 (out ++ (g.recv x).1.1) (A ++ [ofN x]) ∧ (g.recv x).1.2 = 0 := by
  have hlen := h.perm.length_eq
  rw [List.length_append, numd_len] at hlen
  have hnl : ¬ x.n < g.nx := fun hlt => by
    rw [h.nx] at hlt
    obtain ⟨i, hi⟩ : ∃ i : Nat, x.n = f.nx + i := ⟨(x.n - f.nx).toNat, by omega⟩
    have hio : i < out.length := by omega
    have := h.perm.subset (List.mem_append.2 (.inl (numd_get f.e f.nx out i _ (List.getElem?_eq_getElem hio))))
    refine hx (List.mem_map.2 ⟨_, this, ?_⟩)
    rw [he, hi]
  have hkw : look g.w ⟨x.e, x.n⟩ = none := by
    refine mem_keys_look.2 fun hm => hx ?_
    obtain ⟨q, hq, e⟩ := List.mem_map.1 hm
    exact List.mem_map.2 ⟨q, h.perm.subset (List.mem_append.2 (.inr hq)), e⟩
  have hrec : g.recv x = (((g.kept x).drain.1, 0), (g.kept x).drain.2) := by
    rw [Fol.recv, if_neg (by simp [hr, hn0]), if_neg (by rw [h.e, he]; omega), if_neg (by rw [h.e, he]; omega), if_neg hnl]
  have hw : (g.kept x).w = g.w ++ [ofN x] := keep_none x.m hkw
  have hnx := h.nx
  have d : Drained (g.kept x) (g.kept x).drain.2 (g.kept x).drain.1 := by
    refine Fol.drained _ (g.kept x) (Nat.le_refl _) (by show 0 ≤ g.nx; omega) ?_
    show g.nx + ((g.kept x).w.length : Int) < 4294967296
    rw [hw, List.length_append, List.length_singleton]
    omega
  rw [hrec]
  refine ⟨⟨?_, ?_, ?_, ?_, d.dry⟩, rfl⟩
  · rw [numd_append, ← hnx, List.append_assoc]
    have p1 := d.perm
    rw [hw] at p1
    have ee : (g.kept x).e = f.e := h.e
    have en : (g.kept x).nx = g.nx := rfl
    rw [ee, en] at p1
    refine (List.Perm.append_left _ p1).trans ?_
    rw [← List.append_assoc]
    exact h.perm.append_right _
  · simp only; rw [d.e]; exact h.e
  · simp only; rw [d.b]; exact h.b
  · simp only
    rw [d.nx, List.length_append]
    show g.nx + _ = _
    omega
theorem Taken.start (f : Fol) (h : f.Dry) : Taken f f [] f.w := ⟨by simp [numd], rfl, rfl, by simp, h⟩
theorem recvs_taken (f : Fol) (hd : f.Dry) (h0 : 1 ≤ f.nx) : ∀ (n : Nat) (l : List Numb), l.length = n → (∀ x ∈ l, x.e = f.e ∧ x.m.right = true ∧ x.n ≠ 0 ∧ f.nx ≤ x.n) → (mkeys (f.w ++ l.map ofN)).Nodup → f.nx + f.w.length + l.length < 4294967296 →
    Taken f (f.recvs l).2 (f.recvs l).1 (f.w ++ l.map ofN)
  | 0, l, hl, _, _, _ => by
    obtain rfl := List.length_eq_zero_iff.1 hl
    rw [Fol.recvs, List.map_nil, List.append_nil]
    exact Taken.start f hd
  | n + 1, l, hl, hx, hn, hb => by
    obtain ⟨k, x, rfl⟩ : ∃ k x, l = k ++ [x] := by
      refine ⟨l.dropLast, l.getLast (by intro e; rw [e] at hl; cases hl), (List.dropLast_concat_getLast _).symm⟩
    rw [List.length_append, List.length_singleton] at hl hb
    rw [List.map_append, List.map_singleton, ← List.append_assoc, mkeys_append] at hn
    have hn2 := List.nodup_append.1 hn
    have ih := recvs_taken f hd h0 n k (by omega) (fun y hy => hx y (by simp [hy])) hn2.1 (by omega)
    rw [recvs_snoc, List.map_append, List.map_singleton, ← List.append_assoc]
    have hxx := hx x (by simp)
    refine (ih.step h0 x hxx.1 hxx.2.1 hxx.2.2.1 hxx.2.2.2 (fun hm => ?_) ?_).1
    · exact hn2.2.2 _ hm _ (by simp [mkeys, ofN]) rfl
    · rw [List.length_append, List.length_map]; omega
theorem recvs_perm (f : Fol) (hd : f.Dry) (h0 : 1 ≤ f.nx) {l k : List Numb} (p : l.Perm k) (hx : ∀ x ∈ k, x.e = f.e ∧ x.m.right = true ∧ x.n ≠ 0 ∧ f.nx ≤ x.n) (hn : (mkeys (f.w ++ k.map ofN)).Nodup) (hb : f.nx + f.w.length + k.length < 4294967296) :
    (f.recvs l).1 = (f.recvs k).1 ∧ FolR (f.recvs l).2 (f.recvs k).2 := by
  have hp : (f.w ++ l.map ofN).Perm (f.w ++ k.map ofN) := (p.map ofN).append_left _
  have hle := p.length_eq
  have t1 := recvs_taken f hd h0 _ l rfl (fun x hm => hx x (p.subset hm)) (perm_nodup_keys hp hn) (by omega)
  have t2 := recvs_taken f hd h0 _ k rfl hx hn hb
  have d1 := t1.dry
  have d2 := t2.dry
  unfold Fol.Dry at d1 d2
  rw [t1.e, t1.nx] at d1
  rw [t2.e, t2.nx] at d2
  have u := numd_unique (t1.perm.trans (hp.trans t2.perm.symm)) (perm_nodup_keys t2.perm hn) d1 d2
  exact ⟨u.1, by rw [t1.e, t2.e], by rw [t1.nx, t2.nx, u.1], by rw [t1.b, t2.b], u.2⟩
end Go.Rost
