/- Entries as they lie in a slice; what folds keep. -/
import Derived.Test.YtebdfelodihdhaaDoorH14
import Derived.Test.YtebdfelodihdhaaDoorAr
namespace Go.Rost
open Go Go.RowKit Go.Proofs

/-- An entry, and where its messages lie. -/
structure EntP where
  e : Ent
  p : Option Addr
  c : Nat
def EntP.v (x : EntP) : Value := x.e.v x.p x.c
instance : Enc EntP := ⟨4, EntP.v, fun x => [.int .i64 x.e.kind, .int .u32 x.e.epoch, .int .i64 x.e.ver, .slice x.p x.e.msgs.length x.c], fun _ => rfl, fun _ => rfl, by decide⟩
instance : EncA EntP := ⟨fun _ => rfl⟩
theorem ex_loadEnt {S : World → Prop} {σ : Env} {x : Operand} {b o : Nat} (a : EntP) (hx : σ.val x = some (.pointer (some ⟨b, o, none⟩))) (h : Rd S b o (Enc.enc a)) : Ex Tryd.prog S σ (.load 48 x) (a.e.v a.p a.c) := ex_loadA (P := Tryd.prog) (T := 48) a hx h
/-- An entry as it is handed: its messages lie in memory that was there. -/
structure EntP.Ok (W0 : World) (x : EntP) : Prop where
  rd : SlR (At W0 []) x.p x.e.msgs
  le : x.e.msgs.length ≤ x.c
  ep : 0 ≤ x.e.epoch
theorem cutE_len (e : Ent) : e.cutE.msgs.length ≤ 80 := cutL_len _
theorem SlR.sub {α : Type} [Enc α] {W0 : World} {H : List Chunk} {p : Option Addr} {l : List α} (h : SlR (At W0 []) p l) : SlR (At W0 H) p l := h.mono fun w hw => ⟨hw.1, fun _ => none, fun _ _ e => (by cases e), trivial⟩
theorem Rd.sub {W0 : World} {H : List Chunk} {b o : Nat} {vs : List Value} (h : Rd (At W0 []) b o vs) : Rd (At W0 H) b o vs := h.mono fun w hw => ⟨hw.1, fun _ => none, fun _ _ e => (by cases e), trivial⟩
theorem doing_log {g : Fold} {n : Nat} (h : g.book.Good n) (e : Ent) (hn : n + e.msgs.length ≤ 50000) : ∃ t, (g.doing e).2.book.log = g.book.log ++ t := by
  unfold Fold.doing
  split
  · exact takes_log e.msgs h hn
  · split
    · split <;> exact ⟨[], (List.append_nil _).symm⟩
    · split <;> exact ⟨[], (List.append_nil _).symm⟩
theorem apply_log {f : Fold} {n : Nat} (h : f.Ok n) (hn : n ≤ 500) (e : Ent) : ∃ t, (f.apply e).2.book.log = f.book.log ++ t := by
  unfold Fold.apply
  split
  · exact ⟨[], (List.append_nil _).symm⟩
  · rename_i hb
    obtain ⟨_, hm, _⟩ := bad_false (by simpa using hb)
    split
    · exact ⟨[], (List.append_nil _).symm⟩
    · exact doing_log (g := f.tick) h.good e (by omega)
theorem doing_eras (g : Fold) (e : Ent) : ∃ t, (g.doing e).2.eras = g.eras ++ t := by
  unfold Fold.doing
  split
  · exact ⟨[], (List.append_nil _).symm⟩
  · split
    · split
      · exact ⟨_, rfl⟩
      · exact ⟨[], (List.append_nil _).symm⟩
    · split
      · exact ⟨[], (List.append_nil _).symm⟩
      · exact ⟨_, rfl⟩
theorem apply_eras (f : Fold) (e : Ent) : ∃ t, (f.apply e).2.eras = f.eras ++ t := by
  unfold Fold.apply
  split
  · exact ⟨[], (List.append_nil _).symm⟩
  · split
    · exact ⟨[], (List.append_nil _).symm⟩
    · exact doing_eras f.tick e
/-- What is told to be delivered is what the log has gained. -/
theorem apply_out {f : Fold} {n : Nat} (h : f.Ok n) (hn : n ≤ 500) (e : Ent) : (f.apply e).2.book.log = f.book.log ++ (f.apply e).1.1 ∧ (e.kind ≠ 1 → (f.apply e).1.1 = []) := by
  unfold Fold.apply
  split
  · exact ⟨(List.append_nil _).symm, fun _ => rfl⟩
  · rename_i hb
    obtain ⟨_, hm, _⟩ := bad_false (by simpa using hb)
    split
    · exact ⟨(List.append_nil _).symm, fun _ => rfl⟩
    · simp only
      unfold Fold.doing
      split
      · rename_i hk
        obtain ⟨t, ht⟩ := takes_log e.msgs h.good (by omega)
        refine ⟨?_, fun h => absurd hk h⟩
        show (f.book.takes e.msgs).log = f.book.log ++ f.book.outs e.msgs
        rw [Book.outs, ht]
        simp
      · split
        · split <;> exact ⟨(List.append_nil _).symm, fun _ => rfl⟩
        · split <;> exact ⟨(List.append_nil _).symm, fun _ => rfl⟩
theorem log_le {f : Fold} {n : Nat} (h : f.Ok n) : f.book.log.length ≤ 64 * n := by have := h.good.inv.len; omega
/-- What the eras keep. -/
structure Fold.Eon (f : Fold) (v : Int) : Prop where
  first : f.eras[0]? = some ⟨1, v, 0⟩
  each : ∀ (i : Nat) x, f.eras[i]? = some x → known x.ver = true ∧ x.start ≤ f.count
  next : ∀ (i : Nat) x y, f.eras[i]? = some x → f.eras[i + 1]? = some y → x.start < y.start ∧ x.ver ≠ y.ver
  back : f.back = 0 ∨ (known f.back = true ∧ f.back ≠ f.last.ver)
theorem Fold.eon_new {v : Int} (h : known v = true) : (Fold.new v).Eon v := ⟨rfl, fun i x hx => by
  cases i with
  | zero => simp [Fold.new] at hx; subst hx; exact ⟨h, Int.le_refl _⟩
  | succ i => simp [Fold.new] at hx, fun i x y hx hy => by simp [Fold.new] at hy, .inl rfl⟩
theorem Fold.Eon.tick {f : Fold} {v : Int} (h : f.Eon v) : f.tick.Eon v := ⟨h.first, fun i x hx => ⟨(h.each i x hx).1, by have := (h.each i x hx).2; show x.start ≤ f.count + 1; omega⟩, h.next, h.back⟩
theorem getLast_snoc (l : List Era) (z : Era) : (l ++ [z]).getLast? = some z := by simp
theorem Fold.Eon.begin {f : Fold} {v : Int} {n : Nat} (hok : f.Ok n) (h : f.Eon v) {ver back : Int} (hk : known ver = true) (hne : f.last.ver ≠ ver) (hb : back = 0 ∨ (known back = true ∧ back ≠ ver)) : (f.tick.begin ver back).Eon v := by
  obtain ⟨z, hz⟩ := last_some hok.ne
  have hle := Fold.last_eq hz
  have hg := last_get hz
  have hp := List.length_pos_iff.2 hok.ne
  have hlast : (f.tick.begin ver back).last = ⟨IntKind.u32.wrap (f.tick.last.epoch + 1), ver, f.count + 1⟩ := by
    rw [Fold.last, Fold.begin]
    show ((f.eras ++ [_]).getLast?).getD _ = _
    rw [getLast_snoc]
    rfl
  have split : ∀ (i : Nat) x, (f.eras ++ [(⟨IntKind.u32.wrap (f.tick.last.epoch + 1), ver, f.count + 1⟩ : Era)])[i]? = some x → f.eras[i]? = some x ∨ (i = f.eras.length ∧ x = ⟨IntKind.u32.wrap (f.tick.last.epoch + 1), ver, f.count + 1⟩) := fun i x hx => by
    by_cases hi : i < f.eras.length
    · rw [List.getElem?_append_left hi] at hx; exact .inl hx
    · right
      have hlt := (List.getElem?_eq_some_iff.1 hx).1
      simp at hlt
      obtain rfl : i = f.eras.length := by omega
      simp at hx
      exact ⟨rfl, hx.symm⟩
  refine ⟨?_, fun i x hx => ?_, fun i x y hx hy => ?_, ?_⟩
  · show (f.eras ++ [_])[0]? = _
    rw [List.getElem?_append_left hp]; exact h.first
  · rcases split i x hx with hx | ⟨_, rfl⟩
    · have := h.each i x hx; exact ⟨this.1, by show x.start ≤ f.count + 1; omega⟩
    · exact ⟨hk, Int.le_refl _⟩
  · rcases split i x hx with hx | ⟨rfl, _⟩
    · rcases split (i + 1) y hy with hy | ⟨hi, rfl⟩
      · exact h.next i x y hx hy
      · have : f.eras[f.eras.length - 1]? = some x := by rw [← hx]; congr 1; omega
        rw [hg] at this
        cases this
        have h1 := (h.each _ z hg).2
        refine ⟨by show z.start < f.count + 1; omega, ?_⟩
        rw [← hle]
        exact hne
    · have hlt := (List.getElem?_eq_some_iff.1 hy).1
      simp [Fold.begin, Fold.tick] at hlt
  · show back = 0 ∨ (known back = true ∧ back ≠ (f.tick.begin ver back).last.ver)
    rw [hlast]
    exact hb
theorem checkVer_zero {a b : Int} (h : checkVer a b = 0) : known a = true ∧ known b = true ∧ a ≠ b := by
  unfold checkVer at h
  split at h
  · cases h
  · rename_i h1
    split at h
    · cases h
    · rename_i h2
      simp at h1
      exact ⟨h1.1, h1.2, h2⟩
theorem Fold.Eon.apply {f : Fold} {v : Int} {n : Nat} (hok : f.Ok n) (h : f.Eon v) (e : Ent) : (f.apply e).2.Eon v := by
  unfold Fold.apply
  split
  · exact h
  · split
    · exact h.tick
    · simp only
      unfold Fold.doing
      split
      · exact ⟨h.tick.first, h.tick.each, h.tick.next, h.tick.back⟩
      · split
        · split
          · rename_i hc
            obtain ⟨h1, h2, h3⟩ := checkVer_zero hc
            exact h.begin hok h2 h3 (.inr ⟨h1, h3⟩)
          · exact h.tick
        · split
          · exact h.tick
          · rename_i hb
            have hb2 : ¬ f.back = 0 := hb
            obtain ⟨h1, h2⟩ := h.back.resolve_left hb2
            exact h.begin hok h1 (fun e => h2 e.symm) (.inl rfl)
theorem apply_stale {f : Fold} {e : Ent} (hb : e.bad = false) (h : e.epoch ≠ f.last.epoch) : f.apply e = (([], false, 0), f.tick) := by
  rw [Fold.apply, if_neg (by rw [hb]; decide), if_pos h]
end Go.Rost
