/- What is handed, in rows of elements that point further. -/
import Derived.Test.YtdjjfmoknncojaaRw
namespace Go.Rost
open Go Go.RowKit Go.Proofs Go.ChangeShapes Go.WideShapes Go.ChangeAt
open Go.ChangeMaps (open_string shut_string)

/-- What is handed as a row of a type's elements, in a world. -/
class ArgW (P : Program) (t : TypeId) (α : Type) [Enc α] where
  wf : World → α → Prop
  cells : P.cellsOf t = Enc.n α
  out : ∀ {H : Type} {enc : TypeId × Value → H} {W : World} {fuel : Nat} {cs : List Value} {y : DataW H × List MemPlace}, cs.length = Enc.n α → DataW.trod enc P W 0 (fun _ => true) true fuel t cs = some y → ∃ x : α, wf W x ∧ cs = Enc.enc x
instance {P : Program} {t : TypeId} {α : Type} [Enc α] [A : ArgE P t α] : ArgW P t α := ⟨fun _ => A.wf, A.cells, fun hl h => A.out hl h⟩
theorem trod_slice {H : Type} {enc : TypeId × Value → H} {P : Program} {W : World} {t e : TypeId} {α : Type} [Enc α] [A : ArgW P e α] {a : Option Addr} {len cap fuel : Nat} {y : DataW H × List MemPlace}
    (hu : P.underlying t = some (.slice e)) (h : DataW.trod enc P W 0 (fun _ => true) true fuel t [.slice a len cap] = some y) : ∃ l : List α, Reads (A.wf W) W (.slice a len cap) l := by
  cases fuel with
  | zero => cases h
  | succ fuel =>
    cases a with
    | none =>
      unfold DataW.trod at h; simp only [hu] at h
      split at h
      all_goals first | (cases h; done) | skip
      all_goals rename_i he <;> simp at he
      obtain ⟨rfl, rfl⟩ := he
      exact ⟨[], ⟨none, 0, rfl, Nat.le_refl _, Nat.zero_le _, (by intro x hx; cases hx), SlR.nil, fun _ => rfl⟩⟩
    | some a =>
      unfold DataW.trod at h; simp only [hu] at h
      split at h
      · rename_i hc
        obtain ⟨_, hle, hmax⟩ := hc
        cases hm : ((List.range len).mapM fun i => (W.cells? 0 (a.add (i * P.cellsOf e)) (P.cellsOf e)).bind (DataW.trod enc P W 0 (fun _ => true) true fuel e)) with
        | none => rw [hm] at h; cases h
        | some zs =>
          obtain ⟨hzl, hz⟩ := mapM_some hm
          have key : ∀ i, i < len → ∃ x : α, A.wf W x ∧ W.cells? 0 (a.add (i * P.cellsOf e)) (P.cellsOf e) = some (Enc.enc x) := by
            intro i hi
            obtain ⟨y, hy⟩ := hz i i (by simp [hi])
            cases hcs : W.cells? 0 (a.add (i * P.cellsOf e)) (P.cellsOf e) with
            | none => rw [hcs] at hy; cases hy
            | some cs =>
              rw [hcs] at hy
              have hlen : cs.length = Enc.n α := by
                unfold World.cells? at hcs
                rw [if_pos (Nat.zero_le _)] at hcs
                rw [(mapM_some hcs).1, List.length_range, A.cells]
              obtain ⟨x, hx, e⟩ := A.out hlen hy
              exact ⟨x, hx, by rw [e]⟩
          obtain ⟨l, hl, hp⟩ := exists_list len key
          subst hl
          refine ⟨l, ⟨some a, cap, rfl, hle, hmax, fun x hx => ?_, ?_, fun e => by cases e⟩⟩
          · obtain ⟨i, hi⟩ := List.getElem?_of_mem hx
            exact (hp i x hi).1
          · cases l with
            | nil => exact .nil
            | cons x0 l0 =>
              have cellOf : ∀ (i : Nat) x (j : Nat) u, (x0 :: l0)[i]? = some x → (Enc.enc x)[j]? = some u → W.cell? ((a.add (i * P.cellsOf e)).add j) = some u := by
                intro i x j u hi hj
                have h1 := (hp i x hi).2
                unfold World.cells? at h1
                rw [if_pos (Nat.zero_le _)] at h1
                have hj' : j < P.cellsOf e := by rw [A.cells, ← Enc.len x]; exact (List.getElem?_eq_some_iff.1 hj).1
                obtain ⟨y, hy⟩ := (mapM_some h1).2 j j (by simp [hj'])
                rw [hy]
                have h2 : ∀ (L : List Nat) (ys : List Value), (L.mapM fun i_1 => W.cell? ((a.add (i * P.cellsOf e)).add i_1)) = some ys → ∀ (n : Nat) q, L[n]? = some q → ys[n]? = W.cell? ((a.add (i * P.cellsOf e)).add q) := by
                  intro L
                  induction L with
                  | nil => intro ys _ n q hq; simp at hq
                  | cons q0 L ih =>
                    intro ys hys n q hq
                    rw [List.mapM_cons] at hys
                    cases hc0 : W.cell? ((a.add (i * P.cellsOf e)).add q0) with
                    | none => rw [hc0] at hys; cases hys
                    | some c0 =>
                      rw [hc0] at hys
                      cases hc1 : (L.mapM fun i_1 => W.cell? ((a.add (i * P.cellsOf e)).add i_1)) with
                      | none => rw [hc1] at hys; cases hys
                      | some c1 =>
                        rw [hc1] at hys; cases hys
                        cases n with
                        | zero => simp at hq; subst hq; simp [hc0]
                        | succ n => simpa using ih c1 hc1 n q (by simpa using hq)
                have h3 := h2 _ _ h1 j j (by simp [hj'])
                rw [hj, hy] at h3
                exact h3.symm
              obtain ⟨b, o, s⟩ := a
              have hp0 := Enc.pos (α := α)
              have hs : s = none := by
                have h0 := cellOf 0 x0 0 ((Enc.enc x0)[0]'(by rw [Enc.len]; exact hp0)) rfl (List.getElem?_eq_getElem _)
                simp only [Nat.zero_mul, Addr.add, if_true] at h0
                unfold World.cell? at h0
                cases s with
                | none => rfl
                | some s => simp at h0; split at h0 <;> cases h0
              subst hs
              refine .inr ⟨b, o, rfl, fun w hw k u hk => ?_⟩
              obtain ⟨x, hx, hu⟩ := flat_at hk
              have h0 := cellOf _ _ _ _ hx hu
              have hadd : (({ block := b, off := o } : Addr).add (k / Enc.n α * P.cellsOf e)).add (k % Enc.n α) = ⟨b, o + k, none⟩ := by
                have hdm : k / Enc.n α * Enc.n α + k % Enc.n α = k := by rw [Nat.mul_comm]; exact Nat.div_add_mod k _
                rw [A.cells]
                unfold Addr.add
                split <;> split <;> simp_all
                omega
              rw [hadd] at h0
              have hb : b < W.heap.size := by
                unfold World.cell? at h0
                cases hh : W.heap[b]? with
                | none => rw [hh] at h0; cases h0
                | some oo => exact (Array.getElem?_eq_some_iff.1 hh).1
              unfold World.cell? at h0 ⊢
              rw [show w.heap[b]? = W.heap[b]? from hw.block b hb]
              exact h0
      · cases h
theorem trod_slice_shape {H : Type} {enc : TypeId × Value → H} {P : Program} {W : World} {t e : TypeId} {c : Value} {fuel : Nat} {y : DataW H × List MemPlace}
    (hu : P.underlying t = some (.slice e)) (h : DataW.trod enc P W 0 (fun _ => true) true fuel t [c] = some y) : ∃ a len cap, c = .slice a len cap := by
  cases fuel with
  | zero => cases h
  | succ fuel =>
    unfold DataW.trod at h; simp only [hu] at h
    cases c <;> first | exact ⟨_, _, _, rfl⟩ | (simp at h; done) | (exfalso; split at h <;> simp_all; done)
theorem handed_sliceW {H : Type} {enc : TypeId × Value → H} {P : Program} {W : World} {base : Nat} {t e : TypeId} {α : Type} [Enc α] [A : ArgW P e α] {v : Value} {d : DataW H} {ps : List MemPlace}
    (hu : P.underlying t = some (.slice e)) (hv : Value.okWide P W .any base t v) (h : DataW.Trod enc P W 0 (fun _ => true) true t v d ps) : ∃ l : List α, Reads (A.wf W) W v l := by
  obtain ⟨a, len, cap, rfl⟩ := okWide_slice hu hv
  obtain ⟨fuel, h⟩ := h
  exact trod_slice hu (by simpa only [Value.cells] using h)
theorem Reads.len {α : Type} [Enc α] {wf : α → Prop} {W : World} {a : Option Addr} {len cap : Nat} {l : List α} (h : Reads wf W (.slice a len cap) l) : len = l.length := by
  obtain ⟨p, c, e, _⟩ := h.out
  cases e
  rfl
theorem trod_bool {H : Type} {enc : TypeId × Value → H} {P : Program} {W : World} {sp : Nat → Bool} {held : Bool} {t : TypeId} {fuel : Nat} {c : Value} {y : DataW H × List MemPlace} (hu : P.underlying t = some .bool) (h : DataW.trod enc P W 0 sp held fuel t [c] = some y) : ∃ b, c = .bool b := by
  cases fuel with
  | zero => cases h
  | succ fuel =>
    unfold DataW.trod at h; simp only [hu] at h
    cases c <;> simp at h
    rename_i b
    exact ⟨b, rfl⟩
end Go.Rost
