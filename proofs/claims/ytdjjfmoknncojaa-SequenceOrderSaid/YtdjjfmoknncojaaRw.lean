/- From what a row hands to what the walk reads. -/
import Derived.Test.YtdjjfmoknncojaaDt
import Derived.Test.YtdjjfmoknncojaaRows
import Derived.WalkKit
import Derived.ProofKit
import Derived.OpenShut
import Derived.ShutString
import Derived.ChangeOld
import Derived.SizedLaws
namespace Go.Rost
open Go Go.RowKit Go.Proofs Go.ChangeShapes Go.WideShapes Go.ChangeAt
open Go.ChangeMaps (open_string shut_string)

theorem mapM_some {α β : Type} {f : α → Option β} : ∀ {l : List α} {ys : List β}, l.mapM f = some ys → ys.length = l.length ∧ ∀ (i : Nat) x, l[i]? = some x → ∃ y, f x = some y
  | [], ys, h => by simp at h; subst h; exact ⟨rfl, fun i x e => by simp at e⟩
  | a :: l, ys, h => by
    rw [List.mapM_cons] at h
    cases ha : f a with
    | none => rw [ha] at h; cases h
    | some y =>
      rw [ha] at h
      cases hl : l.mapM f with
      | none => rw [hl] at h; cases h
      | some zs =>
        rw [hl] at h; cases h
        obtain ⟨e, k⟩ := mapM_some hl
        refine ⟨by simp [e], fun i x hx => ?_⟩
        cases i with
        | zero => simp at hx; subst hx; exact ⟨y, ha⟩
        | succ i => exact k i x (by simpa using hx)
section
variable {H : Type} {enc : TypeId × Value → H} {P : Program} {W : World} {sp : Nat → Bool} {held : Bool}
theorem trod_int {t : TypeId} {k : IntKind} {fuel : Nat} {c : Value} {y : DataW H × List MemPlace} (hu : P.underlying t = some (.int k)) (h : DataW.trod enc P W 0 sp held fuel t [c] = some y) : ∃ n, c = .int k n ∧ (Lit.int k n).wf = true := by
  cases fuel with
  | zero => cases h
  | succ fuel =>
    unfold DataW.trod at h; simp only [hu] at h
    cases c <;> simp at h
    rename_i k' n
    obtain ⟨⟨rfl, hw⟩, _⟩ := h
    exact ⟨n, rfl, hw⟩
theorem trod_string {t : TypeId} {fuel : Nat} {c : Value} {y : DataW H × List MemPlace} (hu : P.underlying t = some .string) (h : DataW.trod enc P W 0 sp held fuel t [c] = some y) : ∃ s, c = .string s ∧ s.size ≤ maxLen := by
  cases fuel with
  | zero => cases h
  | succ fuel =>
    unfold DataW.trod at h; simp only [hu] at h
    cases c <;> simp at h
    rename_i s
    exact ⟨s, rfl, h.1⟩
theorem trod_struct {t : TypeId} {fs : Array Field} {fuel : Nat} {cs : List Value} {y : DataW H × List MemPlace} (hu : P.underlying t = some (.struct fs)) (h : DataW.trod enc P W 0 sp held fuel t cs = some y) :
    ∃ fuel', ∀ (i : Nat) f, fs.toList[i]? = some f → ∃ z, DataW.trod enc P W 0 sp held fuel' f.type ((cs.drop f.offset).take (P.cellsOf f.type)) = some z := by
  cases fuel with
  | zero => cases h
  | succ fuel =>
    unfold DataW.trod at h; simp only [hu] at h
    split at h
    · rename_i hl
      cases hm : (fs.toList.mapM fun f => DataW.trod enc P W 0 sp held fuel f.type ((cs.drop f.offset).take (P.cellsOf f.type))) with
      | none => rw [hm] at h; cases h
      | some zs => exact ⟨fuel, (mapM_some hm).2⟩
    · cases h
end
/-- What is handed as a row of a type's elements. -/
class ArgE (P : Program) (t : TypeId) (α : Type) [Enc α] where
  wf : α → Prop
  cells : P.cellsOf t = Enc.n α
  out : ∀ {H : Type} {enc : TypeId × Value → H} {W : World} {sp : Nat → Bool} {held : Bool} {fuel : Nat} {cs : List Value} {y : DataW H × List MemPlace}, cs.length = Enc.n α → DataW.trod enc P W 0 sp held fuel t cs = some y → ∃ x : α, wf x ∧ cs = Enc.enc x
structure Reads {α : Type} [Enc α] (wf : α → Prop) (W : World) (v : Value) (l : List α) : Prop where
  mk ::
  out : ∃ (p : Option Addr) (cap : Nat), v = .slice p l.length cap ∧ l.length ≤ cap ∧ cap ≤ maxLen ∧ (∀ x ∈ l, wf x) ∧ SlR (fun w => Below W.heap.size W w) p l ∧ (p = none → l = [])
theorem flat_at {α : Type} [Enc α] : ∀ {l : List α} {k : Nat} {v : Value}, (flat l)[k]? = some v → ∃ x, l[k / Enc.n α]? = some x ∧ (Enc.enc x)[k % Enc.n α]? = some v
  | [], k, v, h => by simp [flat] at h
  | x :: l, k, v, h => by
    have hp := Enc.pos (α := α)
    rw [flat_cons, List.getElem?_append] at h
    by_cases hk : k < Enc.n α
    · rw [Enc.len, if_pos hk] at h
      exact ⟨x, by rw [Nat.div_eq_of_lt hk]; rfl, by rw [Nat.mod_eq_of_lt hk]; exact h⟩
    · rw [Enc.len, if_neg hk] at h
      obtain ⟨z, hz, he⟩ := flat_at h
      refine ⟨z, ?_, ?_⟩
      · rw [show k = k - Enc.n α + Enc.n α by omega, Nat.add_div_right _ hp]; simpa using hz
      · rw [show k = k - Enc.n α + Enc.n α by omega, Nat.add_mod_right]; exact he
theorem exists_list {α : Type} {p : Nat → α → Prop} : ∀ (n : Nat), (∀ i, i < n → ∃ x, p i x) → ∃ l : List α, l.length = n ∧ ∀ (i : Nat) x, l[i]? = some x → p i x
  | 0, _ => ⟨[], rfl, fun i x e => by simp at e⟩
  | n + 1, h => by
    obtain ⟨l, hl, hp⟩ := exists_list (p := p) n fun i hi => h i (by omega)
    obtain ⟨x, hx⟩ := h n (by omega)
    refine ⟨l ++ [x], by simp [hl], fun i z hz => ?_⟩
    rw [List.getElem?_append] at hz
    split at hz
    · exact hp i z hz
    · rename_i hi
      have : i = n := by
        have := (List.getElem?_eq_some_iff.1 hz).1
        simp at this; omega
      subst this; rw [hl] at hz; simp at hz; subst hz; exact hx
theorem handed_slice {H : Type} {enc : TypeId × Value → H} {P : Program} {W : World} {base : Nat} {t e : TypeId} {α : Type} [Enc α] [A : ArgE P e α] {v : Value} {d : DataW H} {ps : List MemPlace}
    (hu : P.underlying t = some (.slice e)) (hv : Value.okWide P W .any base t v) (h : DataW.Trod enc P W 0 (fun _ => true) true t v d ps) : ∃ l : List α, Reads A.wf W v l := by
  obtain ⟨a, len, cap, rfl⟩ := okWide_slice hu hv
  obtain ⟨fuel, h⟩ := h
  cases fuel with
  | zero => cases h
  | succ fuel =>
    cases a with
    | none =>
      unfold DataW.trod at h; simp only [hu] at h
      simp only [Value.cells] at h
      split at h
      all_goals first | (cases h; done) | skip
      all_goals rename_i he <;> simp at he
      obtain ⟨rfl, rfl⟩ := he
      exact ⟨[], ⟨none, 0, rfl, Nat.le_refl _, Nat.zero_le _, (by intro x hx; cases hx), SlR.nil, fun _ => rfl⟩⟩
    | some a =>
      unfold DataW.trod at h; simp only [hu] at h
      simp only [Value.cells] at h
      split at h
      · rename_i hc
        obtain ⟨_, hle, hmax⟩ := hc
        cases hm : ((List.range len).mapM fun i => (W.cells? 0 (a.add (i * P.cellsOf e)) (P.cellsOf e)).bind (DataW.trod enc P W 0 (fun _ => true) true fuel e)) with
        | none => rw [hm] at h; cases h
        | some zs =>
          obtain ⟨hzl, hz⟩ := mapM_some hm
          have key : ∀ i, i < len → ∃ x : α, A.wf x ∧ W.cells? 0 (a.add (i * P.cellsOf e)) (P.cellsOf e) = some (Enc.enc x) := by
            intro i hi
            obtain ⟨y, hy⟩ := hz i i (by simp [hi])
            cases hcs : W.cells? 0 (a.add (i * P.cellsOf e)) (P.cellsOf e) with
            | none => rw [hcs] at hy; cases hy
            | some cs =>
              rw [hcs] at hy
              have hlen : cs.length = Enc.n α := by
                unfold World.cells? at hcs
                rw [if_pos (Nat.zero_le _)] at hcs
                rw [(mapM_some hcs).1, List.length_range, A.cells]
              obtain ⟨x, hx, e⟩ := A.out hlen hy
              exact ⟨x, hx, by rw [e]⟩
          obtain ⟨l, hl, hp⟩ := exists_list len key
          subst hl
          refine ⟨l, ⟨some a, cap, rfl, hle, hmax, fun x hx => ?_, ?_, fun e => by cases e⟩⟩
          · obtain ⟨i, hi⟩ := List.getElem?_of_mem hx
            exact (hp i x hi).1
          · cases l with
            | nil => exact .nil
            | cons x0 l0 =>
              have cellOf : ∀ (i : Nat) x (j : Nat) u, (x0 :: l0)[i]? = some x → (Enc.enc x)[j]? = some u → W.cell? ((a.add (i * P.cellsOf e)).add j) = some u := by
                intro i x j u hi hj
                have h1 := (hp i x hi).2
                unfold World.cells? at h1
                rw [if_pos (Nat.zero_le _)] at h1
                have hj' : j < P.cellsOf e := by rw [A.cells, ← Enc.len x]; exact (List.getElem?_eq_some_iff.1 hj).1
                obtain ⟨y, hy⟩ := (mapM_some h1).2 j j (by simp [hj'])
                rw [hy]
                have h2 : ∀ (L : List Nat) (ys : List Value), (L.mapM fun i_1 => W.cell? ((a.add (i * P.cellsOf e)).add i_1)) = some ys → ∀ (n : Nat) q, L[n]? = some q → ys[n]? = W.cell? ((a.add (i * P.cellsOf e)).add q) := by
                  intro L
                  induction L with
                  | nil => intro ys _ n q hq; simp at hq
                  | cons q0 L ih =>
                    intro ys hys n q hq
                    rw [List.mapM_cons] at hys
                    cases hc0 : W.cell? ((a.add (i * P.cellsOf e)).add q0) with
                    | none => rw [hc0] at hys; cases hys
                    | some c0 =>
                      rw [hc0] at hys
                      cases hc1 : (L.mapM fun i_1 => W.cell? ((a.add (i * P.cellsOf e)).add i_1)) with
                      | none => rw [hc1] at hys; cases hys
                      | some c1 =>
                        rw [hc1] at hys; cases hys
                        cases n with
                        | zero => simp at hq; subst hq; simp [hc0]
                        | succ n => simpa using ih c1 hc1 n q (by simpa using hq)
                have h3 := h2 _ _ h1 j j (by simp [hj'])
                rw [hj, hy] at h3
                exact h3.symm
              obtain ⟨b, o, s⟩ := a
              have hp0 := Enc.pos (α := α)
              have hs : s = none := by
                have h0 := cellOf 0 x0 0 ((Enc.enc x0)[0]'(by rw [Enc.len]; exact hp0)) rfl (List.getElem?_eq_getElem _)
                simp only [Nat.zero_mul, Addr.add, if_true] at h0
                unfold World.cell? at h0
                cases s with
                | none => rfl
                | some s => simp at h0; split at h0 <;> cases h0
              subst hs
              refine .inr ⟨b, o, rfl, fun w hw k u hk => ?_⟩
              obtain ⟨x, hx, hu⟩ := flat_at hk
              have h0 := cellOf _ _ _ _ hx hu
              have hadd : (({ block := b, off := o } : Addr).add (k / Enc.n α * P.cellsOf e)).add (k % Enc.n α) = ⟨b, o + k, none⟩ := by
                have hdm : k / Enc.n α * Enc.n α + k % Enc.n α = k := by rw [Nat.mul_comm]; exact Nat.div_add_mod k _
                rw [A.cells]
                unfold Addr.add
                split <;> split <;> simp_all
                omega
              rw [hadd] at h0
              have hb : b < W.heap.size := by
                unfold World.cell? at h0
                cases hh : W.heap[b]? with
                | none => rw [hh] at h0; cases h0
                | some oo => exact (Array.getElem?_eq_some_iff.1 hh).1
              unfold World.cell? at h0 ⊢
              rw [show w.heap[b]? = W.heap[b]? from hw.block b hb]
              exact h0
      · cases h
theorem Reads.call {α : Type} [Enc α] {wf : α → Prop} {W : World} {v : Value} {l : List α} (h : Reads wf W v l) : ∃ (p : Option Addr) (cap : Nat), v = .slice p l.length cap ∧ l.length ≤ cap ∧ cap ≤ maxLen ∧ (∀ x ∈ l, wf x) ∧ SlR (At W []) p l ∧ (p = none → l = []) := by
  obtain ⟨p, cap, e, h1, h2, h3, h4, h5⟩ := h.out
  exact ⟨p, cap, e, h1, h2, h3, h4.mono fun w hw => hw.below, h5⟩
/-- The end of a law's walk. -/
theorem Call.told {P : Program} {W : World} {f : FuncId} {args : List Value} {K : Value → List Chunk → Prop} (h : Call P W f args [] K) (hk : ∀ v H, K v H → v = .bool true) : Calls P f args.toArray W fun e w' => e = .returned (.bool true) ∧ Below W.heap.size W w' :=
  (h W (At.start W)).mono fun _ _ ⟨v, H', he, k, hw⟩ => ⟨by rw [he, hk v H' k], hw.below⟩
theorem lit_i64 {n : Int} (h : (Lit.int .i64 n).wf = true) : -9223372036854775808 ≤ n ∧ n ≤ 9223372036854775807 := by
  simp only [Lit.wf, Bool.and_eq_true, decide_eq_true_eq] at h
  exact h
theorem lit_u32 {n : Int} (h : (Lit.int .u32 n).wf = true) : 0 ≤ n ∧ n ≤ 4294967295 := by
  simp only [Lit.wf, Bool.and_eq_true, decide_eq_true_eq] at h
  exact h
/-- A message as it is handed. -/
structure Msg.wf (m : Msg) : Prop where
  f0 : -9223372036854775808 ≤ m.id.from_
  f1 : m.id.from_ ≤ 9223372036854775807
  c0 : 0 ≤ m.id.count
  c1 : m.id.count ≤ 4294967295
  d : m.data.size ≤ maxLen
theorem trod_id {H : Type} {enc : TypeId × Value → H} {W : World} {sp : Nat → Bool} {held : Bool} {fuel : Nat} {c0 c1 : Value} {y : DataW H × List MemPlace} (h : DataW.trod enc Try.prog W 0 sp held fuel 32 [c0, c1] = some y) :
    ∃ f c : Int, c0 = .int .i64 f ∧ c1 = .int .u32 c ∧ (-9223372036854775808 ≤ f ∧ f ≤ 9223372036854775807) ∧ 0 ≤ c ∧ c ≤ 4294967295 := by
  obtain ⟨fuel', k⟩ := trod_struct Try.underlying32 h
  obtain ⟨z0, h0⟩ := k 0 _ rfl
  obtain ⟨z1, h1⟩ := k 1 _ rfl
  dsimp only at h0 h1
  rw [show Try.prog.cellsOf 3 = 1 by kernel_rfl] at h0
  rw [show Try.prog.cellsOf 30 = 1 by kernel_rfl] at h1
  obtain ⟨f, rfl, hf⟩ := trod_int (c := c0) Try.underlying3 h0
  obtain ⟨c, rfl, hc⟩ := trod_int (c := c1) Try.underlying30 h1
  exact ⟨f, c, rfl, rfl, lit_i64 hf, lit_u32 hc⟩
theorem trod_msg {H : Type} {enc : TypeId × Value → H} {W : World} {sp : Nat → Bool} {held : Bool} {fuel : Nat} {cs : List Value} {y : DataW H × List MemPlace} (hl : cs.length = 3) (h : DataW.trod enc Try.prog W 0 sp held fuel 34 cs = some y) :
    ∃ m : Msg, m.wf ∧ cs = m.cells := by
  obtain ⟨c0, c1, c2, rfl⟩ : ∃ a b c, cs = [a, b, c] := by
    match cs, hl with
    | [a, b, c], _ => exact ⟨a, b, c, rfl⟩
  obtain ⟨fuel', k⟩ := trod_struct Try.underlying34 h
  obtain ⟨z0, h0⟩ := k 0 _ rfl
  obtain ⟨z1, h1⟩ := k 1 _ rfl
  dsimp only at h0 h1
  rw [show Try.prog.cellsOf 32 = 2 by kernel_rfl] at h0
  rw [show Try.prog.cellsOf 9 = 1 by kernel_rfl] at h1
  obtain ⟨f, c, rfl, rfl, hf, hc⟩ := trod_id (c0 := c0) (c1 := c1) h0
  obtain ⟨s, rfl, hs⟩ := trod_string (c := c2) Try.underlying9 h1
  exact ⟨⟨⟨f, c⟩, s⟩, ⟨hf.1, hf.2, hc.1, hc.2, hs⟩, rfl⟩
instance : ArgE Try.prog 34 Msg := ⟨Msg.wf, by kernel_rfl, fun hl h => trod_msg hl h⟩
theorem okWide_struct {P : Program} {W : World} {base : Nat} {t : TypeId} {fs : Array Field} {v : Value} (hu : P.underlying t = some (.struct fs)) (hv : Value.okWide P W .any base t v) : ∃ cs, v = .agg cs ∧ cs.size = P.cellsOf t := by
  simp only [Value.okWide, hu] at hv
  obtain ⟨cs, e, hs, _⟩ := hv
  exact ⟨cs, e, hs⟩
theorem handed_msg {P : Program} {t : TypeId} {fs : Array Field} (hu : P.underlying t = some (.struct fs)) (hc : P.cellsOf t = 3) (hout : ∀ {H : Type} {enc : TypeId × Value → H} {W : World} {fuel : Nat} {cs : List Value} {y : DataW H × List MemPlace}, cs.length = 3 → DataW.trod enc P W 0 (fun _ => true) true fuel t cs = some y → ∃ m : Msg, m.wf ∧ cs = m.cells)
    {H : Type} {enc : TypeId × Value → H} {W : World} {base : Nat} {v : Value} {d : DataW H} {ps : List MemPlace} (hv : Value.okWide P W .any base t v) (h : DataW.Trod enc P W 0 (fun _ => true) true t v d ps) : ∃ m : Msg, m.wf ∧ v = m.v := by
  obtain ⟨cs, rfl, hl⟩ := okWide_struct hu hv
  rw [hc] at hl
  obtain ⟨fuel, h⟩ := h
  obtain ⟨m, hw, e⟩ := hout (by rw [Value.cells, Array.length_toList]; exact hl) h
  refine ⟨m, hw, ?_⟩
  show Value.agg cs = .agg m.cells.toArray
  rw [← e]
  rfl
theorem own : ownKnob Try.prog.godebug = none := by kernel_rfl
theorem laidOut : laidOutB Try.prog = true := by kernel_rfl
theorem back {P : Program} (hl : laidOutB P = true) {H : Type} {enc : TypeId × Value → H} : ∀ {ts : List TypeId} {vs : List Value} {ds : List (DataW H)} {ps : List MemPlace} {W W' : World}, (ts.all fun t => P.readableRec t && decide (t < P.types.size)) = true →
    DataW.TrodAll enc P W 0 (fun _ => true) true ts vs ds ps → Below W.heap.size W W' → DataW.TrodAll enc P W' 0 (fun b => decide (b < W.heap.size)) true ts vs ds ps
  | [], vs, ds, ps, W, W', _, h, _ => by
    obtain ⟨rfl, rfl, rfl⟩ := trodAll_nil h
    exact rfl
  | t :: ts, vs, ds, ps, W, W', hc, h, hb => by
    obtain ⟨v, vs', d, ds', p, q, rfl, rfl, rfl, h1, h2⟩ := trodAll_cons h
    simp only [List.all_cons, Bool.and_eq_true, decide_eq_true_eq] at hc
    exact ⟨p, q, Below.trod hl hc.1.1 hc.1.2 h1 hb (by obtain ⟨m, hm⟩ := h1; exact DataW.trod_lt m _ _ _ hm), back hl (by simpa using hc.2) h2 hb, rfl⟩
end Go.Rost
