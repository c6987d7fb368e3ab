/- Slices: read, owned, appended to, cut, indexed. -/
import Derived.Test.YtdjjfmoknncojaaMp
namespace Go.Rost
open Go Go.RowKit

/-- A type whose values take n cells each. -/
class Enc (α : Type) where
  n : Nat
  val : α → Value
  enc : α → List Value
  len : ∀ x, (enc x).length = n
  one : ∀ x, ones (enc x) = true
  pos : 0 < n
/-- .. as a struct | as one cell. -/
class EncA (α : Type) [Enc α] : Prop where
  agg : ∀ x : α, Enc.val x = .agg (Enc.enc x).toArray
class Enc1 (α : Type) [Enc α] : Prop where
  n1 : Enc.n α = 1
  one1 : ∀ x : α, Enc.enc x = [Enc.val x]
section
variable {α : Type} [Enc α]
def flat (l : List α) : List Value := l.flatMap Enc.enc
theorem flat_nil : flat ([] : List α) = [] := rfl
theorem flat_cons (x : α) (l : List α) : flat (x :: l) = Enc.enc x ++ flat l := rfl
theorem flat_append (l m : List α) : flat (l ++ m) = flat l ++ flat m := by simp [flat]
theorem flat_length : ∀ (l : List α), (flat l).length = l.length * Enc.n α
  | [] => by simp [flat]
  | x :: l => by rw [flat_cons, List.length_append, flat_length l, Enc.len, List.length_cons, Nat.add_mul, Nat.one_mul, Nat.add_comm]
theorem flat_get : ∀ {l : List α} {i : Nat} {x : α}, l[i]? = some x → ∀ {j : Nat}, j < Enc.n α → (flat l)[i * Enc.n α + j]? = (Enc.enc x)[j]?
  | [], _, _, h, _, _ => by simp at h
  | y :: l, 0, x, h, j, hj => by
    simp at h; subst h
    rw [flat_cons, Nat.zero_mul, Nat.zero_add, List.getElem?_append_left (by rw [Enc.len]; exact hj)]
  | y :: l, i + 1, x, h, j, hj => by
    rw [flat_cons, List.getElem?_append_right (by rw [Enc.len, Nat.add_mul]; omega), Enc.len, show (i + 1) * Enc.n α + j - Enc.n α = i * Enc.n α + j by rw [Nat.add_mul, Nat.one_mul]; omega]
    exact flat_get (by simpa using h) hj
theorem ones_append : ∀ (a b : List Value), ones (a ++ b) = (ones a && ones b)
  | [], b => by simp [ones]
  | x :: a, b => by simp [ones, ones_append a b, Bool.and_assoc]
theorem ones_flat : ∀ (l : List α), ones (flat l) = true
  | [] => rfl
  | x :: l => by rw [flat_cons, ones_append, Enc.one, ones_flat l]; rfl
theorem flat_drop (l : List α) (k : Nat) : flat (l.drop k) = (flat l).drop (k * Enc.n α) := by
  induction l generalizing k with
  | nil => simp [flat]
  | cons x l ih =>
    cases k with
    | zero => simp
    | succ k =>
      rw [List.drop_succ_cons, ih, flat_cons, Nat.add_mul, Nat.one_mul, List.drop_append, Enc.len, List.drop_eq_nil_of_le (as := Enc.enc x) (by rw [Enc.len]; omega), List.nil_append, Nat.add_sub_cancel]
theorem flat_take (l : List α) (k : Nat) : flat (l.take k) = (flat l).take (k * Enc.n α) := by
  induction l generalizing k with
  | nil => simp [flat]
  | cons x l ih =>
    cases k with
    | zero => simp [flat]
    | succ k =>
      rw [List.take_succ_cons, flat_cons, ih, flat_cons, Nat.add_mul, Nat.one_mul, List.take_append, Enc.len, Nat.add_sub_cancel, List.take_of_length_le (l := Enc.enc x) (by rw [Enc.len]; omega)]

/-! ### Reading -/
/-- In every world that meets S the elements from p on are l. -/
def SlR (S : World → Prop) (p : Option Addr) (l : List α) : Prop := l = [] ∨ ∃ b o, p = some ⟨b, o, none⟩ ∧ Rd S b o (flat l)
theorem SlR.nil {S : World → Prop} {p : Option Addr} : SlR S p ([] : List α) := .inl rfl
theorem Rd.mono {S S' : World → Prop} {b o : Nat} {vs : List Value} (h : Rd S b o vs) (hs : ∀ w, S' w → S w) : Rd S' b o vs := fun w hw => h w (hs w hw)
theorem SlR.mono {S S' : World → Prop} {p : Option Addr} {l : List α} (h : SlR S p l) (hs : ∀ w, S' w → S w) : SlR S' p l := h.imp id fun ⟨b, o, e, hr⟩ => ⟨b, o, e, hr.mono hs⟩
theorem RdBlk.rd {S : World → Prop} {b : Nat} {cs vs : List Value} {sp : List Value} (h : RdBlk S b cs.toArray) (e : cs = vs ++ sp) : Rd S b 0 vs := fun w hw i v hv => by
  refine h.cell ?_ hw
  subst e
  have : i < vs.length := (List.getElem?_eq_some_iff.1 hv).1
  simp only [Nat.zero_add, List.getElem?_toArray]
  rw [List.getElem?_append_left this, hv]
theorem SlR.blk {S : World → Prop} {b : Nat} {cs : List Value} (h : RdBlk S b cs.toArray) (l : List α) (e : cs = flat l) : SlR S (some ⟨b, 0, none⟩) l := .inr ⟨b, 0, rfl, h.rd (sp := []) (by rw [List.append_nil]; exact e)⟩
theorem Rd.get {S : World → Prop} {b o : Nat} {l : List α} (h : Rd S b o (flat l)) {i : Nat} {x : α} (hx : l[i]? = some x) : Rd S b (o + i * Enc.n α) (Enc.enc x) := fun w hw j v hv => by
  have hj : j < Enc.n α := by rw [← Enc.len x]; exact (List.getElem?_eq_some_iff.1 hv).1
  have := h w hw (i * Enc.n α + j) v (by rw [flat_get hx hj]; exact hv)
  rwa [Nat.add_assoc]
theorem ex_loadA {P : Program} {S : World → Prop} {σ : Env} {T : TypeId} {x : Operand} {b o : Nat} [EncA α] [TAgg P T (Enc.n α)] (a : α) (hx : σ.val x = some (.pointer (some ⟨b, o, none⟩))) (h : Rd S b o (Enc.enc a)) : Ex P S σ (.load T x) (Enc.val a) := by
  refine Ex.any (fun ρ hρ c hop w hw => ?_) (fun _ _ e => by cases e) (fun _ e => by cases e)
  rw [EncA.agg]
  exact run_loadOp hop (hρ _ _ hx) (run_loadAgg (Enc.len a) (fun j v e => h w hw j v e))
theorem ex_load1 {P : Program} {S : World → Prop} {σ : Env} {T : TypeId} {x : Operand} {b o : Nat} [Enc1 α] [TPlain P T] (a : α) (hx : σ.val x = some (.pointer (some ⟨b, o, none⟩))) (h : Rd S b o (Enc.enc a)) : Ex P S σ (.load T x) (Enc.val a) := by
  refine Ex.any (fun ρ hρ c hop w hw => ?_) (fun _ _ e => by cases e) (fun _ e => by cases e)
  exact run_loadOp hop (hρ _ _ hx) (run_isAgg_load1 (by have := h w hw 0 (Enc.val a) (by rw [Enc1.one1]; rfl); simpa using this))
theorem ex_indexAddr {P : Program} {S : World → Prop} {σ : Env} {T E n : TypeId} {x y : Operand} {b o len cap : Nat} {k : IntKind} {i : Int} [hT : TUnder P T (.slice E)] [hE : TSize P E n] (hx : σ.val x = some (.slice (some ⟨b, o, none⟩) len cap)) (hy : σ.val y = some (.int k i))
    (h0 : 0 ≤ i) (h1 : i < len) : Ex P S σ (.indexAddr T x y) (.pointer (some ⟨b, o + i.toNat * n, none⟩)) := by
  refine Ex.any (fun ρ hρ c hop w hw => ?_) (fun _ _ e => by cases e) (fun _ e => by cases e)
  simp [execOp, hop, Instr.indexAt, hρ _ _ hx, hρ _ _ hy, asIntOf, hT.under, h0, h1, hE.size, Addr.add_none]

/-! ### Cutting -/
def subA (p : Option Addr) (cap lo n : Nat) : Option Addr := if cap = lo then p else p.map (·.add (lo * n))
theorem SlR.cut {S : World → Prop} {p : Option Addr} {l : List α} (h : SlR S p l) {cap lo hi : Nat} (hl : l.length ≤ cap) : SlR S (subA p cap lo (Enc.n α)) ((l.take hi).drop lo) := by
  rcases h with rfl | ⟨b, o, rfl, hr⟩
  · left; simp
  · by_cases hc : cap = lo
    · left
      rw [List.drop_eq_nil_of_le]
      simp only [List.length_take]; omega
    · right
      refine ⟨b, o + lo * Enc.n α, by simp [subA, hc, Addr.add_none], fun w hw i v e => ?_⟩
      rw [flat_drop, flat_take, List.getElem?_drop, List.getElem?_take] at e
      split at e
      · have := hr w hw _ v e; rwa [← Nat.add_assoc] at this
      · cases e
theorem SlR.dropA {S : World → Prop} {p : Option Addr} {l : List α} (h : SlR S p l) {cap lo : Nat} (hl : l.length ≤ cap) : SlR S (subA p cap lo (Enc.n α)) (l.drop lo) := by
  have := SlR.cut (lo := lo) (hi := l.length) h hl
  rwa [List.take_length] at this
theorem SlR.takeA {S : World → Prop} {p : Option Addr} {l : List α} (h : SlR S p l) {cap hi : Nat} (hl : l.length ≤ cap) : SlR S (subA p cap 0 (Enc.n α)) (l.take hi) := by
  have := SlR.cut (lo := 0) (hi := hi) h hl
  rwa [List.drop_zero] at this
end
theorem ex_slice {P : Program} {S : World → Prop} {σ : Env} {T E n : TypeId} {x : Operand} {lo hi : Option Operand} {p : Option Addr} {len cap : Nat} {i j : Nat} [hT : TUnder P T (.slice E)] [hE : TSize P E n] (hx : σ.val x = some (.slice p len cap))
    (hlo : (lo = none ∧ i = 0) ∨ ∃ y k, lo = some y ∧ σ.val y = some (.int k (i : Int))) (hhi : (hi = none ∧ j = len) ∨ ∃ y k, hi = some y ∧ σ.val y = some (.int k (j : Int)))
    (h1 : i ≤ j) (h2 : j ≤ cap) : Ex P S σ (.slice T x lo hi none) (.slice (subA p cap i n) (j - i) (cap - i)) := by
  refine Ex.any (fun ρ hρ c hop w hw => ?_) (fun _ _ e => by cases e) (fun _ e => by cases e)
  have hb : (Instr.sliceBounds true len cap (lo.map ρ) (hi.map ρ) none).run P w = .ok (i, j, cap) w := by
    have hj : ∀ (y : Nat) (k : IntKind) (code : BoundsCode), j ≤ y → (Instr.sliceBound (.int k (j : Int)) y code).run P w = .ok j w := fun y k code h => by
      have : (j : Int) ≤ y := by omega
      simp [Instr.sliceBound, asIntOf, this]
    have hi' : ∀ (y : Nat) (k : IntKind) (code : BoundsCode), i ≤ y → (Instr.sliceBound (.int k (i : Int)) y code).run P w = .ok i w := fun y k code h => by
      have : (i : Int) ≤ y := by omega
      simp [Instr.sliceBound, asIntOf, this]
    rcases hlo with ⟨rfl, rfl⟩ | ⟨y, k, rfl, hy⟩ <;> rcases hhi with ⟨rfl, rfl⟩ | ⟨y', k', rfl, hy'⟩
    · simp [Instr.sliceBounds]
    · simp [Instr.sliceBounds, hρ _ _ hy', hj _ _ _ h2]
    · simp [Instr.sliceBounds, hρ _ _ hy, hi' _ _ _ h1]
    · simp [Instr.sliceBounds, hρ _ _ hy, hρ _ _ hy', hj _ _ _ h2, hi' _ _ _ h1]
  simp only [execOp, hop, Instr.sliceAt, Sem.run_bind, hT.under, Result.andThen_ok, Instr.slice, hρ _ _ hx, Option.map_none, hb, hE.size, Sem.run_pure, subA]

/-! ### Owning -/
section
variable {α : Type} [Enc α]
def SlT (E : TypeId) (v : Value) (l : List α) : Chunk := fun h => (v = .slice none 0 0 ∧ l = []) ∨ ∃ b cap sp, v = .slice (some ⟨b, 0, none⟩) l.length cap ∧ h b = some (.cells (flat l ++ sp).toArray E (0, 0)) ∧ (flat l ++ sp).length = cap * Enc.n α
theorem At.slt {W0 : World} {E : TypeId} {v : Value} {l : List α} {H : List Chunk} {w : World} (h : At W0 (SlT E v l :: H) w) :
    (v = .slice none 0 0 ∧ l = [] ∧ At W0 H w) ∨ ∃ b cap sp, v = .slice (some ⟨b, 0, none⟩) l.length cap ∧ (flat l ++ sp).length = cap * Enc.n α ∧ At W0 (Blk b (.cells (flat l ++ sp).toArray E (0, 0)) :: H) w := by
  obtain ⟨hb, k, hk, h1, h2, l1, l2, d, hc, s⟩ := h
  rcases hc with ⟨e1, e2⟩ | ⟨b, cap, sp, e1, e2, e3⟩
  · exact .inl ⟨e1, e2, hb, k, hk, sat_le s l2⟩
  · exact .inr ⟨b, cap, sp, e1, e3, hb, k, hk, h1, h2, l1, l2, d, e2, s⟩
theorem At.slt_nil {W0 : World} (E : TypeId) {H : List Chunk} {w : World} (h : At W0 H w) : At W0 (SlT E (.slice none 0 0) ([] : List α) :: H) w := by
  obtain ⟨hb, k, hk, s⟩ := h
  exact ⟨hb, k, hk, fun _ => none, k, ⟨fun _ _ e => (by cases e)⟩, .refl _, ⟨fun _ => .inl rfl⟩, .inl ⟨rfl, rfl⟩, s⟩
theorem At.slt_blk {W0 : World} {E : TypeId} {l : List α} {b cap : Nat} {cs : List Value} {H : List Chunk} {w : World} (h : At W0 (Blk b (.cells cs.toArray E (0, 0)) :: H) w) (sp : List Value) (e : cs = flat l ++ sp) (hl : cs.length = cap * Enc.n α) :
    At W0 (SlT E (.slice (some ⟨b, 0, none⟩) l.length cap) l :: H) w := by
  subst e
  exact h.imp fun k hk => .inr ⟨b, cap, sp, rfl, hk, hl⟩
/-- What an owned slice is made of. -/
structure SlV (p : Option Addr) (cap : Nat) (l : List α) : Prop where
  le : l.length ≤ cap
  sh : (p = none ∧ cap = 0 ∧ l = []) ∨ ∃ b, p = some ⟨b, 0, none⟩
theorem At.slv {W0 : World} {E : TypeId} {v : Value} {l : List α} {H : List Chunk} {w : World} (h : At W0 (SlT E v l :: H) w) : ∃ p cap, v = .slice p l.length cap ∧ SlV p cap l := by
  rcases h.slt with ⟨e, e', _⟩ | ⟨b, cap, sp, e, hl, _⟩
  · subst e'; exact ⟨none, 0, e, Nat.le_refl _, .inl ⟨rfl, rfl, rfl⟩⟩
  · refine ⟨_, cap, e, ?_, .inr ⟨b, rfl⟩⟩
    rw [List.length_append, flat_length] at hl
    exact Nat.le_of_mul_le_mul_right (by omega : l.length * Enc.n α ≤ cap * Enc.n α) Enc.pos
/-- An owned slice that may be read. -/
class RdS (S : World → Prop) (v : Value) (l : List α) : Prop where
  rd : ∀ w, S w → (v = .slice none 0 0 ∧ l = []) ∨ ∃ b cap, v = .slice (some ⟨b, 0, none⟩) l.length cap ∧ ∀ (i : Nat) (u : Value), (flat l)[i]? = some u → w.cell? ⟨b, i, none⟩ = some u
instance RdS.head {W0 : World} {E : TypeId} {v : Value} {l : List α} {H : List Chunk} : RdS (At W0 (SlT E v l :: H)) v l := ⟨fun w hw => by
  rcases hw.slt with ⟨e, e', _⟩ | ⟨b, cap, sp, e, _, hw'⟩
  · exact .inl ⟨e, e'⟩
  · refine .inr ⟨b, cap, e, fun i u hu => ?_⟩
    have hr : RdBlk (fun w' => w' = w) b (flat l ++ sp).toArray := fun w' e => ⟨E, (0, 0), e ▸ hw'.read⟩
    have := hr.rd rfl w rfl i u hu
    simpa using this⟩
instance (priority := low) RdS.tail {W0 : World} {v : Value} {l : List α} {c : Chunk} {H : List Chunk} [h : RdS (At W0 H) v l] : RdS (At W0 (c :: H)) v l := ⟨fun w hw => h.rd w hw.drop⟩
theorem RdS.slR {S : World → Prop} {p : Option Addr} {len cap : Nat} {l : List α} (h : RdS S (.slice p len cap) l) (hv : SlV p cap l) : SlR S p l := by
  rcases hv.sh with ⟨_, _, e⟩ | ⟨b, rfl⟩
  · exact .inl e
  · by_cases hl : l = []
    · exact .inl hl
    · refine .inr ⟨b, 0, rfl, fun w hw i u hu => ?_⟩
      rcases h.rd w hw with ⟨e, _⟩ | ⟨b', cap', e, hc⟩
      · cases e
      · cases e; simpa using hc i u hu
/-- The slice v among the owned, and the list with another slice in its place. -/
class FindS (v : Value) (H : List Chunk) (α : outParam Type) (i : outParam (Enc α)) (E : outParam TypeId) (l : outParam (List α)) (H' : outParam (Chunk → List Chunk)) : Prop where
  rep : ∀ c', Rep (SlT E v l) c' H (H' c')
instance FindS.head {α : Type} {i : Enc α} {v : Value} {E : TypeId} {l : List α} {H : List Chunk} : FindS v (SlT E v l :: H) α i E l (fun c' => c' :: H) := ⟨fun _ => .head⟩
instance (priority := low) FindS.tail {α : Type} {i : Enc α} {v : Value} {E : TypeId} {l : List α} {c : Chunk} {H : List Chunk} {H' : Chunk → List Chunk} [h : FindS v H α i E l H'] : FindS v (c :: H) α i E l (fun c' => c :: H' c') := ⟨fun c' => .tail (h.rep c')⟩

theorem growBy_le (need : Nat) : ∀ (r c : Nat), Builtin.growBy need r c ≤ max c (2 * need + 1000)
  | 0, c => by simp only [Builtin.growBy]; exact Nat.le_max_left _ _
  | r + 1, c => by
    simp only [Builtin.growBy]
    split
    · exact Nat.le_max_left _ _
    · have := growBy_le need r (c + (c + 768) / 4)
      omega
theorem nextcap_le {need old : Nat} (h : old < need) : Builtin.nextslicecap need old ≤ 2 * need + 1000 := by
  unfold Builtin.nextslicecap
  split
  · omega
  · split
    · omega
    · have := growBy_le need 4 old; omega
theorem setsL_append : ∀ (vs A B : List Value), vs.length ≤ B.length → setsL (A ++ B) A.length vs = A ++ (vs ++ B.drop vs.length)
  | [], A, B, _ => by simp [setsL]
  | v :: vs, A, B, h => by
    cases B with
    | nil => simp at h
    | cons y B =>
      rw [setsL, List.set_append_right _ _ (Nat.le_refl _), Nat.sub_self, List.set_cons_zero]
      have := setsL_append vs (A ++ [v]) B (by simpa using h)
      rw [List.length_append, List.append_assoc] at this
      simpa using this
theorem run_first {P : Program} {w : World} {q : Option Addr} {ys : List α} {c : Nat} (h : SlR (fun w' => w' = w) q ys) : (Builtin.firstCells (Enc.n α) ys.length (.slice q ys.length c)).run P w = .ok (flat ys).toArray w := by
  rcases h with rfl | ⟨b, o, rfl, hr⟩
  · cases q with
    | none => simp [Builtin.firstCells, flat]
    | some a => simp [Builtin.firstCells, loadCells, loadCellsFrom, flat]
  · simp only [Builtin.firstCells]
    rw [← flat_length]
    exact run_loadCells (fun j v e => hr w rfl j v e)
theorem size_zeroCells (z : Array Value) (n : Nat) : (Builtin.zeroCells z n).size = n * z.size := by simp [Builtin.zeroCells]
section
variable {C : Cx} {ds : List Deferred} {σ : Env} {H : List Chunk} {K : Value → List Chunk → Prop} {dst : Option Tmp} {ty : TypeId} {pos : String} {aft : Array Edge} {g : Option (Nat × Bool)}
theorem opR_append {α : Type} {ie : Enc α} {T E nb : TypeId} {x y : Operand} {v z : Value} {zs : List Value} {q : Option Addr} {c : Nat} {l : List α} {H' : Chunk → List Chunk} (ys : List α) [hT : TUnder C.P T (.slice E)] [hE : TSize C.P E (Enc.n α)] [hZ : TZero C.P E z] [hc : CellsOf z zs] [hB : TBytes C.P E nb]
    (hx : σ.val x = some v) [hf : FindS v H α ie E l H'] (hy : σ.val y = some (.slice q ys.length c)) (hr : SlR (At C.W0 H) q ys) (hzs : zs.length = Enc.n α) (hb : l.length + ys.length ≤ 1048576) (hnb : Nat.ble nb 1024 = true)
    (h0 : ∀ p cap, SlV p cap (l ++ ys) → K (.slice p (l ++ ys).length cap) (H' (SlT E (.slice p (l ++ ys).length cap) (l ++ ys)))) : OpR C ds ⟨dst, .call ⟨.builtin .append, #[x, y], #[T, T]⟩, ty, pos, aft, g⟩ σ H K := by
  refine OpR.of_run (fun c e => by cases e) fun ρ hρ w hw => ?_
  obtain ⟨i, hi1, hi2⟩ := hB.info w
  obtain ⟨i', hi1', hi2'⟩ := hB.info w.drew
  have hnb' : nb ≤ 1024 := Nat.le_of_ble_eq_true hnb
  have hr0 : SlR (fun w' => w' = w) q ys := hr.mono (fun w' e => e ▸ hw)
  have hnew := run_first (P := C.P) (c := c) hr0
  have hexec : ∀ (s : Value) (r : Result Value), s = v → (Builtin.append_ #[T, T] ty #[s, .slice q ys.length c]).run C.P w = r → (execOp ρ ⟨dst, .call ⟨.builtin .append, #[x, y], #[T, T]⟩, ty, pos, aft, g⟩).run C.P w = r.andThen fun u w' => .ok (.value u) w' := by
    rintro s r rfl rfl
    simp [execOp, resolve, invoke, builtin, hρ _ _ hx, hρ _ _ hy]
  -- the row that is made where there is no room
  have grow : ∀ (p : Option Addr) (cap : Nat), v = .slice p l.length cap → (l.length ≤ cap) → SlR (fun w' => w' = w.drew) p l → ¬ l.length + ys.length ≤ cap →
      ∃ v' w' H'', (execOp ρ ⟨dst, .call ⟨.builtin .append, #[x, y], #[T, T]⟩, ty, pos, aft, g⟩).run C.P w = .ok (.value v') w' ∧ K v' H'' ∧ At C.W0 H'' w' := by
    intro p cap hv hle hp hroom
    obtain ⟨nc, hnc⟩ : ∃ nc, nc = (Question.appendCap (l.length + ys.length) cap E).cut (w.tape w.drawn (.appendCap (l.length + ys.length) cap E)) := ⟨_, rfl⟩
    have hge : l.length + ys.length ≤ nc := by rw [hnc]; simp only [Question.cut]; omega
    have hold := run_first (P := C.P) (c := cap) hp
    have hnew' := run_first (P := C.P) (c := c) (hr.mono (S' := fun w' => w' = w.drew) (fun w' e => e ▸ hw.drew _))
    have h48 : ¬ Builtin.nextslicecap (l.length + ys.length) cap * nb > 2 ^ 48 := by
      have h1 := nextcap_le (need := l.length + ys.length) (old := cap) (by omega)
      have h2 : Builtin.nextslicecap (l.length + ys.length) cap * nb ≤ (2 * (l.length + ys.length) + 1000) * 1024 := Nat.mul_le_mul h1 hnb'
      omega
    have hi63 : ¬ (((l.length + ys.length : Nat) : Int) > IntKind.i64.max ∧ (false = true ∨ nb = 0)) := by
      intro hh; have : IntKind.i64.max = 9223372036854775807 := by decide
      omega
    have hcells : (flat l).toArray ++ (flat ys).toArray ++ Builtin.zeroCells z.cells (nc - (l.length + ys.length)) = (flat (l ++ ys) ++ (Builtin.zeroCells z.cells (nc - (l.length + ys.length))).toList).toArray := by
      apply Array.toList_inj.mp; simp [flat_append]
    refine ⟨.slice (some ⟨w.heap.size, 0, none⟩) (l ++ ys).length nc, w.drew.alloc (.cells (flat (l ++ ys) ++ (Builtin.zeroCells z.cells (nc - (l.length + ys.length))).toList).toArray E (0, 0)), H' (SlT E (.slice (some ⟨w.heap.size, 0, none⟩) (l ++ ys).length nc) (l ++ ys)), ?_, h0 _ _ ⟨by rw [List.length_append]; exact hge, .inr ⟨_, rfl⟩⟩, ?_⟩
    · rw [hexec (.slice p l.length cap) _ hv.symm rfl]
      simp only [Builtin.append_, Sem.run_bind, hT.under, Result.andThen_ok, hE.size, List.getElem?_toArray, List.getElem?_cons_zero, List.getElem?_cons_succ, Sem.run_pure, Builtin.lenOf, hroom, if_false, hi1, hi2, Bool.false_eq_true]
      simp only [false_or, Bool.not_false, if_true, newRow, List.length_append]
      rw [if_neg (by simpa using hi63)]
      have h48' : ¬ 281474976710656 < Builtin.nextslicecap (l.length + ys.length) cap * nb := by simpa using h48
      simp [hi1, hi2, hi1', h48', hold, hnew', Question.forced, ← hnc, hZ.zero]
      rw [← Array.append_assoc, hcells]
    · have h1 : At C.W0 (Blk w.heap.size _ :: H) (w.drew.alloc _) := (hw.drew (w.drawn + 1)).alloc (.cells (flat (l ++ ys) ++ (Builtin.zeroCells z.cells (nc - (l.length + ys.length))).toList).toArray E (0, 0))
      obtain ⟨R, p1, p2⟩ := (hf.rep (SlT E (.slice (some ⟨w.heap.size, 0, none⟩) (l ++ ys).length nc) (l ++ ys))).split
      have h2 := (h1.perm ((p1.cons _).trans (.swap _ _ _))).drop
      refine (At.slt_blk (cap := nc) h2 _ rfl ?_).perm p2.symm
      have hsz : z.cells.size = Enc.n α := by rw [hc.eq]; simpa using hzs
      have hzl : (Builtin.zeroCells z.cells (nc - (l.length + ys.length))).toList.length = (nc - (l.length + ys.length)) * Enc.n α := by rw [Array.length_toList, Rost.size_zeroCells, hsz]
      rw [List.length_append, flat_length, hzl, List.length_append, ← Nat.add_mul]
      congr 1; omega
  obtain ⟨R, p1, p2⟩ := (hf.rep (SlT E v (l ++ ys))).split
  rcases (hw.perm p1).slt with ⟨hv, hl, _⟩ | ⟨b, cap, sp, hv, hlen, hw'⟩
  · subst hl
    by_cases hm : ys.length = 0
    · have hys : ys = [] := List.length_eq_zero_iff.1 hm
      subst hys
      refine ⟨.slice none 0 0, w, H' (SlT E (.slice none 0 0) (([] : List α) ++ [])), ?_, h0 none 0 ⟨by simp, .inl ⟨rfl, rfl, rfl⟩⟩, ?_⟩
      · rw [hexec (.slice none 0 0) _ hv.symm rfl]
        simp [Builtin.append_, hT.under, hE.size, Builtin.lenOf]
        cases q <;> simp [Builtin.firstCells, loadCells, loadCellsFrom]
      · obtain ⟨R', q1, q2⟩ := (hf.rep (SlT E (.slice none 0 0) (([] : List α) ++ []))).split
        exact (At.slt_nil E (hw.perm q1).drop).perm q2.symm
    · exact grow none 0 (by simpa using hv) (by simp) (.inl rfl) (by rw [List.length_nil]; omega)
  · have hcapge : l.length ≤ cap := by
      rw [List.length_append, flat_length] at hlen
      exact Nat.le_of_mul_le_mul_right (by omega : l.length * Enc.n α ≤ cap * Enc.n α) Enc.pos
    have hrd := hw'.read
    by_cases hroom : l.length + ys.length ≤ cap
    · have hsp : ys.length * Enc.n α ≤ sp.length := by
        rw [List.length_append, flat_length] at hlen
        have := Nat.mul_le_mul_right (Enc.n α) hroom
        rw [Nat.add_mul] at this
        omega
      have hst := run_storeCells C.P b E (flat ys) 0 (l.length * Enc.n α) (flat l ++ sp) w hrd (by rw [List.length_append, flat_length, flat_length]; omega) (ones_flat ys)
      have hset : setsL (flat l ++ sp) (l.length * Enc.n α) (flat ys) = flat (l ++ ys) ++ sp.drop (flat ys).length := by
        rw [← flat_length l, setsL_append _ _ _ (by rw [flat_length]; exact hsp), flat_append, List.append_assoc]
      rw [Nat.add_zero, hset] at hst
      refine ⟨.slice (some ⟨b, 0, none⟩) (l ++ ys).length cap, { w with heap := w.heap.setIfInBounds b (.cells (flat (l ++ ys) ++ sp.drop (flat ys).length).toArray E (0, 0)) }, H' (SlT E (.slice (some ⟨b, 0, none⟩) (l ++ ys).length cap) (l ++ ys)), ?_, h0 _ _ ⟨by rw [List.length_append]; exact hroom, .inr ⟨_, rfl⟩⟩, ?_⟩
      · rw [hexec (.slice (some ⟨b, 0, none⟩) l.length cap) _ hv.symm rfl]
        simp [Builtin.append_, hT.under, hE.size, Builtin.lenOf, hroom, hnew, Addr.add_none, hst, -List.append_assoc]
      · obtain ⟨R', q1, q2⟩ := (hf.rep (SlT E (.slice (some ⟨b, 0, none⟩) (l ++ ys).length cap) (l ++ ys))).split
        have hR : At C.W0 (Blk b (.cells (flat l ++ sp).toArray E (0, 0)) :: R') w := by
          rcases (hw.perm q1).slt with ⟨hv', _, _⟩ | ⟨b', cap', sp', hv', hlen', hw''⟩
          · rw [hv] at hv'; cases hv'
          · rw [hv] at hv'; cases hv'
            have := hw''.read
            rw [hrd] at this
            rw [Option.some.inj this]
            exact hw''
        refine (At.slt_blk (cap := cap) hR.write _ rfl ?_).perm q2.symm
        rw [List.length_append, List.length_drop, flat_length, flat_length, List.length_append, Nat.add_mul]
        rw [List.length_append, flat_length] at hlen
        omega
    · refine grow (some ⟨b, 0, none⟩) cap hv hcapge (.inr ⟨b, 0, rfl, ?_⟩) hroom
      rintro w' rfl i u hu
      have hr' : RdBlk (fun w' => w' = w) b (flat l ++ sp).toArray := fun w' e => ⟨E, (0, 0), e ▸ hrd⟩
      exact hr'.rd rfl w rfl i u hu
end
end
end Go.Rost
