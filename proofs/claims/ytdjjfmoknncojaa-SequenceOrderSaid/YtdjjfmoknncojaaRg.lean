/- Regions: operations one behind the other, and in whatever order a region that draws allows. -/
import Derived.Test.YtdjjfmoknncojaaOp
namespace Go.Rost
open Go Go.RowKit

structure Cx where
  P : Program
  r : Option Nat
  N : Nat
  W0 : World
def fw (r : Option Nat) : Fence := { Fence.wide with round := r }
theorem fw_fn (r : Option Nat) (f : FuncId) : (fw r).fn f := trivial
theorem fw_depth (r : Option Nat) : (fw r).depth.isSome = true → 1 ≤ 0 := fun h => by simp [fw, Fence.wide] at h

/-- One operation: what it yields and what it leaves owned. -/
def OpR (C : Cx) (ds : List Deferred) (o : Oper) (σ : Env) (H : List Chunk) (K : Value → List Chunk → Prop) : Prop :=
  ∀ (a : Act) (w : World) (next : Act → World → Prop) (Q : Exit → Act → World → Prop), Sat C.N ds σ a → At C.W0 H w →
    (∀ v H' w', K v H' → At C.W0 H' w' → next (a.put o.dst v) w') → o.wpIn (fw C.r) 0 C.P a w next Q

theorem OpR.of_run {C : Cx} {ds : List Deferred} {o : Oper} {σ : Env} {H : List Chunk} {K : Value → List Chunk → Prop}
    (hd : ∀ c, o.op ≠ .defer c)
    (h : ∀ (ρ : Operand → Value), (∀ x u, σ.val x = some u → ρ x = u) → ∀ w, At C.W0 H w → ∃ v w' H', (execOp ρ o).run C.P w = .ok (.value v) w' ∧ K v H' ∧ At C.W0 H' w') : OpR C ds o σ H K := by
  intro a w next Q hs hw hn
  obtain ⟨v, w', H', hr, hK, hw'⟩ := h a.eval (fun x u e => hs.val e) w hw
  refine ⟨fun f _ => trivial, ?_⟩
  rw [Oper.semAt_eq _ _ _ hd, hr]
  exact hn v H' w' hK hw'
theorem OpR.of_skip {C : Cx} {ds : List Deferred} {o : Oper} {σ : Env} {H : List Chunk} {K : Value → List Chunk → Prop}
    (hd : ∀ c, o.op ≠ .defer c)
    (h : ∀ (ρ : Operand → Value), (∀ x u, σ.val x = some u → ρ x = u) → ∀ w, At C.W0 H w → ∃ w' H', (execOp ρ o).run C.P w = .ok .skip w' ∧ K undef H' ∧ At C.W0 H' w') : OpR C ds o σ H K := by
  intro a w next Q hs hw hn
  obtain ⟨w', H', hr, hK, hw'⟩ := h a.eval (fun x u e => hs.val e) w hw
  refine ⟨fun f _ => trivial, ?_⟩
  rw [Oper.semAt_eq _ _ _ hd, hr]
  exact hn undef H' w' hK hw'
theorem Ex.opR {C : Cx} {ds : List Deferred} {o : Oper} {σ : Env} {H : List Chunk} {K : Value → List Chunk → Prop} {v : Value}
    (h : Ex C.P (At C.W0 H) σ o.op v) (hK : K v H) : OpR C ds o σ H K :=
  OpR.of_run h.noSel.2 fun ρ hρ w hw => ⟨v, w, H, h.run ρ hρ o rfl w hw, hK, hw⟩
theorem OpR.mono {C : Cx} {ds : List Deferred} {o : Oper} {σ : Env} {H : List Chunk} {K K' : Value → List Chunk → Prop} (h : OpR C ds o σ H K) (hk : ∀ v H, K v H → K' v H) : OpR C ds o σ H K' :=
  fun a w next Q hs hw hn => h a w next Q hs hw fun v H' w' k => hn v H' w' (hk _ _ k)

/-- How a region is left: at its end, nothing else. -/
def QK (C : Cx) (ds : List Deferred) (K : Env → List Chunk → Prop) (a : Act) (w : World) : Prop := ∃ σ H, K σ H ∧ Sat C.N ds σ a ∧ At C.W0 H w
def QN (X : Act → World → Prop) : Exit → Act → World → Prop
  | .normal, a, w => X a w
  | _, _, _ => False

def wantV (ops : Array Oper) (σ : Env) : Option (Nat × Bool) → Option Bool
  | none => some true
  | some (j, want) => match ops[j]? with
    | some o => match o.dst with
      | some d => match σ.get d with
        | some (.bool b) => some (b == want)
        | some (.tuple _) => some false
        | _ => none
      | none => none
    | none => none
theorem wantV_spec {N : Nat} {ds : List Deferred} {ops : Array Oper} {σ : Env} {a : Act} (hs : Sat N ds σ a) {o : Oper} {b : Bool} (h : wantV ops σ o.guard = some b) : Region.wanted o (yielded ops a.tmps) = b := by
  unfold wantV at h
  unfold Region.wanted
  cases hg : o.guard with
  | none => rw [hg] at h; cases h; rfl
  | some jw =>
    obtain ⟨j, want⟩ := jw
    rw [hg] at h
    simp only at h ⊢
    unfold yielded
    cases ho : ops[j]? with
    | none => rw [ho] at h; cases h
    | some oj =>
      rw [ho] at h
      simp only at h
      cases hd : oj.dst with
      | none => rw [hd] at h; cases h
      | some d =>
        rw [hd] at h
        simp only at h
        cases hv : σ.get d with
        | none => rw [hv] at h; cases h
        | some v =>
          rw [hv] at h
          have hget := hs.get d v hv
          rw [Array.getD_eq_getD_getElem?] at hget
          simp only [Option.bind_some, hd]
          cases v with
          | bool x =>
            simp only [Option.some.injEq] at h
            subst h
            cases ht : a.tmps[d]? with
            | none => rw [ht] at hget; cases hget
            | some u =>
              rw [ht] at hget
              simp only [Option.getD_some] at hget
              subst hget
              cases x <;> cases want <;> rfl
          | tuple vs =>
            simp only [Option.some.injEq] at h
            subst h
            cases ht : a.tmps[d]? with
            | none => rfl
            | some u =>
              rw [ht] at hget
              simp only [Option.getD_some] at hget
              subst hget
              rfl
          | _ => cases h

/-! ### One behind the other -/
def wpLIn (F : Fence) (P : Program) (ops : Array Oper) (X : Act → World → Prop) : List Oper → Act → World → Prop
  | [], a, w => X a w
  | o :: l, a, w => if Region.wanted o (yielded ops a.tmps) then o.wpIn F 0 P a w (wpLIn F P ops X l) (fun _ _ _ => False) else wpLIn F P ops X l (a.put o.dst undef) w

theorem Oper.wpIn_monoQ {F : Fence} {n : Nat} {P : Program} {o : Oper} {a : Act} {w : World} {K K' : Act → World → Prop} {Q : Exit → Act → World → Prop} (h : ∀ a w, K a w → K' a w)
    (hh : o.wpIn F n P a w K (fun _ _ _ => False)) : o.wpIn F n P a w K' Q := by
  obtain ⟨h1, hh⟩ := hh
  refine ⟨h1, ?_⟩
  generalize (o.semAt F.round a.eval).run P w = r at *
  cases r with
  | ok x w' =>
    cases x <;> simp only [Oper.uponIn] at hh ⊢
    case value => exact h _ _ hh
    case skip => exact h _ _ hh
    case defer => exact h _ _ hh
    case enter f args =>
      refine ⟨hh.1, hh.2.mono fun e w'' he => ?_⟩
      cases e with
      | returned v => exact h _ _ he
      | panicked c => exact he.elim
      | outgrown => obtain ⟨_, _, he⟩ := he; exact he.elim
    case row => exact ⟨hh.1, hh.2.mono fun _ _ he => h _ _ he⟩
    case round =>
      refine ⟨hh.1, hh.2.mono fun e w'' he => ?_⟩
      cases e with
      | returned v => exact h _ _ he
      | panicked c => exact he.elim
      | outgrown => obtain ⟨_, _, he⟩ := he; exact he.elim
  | halt x w' => cases x <;> simp only [Oper.uponIn] at hh ⊢

theorem wpOpsIn_of_list {F : Fence} (hF : ∀ f, F.fn f) {P : Program} {ops : Array Oper} {X : Act → World → Prop} {Q : Exit → Act → World → Prop} (hQ : ∀ a w, X a w → Q .normal a w) (l : List Oper) : ∀ k, (∀ j, l[j]? = ops[k + j]?) →
    ∀ a w, wpLIn F P ops X l a w → wpOpsIn F 0 P ops Q (List.range' k l.length) a w := by
  induction l with
  | nil => intro k _ a w h; exact hQ a w h
  | cons o l ih =>
    intro k h a w hh
    have h0 : ops[k]? = some o := by simpa using (h 0).symm
    have ih' := ih (k + 1) (fun j => by have := h (j + 1); simpa [Nat.add_assoc, Nat.add_comm 1 j] using this)
    simp only [List.length_cons, List.range'_succ, wpOpsIn, h0]
    unfold wpLIn at hh
    split
    · rename_i hw; rw [if_pos hw] at hh; exact Oper.wpIn_monoQ ih' hh
    · rename_i hw; rw [if_neg hw] at hh; exact ⟨fun f _ => hF f, ih' _ _ hh⟩

/-- The operations l of the region 'ops', one behind the other, from slots σ and owned H: in the end K. -/
def RS (C : Cx) (ds : List Deferred) (ops : Array Oper) (l : List Oper) (σ : Env) (H : List Chunk) (K : Env → List Chunk → Prop) : Prop :=
  ∀ a w, Sat C.N ds σ a → At C.W0 H w → wpLIn (fw C.r) C.P ops (QK C ds K) l a w

section
variable {C : Cx} {ds : List Deferred} {ops : Array Oper} {l : List Oper} {σ : Env} {H : List Chunk} {K : Env → List Chunk → Prop}
theorem rs_end (h : K σ H) : RS C ds ops [] σ H K := fun _ _ hs hw => ⟨σ, H, h, hs, hw⟩
theorem rs_op {d : Nat} {op : Op} {ty : TypeId} {pos : String} {aft : Array Edge} {g : Option (Nat × Bool)} (hg : wantV ops σ g = some true) (hd : Nat.blt d C.N = true)
    (h : OpR C ds ⟨some d, op, ty, pos, aft, g⟩ σ H fun v H' => RS C ds ops l ((d, v) :: σ) H' K) : RS C ds ops (⟨some d, op, ty, pos, aft, g⟩ :: l) σ H K := by
  intro a w hs hw
  unfold wpLIn
  rw [if_pos (wantV_spec hs hg)]
  exact h a w _ _ hs hw fun v H' w' hk hw' => hk _ _ (hs.put hd v) hw'
theorem rs_opN {op : Op} {ty : TypeId} {pos : String} {aft : Array Edge} {g : Option (Nat × Bool)} (hg : wantV ops σ g = some true)
    (h : OpR C ds ⟨none, op, ty, pos, aft, g⟩ σ H fun _ H' => RS C ds ops l σ H' K) : RS C ds ops (⟨none, op, ty, pos, aft, g⟩ :: l) σ H K := by
  intro a w hs hw
  unfold wpLIn
  rw [if_pos (wantV_spec hs hg)]
  exact h a w _ _ hs hw fun v H' w' hk hw' => hk _ _ hs hw'
theorem rs_ex {d : Nat} {op : Op} {ty : TypeId} {pos : String} {aft : Array Edge} {g : Option (Nat × Bool)} {v : Value} (hg : wantV ops σ g = some true) (he : Ex C.P (At C.W0 H) σ op v) (hd : Nat.blt d C.N = true)
    (h : RS C ds ops l ((d, v) :: σ) H K) : RS C ds ops (⟨some d, op, ty, pos, aft, g⟩ :: l) σ H K :=
  rs_op hg hd (Ex.opR he h)
theorem rs_skip {d : Nat} {op : Op} {ty : TypeId} {pos : String} {aft : Array Edge} {g : Option (Nat × Bool)} (hg : wantV ops σ g = some false) (hd : Nat.blt d C.N = true)
    (h : RS C ds ops l ((d, undef) :: σ) H K) : RS C ds ops (⟨some d, op, ty, pos, aft, g⟩ :: l) σ H K := by
  intro a w hs hw
  unfold wpLIn
  rw [if_neg (by rw [wantV_spec (o := ⟨some d, op, ty, pos, aft, g⟩) hs hg]; simp)]
  exact h _ _ (hs.put hd undef) hw
theorem rs_skipN {op : Op} {ty : TypeId} {pos : String} {aft : Array Edge} {g : Option (Nat × Bool)} (hg : wantV ops σ g = some false)
    (h : RS C ds ops l σ H K) : RS C ds ops (⟨none, op, ty, pos, aft, g⟩ :: l) σ H K := by
  intro a w hs hw
  unfold wpLIn
  rw [if_neg (by rw [wantV_spec (o := ⟨none, op, ty, pos, aft, g⟩) hs hg]; simp)]
  exact h _ _ hs hw
theorem rs_split {d : Nat} {b : Bool} (ht : b = true → RS C ds ops l ((d, .bool true) :: σ) H K) (hf : b = false → RS C ds ops l ((d, .bool false) :: σ) H K) : RS C ds ops l ((d, .bool b) :: σ) H K := by
  cases b
  · exact hf rfl
  · exact ht rfl
theorem rs_rw {d : Nat} {u v : Value} (e : u = v) (h : RS C ds ops l ((d, v) :: σ) H K) : RS C ds ops l ((d, u) :: σ) H K := e ▸ h
theorem rs_heap {H' : List Chunk} (e : ∀ w, At C.W0 H w → At C.W0 H' w) (h : RS C ds ops l σ H' K) : RS C ds ops l σ H K := fun a w hs hw => h a w hs (e w hw)
theorem rs_ex' {α : Type} {H' : α → List Chunk} (e : ∀ w, At C.W0 H w → ∃ x, At C.W0 (H' x) w) (h : ∀ x, RS C ds ops l σ (H' x) K) : RS C ds ops l σ H K := fun a w hs hw => let ⟨x, hx⟩ := e w hw; h x a w hs hx
theorem rs_mono {K' : Env → List Chunk → Prop} (h : RS C ds ops l σ H K) (hk : ∀ σ H, K σ H → K' σ H) : RS C ds ops l σ H K' := by
  intro a w hs hw
  have := h a w hs hw
  clear hs hw h
  induction l generalizing a w with
  | nil => obtain ⟨σ, H, k, x⟩ := this; exact ⟨σ, H, hk _ _ k, x⟩
  | cons o l ih =>
    unfold wpLIn at this ⊢
    split
    · rename_i hw; rw [if_pos hw] at this; exact Oper.wpIn_monoQ (fun a w => ih a w) this
    · rename_i hw; rw [if_neg hw] at this; exact ih _ _ this
end

/-! ### In whatever order -/
def readyD (ops : Array Oper) (done : List Nat) : List Nat :=
  (List.range ops.size).filter fun i => !done.contains i && ((ops[i]?).map (·.after.all fun e => !Region.binds .any e || done.contains e.on)).getD false

def opIn (F : Fence) (P : Program) (ops : Array Oper) (i : Nat) (X : Act → World → Prop) (a : Act) (w : World) : Prop :=
  match ops[i]? with
  | none => X a w
  | some o => if Region.wanted o (yielded ops a.tmps) then o.wpIn F 0 P a w X (fun _ _ _ => False) else X (a.put o.dst undef) w

theorem opIn_mono {F : Fence} {P : Program} {ops : Array Oper} {i : Nat} {X Y : Act → World → Prop} {a : Act} {w : World} (h : ∀ a w, X a w → Y a w) (hh : opIn F P ops i X a w) : opIn F P ops i Y a w := by
  unfold opIn at *
  cases ho : ops[i]? with
  | none => rw [ho] at hh; exact h _ _ hh
  | some o =>
    rw [ho] at hh
    simp only at hh ⊢
    split
    · rename_i hw; rw [if_pos hw] at hh; exact Oper.wpIn_monoQ h hh
    · rename_i hw; rw [if_neg hw] at hh; exact h _ _ hh

def predB (ops : Array Oper) (k i : Nat) : Bool := match ops[k]? with
  | some ok => ok.after.any (fun e => Region.binds .any e && e.on == i)
  | none => false
def ancL (ops : Array Oper) : Nat → List Nat → List Nat
  | 0, l => l
  | n + 1, l => ancL ops n ((List.range ops.size).filter fun i => l.contains i || l.any fun k => predB ops k i)
/-- All others come ahead of it, directly or through others. -/
def lastB (ops : Array Oper) (j : Nat) : Bool := (List.range ops.size).all fun i => (ancL ops ops.size [j]).contains i
/-- What is done is done behind all that it waits for. -/
def Closed (ops : Array Oper) (done : List Nat) : Prop := ∀ k ∈ done, ∀ i, predB ops k i = true → i ∈ done
theorem ancL_sub {ops : Array Oper} {done : List Nat} {j : Nat} (hc : Closed ops done) (hj : ∀ i, predB ops j i = true → i ∈ done) : ∀ (n : Nat) (l : List Nat), (∀ i ∈ l, i = j ∨ i ∈ done) → ∀ i ∈ ancL ops n l, i = j ∨ i ∈ done
  | 0, _, h => h
  | n + 1, l, h => ancL_sub hc hj n _ fun i hi => by
    rw [List.mem_filter] at hi
    have := hi.2
    simp only [Bool.or_eq_true, List.contains_iff_mem, List.any_eq_true] at this
    rcases this with hl | ⟨k, hk, hp⟩
    · exact h i hl
    · rcases h k hk with rfl | hd
      · exact .inr (hj i hp)
      · exact .inr (hc k hd i hp)
theorem lastB_spec {ops : Array Oper} {done : List Nat} {j i : Nat} (hc : Closed ops done) (hj : ∀ i, predB ops j i = true → i ∈ done) (h : lastB ops j = true) (hi : i < ops.size) (hne : i ≠ j) : i ∈ done := by
  unfold lastB at h
  rw [List.all_eq_true] at h
  have := h i (List.mem_range.2 hi)
  rw [List.contains_iff_mem] at this
  exact (ancL_sub hc hj ops.size [j] (by simp) i this).resolve_left hne
theorem predB_of {ops : Array Oper} {k : Nat} {ok : Oper} (hk : ops[k]? = some ok) {done : List Nat} (h : ∀ e ∈ ok.after, Region.binds .any e = true → e.on ∈ done) : ∀ i, predB ops k i = true → i ∈ done := by
  intro i hp
  unfold predB at hp
  rw [hk] at hp
  obtain ⟨e, he, hb⟩ := Array.any_eq_true'.1 hp
  simp only [Bool.and_eq_true, beq_iff_eq] at hb
  exact hb.2 ▸ h e he hb.1
def closedB (ops : Array Oper) (done : List Nat) : Bool := done.all fun k => match ops[k]? with
  | some ok => ok.after.all fun e => !Region.binds .any e || done.contains e.on
  | none => true
/-- Whatever order is picked; S holds behind every operation but the last. -/
def AnyS (F : Fence) (P : Program) (ops : Array Oper) (S : World → Prop) (X : Act → World → Prop) : Nat → List Nat → Act → World → Prop
  | 0, done, a, w => readyD ops done = [] ∧ X a w
  | fuel + 1, done, a, w => (readyD ops done = [] → X a w) ∧ ∀ i ∈ readyD ops done, opIn F P ops i (fun a' w' => (lastB ops i = true ∨ S w') ∧ AnyS F P ops S X fuel (i :: done) a' w') a w

structure Lst (n : Nat) (done : List Nat) (listed : Array Bool) : Prop where
  lo : ∀ j, listed.getD j false = done.contains j
  hi : ∀ j, j < n → listed.getD j true = done.contains j
theorem Lst.ready {ops : Array Oper} {done : List Nat} {listed : Array Bool} (h : Lst ops.size done listed) : Region.ready .any ops listed = readyD ops done := by
  unfold Region.ready readyD
  refine List.filter_congr fun i hi => ?_
  rw [h.hi i (List.mem_range.1 hi)]
  congr 2
  cases ops[i]? with
  | none => rfl
  | some o => simp only [Option.map_some, h.lo]
theorem Lst.set {n : Nat} {done : List Nat} {listed : Array Bool} (h : Lst n done listed) {i : Nat} (hi : i < n) (hs : listed.size = n) : Lst n (i :: done) (listed.setIfInBounds i true) := by
  refine ⟨fun j => ?_, fun j hj => ?_⟩
  · by_cases hij : i = j
    · subst hij; simp [hs, hi]
    · have := h.lo j
      rw [Array.getD_eq_getD_getElem?] at this ⊢
      rw [Array.getElem?_setIfInBounds_ne hij, this, List.contains_cons]
      simp [Ne.symm hij]
  · by_cases hij : i = j
    · subst hij; simp [hs, hi]
    · have := h.hi j hj
      rw [Array.getD_eq_getD_getElem?] at this ⊢
      rw [Array.getElem?_setIfInBounds_ne hij, this, List.contains_cons]
      simp [Ne.symm hij]
theorem mem_readyD {ops : Array Oper} {done : List Nat} {j : Nat} : j ∈ readyD ops done ↔
    j ∉ done ∧ ∃ o, ops[j]? = some o ∧ ∀ e ∈ o.after, Region.binds .any e = true → e.on ∈ done := by
  unfold readyD
  rw [List.mem_filter, List.mem_range]
  cases ho : ops[j]? with
  | none => simp
  | some o =>
    have hlt : j < ops.size := (Array.getElem?_eq_some_iff.1 ho).1
    simp only [hlt, true_and, Option.map_some, Option.getD_some, Bool.and_eq_true, Bool.not_eq_true', Array.all_eq_true_iff_forall_mem, Bool.or_eq_true, Option.some.injEq, exists_eq_left']
    constructor
    · rintro ⟨h0, h⟩
      refine ⟨by simpa using h0, fun e he hb => ?_⟩
      have := (h e he).resolve_left (by simp [hb])
      simpa using this
    · rintro ⟨h0, h⟩
      refine ⟨by simpa using h0, fun e he => ?_⟩
      cases hb : Region.binds .any e
      · exact .inl rfl
      · exact .inr (by simpa using h e he hb)

theorem AnyS.sound {F : Fence} (hF : ∀ f, F.fn f) {P : Program} {ops : Array Oper} {S : World → Prop} {X : Act → World → Prop} {Q : Exit → Act → World → Prop} (hQ : ∀ a w, X a w → Q .normal a w) :
    ∀ (fuel : Nat) (done : List Nat) (listed : Array Bool) (a : Act) (w : World), Lst ops.size done listed → listed.size = ops.size → AnyS F P ops S X fuel done a w → wpAnyIn F 0 P .any ops Q fuel listed a w
  | 0, done, listed, a, w, hl, _, h => ⟨by rw [hl.ready]; exact h.1, hQ _ _ h.2⟩
  | fuel + 1, done, listed, a, w, hl, hs, h => by
    refine ⟨fun e => hQ _ _ (h.1 (by rw [← hl.ready]; exact e)), fun i hi => ?_⟩
    rw [hl.ready] at hi
    have hh := h.2 i hi
    obtain ⟨_, o, ho, _⟩ := mem_readyD.1 hi
    have hlt : i < ops.size := (Array.getElem?_eq_some_iff.1 ho).1
    have step : ∀ a' w', ((lastB ops i = true ∨ S w') ∧ AnyS F P ops S X fuel (i :: done) a' w') → wpAnyIn F 0 P .any ops Q fuel (listed.setIfInBounds i true) a' w' :=
      fun a' w' x => AnyS.sound hF hQ fuel (i :: done) _ a' w' (hl.set hlt hs) (by simp [hs]) x.2
    unfold opIn at hh
    unfold wpOpIn
    rw [ho] at hh ⊢
    simp only at hh ⊢
    split
    · rename_i hw; rw [if_pos hw] at hh; exact Oper.wpIn_monoQ step hh
    · rename_i hw; rw [if_neg hw] at hh; exact ⟨fun f _ => hF f, step _ _ hh⟩

theorem wpIn_of_AnyS {F : Fence} (hF : ∀ f, F.fn f) {P : Program} {ops : Array Oper} {S : World → Prop} {X : Act → World → Prop} {id : Nat} {Q : Exit → Act → World → Prop} (hQ : ∀ a w, X a w → Q .normal a w) {a : Act} {w : World}
    (hm : P.follows .mixedOrders = true) (h : AnyS F P ops S X ops.size [] a { w with drawn := w.drawn + 1 }) : (Code.region id ops true).wpIn F 0 P Q a w := by
  refine wpIn_region_any hm (AnyS.sound hF hQ _ _ _ _ _ ⟨fun j => ?_, fun j hj => ?_⟩ (by simp) h)
  · rw [Array.getD_eq_getD_getElem?]
    by_cases hj : j < ops.size
    · simp [hj]
    · simp [hj]
  · rw [Array.getD_eq_getD_getElem?]
    simp [hj]

/-- In every world that meets S operation o leaves v and changes nothing. -/
def Yl (P : Program) (ops : Array Oper) (S : World → Prop) (o : Oper) (v : Value) (a : Act) : Prop :=
  (Region.wanted o (yielded ops a.tmps) = true ∧ ∀ w, S w → (execOp a.eval o).run P w = .ok (.value v) w) ∨ (Region.wanted o (yielded ops a.tmps) = false ∧ v = undef)

theorem Yl.put {P : Program} {ops : Array Oper} {S : World → Prop} {o : Oper} {v : Value} {a : Act} (hy : Yl P ops S o v a) (hs : ∀ cs b, o.op ≠ .select cs b) (d : Option Tmp) (u : Value) (h : ∀ x, d = some x → x ∉ o.looksAt ops) : Yl P ops S o v (a.put d u) := by
  unfold Yl at *
  rw [wanted_put o a d u h, execOp_put o hs a d u h]
  exact hy

theorem opIn_yl {F : Fence} {P : Program} {ops : Array Oper} {S : World → Prop} (hF : ∀ f, F.fn f) {i : Nat} {o : Oper} {v : Value} {a : Act} {w : World} {X : Act → World → Prop} (hi : ops[i]? = some o) (hd : ∀ c, o.op ≠ .defer c)
    (hy : Yl P ops S o v a) (hS : S w) (h : X (a.put o.dst v) w) : opIn F P ops i X a w := by
  unfold opIn
  rw [hi]
  simp only
  rcases hy with ⟨hw, hv⟩ | ⟨hw, rfl⟩
  · rw [if_pos hw]
    refine ⟨fun f _ => hF f, ?_⟩
    rw [Oper.semAt_eq _ _ _ hd, hv w hS]
    exact h
  · rw [if_neg (by simp [hw])]; exact h

theorem semAt_put (ro : Option Nat) (o : Oper) (hs : ∀ cs b, o.op ≠ .select cs b) (hd : ∀ c, o.op ≠ .defer c) (a : Act) (d : Option Tmp) (u : Value) {ops : Array Oper} (h : ∀ x, d = some x → x ∉ o.looksAt ops) :
    o.semAt ro (a.put d u).eval = o.semAt ro a.eval := by
  rw [Oper.semAt_eq _ _ _ hd, Oper.semAt_eq _ _ _ hd, execOp_put o hs a d u h]

/-- Another operation, apart from it, does not mind that v is already there. -/
theorem opIn_put {F : Fence} (hF : ∀ f, F.fn f) {P : Program} {ops : Array Oper} {S : World → Prop} {j : Nat} {oi oj : Oper} {v : Value} (hj : ops[j]? = some oj) (hap : oi.apart ops oj = true)
    (hsi : ∀ cs b, oi.op ≠ .select cs b) (hsj : ∀ cs b, oj.op ≠ .select cs b) (hdj : ∀ c, oj.op ≠ .defer c) {X : Act → World → Prop} {a : Act} {w : World}
    (hy : Yl P ops S oi v a) (h : opIn F P ops j X (a.put oi.dst v) w) : opIn F P ops j (fun a' w' => Yl P ops S oi v a' ∧ X (a'.put oi.dst v) w') a w := by
  obtain ⟨h1, h2, h3⟩ := Oper.apart_spec hap
  unfold opIn at *
  rw [hj] at h ⊢
  simp only at h ⊢
  rw [wanted_put oj a oi.dst v h1] at h
  have keep : ∀ u, Yl P ops S oi v (a.put oj.dst u) := fun u => hy.put hsi _ _ h3
  split
  · rename_i hw
    rw [if_pos hw] at h
    obtain ⟨_, h⟩ := h
    refine ⟨fun f _ => hF f, ?_⟩
    rw [semAt_put F.round oj hsj hdj a oi.dst v h1] at h
    generalize (oj.semAt F.round a.eval).run P w = r at *
    cases r with
    | ok x w' =>
      cases x <;> simp only [Oper.uponIn] at h ⊢
      case value u => exact ⟨keep u, by rw [← Act.put_comm a v u h2]; exact h⟩
      case skip => exact ⟨keep _, by rw [← Act.put_comm a v undef h2]; exact h⟩
      case defer d =>
        have hy' : Yl P ops S oi v { a with defers := d :: a.defers } := hy
        refine ⟨hy'.put hsi _ _ h3, ?_⟩
        rw [← Act.put_comm _ v undef h2, ← Act.put_defers]
        exact h
      case enter f args =>
        refine ⟨h.1, h.2.mono fun e w'' he => ?_⟩
        cases e with
        | returned u => exact ⟨keep u, by rw [← Act.put_comm a v u h2]; exact he⟩
        | panicked c => exact he
        | outgrown => exact he
      case row => exact ⟨h.1, h.2.mono fun u w'' he => ⟨keep u, by rw [← Act.put_comm a v u h2]; exact he⟩⟩
      case round =>
        refine ⟨h.1, h.2.mono fun e w'' he => ?_⟩
        cases e with
        | returned u => exact ⟨keep u, by rw [← Act.put_comm a v u h2]; exact he⟩
        | panicked c => exact he
        | outgrown => exact he
    | halt x w' => cases x <;> simp only [Oper.uponIn] at h ⊢
  · rename_i hw
    rw [if_neg hw] at h
    exact ⟨keep _, by rw [← Act.put_comm a v undef h2]; exact h⟩

theorem AnyS.cast {F : Fence} {P : Program} {ops : Array Oper} {S : World → Prop} {X : Act → World → Prop} : ∀ (fuel : Nat) {d d' : List Nat} {a : Act} {w : World}, (∀ j, j ∈ d ↔ j ∈ d') → AnyS F P ops S X fuel d a w → AnyS F P ops S X fuel d' a w := by
  have hr : ∀ {d d' : List Nat}, (∀ j, j ∈ d ↔ j ∈ d') → readyD ops d = readyD ops d' := fun {d d'} h => by
    have hc : ∀ j, d.contains j = d'.contains j := fun j => by rw [Bool.eq_iff_iff]; simpa using h j
    unfold readyD
    simp only [hc]
  intro fuel
  induction fuel with
  | zero => intro d d' a w h x; exact ⟨by rw [← hr h]; exact x.1, x.2⟩
  | succ fuel ih =>
    intro d d' a w h x
    refine ⟨fun e => x.1 (by rw [hr h]; exact e), fun i hi => ?_⟩
    have h' : ∀ j, j ∈ i :: d ↔ j ∈ i :: d' := fun j => by simp only [List.mem_cons, h j]
    refine opIn_mono (fun a' w' y => ⟨y.1, ih h' y.2⟩) (x.2 i (by rw [hr h]; exact hi))

theorem AnyS.first {F : Fence} (hF : ∀ f, F.fn f) {P : Program} {ops : Array Oper} {S : World → Prop} {X : Act → World → Prop} {i : Nat} {oi : Oper} {v : Value} (hi : ops[i]? = some oi)
    (hsel : ∀ (j : Nat) (o : Oper), ops[j]? = some o → (∀ cs b, o.op ≠ .select cs b) ∧ ∀ c, o.op ≠ .defer c) :
    ∀ (fuel : Nat) (done : List Nat) (a : Act) (w : World),
      (∀ j oj, ops[j]? = some oj → j ≠ i → j ∉ done → (∀ e ∈ oj.after, Region.binds .any e = true → e.on ≠ i) → oi.apart ops oj = true) →
      Closed ops done → i ∈ readyD ops done → Yl P ops S oi v a → S w → AnyS F P ops S X fuel (i :: done) (a.put oi.dst v) w → AnyS F P ops S X (fuel + 1) done a w := by
  have mono : ∀ {done : List Nat} {j : Nat}, j ∈ readyD ops done → j ≠ i → j ∈ readyD ops (i :: done) := fun {done j} hj hne => by
    rw [mem_readyD] at *
    obtain ⟨h0, o, ho, hall⟩ := hj
    exact ⟨by simp [hne, h0], o, ho, fun e he hb => by simp [hall e he hb]⟩
  intro fuel
  induction fuel with
  | zero =>
    intro done a w _ _ hr hy hS x
    refine ⟨fun h => (by rw [h] at hr; cases hr), fun j hj => ?_⟩
    by_cases hji : j = i
    · subst hji; exact opIn_yl hF hi (hsel _ _ hi).2 hy hS ⟨.inr hS, x⟩
    · have := mono hj hji; rw [x.1] at this; cases this
  | succ fuel ih =>
    intro done a w hfree hcl hr hy hS x
    refine ⟨fun h => (by rw [h] at hr; cases hr), fun j hj => ?_⟩
    by_cases hji : j = i
    · subst hji; exact opIn_yl hF hi (hsel _ _ hi).2 hy hS ⟨.inr hS, x⟩
    · have h1 := x.2 j (mono hj hji)
      obtain ⟨hjd, oj, hoj, hall⟩ := mem_readyD.1 hj
      have hni := (mem_readyD.1 hr).1
      have hnot : ∀ e ∈ oj.after, Region.binds .any e = true → e.on ≠ i := fun e he hb heq => hni (heq ▸ hall e he hb)
      have h2 := opIn_put hF hoj (hfree j oj hoj hji hjd hnot) (hsel _ _ hi).1 (hsel _ _ hoj).1 (hsel _ _ hoj).2 hy h1
      refine opIn_mono (fun a' w' h3 => ?_) h2
      obtain ⟨h31, h32, h33⟩ := h3
      have hSw : S w' := by
        rcases h32 with h32 | h32
        · exact absurd (lastB_spec hcl (predB_of hoj hall) h32 (Array.getElem?_eq_some_iff.1 hi).1 (fun h => hji h.symm)) hni
        · exact h32
      refine ⟨.inr hSw, ih (j :: done) a' w' ?_ ?_ ?_ h31 hSw (AnyS.cast fuel ?_ h33)⟩
      · intro k ok hk hki hkd hno
        exact hfree k ok hk hki (fun h => hkd (by simp [h])) hno
      · intro k hk i' hp
        rcases List.mem_cons.1 hk with rfl | hk
        · exact List.mem_cons_of_mem _ (predB_of hoj hall i' hp)
        · exact List.mem_cons_of_mem _ (hcl k hk i' hp)
      · rw [mem_readyD] at hr ⊢
        obtain ⟨h0, o, ho, hall'⟩ := hr
        exact ⟨by simp [h0]; exact fun h => hji h.symm, o, ho, fun e he hb => by simp [hall' e he hb]⟩
      · intro k; simp only [List.mem_cons]; constructor <;> (rintro (h | h | h) <;> simp [h])

/-- What a take asks of the region, as one Bool. -/
def takeB (ops : Array Oper) (done : List Nat) (i : Nat) : Bool :=
  closedB ops done && ((readyD ops done).contains i && (match ops[i]? with
  | none => false
  | some oi => (List.range ops.size).all fun j => j == i || done.contains j || match ops[j]? with
      | some oj => oj.after.any (fun e => Region.binds .any e && e.on == i) || oi.apart ops oj
      | none => true))
def calmB (ops : Array Oper) : Bool := ops.all fun o => match o.op with | .select .. => false | .defer .. => false | _ => true
theorem calmB_spec {ops : Array Oper} (h : calmB ops = true) (j : Nat) (o : Oper) (ho : ops[j]? = some o) : (∀ cs b, o.op ≠ .select cs b) ∧ ∀ c, o.op ≠ .defer c := by
  have := Array.all_eq_true_iff_forall_mem.1 h o (Array.mem_of_getElem? ho)
  constructor
  · intro cs b e; simp [e] at this
  · intro c e; simp [e] at this
theorem takeB_spec {ops : Array Oper} {done : List Nat} {i : Nat} {oi : Oper} (hi : ops[i]? = some oi) (h : takeB ops done i = true) : Closed ops done ∧ i ∈ readyD ops done ∧
    ∀ j oj, ops[j]? = some oj → j ≠ i → j ∉ done → (∀ e ∈ oj.after, Region.binds .any e = true → e.on ≠ i) → oi.apart ops oj = true := by
  unfold takeB at h
  rw [hi] at h
  simp only [Bool.and_eq_true, List.all_eq_true, List.mem_range] at h
  refine ⟨fun k hk i' hp => ?_, by simpa using h.2.1, fun j oj hj hne hjd hno => ?_⟩
  · have h0 := h.1
    unfold closedB at h0
    rw [List.all_eq_true] at h0
    have h2 := h0 k hk
    unfold predB at hp
    cases ho : ops[k]? with
    | none => rw [ho] at hp; cases hp
    | some ok =>
      rw [ho] at hp h2
      obtain ⟨e, he, hb⟩ := Array.any_eq_true'.1 hp
      simp only [Bool.and_eq_true, beq_iff_eq] at hb
      have h3 := Array.all_eq_true_iff_forall_mem.1 h2 e he
      rw [hb.1, hb.2] at h3
      simpa using h3
  have h1 := h.2.2 j (Array.getElem?_eq_some_iff.1 hj).1
  simp only [hj, Bool.or_eq_true, beq_iff_eq, hne, false_or] at h1
  rcases h1 with h1 | h1 | h1
  · exact absurd (by simpa using h1) hjd
  · obtain ⟨e, he, hb⟩ := Array.any_eq_true'.1 h1
    simp only [Bool.and_eq_true, beq_iff_eq] at hb
    exact absurd hb.2 (hno e he hb.1)
  · exact h1

/-- Those not in 'done', in whatever order, from slots σ and owned H. -/
def RA (C : Cx) (ds : List Deferred) (ops : Array Oper) (S : World → Prop) (fuel : Nat) (done : List Nat) (σ : Env) (H : List Chunk) (K : Env → List Chunk → Prop) : Prop :=
  ∀ a w, Sat C.N ds σ a → At C.W0 H w → AnyS (fw C.r) C.P ops S (QK C ds K) fuel done a w

section
variable {C : Cx} {ds : List Deferred} {ops : Array Oper} {S : World → Prop} {fuel : Nat} {done : List Nat} {σ : Env} {H : List Chunk} {K : Env → List Chunk → Prop}
theorem ra_end (hr : readyD ops done = []) (h : K σ H) : RA C ds ops S fuel done σ H K := fun a w hs hw => by
  cases fuel with
  | zero => exact ⟨hr, σ, H, h, hs, hw⟩
  | succ n => exact ⟨fun _ => ⟨σ, H, h, hs, hw⟩, by rw [hr]; simp⟩
theorem ra_take (i : Nat) {d : Nat} {op : Op} {ty : TypeId} {pos : String} {aft : Array Edge} {g : Option (Nat × Bool)} {v : Value} (hi : ops[i]? = some ⟨some d, op, ty, pos, aft, g⟩) (hc : calmB ops = true) (hb : takeB ops done i = true)
    (hg : wantV ops σ g = some true) (he : Ex C.P S σ op v) (hd : Nat.blt d C.N = true) (hS : ∀ w, At C.W0 H w → S w)
    (h : RA C ds ops S fuel (i :: done) ((d, v) :: σ) H K) : RA C ds ops S (fuel + 1) done σ H K := fun a w hs hw => by
  obtain ⟨h0, h1, h2⟩ := takeB_spec hi hb
  exact AnyS.first (fun f => trivial) hi (calmB_spec hc) fuel done a w h2 h0 h1
    (.inl ⟨wantV_spec (o := ⟨some d, op, ty, pos, aft, g⟩) hs hg, fun w' hw' => he.run _ (fun x u e => hs.val e) _ rfl w' hw'⟩) (hS w hw) (h _ _ (hs.put hd v) hw)
theorem ra_skip (i : Nat) {d : Nat} {op : Op} {ty : TypeId} {pos : String} {aft : Array Edge} {g : Option (Nat × Bool)} (hi : ops[i]? = some ⟨some d, op, ty, pos, aft, g⟩) (hc : calmB ops = true) (hb : takeB ops done i = true)
    (hg : wantV ops σ g = some false) (hd : Nat.blt d C.N = true) (hS : ∀ w, At C.W0 H w → S w)
    (h : RA C ds ops S fuel (i :: done) ((d, undef) :: σ) H K) : RA C ds ops S (fuel + 1) done σ H K := fun a w hs hw => by
  obtain ⟨h0, h1, h2⟩ := takeB_spec hi hb
  exact AnyS.first (fun f => trivial) hi (calmB_spec hc) fuel done a w h2 h0 h1
    (.inr ⟨wantV_spec (o := ⟨some d, op, ty, pos, aft, g⟩) hs hg, rfl⟩) (hS w hw) (h _ _ (hs.put hd undef) hw)
/-- Whichever comes up next. -/
def Each (C : Cx) (ds : List Deferred) (ops : Array Oper) (S : World → Prop) (fuel : Nat) (done : List Nat) (σ : Env) (H : List Chunk) (K : Env → List Chunk → Prop) : List Nat → Prop
  | [] => True
  | i :: is => (∀ a w, Sat C.N ds σ a → At C.W0 H w → opIn (fw C.r) C.P ops i (fun a' w' => (lastB ops i = true ∨ S w') ∧ AnyS (fw C.r) C.P ops S (QK C ds K) fuel (i :: done) a' w') a w) ∧ Each C ds ops S fuel done σ H K is
theorem ra_all {rs : List Nat} (hr : readyD ops done = rs) (hne : rs.isEmpty = false) (h : Each C ds ops S fuel done σ H K rs) : RA C ds ops S (fuel + 1) done σ H K := fun a w hs hw => by
  refine ⟨fun e => ?_, fun i hi => ?_⟩
  · rw [hr] at e; subst e; cases hne
  · rw [hr] at hi
    clear hr hne
    induction rs with
    | nil => cases hi
    | cons j js ih =>
      rcases List.mem_cons.1 hi with rfl | hi
      · exact h.1 a w hs hw
      · exact ih h.2 hi
theorem each_op {i : Nat} {is : List Nat} {d : Nat} {op : Op} {ty : TypeId} {pos : String} {aft : Array Edge} {g : Option (Nat × Bool)} (hi : ops[i]? = some ⟨some d, op, ty, pos, aft, g⟩) (hg : wantV ops σ g = some true) (hd : Nat.blt d C.N = true)
    (h : OpR C ds ⟨some d, op, ty, pos, aft, g⟩ σ H fun v H' => (lastB ops i = true ∨ ∀ w, At C.W0 H' w → S w) ∧ RA C ds ops S fuel (i :: done) ((d, v) :: σ) H' K) (hrest : Each C ds ops S fuel done σ H K is) : Each C ds ops S fuel done σ H K (i :: is) := by
  refine ⟨fun a w hs hw => ?_, hrest⟩
  unfold opIn
  rw [hi]
  simp only
  rw [if_pos (wantV_spec (o := ⟨some d, op, ty, pos, aft, g⟩) hs hg)]
  exact h a w _ _ hs hw fun v H' w' hk hw' => ⟨hk.1.imp id (fun h => h w' hw'), hk.2 _ _ (hs.put hd v) hw'⟩
theorem each_opN {i : Nat} {is : List Nat} {op : Op} {ty : TypeId} {pos : String} {aft : Array Edge} {g : Option (Nat × Bool)} (hi : ops[i]? = some ⟨none, op, ty, pos, aft, g⟩) (hg : wantV ops σ g = some true)
    (h : OpR C ds ⟨none, op, ty, pos, aft, g⟩ σ H fun _ H' => (lastB ops i = true ∨ ∀ w, At C.W0 H' w → S w) ∧ RA C ds ops S fuel (i :: done) σ H' K) (hrest : Each C ds ops S fuel done σ H K is) : Each C ds ops S fuel done σ H K (i :: is) := by
  refine ⟨fun a w hs hw => ?_, hrest⟩
  unfold opIn
  rw [hi]
  simp only
  rw [if_pos (wantV_spec (o := ⟨none, op, ty, pos, aft, g⟩) hs hg)]
  exact h a w _ _ hs hw fun v H' w' hk hw' => ⟨hk.1.imp id (fun h => h w' hw'), hk.2 _ _ hs hw'⟩
theorem each_nil : Each C ds ops S fuel done σ H K [] := trivial
theorem ra_split {d : Nat} {b : Bool} (ht : b = true → RA C ds ops S fuel done ((d, .bool true) :: σ) H K) (hf : b = false → RA C ds ops S fuel done ((d, .bool false) :: σ) H K) : RA C ds ops S fuel done ((d, .bool b) :: σ) H K := by
  cases b
  · exact hf rfl
  · exact ht rfl
theorem ra_rw {d : Nat} {u v : Value} (e : u = v) (h : RA C ds ops S fuel done ((d, v) :: σ) H K) : RA C ds ops S fuel done ((d, u) :: σ) H K := e ▸ h
theorem ra_heap {H' : List Chunk} (e : ∀ w, At C.W0 H w → At C.W0 H' w) (h : RA C ds ops S fuel done σ H' K) : RA C ds ops S fuel done σ H K := fun a w hs hw => h a w hs (e w hw)
end

end Go.Rost
