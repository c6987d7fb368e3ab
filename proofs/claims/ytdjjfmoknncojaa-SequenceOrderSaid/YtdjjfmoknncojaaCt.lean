/- Code: sequences, branches, blocks, loops; calls and their contracts. -/
import Derived.Test.YtdjjfmoknncojaaRg
namespace Go.Rost
open Go Go.RowKit

/-- A row that is owned, found among the owned. -/
class RdC (S : World → Prop) (b : Nat) (cs : outParam (Array Value)) : Prop where
  rd : RdBlk S b cs
instance RdC.head {W0 : World} {b : Nat} {cs : Array Value} {T : TypeId} {fz : Nat × Nat} {H : List Chunk} : RdC (At W0 (Blk b (.cells cs T fz) :: H)) b cs :=
  ⟨fun _ hw => ⟨T, fz, hw.read⟩⟩
instance (priority := low) RdC.tail {W0 : World} {b : Nat} {cs : Array Value} {c : Chunk} {H : List Chunk} [h : RdC (At W0 H) b cs] : RdC (At W0 (c :: H)) b cs :=
  ⟨fun w hw => h.rd w hw.drop⟩

def CT (C : Cx) (ds : List Deferred) (c : Code) (σ : Env) (H : List Chunk) (Q : Exit → Act → World → Prop) : Prop :=
  ∀ a w, Sat C.N ds σ a → At C.W0 H w → c.wpIn (fw C.r) 0 C.P Q a w
def QE (C : Cx) (ds : List Deferred) (Q : Exit → Act → World → Prop) (e : Exit) (σ : Env) (H : List Chunk) : Prop :=
  ∀ a w, Sat C.N ds σ a → At C.W0 H w → Q e a w
def Th (C : Cx) (y : Code) (Q : Exit → Act → World → Prop) : Exit → Act → World → Prop := Exit.then (y.wpIn (fw C.r) 0 C.P Q) Q

section
variable {C : Cx} {ds : List Deferred} {σ : Env} {H : List Chunk} {Q : Exit → Act → World → Prop} {x y : Code}
theorem ct_seq (h : CT C ds x σ H (Th C y Q)) : CT C ds (.seq x y) σ H Q := fun a w hs hw => wpIn_seq (h a w hs hw)
theorem ct_region {id : Nat} {ops : List Oper} (h : RS C ds ops.toArray ops σ H (QE C ds Q .normal)) : CT C ds (.region id ops.toArray false) σ H Q := fun a w hs hw => by
  refine wpIn_region ?_
  rw [List.range_eq_range', ← Array.length_toList]
  exact wpOpsIn_of_list (fun f => trivial) (X := QK C ds (QE C ds Q .normal)) (fun a w ⟨σ', H', hk, hs', hw'⟩ => hk a w hs' hw') ops 0 (by simp) a w (h a w hs hw)
theorem ct_draw {id : Nat} {ops : List Oper} (hm : C.P.follows .mixedOrders = true) (S : World → Prop) (h : RA C ds ops.toArray S ops.toArray.size [] σ H (QE C ds Q .normal)) : CT C ds (.region id ops.toArray true) σ H Q := fun a _w hs hw =>
  wpIn_of_AnyS (fun _f => trivial) (X := QK C ds (QE C ds Q .normal)) (fun a w ⟨_σ', _H', hk, hs', hw'⟩ => hk a w hs' hw') hm (h a _ hs (hw.drew _))
theorem ct_draw0 {id : Nat} {ops : List Oper} (hm : C.P.follows .mixedOrders = true) (h : RA C ds ops.toArray (At C.W0 H) ops.toArray.size [] σ H (QE C ds Q .normal)) : CT C ds (.region id ops.toArray true) σ H Q := ct_draw hm _ h
theorem ct_draw1 {c : Chunk} {id : Nat} {ops : List Oper} (hm : C.P.follows .mixedOrders = true) (h : RA C ds ops.toArray (At C.W0 H) ops.toArray.size [] σ (c :: H) (QE C ds Q .normal)) : CT C ds (.region id ops.toArray true) σ (c :: H) Q := ct_draw hm _ h
theorem ct_cond {c : Operand} {b : Bool} (hc : σ.val c = some (.bool b)) (ht : b = true → CT C ds x σ H Q) (hf : b = false → CT C ds y σ H Q) : CT C ds (.cond c x y) σ H Q := fun a w hs hw => by
  refine wpIn_cond (hs.val hc) ?_
  cases b
  · exact hf rfl a w hs hw
  · exact ht rfl a w hs hw
theorem ct_block {id : Nat} (h : CT C ds x σ H (Exit.inBlock id Q)) : CT C ds (.block id x) σ H Q := fun a w hs hw => wpIn_block (h a w hs hw)
theorem ct_exit {id : Nat} (h : QE C ds Q (.exit id) σ H) : CT C ds (.exit id) σ H Q := fun a w hs hw => wpIn_exit (h a w hs hw)
theorem ct_ret (h : QE C ds Q .ret σ H) : CT C ds .ret σ H Q := fun a w hs hw => wpIn_ret (h a w hs hw)
theorem ct_skip (h : QE C ds Q .normal σ H) : CT C ds .skip σ H Q := fun a w hs hw => wpIn_skip (h a w hs hw)
theorem ct_label {l : Nat} (h : QE C ds Q .normal σ H) : CT C ds (.label l) σ H Q := fun a w hs hw => wpIn_label (h a w hs hw)
theorem ct_goto {l : Nat} (h : QE C ds Q (.goto l) σ H) : CT C ds (.goto l) σ H Q := fun a w hs hw => wpIn_goto (h a w hs hw)
theorem qe_then (h : CT C ds y σ H Q) : QE C ds (Th C y Q) .normal σ H := h
theorem qe_then_ret (h : QE C ds Q .ret σ H) : QE C ds (Th C y Q) .ret σ H := h
theorem qe_then_exit {id : Nat} (h : QE C ds Q (.exit id) σ H) : QE C ds (Th C y Q) (.exit id) σ H := h
theorem qe_block (id : Nat) (h : QE C ds Q .normal σ H) : QE C ds (Exit.inBlock id Q) .normal σ H := h
theorem qe_block_ret (id : Nat) (h : QE C ds Q .ret σ H) : QE C ds (Exit.inBlock id Q) .ret σ H := h
theorem qe_block_exit {id : Nat} (h : QE C ds Q .normal σ H) : QE C ds (Exit.inBlock id Q) (.exit id) σ H := fun a w hs hw => by simp only [Exit.inBlock, if_pos]; exact h a w hs hw
theorem qe_block_exit_ne {id id' : Nat} (hne : Nat.beq id' id = false) (h : QE C ds Q (.exit id') σ H) : QE C ds (Exit.inBlock id Q) (.exit id') σ H := fun a w hs hw => by
  have : id' ≠ id := fun e => by subst e; rw [Nat.beq_refl] at hne; cases hne
  simp only [Exit.inBlock, if_neg this]; exact h a w hs hw
theorem ct_heap {H' : List Chunk} (e : ∀ w, At C.W0 H w → At C.W0 H' w) (h : CT C ds x σ H' Q) : CT C ds x σ H Q := fun a w hs hw => h a w hs (e w hw)
theorem ct_ex {α : Type} {H' : α → List Chunk} (e : ∀ w, At C.W0 H w → ∃ z, At C.W0 (H' z) w) (h : ∀ z, CT C ds x σ (H' z) Q) : CT C ds x σ H Q := fun a w hs hw => let ⟨z, hz⟩ := e w hw; h z a w hs hz
theorem ct_ex3 {α β γ : Type} {H' : α → β → γ → List Chunk} (e : ∀ w, At C.W0 H w → ∃ x y z, At C.W0 (H' x y z) w) (h : ∀ u y z, CT C ds x σ (H' u y z) Q) : CT C ds x σ H Q := fun a w hs hw => let ⟨u, y, z, hz⟩ := e w hw; h u y z a w hs hz
theorem ct_pr {p : Prop} (e : ∀ w, At C.W0 H w → p) (h : p → CT C ds x σ H Q) : CT C ds x σ H Q := fun a w hs hw => h (e w hw) a w hs hw
theorem ct_sub {τ : Env} (hs : Env.sub τ σ) (h : CT C ds x τ H Q) : CT C ds x σ H Q := fun a w hs' hw => h a w (hs'.sub hs) hw
theorem qe_heap {e : Exit} {H' : List Chunk} (hh : ∀ w, At C.W0 H w → At C.W0 H' w) (h : QE C ds Q e σ H') : QE C ds Q e σ H := fun a w hs hw => h a w hs (hh w hw)
theorem qe_sub {e : Exit} {τ : Env} (hs : Env.sub τ σ) (h : QE C ds Q e τ H) : QE C ds Q e σ H := fun a w hs' hw => h a w (hs'.sub hs) hw
theorem ct_mono {Q' : Exit → Act → World → Prop} (h : CT C ds x σ H Q) (hq : ∀ e a w, Q e a w → Q' e a w) : CT C ds x σ H Q' := fun a w hs hw => wpIn_mono (h a w hs hw) hq

/-- The ways meet again: what holds where x ends normally. -/
def Mid (C : Cx) (ds : List Deferred) (M : Env → List Chunk → Prop) (Q : Exit → Act → World → Prop) : Exit → Act → World → Prop
  | .normal, a, w => QK C ds M a w
  | e, a, w => Q e a w
theorem ct_meet {M : Env → List Chunk → Prop} (h : CT C ds x σ H (Mid C ds M Q)) (hk : ∀ σ' H', M σ' H' → CT C ds y σ' H' Q) : CT C ds (.seq x y) σ H Q := fun a w hs hw => by
  refine wpIn_seq (wpIn_mono (h a w hs hw) ?_)
  intro e a' w' he
  cases e <;> first | (obtain ⟨σ', H', hm, hs', hw'⟩ := he; exact hk σ' H' hm a' w' hs' hw') | exact he
theorem qe_mid {M : Env → List Chunk → Prop} {τ : Env} {H' : List Chunk} (h : M τ H') (hs : Env.sub τ σ) (hh : ∀ w, At C.W0 H w → At C.W0 H' w) : QE C ds (Mid C ds M Q) .normal σ H := fun _a w hs' hw => ⟨τ, H', h, hs'.sub hs, hh w hw⟩
theorem qe_mid_ret {M : Env → List Chunk → Prop} (h : QE C ds Q .ret σ H) : QE C ds (Mid C ds M Q) .ret σ H := h
theorem qe_mid_exit {M : Env → List Chunk → Prop} {id : Nat} (h : QE C ds Q (.exit id) σ H) : QE C ds (Mid C ds M Q) (.exit id) σ H := h

theorem least (p : Nat → Prop) (h : ∃ n, p n) : ∃ n, p n ∧ ∀ k, p k → n ≤ k := by
  obtain ⟨n, hn⟩ := h
  induction n using Nat.strongRecOn with
  | _ n ih =>
    by_cases hk : ∃ k, k < n ∧ p k
    · obtain ⟨k, hk, hp⟩ := hk; exact ih k hk hp
    · exact ⟨n, hn, fun k hp => Nat.le_of_not_lt fun hlt => hk ⟨k, hlt, hp⟩⟩
open Classical in
noncomputable def leastOf (p : Nat → Prop) : Nat := if h : ∃ n, p n then Classical.choose (least p h) else 0
theorem leastOf_spec {p : Nat → Prop} (h : ∃ n, p n) : p (leastOf p) ∧ ∀ k, p k → leastOf p ≤ k := by
  unfold leastOf; rw [dif_pos h]; exact Classical.choose_spec (least p h)
/-- A loop: what holds at each round's head, by a ghost z. -/
def Lp {ζ : Type} (C : Cx) (ds : List Deferred) (I : ζ → Prop) (τ : ζ → Env) (G : ζ → List Chunk) (μ : ζ → Nat) (m : Nat) (Q : Exit → Act → World → Prop) : Exit → Act → World → Prop
  | .normal, a, w => ∃ z, I z ∧ μ z < m ∧ Sat C.N ds (τ z) a ∧ At C.W0 (G z) w
  | e, a, w => Q e a w
theorem ct_loop {ζ : Type} (I : ζ → Prop) (τ : ζ → Env) (G : ζ → List Chunk) (μ : ζ → Nat) (z0 : ζ) (h0 : I z0) (hs : Env.sub (τ z0) σ) (hh : ∀ w, At C.W0 H w → At C.W0 (G z0) w)
    (round : ∀ z, I z → CT C ds x (τ z) (G z) (Lp C ds I τ G μ (μ z) Q)) : CT C ds (.loop x) σ H Q := by
  intro a w hs' hw
  refine wpIn_loop (fun a w => ∃ n z, μ z = n ∧ I z ∧ Sat C.N ds (τ z) a ∧ At C.W0 (G z) w) (fun a w => leastOf fun n => ∃ z, μ z = n ∧ I z ∧ Sat C.N ds (τ z) a ∧ At C.W0 (G z) w) ⟨_, z0, rfl, h0, hs'.sub hs, hh w hw⟩ ?_
  intro a w hI
  obtain ⟨⟨z, hm, hi, hs1, hw1⟩, _⟩ := leastOf_spec hI
  refine wpIn_mono (round z hi a w hs1 hw1) ?_
  intro e a' w' he
  cases e <;> first
    | (obtain ⟨z', hi', hlt, hs2, hw2⟩ := he
       have hex : ∃ n z, μ z = n ∧ I z ∧ Sat C.N ds (τ z) a' ∧ At C.W0 (G z) w' := ⟨_, z', rfl, hi', hs2, hw2⟩
       refine ⟨hex, ?_⟩
       have := (leastOf_spec hex).2 (μ z') ⟨z', rfl, hi', hs2, hw2⟩
       omega)
    | exact he
theorem qe_loop {ζ : Type} {I : ζ → Prop} {τ : ζ → Env} {G : ζ → List Chunk} {μ : ζ → Nat} {m : Nat} (z : ζ) (hi : I z) (hm : μ z < m) (hs : Env.sub (τ z) σ) (hh : ∀ w, At C.W0 H w → At C.W0 (G z) w) : QE C ds (Lp C ds I τ G μ m Q) .normal σ H :=
  fun _a w hs' hw => ⟨z, hi, hm, hs'.sub hs, hh w hw⟩
theorem qe_loop_ret {ζ : Type} {I : ζ → Prop} {τ : ζ → Env} {G : ζ → List Chunk} {μ : ζ → Nat} {m : Nat} (h : QE C ds Q .ret σ H) : QE C ds (Lp C ds I τ G μ m Q) .ret σ H := h
theorem qe_loop_exit {ζ : Type} {I : ζ → Prop} {τ : ζ → Env} {G : ζ → List Chunk} {μ : ζ → Nat} {m id : Nat} (h : QE C ds Q (.exit id) σ H) : QE C ds (Lp C ds I τ G μ m Q) (.exit id) σ H := h
end

/-! ### Calls -/
/-- Called from a world in which H is owned, it returns: K of what it returns and of what is owned then. -/
def Call (P : Program) (W0 : World) (f : FuncId) (args : List Value) (H : List Chunk) (K : Value → List Chunk → Prop) : Prop :=
  ∀ w, At W0 H w → Calls P f args.toArray w fun e w' => ∃ v H', e = .returned v ∧ K v H' ∧ At W0 H' w'
theorem Call.mono {P : Program} {W0 : World} {f : FuncId} {args : List Value} {H : List Chunk} {K K' : Value → List Chunk → Prop} (h : Call P W0 f args H K) (hk : ∀ v H, K v H → K' v H) : Call P W0 f args H K' :=
  fun w hw => (h w hw).mono fun _ _ ⟨v, H', he, k, hw'⟩ => ⟨v, H', he, hk _ _ k, hw'⟩
theorem Call.heap {P : Program} {W0 : World} {f : FuncId} {args : List Value} {H H' : List Chunk} {K : Value → List Chunk → Prop} (e : ∀ w, At W0 H w → At W0 H' w) (h : Call P W0 f args H' K) : Call P W0 f args H K :=
  fun w hw => h w (e w hw)
theorem Call.pr {P : Program} {W0 : World} {f : FuncId} {args : List Value} {H : List Chunk} {K : Value → List Chunk → Prop} {p : Prop} (e : ∀ w, At W0 H w → p) (h : p → Call P W0 f args H K) : Call P W0 f args H K :=
  fun w hw => h (e w hw) w hw
theorem Call.ex {α : Type} {P : Program} {W0 : World} {f : FuncId} {args : List Value} {H : List Chunk} {H' : α → List Chunk} {K : Value → List Chunk → Prop} (e : ∀ w, At W0 H w → ∃ z, At W0 (H' z) w) (h : ∀ z, Call P W0 f args (H' z) K) : Call P W0 f args H K :=
  fun w hw => let ⟨z, hz⟩ := e w hw; h z w hz

theorem Call.ex3 {α β γ : Type} {P : Program} {W0 : World} {f : FuncId} {args : List Value} {H : List Chunk} {H' : α → β → γ → List Chunk} {K : Value → List Chunk → Prop} (e : ∀ w, At W0 H w → ∃ x y z, At W0 (H' x y z) w) (h : ∀ x y z, Call P W0 f args (H' x y z) K) : Call P W0 f args H K :=
  fun w hw => let ⟨x, y, z, hz⟩ := e w hw; h x y z w hz
/-- A function has a body: a call of it enters. -/
class Fun (P : Program) (f : FuncId) : Prop where
  enter : ∀ args w, (callFunc f args).run P w = .ok (.enter f args) w

theorem opR_call {C : Cx} {ds : List Deferred} {σ : Env} {H : List Chunk} {K : Value → List Chunk → Prop} {dst : Option Tmp} {x : Operand} {xs : Array Operand} {ts : Array TypeId} {ty : TypeId} {pos : String} {aft : Array Edge} {g : Option (Nat × Bool)}
    {f : FuncId} {first cap vs : List Value} [Fun C.P f] (hf : σ.val x = some (.func (.func f) first.toArray cap.toArray)) (hv : σ.vals xs.toList = some vs)
    (h : Call C.P C.W0 f (first ++ (vs ++ cap)) H K) : OpR C ds ⟨dst, .call ⟨.value x, xs, ts⟩, ty, pos, aft, g⟩ σ H K := by
  intro a w next Q hs hw hn
  refine ⟨fun f _ => trivial, ?_⟩
  rw [Oper.semAt_eq _ _ _ (fun c e => by cases e)]
  have h1 := hs.val hf
  have h2 : xs.map a.eval = vs.toArray := by apply Array.toList_inj.mp; rw [Array.toList_map, mapM_val (fun x u e => hs.val e) hv]
  have hr : (execOp a.eval ⟨dst, .call ⟨.value x, xs, ts⟩, ty, pos, aft, g⟩).run C.P w = .ok (.enter f (first ++ (vs ++ cap)).toArray) w := by
    simp [execOp, resolve, h1, h2, Deferred.ofValue, invoke, Fun.enter (P := C.P)]
  rw [hr]
  refine ⟨fw_depth _, ?_⟩
  refine (callsIn_wide (n := 0)).2 ?_ |>.mono (R := fun e w' => ∃ v H', e = .returned v ∧ K v H' ∧ At C.W0 H' w') ?_
  · exact h w hw
  · rintro e w' ⟨v, H', rfl, hk, hw'⟩
    exact hn v H' w' hk hw'
theorem opR_fn {C : Cx} {ds : List Deferred} {σ : Env} {H : List Chunk} {K : Value → List Chunk → Prop} {dst : Option Tmp} {xs : Array Operand} {ts : Array TypeId} {ty : TypeId} {pos : String} {aft : Array Edge} {g : Option (Nat × Bool)}
    {f : FuncId} {vs : List Value} [Fun C.P f] (hv : σ.vals xs.toList = some vs)
    (h : Call C.P C.W0 f vs H K) : OpR C ds ⟨dst, .call ⟨.value (.func f), xs, ts⟩, ty, pos, aft, g⟩ σ H K :=
  opR_call (first := []) (cap := []) rfl hv (by rw [List.nil_append, List.append_nil]; exact h)

def envOf : Nat → List Value → Env
  | _, [] => []
  | i, v :: vs => (i, v) :: envOf (i + 1) vs
theorem envOf_get : ∀ (vs : List Value) (i t : Nat) (v : Value), (envOf i vs).get t = some v → i ≤ t ∧ vs[t - i]? = some v
  | [], _, _, _, e => by cases e
  | u :: vs, i, t, v, e => by
    simp only [envOf, Env.get] at e
    cases hb : Nat.beq i t with
    | true => rw [hb] at e; have := Nat.eq_of_beq_eq_true hb; subst this; simp at e; subst e; simp
    | false =>
      rw [hb] at e
      have := envOf_get vs (i + 1) t v e
      refine ⟨by omega, ?_⟩
      rw [show t - i = (t - (i + 1)) + 1 by omega]
      exact this.2

def RK (W0 : World) (K : Value → List Chunk → Prop) (e : Ending) (w' : World) : Prop := ∃ v H', e = .returned v ∧ K v H' ∧ At W0 H' w'
theorem sat_enter {N : Nat} {vs : List Value} (hN : vs.length ≤ N) : Sat N [] (envOf 0 vs) { tmps := vs.toArray ++ Array.replicate (N - vs.toArray.size) undef, defers := [] } := by
  refine ⟨by simp; omega, rfl, fun t v e => ?_⟩
  have := (envOf_get vs 0 t v e).2
  rw [Nat.sub_zero] at this
  have hlt := (List.getElem?_eq_some_iff.1 this).1
  rw [Array.getD_eq_getD_getElem?, Array.getElem?_append_left (by simpa using hlt)]
  simp [this]
theorem call_enter {P : Program} {W0 : World} {f : FuncId} {fn : Func} {c : Code} {N : Nat} {vs : List Value} {H : List Chunk} {K : Value → List Chunk → Prop} (hf : P.funcs[f]? = some fn) (hb : fn.body = some c) (hN : fn.ntmps = N) (hl : Nat.ble vs.length N = true)
    (h : CT ⟨P, none, N, W0⟩ [] c (envOf 0 vs) H (bodyPost P fn (RK W0 K))) : Call P W0 f vs H K := fun w hw => by
  subst hN
  refine (callsIn_wide (n := 0)).1 (callsIn_of_wp hf hb trivial (h _ w ?_ hw))
  exact sat_enter (Nat.le_of_ble_eq_true hl)

section
variable {P : Program} {r : Option Nat} {N : Nat} {W0 : World} {fn : Func} {σ : Env} {H : List Chunk} {K : Value → List Chunk → Prop}
theorem ret_of {v : Value} (hr : ∀ a w, Sat N [] σ a → At W0 H w → (results fn a.tmps).run P w = .ok v w) (hK : K v H) : QE ⟨P, r, N, W0⟩ [] (bodyPost P fn (RK W0 K)) .ret σ H :=
  fun a w hs hw => ⟨hs.defers, v, hr a w hs hw, v, H, rfl, hK, hw⟩
theorem ret0 (hr : fn.results = #[]) (hK : K (.tuple #[]) H) : QE ⟨P, r, N, W0⟩ [] (bodyPost P fn (RK W0 K)) .ret σ H :=
  ret_of (fun a w hs hw => by simp [results, hr]) hK
theorem ret1 {t : Tmp} {v : Value} (hr : fn.results = #[.tmp t]) (hv : σ.get t = some v) (hK : K v H) : QE ⟨P, r, N, W0⟩ [] (bodyPost P fn (RK W0 K)) .ret σ H :=
  ret_of (fun a w hs hw => by simp only [results, hr]; have := hs.get t v hv; simp [this, -Array.getD_eq_getD_getElem?]) hK
theorem ret2 {t u : Tmp} {v v' : Value} (hr : fn.results = #[.tmp t, .tmp u]) (hv : σ.get t = some v) (hv' : σ.get u = some v') (hK : K (.tuple #[v, v']) H) : QE ⟨P, r, N, W0⟩ [] (bodyPost P fn (RK W0 K)) .ret σ H :=
  ret_of (fun a w hs hw => by simp only [results, hr]; have h1 := hs.get t v hv; have h2 := hs.get u v' hv'; simp [h1, h2, -Array.getD_eq_getD_getElem?]) hK
theorem ret3 {t u x : Tmp} {v v' v'' : Value} (hr : fn.results = #[.tmp t, .tmp u, .tmp x]) (hv : σ.get t = some v) (hv' : σ.get u = some v') (hx : σ.get x = some v'') (hK : K (.tuple #[v, v', v'']) H) : QE ⟨P, r, N, W0⟩ [] (bodyPost P fn (RK W0 K)) .ret σ H :=
  ret_of (fun a w hs hw => by simp only [results, hr]; have h1 := hs.get t v hv; have h2 := hs.get u v' hv'; have h3 := hs.get x v'' hx; simp [h1, h2, h3, -Array.getD_eq_getD_getElem?]) hK
theorem qe_end (h : QE ⟨P, r, N, W0⟩ [] (bodyPost P fn (RK W0 K)) .ret σ H) : QE ⟨P, r, N, W0⟩ [] (bodyPost P fn (RK W0 K)) .normal σ H := h
end
end Go.Rost
