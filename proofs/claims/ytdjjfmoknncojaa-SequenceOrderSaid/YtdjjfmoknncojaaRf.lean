/- A range over a function: what the loop's body promises the function, what the function promises the loop. -/
import Derived.Test.YtdjjfmoknncojaaSt
namespace Go.Rost
open Go Go.RowKit

/-- A function value, called: a function of the program, or a loop's yield. -/
def CallV (P : Program) (W0 : World) (y : Value) (vs : List Value) (H : List Chunk) (K : Value → List Chunk → Prop) : Prop :=
  ∀ w, At W0 H w →
    (∃ l fn tmps assign body, y = .func (.yield l) #[] #[] ∧ (Instr.yield l vs.toArray).run P w = .ok (.round l fn tmps assign body) w ∧ RoundIn Fence.wide 0 P l fn tmps assign body w (RK W0 K)) ∨
    (∃ f first cap, y = .func (.func f) first cap ∧ (∀ args w, (callFunc f args).run P w = .ok (.enter f args) w) ∧ Calls P f ((first ++ vs.toArray) ++ cap) w (RK W0 K))
theorem CallV.mono {P : Program} {W0 : World} {y : Value} {vs : List Value} {H : List Chunk} {K K' : Value → List Chunk → Prop} (h : CallV P W0 y vs H K) (hk : ∀ v H, K v H → K' v H) : CallV P W0 y vs H K' := fun w hw => by
  rcases h w hw with ⟨l, fn, tmps, assign, body, e, e2, h⟩ | ⟨f, first, cap, e, e2, h⟩
  · exact .inl ⟨l, fn, tmps, assign, body, e, e2, h.mono fun e w' ⟨v, H', a, b, c⟩ => ⟨v, H', a, hk _ _ b, c⟩⟩
  · exact .inr ⟨f, first, cap, e, e2, h.mono fun e w' ⟨v, H', a, b, c⟩ => ⟨v, H', a, hk _ _ b, c⟩⟩
theorem CallV.heap {P : Program} {W0 : World} {y : Value} {vs : List Value} {H H' : List Chunk} {K : Value → List Chunk → Prop} (e : ∀ w, At W0 H w → At W0 H' w) (h : CallV P W0 y vs H' K) : CallV P W0 y vs H K := fun w hw => h w (e w hw)
theorem CallV.of_call {P : Program} {W0 : World} {f : FuncId} {first cap vs : List Value} {H : List Chunk} {K : Value → List Chunk → Prop} [Fun P f] (h : Call P W0 f (first ++ (vs ++ cap)) H K) : CallV P W0 (.func (.func f) first.toArray cap.toArray) vs H K := fun w hw =>
  .inr ⟨f, _, _, rfl, Fun.enter, by
    rw [show (first.toArray ++ vs.toArray ++ cap.toArray) = (first ++ (vs ++ cap)).toArray by simp]
    exact h w hw⟩
theorem opR_callV {C : Cx} {ds : List Deferred} {σ : Env} {H : List Chunk} {K : Value → List Chunk → Prop} {dst : Option Tmp} {x : Operand} {xs : Array Operand} {ts : Array TypeId} {ty : TypeId} {pos : String} {aft : Array Edge} {g : Option (Nat × Bool)}
    {y : Value} {vs : List Value} (hf : σ.val x = some y) (hv : σ.vals xs.toList = some vs)
    (h : CallV C.P C.W0 y vs H K) : OpR C ds ⟨dst, .call ⟨.value x, xs, ts⟩, ty, pos, aft, g⟩ σ H K := by
  intro a w next Q hs hw hn
  refine ⟨fun f _ => trivial, ?_⟩
  rw [Oper.semAt_eq _ _ _ (fun c e => by cases e)]
  have h1 := hs.val hf
  have h2 : xs.map a.eval = vs.toArray := by apply Array.toList_inj.mp; rw [Array.toList_map, mapM_val (fun x u e => hs.val e) hv]
  rcases h w hw with ⟨l, fn, tmps, assign, body, e, e2, h⟩ | ⟨f, first, cap, e, e2, h⟩
  · have hr : (execOp a.eval ⟨dst, .call ⟨.value x, xs, ts⟩, ty, pos, aft, g⟩).run C.P w = .ok (.round l fn tmps assign body) w := by
      simp [execOp, resolve, h1, h2, e, Deferred.ofValue, invoke, e2]
    rw [hr]
    refine ⟨fw_depth _, ?_⟩
    have h' : RoundIn (fw C.r) 0 C.P l fn tmps assign body w (RK C.W0 K) := h
    refine h'.mono ?_
    rintro e w' ⟨v, H', rfl, hk, hw'⟩
    exact hn v H' w' hk hw'
  · have hr : (execOp a.eval ⟨dst, .call ⟨.value x, xs, ts⟩, ty, pos, aft, g⟩).run C.P w = .ok (.enter f ((first ++ vs.toArray) ++ cap)) w := by
      simp [execOp, resolve, h1, h2, e, Deferred.ofValue, invoke, e2]
    rw [hr]
    refine ⟨fw_depth _, ?_⟩
    refine (callsIn_wide (n := 0)).2 ?_ |>.mono (R := RK C.W0 K) ?_
    · exact h
    · rintro e w' ⟨v, H', rfl, hk, hw'⟩
      exact hn v H' w' hk hw'

/-! ### Rounds -/
def zipEnv : Env → List (Nat × Value) → Env
  | σ, [] => σ
  | σ, (t, v) :: r => zipEnv ((t, v) :: σ) r
theorem Sat.zip {N : Nat} {ds : List Deferred} : ∀ {l : List (Nat × Value)} {σ : Env} {tmps : Array Value}, Sat N ds σ { tmps := tmps, defers := ds } → (l.all fun p => Nat.blt p.1 N) = true →
    Sat N ds (zipEnv σ l) { tmps := l.foldl (fun tmps (t, a) => tmps.setIfInBounds t a) tmps, defers := ds }
  | [], _, _, h, _ => h
  | (t, v) :: l, σ, tmps, h, ha => by
    simp only [List.all_cons, Bool.and_eq_true] at ha
    exact Sat.zip (l := l) (h.put ha.1 v) ha.2
/-- How a round ends: the jump that it leaves pending, what is owned. -/
def RQ (_N : Nat) (W0 : World) (T : List Chunk) (K : Option Code → List Chunk → Prop) : Exit → Act → World → Prop
  | .normal, _, w => ∃ H', K none H' ∧ At W0 (H' ++ T) w
  | .ret, _, w => ∃ H', K (some .ret) H' ∧ At W0 (H' ++ T) w
  | .exit id, _, w => ∃ H', K (some (.exit id)) H' ∧ At W0 (H' ++ T) w
  | .goto t, _, w => ∃ H', K (some (.goto t)) H' ∧ At W0 (H' ++ T) w
  | _, _, _ => False
def AQ (C : Cx) (body : Code) (T : List Chunk) (K : Option Code → List Chunk → Prop) : Exit → Act → World → Prop
  | .normal, a, w => ∃ σ' H', (∀ T', CT C [] body σ' (H' ++ T') (RQ C.N C.W0 T' K)) ∧ Sat C.N [] σ' a ∧ At C.W0 (H' ++ T) w
  | _, _, _ => False
def RoundOK (C : Cx) (assign body : Code) (σ : Env) (H : List Chunk) (K : Option Code → List Chunk → Prop) : Prop :=
  ∀ T, CT C [] assign σ (H ++ T) (AQ C body T K)
section
variable {C : Cx} {body : Code} {T : List Chunk} {K : Option Code → List Chunk → Prop} {σ : Env} {H : List Chunk}
theorem qe_assign (H' : List Chunk) (hh : ∀ w, At C.W0 H w → At C.W0 (H' ++ T) w) (h : ∀ T', CT C [] body σ (H' ++ T') (RQ C.N C.W0 T' K)) : QE C [] (AQ C body T K) .normal σ H :=
  fun _ w hs hw => ⟨σ, H', h, hs, hh w hw⟩
theorem qe_round (H' : List Chunk) (hh : ∀ w, At C.W0 H w → At C.W0 (H' ++ T) w) (hk : K none H') : QE C [] (RQ C.N C.W0 T K) .normal σ H := fun _ w _ hw => ⟨H', hk, hh w hw⟩
theorem qe_round_ret (H' : List Chunk) (hh : ∀ w, At C.W0 H w → At C.W0 (H' ++ T) w) (hk : K (some .ret) H') : QE C [] (RQ C.N C.W0 T K) .ret σ H := fun _ w _ hw => ⟨H', hk, hh w hw⟩
theorem qe_round_exit {id : Nat} (H' : List Chunk) (hh : ∀ w, At C.W0 H w → At C.W0 (H' ++ T) w) (hk : K (some (.exit id)) H') : QE C [] (RQ C.N C.W0 T K) (.exit id) σ H := fun _ w _ hw => ⟨H', hk, hh w hw⟩
theorem qe_round_goto {id : Nat} (H' : List Chunk) (hh : ∀ w, At C.W0 H w → At C.W0 (H' ++ T) w) (hk : K (some (.goto id)) H') : QE C [] (RQ C.N C.W0 T K) (.goto id) σ H := fun _ w _ hw => ⟨H', hk, hh w hw⟩
end
theorem At.write_loop {W0 : World} {l : Nat} {r r' : Loop} {H : List Chunk} {w : World} (h : At W0 (Blk l (.loop r) :: H) w) : At W0 (Blk l (.loop r') :: H) (w.putObj l (.loop r')) := h.write
/-- A loop's record and what its rounds own. -/
def LoopC (r : Loop) (l : Nat) (j : Option Code) (G : List Chunk) : Chunk :=
  Star (Blk l (.loop { r with state := if j.isNone then .ready else .done, pending := j }) :: Blk r.defers (.deferred (some [])) :: G)
theorem At.last {W0 : World} {c : Chunk} {G T : List Chunk} {w : World} (h : At W0 (c :: (G ++ T)) w) : At W0 (G ++ c :: T) w := by
  refine h.perm ?_
  exact (List.perm_middle (l₁ := G) (a := c) (l₂ := T)).symm
theorem At.first {W0 : World} {c : Chunk} {G T : List Chunk} {w : World} (h : At W0 (G ++ c :: T) w) : At W0 (c :: (G ++ T)) w := by
  refine h.perm ?_
  exact (List.perm_middle (l₁ := G) (a := c) (l₂ := T))
theorem LoopC.open {W0 : World} {r : Loop} {l : Nat} {j : Option Code} {G T : List Chunk} {w : World} (h : At W0 (LoopC r l j G :: T) w) :
    At W0 (Blk l (.loop { r with state := if j.isNone then .ready else .done, pending := j }) :: (G ++ Blk r.defers (.deferred (some [])) :: T)) w := by
  have h1 := At.star.1 h
  have h2 : At W0 (Blk l (.loop { r with state := if j.isNone then .ready else .done, pending := j }) :: Blk r.defers (.deferred (some [])) :: (G ++ T)) w := h1
  refine h2.perm ?_
  exact ((List.perm_middle (l₁ := G) (a := Blk r.defers (.deferred (some []))) (l₂ := T)).symm).cons _
theorem LoopC.shut {W0 : World} {r : Loop} {l : Nat} {j : Option Code} {G T : List Chunk} {w : World} 
    (h : At W0 (Blk l (.loop { r with state := if j.isNone then .ready else .done, pending := j }) :: (G ++ Blk r.defers (.deferred (some [])) :: T)) w) : At W0 (LoopC r l j G :: T) w := by
  refine At.star.2 ?_
  show At W0 (Blk l (.loop { r with state := if j.isNone then .ready else .done, pending := j }) :: Blk r.defers (.deferred (some [])) :: (G ++ T)) w
  refine h.perm ?_
  exact ((List.perm_middle (l₁ := G) (a := Blk r.defers (.deferred (some []))) (l₂ := T))).cons _

/-- What a loop's yield promises. -/
structure Yields (P : Program) (W0 : World) (y : Value) {ι ζ : Type} (enc : ι → List Value) (g : ζ → Option Code → Chunk) (step : ζ → ι → ζ × Option Code) (J : ζ → List ι → Prop) : Prop where
  fv : ∃ fn first cap, y = .func fn first cap
  call : ∀ z x xs T, J z (x :: xs) → CallV P W0 y (enc x) (g z none :: T) (fun v H' => v = .bool (step z x).2.isNone ∧ H' = g (step z x).1 (step z x).2 :: T)
  keeps : ∀ z x xs, J z (x :: xs) → (step z x).2 = none → J (step z x).1 xs
def runs {ι ζ : Type} (step : ζ → ι → ζ × Option Code) : ζ → List ι → ζ × Option Code
  | z, [] => (z, none)
  | z, x :: xs => match (step z x).2 with
    | none => runs step (step z x).1 xs
    | some j => ((step z x).1, some j)

theorem loop_yields {P : Program} {W0 : World} {N l : Nat} {r : Loop} {σ : Env} {ι ζ : Type} {enc : ι → List Value} {G : ζ → List Chunk} {step : ζ → ι → ζ × Option Code} {J : ζ → List ι → Prop}
    (hsat : Sat N [] σ { tmps := r.tmps, defers := [] }) (hlen : ∀ x, (enc x).length = r.params.size) (hps : (r.params.toList.all fun t => Nat.blt t N) = true)
    (hround : ∀ z x xs, J z (x :: xs) → RoundOK ⟨P, some l, N, W0⟩ r.assign r.body (zipEnv σ (r.params.toList.zip (enc x))) (G z) (fun j H' => j = (step z x).2 ∧ H' = G (step z x).1))
    (hkeep : ∀ z x xs, J z (x :: xs) → (step z x).2 = none → J (step z x).1 xs) :
    Yields P W0 (.func (.yield l) #[] #[]) enc (fun z j => LoopC r l j (G z)) step J := by
  refine ⟨⟨_, _, _, rfl⟩, fun z x xs T hz w hw => .inl ?_, hkeep⟩
  have h0 := LoopC.open hw
  have hrd := h0.read
  simp only [Option.isNone_none, if_true] at hrd
  refine ⟨l, r.fn, (r.params.zip (enc x).toArray).foldl (fun tmps (t, a) => tmps.setIfInBounds t a) r.tmps, r.assign, r.body, rfl, ?_, ?_⟩
  · rw [run_yield hrd (by simp [hlen x])]
  · have hs : Sat N [] (zipEnv σ (r.params.toList.zip (enc x))) { tmps := (r.params.zip (enc x).toArray).foldl (fun tmps (t, a) => tmps.setIfInBounds t a) r.tmps, defers := [] } := by
      have := Sat.zip (l := r.params.toList.zip (enc x)) hsat (by
        rw [List.all_eq_true] at hps ⊢
        intro p hp
        exact hps p.1 (List.of_mem_zip (a := p.1) (b := p.2) hp).1)
      rw [show (r.params.zip (enc x).toArray).foldl (fun tmps (t, a) => tmps.setIfInBounds t a) r.tmps = (r.params.toList.zip (enc x)).foldl (fun tmps (t, a) => tmps.setIfInBounds t a) r.tmps by
        rw [← Array.foldl_toList, Array.toList_zip]]
      exact this
    refine roundIn_of_wpIn trivial ?_
    refine wpIn_mono (hround z x xs hz _ _ _ hs h0.last) ?_
    intro e a1 w1 he
    cases e with
    | normal =>
      obtain ⟨σ', H', hb, hs', hw1⟩ := he
      have h1 := hw1.first
      have hrd1 := h1.read
      simp only [Option.isNone_none, if_true] at hrd1
      refine ⟨_, run_beginRound hrd1 rfl, ?_⟩
      have h2 := h1.write_loop (r' := { r with state := .busy, pending := none })
      refine wpIn_mono (hb _ a1 _ hs' h2.last) ?_
      intro e a2 w2 he
      have fin : ∀ (j : Option Code) H'', (j = (step z x).2 ∧ H'' = G (step z x).1) → At W0 (H'' ++ Blk l (.loop { r with state := .busy, pending := none }) :: Blk r.defers (.deferred (some [])) :: T) w2 →
          ∃ v w', (Instr.endRound l j).run P w2 = .ok v w' ∧ RK W0 (fun v H' => v = .bool (step z x).2.isNone ∧ H' = LoopC r l (step z x).2 (G (step z x).1) :: T) (.returned v) w' := by
        rintro j H'' ⟨rfl, rfl⟩ hw2
        have h3 := hw2.first
        have hrd3 := h3.read
        refine ⟨_, _, run_endRound _ hrd3, _, _, rfl, ⟨rfl, rfl⟩, ?_⟩
        exact LoopC.shut (h3.write_loop)
      cases e with
      | normal => obtain ⟨H'', hk, hw2⟩ := he; exact fin _ _ hk hw2
      | ret => obtain ⟨H'', hk, hw2⟩ := he; exact fin _ _ hk hw2
      | exit id => obtain ⟨H'', hk, hw2⟩ := he; exact fin _ _ hk hw2
      | goto t => obtain ⟨H'', hk, hw2⟩ := he; exact fin _ _ hk hw2
      | panic c => exact he
      | outgrown => exact he
    | _ => exact he
def mark (db : Nat) : Deferred := { target := .collected db, args := #[] }

theorem ct_rangeFunc {P : Program} {N : Nat} {W0 : World} {ds : List Deferred} {σ : Env} {H : List Chunk} {Q : Exit → Act → World → Prop} {g : Operand} {ps : Array Tmp} {assign body : Code} {f : FuncId} {first cap : List Value} [Fun P f]
    {ι ζ : Type} (enc : ι → List Value) (it : Chunk) (G : ζ → List Chunk) (step : ζ → ι → ζ × Option Code) (J : ζ → List ι → Prop) (XS : List ι → Prop) (z0 : ζ)
    (hg : σ.val g = some (.func (.func f) first.toArray cap.toArray)) (hlen : ∀ x, (enc x).length = ps.size) (hps : (ps.toList.all fun t => Nat.blt t N) = true)
    (hH : ∀ w, At W0 H w → At W0 (it :: G z0) w)
    (iter : ∀ (y : Value) (gc : ζ → Option Code → Chunk) (T : List Chunk), Yields P W0 y enc gc step J →
      Call P W0 f (first ++ ([y] ++ cap)) (it :: gc z0 none :: T) (fun _v H' => ∃ xs it', XS xs ∧ H' = it' :: gc (runs step z0 xs).1 (runs step z0 xs).2 :: T))
    (round : ∀ l z x xs, J z (x :: xs) → RoundOK ⟨P, some l, N, W0⟩ assign body (zipEnv σ (ps.toList.zip (enc x))) (G z) (fun j H' => j = (step z x).2 ∧ H' = G (step z x).1))
    (keep : ∀ z x xs, J z (x :: xs) → (step z x).2 = none → J (step z x).1 xs)
    (after : ∀ xs db, XS xs → match (runs step z0 xs).2 with
      | none => QE ⟨P, none, N, W0⟩ (mark db :: ds) Q .normal σ (Blk db (.deferred (some [])) :: G (runs step z0 xs).1)
      | some c => CT ⟨P, none, N, W0⟩ (mark db :: ds) c σ (Blk db (.deferred (some [])) :: G (runs step z0 xs).1) Q) :
    CT ⟨P, none, N, W0⟩ ds (.rangeFunc g ps assign body) σ H Q := by
  intro a w hs hw
  refine wpIn_rangeFunc fun fn _ => ?_
  have hround : (fw none).round = none := rfl
  rw [hround]
  obtain ⟨W2, hW2⟩ : ∃ W2, W2 = (w.alloc (.deferred (some []))).alloc (.loop { state := .ready, pending := none, fn, tmps := a.tmps, params := ps, assign, body, defers := w.heap.size }) := ⟨_, rfl⟩
  have hA : At W0 (Blk (w.heap.size + 1) (.loop { state := .ready, pending := none, fn, tmps := a.tmps, params := ps, assign, body, defers := w.heap.size }) :: Blk w.heap.size (.deferred (some [])) :: it :: G z0) W2 := by
    have h1 := (hH w hw).alloc (.deferred (some []))
    have h2 := h1.alloc (.loop { state := .ready, pending := none, fn, tmps := a.tmps, params := ps, assign, body, defers := w.heap.size })
    have e2 : ({ w with heap := w.heap.push (.deferred (some [])) } : World).heap.size = w.heap.size + 1 := by simp
    rw [e2] at h2
    rw [hW2]
    exact h2
  refine ⟨w.heap.size + 1, [mark w.heap.size], W2, { target := .fn (.func f) cap.toArray, args := first.toArray ++ #[.func (.yield (w.heap.size + 1)) #[] #[]] }, W2, f, first.toArray ++ #[.func (.yield (w.heap.size + 1)) #[] #[]] ++ cap.toArray, W2,
    by rw [hW2]; exact run_enterLoop_outer fn a.tmps ps assign body, ?_, fun _ _ => trivial, ?_, fw_depth _, ?_⟩
  · have h1 := hs.val hg
    simp [resolve, h1, Deferred.ofValue]
    rfl
  · simp only [invoke]
    exact Fun.enter _ _
  have hy : Yields P W0 (.func (.yield (w.heap.size + 1)) #[] #[]) enc (fun z j => LoopC { state := .ready, pending := none, fn, tmps := a.tmps, params := ps, assign, body, defers := w.heap.size } (w.heap.size + 1) j (G z)) step J :=
    loop_yields (σ := σ) (N := N) ⟨hs.size, rfl, hs.get⟩ hlen hps (fun z x xs hz => round _ z x xs hz) keep
  have hB : At W0 (it :: LoopC { state := .ready, pending := none, fn, tmps := a.tmps, params := ps, assign, body, defers := w.heap.size } (w.heap.size + 1) none (G z0) :: []) W2 := by
    refine (LoopC.shut (T := [it]) (j := none) ?_).sw1
    refine hA.perm ?_
    refine List.Perm.cons _ ?_
    refine (List.Perm.trans ?_ (List.perm_append_comm (l₁ := [Blk w.heap.size (.deferred (some [])), it]) (l₂ := G z0)))
    exact List.Perm.refl _
  have hc := iter _ _ [] hy W2 hB
  have hc' := (callsIn_wide (n := 0)).2 hc
  rw [show (first.toArray ++ #[Value.func (.yield (w.heap.size + 1)) #[] #[]] ++ cap.toArray) = (first ++ ([Value.func (.yield (w.heap.size + 1)) #[] #[]] ++ cap)).toArray by simp]
  refine hc'.mono ?_
  rintro e w3 ⟨v, H', rfl, ⟨xs, it', hxs, rfl⟩, hw3⟩
  have hw4 := LoopC.open hw3.drop
  have hrd := hw4.read
  refine ⟨_, _, run_endLoop hrd (by dsimp only; split <;> simp), ?_⟩
  have hw5 := hw4.write_loop (r' := { state := .exhausted, pending := (runs step z0 xs).2, fn, tmps := a.tmps, params := ps, assign, body, defers := w.heap.size })
  have hw6 := hw5.drop.first
  rw [List.append_nil] at hw6
  have hs' : Sat N (mark w.heap.size :: ds) σ { a with defers := [mark w.heap.size] ++ a.defers } := ⟨hs.size, by simp [hs.defers], hs.get⟩
  have haf := after xs w.heap.size hxs
  cases hj : (runs step z0 xs).2 with
  | none =>
    rw [hj] at haf
    simp only
    exact haf _ _ hs' (by rw [hj] at hw6; exact hw6)
  | some c =>
    rw [hj] at haf
    simp only
    exact haf _ _ hs' (by rw [hj] at hw6; exact hw6)
/-! ### Leaving a function with such a loop -/
theorem call_enterM {P : Program} {W0 : World} {f : FuncId} {fn : Func} {c : Code} {N : Nat} {vs : List Value} {H : List Chunk} {K : Value → List Chunk → Prop} (hf : P.funcs[f]? = some fn) (hb : fn.body = some c) (hN : fn.ntmps = N) (hl : Nat.ble vs.length N = true)
    (h : CT ⟨P, none, N, W0⟩ [] c (envOf 0 vs) H (bodyPostM (fw none) 0 P fn (RK W0 K))) : Call P W0 f vs H K := fun w hw => by
  subst hN
  refine (callsIn_wide (n := 0)).1 (callsIn_of_wp_marks hf hb trivial (h _ w ?_ hw))
  exact sat_enter (Nat.le_of_ble_eq_true hl)
section
variable {P : Program} {N : Nat} {W0 : World} {fn : Func} {σ : Env} {H : List Chunk} {K : Value → List Chunk → Prop}
theorem retM (h : QE ⟨P, none, N, W0⟩ [] (bodyPost P fn (RK W0 K)) .ret σ H) : QE ⟨P, none, N, W0⟩ [] (bodyPostM (fw none) 0 P fn (RK W0 K)) .ret σ H := fun a w hs hw => by
  obtain ⟨hd, v, hr, hk⟩ := h a w hs hw
  show LeavesInM _ _ _ _ _ _ a.defers _ _
  rw [hs.defers]
  exact ⟨v, hr, hk⟩
theorem retM_mark {db : Nat} {ds : List Deferred} (h : QE ⟨P, none, N, W0⟩ ds (bodyPostM (fw none) 0 P fn (RK W0 K)) .ret σ H) : QE ⟨P, none, N, W0⟩ (mark db :: ds) (bodyPostM (fw none) 0 P fn (RK W0 K)) .ret σ (Blk db (.deferred (some [])) :: H) := fun a w hs hw => by
  show LeavesInM _ _ _ _ _ _ a.defers _ _
  rw [hs.defers]
  refine ⟨by simp, .inl ⟨db, _, rfl, run_takeDeferred hw.read, ?_⟩⟩
  have h1 : At W0 (Blk db (.deferred none) :: H) (w.putObj db (.deferred none)) := hw.write
  have := h { a with defers := ds } _ ⟨hs.size, rfl, hs.get⟩ h1.drop
  exact this
end
end Go.Rost
