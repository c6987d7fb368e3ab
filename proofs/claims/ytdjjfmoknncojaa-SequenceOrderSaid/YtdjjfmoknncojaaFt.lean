/- What is owned, put in another order: found by the chunks themselves. -/
import Derived.Test.YtdjjfmoknncojaaHx
namespace Go.Rost
open Go Go.RowKit

/-- A chunk among others, and what is beside it. -/
class Pick (a : Chunk) (L : List Chunk) (R : outParam (List Chunk)) : Prop where
  perm : L.Perm (a :: R)
instance Pick.head {a : Chunk} {R : List Chunk} : Pick a (a :: R) R := ⟨.refl _⟩
instance (priority := low) Pick.tail {a b : Chunk} {L R : List Chunk} [h : Pick a L R] : Pick a (b :: L) (b :: R) := ⟨(h.perm.cons _).trans (.swap _ _ _)⟩
/-- What is owned, less some of it, in another order. -/
class Fit (L K : List Chunk) : Prop where
  fit : ∀ h, sat L h → sat K h
instance (priority := high) Fit.refl {L : List Chunk} : Fit L L := ⟨fun _ h => h⟩
instance (priority := high) Fit.nil {L : List Chunk} : Fit L [] := ⟨fun _ _ => trivial⟩
instance (priority := low) Fit.drop {b : Chunk} {L K : List Chunk} [h : Fit L K] : Fit (b :: L) K := ⟨fun _ ⟨_, _, _, l2, _, _, s⟩ => h.fit _ (sat_le s l2)⟩
instance Fit.cons {a : Chunk} {L R K : List Chunk} [p : Pick a L R] [h : Fit R K] : Fit L (a :: K) := ⟨fun _ s => by
  obtain ⟨h1, h2, l1, l2, d, hc, s'⟩ := sat_perm p.perm s
  exact ⟨h1, h2, l1, l2, d, hc, h.fit _ s'⟩⟩
theorem At.fit {W0 : World} {L K : List Chunk} {w : World} (h : At W0 L w) [f : Fit L K] : At W0 K w := ⟨h.1, h.2.elim fun k x => ⟨k, x.1, f.fit _ x.2⟩⟩
theorem At.pull1 {W0 : World} {a : Chunk} {L R : List Chunk} {w : World} (h : At W0 L w) [p : Pick a L R] : At W0 (a :: R) w := h.perm p.perm
theorem At.pull2 {W0 : World} {a b : Chunk} {L R1 R : List Chunk} {w : World} (h : At W0 L w) [p : Pick a L R1] [q : Pick b R1 R] : At W0 (a :: b :: R) w := h.perm (p.perm.trans (q.perm.cons _))
theorem At.pull3 {W0 : World} {a b c : Chunk} {L R1 R2 R : List Chunk} {w : World} (h : At W0 L w) [p : Pick a L R1] [q : Pick b R1 R2] [r : Pick c R2 R] : At W0 (a :: b :: c :: R) w := h.perm (p.perm.trans ((q.perm.trans (r.perm.cons _)).cons _))
theorem At.pull4 {W0 : World} {a b c d : Chunk} {L R1 R2 R3 R : List Chunk} {w : World} (h : At W0 L w) [p : Pick a L R1] [q : Pick b R1 R2] [r : Pick c R2 R3] [s : Pick d R3 R] : At W0 (a :: b :: c :: d :: R) w := h.perm (p.perm.trans ((q.perm.trans ((r.perm.trans (s.perm.cons _)).cons _)).cons _))
theorem At.pull5 {W0 : World} {a b c d e : Chunk} {L R1 R2 R3 R4 R : List Chunk} {w : World} (h : At W0 L w) [p : Pick a L R1] [q : Pick b R1 R2] [r : Pick c R2 R3] [s : Pick d R3 R4] [t : Pick e R4 R] : At W0 (a :: b :: c :: d :: e :: R) w := h.perm (p.perm.trans ((q.perm.trans ((r.perm.trans ((s.perm.trans (t.perm.cons _)).cons _)).cons _)).cons _))
theorem qe_fit {C : Cx} {ds : List Deferred} {Q : Exit → Act → World → Prop} {e : Exit} {σ : Env} {H K : List Chunk} [f : Fit H K] (h : QE C ds Q e σ K) : QE C ds Q e σ H := qe_heap (fun _ h => h.fit) h
theorem ct_fit {C : Cx} {ds : List Deferred} {Q : Exit → Act → World → Prop} {x : Code} {σ : Env} {H : List Chunk} (K : List Chunk) [f : Fit H K] (h : CT C ds x σ K Q) : CT C ds x σ H Q := ct_heap (fun _ h => h.fit) h
section
variable {W0 : World} {a b c d e f g k l : Chunk} {H : List Chunk} {w : World}
theorem At.sw6 (h : At W0 (a :: b :: c :: d :: e :: f :: g :: H) w) : At W0 (g :: a :: b :: c :: d :: e :: f :: H) w := At.top [_, _, _, _, _, _, _] [6, 0, 1, 2, 3, 4, 5] h
theorem At.sw7 (h : At W0 (a :: b :: c :: d :: e :: f :: g :: k :: H) w) : At W0 (k :: a :: b :: c :: d :: e :: f :: g :: H) w := At.top [_, _, _, _, _, _, _, _] [7, 0, 1, 2, 3, 4, 5, 6] h
theorem At.sw8 (h : At W0 (a :: b :: c :: d :: e :: f :: g :: k :: l :: H) w) : At W0 (l :: a :: b :: c :: d :: e :: f :: g :: k :: H) w := At.top [_, _, _, _, _, _, _, _, _] [8, 0, 1, 2, 3, 4, 5, 6, 7] h
end
/-- Some of the owned, by their places. -/
class NthC (i : Nat) (H : List Chunk) (c : outParam Chunk) : Prop where
  get : H[i]? = some c
instance NthC.zero {c : Chunk} {H : List Chunk} : NthC 0 (c :: H) c := ⟨rfl⟩
instance NthC.succ {i : Nat} {c d : Chunk} {H : List Chunk} [h : NthC i H c] : NthC (i + 1) (d :: H) c := ⟨by simpa using h.get⟩
class Sel (is : List Nat) (H : List Chunk) (K : outParam (List Chunk)) : Prop where
  eq : pickL is H = K
instance Sel.nil {H : List Chunk} : Sel [] H [] := ⟨rfl⟩
instance Sel.cons {i : Nat} {is : List Nat} {H K : List Chunk} {c : Chunk} [h : NthC i H c] [k : Sel is H K] : Sel (i :: is) H (c :: K) := ⟨by simp only [pickL, h.get, k.eq]⟩
theorem ct_drawP {C : Cx} {ds : List Deferred} {σ : Env} {H K : List Chunk} {Q : Exit → Act → World → Prop} {id : Nat} {ops : List Oper} (is : List Nat) (hm : C.P.follows .mixedOrders = true) [_k : Sel is H K] (h : RA C ds ops.toArray (At C.W0 K) ops.toArray.size [] σ H (QE C ds Q .normal)) : CT C ds (.region id ops.toArray true) σ H Q := ct_draw hm _ h
/-- What stands ahead of what is kept. -/
class AppC (L T : List Chunk) (K : outParam (List Chunk)) : Prop where
  eq : L ++ T = K
instance AppC.nil {T : List Chunk} : AppC [] T T := ⟨rfl⟩
instance AppC.cons {a : Chunk} {L T K : List Chunk} [h : AppC L T K] : AppC (a :: L) T (a :: K) := ⟨by rw [List.cons_append, h.eq]⟩
theorem ct_app {C : Cx} {ds : List Deferred} {Q : Exit → Act → World → Prop} {x : Code} {σ : Env} {L T K : List Chunk} [a : AppC L T K] (h : CT C ds x σ K Q) : CT C ds x σ (L ++ T) Q := by rw [a.eq]; exact h
class TailC (L T : List Chunk) (K : outParam (List Chunk)) : Prop where
  eq : L = K ++ T
instance (priority := high) TailC.nil {T : List Chunk} : TailC T T [] := ⟨rfl⟩
instance TailC.cons {a : Chunk} {L T K : List Chunk} [h : TailC L T K] : TailC (a :: L) T (a :: K) := ⟨by rw [List.cons_append, ← h.eq]⟩
/-- The ways meet again, by a ghost z; what lives and stays: τc. -/
def MidP {ζ : Type} (I : ζ → Prop) (τc : Env) (τ : ζ → Env) (G : ζ → List Chunk) (σ' : Env) (H' : List Chunk) : Prop := ∃ z, I z ∧ σ' = τ z ++ τc ∧ H' = G z
theorem ct_meetc {C : Cx} {ds : List Deferred} {σ : Env} {H : List Chunk} {Q : Exit → Act → World → Prop} {x y : Code} {ζ : Type} (I : ζ → Prop) (τc : Env) (τ : ζ → Env) (G : ζ → List Chunk) (_hs : Env.sub τc σ)
    (h : CT C ds x σ H (Mid C ds (MidP I τc τ G) Q)) (hk : ∀ z, I z → CT C ds y (τ z ++ τc) (G z) Q) : CT C ds (.seq x y) σ H Q :=
  ct_meet h fun σ' H' ⟨z, hz, e, e'⟩ => by subst e; subst e'; exact hk z hz
theorem qe_midc {C : Cx} {ds : List Deferred} {σ : Env} {H : List Chunk} {Q : Exit → Act → World → Prop} {ζ : Type} {I : ζ → Prop} {τc : Env} {τ : ζ → Env} {G : ζ → List Chunk} (z : ζ) (hi : I z) (hs : Env.sub (τ z ++ τc) σ) (hh : ∀ w, At C.W0 H w → At C.W0 (G z) w) : QE C ds (Mid C ds (MidP I τc τ G) Q) .normal σ H :=
  qe_mid ⟨z, hi, rfl, rfl⟩ hs hh
/-- A loop: what lives and stays (τc) beside what changes (τ). -/
theorem ct_loopc {C : Cx} {ds : List Deferred} {σ : Env} {H : List Chunk} {Q : Exit → Act → World → Prop} {x : Code} {ζ : Type} (I : ζ → Prop) (τc : Env) (τ : ζ → Env) (G : ζ → List Chunk) (μ : ζ → Nat) (z0 : ζ) (h0 : I z0) (hs : Env.sub (τ z0 ++ τc) σ) (hh : ∀ w, At C.W0 H w → At C.W0 (G z0) w)
    (round : ∀ z, I z → CT C ds x (τ z ++ τc) (G z) (Lp C ds I (fun z => τ z ++ τc) G μ (μ z) Q)) : CT C ds (.loop x) σ H Q := ct_loop I (fun z => τ z ++ τc) G μ z0 h0 hs hh round
theorem ct_loopk {C : Cx} {ds : List Deferred} {σ : Env} {H : List Chunk} {Q : Exit → Act → World → Prop} {x : Code} {ζ : Type} (I : ζ → Prop) (τc : Env) (τ : ζ → Env) (μ : ζ → Nat) (z0 : ζ) (h0 : I z0) (hs : Env.sub (τ z0 ++ τc) σ)
    (round : ∀ z, I z → CT C ds x (τ z ++ τc) H (Lp C ds I (fun z => τ z ++ τc) (fun _ => H) μ (μ z) Q)) : CT C ds (.loop x) σ H Q := ct_loop I (fun z => τ z ++ τc) (fun _ => H) μ z0 h0 hs (fun _ h => h) round
theorem qe_loopc {C : Cx} {ds : List Deferred} {σ : Env} {H : List Chunk} {Q : Exit → Act → World → Prop} {ζ : Type} {I : ζ → Prop} {τ : ζ → Env} {G : ζ → List Chunk} {μ : ζ → Nat} {m : Nat} (z : ζ) (hi : I z) (hm : μ z < m) (hs : Env.sub (τ z) σ) (hh : ∀ w, At C.W0 H w → At C.W0 (G z) w) : QE C ds (Lp C ds I τ G μ m Q) .normal σ H := qe_loop z hi hm hs hh
theorem AnyS.weak {F : Fence} {P : Program} {ops : Array Oper} {S S' : World → Prop} {X : Act → World → Prop} (hS : ∀ w, S' w → S w) : ∀ (fuel : Nat) (d : List Nat) (a : Act) (w : World), AnyS F P ops S' X fuel d a w → AnyS F P ops S X fuel d a w
  | 0, _, _, _, h => h
  | fuel + 1, _d, _a, _w, h => ⟨h.1, fun i hi => opIn_mono (fun a' w' y => ⟨y.1.imp id (hS w'), AnyS.weak hS fuel _ a' w' y.2⟩) (h.2 i hi)⟩
/-- More stays from here on. -/
theorem ra_S {C : Cx} {ds : List Deferred} {ops : Array Oper} {S S' : World → Prop} {fuel : Nat} {done : List Nat} {σ : Env} {H : List Chunk} {K : Env → List Chunk → Prop} (hS : ∀ w, S' w → S w) (h : RA C ds ops S' fuel done σ H K) : RA C ds ops S fuel done σ H K :=
  fun a w hs hw => AnyS.weak hS fuel done a w (h a w hs hw)
theorem ra_SP {C : Cx} {ds : List Deferred} {ops : Array Oper} {S : World → Prop} {fuel : Nat} {done : List Nat} {σ : Env} {H L : List Chunk} {K : Env → List Chunk → Prop} (is : List Nat) [_k : Sel is H L] (hS : ∀ w, At C.W0 L w → S w) (h : RA C ds ops (At C.W0 L) fuel done σ H K) : RA C ds ops S fuel done σ H K := ra_S hS h
/-- What was just made stays too. -/
theorem ra_Snew {C : Cx} {ds : List Deferred} {ops : Array Oper} {fuel : Nat} {done : List Nat} {σ : Env} {c : Chunk} {H L : List Chunk} {K : Env → List Chunk → Prop} (h : RA C ds ops (At C.W0 (c :: L)) fuel done σ (c :: H) K) : RA C ds ops (At C.W0 L) fuel done σ (c :: H) K := ra_S (fun _ h => h.drop) h
theorem ra_prp {C : Cx} {ds : List Deferred} {ops : Array Oper} {S : World → Prop} {fuel : Nat} {done : List Nat} {σ : Env} {H : List Chunk} {K : Env → List Chunk → Prop} {p : Prop} (e : ∀ w, At C.W0 H w → p) (h : p → RA C ds ops S fuel done σ H K) : RA C ds ops S fuel done σ H K :=
  fun a w hs hw => h (e w hw) a w hs hw
theorem ra_exs {C : Cx} {ds : List Deferred} {ops : Array Oper} {S : World → Prop} {fuel : Nat} {done : List Nat} {σ : Env} {H : List Chunk} {K : Env → List Chunk → Prop} {α : Type} {H' : α → List Chunk} (e : ∀ w, At C.W0 H w → ∃ x, At C.W0 (H' x) w) (h : ∀ x, RA C ds ops S fuel done σ (H' x) K) : RA C ds ops S fuel done σ H K :=
  fun a w hs hw => let ⟨x, hx⟩ := e w hw; h x a w hs hx
theorem rs_prp {C : Cx} {ds : List Deferred} {ops : Array Oper} {l : List Oper} {σ : Env} {H : List Chunk} {K : Env → List Chunk → Prop} {p : Prop} (e : ∀ w, At C.W0 H w → p) (h : p → RS C ds ops l σ H K) : RS C ds ops l σ H K :=
  fun a w hs hw => h (e w hw) a w hs hw
theorem qe_prp {C : Cx} {ds : List Deferred} {Q : Exit → Act → World → Prop} {e : Exit} {σ : Env} {H : List Chunk} {p : Prop} (he : ∀ w, At C.W0 H w → p) (h : p → QE C ds Q e σ H) : QE C ds Q e σ H := fun a w hs hw => h (he w hw) a w hs hw
end Go.Rost
