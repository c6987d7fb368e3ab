/- Builders of strings. -/
import Derived.Test.YtebdfelodihdhaaDoorAp
import Derived.Lib.Builder
import Derived.Lib.UnsafeStr
namespace Go.Rost
open Go Go.RowKit Go.Proofs

def BuildC (b : Nat) (l : List UInt8) : Chunk := Exs fun a : Value => Exs fun v : Value => Star [Pr (a = .pointer none ∨ a = .pointer (some ⟨b, 0, none⟩)) (Blk b (.cells #[a, v] 141 (0, 0))), SlT 5 v l]
theorem BuildC.open {W0 : World} {b : Nat} {l : List UInt8} {H : List Chunk} {w : World} (h : At W0 (BuildC b l :: H) w) : ∃ a v, At W0 (Pr (a = .pointer none ∨ a = .pointer (some ⟨b, 0, none⟩)) (Blk b (.cells #[a, v] 141 (0, 0))) :: SlT 5 v l :: H) w := by
  obtain ⟨a, h⟩ := At.ex.1 h
  obtain ⟨v, h⟩ := At.ex.1 h
  exact ⟨a, v, At.star.1 h⟩
theorem BuildC.shut {W0 : World} {b : Nat} {a v : Value} {l : List UInt8} {H : List Chunk} {w : World} (ha : a = .pointer none ∨ a = .pointer (some ⟨b, 0, none⟩)) (h : At W0 (Blk b (.cells #[a, v] 141 (0, 0)) :: SlT 5 v l :: H) w) : At W0 (BuildC b l :: H) w :=
  At.ex.2 ⟨a, At.ex.2 ⟨v, At.star.2 (At.pr.2 ⟨ha, h⟩)⟩⟩
theorem escape (x : Value) (w : World) : (callFunc 95 #[x]).run Tryd.prog w = .ok (.value x) w := by
  kernel_rfl
theorem info_of {P : Program} {t : TypeId} (h : (P.info? t).isSome = true) : ∃ j, P.info? t = some j := Option.isSome_iff_exists.1 h
theorem info_size {P : Program} {t : TypeId} {n : Nat} (h : (P.info? t).map (·.size) = some n) : ∃ j, P.info? t = some j ∧ j.size = n := by
  cases e : P.info? t with
  | none => rw [e] at h; cases h
  | some j => rw [e] at h; exact ⟨j, rfl, by simpa using h⟩
section
variable {C : Cx} {ds : List Deferred} {σ : Env} {H : List Chunk} {K : Value → List Chunk → Prop} {dst : Option Tmp} {ty : TypeId} {pos : String} {aft : Array Edge} {g : Option (Nat × Bool)}
theorem opR_toUnsafe {W0 : World} {N : Nat} {r : Option Nat} {x : Operand} {b : Nat} {a v : Value} (hx : σ.val x = some (.pointer (some ⟨b, 0, none⟩))) (h : K (.pointer (some ⟨b, 0, none⟩)) (Blk b (.cells #[a, v] 141 (0, 0)) :: H)) :
    OpR ⟨Tryd.prog, r, N, W0⟩ ds ⟨dst, .convert 139 157 x, ty, pos, aft, g⟩ σ (Blk b (.cells #[a, v] 141 (0, 0)) :: H) K := by
  refine OpR.of_run (fun c e => by cases e) fun ρ hρ w hw => ⟨_, w, _, ?_, h, hw⟩
  obtain ⟨j, hj, hs⟩ := info_size (P := Tryd.prog) (t := 141) (n := 2) (by kernel_rfl)
  have hsh : w.shape? b = some (141, 2) := by simp [World.shape?, hw.read]
  simp only [execOp, hρ _ _ hx, Sem.run_bind, Lib.run_to_unsafe (w := w) ⟨b, 0, none⟩ Tryd.underlying139 Tryd.underlying157 hj (by omega) hsh (show 0 < 2 by decide), Result.andThen_ok, Sem.run_pure]
theorem opR_fromUnsafe {W0 : World} {N : Nat} {r : Option Nat} {x : Operand} {b : Nat} {a v : Value} (hx : σ.val x = some (.pointer (some ⟨b, 0, none⟩))) (h : K (.pointer (some ⟨b, 0, none⟩)) (Blk b (.cells #[a, v] 141 (0, 0)) :: H)) :
    OpR ⟨Tryd.prog, r, N, W0⟩ ds ⟨dst, .convert 157 139 x, ty, pos, aft, g⟩ σ (Blk b (.cells #[a, v] 141 (0, 0)) :: H) K := by
  refine OpR.of_run (fun c e => by cases e) fun ρ hρ w hw => ⟨_, w, _, ?_, h, hw⟩
  obtain ⟨j, hj⟩ := info_of (P := Tryd.prog) (t := 141) (by kernel_rfl)
  have hsh : w.shape? b = some (141, 2) := by simp [World.shape?, hw.read]
  have hl : liesAt Tryd.prog Tryd.prog.depth 141 (2 / Tryd.prog.cellsOf 141) 0 141 1 = true := by kernel_rfl
  simp only [execOp, hρ _ _ hx, Sem.run_bind, Lib.run_from_unsafe (w := w) ⟨b, 0, none⟩ Tryd.underlying157 Tryd.underlying139 hj hsh hl, Result.andThen_ok, Sem.run_pure]
theorem opR_escape {W0 : World} {N : Nat} {r : Option Nat} {x : Operand} {u : Value} {ts : Array TypeId} (hx : σ.val x = some u) (h : K u H) :
    OpR ⟨Tryd.prog, r, N, W0⟩ ds ⟨dst, .call ⟨.value (.func 95), #[x], ts⟩, ty, pos, aft, g⟩ σ H K := by
  refine OpR.of_run (fun c e => by cases e) fun ρ hρ w hw => ⟨u, w, _, ?_, h, hw⟩
  have hf : ρ (.func 95) = .func (.func 95) #[] #[] := hρ _ _ rfl
  simp [execOp, resolve, hf, hρ _ _ hx, Deferred.ofValue, invoke, escape]
end
theorem ex_neqSelf {S : World → Prop} {σ : Env} {T' : TypeId} {x y : Operand} (b : Nat) (hx : σ.val x = some (.pointer (some ⟨b, 0, none⟩))) (hy : σ.val y = some (.pointer (some ⟨b, 0, none⟩))) :
    Ex Tryd.prog S σ (.binOp .neq 139 x y T') (.bool false) := by
  refine Ex.any (fun ρ hρ c hop w hw => ?_) (fun _ _ e => by cases e) (fun _ e => by cases e)
  obtain ⟨j, hj⟩ := info_of (P := Tryd.prog) (t := 141) (by kernel_rfl)
  simp [execOp, hop, hρ _ _ hx, hρ _ _ hy, eqGuard, Lib.run_neq_ptr_same (w := w) ⟨b, 0, none⟩ Tryd.underlying139 hj]
theorem CopyCheck_c (W0 : World) (b : Nat) (a v : Value) (H : List Chunk) (ha : a = .pointer none ∨ a = .pointer (some ⟨b, 0, none⟩)) :
    Call Tryd.prog W0 90 [.pointer (some ⟨b, 0, none⟩)] (Blk b (.cells #[a, v] 141 (0, 0)) :: H) (fun r H' => r = .tuple #[] ∧ H' = Blk b (.cells #[.pointer (some ⟨b, 0, none⟩), v] 141 (0, 0)) :: H) := by
  refine call_enter Tryd.func90 rfl Tryd.ntmps90 rfl ?_
  rcases ha with rfl | rfl
  · ((repeat refine ct_seq ?_); refine ct_region ?_; repeat (first | refine rs_ex rfl (by (first | (constructor <;> first | rfl | exact RdC.rd | exact inferInstance) | exact Ex.pickF rfl rfl | exact Ex.eqlS rfl rfl | exact Ex.neqS rfl rfl | exact Ex.eqlPN rfl rfl | exact Ex.neqPN rfl rfl | exact Ex.eqlSN rfl rfl | exact Ex.neqSN rfl rfl | exact Ex.lenStr rfl)) rfl ?_ | refine rs_skip rfl rfl ?_))
    refine rs_end (qe_then ?_)
    refine ct_cond rfl (fun _ => ?_) (fun h => by cases h)
    ((repeat refine ct_seq ?_); refine ct_region ?_; repeat (first | refine rs_ex rfl (by (first | (constructor <;> first | rfl | exact RdC.rd | exact inferInstance) | exact Ex.pickF rfl rfl | exact Ex.eqlS rfl rfl | exact Ex.neqS rfl rfl | exact Ex.eqlPN rfl rfl | exact Ex.neqPN rfl rfl | exact Ex.eqlSN rfl rfl | exact Ex.neqSN rfl rfl | exact Ex.lenStr rfl)) rfl ?_ | refine rs_skip rfl rfl ?_))
    refine rs_op rfl rfl (opR_toUnsafe rfl ?_)
    refine rs_op rfl rfl (opR_escape rfl ?_)
    refine rs_op rfl rfl (opR_fromUnsafe rfl ?_)
    repeat (first | refine rs_ex rfl (by (first | (constructor <;> first | rfl | exact RdC.rd | exact inferInstance) | exact Ex.pickF rfl rfl | exact Ex.eqlS rfl rfl | exact Ex.neqS rfl rfl | exact Ex.eqlPN rfl rfl | exact Ex.neqPN rfl rfl | exact Ex.eqlSN rfl rfl | exact Ex.neqSN rfl rfl | exact Ex.lenStr rfl)) rfl ?_ | refine rs_skip rfl rfl ?_)
    refine rs_opN rfl (opR_store rfl rfl rfl rfl ?_)
    refine rs_end (qe_end (ret0 rfl ⟨rfl, rfl⟩))
  · ((repeat refine ct_seq ?_); refine ct_region ?_; repeat (first | refine rs_ex rfl (by (first | (constructor <;> first | rfl | exact RdC.rd | exact inferInstance) | exact Ex.pickF rfl rfl | exact Ex.eqlS rfl rfl | exact Ex.neqS rfl rfl | exact Ex.eqlPN rfl rfl | exact Ex.neqPN rfl rfl | exact Ex.eqlSN rfl rfl | exact Ex.neqSN rfl rfl | exact Ex.lenStr rfl)) rfl ?_ | refine rs_skip rfl rfl ?_))
    refine rs_end (qe_then ?_)
    refine ct_cond rfl (fun h => by cases h) (fun _ => ?_)
    ((repeat refine ct_seq ?_); refine ct_region ?_; repeat (first | refine rs_ex rfl (by (first | (constructor <;> first | rfl | exact RdC.rd | exact inferInstance) | exact Ex.pickF rfl rfl | exact Ex.eqlS rfl rfl | exact Ex.neqS rfl rfl | exact Ex.eqlPN rfl rfl | exact Ex.neqPN rfl rfl | exact Ex.eqlSN rfl rfl | exact Ex.neqSN rfl rfl | exact Ex.lenStr rfl)) rfl ?_ | refine rs_skip rfl rfl ?_))
    refine rs_ex rfl (ex_neqSelf b rfl rfl) rfl ?_
    refine rs_end (qe_then ?_)
    refine ct_cond rfl (fun h => by cases h) (fun _ => ?_)
    refine ct_skip (qe_end (ret0 rfl ⟨rfl, rfl⟩))
theorem WriteByte_c (W0 : World) (b : Nat) (l : List UInt8) (c : UInt8) (H : List Chunk) (hl : l.length ≤ 1000000) :
    Call Tryd.prog W0 92 [.pointer (some ⟨b, 0, none⟩), .int .u8 c.toNat] (BuildC b l :: H) (fun r H' => r = .nilIface ∧ H' = BuildC b (l ++ [c]) :: H) := by
  refine Call.ex3 (β := Value) (γ := Unit) (H' := fun a v _ => Pr (a = .pointer none ∨ a = .pointer (some ⟨b, 0, none⟩)) (Blk b (.cells #[a, v] 141 (0, 0))) :: SlT 5 v l :: H) (fun w h => let ⟨a, v, h⟩ := BuildC.open h; ⟨a, v, (), h⟩) ?_
  intro a v _
  refine Call.pr (fun w h => (At.pr.1 h).1) (fun ha => ?_)
  refine Call.heap (fun w h => (At.pr.1 h).2) ?_
  refine call_enter Tryd.func92 rfl Tryd.ntmps92 rfl ?_
  ((repeat refine ct_seq ?_); refine ct_region ?_; repeat (first | refine rs_ex rfl (by (first | (constructor <;> first | rfl | exact RdC.rd | exact inferInstance) | exact Ex.pickF rfl rfl | exact Ex.eqlS rfl rfl | exact Ex.neqS rfl rfl | exact Ex.eqlPN rfl rfl | exact Ex.neqPN rfl rfl | exact Ex.eqlSN rfl rfl | exact Ex.neqSN rfl rfl | exact Ex.lenStr rfl)) rfl ?_ | refine rs_skip rfl rfl ?_))
  refine rs_end (qe_then ?_)
  ((repeat refine ct_seq ?_); refine ct_region ?_; repeat (first | refine rs_ex rfl (by (first | (constructor <;> first | rfl | exact RdC.rd | exact inferInstance) | exact Ex.pickF rfl rfl | exact Ex.eqlS rfl rfl | exact Ex.neqS rfl rfl | exact Ex.eqlPN rfl rfl | exact Ex.neqPN rfl rfl | exact Ex.eqlSN rfl rfl | exact Ex.neqSN rfl rfl | exact Ex.lenStr rfl)) rfl ?_ | refine rs_skip rfl rfl ?_))
  refine rs_op rfl rfl (opR_fn rfl ((CopyCheck_c W0 b a v _ ha).mono ?_))
  rintro r H' ⟨rfl, rfl⟩
  refine rs_end (qe_then ?_)
  refine ct_pr (fun w h => h.drop.slv) ?_; rintro ⟨p, cap, e, hv⟩
  cases e
  ((repeat refine ct_seq ?_); refine ct_region ?_; repeat (first | refine rs_ex rfl (by (first | (constructor <;> first | rfl | exact RdC.rd | exact inferInstance) | exact Ex.pickF rfl rfl | exact Ex.eqlS rfl rfl | exact Ex.neqS rfl rfl | exact Ex.eqlPN rfl rfl | exact Ex.neqPN rfl rfl | exact Ex.eqlSN rfl rfl | exact Ex.neqSN rfl rfl | exact Ex.lenStr rfl)) rfl ?_ | refine rs_skip rfl rfl ?_))
  refine rs_op rfl rfl (opR_buildSlice rfl rfl rfl rfl fun wb => ?_)
  refine rs_op rfl rfl (opR_append [c] rfl rfl (SlR.blk RdC.rd [c] rfl) rfl ?_ rfl fun p3 cap3 hv3 => ?_)
  · simp; omega
  repeat (first | refine rs_ex rfl (by (first | (constructor <;> first | rfl | exact RdC.rd | exact inferInstance) | exact Ex.pickF rfl rfl | exact Ex.eqlS rfl rfl | exact Ex.neqS rfl rfl | exact Ex.eqlPN rfl rfl | exact Ex.neqPN rfl rfl | exact Ex.eqlSN rfl rfl | exact Ex.neqSN rfl rfl | exact Ex.lenStr rfl)) rfl ?_ | refine rs_skip rfl rfl ?_)
  refine rs_opN rfl (opR_store rfl rfl rfl rfl ?_)
  refine rs_end (qe_then ?_)
  ((repeat refine ct_seq ?_); refine ct_region ?_; repeat (first | refine rs_ex rfl (by (first | (constructor <;> first | rfl | exact RdC.rd | exact inferInstance) | exact Ex.pickF rfl rfl | exact Ex.eqlS rfl rfl | exact Ex.neqS rfl rfl | exact Ex.eqlPN rfl rfl | exact Ex.neqPN rfl rfl | exact Ex.eqlSN rfl rfl | exact Ex.neqSN rfl rfl | exact Ex.lenStr rfl)) rfl ?_ | refine rs_skip rfl rfl ?_))
  refine rs_end (qe_then (ct_ret (qe_heap (fun w h => BuildC.shut (.inr rfl) h.drop) (ret1 rfl rfl ⟨rfl, rfl⟩))))
theorem WriteString_c (W0 : World) (b : Nat) (l : List UInt8) (s : ByteArray) (H : List Chunk) (hl : l.length + s.size ≤ 1000000) :
    Call Tryd.prog W0 80 [.pointer (some ⟨b, 0, none⟩), .string s] (BuildC b l :: H) (fun _r H' => H' = BuildC b (l ++ s.data.toList) :: H) := by
  refine Call.ex3 (β := Value) (γ := Unit) (H' := fun a v _ => Pr (a = .pointer none ∨ a = .pointer (some ⟨b, 0, none⟩)) (Blk b (.cells #[a, v] 141 (0, 0))) :: SlT 5 v l :: H) (fun w h => let ⟨a, v, h⟩ := BuildC.open h; ⟨a, v, (), h⟩) ?_
  intro a v _
  refine Call.pr (fun w h => (At.pr.1 h).1) (fun ha => ?_)
  refine Call.heap (fun w h => (At.pr.1 h).2) ?_
  refine call_enter Tryd.func80 rfl Tryd.ntmps80 rfl ?_
  ((repeat refine ct_seq ?_); refine ct_region ?_; repeat (first | refine rs_ex rfl (by (first | (constructor <;> first | rfl | exact RdC.rd | exact inferInstance) | exact Ex.pickF rfl rfl | exact Ex.eqlS rfl rfl | exact Ex.neqS rfl rfl | exact Ex.eqlPN rfl rfl | exact Ex.neqPN rfl rfl | exact Ex.eqlSN rfl rfl | exact Ex.neqSN rfl rfl | exact Ex.lenStr rfl)) rfl ?_ | refine rs_skip rfl rfl ?_))
  refine rs_end (qe_then ?_)
  ((repeat refine ct_seq ?_); refine ct_region ?_; repeat (first | refine rs_ex rfl (by (first | (constructor <;> first | rfl | exact RdC.rd | exact inferInstance) | exact Ex.pickF rfl rfl | exact Ex.eqlS rfl rfl | exact Ex.neqS rfl rfl | exact Ex.eqlPN rfl rfl | exact Ex.neqPN rfl rfl | exact Ex.eqlSN rfl rfl | exact Ex.neqSN rfl rfl | exact Ex.lenStr rfl)) rfl ?_ | refine rs_skip rfl rfl ?_))
  refine rs_op rfl rfl (opR_fn rfl ((CopyCheck_c W0 b a v _ ha).mono ?_))
  rintro r H' ⟨rfl, rfl⟩
  refine rs_end (qe_then ?_)
  refine ct_pr (fun w h => h.drop.slv) ?_; rintro ⟨p, cap, e, hv⟩
  cases e
  ((repeat refine ct_seq ?_); refine ct_region ?_; repeat (first | refine rs_ex rfl (by (first | (constructor <;> first | rfl | exact RdC.rd | exact inferInstance) | exact Ex.pickF rfl rfl | exact Ex.eqlS rfl rfl | exact Ex.neqS rfl rfl | exact Ex.eqlPN rfl rfl | exact Ex.neqPN rfl rfl | exact Ex.eqlSN rfl rfl | exact Ex.neqSN rfl rfl | exact Ex.lenStr rfl)) rfl ?_ | refine rs_skip rfl rfl ?_))
  refine rs_op rfl rfl (opR_appendStr s.data.toList rfl rfl rfl rfl ?_ rfl fun p3 cap3 hv3 => ?_)
  · simp; omega
  repeat (first | refine rs_ex rfl (by (first | (constructor <;> first | rfl | exact RdC.rd | exact inferInstance) | exact Ex.pickF rfl rfl | exact Ex.eqlS rfl rfl | exact Ex.neqS rfl rfl | exact Ex.eqlPN rfl rfl | exact Ex.neqPN rfl rfl | exact Ex.eqlSN rfl rfl | exact Ex.neqSN rfl rfl | exact Ex.lenStr rfl)) rfl ?_ | refine rs_skip rfl rfl ?_)
  refine rs_opN rfl (opR_store rfl rfl rfl rfl ?_)
  refine rs_end (qe_then ?_)
  ((repeat refine ct_seq ?_); refine ct_region ?_; repeat (first | refine rs_ex rfl (by (first | (constructor <;> first | rfl | exact RdC.rd | exact inferInstance) | exact Ex.pickF rfl rfl | exact Ex.eqlS rfl rfl | exact Ex.neqS rfl rfl | exact Ex.eqlPN rfl rfl | exact Ex.neqPN rfl rfl | exact Ex.eqlSN rfl rfl | exact Ex.neqSN rfl rfl | exact Ex.lenStr rfl)) rfl ?_ | refine rs_skip rfl rfl ?_))
  refine rs_end (qe_then (ct_ret (qe_heap (fun w h => BuildC.shut (.inr rfl) h) (ret2 rfl rfl rfl rfl))))
end Go.Rost
