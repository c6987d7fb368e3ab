/- errors.Is at the one sentinel; comparing errors with nil. -/
import Derived.Test.YtebdfelodihdhaaDoorVe
import Derived.WalkKit
import Derived.LaidEql
import Derived.Stop.Asserts
import Derived.Stop.IfaceNil
import Derived.RowKitTokens
namespace Go.Rost
open Go Go.RowKit Go.Proofs Go.Extern.Stop Go.Stop Go.Extern

theorem es_typeOf (v : Value) (w : World) : (callFunc 60 #[.iface 160 v]).run Tryd.prog w = .ok (.value (.iface 117 (.agg #[.pointer (some ⟨2, 160, none⟩)]))) w := by kernel_rfl
theorem es_comparable (w : World) : (callFunc 116 #[.agg #[.pointer (some ⟨2, 160, none⟩)]]).run Tryd.prog w = .ok (.value (.bool true)) w := by kernel_rfl
theorem es_method (v : Value) (w : World) : (Go.method 294 117 v "Comparable").run Tryd.prog w = .ok (116, v) w := by kernel_rfl
theorem es_comp : (Tryd.prog.info? 160).map (·.comparable) = some true := by kernel_rfl
theorem es_size : (Tryd.prog.info? 183).map (·.size) = some 1 := by kernel_rfl
set_option maxRecDepth 100000 in
theorem is_same (a : Addr) (w : World) :
    Calls Tryd.prog 40 #[.iface 160 (.pointer (some a)), .iface 160 (.pointer (some a))] w fun e w' => e = .returned (.bool true) ∧ w' = w := by
  obtain ⟨i, hi, hcmp⟩ := Option.map_eq_some_iff.1 es_comp
  obtain ⟨j, hj, hjs⟩ := Option.map_eq_some_iff.1 es_size
  have tT := es_typeOf
  have cT := es_comparable
  have mR := es_method
  have heq := run_eql_iface_ptr_same (P := Tryd.prog) w a Tryd.underlying66 Tryd.underlying160 hi hcmp hj
  go_enter Tryd.func40, Tryd.ntmps40
  go_wp2
  refine wp_loop_rounds 1 ?_
  rw [rounds_succ]
  go_wp2
  go_ret
  exact ⟨rfl, rfl⟩
set_option maxRecDepth 100000 in
theorem is_nil (b : Addr) (w : World) :
    Calls Tryd.prog 40 #[.nilIface, .iface 160 (.pointer (some b))] w fun e w' => e = .returned (.bool false) ∧ w' = w := by
  have hn := run_eql_iface_nil_left (P := Tryd.prog) w 160 (.pointer (some b)) Tryd.underlying66
  go_enter Tryd.func40, Tryd.ntmps40
  go_wp2
  go_ret
  exact ⟨rfl, rfl⟩
/-- An error: none, or the sentinel. -/
def errV (a : Addr) (b : Bool) : Value := if b then .iface 160 (.pointer (some a)) else .nilIface
def errF (a : Addr) : Value := .iface 160 (.pointer (some a))
theorem Is_c (W0 : World) (a : Addr) (b : Bool) (H : List Chunk) : Call Tryd.prog W0 40 [errV a b, errF a] H (fun v H' => v = .bool b ∧ H' = H) := fun w hw => by
  cases b with
  | true => exact (is_same a w).mono fun e w' ⟨h1, h2⟩ => by subst h1; subst h2; exact ⟨_, _, rfl, ⟨rfl, rfl⟩, hw⟩
  | false => exact (is_nil a w).mono fun e w' ⟨h1, h2⟩ => by subst h1; subst h2; exact ⟨_, _, rfl, ⟨rfl, rfl⟩, hw⟩
theorem ex_errNil {S : World → Prop} {σ : Env} {x : Operand} {T' : TypeId} {a : Addr} {b : Bool} (hx : σ.val x = some (errV a b)) : Ex Tryd.prog S σ (.binOp .neq 66 x (.const .nilIface) T') (.bool b) := by
  refine Ex.any (fun ρ hρ c hop w hw => ?_) (fun _ _ e => by cases e) (fun _ e => by cases e)
  cases b with
  | true =>
    have h := run_neq_iface_nil (P := Tryd.prog) (w := w) 66 (by kernel_rfl) 160 (.pointer (some a))
    have hg : (eqGuard .neq 66 x (.const .nilIface) (.iface 160 (.pointer (some a))) .nilIface).run Tryd.prog w = .ok () w := rfl
    simp only [execOp, hop, hρ _ _ hx, errV, if_true, Sem.run_bind]
    simp only [hρ (.const .nilIface) .nilIface rfl, hg, Result.andThen_ok, h, Sem.run_pure]
  | false =>
    have hg : (eqGuard .neq 66 x (.const .nilIface) .nilIface .nilIface).run Tryd.prog w = .ok () w := by cases x <;> rfl
    have h : (binOp .neq 66 .nilIface .nilIface).run Tryd.prog w = .ok (.bool false) w := by kernel_rfl
    simp only [execOp, hop, hρ _ _ hx, errV, Bool.false_eq_true, if_false, Sem.run_bind]
    simp only [hρ (.const .nilIface) .nilIface rfl, hg, Result.andThen_ok, h, Sem.run_pure]
end Go.Rost
