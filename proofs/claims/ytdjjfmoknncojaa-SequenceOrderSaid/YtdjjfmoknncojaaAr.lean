/- Arrays that lie in a row of cells. -/
import Derived.Test.YtdjjfmoknncojaaFs
import Derived.Test.YtdjjfmoknncojaaEq
namespace Go.Rost
open Go Go.RowKit

theorem ex_indexArr {P : Program} {S : World → Prop} {σ : Env} {T E n m : TypeId} {x y : Operand} {b o : Nat} {k : IntKind} {i : Int} [hT : TUnder P T (.array m E)] [hE : TSize P E n] (hx : σ.val x = some (.pointer (some ⟨b, o, none⟩))) (hy : σ.val y = some (.int k i))
    (h0 : 0 ≤ i) (h1 : i < m) : Ex P S σ (.indexAddr T x y) (.pointer (some ⟨b, o + i.toNat * n, none⟩)) := by
  refine Ex.any (fun ρ hρ c hop w hw => ?_) (fun _ _ e => by cases e) (fun _ e => by cases e)
  simp [execOp, hop, hρ _ _ hx, hρ _ _ hy, Instr.indexAt, asIntOf, hT.under, hE.size, Instr.sureAddr, h0, h1, Addr.add_none]
/-- Whole numbers of 32 bits, one behind the other. -/
def u32s (l : List Int) : List Value := l.map u32V
theorem u32s_length (l : List Int) : (u32s l).length = l.length := List.length_map _
theorem u32s_get {l : List Int} {i : Nat} {x : Int} (h : l[i]? = some x) : (u32s l).toArray[i]? = some (.int .u32 x) := by
  simp [u32s, h]
  rfl
theorem u32s_set (l : List Int) (i : Nat) (x : Int) : (u32s l).set i (.int .u32 x) = u32s (l.set i x) := by rw [u32s, u32s, List.map_set]; rfl
end Go.Rost
