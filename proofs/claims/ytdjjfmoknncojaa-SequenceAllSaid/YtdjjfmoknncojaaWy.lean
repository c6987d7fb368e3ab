/- A way of layer 11. -/
import Derived.Test.YtdjjfmoknncojaaS11
namespace Go.Rost
open Go Go.RowKit Go.Proofs

structure WayS where
  two : Bool
  at_ : Int
def WayS.v (a : WayS) : Value := .agg #[.bool a.two, .int .i64 a.at_]
instance : Enc WayS := ⟨2, WayS.v, fun a => [.bool a.two, .int .i64 a.at_], fun _ => rfl, fun _ => rfl, by decide⟩
instance : EncA WayS := ⟨fun _ => rfl⟩
end Go.Rost
