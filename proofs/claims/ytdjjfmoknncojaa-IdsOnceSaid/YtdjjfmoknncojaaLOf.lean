/- The law IdsOnce: what it does. -/
import Derived.Test.YtdjjfmoknncojaaLOne
import Derived.Test.YtdjjfmoknncojaaSn
namespace Go.Rost
open Go Go.RowKit Go.Proofs

theorem IdsOnce_c (W0 : World) (p : Option Addr) (c : Nat) (l : List Msg) (h1 : SlR (At W0 []) p l) : Call Try.prog W0 3 [.slice p l.length c] [] (fun v _ => v = .bool true) := IdsOnce_of _ sort_msg W0 p c l h1
end Go.Rost
