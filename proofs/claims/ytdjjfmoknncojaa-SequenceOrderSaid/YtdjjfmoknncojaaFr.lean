/- Ranges over functions: rounds. -/
import Derived.Test.YtdjjfmoknncojaaFs
import Derived.Test.YtdjjfmoknncojaaRf
namespace Go.Rost
open Go Go.RowKit

section
variable {C : Cx} {body : Code} {T : List Chunk} {K : Option Code → List Chunk → Prop} {σ : Env} {H L : List Chunk}
theorem qe_assignA [t : TailC H T L] (h : ∀ T', CT C [] body σ (L ++ T') (RQ C.N C.W0 T' K)) : QE C [] (AQ C body T K) .normal σ H := qe_assign L (fun _w h => t.eq ▸ h) h
theorem qe_roundA [t : TailC H T L] (hk : K none L) : QE C [] (RQ C.N C.W0 T K) .normal σ H := qe_round L (fun _w h => t.eq ▸ h) hk
end
end Go.Rost
