/- The reference of layer 10: which messages are. -/
import Derived.Test.YtdjjfmoknncojaaL10
namespace Go.Rost
open Go Go.RowKit Go.Proofs

theorem RefRight_c (W0 : World) (m : Msg) (H : List Chunk) : Call Try.prog W0 50 [m.v] H (fun v H' => v = .bool m.right ∧ H' = H) := by
  refine call_enter Try.func50 rfl Try.ntmps50 rfl ?_
  ((repeat refine ct_seq ?_); refine ct_region ?_)
  refine rs_op rfl rfl (opR_box rfl ?_); intro b
  repeat (first | refine rs_ex rfl (by (first | (constructor <;> first | rfl | exact RdC.rd | exact inferInstance) | exact Ex.pickF rfl rfl | exact Ex.eqlS rfl rfl | exact Ex.neqS rfl rfl | exact Ex.eqlPN rfl rfl | exact Ex.neqPN rfl rfl | exact Ex.eqlSN rfl rfl | exact Ex.neqSN rfl rfl | exact Ex.lenStr rfl)) rfl ?_ | refine rs_skip rfl rfl ?_)
  refine rs_end (qe_then ?_)
  ((repeat refine ct_seq ?_); refine ct_region ?_)
  repeat' (first | (first | refine rs_ex rfl (by (first | (constructor <;> first | rfl | exact RdC.rd | exact inferInstance) | exact Ex.pickF rfl rfl | exact Ex.eqlS rfl rfl | exact Ex.neqS rfl rfl | exact Ex.eqlPN rfl rfl | exact Ex.neqPN rfl rfl | exact Ex.eqlSN rfl rfl | exact Ex.neqSN rfl rfl | exact Ex.lenStr rfl)) rfl ?_ | refine rs_skip rfl rfl ?_) | (refine rs_split (fun h => ?_) (fun h => ?_) <;> (first | refine rs_ex rfl (by (first | (constructor <;> first | rfl | exact RdC.rd | exact inferInstance) | exact Ex.pickF rfl rfl | exact Ex.eqlS rfl rfl | exact Ex.neqS rfl rfl | exact Ex.eqlPN rfl rfl | exact Ex.neqPN rfl rfl | exact Ex.eqlSN rfl rfl | exact Ex.neqSN rfl rfl | exact Ex.lenStr rfl)) rfl ?_ | refine rs_skip rfl rfl ?_)))
  all_goals
    refine rs_end (qe_then (ct_ret (qe_heap (fun _ h => h.drop) ?_)))
    refine ret1 rfl rfl ⟨?_, rfl⟩
    first | (simp_all [Msg.right]; done) | (simp_all [Msg.right]; omega)
end Go.Rost
