/- The head of the laws of layer 16. -/
import Derived.Test.YtgnjjbaeehbheaaLs
namespace Go.Rost
open Go Go.RowKit Go.Proofs

theorem Shown16_c (W0 : World) (H : List Chunk) : Call Try.prog W0 30 [] H (fun v H' => v = .bool true ∧ H' = H) := by
  refine call_enter Try.func30 rfl Try.ntmps30 rfl ?_
  ((repeat refine ct_seq ?_); refine ct_region ?_; repeat (first | refine rs_ex rfl (by (first | (constructor <;> first | rfl | exact RdC.rd | exact inferInstance) | exact Ex.pickF rfl rfl | exact Ex.eqlS rfl rfl | exact Ex.neqS rfl rfl | exact Ex.eqlPN rfl rfl | exact Ex.neqPN rfl rfl | exact Ex.eqlSN rfl rfl | exact Ex.neqSN rfl rfl | exact Ex.lenStr rfl)) rfl ?_ | refine rs_skip rfl rfl ?_))
  refine rs_end (qe_then ?_)
  ((repeat refine ct_seq ?_); refine ct_region ?_)
  refine rs_op rfl rfl (opR_fn rfl ((Hap_c W0 1 0 0 1 _).mono ?_))
  rintro v H' ⟨rfl, rfl⟩
  refine rs_op rfl rfl (opR_fn rfl ((Hap_c W0 3 1 0 1 _).mono ?_))
  rintro v H' ⟨rfl, rfl⟩
  refine rs_op rfl rfl (opR_fn rfl ((Hap_c W0 3 0 0 1 _).mono ?_))
  rintro v H' ⟨rfl, rfl⟩
  refine rs_op rfl rfl (opR_fn rfl ((Hap_c W0 3 0 0 1 _).mono ?_))
  rintro v H' ⟨rfl, rfl⟩
  refine rs_op rfl rfl (opR_buildSlice (L := flat [(⟨1, 0, ⟨⟨0, 1⟩, ⟨#[]⟩⟩⟩ : Happ), ⟨3, 1, ⟨⟨0, 1⟩, ⟨#[]⟩⟩⟩, ⟨3, 0, ⟨⟨0, 1⟩, ⟨#[]⟩⟩⟩, ⟨3, 0, ⟨⟨0, 1⟩, ⟨#[]⟩⟩⟩]) (hf := by exact ⟨fun _ => rfl⟩) rfl rfl rfl rfl fun wb => ?_)
  refine rs_op rfl rfl (opR_fn rfl ((Check_c W0 2 (some ⟨wb, 0, none⟩) 4 [⟨1, 0, ⟨⟨0, 1⟩, ⟨#[]⟩⟩⟩, ⟨3, 1, ⟨⟨0, 1⟩, ⟨#[]⟩⟩⟩, ⟨3, 0, ⟨⟨0, 1⟩, ⟨#[]⟩⟩⟩, ⟨3, 0, ⟨⟨0, 1⟩, ⟨#[]⟩⟩⟩] _ (SlR.blk RdC.rd _ rfl) (by decide)).mono ?_))
  rw [show checkN 2 [⟨1, 0, ⟨⟨0, 1⟩, ⟨#[]⟩⟩⟩, ⟨3, 1, ⟨⟨0, 1⟩, ⟨#[]⟩⟩⟩, ⟨3, 0, ⟨⟨0, 1⟩, ⟨#[]⟩⟩⟩, ⟨3, 0, ⟨⟨0, 1⟩, ⟨#[]⟩⟩⟩] = (3, 160) by decide +kernel]
  rintro v H' ⟨rfl, rfl⟩
  repeat (first | refine rs_ex rfl (by (first | (constructor <;> first | rfl | exact RdC.rd | exact inferInstance) | exact Ex.pickF rfl rfl | exact Ex.eqlS rfl rfl | exact Ex.neqS rfl rfl | exact Ex.eqlPN rfl rfl | exact Ex.neqPN rfl rfl | exact Ex.eqlSN rfl rfl | exact Ex.neqSN rfl rfl | exact Ex.lenStr rfl)) rfl ?_ | refine rs_skip rfl rfl ?_)
  refine rs_end (qe_then ?_)
  refine ct_heap (fun w h => h.drop) ?_
  ((repeat refine ct_seq ?_); refine ct_region ?_)
  refine rs_op rfl rfl (opR_fn rfl ((Hap_c W0 1 0 0 1 _).mono ?_))
  rintro v H' ⟨rfl, rfl⟩
  refine rs_op rfl rfl (opR_fn rfl ((Hap_c W0 2 1 7 7 _).mono ?_))
  rintro v H' ⟨rfl, rfl⟩
  refine rs_op rfl rfl (opR_buildSlice rfl rfl rfl rfl fun wb => ?_)
  refine rs_op rfl rfl (opR_fn rfl ((Check_c W0 2 (some ⟨wb, 0, none⟩) 2 [⟨1, 0, ⟨⟨0, 1⟩, ⟨#[]⟩⟩⟩, ⟨2, 1, ⟨⟨7, 7⟩, ⟨#[]⟩⟩⟩] _ (SlR.blk RdC.rd _ rfl) (by decide)).mono ?_))
  rw [show checkN 2 [⟨1, 0, ⟨⟨0, 1⟩, ⟨#[]⟩⟩⟩, ⟨2, 1, ⟨⟨7, 7⟩, ⟨#[]⟩⟩⟩] = (2, 0) by decide +kernel]
  rintro v H' ⟨rfl, rfl⟩
  repeat (first | refine rs_ex rfl (by (first | (constructor <;> first | rfl | exact RdC.rd | exact inferInstance) | exact Ex.pickF rfl rfl | exact Ex.eqlS rfl rfl | exact Ex.neqS rfl rfl | exact Ex.eqlPN rfl rfl | exact Ex.neqPN rfl rfl | exact Ex.eqlSN rfl rfl | exact Ex.neqSN rfl rfl | exact Ex.lenStr rfl)) rfl ?_ | refine rs_skip rfl rfl ?_)
  refine rs_end (qe_then ?_)
  refine ct_heap (fun w h => h.drop) ?_
  ((repeat refine ct_seq ?_); refine ct_region ?_)
  refine rs_op rfl rfl (opR_fn rfl ((Check_c W0 0 none 0 [] _ .nil (by decide)).mono ?_))
  rw [show checkN 0 [] = (0, 2) by decide]
  rintro v H' ⟨rfl, rfl⟩
  repeat (first | refine rs_ex rfl (by (first | (constructor <;> first | rfl | exact RdC.rd | exact inferInstance) | exact Ex.pickF rfl rfl | exact Ex.eqlS rfl rfl | exact Ex.neqS rfl rfl | exact Ex.eqlPN rfl rfl | exact Ex.neqPN rfl rfl | exact Ex.eqlSN rfl rfl | exact Ex.neqSN rfl rfl | exact Ex.lenStr rfl)) rfl ?_ | refine rs_skip rfl rfl ?_)
  refine rs_end (qe_then ?_)
  ((repeat refine ct_seq ?_); refine ct_region ?_; repeat (first | refine rs_ex rfl (by (first | (constructor <;> first | rfl | exact RdC.rd | exact inferInstance) | exact Ex.pickF rfl rfl | exact Ex.eqlS rfl rfl | exact Ex.neqS rfl rfl | exact Ex.eqlPN rfl rfl | exact Ex.neqPN rfl rfl | exact Ex.eqlSN rfl rfl | exact Ex.neqSN rfl rfl | exact Ex.lenStr rfl)) rfl ?_ | refine rs_skip rfl rfl ?_))
  exact rs_end (qe_then (ct_ret (ret1 rfl rfl ⟨rfl, rfl⟩)))
end Go.Rost
