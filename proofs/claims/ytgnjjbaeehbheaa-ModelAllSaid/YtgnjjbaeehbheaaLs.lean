/- What the laws of layer 16 lean on. -/
import Derived.Test.YtgnjjbaeehbheaaCh
namespace Go.Rost
open Go Go.RowKit Go.Proofs

/-- One result, that lies in a row of cells. -/
theorem retC {P : Program} {r : Option Nat} {N : Nat} {W0 : World} {fn : Func} {σ : Env} {H : List Chunk} {K : Value → List Chunk → Prop} {t T n b o : Nat} {cs : Array Value} {vs : List Value} [TAgg P T n] (hr : fn.results = #[.cell t T]) (hv : σ.get t = some (.pointer (some ⟨b, o, none⟩)))
    (hn : vs.length = n) (hb : RdBlk (At W0 H) b cs) (hc : ∀ j v, vs[j]? = some v → cs[o + j]? = some v) (H' : List Chunk) (hh : ∀ w, At W0 H w → At W0 H' w) (hK : K (.agg vs.toArray) H') : QE ⟨P, r, N, W0⟩ [] (bodyPost P fn (RK W0 K)) .ret σ H :=
  fun a w hs hw => ⟨hs.defers, .agg vs.toArray, by
    have h1 := hs.get t _ hv
    have h2 : (loadVar T ⟨b, o, none⟩).run P w = .ok (.agg vs.toArray) w := by
      subst hn
      simp [loadVar, TAgg.agg (P := P) (T := T) (n := vs.length), TAgg.size (P := P) (T := T), run_loadCells (P := P) (w := w) (vs := vs) (b := b) (o := o) (fun j v e => hb.cell (hc j v e) hw)]
    simp [results, hr, h1, asAddr, h2, -Array.getD_eq_getD_getElem?], .agg vs.toArray, H', rfl, hK, hh w hw⟩
theorem Behind_nil (W0 : World) (f : Int) (H : List Chunk) : Call Try.prog W0 38 [.pointer none, .int .i64 f] H (fun v H' => v = .int .i64 (-1) ∧ H' = H) := by
  refine call_enter Try.func38 rfl Try.ntmps38 rfl ?_
  ((repeat refine ct_seq ?_); refine ct_region ?_; repeat (first | refine rs_ex rfl (by (first | (constructor <;> first | rfl | exact RdC.rd | exact inferInstance) | exact Ex.pickF rfl rfl | exact Ex.eqlS rfl rfl | exact Ex.neqS rfl rfl | exact Ex.eqlPN rfl rfl | exact Ex.neqPN rfl rfl | exact Ex.eqlSN rfl rfl | exact Ex.neqSN rfl rfl | exact Ex.lenStr rfl)) rfl ?_ | refine rs_skip rfl rfl ?_))
  refine rs_end (qe_then ?_)
  ((repeat refine ct_seq ?_); refine ct_region ?_; repeat (first | refine rs_ex rfl (by (first | (constructor <;> first | rfl | exact RdC.rd | exact inferInstance) | exact Ex.pickF rfl rfl | exact Ex.eqlS rfl rfl | exact Ex.neqS rfl rfl | exact Ex.eqlPN rfl rfl | exact Ex.neqPN rfl rfl | exact Ex.eqlSN rfl rfl | exact Ex.neqSN rfl rfl | exact Ex.lenStr rfl)) rfl ?_ | refine rs_skip rfl rfl ?_))
  refine rs_end (qe_then ?_)
  refine ct_cond rfl (fun _ => ?_) (fun h => by cases h)
  ((repeat refine ct_seq ?_); refine ct_region ?_; repeat (first | refine rs_ex rfl (by (first | (constructor <;> first | rfl | exact RdC.rd | exact inferInstance) | exact Ex.pickF rfl rfl | exact Ex.eqlS rfl rfl | exact Ex.neqS rfl rfl | exact Ex.eqlPN rfl rfl | exact Ex.neqPN rfl rfl | exact Ex.eqlSN rfl rfl | exact Ex.neqSN rfl rfl | exact Ex.lenStr rfl)) rfl ?_ | refine rs_skip rfl rfl ?_))
  exact rs_end (qe_then (ct_ret (ret1 rfl rfl ⟨rfl, rfl⟩)))
theorem Hap_c (W0 : World) (a b c d : Int) (H : List Chunk) : Call Try.prog W0 40 [.int .i64 a, .int .i64 b, .int .i64 c, .int .u32 d] H (fun v H' => v = (⟨a, b, ⟨⟨c, d⟩, ⟨#[]⟩⟩⟩ : Happ).v ∧ H' = H) := by
  refine call_enter Try.func40 rfl Try.ntmps40 rfl ?_
  ((repeat refine ct_seq ?_); refine ct_region ?_)
  refine rs_op rfl rfl (opR_alloc fun b8 => ?_)
  refine rs_end (qe_then ?_)
  ((repeat refine ct_seq ?_); refine ct_region ?_; repeat (first | refine rs_ex rfl (by (first | (constructor <;> first | rfl | exact RdC.rd | exact inferInstance) | exact Ex.pickF rfl rfl | exact Ex.eqlS rfl rfl | exact Ex.neqS rfl rfl | exact Ex.eqlPN rfl rfl | exact Ex.neqPN rfl rfl | exact Ex.eqlSN rfl rfl | exact Ex.neqSN rfl rfl | exact Ex.lenStr rfl)) rfl ?_ | refine rs_skip rfl rfl ?_))
  refine rs_ex rfl (ex_build rfl) rfl ?_
  refine rs_ex rfl (ex_build rfl) rfl ?_
  refine rs_ex rfl (ex_build rfl) rfl ?_
  refine rs_opN rfl (opR_store rfl rfl rfl rfl ?_)
  refine rs_end (qe_then (ct_ret (retC (vs := Happ.cells ⟨a, b, ⟨⟨c, d⟩, ⟨#[]⟩⟩⟩) rfl rfl rfl RdC.rd (fun j v e => ?_) H (fun w h => h.drop) ⟨rfl, rfl⟩)))
  rw [Nat.zero_add, ← e]
  simp [Happ.cells]
end Go.Rost
