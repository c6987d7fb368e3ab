/- A result that lies in a row of cells. -/
import Derived.Test.YtdjjfmoknncojaaHx
namespace Go.Rost
open Go Go.RowKit

/-- One result, that lies in a row of cells. -/
theorem retC {P : Program} {r : Option Nat} {N : Nat} {W0 : World} {fn : Func} {σ : Env} {H : List Chunk} {K : Value → List Chunk → Prop} {t T n b o : Nat} {cs : Array Value} {vs : List Value} [TAgg P T n] (hr : fn.results = #[.cell t T]) (hv : σ.get t = some (.pointer (some ⟨b, o, none⟩)))
    (hn : vs.length = n) (hb : RdBlk (At W0 H) b cs) (hc : ∀ j v, vs[j]? = some v → cs[o + j]? = some v) (H' : List Chunk) (hh : ∀ w, At W0 H w → At W0 H' w) (hK : K (.agg vs.toArray) H') : QE ⟨P, r, N, W0⟩ [] (bodyPost P fn (RK W0 K)) .ret σ H :=
  fun a w hs hw => ⟨hs.defers, .agg vs.toArray, by
    have h1 := hs.get t _ hv
    have h2 : (loadVar T ⟨b, o, none⟩).run P w = .ok (.agg vs.toArray) w := by
      subst hn
      simp [loadVar, TAgg.agg (P := P) (T := T) (n := vs.length), TAgg.size (P := P) (T := T), run_loadCells (P := P) (w := w) (vs := vs) (b := b) (o := o) (fun j v e => hb.cell (hc j v e) hw)]
    simp [results, hr, h1, asAddr, h2, -Array.getD_eq_getD_getElem?], .agg vs.toArray, H', rfl, hK, hh w hw⟩
/-- A field of a struct that is a value. -/
theorem ex_field {P : Program} {S : World → Prop} {σ : Env} {T : TypeId} {x : Operand} {i : Nat} {fs : Array Field} {f : Field} {cs : Array Value} {v : Value} (hu : P.underlying T = some (.struct fs)) (hf : fs[i]? = some f) (t : TypeId) (ht : f.type = t) [hp : TPlain P t] (hx : σ.val x = some (.agg cs)) (hv : cs[f.offset]? = some v) : Ex P S σ (.field T x i) v := by
  refine Ex.any (fun ρ hρ d hop w hw => ?_) (fun _ _ e => by cases e) (fun _ e => by cases e)
  subst ht
  simp [execOp, hop, hρ _ _ hx, Instr.field, run_underlying hu, hf, part, hp.agg, asAgg, hv]
end Go.Rost
