/- What is owned, wrapped; a message as it is handed to a loop's body. -/
import Derived.Test.YtdjjfmoknncojaaCf
namespace Go.Rost
open Go Go.RowKit Go.Proofs

def msgM (f c : Int) : Msg := ⟨⟨f, c⟩, ⟨#[109]⟩⟩
def encM (x : Msg) : List Value := [x.v]
theorem At.wrap {W0 : World} {H L : List Chunk} {w : World} (h : At W0 (L ++ H) w) : At W0 (Star H :: L) w := At.star.2 (h.perm List.perm_append_comm)
theorem At.unwrap {W0 : World} {H L : List Chunk} {w : World} (h : At W0 (Star H :: L) w) : At W0 (L ++ H) w := (At.star.1 h).perm List.perm_append_comm
theorem SlV.same {α : Type} [Enc α] {p : Option Addr} {c : Nat} {l k : List α} (h : SlV p c l) (e : k.length = l.length) : SlV p c k := ⟨by rw [e]; exact h.le, by
  rcases h.sh with ⟨e1, e2, e3⟩ | h
  · exact .inl ⟨e1, e2, List.length_eq_zero_iff.1 (by rw [e, e3]; rfl)⟩
  · exact .inr h⟩
theorem SlV.nil_of {α : Type} [Enc α] {p : Option Addr} {c : Nat} {l : List α} (h : SlV p c l) (e : p = none) : l = [] := by
  rcases h.sh with h | ⟨b, h⟩
  · exact h.2.2
  · rw [e] at h; cases h
theorem retC2 {P : Program} {r : Option Nat} {N : Nat} {W0 : World} {fn : Func} {σ : Env} {H : List Chunk} {K : Value → List Chunk → Prop} {t T n u b o : Nat} {cs : Array Value} {vs : List Value} {v' : Value} [TAgg P T n] (hr : fn.results = #[.cell t T, .tmp u]) (hv : σ.get t = some (.pointer (some ⟨b, o, none⟩))) (hu : σ.get u = some v')
    (hn : vs.length = n) (hb : RdBlk (At W0 H) b cs) (hc : ∀ j v, vs[j]? = some v → cs[o + j]? = some v) (H' : List Chunk) (hh : ∀ w, At W0 H w → At W0 H' w) (hK : K (.tuple #[.agg vs.toArray, v']) H') : QE ⟨P, r, N, W0⟩ [] (bodyPost P fn (RK W0 K)) .ret σ H :=
  fun a w hs hw => ⟨hs.defers, .tuple #[.agg vs.toArray, v'], by
    have h1 := hs.get t _ hv
    have h1' := hs.get u _ hu
    have h2 : (loadVar T ⟨b, o, none⟩).run P w = .ok (.agg vs.toArray) w := by
      subst hn
      simp [loadVar, TAgg.agg (P := P) (T := T) (n := vs.length), TAgg.size (P := P) (T := T), run_loadCells (P := P) (w := w) (vs := vs) (b := b) (o := o) (fun j v e => hb.cell (hc j v e) hw)]
    simp [results, hr, h1, h1', asAddr, h2, -Array.getD_eq_getD_getElem?], _, H', rfl, hK, hh w hw⟩
end Go.Rost
