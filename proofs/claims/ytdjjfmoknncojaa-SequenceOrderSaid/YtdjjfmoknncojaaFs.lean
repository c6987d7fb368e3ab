/- Elements of owned slices. -/
import Derived.Test.YtdjjfmoknncojaaFt
import Derived.Test.YtdjjfmoknncojaaSt
namespace Go.Rost
open Go Go.RowKit

theorem SlV.some {α : Type} [Enc α] {p : Option Addr} {cap : Nat} {l : List α} (h : SlV p cap l) {i : Nat} (hi : i < l.length) : ∃ b, p = some ⟨b, 0, none⟩ := by
  rcases h.sh with ⟨_, _, rfl⟩ | h
  · simp at hi
  · exact h
/-- An owned slice that may be read, by its block. -/
class RdE (S : World → Prop) (b : Nat) (α : outParam Type) (ie : outParam (Enc α)) (l : outParam (List α)) : Prop where
  rd : ∀ w, S w → ∀ (i : Nat) (u : Value), (flat l)[i]? = some u → w.cell? ⟨b, i, none⟩ = some u
instance RdE.head {α : Type} {ie : Enc α} {W0 : World} {E : TypeId} {b n c : Nat} {l : List α} {H : List Chunk} : RdE (At W0 (SlT E (.slice (some ⟨b, 0, none⟩) n c) l :: H)) b α ie l := ⟨fun w hw i u hu => by
  have h : RdS (At W0 (SlT E (.slice (some ⟨b, 0, none⟩) n c) l :: H)) (.slice (some ⟨b, 0, none⟩) n c) l := inferInstance
  rcases h.rd w hw with ⟨e, _⟩ | ⟨b', cap', e, hr⟩
  · cases e
  · cases e
    exact hr i u hu⟩
instance (priority := low) RdE.tail {α : Type} {ie : Enc α} {W0 : World} {b : Nat} {l : List α} {c : Chunk} {H : List Chunk} [h : RdE (At W0 H) b α ie l] : RdE (At W0 (c :: H)) b α ie l := ⟨fun w hw => h.rd w hw.drop⟩
theorem RdE.get {α : Type} {ie : Enc α} {S : World → Prop} {b : Nat} {l : List α} [h : RdE S b α ie l] {i : Nat} {x : α} (hx : l[i]? = some x) : Rd S b (0 + (i : Int).toNat * Enc.n α) (Enc.enc x) := by
  rw [Int.toNat_natCast]
  exact Rd.get (l := l) (fun w hw j u hu => by simpa using h.rd w hw j u hu) hx
end Go.Rost
