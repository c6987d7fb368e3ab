/- What is owned, wrapped; a message as it is handed to a loop's body. -/
import Derived.Test.YtdjjfmoknncojaaCf
namespace Go.Rost
open Go Go.RowKit Go.Proofs

def encM (x : Msg) : List Value := [x.v]
theorem At.wrap {W0 : World} {H L : List Chunk} {w : World} (h : At W0 (L ++ H) w) : At W0 (Star H :: L) w := At.star.2 (h.perm List.perm_append_comm)
theorem At.unwrap {W0 : World} {H L : List Chunk} {w : World} (h : At W0 (Star H :: L) w) : At W0 (L ++ H) w := (At.star.1 h).perm List.perm_append_comm
theorem SlV.same {α : Type} [Enc α] {p : Option Addr} {c : Nat} {l k : List α} (h : SlV p c l) (e : k.length = l.length) : SlV p c k := ⟨by rw [e]; exact h.le, by
  rcases h.sh with ⟨e1, e2, e3⟩ | h
  · exact .inl ⟨e1, e2, List.length_eq_zero_iff.1 (by rw [e, e3]; rfl)⟩
  · exact .inr h⟩
end Go.Rost
