/- The head of the laws of layer 14; an entry cut; two lists of eras. -/
import Derived.Test.YtebdfelodihdhaaDoorFl
import Derived.Test.YtebdfelodihdhaaDoorL10
namespace Go.Rost
open Go Go.RowKit Go.Proofs

def Ent.cutE (e : Ent) : Ent := { e with msgs := cutL (e.msgs.take 70) }
theorem cutL_len (l : List Msg) : (cutL l).length ≤ 80 := by simp [cutL]; omega
end Go.Rost
