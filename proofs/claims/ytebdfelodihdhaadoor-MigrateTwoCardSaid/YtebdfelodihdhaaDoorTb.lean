/- Strings as lists of bytes. -/
import Derived.Test.YtebdfelodihdhaaDoorBs
namespace Go.Rost
open Go Go.RowKit Go.Proofs

def toB (l : List UInt8) : ByteArray := ⟨l.toArray⟩
theorem toB_add (l m : List UInt8) : toB l ++ toB m = toB (l ++ m) := by
  apply ByteArray.ext
  apply Array.toList_inj.mp
  simp [toB]
theorem toB_size (l : List UInt8) : (toB l).size = l.length := by
  show (l.toArray).size = l.length
  simp
theorem toB_self (s : ByteArray) : toB s.data.toList = s := by simp [toB]
end Go.Rost
