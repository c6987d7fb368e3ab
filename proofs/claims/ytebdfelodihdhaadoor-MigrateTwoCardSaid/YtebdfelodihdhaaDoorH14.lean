/- The head of the laws of layer 14: are eras known? The law EpochNone. -/
import Derived.Test.YtebdfelodihdhaaDoorS14
namespace Go.Rost
open Go Go.RowKit Go.Proofs

def shE1 : Ent := ⟨2, 1, 2, []⟩
def shE2 : Ent := ⟨2, 1, 3, []⟩
def shE3 : Ent := ⟨3, 2, 0, []⟩
def shE4 : Ent := ⟨0, 0, 0, []⟩
def shF1 : Fold := ((Fold.new 1).apply shE1).2
def shF2 : Fold := (shF1.apply shE2).2
def shF3 : Fold := (shF2.apply shE3).2
def shF4 : Fold := (shF3.apply shE4).2
theorem shR1 : ((Fold.new 1).apply shE1).1 = ([], true, 0) := by decide +kernel
theorem shR2 : (shF1.apply shE2).1 = ([], false, 0) := by decide +kernel
theorem shR3 : (shF2.apply shE3).1 = ([], true, 0) := by decide +kernel
theorem shR4 : (shF3.apply shE4).1 = ([], false, 140) := by decide +kernel
theorem shC4 : shF4.count = 3 := by decide +kernel
theorem shG4 : shF4.eras = [⟨1, 1, 0⟩, ⟨2, 2, 1⟩, ⟨3, 1, 3⟩] := by decide +kernel
theorem shO1 : shF1.Ok 1 := (Fold.ok_new 1).apply (by omega) _
theorem shO2 : shF2.Ok 2 := shO1.apply (by omega) _
theorem shO3 : shF3.Ok 3 := shO2.apply (by omega) _
theorem shO4 : shF4.Ok 4 := shO3.apply (by omega) _
end Go.Rost
