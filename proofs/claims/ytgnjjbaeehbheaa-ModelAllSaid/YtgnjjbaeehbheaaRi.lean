/- Rows of whole numbers as they are handed. -/
import Derived.Test.YtgnjjbaeehbheaaRw
namespace Go.Rost
open Go Go.RowKit Go.Proofs Go.ChangeShapes Go.WideShapes Go.ChangeAt

instance : ArgE Try.prog 3 Int := ⟨fun n => -9223372036854775808 ≤ n ∧ n ≤ 9223372036854775807, by kernel_rfl, fun {H enc W sp held fuel cs y} hl h => by
  match cs, hl with
  | [c], _ =>
    obtain ⟨n, rfl, hn⟩ := trod_int (P := Try.prog) (t := 3) (k := .i64) (by kernel_rfl) h
    exact ⟨n, lit_i64 hn, rfl⟩⟩
end Go.Rost
