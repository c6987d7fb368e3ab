/-
  No cell of these rows narrows 'for every input' (looked for: loops, veiled, ifaces, maps, wideKeys, modest, calm, conditions, laid).
  DERIVED. THE GIVEN ROWS OF THIS SEAT. 5 by the template 'for every input the law returns true; each argument reads behind the call as it read before'; 0 by the template 'total and deterministic' (their statements: YtebdfelodihdhaaTotals.lean).
  GIVEN WITH THE SEED: the statements are not yours to turn. If you find one false, say at which input.
  Laid BY PROGRAM, IN A SANDBOX (cutbox-rows.mjs): the forced cells as the released guide's own fill.sh prints them over the translation 1bcbfe686738e8ba… (all of the seat's roots in one cut). By AI agents, Wed Nov 11 2026. No macro, syntax, notation, axiom, sorry.
-/
import Derived.Test.YtebdfelodihdhaaChecked
import GoSem.Claim
import GoSem.ClaimJoined
import GoSem.ClaimMapViews
import Derived.JoinedTies
import Derived.KernelRfl
namespace Go.Proofs.Ytebdfelodihdhaa
/- THE CELL 'sum', in the pinned program and in every row, IS THE sha256 OF THE DUMP (.gsa) THAT YtebdfelodihdhaaProg.lean LOADS. Nothing in Lean hashes anything: it is a label: what it is worth is what the hold of that sum in a sandbox is worth. -/
noncomputable def Try.pinned : Pinned := { name := "ytebdfelodihdhaa", sum := "1bcbfe686738e8ba06d57de4508e912189b7435cde4d4dd2c10f56163427a39b", checked := Try.checked }
namespace Rows
def none {H : Type} : Left H := { results := [], args := [] }

/-- 'rostrumlaw14.EpochEras': WHATEVER THE INPUT: true; the input reads as it did. -/
def epochErasSpec : ChangeSpec := { name := "epochEras", fn := fun _ => fun
  | [d1, d2] => { results := [.lit (.bool true)], args := [d1, d2] }
  | _ => none }
def epochErasRow : OpenClaim := { program := "ytebdfelodihdhaa", sum := "1bcbfe686738e8ba06d57de4508e912189b7435cde4d4dd2c10f56163427a39b", func := "rostrum/rostrumlaw14.EpochEras", spec := "epochEras", inPlace := ["internal/abi.NoEscape", "internal/bytealg.MakeNoZero"], unfollowed := true, recurses := true, plainKeys := false, apart := false }
def EpochErasSaid : Prop := epochErasRow.holds Try.pinned (OpenSpec.ofChange epochErasSpec)

/-- ITS FALSE NEIGHBOUR: 'it returns false'. Refute it at one input. -/
def epochErasWrong : ChangeSpec := { name := "epochEras", fn := fun _ => fun
  | [d1, d2] => { results := [.lit (.bool false)], args := [d1, d2] }
  | _ => none }
def EpochErasWrongFalsely : Prop := epochErasRow.holds Try.pinned (OpenSpec.ofChange epochErasWrong)

/-- 'rostrumlaw14.EpochNone': WHATEVER THE INPUT: true; the input reads as it did. -/
def epochNoneSpec : ChangeSpec := { name := "epochNone", fn := fun _ => fun
  | [d] => { results := [.lit (.bool true)], args := [d] }
  | _ => none }
def epochNoneRow : OpenClaim := { program := "ytebdfelodihdhaa", sum := "1bcbfe686738e8ba06d57de4508e912189b7435cde4d4dd2c10f56163427a39b", func := "rostrum/rostrumlaw14.EpochNone", spec := "epochNone", inPlace := ["internal/abi.NoEscape", "internal/bytealg.MakeNoZero"], unfollowed := true, recurses := true, plainKeys := false, apart := false }
def EpochNoneSaid : Prop := epochNoneRow.holds Try.pinned (OpenSpec.ofChange epochNoneSpec)

/-- ITS FALSE NEIGHBOUR: 'it returns false'. Refute it at one input. -/
def epochNoneWrong : ChangeSpec := { name := "epochNone", fn := fun _ => fun
  | [d] => { results := [.lit (.bool false)], args := [d] }
  | _ => none }
def EpochNoneWrongFalsely : Prop := epochNoneRow.holds Try.pinned (OpenSpec.ofChange epochNoneWrong)

/-- 'rostrumlaw14.EpochPrefix': WHATEVER THE INPUT: true; the input reads as it did. -/
def epochPrefixSpec : ChangeSpec := { name := "epochPrefix", fn := fun _ => fun
  | [d1, d2, d3] => { results := [.lit (.bool true)], args := [d1, d2, d3] }
  | _ => none }
def epochPrefixRow : OpenClaim := { program := "ytebdfelodihdhaa", sum := "1bcbfe686738e8ba06d57de4508e912189b7435cde4d4dd2c10f56163427a39b", func := "rostrum/rostrumlaw14.EpochPrefix", spec := "epochPrefix", inPlace := ["internal/abi.NoEscape", "internal/bytealg.MakeNoZero"], unfollowed := true, recurses := true, plainKeys := false, apart := false }
def EpochPrefixSaid : Prop := epochPrefixRow.holds Try.pinned (OpenSpec.ofChange epochPrefixSpec)

/-- ITS FALSE NEIGHBOUR: 'it returns false'. Refute it at one input. -/
def epochPrefixWrong : ChangeSpec := { name := "epochPrefix", fn := fun _ => fun
  | [d1, d2, d3] => { results := [.lit (.bool false)], args := [d1, d2, d3] }
  | _ => none }
def EpochPrefixWrongFalsely : Prop := epochPrefixRow.holds Try.pinned (OpenSpec.ofChange epochPrefixWrong)

/-- 'rostrumlaw14.EpochOnce': WHATEVER THE INPUT: true; the input reads as it did. -/
def epochOnceSpec : ChangeSpec := { name := "epochOnce", fn := fun _ => fun
  | [d1, d2] => { results := [.lit (.bool true)], args := [d1, d2] }
  | _ => none }
def epochOnceRow : OpenClaim := { program := "ytebdfelodihdhaa", sum := "1bcbfe686738e8ba06d57de4508e912189b7435cde4d4dd2c10f56163427a39b", func := "rostrum/rostrumlaw14.EpochOnce", spec := "epochOnce", inPlace := ["internal/abi.NoEscape", "internal/bytealg.MakeNoZero"], unfollowed := true, recurses := true, plainKeys := false, apart := false }
def EpochOnceSaid : Prop := epochOnceRow.holds Try.pinned (OpenSpec.ofChange epochOnceSpec)

/-- ITS FALSE NEIGHBOUR: 'it returns false'. Refute it at one input. -/
def epochOnceWrong : ChangeSpec := { name := "epochOnce", fn := fun _ => fun
  | [d1, d2] => { results := [.lit (.bool false)], args := [d1, d2] }
  | _ => none }
def EpochOnceWrongFalsely : Prop := epochOnceRow.holds Try.pinned (OpenSpec.ofChange epochOnceWrong)

/-- 'rostrumlaw14.EpochStale': WHATEVER THE INPUT: true; the input reads as it did. -/
def epochStaleSpec : ChangeSpec := { name := "epochStale", fn := fun _ => fun
  | [d1, d2, d3] => { results := [.lit (.bool true)], args := [d1, d2, d3] }
  | _ => none }
def epochStaleRow : OpenClaim := { program := "ytebdfelodihdhaa", sum := "1bcbfe686738e8ba06d57de4508e912189b7435cde4d4dd2c10f56163427a39b", func := "rostrum/rostrumlaw14.EpochStale", spec := "epochStale", inPlace := ["internal/abi.NoEscape", "internal/bytealg.MakeNoZero"], unfollowed := true, recurses := true, plainKeys := false, apart := false }
def EpochStaleSaid : Prop := epochStaleRow.holds Try.pinned (OpenSpec.ofChange epochStaleSpec)

/-- ITS FALSE NEIGHBOUR: 'it returns false'. Refute it at one input. -/
def epochStaleWrong : ChangeSpec := { name := "epochStale", fn := fun _ => fun
  | [d1, d2, d3] => { results := [.lit (.bool false)], args := [d1, d2, d3] }
  | _ => none }
def EpochStaleWrongFalsely : Prop := epochStaleRow.holds Try.pinned (OpenSpec.ofChange epochStaleWrong)

/- THE SECOND FORM. 'bulk': how many values and letters a reading holds, each counted each time it is reached (what is shared counts as often as it is met; a slice's spare places count too). A statement '..UptoSaid' is the law's where the arguments, and the package variables that the reading takes, are together of bulk at most 1048576: NARROWER than '..Said'. Prove '..Said' where nothing that the law and all that it calls make is longer than what came in: it says more and counts as full. Else prove '..UptoSaid'. A law counts once. -/
mutual
def uptoBulk {H : Type} : DataW H → Nat
  | .lit (.string bytes) => bytes.length + 1
  | .lit _ => 1
  | .nil => 1
  | .ptr d => uptoBulk d + 1
  | .slice elems spare => uptoBulkAll elems + uptoBulkAll spare + 1
  | .agg parts => uptoBulkAll parts + 1
  | .iface _ d => uptoBulk d + 1
  | .map entries => uptoBulkEntries entries + 1
  | .held _ => 1
def uptoBulkAll {H : Type} : List (DataW H) → Nat
  | [] => 0
  | d :: r => uptoBulk d + uptoBulkAll r
def uptoBulkEntries {H : Type} : List (Lit × DataW H) → Nat
  | [] => 0
  | x :: r => uptoBulkEntry x + uptoBulkEntries r
def uptoBulkEntry {H : Type} : Lit × DataW H → Nat
  | (.string bytes, d) => bytes.length + uptoBulk d + 1
  | (_, d) => uptoBulk d + 1
 end
def uptoSmall : (H : Type) → List (DataW H) → Bool := fun _ ds => decide (uptoBulkAll ds ≤ 1048576)
def OpenSpec.upto (s : _root_.Go.ChangeSpec) : _root_.Go.OpenSpec := { _root_.Go.OpenSpec.ofChange s with cond := some uptoSmall }

/-- 'rostrumlaw14.EpochEras', WHERE WHAT IT READS IS OF BULK AT MOST 1048576: true; the input reads as it did. -/
def epochErasUptoRow : OpenClaim := { program := "ytebdfelodihdhaa", sum := "1bcbfe686738e8ba06d57de4508e912189b7435cde4d4dd2c10f56163427a39b", func := "rostrum/rostrumlaw14.EpochEras", spec := "epochEras", inPlace := ["internal/abi.NoEscape", "internal/bytealg.MakeNoZero"], unfollowed := true, recurses := true, plainKeys := false, apart := false, narrowed := true }
def EpochErasUptoSaid : Prop := epochErasUptoRow.holds Try.pinned (OpenSpec.upto epochErasSpec)

/-- 'rostrumlaw14.EpochNone', WHERE WHAT IT READS IS OF BULK AT MOST 1048576: true; the input reads as it did. -/
def epochNoneUptoRow : OpenClaim := { program := "ytebdfelodihdhaa", sum := "1bcbfe686738e8ba06d57de4508e912189b7435cde4d4dd2c10f56163427a39b", func := "rostrum/rostrumlaw14.EpochNone", spec := "epochNone", inPlace := ["internal/abi.NoEscape", "internal/bytealg.MakeNoZero"], unfollowed := true, recurses := true, plainKeys := false, apart := false, narrowed := true }
def EpochNoneUptoSaid : Prop := epochNoneUptoRow.holds Try.pinned (OpenSpec.upto epochNoneSpec)

/-- 'rostrumlaw14.EpochPrefix', WHERE WHAT IT READS IS OF BULK AT MOST 1048576: true; the input reads as it did. -/
def epochPrefixUptoRow : OpenClaim := { program := "ytebdfelodihdhaa", sum := "1bcbfe686738e8ba06d57de4508e912189b7435cde4d4dd2c10f56163427a39b", func := "rostrum/rostrumlaw14.EpochPrefix", spec := "epochPrefix", inPlace := ["internal/abi.NoEscape", "internal/bytealg.MakeNoZero"], unfollowed := true, recurses := true, plainKeys := false, apart := false, narrowed := true }
def EpochPrefixUptoSaid : Prop := epochPrefixUptoRow.holds Try.pinned (OpenSpec.upto epochPrefixSpec)

/-- 'rostrumlaw14.EpochOnce', WHERE WHAT IT READS IS OF BULK AT MOST 1048576: true; the input reads as it did. -/
def epochOnceUptoRow : OpenClaim := { program := "ytebdfelodihdhaa", sum := "1bcbfe686738e8ba06d57de4508e912189b7435cde4d4dd2c10f56163427a39b", func := "rostrum/rostrumlaw14.EpochOnce", spec := "epochOnce", inPlace := ["internal/abi.NoEscape", "internal/bytealg.MakeNoZero"], unfollowed := true, recurses := true, plainKeys := false, apart := false, narrowed := true }
def EpochOnceUptoSaid : Prop := epochOnceUptoRow.holds Try.pinned (OpenSpec.upto epochOnceSpec)

/-- 'rostrumlaw14.EpochStale', WHERE WHAT IT READS IS OF BULK AT MOST 1048576: true; the input reads as it did. -/
def epochStaleUptoRow : OpenClaim := { program := "ytebdfelodihdhaa", sum := "1bcbfe686738e8ba06d57de4508e912189b7435cde4d4dd2c10f56163427a39b", func := "rostrum/rostrumlaw14.EpochStale", spec := "epochStale", inPlace := ["internal/abi.NoEscape", "internal/bytealg.MakeNoZero"], unfollowed := true, recurses := true, plainKeys := false, apart := false, narrowed := true }
def EpochStaleUptoSaid : Prop := epochStaleUptoRow.holds Try.pinned (OpenSpec.upto epochStaleSpec)

end Rows
end Go.Proofs.Ytebdfelodihdhaa
