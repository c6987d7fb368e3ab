/-
  No cell of these rows narrows 'for every input' (looked for: loops, veiled, ifaces, maps, wideKeys, modest, calm, conditions, laid).
  DERIVED. THE GIVEN ROWS OF THIS SEAT. 15 by the template 'for every input the law returns true; each argument reads behind the call as it read before'; 0 by the template 'total and deterministic' (their statements: YtdjjfmoknncojaaTotals.lean).
  GIVEN WITH THE SEED: the statements are not yours to turn. If you find one false, say at which input.
  Laid BY PROGRAM, IN A SANDBOX (cutbox-rows.mjs): the forced cells as the released guide's own fill.sh prints them over the translation 7e6ff1bb3a5d665d… (all of the seat's roots in one cut). By AI agents, Wed Nov 11 2026. No macro, syntax, notation, axiom, sorry.
-/
import Derived.Test.YtdjjfmoknncojaaChecked
import GoSem.Claim
import GoSem.ClaimJoined
import GoSem.ClaimMapViews
import Derived.JoinedTies
import Derived.KernelRfl
namespace Go.Proofs.Ytdjjfmoknncojaa
/- THE CELL 'sum', in the pinned program and in every row, IS THE sha256 OF THE DUMP (.gsa) THAT YtdjjfmoknncojaaProg.lean LOADS. Nothing in Lean hashes anything: it is a label: what it is worth is what the hold of that sum in a sandbox is worth. -/
noncomputable def Try.pinned : Pinned := { name := "ytdjjfmoknncojaa", sum := "7e6ff1bb3a5d665d9c625317f67e79c9ca29e9c4ac6567749834a00a8ba20ce8", checked := Try.checked }
namespace Rows
def none {H : Type} : Left H := { results := [], args := [] }

/-- 'rostrumlaw10.IdsOnce': WHATEVER THE INPUT: true; the input reads as it did. -/
def idsOnceSpec : ChangeSpec := { name := "idsOnce", fn := fun _ => fun
  | [d] => { results := [.lit (.bool true)], args := [d] }
  | _ => none }
def idsOnceRow : OpenClaim := { program := "ytdjjfmoknncojaa", sum := "7e6ff1bb3a5d665d9c625317f67e79c9ca29e9c4ac6567749834a00a8ba20ce8", func := "rostrum/rostrumlaw10.IdsOnce", spec := "idsOnce", unfollowed := true, recurses := true, plainKeys := false, apart := false }
def IdsOnceSaid : Prop := idsOnceRow.holds Try.pinned (OpenSpec.ofChange idsOnceSpec)

/-- ITS FALSE NEIGHBOUR: 'it returns false'. Refute it at one input. -/
def idsOnceWrong : ChangeSpec := { name := "idsOnce", fn := fun _ => fun
  | [d] => { results := [.lit (.bool false)], args := [d] }
  | _ => none }
def IdsOnceWrongFalsely : Prop := idsOnceRow.holds Try.pinned (OpenSpec.ofChange idsOnceWrong)

/-- 'rostrumlaw10.IdsOrders': WHATEVER THE INPUT: true; the input reads as it did. -/
def idsOrdersSpec : ChangeSpec := { name := "idsOrders", fn := fun _ => fun
  | [d1, d2, d3] => { results := [.lit (.bool true)], args := [d1, d2, d3] }
  | _ => none }
def idsOrdersRow : OpenClaim := { program := "ytdjjfmoknncojaa", sum := "7e6ff1bb3a5d665d9c625317f67e79c9ca29e9c4ac6567749834a00a8ba20ce8", func := "rostrum/rostrumlaw10.IdsOrders", spec := "idsOrders", unfollowed := true, recurses := true, plainKeys := false, apart := false }
def IdsOrdersSaid : Prop := idsOrdersRow.holds Try.pinned (OpenSpec.ofChange idsOrdersSpec)

/-- ITS FALSE NEIGHBOUR: 'it returns false'. Refute it at one input. -/
def idsOrdersWrong : ChangeSpec := { name := "idsOrders", fn := fun _ => fun
  | [d1, d2, d3] => { results := [.lit (.bool false)], args := [d1, d2, d3] }
  | _ => none }
def IdsOrdersWrongFalsely : Prop := idsOrdersRow.holds Try.pinned (OpenSpec.ofChange idsOrdersWrong)

/-- 'rostrumlaw11.SequenceFollows': WHATEVER THE INPUT: true; the input reads as it did. -/
def sequenceFollowsSpec : ChangeSpec := { name := "sequenceFollows", fn := fun _ => fun
  | [d1, d2] => { results := [.lit (.bool true)], args := [d1, d2] }
  | _ => none }
def sequenceFollowsRow : OpenClaim := { program := "ytdjjfmoknncojaa", sum := "7e6ff1bb3a5d665d9c625317f67e79c9ca29e9c4ac6567749834a00a8ba20ce8", func := "rostrum/rostrumlaw11.SequenceFollows", spec := "sequenceFollows", unfollowed := true, recurses := true, plainKeys := false, apart := false }
def SequenceFollowsSaid : Prop := sequenceFollowsRow.holds Try.pinned (OpenSpec.ofChange sequenceFollowsSpec)

/-- ITS FALSE NEIGHBOUR: 'it returns false'. Refute it at one input. -/
def sequenceFollowsWrong : ChangeSpec := { name := "sequenceFollows", fn := fun _ => fun
  | [d1, d2] => { results := [.lit (.bool false)], args := [d1, d2] }
  | _ => none }
def SequenceFollowsWrongFalsely : Prop := sequenceFollowsRow.holds Try.pinned (OpenSpec.ofChange sequenceFollowsWrong)

/-- 'rostrumlaw11.SequenceAhead': WHATEVER THE INPUT: true; the input reads as it did. -/
def sequenceAheadSpec : ChangeSpec := { name := "sequenceAhead", fn := fun _ => fun
  | [d] => { results := [.lit (.bool true)], args := [d] }
  | _ => none }
def sequenceAheadRow : OpenClaim := { program := "ytdjjfmoknncojaa", sum := "7e6ff1bb3a5d665d9c625317f67e79c9ca29e9c4ac6567749834a00a8ba20ce8", func := "rostrum/rostrumlaw11.SequenceAhead", spec := "sequenceAhead", unfollowed := true, recurses := true, plainKeys := false, apart := false }
def SequenceAheadSaid : Prop := sequenceAheadRow.holds Try.pinned (OpenSpec.ofChange sequenceAheadSpec)

/-- ITS FALSE NEIGHBOUR: 'it returns false'. Refute it at one input. -/
def sequenceAheadWrong : ChangeSpec := { name := "sequenceAhead", fn := fun _ => fun
  | [d] => { results := [.lit (.bool false)], args := [d] }
  | _ => none }
def SequenceAheadWrongFalsely : Prop := sequenceAheadRow.holds Try.pinned (OpenSpec.ofChange sequenceAheadWrong)

/-- 'rostrumlaw12.BatchDoes': WHATEVER THE INPUT: true; the input reads as it did. -/
def batchDoesSpec : ChangeSpec := { name := "batchDoes", fn := fun _ => fun
  | [d1, d2] => { results := [.lit (.bool true)], args := [d1, d2] }
  | _ => none }
def batchDoesRow : OpenClaim := { program := "ytdjjfmoknncojaa", sum := "7e6ff1bb3a5d665d9c625317f67e79c9ca29e9c4ac6567749834a00a8ba20ce8", func := "rostrum/rostrumlaw12.BatchDoes", spec := "batchDoes", unfollowed := true, recurses := true, plainKeys := false, apart := false }
def BatchDoesSaid : Prop := batchDoesRow.holds Try.pinned (OpenSpec.ofChange batchDoesSpec)

/-- ITS FALSE NEIGHBOUR: 'it returns false'. Refute it at one input. -/
def batchDoesWrong : ChangeSpec := { name := "batchDoes", fn := fun _ => fun
  | [d1, d2] => { results := [.lit (.bool false)], args := [d1, d2] }
  | _ => none }
def BatchDoesWrongFalsely : Prop := batchDoesRow.holds Try.pinned (OpenSpec.ofChange batchDoesWrong)

/-- 'rostrumlaw12.BatchNone': WHATEVER THE INPUT: true; the input reads as it did. -/
def batchNoneSpec : ChangeSpec := { name := "batchNone", fn := fun _ => fun
  | [d1, d2] => { results := [.lit (.bool true)], args := [d1, d2] }
  | _ => none }
def batchNoneRow : OpenClaim := { program := "ytdjjfmoknncojaa", sum := "7e6ff1bb3a5d665d9c625317f67e79c9ca29e9c4ac6567749834a00a8ba20ce8", func := "rostrum/rostrumlaw12.BatchNone", spec := "batchNone", unfollowed := true, recurses := true, plainKeys := false, apart := false }
def BatchNoneSaid : Prop := batchNoneRow.holds Try.pinned (OpenSpec.ofChange batchNoneSpec)

/-- ITS FALSE NEIGHBOUR: 'it returns false'. Refute it at one input. -/
def batchNoneWrong : ChangeSpec := { name := "batchNone", fn := fun _ => fun
  | [d1, d2] => { results := [.lit (.bool false)], args := [d1, d2] }
  | _ => none }
def BatchNoneWrongFalsely : Prop := batchNoneRow.holds Try.pinned (OpenSpec.ofChange batchNoneWrong)

/-- 'rostrumlaw12.BatchOnce': WHATEVER THE INPUT: true; the input reads as it did. -/
def batchOnceSpec : ChangeSpec := { name := "batchOnce", fn := fun _ => fun
  | [d] => { results := [.lit (.bool true)], args := [d] }
  | _ => none }
def batchOnceRow : OpenClaim := { program := "ytdjjfmoknncojaa", sum := "7e6ff1bb3a5d665d9c625317f67e79c9ca29e9c4ac6567749834a00a8ba20ce8", func := "rostrum/rostrumlaw12.BatchOnce", spec := "batchOnce", unfollowed := true, recurses := true, plainKeys := false, apart := false }
def BatchOnceSaid : Prop := batchOnceRow.holds Try.pinned (OpenSpec.ofChange batchOnceSpec)

/-- ITS FALSE NEIGHBOUR: 'it returns false'. Refute it at one input. -/
def batchOnceWrong : ChangeSpec := { name := "batchOnce", fn := fun _ => fun
  | [d] => { results := [.lit (.bool false)], args := [d] }
  | _ => none }
def BatchOnceWrongFalsely : Prop := batchOnceRow.holds Try.pinned (OpenSpec.ofChange batchOnceWrong)

/-- 'rostrumlaw12.BatchAll': WHATEVER THE INPUT: true; the input reads as it did. -/
def batchAllSpec : ChangeSpec := { name := "batchAll", fn := fun _ => fun
  | [d1, d2] => { results := [.lit (.bool true)], args := [d1, d2] }
  | _ => none }
def batchAllRow : OpenClaim := { program := "ytdjjfmoknncojaa", sum := "7e6ff1bb3a5d665d9c625317f67e79c9ca29e9c4ac6567749834a00a8ba20ce8", func := "rostrum/rostrumlaw12.BatchAll", spec := "batchAll", unfollowed := true, recurses := true, plainKeys := false, apart := false }
def BatchAllSaid : Prop := batchAllRow.holds Try.pinned (OpenSpec.ofChange batchAllSpec)

/-- ITS FALSE NEIGHBOUR: 'it returns false'. Refute it at one input. -/
def batchAllWrong : ChangeSpec := { name := "batchAll", fn := fun _ => fun
  | [d1, d2] => { results := [.lit (.bool false)], args := [d1, d2] }
  | _ => none }
def BatchAllWrongFalsely : Prop := batchAllRow.holds Try.pinned (OpenSpec.ofChange batchAllWrong)

/-- 'rostrumlaw12.BatchOrder': WHATEVER THE INPUT: true; the input reads as it did. -/
def batchOrderSpec : ChangeSpec := { name := "batchOrder", fn := fun _ => fun
  | [d1, d2] => { results := [.lit (.bool true)], args := [d1, d2] }
  | _ => none }
def batchOrderRow : OpenClaim := { program := "ytdjjfmoknncojaa", sum := "7e6ff1bb3a5d665d9c625317f67e79c9ca29e9c4ac6567749834a00a8ba20ce8", func := "rostrum/rostrumlaw12.BatchOrder", spec := "batchOrder", unfollowed := true, recurses := true, plainKeys := false, apart := false }
def BatchOrderSaid : Prop := batchOrderRow.holds Try.pinned (OpenSpec.ofChange batchOrderSpec)

/-- ITS FALSE NEIGHBOUR: 'it returns false'. Refute it at one input. -/
def batchOrderWrong : ChangeSpec := { name := "batchOrder", fn := fun _ => fun
  | [d1, d2] => { results := [.lit (.bool false)], args := [d1, d2] }
  | _ => none }
def BatchOrderWrongFalsely : Prop := batchOrderRow.holds Try.pinned (OpenSpec.ofChange batchOrderWrong)

/-- 'rostrumlaw12.BatchFull': WHATEVER THE INPUT: true; the input reads as it did. -/
def batchFullSpec : ChangeSpec := { name := "batchFull", fn := fun _ => fun
  | [d] => { results := [.lit (.bool true)], args := [d] }
  | _ => none }
def batchFullRow : OpenClaim := { program := "ytdjjfmoknncojaa", sum := "7e6ff1bb3a5d665d9c625317f67e79c9ca29e9c4ac6567749834a00a8ba20ce8", func := "rostrum/rostrumlaw12.BatchFull", spec := "batchFull", unfollowed := true, recurses := true, plainKeys := false, apart := false }
def BatchFullSaid : Prop := batchFullRow.holds Try.pinned (OpenSpec.ofChange batchFullSpec)

/-- ITS FALSE NEIGHBOUR: 'it returns false'. Refute it at one input. -/
def batchFullWrong : ChangeSpec := { name := "batchFull", fn := fun _ => fun
  | [d] => { results := [.lit (.bool false)], args := [d] }
  | _ => none }
def BatchFullWrongFalsely : Prop := batchFullRow.holds Try.pinned (OpenSpec.ofChange batchFullWrong)

/-- 'rostrumlaw12.BatchTwice': WHATEVER THE INPUT: true; the input reads as it did. -/
def batchTwiceSpec : ChangeSpec := { name := "batchTwice", fn := fun _ => fun
  | [d] => { results := [.lit (.bool true)], args := [d] }
  | _ => none }
def batchTwiceRow : OpenClaim := { program := "ytdjjfmoknncojaa", sum := "7e6ff1bb3a5d665d9c625317f67e79c9ca29e9c4ac6567749834a00a8ba20ce8", func := "rostrum/rostrumlaw12.BatchTwice", spec := "batchTwice", unfollowed := true, recurses := true, plainKeys := false, apart := false }
def BatchTwiceSaid : Prop := batchTwiceRow.holds Try.pinned (OpenSpec.ofChange batchTwiceSpec)

/-- ITS FALSE NEIGHBOUR: 'it returns false'. Refute it at one input. -/
def batchTwiceWrong : ChangeSpec := { name := "batchTwice", fn := fun _ => fun
  | [d] => { results := [.lit (.bool false)], args := [d] }
  | _ => none }
def BatchTwiceWrongFalsely : Prop := batchTwiceRow.holds Try.pinned (OpenSpec.ofChange batchTwiceWrong)

/-- 'rostrumlaw11.SequenceOrder': WHATEVER THE INPUT: true; the input reads as it did. -/
def sequenceOrderSpec : ChangeSpec := { name := "sequenceOrder", fn := fun _ => fun
  | [d1, d2, d3] => { results := [.lit (.bool true)], args := [d1, d2, d3] }
  | _ => none }
def sequenceOrderRow : OpenClaim := { program := "ytdjjfmoknncojaa", sum := "7e6ff1bb3a5d665d9c625317f67e79c9ca29e9c4ac6567749834a00a8ba20ce8", func := "rostrum/rostrumlaw11.SequenceOrder", spec := "sequenceOrder", unfollowed := true, recurses := true, plainKeys := false, apart := false }
def SequenceOrderSaid : Prop := sequenceOrderRow.holds Try.pinned (OpenSpec.ofChange sequenceOrderSpec)

/-- ITS FALSE NEIGHBOUR: 'it returns false'. Refute it at one input. -/
def sequenceOrderWrong : ChangeSpec := { name := "sequenceOrder", fn := fun _ => fun
  | [d1, d2, d3] => { results := [.lit (.bool false)], args := [d1, d2, d3] }
  | _ => none }
def SequenceOrderWrongFalsely : Prop := sequenceOrderRow.holds Try.pinned (OpenSpec.ofChange sequenceOrderWrong)

/-- 'rostrumlaw11.SequenceAll': WHATEVER THE INPUT: true; the input reads as it did. -/
def sequenceAllSpec : ChangeSpec := { name := "sequenceAll", fn := fun _ => fun
  | [d1, d2, d3] => { results := [.lit (.bool true)], args := [d1, d2, d3] }
  | _ => none }
def sequenceAllRow : OpenClaim := { program := "ytdjjfmoknncojaa", sum := "7e6ff1bb3a5d665d9c625317f67e79c9ca29e9c4ac6567749834a00a8ba20ce8", func := "rostrum/rostrumlaw11.SequenceAll", spec := "sequenceAll", unfollowed := true, recurses := true, plainKeys := false, apart := false }
def SequenceAllSaid : Prop := sequenceAllRow.holds Try.pinned (OpenSpec.ofChange sequenceAllSpec)

/-- ITS FALSE NEIGHBOUR: 'it returns false'. Refute it at one input. -/
def sequenceAllWrong : ChangeSpec := { name := "sequenceAll", fn := fun _ => fun
  | [d1, d2, d3] => { results := [.lit (.bool false)], args := [d1, d2, d3] }
  | _ => none }
def SequenceAllWrongFalsely : Prop := sequenceAllRow.holds Try.pinned (OpenSpec.ofChange sequenceAllWrong)

/-- 'rostrumlaw11.SequenceTwice': WHATEVER THE INPUT: true; the input reads as it did. -/
def sequenceTwiceSpec : ChangeSpec := { name := "sequenceTwice", fn := fun _ => fun
  | [d1, d2, d3] => { results := [.lit (.bool true)], args := [d1, d2, d3] }
  | _ => none }
def sequenceTwiceRow : OpenClaim := { program := "ytdjjfmoknncojaa", sum := "7e6ff1bb3a5d665d9c625317f67e79c9ca29e9c4ac6567749834a00a8ba20ce8", func := "rostrum/rostrumlaw11.SequenceTwice", spec := "sequenceTwice", unfollowed := true, recurses := true, plainKeys := false, apart := false }
def SequenceTwiceSaid : Prop := sequenceTwiceRow.holds Try.pinned (OpenSpec.ofChange sequenceTwiceSpec)

/-- ITS FALSE NEIGHBOUR: 'it returns false'. Refute it at one input. -/
def sequenceTwiceWrong : ChangeSpec := { name := "sequenceTwice", fn := fun _ => fun
  | [d1, d2, d3] => { results := [.lit (.bool false)], args := [d1, d2, d3] }
  | _ => none }
def SequenceTwiceWrongFalsely : Prop := sequenceTwiceRow.holds Try.pinned (OpenSpec.ofChange sequenceTwiceWrong)

/-- 'rostrumlaw11.SequenceNone': WHATEVER THE INPUT: true; the input reads as it did. -/
def sequenceNoneSpec : ChangeSpec := { name := "sequenceNone", fn := fun _ => fun
  | [d] => { results := [.lit (.bool true)], args := [d] }
  | _ => none }
def sequenceNoneRow : OpenClaim := { program := "ytdjjfmoknncojaa", sum := "7e6ff1bb3a5d665d9c625317f67e79c9ca29e9c4ac6567749834a00a8ba20ce8", func := "rostrum/rostrumlaw11.SequenceNone", spec := "sequenceNone", unfollowed := true, recurses := true, plainKeys := false, apart := false }
def SequenceNoneSaid : Prop := sequenceNoneRow.holds Try.pinned (OpenSpec.ofChange sequenceNoneSpec)

/-- ITS FALSE NEIGHBOUR: 'it returns false'. Refute it at one input. -/
def sequenceNoneWrong : ChangeSpec := { name := "sequenceNone", fn := fun _ => fun
  | [d] => { results := [.lit (.bool false)], args := [d] }
  | _ => none }
def SequenceNoneWrongFalsely : Prop := sequenceNoneRow.holds Try.pinned (OpenSpec.ofChange sequenceNoneWrong)

/- THE SECOND FORM. 'bulk': how many values and letters a reading holds, each counted each time it is reached (what is shared counts as often as it is met; a slice's spare places count too). A statement '..UptoSaid' is the law's where the arguments, and the package variables that the reading takes, are together of bulk at most 1048576: NARROWER than '..Said'. Prove '..Said' where nothing that the law and all that it calls make is longer than what came in: it says more and counts as full. Else prove '..UptoSaid'. A law counts once. -/
mutual
def uptoBulk {H : Type} : DataW H → Nat
  | .lit (.string bytes) => bytes.length + 1
  | .lit _ => 1
  | .nil => 1
  | .ptr d => uptoBulk d + 1
  | .slice elems spare => uptoBulkAll elems + uptoBulkAll spare + 1
  | .agg parts => uptoBulkAll parts + 1
  | .iface _ d => uptoBulk d + 1
  | .map entries => uptoBulkEntries entries + 1
  | .held _ => 1
def uptoBulkAll {H : Type} : List (DataW H) → Nat
  | [] => 0
  | d :: r => uptoBulk d + uptoBulkAll r
def uptoBulkEntries {H : Type} : List (Lit × DataW H) → Nat
  | [] => 0
  | x :: r => uptoBulkEntry x + uptoBulkEntries r
def uptoBulkEntry {H : Type} : Lit × DataW H → Nat
  | (.string bytes, d) => bytes.length + uptoBulk d + 1
  | (_, d) => uptoBulk d + 1
 end
def uptoSmall : (H : Type) → List (DataW H) → Bool := fun _ ds => decide (uptoBulkAll ds ≤ 1048576)
def OpenSpec.upto (s : _root_.Go.ChangeSpec) : _root_.Go.OpenSpec := { _root_.Go.OpenSpec.ofChange s with cond := some uptoSmall }

/-- 'rostrumlaw10.IdsOnce', WHERE WHAT IT READS IS OF BULK AT MOST 1048576: true; the input reads as it did. -/
def idsOnceUptoRow : OpenClaim := { program := "ytdjjfmoknncojaa", sum := "7e6ff1bb3a5d665d9c625317f67e79c9ca29e9c4ac6567749834a00a8ba20ce8", func := "rostrum/rostrumlaw10.IdsOnce", spec := "idsOnce", unfollowed := true, recurses := true, plainKeys := false, apart := false, narrowed := true }
def IdsOnceUptoSaid : Prop := idsOnceUptoRow.holds Try.pinned (OpenSpec.upto idsOnceSpec)

/-- 'rostrumlaw10.IdsOrders', WHERE WHAT IT READS IS OF BULK AT MOST 1048576: true; the input reads as it did. -/
def idsOrdersUptoRow : OpenClaim := { program := "ytdjjfmoknncojaa", sum := "7e6ff1bb3a5d665d9c625317f67e79c9ca29e9c4ac6567749834a00a8ba20ce8", func := "rostrum/rostrumlaw10.IdsOrders", spec := "idsOrders", unfollowed := true, recurses := true, plainKeys := false, apart := false, narrowed := true }
def IdsOrdersUptoSaid : Prop := idsOrdersUptoRow.holds Try.pinned (OpenSpec.upto idsOrdersSpec)

/-- 'rostrumlaw11.SequenceFollows', WHERE WHAT IT READS IS OF BULK AT MOST 1048576: true; the input reads as it did. -/
def sequenceFollowsUptoRow : OpenClaim := { program := "ytdjjfmoknncojaa", sum := "7e6ff1bb3a5d665d9c625317f67e79c9ca29e9c4ac6567749834a00a8ba20ce8", func := "rostrum/rostrumlaw11.SequenceFollows", spec := "sequenceFollows", unfollowed := true, recurses := true, plainKeys := false, apart := false, narrowed := true }
def SequenceFollowsUptoSaid : Prop := sequenceFollowsUptoRow.holds Try.pinned (OpenSpec.upto sequenceFollowsSpec)

/-- 'rostrumlaw11.SequenceAhead', WHERE WHAT IT READS IS OF BULK AT MOST 1048576: true; the input reads as it did. -/
def sequenceAheadUptoRow : OpenClaim := { program := "ytdjjfmoknncojaa", sum := "7e6ff1bb3a5d665d9c625317f67e79c9ca29e9c4ac6567749834a00a8ba20ce8", func := "rostrum/rostrumlaw11.SequenceAhead", spec := "sequenceAhead", unfollowed := true, recurses := true, plainKeys := false, apart := false, narrowed := true }
def SequenceAheadUptoSaid : Prop := sequenceAheadUptoRow.holds Try.pinned (OpenSpec.upto sequenceAheadSpec)

/-- 'rostrumlaw12.BatchDoes', WHERE WHAT IT READS IS OF BULK AT MOST 1048576: true; the input reads as it did. -/
def batchDoesUptoRow : OpenClaim := { program := "ytdjjfmoknncojaa", sum := "7e6ff1bb3a5d665d9c625317f67e79c9ca29e9c4ac6567749834a00a8ba20ce8", func := "rostrum/rostrumlaw12.BatchDoes", spec := "batchDoes", unfollowed := true, recurses := true, plainKeys := false, apart := false, narrowed := true }
def BatchDoesUptoSaid : Prop := batchDoesUptoRow.holds Try.pinned (OpenSpec.upto batchDoesSpec)

/-- 'rostrumlaw12.BatchNone', WHERE WHAT IT READS IS OF BULK AT MOST 1048576: true; the input reads as it did. -/
def batchNoneUptoRow : OpenClaim := { program := "ytdjjfmoknncojaa", sum := "7e6ff1bb3a5d665d9c625317f67e79c9ca29e9c4ac6567749834a00a8ba20ce8", func := "rostrum/rostrumlaw12.BatchNone", spec := "batchNone", unfollowed := true, recurses := true, plainKeys := false, apart := false, narrowed := true }
def BatchNoneUptoSaid : Prop := batchNoneUptoRow.holds Try.pinned (OpenSpec.upto batchNoneSpec)

/-- 'rostrumlaw12.BatchOnce', WHERE WHAT IT READS IS OF BULK AT MOST 1048576: true; the input reads as it did. -/
def batchOnceUptoRow : OpenClaim := { program := "ytdjjfmoknncojaa", sum := "7e6ff1bb3a5d665d9c625317f67e79c9ca29e9c4ac6567749834a00a8ba20ce8", func := "rostrum/rostrumlaw12.BatchOnce", spec := "batchOnce", unfollowed := true, recurses := true, plainKeys := false, apart := false, narrowed := true }
def BatchOnceUptoSaid : Prop := batchOnceUptoRow.holds Try.pinned (OpenSpec.upto batchOnceSpec)

/-- 'rostrumlaw12.BatchAll', WHERE WHAT IT READS IS OF BULK AT MOST 1048576: true; the input reads as it did. -/
def batchAllUptoRow : OpenClaim := { program := "ytdjjfmoknncojaa", sum := "7e6ff1bb3a5d665d9c625317f67e79c9ca29e9c4ac6567749834a00a8ba20ce8", func := "rostrum/rostrumlaw12.BatchAll", spec := "batchAll", unfollowed := true, recurses := true, plainKeys := false, apart := false, narrowed := true }
def BatchAllUptoSaid : Prop := batchAllUptoRow.holds Try.pinned (OpenSpec.upto batchAllSpec)

/-- 'rostrumlaw12.BatchOrder', WHERE WHAT IT READS IS OF BULK AT MOST 1048576: true; the input reads as it did. -/
def batchOrderUptoRow : OpenClaim := { program := "ytdjjfmoknncojaa", sum := "7e6ff1bb3a5d665d9c625317f67e79c9ca29e9c4ac6567749834a00a8ba20ce8", func := "rostrum/rostrumlaw12.BatchOrder", spec := "batchOrder", unfollowed := true, recurses := true, plainKeys := false, apart := false, narrowed := true }
def BatchOrderUptoSaid : Prop := batchOrderUptoRow.holds Try.pinned (OpenSpec.upto batchOrderSpec)

/-- 'rostrumlaw12.BatchFull', WHERE WHAT IT READS IS OF BULK AT MOST 1048576: true; the input reads as it did. -/
def batchFullUptoRow : OpenClaim := { program := "ytdjjfmoknncojaa", sum := "7e6ff1bb3a5d665d9c625317f67e79c9ca29e9c4ac6567749834a00a8ba20ce8", func := "rostrum/rostrumlaw12.BatchFull", spec := "batchFull", unfollowed := true, recurses := true, plainKeys := false, apart := false, narrowed := true }
def BatchFullUptoSaid : Prop := batchFullUptoRow.holds Try.pinned (OpenSpec.upto batchFullSpec)

/-- 'rostrumlaw12.BatchTwice', WHERE WHAT IT READS IS OF BULK AT MOST 1048576: true; the input reads as it did. -/
def batchTwiceUptoRow : OpenClaim := { program := "ytdjjfmoknncojaa", sum := "7e6ff1bb3a5d665d9c625317f67e79c9ca29e9c4ac6567749834a00a8ba20ce8", func := "rostrum/rostrumlaw12.BatchTwice", spec := "batchTwice", unfollowed := true, recurses := true, plainKeys := false, apart := false, narrowed := true }
def BatchTwiceUptoSaid : Prop := batchTwiceUptoRow.holds Try.pinned (OpenSpec.upto batchTwiceSpec)

/-- 'rostrumlaw11.SequenceOrder', WHERE WHAT IT READS IS OF BULK AT MOST 1048576: true; the input reads as it did. -/
def sequenceOrderUptoRow : OpenClaim := { program := "ytdjjfmoknncojaa", sum := "7e6ff1bb3a5d665d9c625317f67e79c9ca29e9c4ac6567749834a00a8ba20ce8", func := "rostrum/rostrumlaw11.SequenceOrder", spec := "sequenceOrder", unfollowed := true, recurses := true, plainKeys := false, apart := false, narrowed := true }
def SequenceOrderUptoSaid : Prop := sequenceOrderUptoRow.holds Try.pinned (OpenSpec.upto sequenceOrderSpec)

/-- 'rostrumlaw11.SequenceAll', WHERE WHAT IT READS IS OF BULK AT MOST 1048576: true; the input reads as it did. -/
def sequenceAllUptoRow : OpenClaim := { program := "ytdjjfmoknncojaa", sum := "7e6ff1bb3a5d665d9c625317f67e79c9ca29e9c4ac6567749834a00a8ba20ce8", func := "rostrum/rostrumlaw11.SequenceAll", spec := "sequenceAll", unfollowed := true, recurses := true, plainKeys := false, apart := false, narrowed := true }
def SequenceAllUptoSaid : Prop := sequenceAllUptoRow.holds Try.pinned (OpenSpec.upto sequenceAllSpec)

/-- 'rostrumlaw11.SequenceTwice', WHERE WHAT IT READS IS OF BULK AT MOST 1048576: true; the input reads as it did. -/
def sequenceTwiceUptoRow : OpenClaim := { program := "ytdjjfmoknncojaa", sum := "7e6ff1bb3a5d665d9c625317f67e79c9ca29e9c4ac6567749834a00a8ba20ce8", func := "rostrum/rostrumlaw11.SequenceTwice", spec := "sequenceTwice", unfollowed := true, recurses := true, plainKeys := false, apart := false, narrowed := true }
def SequenceTwiceUptoSaid : Prop := sequenceTwiceUptoRow.holds Try.pinned (OpenSpec.upto sequenceTwiceSpec)

/-- 'rostrumlaw11.SequenceNone', WHERE WHAT IT READS IS OF BULK AT MOST 1048576: true; the input reads as it did. -/
def sequenceNoneUptoRow : OpenClaim := { program := "ytdjjfmoknncojaa", sum := "7e6ff1bb3a5d665d9c625317f67e79c9ca29e9c4ac6567749834a00a8ba20ce8", func := "rostrum/rostrumlaw11.SequenceNone", spec := "sequenceNone", unfollowed := true, recurses := true, plainKeys := false, apart := false, narrowed := true }
def SequenceNoneUptoSaid : Prop := sequenceNoneUptoRow.holds Try.pinned (OpenSpec.upto sequenceNoneSpec)

end Rows
end Go.Proofs.Ytdjjfmoknncojaa
