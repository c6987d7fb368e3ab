/-
  NARROWER THAN 'FOR EVERY INPUT', by the rows' own cells (each row's printed sentence says how): RegistryMigrates: laid · RegistryBack: laid · RegistryWays: laid · RegistryFull: laid · RegistryCounts: laid · RegistryBegins: laid · RegistryKnows: laid · MigrateTwo: laid · MigrateQuiet: laid · MigrateNone: laid.
  DERIVED. THE GIVEN ROWS OF THIS SEAT. 10 by the template 'for every input the law returns true; each argument reads behind the call as it read before'; 0 by the template 'total and deterministic' (their statements: YtebdfelodihdhaaDoorTotals.lean).
  GIVEN WITH THE SEED: the statements are not yours to turn. If you find one false, say at which input.
  Laid BY PROGRAM, IN A SANDBOX (cutbox-rows.mjs): the forced cells as the released guide's own fill.sh prints them over the translation 0f14401596c1534a… (all of the seat's roots in one cut). By AI agents, Wed Nov 11 2026. No macro, syntax, notation, axiom, sorry.
-/
import Derived.Test.YtebdfelodihdhaaDoorChecked
import GoSem.Claim
import GoSem.ClaimJoined
import GoSem.ClaimMapViews
import Derived.JoinedTies
import Derived.KernelRfl
namespace Go.Proofs.YtebdfelodihdhaaDoor
/- THE CELL 'sum', in the pinned program and in every row, IS THE sha256 OF THE DUMP (.gsa) THAT YtebdfelodihdhaaDoorProg.lean LOADS. Nothing in Lean hashes anything: it is a label: what it is worth is what the hold of that sum in a sandbox is worth. -/
noncomputable def Tryd.pinned : Pinned := { name := "ytebdfelodihdhaadoor", sum := "0f14401596c1534a294ddc6a9627fda99af9ba2a2ec5ed93833867f7094c2d80", checked := Tryd.checked }
namespace Rows
def none {H : Type} : Left H := { results := [], args := [] }

/- WHAT THE LISTED PACKAGE-LEVEL VARIABLES READ AS WHEN THE CALL BEGINS. Each datum BY PROGRAM (the guide's laid-datum.mjs) off the statement by which the dump's own 'gosem.cut.vars' lays the variable. In a bare row this is a premise. The card (YtebdfelodihdhaaDoorCards.lean) ties it to the program's text. -/
def laid_rostrum_registry_errForm {H : Type} : DataW H := .iface "*errors.errorString" (.ptr (.agg [.lit (.string [110, 111, 32, 115, 117, 99, 104, 32, 115, 116, 97, 116, 101])]))

/-- 'rostrumlaw13.RegistryMigrates': WHATEVER THE INPUT: true; the input reads as it did. -/
def registryMigratesSpec : ChangeSpec := { name := "registryMigrates", fn := fun _ => fun
  | [d1, d2] => { results := [.lit (.bool true)], args := [d1, d2] }
  | _ => none }
def registryMigratesRow : OpenClaim := { program := "ytebdfelodihdhaadoor", sum := "0f14401596c1534a294ddc6a9627fda99af9ba2a2ec5ed93833867f7094c2d80", func := "rostrum/rostrumlaw13.RegistryMigrates", spec := "registryMigrates", inPlace := ["internal/abi.NoEscape", "internal/bytealg.MakeNoZero", "internal/reflectlite.TypeOf"], unfollowed := true, recurses := true, named := ["rostrum/registry.errForm"], plainKeys := false, apart := false, laid := [("rostrum/registry.errForm", laid_rostrum_registry_errForm)] }
def RegistryMigratesSaid : Prop := registryMigratesRow.holds Tryd.pinned (OpenSpec.ofChange registryMigratesSpec)

/-- ITS FALSE NEIGHBOUR: 'it returns false'. Refute it at one input. -/
def registryMigratesWrong : ChangeSpec := { name := "registryMigrates", fn := fun _ => fun
  | [d1, d2] => { results := [.lit (.bool false)], args := [d1, d2] }
  | _ => none }
def RegistryMigratesWrongFalsely : Prop := registryMigratesRow.holds Tryd.pinned (OpenSpec.ofChange registryMigratesWrong)

/-- 'rostrumlaw13.RegistryBack': WHATEVER THE INPUT: true; the input reads as it did. -/
def registryBackSpec : ChangeSpec := { name := "registryBack", fn := fun _ => fun
  | [d1, d2] => { results := [.lit (.bool true)], args := [d1, d2] }
  | _ => none }
def registryBackRow : OpenClaim := { program := "ytebdfelodihdhaadoor", sum := "0f14401596c1534a294ddc6a9627fda99af9ba2a2ec5ed93833867f7094c2d80", func := "rostrum/rostrumlaw13.RegistryBack", spec := "registryBack", inPlace := ["internal/abi.NoEscape", "internal/bytealg.MakeNoZero", "internal/reflectlite.TypeOf"], unfollowed := true, recurses := true, named := ["rostrum/registry.errForm"], plainKeys := false, apart := false, laid := [("rostrum/registry.errForm", laid_rostrum_registry_errForm)] }
def RegistryBackSaid : Prop := registryBackRow.holds Tryd.pinned (OpenSpec.ofChange registryBackSpec)

/-- ITS FALSE NEIGHBOUR: 'it returns false'. Refute it at one input. -/
def registryBackWrong : ChangeSpec := { name := "registryBack", fn := fun _ => fun
  | [d1, d2] => { results := [.lit (.bool false)], args := [d1, d2] }
  | _ => none }
def RegistryBackWrongFalsely : Prop := registryBackRow.holds Tryd.pinned (OpenSpec.ofChange registryBackWrong)

/-- 'rostrumlaw13.RegistryWays': WHATEVER THE INPUT: true; the input reads as it did. -/
def registryWaysSpec : ChangeSpec := { name := "registryWays", fn := fun _ => fun
  | [d] => { results := [.lit (.bool true)], args := [d] }
  | _ => none }
def registryWaysRow : OpenClaim := { program := "ytebdfelodihdhaadoor", sum := "0f14401596c1534a294ddc6a9627fda99af9ba2a2ec5ed93833867f7094c2d80", func := "rostrum/rostrumlaw13.RegistryWays", spec := "registryWays", inPlace := ["internal/abi.NoEscape", "internal/bytealg.MakeNoZero", "internal/reflectlite.TypeOf"], unfollowed := true, recurses := true, named := ["rostrum/registry.errForm"], plainKeys := false, apart := false, laid := [("rostrum/registry.errForm", laid_rostrum_registry_errForm)] }
def RegistryWaysSaid : Prop := registryWaysRow.holds Tryd.pinned (OpenSpec.ofChange registryWaysSpec)

/-- ITS FALSE NEIGHBOUR: 'it returns false'. Refute it at one input. -/
def registryWaysWrong : ChangeSpec := { name := "registryWays", fn := fun _ => fun
  | [d] => { results := [.lit (.bool false)], args := [d] }
  | _ => none }
def RegistryWaysWrongFalsely : Prop := registryWaysRow.holds Tryd.pinned (OpenSpec.ofChange registryWaysWrong)

/-- 'rostrumlaw13.RegistryFull': WHATEVER THE INPUT: true; the input reads as it did. -/
def registryFullSpec : ChangeSpec := { name := "registryFull", fn := fun _ => fun
  | [d1, d2] => { results := [.lit (.bool true)], args := [d1, d2] }
  | _ => none }
def registryFullRow : OpenClaim := { program := "ytebdfelodihdhaadoor", sum := "0f14401596c1534a294ddc6a9627fda99af9ba2a2ec5ed93833867f7094c2d80", func := "rostrum/rostrumlaw13.RegistryFull", spec := "registryFull", inPlace := ["internal/abi.NoEscape", "internal/bytealg.MakeNoZero", "internal/reflectlite.TypeOf"], unfollowed := true, recurses := true, named := ["rostrum/registry.errForm"], plainKeys := false, apart := false, laid := [("rostrum/registry.errForm", laid_rostrum_registry_errForm)] }
def RegistryFullSaid : Prop := registryFullRow.holds Tryd.pinned (OpenSpec.ofChange registryFullSpec)

/-- ITS FALSE NEIGHBOUR: 'it returns false'. Refute it at one input. -/
def registryFullWrong : ChangeSpec := { name := "registryFull", fn := fun _ => fun
  | [d1, d2] => { results := [.lit (.bool false)], args := [d1, d2] }
  | _ => none }
def RegistryFullWrongFalsely : Prop := registryFullRow.holds Tryd.pinned (OpenSpec.ofChange registryFullWrong)

/-- 'rostrumlaw13.RegistryCounts': WHATEVER THE INPUT: true; the input reads as it did. -/
def registryCountsSpec : ChangeSpec := { name := "registryCounts", fn := fun _ => fun
  | [d1, d2] => { results := [.lit (.bool true)], args := [d1, d2] }
  | _ => none }
def registryCountsRow : OpenClaim := { program := "ytebdfelodihdhaadoor", sum := "0f14401596c1534a294ddc6a9627fda99af9ba2a2ec5ed93833867f7094c2d80", func := "rostrum/rostrumlaw13.RegistryCounts", spec := "registryCounts", inPlace := ["internal/abi.NoEscape", "internal/bytealg.MakeNoZero", "internal/reflectlite.TypeOf"], unfollowed := true, recurses := true, named := ["rostrum/registry.errForm"], plainKeys := false, apart := false, laid := [("rostrum/registry.errForm", laid_rostrum_registry_errForm)] }
def RegistryCountsSaid : Prop := registryCountsRow.holds Tryd.pinned (OpenSpec.ofChange registryCountsSpec)

/-- ITS FALSE NEIGHBOUR: 'it returns false'. Refute it at one input. -/
def registryCountsWrong : ChangeSpec := { name := "registryCounts", fn := fun _ => fun
  | [d1, d2] => { results := [.lit (.bool false)], args := [d1, d2] }
  | _ => none }
def RegistryCountsWrongFalsely : Prop := registryCountsRow.holds Tryd.pinned (OpenSpec.ofChange registryCountsWrong)

/-- 'rostrumlaw13.RegistryBegins': WHATEVER THE INPUT: true; the input reads as it did. -/
def registryBeginsSpec : ChangeSpec := { name := "registryBegins", fn := fun _ => fun
  | [d1, d2] => { results := [.lit (.bool true)], args := [d1, d2] }
  | _ => none }
def registryBeginsRow : OpenClaim := { program := "ytebdfelodihdhaadoor", sum := "0f14401596c1534a294ddc6a9627fda99af9ba2a2ec5ed93833867f7094c2d80", func := "rostrum/rostrumlaw13.RegistryBegins", spec := "registryBegins", inPlace := ["internal/abi.NoEscape", "internal/bytealg.MakeNoZero", "internal/reflectlite.TypeOf"], unfollowed := true, recurses := true, named := ["rostrum/registry.errForm"], plainKeys := false, apart := false, laid := [("rostrum/registry.errForm", laid_rostrum_registry_errForm)] }
def RegistryBeginsSaid : Prop := registryBeginsRow.holds Tryd.pinned (OpenSpec.ofChange registryBeginsSpec)

/-- ITS FALSE NEIGHBOUR: 'it returns false'. Refute it at one input. -/
def registryBeginsWrong : ChangeSpec := { name := "registryBegins", fn := fun _ => fun
  | [d1, d2] => { results := [.lit (.bool false)], args := [d1, d2] }
  | _ => none }
def RegistryBeginsWrongFalsely : Prop := registryBeginsRow.holds Tryd.pinned (OpenSpec.ofChange registryBeginsWrong)

/-- 'rostrumlaw13.RegistryKnows': WHATEVER THE INPUT: true; the input reads as it did. -/
def registryKnowsSpec : ChangeSpec := { name := "registryKnows", fn := fun _ => fun
  | [d1, d2] => { results := [.lit (.bool true)], args := [d1, d2] }
  | _ => none }
def registryKnowsRow : OpenClaim := { program := "ytebdfelodihdhaadoor", sum := "0f14401596c1534a294ddc6a9627fda99af9ba2a2ec5ed93833867f7094c2d80", func := "rostrum/rostrumlaw13.RegistryKnows", spec := "registryKnows", inPlace := ["internal/abi.NoEscape", "internal/bytealg.MakeNoZero", "internal/reflectlite.TypeOf"], unfollowed := true, recurses := true, named := ["rostrum/registry.errForm"], plainKeys := false, apart := false, laid := [("rostrum/registry.errForm", laid_rostrum_registry_errForm)] }
def RegistryKnowsSaid : Prop := registryKnowsRow.holds Tryd.pinned (OpenSpec.ofChange registryKnowsSpec)

/-- ITS FALSE NEIGHBOUR: 'it returns false'. Refute it at one input. -/
def registryKnowsWrong : ChangeSpec := { name := "registryKnows", fn := fun _ => fun
  | [d1, d2] => { results := [.lit (.bool false)], args := [d1, d2] }
  | _ => none }
def RegistryKnowsWrongFalsely : Prop := registryKnowsRow.holds Tryd.pinned (OpenSpec.ofChange registryKnowsWrong)

/-- 'rostrumlaw15.MigrateTwo': WHATEVER THE INPUT: true; the input reads as it did. -/
def migrateTwoSpec : ChangeSpec := { name := "migrateTwo", fn := fun _ => fun
  | [d1, d2, d3] => { results := [.lit (.bool true)], args := [d1, d2, d3] }
  | _ => none }
def migrateTwoRow : OpenClaim := { program := "ytebdfelodihdhaadoor", sum := "0f14401596c1534a294ddc6a9627fda99af9ba2a2ec5ed93833867f7094c2d80", func := "rostrum/rostrumlaw15.MigrateTwo", spec := "migrateTwo", inPlace := ["internal/abi.NoEscape", "internal/bytealg.MakeNoZero", "internal/reflectlite.TypeOf"], unfollowed := true, recurses := true, named := ["rostrum/registry.errForm"], plainKeys := false, apart := false, laid := [("rostrum/registry.errForm", laid_rostrum_registry_errForm)] }
def MigrateTwoSaid : Prop := migrateTwoRow.holds Tryd.pinned (OpenSpec.ofChange migrateTwoSpec)

/-- ITS FALSE NEIGHBOUR: 'it returns false'. Refute it at one input. -/
def migrateTwoWrong : ChangeSpec := { name := "migrateTwo", fn := fun _ => fun
  | [d1, d2, d3] => { results := [.lit (.bool false)], args := [d1, d2, d3] }
  | _ => none }
def MigrateTwoWrongFalsely : Prop := migrateTwoRow.holds Tryd.pinned (OpenSpec.ofChange migrateTwoWrong)

/-- 'rostrumlaw15.MigrateQuiet': WHATEVER THE INPUT: true; the input reads as it did. -/
def migrateQuietSpec : ChangeSpec := { name := "migrateQuiet", fn := fun _ => fun
  | [d1, d2, d3] => { results := [.lit (.bool true)], args := [d1, d2, d3] }
  | _ => none }
def migrateQuietRow : OpenClaim := { program := "ytebdfelodihdhaadoor", sum := "0f14401596c1534a294ddc6a9627fda99af9ba2a2ec5ed93833867f7094c2d80", func := "rostrum/rostrumlaw15.MigrateQuiet", spec := "migrateQuiet", inPlace := ["internal/abi.NoEscape", "internal/bytealg.MakeNoZero", "internal/reflectlite.TypeOf"], unfollowed := true, recurses := true, named := ["rostrum/registry.errForm"], plainKeys := false, apart := false, laid := [("rostrum/registry.errForm", laid_rostrum_registry_errForm)] }
def MigrateQuietSaid : Prop := migrateQuietRow.holds Tryd.pinned (OpenSpec.ofChange migrateQuietSpec)

/-- ITS FALSE NEIGHBOUR: 'it returns false'. Refute it at one input. -/
def migrateQuietWrong : ChangeSpec := { name := "migrateQuiet", fn := fun _ => fun
  | [d1, d2, d3] => { results := [.lit (.bool false)], args := [d1, d2, d3] }
  | _ => none }
def MigrateQuietWrongFalsely : Prop := migrateQuietRow.holds Tryd.pinned (OpenSpec.ofChange migrateQuietWrong)

/-- 'rostrumlaw15.MigrateNone': WHATEVER THE INPUT: true; the input reads as it did. -/
def migrateNoneSpec : ChangeSpec := { name := "migrateNone", fn := fun _ => fun
  | [d] => { results := [.lit (.bool true)], args := [d] }
  | _ => none }
def migrateNoneRow : OpenClaim := { program := "ytebdfelodihdhaadoor", sum := "0f14401596c1534a294ddc6a9627fda99af9ba2a2ec5ed93833867f7094c2d80", func := "rostrum/rostrumlaw15.MigrateNone", spec := "migrateNone", inPlace := ["internal/abi.NoEscape", "internal/bytealg.MakeNoZero", "internal/reflectlite.TypeOf"], unfollowed := true, recurses := true, named := ["rostrum/registry.errForm"], plainKeys := false, apart := false, laid := [("rostrum/registry.errForm", laid_rostrum_registry_errForm)] }
def MigrateNoneSaid : Prop := migrateNoneRow.holds Tryd.pinned (OpenSpec.ofChange migrateNoneSpec)

/-- ITS FALSE NEIGHBOUR: 'it returns false'. Refute it at one input. -/
def migrateNoneWrong : ChangeSpec := { name := "migrateNone", fn := fun _ => fun
  | [d] => { results := [.lit (.bool false)], args := [d] }
  | _ => none }
def MigrateNoneWrongFalsely : Prop := migrateNoneRow.holds Tryd.pinned (OpenSpec.ofChange migrateNoneWrong)

/- THE SECOND FORM. 'bulk': how many values and letters a reading holds, each counted each time it is reached (what is shared counts as often as it is met; a slice's spare places count too). A statement '..UptoSaid' is the law's where the arguments, and the package variables that the reading takes, are together of bulk at most 1048576: NARROWER than '..Said'. Prove '..Said' where nothing that the law and all that it calls make is longer than what came in: it says more and counts as full. Else prove '..UptoSaid'. A law counts once. -/
mutual
def uptoBulk {H : Type} : DataW H → Nat
  | .lit (.string bytes) => bytes.length + 1
  | .lit _ => 1
  | .nil => 1
  | .ptr d => uptoBulk d + 1
  | .slice elems spare => uptoBulkAll elems + uptoBulkAll spare + 1
  | .agg parts => uptoBulkAll parts + 1
  | .iface _ d => uptoBulk d + 1
  | .map entries => uptoBulkEntries entries + 1
  | .held _ => 1
def uptoBulkAll {H : Type} : List (DataW H) → Nat
  | [] => 0
  | d :: r => uptoBulk d + uptoBulkAll r
def uptoBulkEntries {H : Type} : List (Lit × DataW H) → Nat
  | [] => 0
  | x :: r => uptoBulkEntry x + uptoBulkEntries r
def uptoBulkEntry {H : Type} : Lit × DataW H → Nat
  | (.string bytes, d) => bytes.length + uptoBulk d + 1
  | (_, d) => uptoBulk d + 1
 end
def uptoSmall : (H : Type) → List (DataW H) → Bool := fun _ ds => decide (uptoBulkAll ds ≤ 1048576)
def OpenSpec.upto (s : _root_.Go.ChangeSpec) : _root_.Go.OpenSpec := { _root_.Go.OpenSpec.ofChange s with cond := some uptoSmall }

/-- 'rostrumlaw13.RegistryMigrates', WHERE WHAT IT READS IS OF BULK AT MOST 1048576: true; the input reads as it did. -/
def registryMigratesUptoRow : OpenClaim := { program := "ytebdfelodihdhaadoor", sum := "0f14401596c1534a294ddc6a9627fda99af9ba2a2ec5ed93833867f7094c2d80", func := "rostrum/rostrumlaw13.RegistryMigrates", spec := "registryMigrates", inPlace := ["internal/abi.NoEscape", "internal/bytealg.MakeNoZero", "internal/reflectlite.TypeOf"], unfollowed := true, recurses := true, named := ["rostrum/registry.errForm"], plainKeys := false, apart := false, laid := [("rostrum/registry.errForm", laid_rostrum_registry_errForm)], narrowed := true }
def RegistryMigratesUptoSaid : Prop := registryMigratesUptoRow.holds Tryd.pinned (OpenSpec.upto registryMigratesSpec)

/-- 'rostrumlaw13.RegistryBack', WHERE WHAT IT READS IS OF BULK AT MOST 1048576: true; the input reads as it did. -/
def registryBackUptoRow : OpenClaim := { program := "ytebdfelodihdhaadoor", sum := "0f14401596c1534a294ddc6a9627fda99af9ba2a2ec5ed93833867f7094c2d80", func := "rostrum/rostrumlaw13.RegistryBack", spec := "registryBack", inPlace := ["internal/abi.NoEscape", "internal/bytealg.MakeNoZero", "internal/reflectlite.TypeOf"], unfollowed := true, recurses := true, named := ["rostrum/registry.errForm"], plainKeys := false, apart := false, laid := [("rostrum/registry.errForm", laid_rostrum_registry_errForm)], narrowed := true }
def RegistryBackUptoSaid : Prop := registryBackUptoRow.holds Tryd.pinned (OpenSpec.upto registryBackSpec)

/-- 'rostrumlaw13.RegistryWays', WHERE WHAT IT READS IS OF BULK AT MOST 1048576: true; the input reads as it did. -/
def registryWaysUptoRow : OpenClaim := { program := "ytebdfelodihdhaadoor", sum := "0f14401596c1534a294ddc6a9627fda99af9ba2a2ec5ed93833867f7094c2d80", func := "rostrum/rostrumlaw13.RegistryWays", spec := "registryWays", inPlace := ["internal/abi.NoEscape", "internal/bytealg.MakeNoZero", "internal/reflectlite.TypeOf"], unfollowed := true, recurses := true, named := ["rostrum/registry.errForm"], plainKeys := false, apart := false, laid := [("rostrum/registry.errForm", laid_rostrum_registry_errForm)], narrowed := true }
def RegistryWaysUptoSaid : Prop := registryWaysUptoRow.holds Tryd.pinned (OpenSpec.upto registryWaysSpec)

/-- 'rostrumlaw13.RegistryFull', WHERE WHAT IT READS IS OF BULK AT MOST 1048576: true; the input reads as it did. -/
def registryFullUptoRow : OpenClaim := { program := "ytebdfelodihdhaadoor", sum := "0f14401596c1534a294ddc6a9627fda99af9ba2a2ec5ed93833867f7094c2d80", func := "rostrum/rostrumlaw13.RegistryFull", spec := "registryFull", inPlace := ["internal/abi.NoEscape", "internal/bytealg.MakeNoZero", "internal/reflectlite.TypeOf"], unfollowed := true, recurses := true, named := ["rostrum/registry.errForm"], plainKeys := false, apart := false, laid := [("rostrum/registry.errForm", laid_rostrum_registry_errForm)], narrowed := true }
def RegistryFullUptoSaid : Prop := registryFullUptoRow.holds Tryd.pinned (OpenSpec.upto registryFullSpec)

/-- 'rostrumlaw13.RegistryCounts', WHERE WHAT IT READS IS OF BULK AT MOST 1048576: true; the input reads as it did. -/
def registryCountsUptoRow : OpenClaim := { program := "ytebdfelodihdhaadoor", sum := "0f14401596c1534a294ddc6a9627fda99af9ba2a2ec5ed93833867f7094c2d80", func := "rostrum/rostrumlaw13.RegistryCounts", spec := "registryCounts", inPlace := ["internal/abi.NoEscape", "internal/bytealg.MakeNoZero", "internal/reflectlite.TypeOf"], unfollowed := true, recurses := true, named := ["rostrum/registry.errForm"], plainKeys := false, apart := false, laid := [("rostrum/registry.errForm", laid_rostrum_registry_errForm)], narrowed := true }
def RegistryCountsUptoSaid : Prop := registryCountsUptoRow.holds Tryd.pinned (OpenSpec.upto registryCountsSpec)

/-- 'rostrumlaw13.RegistryBegins', WHERE WHAT IT READS IS OF BULK AT MOST 1048576: true; the input reads as it did. -/
def registryBeginsUptoRow : OpenClaim := { program := "ytebdfelodihdhaadoor", sum := "0f14401596c1534a294ddc6a9627fda99af9ba2a2ec5ed93833867f7094c2d80", func := "rostrum/rostrumlaw13.RegistryBegins", spec := "registryBegins", inPlace := ["internal/abi.NoEscape", "internal/bytealg.MakeNoZero", "internal/reflectlite.TypeOf"], unfollowed := true, recurses := true, named := ["rostrum/registry.errForm"], plainKeys := false, apart := false, laid := [("rostrum/registry.errForm", laid_rostrum_registry_errForm)], narrowed := true }
def RegistryBeginsUptoSaid : Prop := registryBeginsUptoRow.holds Tryd.pinned (OpenSpec.upto registryBeginsSpec)

/-- 'rostrumlaw13.RegistryKnows', WHERE WHAT IT READS IS OF BULK AT MOST 1048576: true; the input reads as it did. -/
def registryKnowsUptoRow : OpenClaim := { program := "ytebdfelodihdhaadoor", sum := "0f14401596c1534a294ddc6a9627fda99af9ba2a2ec5ed93833867f7094c2d80", func := "rostrum/rostrumlaw13.RegistryKnows", spec := "registryKnows", inPlace := ["internal/abi.NoEscape", "internal/bytealg.MakeNoZero", "internal/reflectlite.TypeOf"], unfollowed := true, recurses := true, named := ["rostrum/registry.errForm"], plainKeys := false, apart := false, laid := [("rostrum/registry.errForm", laid_rostrum_registry_errForm)], narrowed := true }
def RegistryKnowsUptoSaid : Prop := registryKnowsUptoRow.holds Tryd.pinned (OpenSpec.upto registryKnowsSpec)

/-- 'rostrumlaw15.MigrateTwo', WHERE WHAT IT READS IS OF BULK AT MOST 1048576: true; the input reads as it did. -/
def migrateTwoUptoRow : OpenClaim := { program := "ytebdfelodihdhaadoor", sum := "0f14401596c1534a294ddc6a9627fda99af9ba2a2ec5ed93833867f7094c2d80", func := "rostrum/rostrumlaw15.MigrateTwo", spec := "migrateTwo", inPlace := ["internal/abi.NoEscape", "internal/bytealg.MakeNoZero", "internal/reflectlite.TypeOf"], unfollowed := true, recurses := true, named := ["rostrum/registry.errForm"], plainKeys := false, apart := false, laid := [("rostrum/registry.errForm", laid_rostrum_registry_errForm)], narrowed := true }
def MigrateTwoUptoSaid : Prop := migrateTwoUptoRow.holds Tryd.pinned (OpenSpec.upto migrateTwoSpec)

/-- 'rostrumlaw15.MigrateQuiet', WHERE WHAT IT READS IS OF BULK AT MOST 1048576: true; the input reads as it did. -/
def migrateQuietUptoRow : OpenClaim := { program := "ytebdfelodihdhaadoor", sum := "0f14401596c1534a294ddc6a9627fda99af9ba2a2ec5ed93833867f7094c2d80", func := "rostrum/rostrumlaw15.MigrateQuiet", spec := "migrateQuiet", inPlace := ["internal/abi.NoEscape", "internal/bytealg.MakeNoZero", "internal/reflectlite.TypeOf"], unfollowed := true, recurses := true, named := ["rostrum/registry.errForm"], plainKeys := false, apart := false, laid := [("rostrum/registry.errForm", laid_rostrum_registry_errForm)], narrowed := true }
def MigrateQuietUptoSaid : Prop := migrateQuietUptoRow.holds Tryd.pinned (OpenSpec.upto migrateQuietSpec)

/-- 'rostrumlaw15.MigrateNone', WHERE WHAT IT READS IS OF BULK AT MOST 1048576: true; the input reads as it did. -/
def migrateNoneUptoRow : OpenClaim := { program := "ytebdfelodihdhaadoor", sum := "0f14401596c1534a294ddc6a9627fda99af9ba2a2ec5ed93833867f7094c2d80", func := "rostrum/rostrumlaw15.MigrateNone", spec := "migrateNone", inPlace := ["internal/abi.NoEscape", "internal/bytealg.MakeNoZero", "internal/reflectlite.TypeOf"], unfollowed := true, recurses := true, named := ["rostrum/registry.errForm"], plainKeys := false, apart := false, laid := [("rostrum/registry.errForm", laid_rostrum_registry_errForm)], narrowed := true }
def MigrateNoneUptoSaid : Prop := migrateNoneUptoRow.holds Tryd.pinned (OpenSpec.upto migrateNoneSpec)

end Rows
end Go.Proofs.YtebdfelodihdhaaDoor
