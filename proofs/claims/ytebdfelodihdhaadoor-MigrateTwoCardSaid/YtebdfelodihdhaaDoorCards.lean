/-
  DERIVED. GIVEN WITH THE SEED: THE CARDS: each row of YtebdfelodihdhaaDoorRows.lean that lists a variable, with what it lists TIED to the program's text (the seventh form; the later family's looks); each row that meets fmt, with fmt's text TOLD by the authors' own Lean function (tested against real Go, not proved from fmt's source: count such statements apart). THE CARD IS WHAT COUNTS. Prove the row's statement (the work); the ties are given (YtebdfelodihdhaaDoorTie.lean); close each card by the builder's one call (the guide's Derived/Test/ToyasCard.lean, 'card_holds'). Laid BY PROGRAM, IN A SANDBOX (cutbox-door.mjs). By AI agents, Wed Nov 11 2026. No macro, syntax, notation, axiom, sorry.
-/
import Derived.Test.YtebdfelodihdhaaDoorRows
import GoSem.ClaimSeven
namespace Go.Proofs.YtebdfelodihdhaaDoor
namespace Rows

/-- THE TIED CARD OF 'rostrumlaw13.RegistryMigrates'. -/
def registryMigratesCard : Claim7 := { stood := { row := registryMigratesRow, standIns := [], harness := (true, "6f8588457fc7e26d610d056b3cd6dc5b76b1f96c237b1e6a2a4db3c5bbcec864"), looks := true }, kinds := [], alts := [], laidByText := true, laidKinds := [.sentinel], laidTests := true, laidLooks := .later }
def RegistryMigratesCardSaid : Prop := Claim7.holds Tryd.pinned (.plain (OpenSpec.ofChange registryMigratesSpec)) registryMigratesCard

/-- THE TIED CARD OF 'rostrumlaw13.RegistryBack'. -/
def registryBackCard : Claim7 := { stood := { row := registryBackRow, standIns := [], harness := (true, "6f8588457fc7e26d610d056b3cd6dc5b76b1f96c237b1e6a2a4db3c5bbcec864"), looks := true }, kinds := [], alts := [], laidByText := true, laidKinds := [.sentinel], laidTests := true, laidLooks := .later }
def RegistryBackCardSaid : Prop := Claim7.holds Tryd.pinned (.plain (OpenSpec.ofChange registryBackSpec)) registryBackCard

/-- THE TIED CARD OF 'rostrumlaw13.RegistryWays'. -/
def registryWaysCard : Claim7 := { stood := { row := registryWaysRow, standIns := [], harness := (true, "6f8588457fc7e26d610d056b3cd6dc5b76b1f96c237b1e6a2a4db3c5bbcec864"), looks := true }, kinds := [], alts := [], laidByText := true, laidKinds := [.sentinel], laidTests := true, laidLooks := .later }
def RegistryWaysCardSaid : Prop := Claim7.holds Tryd.pinned (.plain (OpenSpec.ofChange registryWaysSpec)) registryWaysCard

/-- THE TIED CARD OF 'rostrumlaw13.RegistryFull'. -/
def registryFullCard : Claim7 := { stood := { row := registryFullRow, standIns := [], harness := (true, "6f8588457fc7e26d610d056b3cd6dc5b76b1f96c237b1e6a2a4db3c5bbcec864"), looks := true }, kinds := [], alts := [], laidByText := true, laidKinds := [.sentinel], laidTests := true, laidLooks := .later }
def RegistryFullCardSaid : Prop := Claim7.holds Tryd.pinned (.plain (OpenSpec.ofChange registryFullSpec)) registryFullCard

/-- THE TIED CARD OF 'rostrumlaw13.RegistryCounts'. -/
def registryCountsCard : Claim7 := { stood := { row := registryCountsRow, standIns := [], harness := (true, "6f8588457fc7e26d610d056b3cd6dc5b76b1f96c237b1e6a2a4db3c5bbcec864"), looks := true }, kinds := [], alts := [], laidByText := true, laidKinds := [.sentinel], laidTests := true, laidLooks := .later }
def RegistryCountsCardSaid : Prop := Claim7.holds Tryd.pinned (.plain (OpenSpec.ofChange registryCountsSpec)) registryCountsCard

/-- THE TIED CARD OF 'rostrumlaw13.RegistryBegins'. -/
def registryBeginsCard : Claim7 := { stood := { row := registryBeginsRow, standIns := [], harness := (true, "6f8588457fc7e26d610d056b3cd6dc5b76b1f96c237b1e6a2a4db3c5bbcec864"), looks := true }, kinds := [], alts := [], laidByText := true, laidKinds := [.sentinel], laidTests := true, laidLooks := .later }
def RegistryBeginsCardSaid : Prop := Claim7.holds Tryd.pinned (.plain (OpenSpec.ofChange registryBeginsSpec)) registryBeginsCard

/-- THE TIED CARD OF 'rostrumlaw13.RegistryKnows'. -/
def registryKnowsCard : Claim7 := { stood := { row := registryKnowsRow, standIns := [], harness := (true, "6f8588457fc7e26d610d056b3cd6dc5b76b1f96c237b1e6a2a4db3c5bbcec864"), looks := true }, kinds := [], alts := [], laidByText := true, laidKinds := [.sentinel], laidTests := true, laidLooks := .later }
def RegistryKnowsCardSaid : Prop := Claim7.holds Tryd.pinned (.plain (OpenSpec.ofChange registryKnowsSpec)) registryKnowsCard

/-- THE TIED CARD OF 'rostrumlaw15.MigrateTwo'. -/
def migrateTwoCard : Claim7 := { stood := { row := migrateTwoRow, standIns := [], harness := (true, "6f8588457fc7e26d610d056b3cd6dc5b76b1f96c237b1e6a2a4db3c5bbcec864"), looks := true }, kinds := [], alts := [], laidByText := true, laidKinds := [.sentinel], laidTests := true, laidLooks := .later }
def MigrateTwoCardSaid : Prop := Claim7.holds Tryd.pinned (.plain (OpenSpec.ofChange migrateTwoSpec)) migrateTwoCard

/-- THE TIED CARD OF 'rostrumlaw15.MigrateQuiet'. -/
def migrateQuietCard : Claim7 := { stood := { row := migrateQuietRow, standIns := [], harness := (true, "6f8588457fc7e26d610d056b3cd6dc5b76b1f96c237b1e6a2a4db3c5bbcec864"), looks := true }, kinds := [], alts := [], laidByText := true, laidKinds := [.sentinel], laidTests := true, laidLooks := .later }
def MigrateQuietCardSaid : Prop := Claim7.holds Tryd.pinned (.plain (OpenSpec.ofChange migrateQuietSpec)) migrateQuietCard

/-- THE TIED CARD OF 'rostrumlaw15.MigrateNone'. -/
def migrateNoneCard : Claim7 := { stood := { row := migrateNoneRow, standIns := [], harness := (true, "6f8588457fc7e26d610d056b3cd6dc5b76b1f96c237b1e6a2a4db3c5bbcec864"), looks := true }, kinds := [], alts := [], laidByText := true, laidKinds := [.sentinel], laidTests := true, laidLooks := .later }
def MigrateNoneCardSaid : Prop := Claim7.holds Tryd.pinned (.plain (OpenSpec.ofChange migrateNoneSpec)) migrateNoneCard

/-- THE SECOND FORM's CARD OF 'rostrumlaw13.RegistryMigrates'. -/
def registryMigratesUptoCard : Claim7 := { stood := { row := registryMigratesUptoRow, standIns := [], harness := (true, "6f8588457fc7e26d610d056b3cd6dc5b76b1f96c237b1e6a2a4db3c5bbcec864"), looks := true }, kinds := [], alts := [], laidByText := true, laidKinds := [.sentinel], laidTests := true, laidLooks := .later }
def RegistryMigratesUptoCardSaid : Prop := Claim7.holds Tryd.pinned (.plain (OpenSpec.upto registryMigratesSpec)) registryMigratesUptoCard

/-- THE SECOND FORM's CARD OF 'rostrumlaw13.RegistryBack'. -/
def registryBackUptoCard : Claim7 := { stood := { row := registryBackUptoRow, standIns := [], harness := (true, "6f8588457fc7e26d610d056b3cd6dc5b76b1f96c237b1e6a2a4db3c5bbcec864"), looks := true }, kinds := [], alts := [], laidByText := true, laidKinds := [.sentinel], laidTests := true, laidLooks := .later }
def RegistryBackUptoCardSaid : Prop := Claim7.holds Tryd.pinned (.plain (OpenSpec.upto registryBackSpec)) registryBackUptoCard

/-- THE SECOND FORM's CARD OF 'rostrumlaw13.RegistryWays'. -/
def registryWaysUptoCard : Claim7 := { stood := { row := registryWaysUptoRow, standIns := [], harness := (true, "6f8588457fc7e26d610d056b3cd6dc5b76b1f96c237b1e6a2a4db3c5bbcec864"), looks := true }, kinds := [], alts := [], laidByText := true, laidKinds := [.sentinel], laidTests := true, laidLooks := .later }
def RegistryWaysUptoCardSaid : Prop := Claim7.holds Tryd.pinned (.plain (OpenSpec.upto registryWaysSpec)) registryWaysUptoCard

/-- THE SECOND FORM's CARD OF 'rostrumlaw13.RegistryFull'. -/
def registryFullUptoCard : Claim7 := { stood := { row := registryFullUptoRow, standIns := [], harness := (true, "6f8588457fc7e26d610d056b3cd6dc5b76b1f96c237b1e6a2a4db3c5bbcec864"), looks := true }, kinds := [], alts := [], laidByText := true, laidKinds := [.sentinel], laidTests := true, laidLooks := .later }
def RegistryFullUptoCardSaid : Prop := Claim7.holds Tryd.pinned (.plain (OpenSpec.upto registryFullSpec)) registryFullUptoCard

/-- THE SECOND FORM's CARD OF 'rostrumlaw13.RegistryCounts'. -/
def registryCountsUptoCard : Claim7 := { stood := { row := registryCountsUptoRow, standIns := [], harness := (true, "6f8588457fc7e26d610d056b3cd6dc5b76b1f96c237b1e6a2a4db3c5bbcec864"), looks := true }, kinds := [], alts := [], laidByText := true, laidKinds := [.sentinel], laidTests := true, laidLooks := .later }
def RegistryCountsUptoCardSaid : Prop := Claim7.holds Tryd.pinned (.plain (OpenSpec.upto registryCountsSpec)) registryCountsUptoCard

/-- THE SECOND FORM's CARD OF 'rostrumlaw13.RegistryBegins'. -/
def registryBeginsUptoCard : Claim7 := { stood := { row := registryBeginsUptoRow, standIns := [], harness := (true, "6f8588457fc7e26d610d056b3cd6dc5b76b1f96c237b1e6a2a4db3c5bbcec864"), looks := true }, kinds := [], alts := [], laidByText := true, laidKinds := [.sentinel], laidTests := true, laidLooks := .later }
def RegistryBeginsUptoCardSaid : Prop := Claim7.holds Tryd.pinned (.plain (OpenSpec.upto registryBeginsSpec)) registryBeginsUptoCard

/-- THE SECOND FORM's CARD OF 'rostrumlaw13.RegistryKnows'. -/
def registryKnowsUptoCard : Claim7 := { stood := { row := registryKnowsUptoRow, standIns := [], harness := (true, "6f8588457fc7e26d610d056b3cd6dc5b76b1f96c237b1e6a2a4db3c5bbcec864"), looks := true }, kinds := [], alts := [], laidByText := true, laidKinds := [.sentinel], laidTests := true, laidLooks := .later }
def RegistryKnowsUptoCardSaid : Prop := Claim7.holds Tryd.pinned (.plain (OpenSpec.upto registryKnowsSpec)) registryKnowsUptoCard

/-- THE SECOND FORM's CARD OF 'rostrumlaw15.MigrateTwo'. -/
def migrateTwoUptoCard : Claim7 := { stood := { row := migrateTwoUptoRow, standIns := [], harness := (true, "6f8588457fc7e26d610d056b3cd6dc5b76b1f96c237b1e6a2a4db3c5bbcec864"), looks := true }, kinds := [], alts := [], laidByText := true, laidKinds := [.sentinel], laidTests := true, laidLooks := .later }
def MigrateTwoUptoCardSaid : Prop := Claim7.holds Tryd.pinned (.plain (OpenSpec.upto migrateTwoSpec)) migrateTwoUptoCard

/-- THE SECOND FORM's CARD OF 'rostrumlaw15.MigrateQuiet'. -/
def migrateQuietUptoCard : Claim7 := { stood := { row := migrateQuietUptoRow, standIns := [], harness := (true, "6f8588457fc7e26d610d056b3cd6dc5b76b1f96c237b1e6a2a4db3c5bbcec864"), looks := true }, kinds := [], alts := [], laidByText := true, laidKinds := [.sentinel], laidTests := true, laidLooks := .later }
def MigrateQuietUptoCardSaid : Prop := Claim7.holds Tryd.pinned (.plain (OpenSpec.upto migrateQuietSpec)) migrateQuietUptoCard

/-- THE SECOND FORM's CARD OF 'rostrumlaw15.MigrateNone'. -/
def migrateNoneUptoCard : Claim7 := { stood := { row := migrateNoneUptoRow, standIns := [], harness := (true, "6f8588457fc7e26d610d056b3cd6dc5b76b1f96c237b1e6a2a4db3c5bbcec864"), looks := true }, kinds := [], alts := [], laidByText := true, laidKinds := [.sentinel], laidTests := true, laidLooks := .later }
def MigrateNoneUptoCardSaid : Prop := Claim7.holds Tryd.pinned (.plain (OpenSpec.upto migrateNoneSpec)) migrateNoneUptoCard
end Rows
end Go.Proofs.YtebdfelodihdhaaDoor
