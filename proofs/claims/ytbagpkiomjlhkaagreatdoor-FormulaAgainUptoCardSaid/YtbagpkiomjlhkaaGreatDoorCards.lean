/-
  DERIVED. GIVEN WITH THE SEED: THE CARDS: each row of YtbagpkiomjlhkaaGreatDoorRows.lean that lists a variable, with what it lists TIED to the program's text (the seventh form; the later family's looks); each row that meets fmt, with fmt's text TOLD by the authors' own Lean function (tested against real Go, not proved from fmt's source: count such statements apart). THE CARD IS WHAT COUNTS. Prove the row's statement (the work); the ties are given (YtbagpkiomjlhkaaGreatDoorTie.lean); close each card by the builder's one call (the guide's Derived/Test/ToyasCard.lean, 'card_holds'). Laid BY PROGRAM, IN A SANDBOX (cutbox-door.mjs). By AI agents, Wed Nov 11 2026. No macro, syntax, notation, axiom, sorry.
-/
import Derived.Test.YtbagpkiomjlhkaaGreatDoorRows
import GoSem.ClaimSeven
namespace Go.Proofs.YtbagpkiomjlhkaaGreatDoor
namespace Rows

/-- THE TIED CARD OF 'manifoldlaw17.FormulaPrints'. -/
def formulaPrintsCard : Claim7 := { stood := { row := formulaPrintsRow, standIns := [], harness := (true, "1d3a072eb2a1d6763eb44a707b511cfa39a58a5d4540a46e677af09166e4b6f9"), looks := true }, kinds := [], alts := [], laidByText := true, laidKinds := [.data, .data, .data, .data, .sentinel, .sentinel, .widerDeep, .pinned], laidTests := true, laidLooks := .later }
def FormulaPrintsCardSaid : Prop := Claim7.holds Tryz.pinned (.plain (OpenSpec.ofChange formulaPrintsSpec)) formulaPrintsCard

/-- THE TIED CARD OF 'manifoldlaw17.FormulaReserved'. -/
def formulaReservedCard : Claim7 := { stood := { row := formulaReservedRow, standIns := [], harness := (true, "1d3a072eb2a1d6763eb44a707b511cfa39a58a5d4540a46e677af09166e4b6f9"), looks := true }, kinds := [], alts := [], laidByText := true, laidKinds := [.data, .data, .data, .data, .sentinel, .sentinel, .widerDeep, .pinned], laidTests := true, laidLooks := .later }
def FormulaReservedCardSaid : Prop := Claim7.holds Tryz.pinned (.plain (OpenSpec.ofChange formulaReservedSpec)) formulaReservedCard

/-- THE TIED CARD OF 'manifoldlaw17.FormulaReads'. -/
def formulaReadsCard : Claim7 := { stood := { row := formulaReadsRow, standIns := [], harness := (true, "1d3a072eb2a1d6763eb44a707b511cfa39a58a5d4540a46e677af09166e4b6f9"), looks := true }, kinds := [], alts := [], laidByText := true, laidKinds := [.data, .data, .data, .data, .sentinel, .sentinel, .widerDeep, .pinned], laidTests := true, laidLooks := .later }
def FormulaReadsCardSaid : Prop := Claim7.holds Tryz.pinned (.plain (OpenSpec.ofChange formulaReadsSpec)) formulaReadsCard

/-- THE TIED CARD OF 'manifoldlaw17.FormulaParses'. -/
def formulaParsesCard : Claim7 := { stood := { row := formulaParsesRow, standIns := [], harness := (true, "1d3a072eb2a1d6763eb44a707b511cfa39a58a5d4540a46e677af09166e4b6f9"), looks := true }, kinds := [], alts := [], laidByText := true, laidKinds := [.data, .data, .data, .data, .sentinel, .sentinel, .widerDeep, .pinned], laidTests := true, laidLooks := .later }
def FormulaParsesCardSaid : Prop := Claim7.holds Tryz.pinned (.plain (OpenSpec.ofChange formulaParsesSpec)) formulaParsesCard

/-- THE TIED CARD OF 'manifoldlaw17.FormulaAgain'. -/
def formulaAgainCard : Claim7 := { stood := { row := formulaAgainRow, standIns := [], harness := (true, "1d3a072eb2a1d6763eb44a707b511cfa39a58a5d4540a46e677af09166e4b6f9"), looks := true }, kinds := [], alts := [], laidByText := true, laidKinds := [.data, .data, .data, .data, .sentinel, .sentinel, .widerDeep, .pinned], laidTests := true, laidLooks := .later }
def FormulaAgainCardSaid : Prop := Claim7.holds Tryz.pinned (.plain (OpenSpec.ofChange formulaAgainSpec)) formulaAgainCard

/-- THE TIED CARD OF 'manifoldlaw17.FormulaParentheses'. -/
def formulaParenthesesCard : Claim7 := { stood := { row := formulaParenthesesRow, standIns := [], harness := (true, "1d3a072eb2a1d6763eb44a707b511cfa39a58a5d4540a46e677af09166e4b6f9"), looks := true }, kinds := [], alts := [], laidByText := true, laidKinds := [.data, .data, .data, .data, .sentinel, .sentinel, .widerDeep, .pinned], laidTests := true, laidLooks := .later }
def FormulaParenthesesCardSaid : Prop := Claim7.holds Tryz.pinned (.plain (OpenSpec.ofChange formulaParenthesesSpec)) formulaParenthesesCard

/-- THE TIED CARD OF 'manifoldlaw17.FormulaStops'. -/
def formulaStopsCard : Claim7 := { stood := { row := formulaStopsRow, standIns := [], harness := (true, "1d3a072eb2a1d6763eb44a707b511cfa39a58a5d4540a46e677af09166e4b6f9"), looks := true }, kinds := [], alts := [], laidByText := true, laidKinds := [.data, .data, .data, .data, .sentinel, .sentinel, .widerDeep, .pinned], laidTests := true, laidLooks := .later }
def FormulaStopsCardSaid : Prop := Claim7.holds Tryz.pinned (.plain (OpenSpec.ofChange formulaStopsSpec)) formulaStopsCard

/-- THE TIED CARD OF 'manifoldlaw17.FormulaValues'. -/
def formulaValuesCard : Claim7 := { stood := { row := formulaValuesRow, standIns := [], harness := (true, "1d3a072eb2a1d6763eb44a707b511cfa39a58a5d4540a46e677af09166e4b6f9"), looks := true }, kinds := [], alts := [], laidByText := true, laidKinds := [.data, .data, .data, .data, .sentinel, .sentinel, .widerDeep, .pinned], laidTests := true, laidLooks := .later }
def FormulaValuesCardSaid : Prop := Claim7.holds Tryz.pinned (.plain (OpenSpec.ofChange formulaValuesSpec)) formulaValuesCard

/-- THE TIED CARD OF 'manifoldlaw17.FormulaNest'. -/
def formulaNestCard : Claim7 := { stood := { row := formulaNestRow, standIns := [], harness := (true, "1d3a072eb2a1d6763eb44a707b511cfa39a58a5d4540a46e677af09166e4b6f9"), looks := true }, kinds := [], alts := [], laidByText := true, laidKinds := [.data, .data, .data, .data, .sentinel, .sentinel, .widerDeep, .pinned], laidTests := true, laidLooks := .later }
def FormulaNestCardSaid : Prop := Claim7.holds Tryz.pinned (.plain (OpenSpec.ofChange formulaNestSpec)) formulaNestCard

/-- THE SECOND FORM's CARD OF 'manifoldlaw17.FormulaPrints'. -/
def formulaPrintsUptoCard : Claim7 := { stood := { row := formulaPrintsUptoRow, standIns := [], harness := (true, "1d3a072eb2a1d6763eb44a707b511cfa39a58a5d4540a46e677af09166e4b6f9"), looks := true }, kinds := [], alts := [], laidByText := true, laidKinds := [.data, .data, .data, .data, .sentinel, .sentinel, .widerDeep, .pinned], laidTests := true, laidLooks := .later }
def FormulaPrintsUptoCardSaid : Prop := Claim7.holds Tryz.pinned (.plain (OpenSpec.upto formulaPrintsSpec)) formulaPrintsUptoCard

/-- THE SECOND FORM's CARD OF 'manifoldlaw17.FormulaReserved'. -/
def formulaReservedUptoCard : Claim7 := { stood := { row := formulaReservedUptoRow, standIns := [], harness := (true, "1d3a072eb2a1d6763eb44a707b511cfa39a58a5d4540a46e677af09166e4b6f9"), looks := true }, kinds := [], alts := [], laidByText := true, laidKinds := [.data, .data, .data, .data, .sentinel, .sentinel, .widerDeep, .pinned], laidTests := true, laidLooks := .later }
def FormulaReservedUptoCardSaid : Prop := Claim7.holds Tryz.pinned (.plain (OpenSpec.upto formulaReservedSpec)) formulaReservedUptoCard

/-- THE SECOND FORM's CARD OF 'manifoldlaw17.FormulaReads'. -/
def formulaReadsUptoCard : Claim7 := { stood := { row := formulaReadsUptoRow, standIns := [], harness := (true, "1d3a072eb2a1d6763eb44a707b511cfa39a58a5d4540a46e677af09166e4b6f9"), looks := true }, kinds := [], alts := [], laidByText := true, laidKinds := [.data, .data, .data, .data, .sentinel, .sentinel, .widerDeep, .pinned], laidTests := true, laidLooks := .later }
def FormulaReadsUptoCardSaid : Prop := Claim7.holds Tryz.pinned (.plain (OpenSpec.upto formulaReadsSpec)) formulaReadsUptoCard

/-- THE SECOND FORM's CARD OF 'manifoldlaw17.FormulaParses'. -/
def formulaParsesUptoCard : Claim7 := { stood := { row := formulaParsesUptoRow, standIns := [], harness := (true, "1d3a072eb2a1d6763eb44a707b511cfa39a58a5d4540a46e677af09166e4b6f9"), looks := true }, kinds := [], alts := [], laidByText := true, laidKinds := [.data, .data, .data, .data, .sentinel, .sentinel, .widerDeep, .pinned], laidTests := true, laidLooks := .later }
def FormulaParsesUptoCardSaid : Prop := Claim7.holds Tryz.pinned (.plain (OpenSpec.upto formulaParsesSpec)) formulaParsesUptoCard

/-- THE SECOND FORM's CARD OF 'manifoldlaw17.FormulaAgain'. -/
def formulaAgainUptoCard : Claim7 := { stood := { row := formulaAgainUptoRow, standIns := [], harness := (true, "1d3a072eb2a1d6763eb44a707b511cfa39a58a5d4540a46e677af09166e4b6f9"), looks := true }, kinds := [], alts := [], laidByText := true, laidKinds := [.data, .data, .data, .data, .sentinel, .sentinel, .widerDeep, .pinned], laidTests := true, laidLooks := .later }
def FormulaAgainUptoCardSaid : Prop := Claim7.holds Tryz.pinned (.plain (OpenSpec.upto formulaAgainSpec)) formulaAgainUptoCard

/-- THE SECOND FORM's CARD OF 'manifoldlaw17.FormulaParentheses'. -/
def formulaParenthesesUptoCard : Claim7 := { stood := { row := formulaParenthesesUptoRow, standIns := [], harness := (true, "1d3a072eb2a1d6763eb44a707b511cfa39a58a5d4540a46e677af09166e4b6f9"), looks := true }, kinds := [], alts := [], laidByText := true, laidKinds := [.data, .data, .data, .data, .sentinel, .sentinel, .widerDeep, .pinned], laidTests := true, laidLooks := .later }
def FormulaParenthesesUptoCardSaid : Prop := Claim7.holds Tryz.pinned (.plain (OpenSpec.upto formulaParenthesesSpec)) formulaParenthesesUptoCard

/-- THE SECOND FORM's CARD OF 'manifoldlaw17.FormulaStops'. -/
def formulaStopsUptoCard : Claim7 := { stood := { row := formulaStopsUptoRow, standIns := [], harness := (true, "1d3a072eb2a1d6763eb44a707b511cfa39a58a5d4540a46e677af09166e4b6f9"), looks := true }, kinds := [], alts := [], laidByText := true, laidKinds := [.data, .data, .data, .data, .sentinel, .sentinel, .widerDeep, .pinned], laidTests := true, laidLooks := .later }
def FormulaStopsUptoCardSaid : Prop := Claim7.holds Tryz.pinned (.plain (OpenSpec.upto formulaStopsSpec)) formulaStopsUptoCard

/-- THE SECOND FORM's CARD OF 'manifoldlaw17.FormulaValues'. -/
def formulaValuesUptoCard : Claim7 := { stood := { row := formulaValuesUptoRow, standIns := [], harness := (true, "1d3a072eb2a1d6763eb44a707b511cfa39a58a5d4540a46e677af09166e4b6f9"), looks := true }, kinds := [], alts := [], laidByText := true, laidKinds := [.data, .data, .data, .data, .sentinel, .sentinel, .widerDeep, .pinned], laidTests := true, laidLooks := .later }
def FormulaValuesUptoCardSaid : Prop := Claim7.holds Tryz.pinned (.plain (OpenSpec.upto formulaValuesSpec)) formulaValuesUptoCard

/-- THE SECOND FORM's CARD OF 'manifoldlaw17.FormulaNest'. -/
def formulaNestUptoCard : Claim7 := { stood := { row := formulaNestUptoRow, standIns := [], harness := (true, "1d3a072eb2a1d6763eb44a707b511cfa39a58a5d4540a46e677af09166e4b6f9"), looks := true }, kinds := [], alts := [], laidByText := true, laidKinds := [.data, .data, .data, .data, .sentinel, .sentinel, .widerDeep, .pinned], laidTests := true, laidLooks := .later }
def FormulaNestUptoCardSaid : Prop := Claim7.holds Tryz.pinned (.plain (OpenSpec.upto formulaNestSpec)) formulaNestUptoCard
end Rows
end Go.Proofs.YtbagpkiomjlhkaaGreatDoor
