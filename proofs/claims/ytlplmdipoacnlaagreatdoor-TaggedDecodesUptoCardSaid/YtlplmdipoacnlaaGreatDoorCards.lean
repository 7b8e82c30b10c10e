/-
  DERIVED. GIVEN WITH THE SEED: THE CARDS: each row of YtlplmdipoacnlaaGreatDoorRows.lean that lists a variable, with what it lists TIED to the program's text (the seventh form; the later family's looks); each row that meets fmt, with fmt's text TOLD by the authors' own Lean function (tested against real Go, not proved from fmt's source: count such statements apart). THE CARD IS WHAT COUNTS. Prove the row's statement (the work); the ties are given (YtlplmdipoacnlaaGreatDoorTie.lean); close each card by the builder's one call (the guide's Derived/Test/ToyasCard.lean, 'card_holds'). Laid BY PROGRAM, IN A SANDBOX (cutbox-door.mjs). By AI agents, Wed Nov 11 2026. No macro, syntax, notation, axiom, sorry.
-/
import Derived.Test.YtlplmdipoacnlaaGreatDoorRows
import GoSem.ClaimSeven
namespace Go.Proofs.YtlplmdipoacnlaaGreatDoor
namespace Rows

/-- THE TIED CARD OF 'manifoldlaw10.TaggedEncodes'. -/
def taggedEncodesCard : Claim7 := { stood := { row := taggedEncodesRow, standIns := [], harness := (true, "8fb309e3f88e6535900592eca39828db4372fa97fa172dc54e8aff48fc73ea72"), looks := false }, kinds := [], alts := [], laidByText := true, laidKinds := [.data, .pinned], laidTests := true, laidLooks := .later }
def TaggedEncodesCardSaid : Prop := Claim7.holds Tryz.pinned (.plain (OpenSpec.ofChange taggedEncodesSpec)) taggedEncodesCard

/-- THE TIED CARD OF 'manifoldlaw10.TaggedTakes'. -/
def taggedTakesCard : Claim7 := { stood := { row := taggedTakesRow, standIns := [], harness := (true, "8fb309e3f88e6535900592eca39828db4372fa97fa172dc54e8aff48fc73ea72"), looks := false }, kinds := [], alts := [], laidByText := true, laidKinds := [.data, .pinned], laidTests := true, laidLooks := .later }
def TaggedTakesCardSaid : Prop := Claim7.holds Tryz.pinned (.plain (OpenSpec.ofChange taggedTakesSpec)) taggedTakesCard

/-- THE TIED CARD OF 'manifoldlaw10.TaggedNumbers'. -/
def taggedNumbersCard : Claim7 := { stood := { row := taggedNumbersRow, standIns := [], harness := (true, "8fb309e3f88e6535900592eca39828db4372fa97fa172dc54e8aff48fc73ea72"), looks := false }, kinds := [], alts := [], laidByText := true, laidKinds := [.data, .pinned], laidTests := true, laidLooks := .later }
def TaggedNumbersCardSaid : Prop := Claim7.holds Tryz.pinned (.plain (OpenSpec.ofChange taggedNumbersSpec)) taggedNumbersCard

/-- THE TIED CARD OF 'manifoldlaw10.TaggedParts'. -/
def taggedPartsCard : Claim7 := { stood := { row := taggedPartsRow, standIns := [], harness := (true, "8fb309e3f88e6535900592eca39828db4372fa97fa172dc54e8aff48fc73ea72"), looks := false }, kinds := [], alts := [], laidByText := true, laidKinds := [.data, .pinned], laidTests := true, laidLooks := .later }
def TaggedPartsCardSaid : Prop := Claim7.holds Tryz.pinned (.plain (OpenSpec.ofChange taggedPartsSpec)) taggedPartsCard

/-- THE TIED CARD OF 'manifoldlaw10.TaggedJoins'. -/
def taggedJoinsCard : Claim7 := { stood := { row := taggedJoinsRow, standIns := [], harness := (true, "8fb309e3f88e6535900592eca39828db4372fa97fa172dc54e8aff48fc73ea72"), looks := false }, kinds := [], alts := [], laidByText := true, laidKinds := [.data, .pinned], laidTests := true, laidLooks := .later }
def TaggedJoinsCardSaid : Prop := Claim7.holds Tryz.pinned (.plain (OpenSpec.ofChange taggedJoinsSpec)) taggedJoinsCard

/-- THE TIED CARD OF 'manifoldlaw10.TaggedKinds'. -/
def taggedKindsCard : Claim7 := { stood := { row := taggedKindsRow, standIns := [], harness := (true, "8fb309e3f88e6535900592eca39828db4372fa97fa172dc54e8aff48fc73ea72"), looks := false }, kinds := [], alts := [], laidByText := true, laidKinds := [.data, .pinned], laidTests := true, laidLooks := .later }
def TaggedKindsCardSaid : Prop := Claim7.holds Tryz.pinned (.plain (OpenSpec.ofChange taggedKindsSpec)) taggedKindsCard

/-- THE TIED CARD OF 'manifoldlaw10.TaggedReturns'. -/
def taggedReturnsCard : Claim7 := { stood := { row := taggedReturnsRow, standIns := [], harness := (true, "8fb309e3f88e6535900592eca39828db4372fa97fa172dc54e8aff48fc73ea72"), looks := false }, kinds := [], alts := [], laidByText := true, laidKinds := [.data, .pinned], laidTests := true, laidLooks := .later }
def TaggedReturnsCardSaid : Prop := Claim7.holds Tryz.pinned (.plain (OpenSpec.ofChange taggedReturnsSpec)) taggedReturnsCard

/-- THE TIED CARD OF 'manifoldlaw10.TaggedDecodes'. -/
def taggedDecodesCard : Claim7 := { stood := { row := taggedDecodesRow, standIns := [], harness := (true, "8fb309e3f88e6535900592eca39828db4372fa97fa172dc54e8aff48fc73ea72"), looks := false }, kinds := [], alts := [], laidByText := true, laidKinds := [.data, .pinned], laidTests := true, laidLooks := .later }
def TaggedDecodesCardSaid : Prop := Claim7.holds Tryz.pinned (.plain (OpenSpec.ofChange taggedDecodesSpec)) taggedDecodesCard

/-- THE TIED CARD OF 'manifoldlaw10.TaggedCuts'. -/
def taggedCutsCard : Claim7 := { stood := { row := taggedCutsRow, standIns := [], harness := (true, "8fb309e3f88e6535900592eca39828db4372fa97fa172dc54e8aff48fc73ea72"), looks := false }, kinds := [], alts := [], laidByText := true, laidKinds := [.data, .pinned], laidTests := true, laidLooks := .later }
def TaggedCutsCardSaid : Prop := Claim7.holds Tryz.pinned (.plain (OpenSpec.ofChange taggedCutsSpec)) taggedCutsCard

/-- THE TIED CARD OF 'manifoldlaw10.TaggedSkips'. -/
def taggedSkipsCard : Claim7 := { stood := { row := taggedSkipsRow, standIns := [], harness := (true, "8fb309e3f88e6535900592eca39828db4372fa97fa172dc54e8aff48fc73ea72"), looks := false }, kinds := [], alts := [], laidByText := true, laidKinds := [.data, .pinned], laidTests := true, laidLooks := .later }
def TaggedSkipsCardSaid : Prop := Claim7.holds Tryz.pinned (.plain (OpenSpec.ofChange taggedSkipsSpec)) taggedSkipsCard

/-- THE SECOND FORM's CARD OF 'manifoldlaw10.TaggedEncodes'. -/
def taggedEncodesUptoCard : Claim7 := { stood := { row := taggedEncodesUptoRow, standIns := [], harness := (true, "8fb309e3f88e6535900592eca39828db4372fa97fa172dc54e8aff48fc73ea72"), looks := false }, kinds := [], alts := [], laidByText := true, laidKinds := [.data, .pinned], laidTests := true, laidLooks := .later }
def TaggedEncodesUptoCardSaid : Prop := Claim7.holds Tryz.pinned (.plain (OpenSpec.upto taggedEncodesSpec)) taggedEncodesUptoCard

/-- THE SECOND FORM's CARD OF 'manifoldlaw10.TaggedTakes'. -/
def taggedTakesUptoCard : Claim7 := { stood := { row := taggedTakesUptoRow, standIns := [], harness := (true, "8fb309e3f88e6535900592eca39828db4372fa97fa172dc54e8aff48fc73ea72"), looks := false }, kinds := [], alts := [], laidByText := true, laidKinds := [.data, .pinned], laidTests := true, laidLooks := .later }
def TaggedTakesUptoCardSaid : Prop := Claim7.holds Tryz.pinned (.plain (OpenSpec.upto taggedTakesSpec)) taggedTakesUptoCard

/-- THE SECOND FORM's CARD OF 'manifoldlaw10.TaggedNumbers'. -/
def taggedNumbersUptoCard : Claim7 := { stood := { row := taggedNumbersUptoRow, standIns := [], harness := (true, "8fb309e3f88e6535900592eca39828db4372fa97fa172dc54e8aff48fc73ea72"), looks := false }, kinds := [], alts := [], laidByText := true, laidKinds := [.data, .pinned], laidTests := true, laidLooks := .later }
def TaggedNumbersUptoCardSaid : Prop := Claim7.holds Tryz.pinned (.plain (OpenSpec.upto taggedNumbersSpec)) taggedNumbersUptoCard

/-- THE SECOND FORM's CARD OF 'manifoldlaw10.TaggedParts'. -/
def taggedPartsUptoCard : Claim7 := { stood := { row := taggedPartsUptoRow, standIns := [], harness := (true, "8fb309e3f88e6535900592eca39828db4372fa97fa172dc54e8aff48fc73ea72"), looks := false }, kinds := [], alts := [], laidByText := true, laidKinds := [.data, .pinned], laidTests := true, laidLooks := .later }
def TaggedPartsUptoCardSaid : Prop := Claim7.holds Tryz.pinned (.plain (OpenSpec.upto taggedPartsSpec)) taggedPartsUptoCard

/-- THE SECOND FORM's CARD OF 'manifoldlaw10.TaggedJoins'. -/
def taggedJoinsUptoCard : Claim7 := { stood := { row := taggedJoinsUptoRow, standIns := [], harness := (true, "8fb309e3f88e6535900592eca39828db4372fa97fa172dc54e8aff48fc73ea72"), looks := false }, kinds := [], alts := [], laidByText := true, laidKinds := [.data, .pinned], laidTests := true, laidLooks := .later }
def TaggedJoinsUptoCardSaid : Prop := Claim7.holds Tryz.pinned (.plain (OpenSpec.upto taggedJoinsSpec)) taggedJoinsUptoCard

/-- THE SECOND FORM's CARD OF 'manifoldlaw10.TaggedKinds'. -/
def taggedKindsUptoCard : Claim7 := { stood := { row := taggedKindsUptoRow, standIns := [], harness := (true, "8fb309e3f88e6535900592eca39828db4372fa97fa172dc54e8aff48fc73ea72"), looks := false }, kinds := [], alts := [], laidByText := true, laidKinds := [.data, .pinned], laidTests := true, laidLooks := .later }
def TaggedKindsUptoCardSaid : Prop := Claim7.holds Tryz.pinned (.plain (OpenSpec.upto taggedKindsSpec)) taggedKindsUptoCard

/-- THE SECOND FORM's CARD OF 'manifoldlaw10.TaggedReturns'. -/
def taggedReturnsUptoCard : Claim7 := { stood := { row := taggedReturnsUptoRow, standIns := [], harness := (true, "8fb309e3f88e6535900592eca39828db4372fa97fa172dc54e8aff48fc73ea72"), looks := false }, kinds := [], alts := [], laidByText := true, laidKinds := [.data, .pinned], laidTests := true, laidLooks := .later }
def TaggedReturnsUptoCardSaid : Prop := Claim7.holds Tryz.pinned (.plain (OpenSpec.upto taggedReturnsSpec)) taggedReturnsUptoCard

/-- THE SECOND FORM's CARD OF 'manifoldlaw10.TaggedDecodes'. -/
def taggedDecodesUptoCard : Claim7 := { stood := { row := taggedDecodesUptoRow, standIns := [], harness := (true, "8fb309e3f88e6535900592eca39828db4372fa97fa172dc54e8aff48fc73ea72"), looks := false }, kinds := [], alts := [], laidByText := true, laidKinds := [.data, .pinned], laidTests := true, laidLooks := .later }
def TaggedDecodesUptoCardSaid : Prop := Claim7.holds Tryz.pinned (.plain (OpenSpec.upto taggedDecodesSpec)) taggedDecodesUptoCard

/-- THE SECOND FORM's CARD OF 'manifoldlaw10.TaggedCuts'. -/
def taggedCutsUptoCard : Claim7 := { stood := { row := taggedCutsUptoRow, standIns := [], harness := (true, "8fb309e3f88e6535900592eca39828db4372fa97fa172dc54e8aff48fc73ea72"), looks := false }, kinds := [], alts := [], laidByText := true, laidKinds := [.data, .pinned], laidTests := true, laidLooks := .later }
def TaggedCutsUptoCardSaid : Prop := Claim7.holds Tryz.pinned (.plain (OpenSpec.upto taggedCutsSpec)) taggedCutsUptoCard

/-- THE SECOND FORM's CARD OF 'manifoldlaw10.TaggedSkips'. -/
def taggedSkipsUptoCard : Claim7 := { stood := { row := taggedSkipsUptoRow, standIns := [], harness := (true, "8fb309e3f88e6535900592eca39828db4372fa97fa172dc54e8aff48fc73ea72"), looks := false }, kinds := [], alts := [], laidByText := true, laidKinds := [.data, .pinned], laidTests := true, laidLooks := .later }
def TaggedSkipsUptoCardSaid : Prop := Claim7.holds Tryz.pinned (.plain (OpenSpec.upto taggedSkipsSpec)) taggedSkipsUptoCard
end Rows
end Go.Proofs.YtlplmdipoacnlaaGreatDoor
