/-
  DERIVED. GIVEN WITH THE SEED: THE CARDS: each row of YtfphnecphebijaaDoorRows.lean that lists a variable, with what it lists TIED to the program's text (the seventh form; the later family's looks); each row that meets fmt, with fmt's text TOLD by the authors' own Lean function (tested against real Go, not proved from fmt's source: count such statements apart). THE CARD IS WHAT COUNTS. Prove the row's statement (the work); the ties are given (YtfphnecphebijaaDoorTie.lean); close each card by the builder's one call (the guide's Derived/Test/ToyasCard.lean, 'card_holds'). Laid BY PROGRAM, IN A SANDBOX (cutbox-door.mjs). By AI agents, Wed Nov 11 2026. No macro, syntax, notation, axiom, sorry.
-/
import Derived.Test.YtfphnecphebijaaDoorRows
import GoSem.ClaimSeven
namespace Go.Proofs.YtfphnecphebijaaDoor
namespace Rows

/-- THE TIED CARD OF 'manifoldlaw04.ValueChecks'. -/
def valueChecksCard : Claim7 := { stood := { row := valueChecksRow, standIns := [], harness := (true, "7a7a90d5a34cd698d87000336dff78164298ce839cb4547cbbf9819d560ec4a3"), looks := false }, kinds := [], alts := [], laidByText := true, laidKinds := [.data, .pinned], laidTests := true, laidLooks := .later }
def ValueChecksCardSaid : Prop := Claim7.holds Tryd.pinned (.plain (OpenSpec.ofChange valueChecksSpec)) valueChecksCard

/-- THE TIED CARD OF 'manifoldlaw04.ValueNames'. -/
def valueNamesCard : Claim7 := { stood := { row := valueNamesRow, standIns := [], harness := (true, "7a7a90d5a34cd698d87000336dff78164298ce839cb4547cbbf9819d560ec4a3"), looks := false }, kinds := [], alts := [], laidByText := true, laidKinds := [.data, .pinned], laidTests := true, laidLooks := .later }
def ValueNamesCardSaid : Prop := Claim7.holds Tryd.pinned (.plain (OpenSpec.ofChange valueNamesSpec)) valueNamesCard

/-- THE TIED CARD OF 'manifoldlaw04.ValueKeeps'. -/
def valueKeepsCard : Claim7 := { stood := { row := valueKeepsRow, standIns := [], harness := (true, "7a7a90d5a34cd698d87000336dff78164298ce839cb4547cbbf9819d560ec4a3"), looks := false }, kinds := [], alts := [], laidByText := true, laidKinds := [.data, .pinned], laidTests := true, laidLooks := .later }
def ValueKeepsCardSaid : Prop := Claim7.holds Tryd.pinned (.plain (OpenSpec.ofChange valueKeepsSpec)) valueKeepsCard

/-- THE TIED CARD OF 'manifoldlaw04.ValueRecords'. -/
def valueRecordsCard : Claim7 := { stood := { row := valueRecordsRow, standIns := [], harness := (true, "7a7a90d5a34cd698d87000336dff78164298ce839cb4547cbbf9819d560ec4a3"), looks := false }, kinds := [], alts := [], laidByText := true, laidKinds := [.data, .pinned], laidTests := true, laidLooks := .later }
def ValueRecordsCardSaid : Prop := Claim7.holds Tryd.pinned (.plain (OpenSpec.ofChange valueRecordsSpec)) valueRecordsCard

/-- THE TIED CARD OF 'manifoldlaw04.ValueOrders'. -/
def valueOrdersCard : Claim7 := { stood := { row := valueOrdersRow, standIns := [], harness := (true, "7a7a90d5a34cd698d87000336dff78164298ce839cb4547cbbf9819d560ec4a3"), looks := false }, kinds := [], alts := [], laidByText := true, laidKinds := [.data, .pinned], laidTests := true, laidLooks := .later }
def ValueOrdersCardSaid : Prop := Claim7.holds Tryd.pinned (.plain (OpenSpec.ofChange valueOrdersSpec)) valueOrdersCard

/-- THE TIED CARD OF 'manifoldlaw04.ValueClones'. -/
def valueClonesCard : Claim7 := { stood := { row := valueClonesRow, standIns := [], harness := (true, "7a7a90d5a34cd698d87000336dff78164298ce839cb4547cbbf9819d560ec4a3"), looks := false }, kinds := [], alts := [], laidByText := true, laidKinds := [.data, .pinned], laidTests := true, laidLooks := .later }
def ValueClonesCardSaid : Prop := Claim7.holds Tryd.pinned (.plain (OpenSpec.ofChange valueClonesSpec)) valueClonesCard

/-- THE TIED CARD OF 'manifoldlaw04.ValueSizes'. -/
def valueSizesCard : Claim7 := { stood := { row := valueSizesRow, standIns := [], harness := (true, "7a7a90d5a34cd698d87000336dff78164298ce839cb4547cbbf9819d560ec4a3"), looks := false }, kinds := [], alts := [], laidByText := true, laidKinds := [.data, .pinned], laidTests := true, laidLooks := .later }
def ValueSizesCardSaid : Prop := Claim7.holds Tryd.pinned (.plain (OpenSpec.ofChange valueSizesSpec)) valueSizesCard

/-- THE TIED CARD OF 'manifoldlaw04.ValueLimits'. -/
def valueLimitsCard : Claim7 := { stood := { row := valueLimitsRow, standIns := [], harness := (true, "7a7a90d5a34cd698d87000336dff78164298ce839cb4547cbbf9819d560ec4a3"), looks := false }, kinds := [], alts := [], laidByText := true, laidKinds := [.data, .pinned], laidTests := true, laidLooks := .later }
def ValueLimitsCardSaid : Prop := Claim7.holds Tryd.pinned (.plain (OpenSpec.ofChange valueLimitsSpec)) valueLimitsCard

/-- THE TIED CARD OF 'manifoldlaw04.ValueMakes'. -/
def valueMakesCard : Claim7 := { stood := { row := valueMakesRow, standIns := [], harness := (true, "7a7a90d5a34cd698d87000336dff78164298ce839cb4547cbbf9819d560ec4a3"), looks := false }, kinds := [], alts := [], laidByText := true, laidKinds := [.data, .pinned], laidTests := true, laidLooks := .later }
def ValueMakesCardSaid : Prop := Claim7.holds Tryd.pinned (.plain (OpenSpec.ofChange valueMakesSpec)) valueMakesCard

/-- THE TIED CARD OF 'manifoldlaw04.ValueFields'. -/
def valueFieldsCard : Claim7 := { stood := { row := valueFieldsRow, standIns := [], harness := (true, "7a7a90d5a34cd698d87000336dff78164298ce839cb4547cbbf9819d560ec4a3"), looks := false }, kinds := [], alts := [], laidByText := true, laidKinds := [.data, .pinned], laidTests := true, laidLooks := .later }
def ValueFieldsCardSaid : Prop := Claim7.holds Tryd.pinned (.plain (OpenSpec.ofChange valueFieldsSpec)) valueFieldsCard

/-- THE TIED CARD OF 'manifoldlaw04.ValueSets'. -/
def valueSetsCard : Claim7 := { stood := { row := valueSetsRow, standIns := [], harness := (true, "7a7a90d5a34cd698d87000336dff78164298ce839cb4547cbbf9819d560ec4a3"), looks := false }, kinds := [], alts := [], laidByText := true, laidKinds := [.data, .pinned], laidTests := true, laidLooks := .later }
def ValueSetsCardSaid : Prop := Claim7.holds Tryd.pinned (.plain (OpenSpec.ofChange valueSetsSpec)) valueSetsCard

/-- THE SECOND FORM's CARD OF 'manifoldlaw04.ValueChecks'. -/
def valueChecksUptoCard : Claim7 := { stood := { row := valueChecksUptoRow, standIns := [], harness := (true, "7a7a90d5a34cd698d87000336dff78164298ce839cb4547cbbf9819d560ec4a3"), looks := false }, kinds := [], alts := [], laidByText := true, laidKinds := [.data, .pinned], laidTests := true, laidLooks := .later }
def ValueChecksUptoCardSaid : Prop := Claim7.holds Tryd.pinned (.plain (OpenSpec.upto valueChecksSpec)) valueChecksUptoCard

/-- THE SECOND FORM's CARD OF 'manifoldlaw04.ValueNames'. -/
def valueNamesUptoCard : Claim7 := { stood := { row := valueNamesUptoRow, standIns := [], harness := (true, "7a7a90d5a34cd698d87000336dff78164298ce839cb4547cbbf9819d560ec4a3"), looks := false }, kinds := [], alts := [], laidByText := true, laidKinds := [.data, .pinned], laidTests := true, laidLooks := .later }
def ValueNamesUptoCardSaid : Prop := Claim7.holds Tryd.pinned (.plain (OpenSpec.upto valueNamesSpec)) valueNamesUptoCard

/-- THE SECOND FORM's CARD OF 'manifoldlaw04.ValueKeeps'. -/
def valueKeepsUptoCard : Claim7 := { stood := { row := valueKeepsUptoRow, standIns := [], harness := (true, "7a7a90d5a34cd698d87000336dff78164298ce839cb4547cbbf9819d560ec4a3"), looks := false }, kinds := [], alts := [], laidByText := true, laidKinds := [.data, .pinned], laidTests := true, laidLooks := .later }
def ValueKeepsUptoCardSaid : Prop := Claim7.holds Tryd.pinned (.plain (OpenSpec.upto valueKeepsSpec)) valueKeepsUptoCard

/-- THE SECOND FORM's CARD OF 'manifoldlaw04.ValueRecords'. -/
def valueRecordsUptoCard : Claim7 := { stood := { row := valueRecordsUptoRow, standIns := [], harness := (true, "7a7a90d5a34cd698d87000336dff78164298ce839cb4547cbbf9819d560ec4a3"), looks := false }, kinds := [], alts := [], laidByText := true, laidKinds := [.data, .pinned], laidTests := true, laidLooks := .later }
def ValueRecordsUptoCardSaid : Prop := Claim7.holds Tryd.pinned (.plain (OpenSpec.upto valueRecordsSpec)) valueRecordsUptoCard

/-- THE SECOND FORM's CARD OF 'manifoldlaw04.ValueOrders'. -/
def valueOrdersUptoCard : Claim7 := { stood := { row := valueOrdersUptoRow, standIns := [], harness := (true, "7a7a90d5a34cd698d87000336dff78164298ce839cb4547cbbf9819d560ec4a3"), looks := false }, kinds := [], alts := [], laidByText := true, laidKinds := [.data, .pinned], laidTests := true, laidLooks := .later }
def ValueOrdersUptoCardSaid : Prop := Claim7.holds Tryd.pinned (.plain (OpenSpec.upto valueOrdersSpec)) valueOrdersUptoCard

/-- THE SECOND FORM's CARD OF 'manifoldlaw04.ValueClones'. -/
def valueClonesUptoCard : Claim7 := { stood := { row := valueClonesUptoRow, standIns := [], harness := (true, "7a7a90d5a34cd698d87000336dff78164298ce839cb4547cbbf9819d560ec4a3"), looks := false }, kinds := [], alts := [], laidByText := true, laidKinds := [.data, .pinned], laidTests := true, laidLooks := .later }
def ValueClonesUptoCardSaid : Prop := Claim7.holds Tryd.pinned (.plain (OpenSpec.upto valueClonesSpec)) valueClonesUptoCard

/-- THE SECOND FORM's CARD OF 'manifoldlaw04.ValueSizes'. -/
def valueSizesUptoCard : Claim7 := { stood := { row := valueSizesUptoRow, standIns := [], harness := (true, "7a7a90d5a34cd698d87000336dff78164298ce839cb4547cbbf9819d560ec4a3"), looks := false }, kinds := [], alts := [], laidByText := true, laidKinds := [.data, .pinned], laidTests := true, laidLooks := .later }
def ValueSizesUptoCardSaid : Prop := Claim7.holds Tryd.pinned (.plain (OpenSpec.upto valueSizesSpec)) valueSizesUptoCard

/-- THE SECOND FORM's CARD OF 'manifoldlaw04.ValueLimits'. -/
def valueLimitsUptoCard : Claim7 := { stood := { row := valueLimitsUptoRow, standIns := [], harness := (true, "7a7a90d5a34cd698d87000336dff78164298ce839cb4547cbbf9819d560ec4a3"), looks := false }, kinds := [], alts := [], laidByText := true, laidKinds := [.data, .pinned], laidTests := true, laidLooks := .later }
def ValueLimitsUptoCardSaid : Prop := Claim7.holds Tryd.pinned (.plain (OpenSpec.upto valueLimitsSpec)) valueLimitsUptoCard

/-- THE SECOND FORM's CARD OF 'manifoldlaw04.ValueMakes'. -/
def valueMakesUptoCard : Claim7 := { stood := { row := valueMakesUptoRow, standIns := [], harness := (true, "7a7a90d5a34cd698d87000336dff78164298ce839cb4547cbbf9819d560ec4a3"), looks := false }, kinds := [], alts := [], laidByText := true, laidKinds := [.data, .pinned], laidTests := true, laidLooks := .later }
def ValueMakesUptoCardSaid : Prop := Claim7.holds Tryd.pinned (.plain (OpenSpec.upto valueMakesSpec)) valueMakesUptoCard

/-- THE SECOND FORM's CARD OF 'manifoldlaw04.ValueFields'. -/
def valueFieldsUptoCard : Claim7 := { stood := { row := valueFieldsUptoRow, standIns := [], harness := (true, "7a7a90d5a34cd698d87000336dff78164298ce839cb4547cbbf9819d560ec4a3"), looks := false }, kinds := [], alts := [], laidByText := true, laidKinds := [.data, .pinned], laidTests := true, laidLooks := .later }
def ValueFieldsUptoCardSaid : Prop := Claim7.holds Tryd.pinned (.plain (OpenSpec.upto valueFieldsSpec)) valueFieldsUptoCard

/-- THE SECOND FORM's CARD OF 'manifoldlaw04.ValueSets'. -/
def valueSetsUptoCard : Claim7 := { stood := { row := valueSetsUptoRow, standIns := [], harness := (true, "7a7a90d5a34cd698d87000336dff78164298ce839cb4547cbbf9819d560ec4a3"), looks := false }, kinds := [], alts := [], laidByText := true, laidKinds := [.data, .pinned], laidTests := true, laidLooks := .later }
def ValueSetsUptoCardSaid : Prop := Claim7.holds Tryd.pinned (.plain (OpenSpec.upto valueSetsSpec)) valueSetsUptoCard
end Rows
end Go.Proofs.YtfphnecphebijaaDoor
