/-
  DERIVED. GIVEN WITH THE SEED: THE CARDS: each row of YtalghhdapjmbbaaGreatDoorRows.lean that lists a variable, with what it lists TIED to the program's text (the seventh form; the later family's looks); each row that meets fmt, with fmt's text TOLD by the authors' own Lean function (tested against real Go, not proved from fmt's source: count such statements apart). THE CARD IS WHAT COUNTS. Prove the row's statement (the work); the ties are given (YtalghhdapjmbbaaGreatDoorTie.lean); close each card by the builder's one call (the guide's Derived/Test/ToyasCard.lean, 'card_holds'). Laid BY PROGRAM, IN A SANDBOX (cutbox-door.mjs). By AI agents, Wed Nov 11 2026. No macro, syntax, notation, axiom, sorry.
-/
import Derived.Test.YtalghhdapjmbbaaGreatDoorRows
import GoSem.ClaimSeven
namespace Go.Proofs.YtalghhdapjmbbaaGreatDoor
namespace Rows

/-- THE TIED CARD OF 'manifoldlaw08.SubtypeDecides'. -/
def subtypeDecidesCard : Claim7 := { stood := { row := subtypeDecidesRow, standIns := [], harness := (true, "df27b0cb586702380837c3eec6139f1392946552433454613c2e22bb511ad143"), looks := false }, kinds := [], alts := [], laidByText := true, laidKinds := [.data, .pinned], laidTests := true, laidLooks := .later }
def SubtypeDecidesCardSaid : Prop := Claim7.holds Tryz.pinned (.plain (OpenSpec.ofChange subtypeDecidesSpec)) subtypeDecidesCard

/-- THE TIED CARD OF 'manifoldlaw08.SubtypeOrders'. -/
def subtypeOrdersCard : Claim7 := { stood := { row := subtypeOrdersRow, standIns := [], harness := (true, "df27b0cb586702380837c3eec6139f1392946552433454613c2e22bb511ad143"), looks := false }, kinds := [], alts := [], laidByText := true, laidKinds := [.data, .pinned], laidTests := true, laidLooks := .later }
def SubtypeOrdersCardSaid : Prop := Claim7.holds Tryz.pinned (.plain (OpenSpec.ofChange subtypeOrdersSpec)) subtypeOrdersCard

/-- THE TIED CARD OF 'manifoldlaw08.SubtypeJoins'. -/
def subtypeJoinsCard : Claim7 := { stood := { row := subtypeJoinsRow, standIns := [], harness := (true, "df27b0cb586702380837c3eec6139f1392946552433454613c2e22bb511ad143"), looks := false }, kinds := [], alts := [], laidByText := true, laidKinds := [.data, .pinned], laidTests := true, laidLooks := .later }
def SubtypeJoinsCardSaid : Prop := Claim7.holds Tryz.pinned (.plain (OpenSpec.ofChange subtypeJoinsSpec)) subtypeJoinsCard

/-- THE TIED CARD OF 'manifoldlaw08.SubtypeLeast'. -/
def subtypeLeastCard : Claim7 := { stood := { row := subtypeLeastRow, standIns := [], harness := (true, "df27b0cb586702380837c3eec6139f1392946552433454613c2e22bb511ad143"), looks := false }, kinds := [], alts := [], laidByText := true, laidKinds := [.data, .pinned], laidTests := true, laidLooks := .later }
def SubtypeLeastCardSaid : Prop := Claim7.holds Tryz.pinned (.plain (OpenSpec.ofChange subtypeLeastSpec)) subtypeLeastCard

/-- THE TIED CARD OF 'manifoldlaw08.SubtypeBounds'. -/
def subtypeBoundsCard : Claim7 := { stood := { row := subtypeBoundsRow, standIns := [], harness := (true, "df27b0cb586702380837c3eec6139f1392946552433454613c2e22bb511ad143"), looks := false }, kinds := [], alts := [], laidByText := true, laidKinds := [.data, .pinned], laidTests := true, laidLooks := .later }
def SubtypeBoundsCardSaid : Prop := Claim7.holds Tryz.pinned (.plain (OpenSpec.ofChange subtypeBoundsSpec)) subtypeBoundsCard

/-- THE TIED CARD OF 'manifoldlaw08.SubtypeWithin'. -/
def subtypeWithinCard : Claim7 := { stood := { row := subtypeWithinRow, standIns := [], harness := (true, "df27b0cb586702380837c3eec6139f1392946552433454613c2e22bb511ad143"), looks := false }, kinds := [], alts := [], laidByText := true, laidKinds := [.data, .pinned], laidTests := true, laidLooks := .later }
def SubtypeWithinCardSaid : Prop := Claim7.holds Tryz.pinned (.plain (OpenSpec.ofChange subtypeWithinSpec)) subtypeWithinCard

/-- THE TIED CARD OF 'manifoldlaw08.SubtypeSwaps'. -/
def subtypeSwapsCard : Claim7 := { stood := { row := subtypeSwapsRow, standIns := [], harness := (true, "df27b0cb586702380837c3eec6139f1392946552433454613c2e22bb511ad143"), looks := false }, kinds := [], alts := [], laidByText := true, laidKinds := [.data, .pinned], laidTests := true, laidLooks := .later }
def SubtypeSwapsCardSaid : Prop := Claim7.holds Tryz.pinned (.plain (OpenSpec.ofChange subtypeSwapsSpec)) subtypeSwapsCard

/-- THE SECOND FORM's CARD OF 'manifoldlaw08.SubtypeDecides'. -/
def subtypeDecidesUptoCard : Claim7 := { stood := { row := subtypeDecidesUptoRow, standIns := [], harness := (true, "df27b0cb586702380837c3eec6139f1392946552433454613c2e22bb511ad143"), looks := false }, kinds := [], alts := [], laidByText := true, laidKinds := [.data, .pinned], laidTests := true, laidLooks := .later }
def SubtypeDecidesUptoCardSaid : Prop := Claim7.holds Tryz.pinned (.plain (OpenSpec.upto subtypeDecidesSpec)) subtypeDecidesUptoCard

/-- THE SECOND FORM's CARD OF 'manifoldlaw08.SubtypeOrders'. -/
def subtypeOrdersUptoCard : Claim7 := { stood := { row := subtypeOrdersUptoRow, standIns := [], harness := (true, "df27b0cb586702380837c3eec6139f1392946552433454613c2e22bb511ad143"), looks := false }, kinds := [], alts := [], laidByText := true, laidKinds := [.data, .pinned], laidTests := true, laidLooks := .later }
def SubtypeOrdersUptoCardSaid : Prop := Claim7.holds Tryz.pinned (.plain (OpenSpec.upto subtypeOrdersSpec)) subtypeOrdersUptoCard

/-- THE SECOND FORM's CARD OF 'manifoldlaw08.SubtypeJoins'. -/
def subtypeJoinsUptoCard : Claim7 := { stood := { row := subtypeJoinsUptoRow, standIns := [], harness := (true, "df27b0cb586702380837c3eec6139f1392946552433454613c2e22bb511ad143"), looks := false }, kinds := [], alts := [], laidByText := true, laidKinds := [.data, .pinned], laidTests := true, laidLooks := .later }
def SubtypeJoinsUptoCardSaid : Prop := Claim7.holds Tryz.pinned (.plain (OpenSpec.upto subtypeJoinsSpec)) subtypeJoinsUptoCard

/-- THE SECOND FORM's CARD OF 'manifoldlaw08.SubtypeLeast'. -/
def subtypeLeastUptoCard : Claim7 := { stood := { row := subtypeLeastUptoRow, standIns := [], harness := (true, "df27b0cb586702380837c3eec6139f1392946552433454613c2e22bb511ad143"), looks := false }, kinds := [], alts := [], laidByText := true, laidKinds := [.data, .pinned], laidTests := true, laidLooks := .later }
def SubtypeLeastUptoCardSaid : Prop := Claim7.holds Tryz.pinned (.plain (OpenSpec.upto subtypeLeastSpec)) subtypeLeastUptoCard

/-- THE SECOND FORM's CARD OF 'manifoldlaw08.SubtypeBounds'. -/
def subtypeBoundsUptoCard : Claim7 := { stood := { row := subtypeBoundsUptoRow, standIns := [], harness := (true, "df27b0cb586702380837c3eec6139f1392946552433454613c2e22bb511ad143"), looks := false }, kinds := [], alts := [], laidByText := true, laidKinds := [.data, .pinned], laidTests := true, laidLooks := .later }
def SubtypeBoundsUptoCardSaid : Prop := Claim7.holds Tryz.pinned (.plain (OpenSpec.upto subtypeBoundsSpec)) subtypeBoundsUptoCard

/-- THE SECOND FORM's CARD OF 'manifoldlaw08.SubtypeWithin'. -/
def subtypeWithinUptoCard : Claim7 := { stood := { row := subtypeWithinUptoRow, standIns := [], harness := (true, "df27b0cb586702380837c3eec6139f1392946552433454613c2e22bb511ad143"), looks := false }, kinds := [], alts := [], laidByText := true, laidKinds := [.data, .pinned], laidTests := true, laidLooks := .later }
def SubtypeWithinUptoCardSaid : Prop := Claim7.holds Tryz.pinned (.plain (OpenSpec.upto subtypeWithinSpec)) subtypeWithinUptoCard

/-- THE SECOND FORM's CARD OF 'manifoldlaw08.SubtypeSwaps'. -/
def subtypeSwapsUptoCard : Claim7 := { stood := { row := subtypeSwapsUptoRow, standIns := [], harness := (true, "df27b0cb586702380837c3eec6139f1392946552433454613c2e22bb511ad143"), looks := false }, kinds := [], alts := [], laidByText := true, laidKinds := [.data, .pinned], laidTests := true, laidLooks := .later }
def SubtypeSwapsUptoCardSaid : Prop := Claim7.holds Tryz.pinned (.plain (OpenSpec.upto subtypeSwapsSpec)) subtypeSwapsUptoCard
end Rows
end Go.Proofs.YtalghhdapjmbbaaGreatDoor
