/-
  NARROWER THAN 'FOR EVERY INPUT', by the rows' own cells (each row's printed sentence says how): TaggedEncodes: loops, laid · TaggedTakes: laid · TaggedNumbers: laid · TaggedParts: laid · TaggedJoins: laid · TaggedKinds: loops, laid · TaggedReturns: loops, laid · TaggedDecodes: loops, laid · TaggedCuts: loops, laid · TaggedSkips: loops, laid.
  DERIVED. THE GIVEN ROWS OF THIS SEAT. 10 by the template 'for every input the law returns true; each argument reads behind the call as it read before'; 0 by the template 'total and deterministic' (their statements: YtlplmdipoacnlaaGreatDoorTotals.lean).
  GIVEN WITH THE SEED: the statements are not yours to turn. If you find one false, say at which input.
  Laid BY PROGRAM, IN A SANDBOX (cutbox-rows.mjs): the forced cells as the released guide's own fill.sh prints them over the translation d46858ae29cb8627… (all of the seat's roots in one cut). By AI agents, Wed Nov 11 2026. No macro, syntax, notation, axiom, sorry.
-/
import Derived.Test.YtlplmdipoacnlaaGreatDoorChecked
import GoSem.PinnedTables
import GoSem.Claim
import GoSem.ClaimJoined
import GoSem.ClaimMapViews
import Derived.JoinedTies
import Derived.KernelRfl
namespace Go.Proofs.YtlplmdipoacnlaaGreatDoor
/- THE CELL 'sum', in the pinned program and in every row, IS THE sha256 OF THE DUMP (.gsa) THAT YtlplmdipoacnlaaGreatDoorProg.lean LOADS. Nothing in Lean hashes anything: it is a label: what it is worth is what the hold of that sum in a sandbox is worth. -/
noncomputable def Tryz.pinned : Pinned := { name := "ytlplmdipoacnlaagreatdoor", sum := "d46858ae29cb8627ec975a1711515e0dd27dd539b674811b0b723b0c83f1b310", checked := Tryz.checked }
namespace Rows
def none {H : Type} : Left H := { results := [], args := [] }

/- WHAT THE LISTED PACKAGE-LEVEL VARIABLES READ AS WHEN THE CALL BEGINS. Each datum BY PROGRAM (the guide's laid-datum.mjs) off the statement by which the dump's own 'gosem.cut.vars' lays the variable. In a bare row this is a premise. The card (YtlplmdipoacnlaaGreatDoorCards.lean) ties it to the program's text. -/
def laid_unicode_utf8_acceptRanges {H : Type} : DataW H := .agg [.agg [.lit (.int .u8 128), .lit (.int .u8 191)], .agg [.lit (.int .u8 160), .lit (.int .u8 191)], .agg [.lit (.int .u8 128), .lit (.int .u8 159)], .agg [.lit (.int .u8 144), .lit (.int .u8 191)], .agg [.lit (.int .u8 128), .lit (.int .u8 143)], .agg [.lit (.int .u8 0), .lit (.int .u8 0)], .agg [.lit (.int .u8 0), .lit (.int .u8 0)], .agg [.lit (.int .u8 0), .lit (.int .u8 0)], .agg [.lit (.int .u8 0), .lit (.int .u8 0)], .agg [.lit (.int .u8 0), .lit (.int .u8 0)], .agg [.lit (.int .u8 0), .lit (.int .u8 0)], .agg [.lit (.int .u8 0), .lit (.int .u8 0)], .agg [.lit (.int .u8 0), .lit (.int .u8 0)], .agg [.lit (.int .u8 0), .lit (.int .u8 0)], .agg [.lit (.int .u8 0), .lit (.int .u8 0)], .agg [.lit (.int .u8 0), .lit (.int .u8 0)]]
/-- One of Go's own tables, pinned by name: the form's constant. -/
def laid_unicode_utf8_first : DataW Unit := Go.Pinned.utf8First

/-- 'manifoldlaw10.TaggedEncodes': WHATEVER THE INPUT: true; the input reads as it did. -/
def taggedEncodesSpec : ChangeSpec := { name := "taggedEncodes", fn := fun _ => fun
  | [d1, d2] => { results := [.lit (.bool true)], args := [d1, d2] }
  | _ => none }
def taggedEncodesRow : OpenClaim := { program := "ytlplmdipoacnlaagreatdoor", sum := "d46858ae29cb8627ec975a1711515e0dd27dd539b674811b0b723b0c83f1b310", func := "manifold/manifoldlaw10.TaggedEncodes", spec := "taggedEncodes", unfollowed := true, recurses := true, named := ["unicode/utf8.first", "unicode/utf8.acceptRanges"], loops := true, apart := false, laid := [("unicode/utf8.acceptRanges", laid_unicode_utf8_acceptRanges), ("unicode/utf8.first", laid_unicode_utf8_first)] }
def TaggedEncodesSaid : Prop := taggedEncodesRow.holds Tryz.pinned (OpenSpec.ofChange taggedEncodesSpec)

/-- ITS FALSE NEIGHBOUR: 'it returns false'. Refute it at one input. -/
def taggedEncodesWrong : ChangeSpec := { name := "taggedEncodes", fn := fun _ => fun
  | [d1, d2] => { results := [.lit (.bool false)], args := [d1, d2] }
  | _ => none }
def TaggedEncodesWrongFalsely : Prop := taggedEncodesRow.holds Tryz.pinned (OpenSpec.ofChange taggedEncodesWrong)

/-- 'manifoldlaw10.TaggedTakes': WHATEVER THE INPUT: true; the input reads as it did. -/
def taggedTakesSpec : ChangeSpec := { name := "taggedTakes", fn := fun _ => fun
  | [d1, d2] => { results := [.lit (.bool true)], args := [d1, d2] }
  | _ => none }
def taggedTakesRow : OpenClaim := { program := "ytlplmdipoacnlaagreatdoor", sum := "d46858ae29cb8627ec975a1711515e0dd27dd539b674811b0b723b0c83f1b310", func := "manifold/manifoldlaw10.TaggedTakes", spec := "taggedTakes", unfollowed := true, recurses := true, named := ["unicode/utf8.first", "unicode/utf8.acceptRanges"], apart := false, laid := [("unicode/utf8.acceptRanges", laid_unicode_utf8_acceptRanges), ("unicode/utf8.first", laid_unicode_utf8_first)] }
def TaggedTakesSaid : Prop := taggedTakesRow.holds Tryz.pinned (OpenSpec.ofChange taggedTakesSpec)

/-- ITS FALSE NEIGHBOUR: 'it returns false'. Refute it at one input. -/
def taggedTakesWrong : ChangeSpec := { name := "taggedTakes", fn := fun _ => fun
  | [d1, d2] => { results := [.lit (.bool false)], args := [d1, d2] }
  | _ => none }
def TaggedTakesWrongFalsely : Prop := taggedTakesRow.holds Tryz.pinned (OpenSpec.ofChange taggedTakesWrong)

/-- 'manifoldlaw10.TaggedNumbers': WHATEVER THE INPUT: true; the input reads as it did. -/
def taggedNumbersSpec : ChangeSpec := { name := "taggedNumbers", fn := fun _ => fun
  | [d1, d2] => { results := [.lit (.bool true)], args := [d1, d2] }
  | _ => none }
def taggedNumbersRow : OpenClaim := { program := "ytlplmdipoacnlaagreatdoor", sum := "d46858ae29cb8627ec975a1711515e0dd27dd539b674811b0b723b0c83f1b310", func := "manifold/manifoldlaw10.TaggedNumbers", spec := "taggedNumbers", unfollowed := true, recurses := true, named := ["unicode/utf8.first", "unicode/utf8.acceptRanges"], apart := false, laid := [("unicode/utf8.acceptRanges", laid_unicode_utf8_acceptRanges), ("unicode/utf8.first", laid_unicode_utf8_first)] }
def TaggedNumbersSaid : Prop := taggedNumbersRow.holds Tryz.pinned (OpenSpec.ofChange taggedNumbersSpec)

/-- ITS FALSE NEIGHBOUR: 'it returns false'. Refute it at one input. -/
def taggedNumbersWrong : ChangeSpec := { name := "taggedNumbers", fn := fun _ => fun
  | [d1, d2] => { results := [.lit (.bool false)], args := [d1, d2] }
  | _ => none }
def TaggedNumbersWrongFalsely : Prop := taggedNumbersRow.holds Tryz.pinned (OpenSpec.ofChange taggedNumbersWrong)

/-- 'manifoldlaw10.TaggedParts': WHATEVER THE INPUT: true; the input reads as it did. -/
def taggedPartsSpec : ChangeSpec := { name := "taggedParts", fn := fun _ => fun
  | [d] => { results := [.lit (.bool true)], args := [d] }
  | _ => none }
def taggedPartsRow : OpenClaim := { program := "ytlplmdipoacnlaagreatdoor", sum := "d46858ae29cb8627ec975a1711515e0dd27dd539b674811b0b723b0c83f1b310", func := "manifold/manifoldlaw10.TaggedParts", spec := "taggedParts", unfollowed := true, recurses := true, named := ["unicode/utf8.first", "unicode/utf8.acceptRanges"], apart := false, laid := [("unicode/utf8.acceptRanges", laid_unicode_utf8_acceptRanges), ("unicode/utf8.first", laid_unicode_utf8_first)] }
def TaggedPartsSaid : Prop := taggedPartsRow.holds Tryz.pinned (OpenSpec.ofChange taggedPartsSpec)

/-- ITS FALSE NEIGHBOUR: 'it returns false'. Refute it at one input. -/
def taggedPartsWrong : ChangeSpec := { name := "taggedParts", fn := fun _ => fun
  | [d] => { results := [.lit (.bool false)], args := [d] }
  | _ => none }
def TaggedPartsWrongFalsely : Prop := taggedPartsRow.holds Tryz.pinned (OpenSpec.ofChange taggedPartsWrong)

/-- 'manifoldlaw10.TaggedJoins': WHATEVER THE INPUT: true; the input reads as it did. -/
def taggedJoinsSpec : ChangeSpec := { name := "taggedJoins", fn := fun _ => fun
  | [d] => { results := [.lit (.bool true)], args := [d] }
  | _ => none }
def taggedJoinsRow : OpenClaim := { program := "ytlplmdipoacnlaagreatdoor", sum := "d46858ae29cb8627ec975a1711515e0dd27dd539b674811b0b723b0c83f1b310", func := "manifold/manifoldlaw10.TaggedJoins", spec := "taggedJoins", unfollowed := true, recurses := true, named := ["unicode/utf8.first", "unicode/utf8.acceptRanges"], apart := false, laid := [("unicode/utf8.acceptRanges", laid_unicode_utf8_acceptRanges), ("unicode/utf8.first", laid_unicode_utf8_first)] }
def TaggedJoinsSaid : Prop := taggedJoinsRow.holds Tryz.pinned (OpenSpec.ofChange taggedJoinsSpec)

/-- ITS FALSE NEIGHBOUR: 'it returns false'. Refute it at one input. -/
def taggedJoinsWrong : ChangeSpec := { name := "taggedJoins", fn := fun _ => fun
  | [d] => { results := [.lit (.bool false)], args := [d] }
  | _ => none }
def TaggedJoinsWrongFalsely : Prop := taggedJoinsRow.holds Tryz.pinned (OpenSpec.ofChange taggedJoinsWrong)

/-- 'manifoldlaw10.TaggedKinds': WHATEVER THE INPUT: true; the input reads as it did. -/
def taggedKindsSpec : ChangeSpec := { name := "taggedKinds", fn := fun _ => fun
  | [d1, d2] => { results := [.lit (.bool true)], args := [d1, d2] }
  | _ => none }
def taggedKindsRow : OpenClaim := { program := "ytlplmdipoacnlaagreatdoor", sum := "d46858ae29cb8627ec975a1711515e0dd27dd539b674811b0b723b0c83f1b310", func := "manifold/manifoldlaw10.TaggedKinds", spec := "taggedKinds", unfollowed := true, recurses := true, named := ["unicode/utf8.first", "unicode/utf8.acceptRanges"], loops := true, apart := false, laid := [("unicode/utf8.acceptRanges", laid_unicode_utf8_acceptRanges), ("unicode/utf8.first", laid_unicode_utf8_first)] }
def TaggedKindsSaid : Prop := taggedKindsRow.holds Tryz.pinned (OpenSpec.ofChange taggedKindsSpec)

/-- ITS FALSE NEIGHBOUR: 'it returns false'. Refute it at one input. -/
def taggedKindsWrong : ChangeSpec := { name := "taggedKinds", fn := fun _ => fun
  | [d1, d2] => { results := [.lit (.bool false)], args := [d1, d2] }
  | _ => none }
def TaggedKindsWrongFalsely : Prop := taggedKindsRow.holds Tryz.pinned (OpenSpec.ofChange taggedKindsWrong)

/-- 'manifoldlaw10.TaggedReturns': WHATEVER THE INPUT: true; the input reads as it did. -/
def taggedReturnsSpec : ChangeSpec := { name := "taggedReturns", fn := fun _ => fun
  | [d1, d2, d3] => { results := [.lit (.bool true)], args := [d1, d2, d3] }
  | _ => none }
def taggedReturnsRow : OpenClaim := { program := "ytlplmdipoacnlaagreatdoor", sum := "d46858ae29cb8627ec975a1711515e0dd27dd539b674811b0b723b0c83f1b310", func := "manifold/manifoldlaw10.TaggedReturns", spec := "taggedReturns", inPlace := ["internal/bytealg.abigen_runtime_cmpstring"], unfollowed := true, recurses := true, named := ["unicode/utf8.first", "unicode/utf8.acceptRanges"], loops := true, apart := false, laid := [("unicode/utf8.acceptRanges", laid_unicode_utf8_acceptRanges), ("unicode/utf8.first", laid_unicode_utf8_first)] }
def TaggedReturnsSaid : Prop := taggedReturnsRow.holds Tryz.pinned (OpenSpec.ofChange taggedReturnsSpec)

/-- ITS FALSE NEIGHBOUR: 'it returns false'. Refute it at one input. -/
def taggedReturnsWrong : ChangeSpec := { name := "taggedReturns", fn := fun _ => fun
  | [d1, d2, d3] => { results := [.lit (.bool false)], args := [d1, d2, d3] }
  | _ => none }
def TaggedReturnsWrongFalsely : Prop := taggedReturnsRow.holds Tryz.pinned (OpenSpec.ofChange taggedReturnsWrong)

/-- 'manifoldlaw10.TaggedDecodes': WHATEVER THE INPUT: true; the input reads as it did. -/
def taggedDecodesSpec : ChangeSpec := { name := "taggedDecodes", fn := fun _ => fun
  | [d1, d2] => { results := [.lit (.bool true)], args := [d1, d2] }
  | _ => none }
def taggedDecodesRow : OpenClaim := { program := "ytlplmdipoacnlaagreatdoor", sum := "d46858ae29cb8627ec975a1711515e0dd27dd539b674811b0b723b0c83f1b310", func := "manifold/manifoldlaw10.TaggedDecodes", spec := "taggedDecodes", inPlace := ["internal/bytealg.abigen_runtime_cmpstring"], unfollowed := true, recurses := true, named := ["unicode/utf8.first", "unicode/utf8.acceptRanges"], loops := true, apart := false, laid := [("unicode/utf8.acceptRanges", laid_unicode_utf8_acceptRanges), ("unicode/utf8.first", laid_unicode_utf8_first)] }
def TaggedDecodesSaid : Prop := taggedDecodesRow.holds Tryz.pinned (OpenSpec.ofChange taggedDecodesSpec)

/-- ITS FALSE NEIGHBOUR: 'it returns false'. Refute it at one input. -/
def taggedDecodesWrong : ChangeSpec := { name := "taggedDecodes", fn := fun _ => fun
  | [d1, d2] => { results := [.lit (.bool false)], args := [d1, d2] }
  | _ => none }
def TaggedDecodesWrongFalsely : Prop := taggedDecodesRow.holds Tryz.pinned (OpenSpec.ofChange taggedDecodesWrong)

/-- 'manifoldlaw10.TaggedCuts': WHATEVER THE INPUT: true; the input reads as it did. -/
def taggedCutsSpec : ChangeSpec := { name := "taggedCuts", fn := fun _ => fun
  | [d1, d2, d3] => { results := [.lit (.bool true)], args := [d1, d2, d3] }
  | _ => none }
def taggedCutsRow : OpenClaim := { program := "ytlplmdipoacnlaagreatdoor", sum := "d46858ae29cb8627ec975a1711515e0dd27dd539b674811b0b723b0c83f1b310", func := "manifold/manifoldlaw10.TaggedCuts", spec := "taggedCuts", inPlace := ["internal/bytealg.abigen_runtime_cmpstring"], unfollowed := true, recurses := true, named := ["unicode/utf8.first", "unicode/utf8.acceptRanges"], loops := true, apart := false, laid := [("unicode/utf8.acceptRanges", laid_unicode_utf8_acceptRanges), ("unicode/utf8.first", laid_unicode_utf8_first)] }
def TaggedCutsSaid : Prop := taggedCutsRow.holds Tryz.pinned (OpenSpec.ofChange taggedCutsSpec)

/-- ITS FALSE NEIGHBOUR: 'it returns false'. Refute it at one input. -/
def taggedCutsWrong : ChangeSpec := { name := "taggedCuts", fn := fun _ => fun
  | [d1, d2, d3] => { results := [.lit (.bool false)], args := [d1, d2, d3] }
  | _ => none }
def TaggedCutsWrongFalsely : Prop := taggedCutsRow.holds Tryz.pinned (OpenSpec.ofChange taggedCutsWrong)

/-- 'manifoldlaw10.TaggedSkips': WHATEVER THE INPUT: true; the input reads as it did. -/
def taggedSkipsSpec : ChangeSpec := { name := "taggedSkips", fn := fun _ => fun
  | [d1, d2, d3] => { results := [.lit (.bool true)], args := [d1, d2, d3] }
  | _ => none }
def taggedSkipsRow : OpenClaim := { program := "ytlplmdipoacnlaagreatdoor", sum := "d46858ae29cb8627ec975a1711515e0dd27dd539b674811b0b723b0c83f1b310", func := "manifold/manifoldlaw10.TaggedSkips", spec := "taggedSkips", inPlace := ["internal/bytealg.abigen_runtime_cmpstring"], unfollowed := true, recurses := true, named := ["unicode/utf8.first", "unicode/utf8.acceptRanges"], loops := true, apart := false, laid := [("unicode/utf8.acceptRanges", laid_unicode_utf8_acceptRanges), ("unicode/utf8.first", laid_unicode_utf8_first)] }
def TaggedSkipsSaid : Prop := taggedSkipsRow.holds Tryz.pinned (OpenSpec.ofChange taggedSkipsSpec)

/-- ITS FALSE NEIGHBOUR: 'it returns false'. Refute it at one input. -/
def taggedSkipsWrong : ChangeSpec := { name := "taggedSkips", fn := fun _ => fun
  | [d1, d2, d3] => { results := [.lit (.bool false)], args := [d1, d2, d3] }
  | _ => none }
def TaggedSkipsWrongFalsely : Prop := taggedSkipsRow.holds Tryz.pinned (OpenSpec.ofChange taggedSkipsWrong)

/- THE SECOND FORM. 'bulk': how many values and letters a reading holds, each counted each time it is reached (what is shared counts as often as it is met; a slice's spare places count too). A statement '..UptoSaid' is the law's where the arguments, and the package variables that the reading takes, are together of bulk at most 1048576: NARROWER than '..Said'. Prove '..Said' where nothing that the law and all that it calls make is longer than what came in: it says more and counts as full. Else prove '..UptoSaid'. A law counts once. -/
mutual
def uptoBulk {H : Type} : DataW H → Nat
  | .lit (.string bytes) => bytes.length + 1
  | .lit _ => 1
  | .nil => 1
  | .ptr d => uptoBulk d + 1
  | .slice elems spare => uptoBulkAll elems + uptoBulkAll spare + 1
  | .agg parts => uptoBulkAll parts + 1
  | .iface _ d => uptoBulk d + 1
  | .map entries => uptoBulkEntries entries + 1
  | .held _ => 1
def uptoBulkAll {H : Type} : List (DataW H) → Nat
  | [] => 0
  | d :: r => uptoBulk d + uptoBulkAll r
def uptoBulkEntries {H : Type} : List (Lit × DataW H) → Nat
  | [] => 0
  | x :: r => uptoBulkEntry x + uptoBulkEntries r
def uptoBulkEntry {H : Type} : Lit × DataW H → Nat
  | (.string bytes, d) => bytes.length + uptoBulk d + 1
  | (_, d) => uptoBulk d + 1
 end
def uptoSmall : (H : Type) → List (DataW H) → Bool := fun _ ds => decide (uptoBulkAll ds ≤ 1048576)
def OpenSpec.upto (s : _root_.Go.ChangeSpec) : _root_.Go.OpenSpec := { _root_.Go.OpenSpec.ofChange s with cond := some uptoSmall }

/-- 'manifoldlaw10.TaggedEncodes', WHERE WHAT IT READS IS OF BULK AT MOST 1048576: true; the input reads as it did. -/
def taggedEncodesUptoRow : OpenClaim := { program := "ytlplmdipoacnlaagreatdoor", sum := "d46858ae29cb8627ec975a1711515e0dd27dd539b674811b0b723b0c83f1b310", func := "manifold/manifoldlaw10.TaggedEncodes", spec := "taggedEncodes", unfollowed := true, recurses := true, named := ["unicode/utf8.first", "unicode/utf8.acceptRanges"], loops := true, apart := false, laid := [("unicode/utf8.acceptRanges", laid_unicode_utf8_acceptRanges), ("unicode/utf8.first", laid_unicode_utf8_first)], narrowed := true }
def TaggedEncodesUptoSaid : Prop := taggedEncodesUptoRow.holds Tryz.pinned (OpenSpec.upto taggedEncodesSpec)

/-- 'manifoldlaw10.TaggedTakes', WHERE WHAT IT READS IS OF BULK AT MOST 1048576: true; the input reads as it did. -/
def taggedTakesUptoRow : OpenClaim := { program := "ytlplmdipoacnlaagreatdoor", sum := "d46858ae29cb8627ec975a1711515e0dd27dd539b674811b0b723b0c83f1b310", func := "manifold/manifoldlaw10.TaggedTakes", spec := "taggedTakes", unfollowed := true, recurses := true, named := ["unicode/utf8.first", "unicode/utf8.acceptRanges"], apart := false, laid := [("unicode/utf8.acceptRanges", laid_unicode_utf8_acceptRanges), ("unicode/utf8.first", laid_unicode_utf8_first)], narrowed := true }
def TaggedTakesUptoSaid : Prop := taggedTakesUptoRow.holds Tryz.pinned (OpenSpec.upto taggedTakesSpec)

/-- 'manifoldlaw10.TaggedNumbers', WHERE WHAT IT READS IS OF BULK AT MOST 1048576: true; the input reads as it did. -/
def taggedNumbersUptoRow : OpenClaim := { program := "ytlplmdipoacnlaagreatdoor", sum := "d46858ae29cb8627ec975a1711515e0dd27dd539b674811b0b723b0c83f1b310", func := "manifold/manifoldlaw10.TaggedNumbers", spec := "taggedNumbers", unfollowed := true, recurses := true, named := ["unicode/utf8.first", "unicode/utf8.acceptRanges"], apart := false, laid := [("unicode/utf8.acceptRanges", laid_unicode_utf8_acceptRanges), ("unicode/utf8.first", laid_unicode_utf8_first)], narrowed := true }
def TaggedNumbersUptoSaid : Prop := taggedNumbersUptoRow.holds Tryz.pinned (OpenSpec.upto taggedNumbersSpec)

/-- 'manifoldlaw10.TaggedParts', WHERE WHAT IT READS IS OF BULK AT MOST 1048576: true; the input reads as it did. -/
def taggedPartsUptoRow : OpenClaim := { program := "ytlplmdipoacnlaagreatdoor", sum := "d46858ae29cb8627ec975a1711515e0dd27dd539b674811b0b723b0c83f1b310", func := "manifold/manifoldlaw10.TaggedParts", spec := "taggedParts", unfollowed := true, recurses := true, named := ["unicode/utf8.first", "unicode/utf8.acceptRanges"], apart := false, laid := [("unicode/utf8.acceptRanges", laid_unicode_utf8_acceptRanges), ("unicode/utf8.first", laid_unicode_utf8_first)], narrowed := true }
def TaggedPartsUptoSaid : Prop := taggedPartsUptoRow.holds Tryz.pinned (OpenSpec.upto taggedPartsSpec)

/-- 'manifoldlaw10.TaggedJoins', WHERE WHAT IT READS IS OF BULK AT MOST 1048576: true; the input reads as it did. -/
def taggedJoinsUptoRow : OpenClaim := { program := "ytlplmdipoacnlaagreatdoor", sum := "d46858ae29cb8627ec975a1711515e0dd27dd539b674811b0b723b0c83f1b310", func := "manifold/manifoldlaw10.TaggedJoins", spec := "taggedJoins", unfollowed := true, recurses := true, named := ["unicode/utf8.first", "unicode/utf8.acceptRanges"], apart := false, laid := [("unicode/utf8.acceptRanges", laid_unicode_utf8_acceptRanges), ("unicode/utf8.first", laid_unicode_utf8_first)], narrowed := true }
def TaggedJoinsUptoSaid : Prop := taggedJoinsUptoRow.holds Tryz.pinned (OpenSpec.upto taggedJoinsSpec)

/-- 'manifoldlaw10.TaggedKinds', WHERE WHAT IT READS IS OF BULK AT MOST 1048576: true; the input reads as it did. -/
def taggedKindsUptoRow : OpenClaim := { program := "ytlplmdipoacnlaagreatdoor", sum := "d46858ae29cb8627ec975a1711515e0dd27dd539b674811b0b723b0c83f1b310", func := "manifold/manifoldlaw10.TaggedKinds", spec := "taggedKinds", unfollowed := true, recurses := true, named := ["unicode/utf8.first", "unicode/utf8.acceptRanges"], loops := true, apart := false, laid := [("unicode/utf8.acceptRanges", laid_unicode_utf8_acceptRanges), ("unicode/utf8.first", laid_unicode_utf8_first)], narrowed := true }
def TaggedKindsUptoSaid : Prop := taggedKindsUptoRow.holds Tryz.pinned (OpenSpec.upto taggedKindsSpec)

/-- 'manifoldlaw10.TaggedReturns', WHERE WHAT IT READS IS OF BULK AT MOST 1048576: true; the input reads as it did. -/
def taggedReturnsUptoRow : OpenClaim := { program := "ytlplmdipoacnlaagreatdoor", sum := "d46858ae29cb8627ec975a1711515e0dd27dd539b674811b0b723b0c83f1b310", func := "manifold/manifoldlaw10.TaggedReturns", spec := "taggedReturns", inPlace := ["internal/bytealg.abigen_runtime_cmpstring"], unfollowed := true, recurses := true, named := ["unicode/utf8.first", "unicode/utf8.acceptRanges"], loops := true, apart := false, laid := [("unicode/utf8.acceptRanges", laid_unicode_utf8_acceptRanges), ("unicode/utf8.first", laid_unicode_utf8_first)], narrowed := true }
def TaggedReturnsUptoSaid : Prop := taggedReturnsUptoRow.holds Tryz.pinned (OpenSpec.upto taggedReturnsSpec)

/-- 'manifoldlaw10.TaggedDecodes', WHERE WHAT IT READS IS OF BULK AT MOST 1048576: true; the input reads as it did. -/
def taggedDecodesUptoRow : OpenClaim := { program := "ytlplmdipoacnlaagreatdoor", sum := "d46858ae29cb8627ec975a1711515e0dd27dd539b674811b0b723b0c83f1b310", func := "manifold/manifoldlaw10.TaggedDecodes", spec := "taggedDecodes", inPlace := ["internal/bytealg.abigen_runtime_cmpstring"], unfollowed := true, recurses := true, named := ["unicode/utf8.first", "unicode/utf8.acceptRanges"], loops := true, apart := false, laid := [("unicode/utf8.acceptRanges", laid_unicode_utf8_acceptRanges), ("unicode/utf8.first", laid_unicode_utf8_first)], narrowed := true }
def TaggedDecodesUptoSaid : Prop := taggedDecodesUptoRow.holds Tryz.pinned (OpenSpec.upto taggedDecodesSpec)

/-- 'manifoldlaw10.TaggedCuts', WHERE WHAT IT READS IS OF BULK AT MOST 1048576: true; the input reads as it did. -/
def taggedCutsUptoRow : OpenClaim := { program := "ytlplmdipoacnlaagreatdoor", sum := "d46858ae29cb8627ec975a1711515e0dd27dd539b674811b0b723b0c83f1b310", func := "manifold/manifoldlaw10.TaggedCuts", spec := "taggedCuts", inPlace := ["internal/bytealg.abigen_runtime_cmpstring"], unfollowed := true, recurses := true, named := ["unicode/utf8.first", "unicode/utf8.acceptRanges"], loops := true, apart := false, laid := [("unicode/utf8.acceptRanges", laid_unicode_utf8_acceptRanges), ("unicode/utf8.first", laid_unicode_utf8_first)], narrowed := true }
def TaggedCutsUptoSaid : Prop := taggedCutsUptoRow.holds Tryz.pinned (OpenSpec.upto taggedCutsSpec)

/-- 'manifoldlaw10.TaggedSkips', WHERE WHAT IT READS IS OF BULK AT MOST 1048576: true; the input reads as it did. -/
def taggedSkipsUptoRow : OpenClaim := { program := "ytlplmdipoacnlaagreatdoor", sum := "d46858ae29cb8627ec975a1711515e0dd27dd539b674811b0b723b0c83f1b310", func := "manifold/manifoldlaw10.TaggedSkips", spec := "taggedSkips", inPlace := ["internal/bytealg.abigen_runtime_cmpstring"], unfollowed := true, recurses := true, named := ["unicode/utf8.first", "unicode/utf8.acceptRanges"], loops := true, apart := false, laid := [("unicode/utf8.acceptRanges", laid_unicode_utf8_acceptRanges), ("unicode/utf8.first", laid_unicode_utf8_first)], narrowed := true }
def TaggedSkipsUptoSaid : Prop := taggedSkipsUptoRow.holds Tryz.pinned (OpenSpec.upto taggedSkipsSpec)

end Rows
end Go.Proofs.YtlplmdipoacnlaaGreatDoor
