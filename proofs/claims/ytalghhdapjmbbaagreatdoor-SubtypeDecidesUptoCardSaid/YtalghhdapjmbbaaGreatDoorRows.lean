/-
  NARROWER THAN 'FOR EVERY INPUT', by the rows' own cells (each row's printed sentence says how): SubtypeDecides: loops, laid · SubtypeOrders: loops, laid · SubtypeJoins: loops, laid · SubtypeLeast: loops, laid · SubtypeBounds: laid · SubtypeWithin: loops, laid · SubtypeSwaps: loops, laid.
  DERIVED. THE GIVEN ROWS OF THIS SEAT. 7 by the template 'for every input the law returns true; each argument reads behind the call as it read before'; 0 by the template 'total and deterministic' (their statements: YtalghhdapjmbbaaGreatDoorTotals.lean).
  GIVEN WITH THE SEED: the statements are not yours to turn. If you find one false, say at which input.
  Laid BY PROGRAM, IN A SANDBOX (cutbox-rows.mjs): the forced cells as the released guide's own fill.sh prints them over the translation 11b430f0f81536e7… (all of the seat's roots in one cut). By AI agents, Wed Nov 11 2026. No macro, syntax, notation, axiom, sorry.
-/
import Derived.Test.YtalghhdapjmbbaaGreatDoorChecked
import GoSem.PinnedTables
import GoSem.Claim
import GoSem.ClaimJoined
import GoSem.ClaimMapViews
import Derived.JoinedTies
import Derived.KernelRfl
namespace Go.Proofs.YtalghhdapjmbbaaGreatDoor
/- THE CELL 'sum', in the pinned program and in every row, IS THE sha256 OF THE DUMP (.gsa) THAT YtalghhdapjmbbaaGreatDoorProg.lean LOADS. Nothing in Lean hashes anything: it is a label: what it is worth is what the hold of that sum in a sandbox is worth. -/
noncomputable def Tryz.pinned : Pinned := { name := "ytalghhdapjmbbaagreatdoor", sum := "11b430f0f81536e75dd6237926773692ec8f03e80d3173161832ac9eaa35173e", checked := Tryz.checked }
namespace Rows
def none {H : Type} : Left H := { results := [], args := [] }

/- WHAT THE LISTED PACKAGE-LEVEL VARIABLES READ AS WHEN THE CALL BEGINS. Each datum BY PROGRAM (the guide's laid-datum.mjs) off the statement by which the dump's own 'gosem.cut.vars' lays the variable. In a bare row this is a premise. The card (YtalghhdapjmbbaaGreatDoorCards.lean) ties it to the program's text. -/
def laid_unicode_utf8_acceptRanges {H : Type} : DataW H := .agg [.agg [.lit (.int .u8 128), .lit (.int .u8 191)], .agg [.lit (.int .u8 160), .lit (.int .u8 191)], .agg [.lit (.int .u8 128), .lit (.int .u8 159)], .agg [.lit (.int .u8 144), .lit (.int .u8 191)], .agg [.lit (.int .u8 128), .lit (.int .u8 143)], .agg [.lit (.int .u8 0), .lit (.int .u8 0)], .agg [.lit (.int .u8 0), .lit (.int .u8 0)], .agg [.lit (.int .u8 0), .lit (.int .u8 0)], .agg [.lit (.int .u8 0), .lit (.int .u8 0)], .agg [.lit (.int .u8 0), .lit (.int .u8 0)], .agg [.lit (.int .u8 0), .lit (.int .u8 0)], .agg [.lit (.int .u8 0), .lit (.int .u8 0)], .agg [.lit (.int .u8 0), .lit (.int .u8 0)], .agg [.lit (.int .u8 0), .lit (.int .u8 0)], .agg [.lit (.int .u8 0), .lit (.int .u8 0)], .agg [.lit (.int .u8 0), .lit (.int .u8 0)]]
/-- One of Go's own tables, pinned by name: the form's constant. -/
def laid_unicode_utf8_first : DataW Unit := Go.Pinned.utf8First

/-- 'manifoldlaw08.SubtypeDecides': WHATEVER THE INPUT: true; the input reads as it did. -/
def subtypeDecidesSpec : ChangeSpec := { name := "subtypeDecides", fn := fun _ => fun
  | [d1, d2] => { results := [.lit (.bool true)], args := [d1, d2] }
  | _ => none }
def subtypeDecidesRow : OpenClaim := { program := "ytalghhdapjmbbaagreatdoor", sum := "11b430f0f81536e75dd6237926773692ec8f03e80d3173161832ac9eaa35173e", func := "manifold/manifoldlaw08.SubtypeDecides", spec := "subtypeDecides", inPlace := ["internal/abi.NoEscape", "internal/bytealg.MakeNoZero", "internal/bytealg.abigen_runtime_cmpstring"], unfollowed := true, recurses := true, named := ["unicode/utf8.first", "unicode/utf8.acceptRanges"], loops := true, apart := false, laid := [("unicode/utf8.acceptRanges", laid_unicode_utf8_acceptRanges), ("unicode/utf8.first", laid_unicode_utf8_first)] }
def SubtypeDecidesSaid : Prop := subtypeDecidesRow.holds Tryz.pinned (OpenSpec.ofChange subtypeDecidesSpec)

/-- ITS FALSE NEIGHBOUR: 'it returns false'. Refute it at one input. -/
def subtypeDecidesWrong : ChangeSpec := { name := "subtypeDecides", fn := fun _ => fun
  | [d1, d2] => { results := [.lit (.bool false)], args := [d1, d2] }
  | _ => none }
def SubtypeDecidesWrongFalsely : Prop := subtypeDecidesRow.holds Tryz.pinned (OpenSpec.ofChange subtypeDecidesWrong)

/-- 'manifoldlaw08.SubtypeOrders': WHATEVER THE INPUT: true; the input reads as it did. -/
def subtypeOrdersSpec : ChangeSpec := { name := "subtypeOrders", fn := fun _ => fun
  | [d1, d2, d3] => { results := [.lit (.bool true)], args := [d1, d2, d3] }
  | _ => none }
def subtypeOrdersRow : OpenClaim := { program := "ytalghhdapjmbbaagreatdoor", sum := "11b430f0f81536e75dd6237926773692ec8f03e80d3173161832ac9eaa35173e", func := "manifold/manifoldlaw08.SubtypeOrders", spec := "subtypeOrders", inPlace := ["internal/abi.NoEscape", "internal/bytealg.MakeNoZero", "internal/bytealg.abigen_runtime_cmpstring"], unfollowed := true, recurses := true, named := ["unicode/utf8.first", "unicode/utf8.acceptRanges"], loops := true, apart := false, laid := [("unicode/utf8.acceptRanges", laid_unicode_utf8_acceptRanges), ("unicode/utf8.first", laid_unicode_utf8_first)] }
def SubtypeOrdersSaid : Prop := subtypeOrdersRow.holds Tryz.pinned (OpenSpec.ofChange subtypeOrdersSpec)

/-- ITS FALSE NEIGHBOUR: 'it returns false'. Refute it at one input. -/
def subtypeOrdersWrong : ChangeSpec := { name := "subtypeOrders", fn := fun _ => fun
  | [d1, d2, d3] => { results := [.lit (.bool false)], args := [d1, d2, d3] }
  | _ => none }
def SubtypeOrdersWrongFalsely : Prop := subtypeOrdersRow.holds Tryz.pinned (OpenSpec.ofChange subtypeOrdersWrong)

/-- 'manifoldlaw08.SubtypeJoins': WHATEVER THE INPUT: true; the input reads as it did. -/
def subtypeJoinsSpec : ChangeSpec := { name := "subtypeJoins", fn := fun _ => fun
  | [d1, d2] => { results := [.lit (.bool true)], args := [d1, d2] }
  | _ => none }
def subtypeJoinsRow : OpenClaim := { program := "ytalghhdapjmbbaagreatdoor", sum := "11b430f0f81536e75dd6237926773692ec8f03e80d3173161832ac9eaa35173e", func := "manifold/manifoldlaw08.SubtypeJoins", spec := "subtypeJoins", inPlace := ["internal/bytealg.abigen_runtime_cmpstring", "internal/abi.NoEscape", "internal/bytealg.MakeNoZero"], unfollowed := true, recurses := true, named := ["unicode/utf8.first", "unicode/utf8.acceptRanges"], loops := true, apart := false, laid := [("unicode/utf8.acceptRanges", laid_unicode_utf8_acceptRanges), ("unicode/utf8.first", laid_unicode_utf8_first)] }
def SubtypeJoinsSaid : Prop := subtypeJoinsRow.holds Tryz.pinned (OpenSpec.ofChange subtypeJoinsSpec)

/-- ITS FALSE NEIGHBOUR: 'it returns false'. Refute it at one input. -/
def subtypeJoinsWrong : ChangeSpec := { name := "subtypeJoins", fn := fun _ => fun
  | [d1, d2] => { results := [.lit (.bool false)], args := [d1, d2] }
  | _ => none }
def SubtypeJoinsWrongFalsely : Prop := subtypeJoinsRow.holds Tryz.pinned (OpenSpec.ofChange subtypeJoinsWrong)

/-- 'manifoldlaw08.SubtypeLeast': WHATEVER THE INPUT: true; the input reads as it did. -/
def subtypeLeastSpec : ChangeSpec := { name := "subtypeLeast", fn := fun _ => fun
  | [d1, d2, d3] => { results := [.lit (.bool true)], args := [d1, d2, d3] }
  | _ => none }
def subtypeLeastRow : OpenClaim := { program := "ytalghhdapjmbbaagreatdoor", sum := "11b430f0f81536e75dd6237926773692ec8f03e80d3173161832ac9eaa35173e", func := "manifold/manifoldlaw08.SubtypeLeast", spec := "subtypeLeast", inPlace := ["internal/abi.NoEscape", "internal/bytealg.MakeNoZero", "internal/bytealg.abigen_runtime_cmpstring"], unfollowed := true, recurses := true, named := ["unicode/utf8.first", "unicode/utf8.acceptRanges"], loops := true, apart := false, laid := [("unicode/utf8.acceptRanges", laid_unicode_utf8_acceptRanges), ("unicode/utf8.first", laid_unicode_utf8_first)] }
def SubtypeLeastSaid : Prop := subtypeLeastRow.holds Tryz.pinned (OpenSpec.ofChange subtypeLeastSpec)

/-- ITS FALSE NEIGHBOUR: 'it returns false'. Refute it at one input. -/
def subtypeLeastWrong : ChangeSpec := { name := "subtypeLeast", fn := fun _ => fun
  | [d1, d2, d3] => { results := [.lit (.bool false)], args := [d1, d2, d3] }
  | _ => none }
def SubtypeLeastWrongFalsely : Prop := subtypeLeastRow.holds Tryz.pinned (OpenSpec.ofChange subtypeLeastWrong)

/-- 'manifoldlaw08.SubtypeBounds': WHATEVER THE INPUT: true; the input reads as it did. -/
def subtypeBoundsSpec : ChangeSpec := { name := "subtypeBounds", fn := fun _ => fun
  | [d1, d2] => { results := [.lit (.bool true)], args := [d1, d2] }
  | _ => none }
def subtypeBoundsRow : OpenClaim := { program := "ytalghhdapjmbbaagreatdoor", sum := "11b430f0f81536e75dd6237926773692ec8f03e80d3173161832ac9eaa35173e", func := "manifold/manifoldlaw08.SubtypeBounds", spec := "subtypeBounds", inPlace := ["internal/abi.NoEscape", "internal/bytealg.MakeNoZero", "internal/bytealg.abigen_runtime_cmpstring"], unfollowed := true, recurses := true, named := ["unicode/utf8.first", "unicode/utf8.acceptRanges"], apart := false, laid := [("unicode/utf8.acceptRanges", laid_unicode_utf8_acceptRanges), ("unicode/utf8.first", laid_unicode_utf8_first)] }
def SubtypeBoundsSaid : Prop := subtypeBoundsRow.holds Tryz.pinned (OpenSpec.ofChange subtypeBoundsSpec)

/-- ITS FALSE NEIGHBOUR: 'it returns false'. Refute it at one input. -/
def subtypeBoundsWrong : ChangeSpec := { name := "subtypeBounds", fn := fun _ => fun
  | [d1, d2] => { results := [.lit (.bool false)], args := [d1, d2] }
  | _ => none }
def SubtypeBoundsWrongFalsely : Prop := subtypeBoundsRow.holds Tryz.pinned (OpenSpec.ofChange subtypeBoundsWrong)

/-- 'manifoldlaw08.SubtypeWithin': WHATEVER THE INPUT: true; the input reads as it did. -/
def subtypeWithinSpec : ChangeSpec := { name := "subtypeWithin", fn := fun _ => fun
  | [d1, d2] => { results := [.lit (.bool true)], args := [d1, d2] }
  | _ => none }
def subtypeWithinRow : OpenClaim := { program := "ytalghhdapjmbbaagreatdoor", sum := "11b430f0f81536e75dd6237926773692ec8f03e80d3173161832ac9eaa35173e", func := "manifold/manifoldlaw08.SubtypeWithin", spec := "subtypeWithin", inPlace := ["internal/abi.NoEscape", "internal/bytealg.MakeNoZero", "internal/bytealg.abigen_runtime_cmpstring"], unfollowed := true, recurses := true, named := ["unicode/utf8.first", "unicode/utf8.acceptRanges"], loops := true, apart := false, laid := [("unicode/utf8.acceptRanges", laid_unicode_utf8_acceptRanges), ("unicode/utf8.first", laid_unicode_utf8_first)] }
def SubtypeWithinSaid : Prop := subtypeWithinRow.holds Tryz.pinned (OpenSpec.ofChange subtypeWithinSpec)

/-- ITS FALSE NEIGHBOUR: 'it returns false'. Refute it at one input. -/
def subtypeWithinWrong : ChangeSpec := { name := "subtypeWithin", fn := fun _ => fun
  | [d1, d2] => { results := [.lit (.bool false)], args := [d1, d2] }
  | _ => none }
def SubtypeWithinWrongFalsely : Prop := subtypeWithinRow.holds Tryz.pinned (OpenSpec.ofChange subtypeWithinWrong)

/-- 'manifoldlaw08.SubtypeSwaps': WHATEVER THE INPUT: true; the input reads as it did. -/
def subtypeSwapsSpec : ChangeSpec := { name := "subtypeSwaps", fn := fun _ => fun
  | [d1, d2] => { results := [.lit (.bool true)], args := [d1, d2] }
  | _ => none }
def subtypeSwapsRow : OpenClaim := { program := "ytalghhdapjmbbaagreatdoor", sum := "11b430f0f81536e75dd6237926773692ec8f03e80d3173161832ac9eaa35173e", func := "manifold/manifoldlaw08.SubtypeSwaps", spec := "subtypeSwaps", inPlace := ["internal/bytealg.abigen_runtime_cmpstring", "internal/abi.NoEscape", "internal/bytealg.MakeNoZero"], unfollowed := true, recurses := true, named := ["unicode/utf8.first", "unicode/utf8.acceptRanges"], loops := true, apart := false, laid := [("unicode/utf8.acceptRanges", laid_unicode_utf8_acceptRanges), ("unicode/utf8.first", laid_unicode_utf8_first)] }
def SubtypeSwapsSaid : Prop := subtypeSwapsRow.holds Tryz.pinned (OpenSpec.ofChange subtypeSwapsSpec)

/-- ITS FALSE NEIGHBOUR: 'it returns false'. Refute it at one input. -/
def subtypeSwapsWrong : ChangeSpec := { name := "subtypeSwaps", fn := fun _ => fun
  | [d1, d2] => { results := [.lit (.bool false)], args := [d1, d2] }
  | _ => none }
def SubtypeSwapsWrongFalsely : Prop := subtypeSwapsRow.holds Tryz.pinned (OpenSpec.ofChange subtypeSwapsWrong)

/- THE SECOND FORM. 'bulk': how many values and letters a reading holds, each counted each time it is reached (what is shared counts as often as it is met; a slice's spare places count too). A statement '..UptoSaid' is the law's where the arguments, and the package variables that the reading takes, are together of bulk at most 1048576: NARROWER than '..Said'. Prove '..Said' where nothing that the law and all that it calls make is longer than what came in: it says more and counts as full. Else prove '..UptoSaid'. A law counts once. -/
mutual
def uptoBulk {H : Type} : DataW H → Nat
  | .lit (.string bytes) => bytes.length + 1
  | .lit _ => 1
  | .nil => 1
  | .ptr d => uptoBulk d + 1
  | .slice elems spare => uptoBulkAll elems + uptoBulkAll spare + 1
  | .agg parts => uptoBulkAll parts + 1
  | .iface _ d => uptoBulk d + 1
  | .map entries => uptoBulkEntries entries + 1
  | .held _ => 1
def uptoBulkAll {H : Type} : List (DataW H) → Nat
  | [] => 0
  | d :: r => uptoBulk d + uptoBulkAll r
def uptoBulkEntries {H : Type} : List (Lit × DataW H) → Nat
  | [] => 0
  | x :: r => uptoBulkEntry x + uptoBulkEntries r
def uptoBulkEntry {H : Type} : Lit × DataW H → Nat
  | (.string bytes, d) => bytes.length + uptoBulk d + 1
  | (_, d) => uptoBulk d + 1
 end
def uptoSmall : (H : Type) → List (DataW H) → Bool := fun _ ds => decide (uptoBulkAll ds ≤ 1048576)
def OpenSpec.upto (s : _root_.Go.ChangeSpec) : _root_.Go.OpenSpec := { _root_.Go.OpenSpec.ofChange s with cond := some uptoSmall }

/-- 'manifoldlaw08.SubtypeDecides', WHERE WHAT IT READS IS OF BULK AT MOST 1048576: true; the input reads as it did. -/
def subtypeDecidesUptoRow : OpenClaim := { program := "ytalghhdapjmbbaagreatdoor", sum := "11b430f0f81536e75dd6237926773692ec8f03e80d3173161832ac9eaa35173e", func := "manifold/manifoldlaw08.SubtypeDecides", spec := "subtypeDecides", inPlace := ["internal/abi.NoEscape", "internal/bytealg.MakeNoZero", "internal/bytealg.abigen_runtime_cmpstring"], unfollowed := true, recurses := true, named := ["unicode/utf8.first", "unicode/utf8.acceptRanges"], loops := true, apart := false, laid := [("unicode/utf8.acceptRanges", laid_unicode_utf8_acceptRanges), ("unicode/utf8.first", laid_unicode_utf8_first)], narrowed := true }
def SubtypeDecidesUptoSaid : Prop := subtypeDecidesUptoRow.holds Tryz.pinned (OpenSpec.upto subtypeDecidesSpec)

/-- 'manifoldlaw08.SubtypeOrders', WHERE WHAT IT READS IS OF BULK AT MOST 1048576: true; the input reads as it did. -/
def subtypeOrdersUptoRow : OpenClaim := { program := "ytalghhdapjmbbaagreatdoor", sum := "11b430f0f81536e75dd6237926773692ec8f03e80d3173161832ac9eaa35173e", func := "manifold/manifoldlaw08.SubtypeOrders", spec := "subtypeOrders", inPlace := ["internal/abi.NoEscape", "internal/bytealg.MakeNoZero", "internal/bytealg.abigen_runtime_cmpstring"], unfollowed := true, recurses := true, named := ["unicode/utf8.first", "unicode/utf8.acceptRanges"], loops := true, apart := false, laid := [("unicode/utf8.acceptRanges", laid_unicode_utf8_acceptRanges), ("unicode/utf8.first", laid_unicode_utf8_first)], narrowed := true }
def SubtypeOrdersUptoSaid : Prop := subtypeOrdersUptoRow.holds Tryz.pinned (OpenSpec.upto subtypeOrdersSpec)

/-- 'manifoldlaw08.SubtypeJoins', WHERE WHAT IT READS IS OF BULK AT MOST 1048576: true; the input reads as it did. -/
def subtypeJoinsUptoRow : OpenClaim := { program := "ytalghhdapjmbbaagreatdoor", sum := "11b430f0f81536e75dd6237926773692ec8f03e80d3173161832ac9eaa35173e", func := "manifold/manifoldlaw08.SubtypeJoins", spec := "subtypeJoins", inPlace := ["internal/bytealg.abigen_runtime_cmpstring", "internal/abi.NoEscape", "internal/bytealg.MakeNoZero"], unfollowed := true, recurses := true, named := ["unicode/utf8.first", "unicode/utf8.acceptRanges"], loops := true, apart := false, laid := [("unicode/utf8.acceptRanges", laid_unicode_utf8_acceptRanges), ("unicode/utf8.first", laid_unicode_utf8_first)], narrowed := true }
def SubtypeJoinsUptoSaid : Prop := subtypeJoinsUptoRow.holds Tryz.pinned (OpenSpec.upto subtypeJoinsSpec)

/-- 'manifoldlaw08.SubtypeLeast', WHERE WHAT IT READS IS OF BULK AT MOST 1048576: true; the input reads as it did. -/
def subtypeLeastUptoRow : OpenClaim := { program := "ytalghhdapjmbbaagreatdoor", sum := "11b430f0f81536e75dd6237926773692ec8f03e80d3173161832ac9eaa35173e", func := "manifold/manifoldlaw08.SubtypeLeast", spec := "subtypeLeast", inPlace := ["internal/abi.NoEscape", "internal/bytealg.MakeNoZero", "internal/bytealg.abigen_runtime_cmpstring"], unfollowed := true, recurses := true, named := ["unicode/utf8.first", "unicode/utf8.acceptRanges"], loops := true, apart := false, laid := [("unicode/utf8.acceptRanges", laid_unicode_utf8_acceptRanges), ("unicode/utf8.first", laid_unicode_utf8_first)], narrowed := true }
def SubtypeLeastUptoSaid : Prop := subtypeLeastUptoRow.holds Tryz.pinned (OpenSpec.upto subtypeLeastSpec)

/-- 'manifoldlaw08.SubtypeBounds', WHERE WHAT IT READS IS OF BULK AT MOST 1048576: true; the input reads as it did. -/
def subtypeBoundsUptoRow : OpenClaim := { program := "ytalghhdapjmbbaagreatdoor", sum := "11b430f0f81536e75dd6237926773692ec8f03e80d3173161832ac9eaa35173e", func := "manifold/manifoldlaw08.SubtypeBounds", spec := "subtypeBounds", inPlace := ["internal/abi.NoEscape", "internal/bytealg.MakeNoZero", "internal/bytealg.abigen_runtime_cmpstring"], unfollowed := true, recurses := true, named := ["unicode/utf8.first", "unicode/utf8.acceptRanges"], apart := false, laid := [("unicode/utf8.acceptRanges", laid_unicode_utf8_acceptRanges), ("unicode/utf8.first", laid_unicode_utf8_first)], narrowed := true }
def SubtypeBoundsUptoSaid : Prop := subtypeBoundsUptoRow.holds Tryz.pinned (OpenSpec.upto subtypeBoundsSpec)

/-- 'manifoldlaw08.SubtypeWithin', WHERE WHAT IT READS IS OF BULK AT MOST 1048576: true; the input reads as it did. -/
def subtypeWithinUptoRow : OpenClaim := { program := "ytalghhdapjmbbaagreatdoor", sum := "11b430f0f81536e75dd6237926773692ec8f03e80d3173161832ac9eaa35173e", func := "manifold/manifoldlaw08.SubtypeWithin", spec := "subtypeWithin", inPlace := ["internal/abi.NoEscape", "internal/bytealg.MakeNoZero", "internal/bytealg.abigen_runtime_cmpstring"], unfollowed := true, recurses := true, named := ["unicode/utf8.first", "unicode/utf8.acceptRanges"], loops := true, apart := false, laid := [("unicode/utf8.acceptRanges", laid_unicode_utf8_acceptRanges), ("unicode/utf8.first", laid_unicode_utf8_first)], narrowed := true }
def SubtypeWithinUptoSaid : Prop := subtypeWithinUptoRow.holds Tryz.pinned (OpenSpec.upto subtypeWithinSpec)

/-- 'manifoldlaw08.SubtypeSwaps', WHERE WHAT IT READS IS OF BULK AT MOST 1048576: true; the input reads as it did. -/
def subtypeSwapsUptoRow : OpenClaim := { program := "ytalghhdapjmbbaagreatdoor", sum := "11b430f0f81536e75dd6237926773692ec8f03e80d3173161832ac9eaa35173e", func := "manifold/manifoldlaw08.SubtypeSwaps", spec := "subtypeSwaps", inPlace := ["internal/bytealg.abigen_runtime_cmpstring", "internal/abi.NoEscape", "internal/bytealg.MakeNoZero"], unfollowed := true, recurses := true, named := ["unicode/utf8.first", "unicode/utf8.acceptRanges"], loops := true, apart := false, laid := [("unicode/utf8.acceptRanges", laid_unicode_utf8_acceptRanges), ("unicode/utf8.first", laid_unicode_utf8_first)], narrowed := true }
def SubtypeSwapsUptoSaid : Prop := subtypeSwapsUptoRow.holds Tryz.pinned (OpenSpec.upto subtypeSwapsSpec)

end Rows
end Go.Proofs.YtalghhdapjmbbaaGreatDoor
