/-
  NARROWER THAN 'FOR EVERY INPUT', by the rows' own cells (each row's printed sentence says how): ValueChecks: loops, laid · ValueNames: laid · ValueKeeps: loops, laid · ValueRecords: loops, laid · ValueOrders: loops, laid · ValueClones: loops, laid · ValueSizes: loops, laid · ValueLimits: laid · ValueMakes: loops, laid · ValueFields: loops, laid · ValueSets: loops, laid.
  DERIVED. THE GIVEN ROWS OF THIS SEAT. 11 by the template 'for every input the law returns true; each argument reads behind the call as it read before'; 0 by the template 'total and deterministic' (their statements: YtfphnecphebijaaDoorTotals.lean).
  GIVEN WITH THE SEED: the statements are not yours to turn. If you find one false, say at which input.
  Laid BY PROGRAM, IN A SANDBOX (cutbox-rows.mjs): the forced cells as the released guide's own fill.sh prints them over the translation af6784bef2114533… (all of the seat's roots in one cut). By AI agents, Wed Nov 11 2026. No macro, syntax, notation, axiom, sorry.
-/
import Derived.Test.YtfphnecphebijaaDoorChecked
import GoSem.PinnedTables
import GoSem.Claim
import GoSem.ClaimJoined
import GoSem.ClaimMapViews
import Derived.JoinedTies
import Derived.KernelRfl
namespace Go.Proofs.YtfphnecphebijaaDoor
/- THE CELL 'sum', in the pinned program and in every row, IS THE sha256 OF THE DUMP (.gsa) THAT YtfphnecphebijaaDoorProg.lean LOADS. Nothing in Lean hashes anything: it is a label: what it is worth is what the hold of that sum in a sandbox is worth. -/
noncomputable def Tryd.pinned : Pinned := { name := "ytfphnecphebijaadoor", sum := "af6784bef211453368217a69b1c51f8456fb93308c513cfd4ffdc6d8b15b6811", checked := Tryd.checked }
namespace Rows
def none {H : Type} : Left H := { results := [], args := [] }

/- WHAT THE LISTED PACKAGE-LEVEL VARIABLES READ AS WHEN THE CALL BEGINS. Each datum BY PROGRAM (the guide's laid-datum.mjs) off the statement by which the dump's own 'gosem.cut.vars' lays the variable. In a bare row this is a premise. The card (YtfphnecphebijaaDoorCards.lean) ties it to the program's text. -/
def laid_unicode_utf8_acceptRanges {H : Type} : DataW H := .agg [.agg [.lit (.int .u8 128), .lit (.int .u8 191)], .agg [.lit (.int .u8 160), .lit (.int .u8 191)], .agg [.lit (.int .u8 128), .lit (.int .u8 159)], .agg [.lit (.int .u8 144), .lit (.int .u8 191)], .agg [.lit (.int .u8 128), .lit (.int .u8 143)], .agg [.lit (.int .u8 0), .lit (.int .u8 0)], .agg [.lit (.int .u8 0), .lit (.int .u8 0)], .agg [.lit (.int .u8 0), .lit (.int .u8 0)], .agg [.lit (.int .u8 0), .lit (.int .u8 0)], .agg [.lit (.int .u8 0), .lit (.int .u8 0)], .agg [.lit (.int .u8 0), .lit (.int .u8 0)], .agg [.lit (.int .u8 0), .lit (.int .u8 0)], .agg [.lit (.int .u8 0), .lit (.int .u8 0)], .agg [.lit (.int .u8 0), .lit (.int .u8 0)], .agg [.lit (.int .u8 0), .lit (.int .u8 0)], .agg [.lit (.int .u8 0), .lit (.int .u8 0)]]
/-- One of Go's own tables, pinned by name: the form's constant. -/
def laid_unicode_utf8_first : DataW Unit := Go.Pinned.utf8First

/-- 'manifoldlaw04.ValueChecks': WHATEVER THE INPUT: true; the input reads as it did. -/
def valueChecksSpec : ChangeSpec := { name := "valueChecks", fn := fun _ => fun
  | [d] => { results := [.lit (.bool true)], args := [d] }
  | _ => none }
def valueChecksRow : OpenClaim := { program := "ytfphnecphebijaadoor", sum := "af6784bef211453368217a69b1c51f8456fb93308c513cfd4ffdc6d8b15b6811", func := "manifold/manifoldlaw04.ValueChecks", spec := "valueChecks", inPlace := ["internal/bytealg.abigen_runtime_cmpstring", "slices.overlaps[manifold/api.Field]"], unfollowed := true, recurses := true, named := ["unicode/utf8.first", "unicode/utf8.acceptRanges"], loops := true, apart := false, laid := [("unicode/utf8.acceptRanges", laid_unicode_utf8_acceptRanges), ("unicode/utf8.first", laid_unicode_utf8_first)] }
def ValueChecksSaid : Prop := valueChecksRow.holds Tryd.pinned (OpenSpec.ofChange valueChecksSpec)

/-- ITS FALSE NEIGHBOUR: 'it returns false'. Refute it at one input. -/
def valueChecksWrong : ChangeSpec := { name := "valueChecks", fn := fun _ => fun
  | [d] => { results := [.lit (.bool false)], args := [d] }
  | _ => none }
def ValueChecksWrongFalsely : Prop := valueChecksRow.holds Tryd.pinned (OpenSpec.ofChange valueChecksWrong)

/-- 'manifoldlaw04.ValueNames': WHATEVER THE INPUT: true; the input reads as it did. -/
def valueNamesSpec : ChangeSpec := { name := "valueNames", fn := fun _ => fun
  | [d] => { results := [.lit (.bool true)], args := [d] }
  | _ => none }
def valueNamesRow : OpenClaim := { program := "ytfphnecphebijaadoor", sum := "af6784bef211453368217a69b1c51f8456fb93308c513cfd4ffdc6d8b15b6811", func := "manifold/manifoldlaw04.ValueNames", spec := "valueNames", inPlace := ["internal/bytealg.abigen_runtime_cmpstring", "slices.overlaps[manifold/api.Field]"], unfollowed := true, recurses := true, named := ["unicode/utf8.first", "unicode/utf8.acceptRanges"], apart := false, laid := [("unicode/utf8.acceptRanges", laid_unicode_utf8_acceptRanges), ("unicode/utf8.first", laid_unicode_utf8_first)] }
def ValueNamesSaid : Prop := valueNamesRow.holds Tryd.pinned (OpenSpec.ofChange valueNamesSpec)

/-- ITS FALSE NEIGHBOUR: 'it returns false'. Refute it at one input. -/
def valueNamesWrong : ChangeSpec := { name := "valueNames", fn := fun _ => fun
  | [d] => { results := [.lit (.bool false)], args := [d] }
  | _ => none }
def ValueNamesWrongFalsely : Prop := valueNamesRow.holds Tryd.pinned (OpenSpec.ofChange valueNamesWrong)

/-- 'manifoldlaw04.ValueKeeps': WHATEVER THE INPUT: true; the input reads as it did. -/
def valueKeepsSpec : ChangeSpec := { name := "valueKeeps", fn := fun _ => fun
  | [d1, d2, d3] => { results := [.lit (.bool true)], args := [d1, d2, d3] }
  | _ => none }
def valueKeepsRow : OpenClaim := { program := "ytfphnecphebijaadoor", sum := "af6784bef211453368217a69b1c51f8456fb93308c513cfd4ffdc6d8b15b6811", func := "manifold/manifoldlaw04.ValueKeeps", spec := "valueKeeps", inPlace := ["slices.overlaps[manifold/api.Field]", "internal/bytealg.abigen_runtime_cmpstring"], unfollowed := true, recurses := true, named := ["unicode/utf8.first", "unicode/utf8.acceptRanges"], loops := true, apart := false, laid := [("unicode/utf8.acceptRanges", laid_unicode_utf8_acceptRanges), ("unicode/utf8.first", laid_unicode_utf8_first)] }
def ValueKeepsSaid : Prop := valueKeepsRow.holds Tryd.pinned (OpenSpec.ofChange valueKeepsSpec)

/-- ITS FALSE NEIGHBOUR: 'it returns false'. Refute it at one input. -/
def valueKeepsWrong : ChangeSpec := { name := "valueKeeps", fn := fun _ => fun
  | [d1, d2, d3] => { results := [.lit (.bool false)], args := [d1, d2, d3] }
  | _ => none }
def ValueKeepsWrongFalsely : Prop := valueKeepsRow.holds Tryd.pinned (OpenSpec.ofChange valueKeepsWrong)

/-- 'manifoldlaw04.ValueRecords': WHATEVER THE INPUT: true; the input reads as it did. -/
def valueRecordsSpec : ChangeSpec := { name := "valueRecords", fn := fun _ => fun
  | [d] => { results := [.lit (.bool true)], args := [d] }
  | _ => none }
def valueRecordsRow : OpenClaim := { program := "ytfphnecphebijaadoor", sum := "af6784bef211453368217a69b1c51f8456fb93308c513cfd4ffdc6d8b15b6811", func := "manifold/manifoldlaw04.ValueRecords", spec := "valueRecords", inPlace := ["internal/bytealg.abigen_runtime_cmpstring", "slices.overlaps[manifold/api.Field]"], unfollowed := true, recurses := true, named := ["unicode/utf8.first", "unicode/utf8.acceptRanges"], loops := true, apart := false, laid := [("unicode/utf8.acceptRanges", laid_unicode_utf8_acceptRanges), ("unicode/utf8.first", laid_unicode_utf8_first)] }
def ValueRecordsSaid : Prop := valueRecordsRow.holds Tryd.pinned (OpenSpec.ofChange valueRecordsSpec)

/-- ITS FALSE NEIGHBOUR: 'it returns false'. Refute it at one input. -/
def valueRecordsWrong : ChangeSpec := { name := "valueRecords", fn := fun _ => fun
  | [d] => { results := [.lit (.bool false)], args := [d] }
  | _ => none }
def ValueRecordsWrongFalsely : Prop := valueRecordsRow.holds Tryd.pinned (OpenSpec.ofChange valueRecordsWrong)

/-- 'manifoldlaw04.ValueOrders': WHATEVER THE INPUT: true; the input reads as it did. -/
def valueOrdersSpec : ChangeSpec := { name := "valueOrders", fn := fun _ => fun
  | [d1, d2, d3] => { results := [.lit (.bool true)], args := [d1, d2, d3] }
  | _ => none }
def valueOrdersRow : OpenClaim := { program := "ytfphnecphebijaadoor", sum := "af6784bef211453368217a69b1c51f8456fb93308c513cfd4ffdc6d8b15b6811", func := "manifold/manifoldlaw04.ValueOrders", spec := "valueOrders", inPlace := ["internal/bytealg.abigen_runtime_cmpstring", "slices.overlaps[manifold/api.Field]"], unfollowed := true, recurses := true, named := ["unicode/utf8.first", "unicode/utf8.acceptRanges"], loops := true, apart := false, laid := [("unicode/utf8.acceptRanges", laid_unicode_utf8_acceptRanges), ("unicode/utf8.first", laid_unicode_utf8_first)] }
def ValueOrdersSaid : Prop := valueOrdersRow.holds Tryd.pinned (OpenSpec.ofChange valueOrdersSpec)

/-- ITS FALSE NEIGHBOUR: 'it returns false'. Refute it at one input. -/
def valueOrdersWrong : ChangeSpec := { name := "valueOrders", fn := fun _ => fun
  | [d1, d2, d3] => { results := [.lit (.bool false)], args := [d1, d2, d3] }
  | _ => none }
def ValueOrdersWrongFalsely : Prop := valueOrdersRow.holds Tryd.pinned (OpenSpec.ofChange valueOrdersWrong)

/-- 'manifoldlaw04.ValueClones': WHATEVER THE INPUT: true; the input reads as it did. -/
def valueClonesSpec : ChangeSpec := { name := "valueClones", fn := fun _ => fun
  | [d] => { results := [.lit (.bool true)], args := [d] }
  | _ => none }
def valueClonesRow : OpenClaim := { program := "ytfphnecphebijaadoor", sum := "af6784bef211453368217a69b1c51f8456fb93308c513cfd4ffdc6d8b15b6811", func := "manifold/manifoldlaw04.ValueClones", spec := "valueClones", inPlace := ["internal/bytealg.abigen_runtime_cmpstring", "slices.overlaps[manifold/api.Field]"], unfollowed := true, recurses := true, named := ["unicode/utf8.first", "unicode/utf8.acceptRanges"], loops := true, apart := false, laid := [("unicode/utf8.acceptRanges", laid_unicode_utf8_acceptRanges), ("unicode/utf8.first", laid_unicode_utf8_first)] }
def ValueClonesSaid : Prop := valueClonesRow.holds Tryd.pinned (OpenSpec.ofChange valueClonesSpec)

/-- ITS FALSE NEIGHBOUR: 'it returns false'. Refute it at one input. -/
def valueClonesWrong : ChangeSpec := { name := "valueClones", fn := fun _ => fun
  | [d] => { results := [.lit (.bool false)], args := [d] }
  | _ => none }
def ValueClonesWrongFalsely : Prop := valueClonesRow.holds Tryd.pinned (OpenSpec.ofChange valueClonesWrong)

/-- 'manifoldlaw04.ValueSizes': WHATEVER THE INPUT: true; the input reads as it did. -/
def valueSizesSpec : ChangeSpec := { name := "valueSizes", fn := fun _ => fun
  | [d] => { results := [.lit (.bool true)], args := [d] }
  | _ => none }
def valueSizesRow : OpenClaim := { program := "ytfphnecphebijaadoor", sum := "af6784bef211453368217a69b1c51f8456fb93308c513cfd4ffdc6d8b15b6811", func := "manifold/manifoldlaw04.ValueSizes", spec := "valueSizes", inPlace := ["internal/bytealg.abigen_runtime_cmpstring", "slices.overlaps[manifold/api.Field]"], unfollowed := true, recurses := true, named := ["unicode/utf8.first", "unicode/utf8.acceptRanges"], loops := true, apart := false, laid := [("unicode/utf8.acceptRanges", laid_unicode_utf8_acceptRanges), ("unicode/utf8.first", laid_unicode_utf8_first)] }
def ValueSizesSaid : Prop := valueSizesRow.holds Tryd.pinned (OpenSpec.ofChange valueSizesSpec)

/-- ITS FALSE NEIGHBOUR: 'it returns false'. Refute it at one input. -/
def valueSizesWrong : ChangeSpec := { name := "valueSizes", fn := fun _ => fun
  | [d] => { results := [.lit (.bool false)], args := [d] }
  | _ => none }
def ValueSizesWrongFalsely : Prop := valueSizesRow.holds Tryd.pinned (OpenSpec.ofChange valueSizesWrong)

/-- 'manifoldlaw04.ValueLimits': WHATEVER THE INPUT: true; the input reads as it did. -/
def valueLimitsSpec : ChangeSpec := { name := "valueLimits", fn := fun _ => fun
  | [d1, d2, d3] => { results := [.lit (.bool true)], args := [d1, d2, d3] }
  | _ => none }
def valueLimitsRow : OpenClaim := { program := "ytfphnecphebijaadoor", sum := "af6784bef211453368217a69b1c51f8456fb93308c513cfd4ffdc6d8b15b6811", func := "manifold/manifoldlaw04.ValueLimits", spec := "valueLimits", inPlace := ["internal/bytealg.abigen_runtime_cmpstring", "slices.overlaps[manifold/api.Field]"], unfollowed := true, recurses := true, named := ["unicode/utf8.first", "unicode/utf8.acceptRanges"], apart := false, laid := [("unicode/utf8.acceptRanges", laid_unicode_utf8_acceptRanges), ("unicode/utf8.first", laid_unicode_utf8_first)] }
def ValueLimitsSaid : Prop := valueLimitsRow.holds Tryd.pinned (OpenSpec.ofChange valueLimitsSpec)

/-- ITS FALSE NEIGHBOUR: 'it returns false'. Refute it at one input. -/
def valueLimitsWrong : ChangeSpec := { name := "valueLimits", fn := fun _ => fun
  | [d1, d2, d3] => { results := [.lit (.bool false)], args := [d1, d2, d3] }
  | _ => none }
def ValueLimitsWrongFalsely : Prop := valueLimitsRow.holds Tryd.pinned (OpenSpec.ofChange valueLimitsWrong)

/-- 'manifoldlaw04.ValueMakes': WHATEVER THE INPUT: true; the input reads as it did. -/
def valueMakesSpec : ChangeSpec := { name := "valueMakes", fn := fun _ => fun
  | [d1, d2, d3] => { results := [.lit (.bool true)], args := [d1, d2, d3] }
  | _ => none }
def valueMakesRow : OpenClaim := { program := "ytfphnecphebijaadoor", sum := "af6784bef211453368217a69b1c51f8456fb93308c513cfd4ffdc6d8b15b6811", func := "manifold/manifoldlaw04.ValueMakes", spec := "valueMakes", inPlace := ["internal/bytealg.abigen_runtime_cmpstring", "slices.overlaps[manifold/api.Field]"], unfollowed := true, recurses := true, named := ["unicode/utf8.first", "unicode/utf8.acceptRanges"], loops := true, apart := false, laid := [("unicode/utf8.acceptRanges", laid_unicode_utf8_acceptRanges), ("unicode/utf8.first", laid_unicode_utf8_first)] }
def ValueMakesSaid : Prop := valueMakesRow.holds Tryd.pinned (OpenSpec.ofChange valueMakesSpec)

/-- ITS FALSE NEIGHBOUR: 'it returns false'. Refute it at one input. -/
def valueMakesWrong : ChangeSpec := { name := "valueMakes", fn := fun _ => fun
  | [d1, d2, d3] => { results := [.lit (.bool false)], args := [d1, d2, d3] }
  | _ => none }
def ValueMakesWrongFalsely : Prop := valueMakesRow.holds Tryd.pinned (OpenSpec.ofChange valueMakesWrong)

/-- 'manifoldlaw04.ValueFields': WHATEVER THE INPUT: true; the input reads as it did. -/
def valueFieldsSpec : ChangeSpec := { name := "valueFields", fn := fun _ => fun
  | [d1, d2] => { results := [.lit (.bool true)], args := [d1, d2] }
  | _ => none }
def valueFieldsRow : OpenClaim := { program := "ytfphnecphebijaadoor", sum := "af6784bef211453368217a69b1c51f8456fb93308c513cfd4ffdc6d8b15b6811", func := "manifold/manifoldlaw04.ValueFields", spec := "valueFields", inPlace := ["internal/bytealg.abigen_runtime_cmpstring", "slices.overlaps[manifold/api.Field]"], unfollowed := true, recurses := true, named := ["unicode/utf8.first", "unicode/utf8.acceptRanges"], loops := true, apart := false, laid := [("unicode/utf8.acceptRanges", laid_unicode_utf8_acceptRanges), ("unicode/utf8.first", laid_unicode_utf8_first)] }
def ValueFieldsSaid : Prop := valueFieldsRow.holds Tryd.pinned (OpenSpec.ofChange valueFieldsSpec)

/-- ITS FALSE NEIGHBOUR: 'it returns false'. Refute it at one input. -/
def valueFieldsWrong : ChangeSpec := { name := "valueFields", fn := fun _ => fun
  | [d1, d2] => { results := [.lit (.bool false)], args := [d1, d2] }
  | _ => none }
def ValueFieldsWrongFalsely : Prop := valueFieldsRow.holds Tryd.pinned (OpenSpec.ofChange valueFieldsWrong)

/-- 'manifoldlaw04.ValueSets': WHATEVER THE INPUT: true; the input reads as it did. -/
def valueSetsSpec : ChangeSpec := { name := "valueSets", fn := fun _ => fun
  | [d1, d2, d3] => { results := [.lit (.bool true)], args := [d1, d2, d3] }
  | _ => none }
def valueSetsRow : OpenClaim := { program := "ytfphnecphebijaadoor", sum := "af6784bef211453368217a69b1c51f8456fb93308c513cfd4ffdc6d8b15b6811", func := "manifold/manifoldlaw04.ValueSets", spec := "valueSets", inPlace := ["slices.overlaps[manifold/api.Field]", "internal/bytealg.abigen_runtime_cmpstring"], unfollowed := true, recurses := true, named := ["unicode/utf8.first", "unicode/utf8.acceptRanges"], loops := true, apart := false, laid := [("unicode/utf8.acceptRanges", laid_unicode_utf8_acceptRanges), ("unicode/utf8.first", laid_unicode_utf8_first)] }
def ValueSetsSaid : Prop := valueSetsRow.holds Tryd.pinned (OpenSpec.ofChange valueSetsSpec)

/-- ITS FALSE NEIGHBOUR: 'it returns false'. Refute it at one input. -/
def valueSetsWrong : ChangeSpec := { name := "valueSets", fn := fun _ => fun
  | [d1, d2, d3] => { results := [.lit (.bool false)], args := [d1, d2, d3] }
  | _ => none }
def ValueSetsWrongFalsely : Prop := valueSetsRow.holds Tryd.pinned (OpenSpec.ofChange valueSetsWrong)

/- THE SECOND FORM. 'bulk': how many values and letters a reading holds, each counted each time it is reached (what is shared counts as often as it is met; a slice's spare places count too). A statement '..UptoSaid' is the law's where the arguments, and the package variables that the reading takes, are together of bulk at most 1048576: NARROWER than '..Said'. Prove '..Said' where nothing that the law and all that it calls make is longer than what came in: it says more and counts as full. Else prove '..UptoSaid'. A law counts once. -/
mutual
def uptoBulk {H : Type} : DataW H → Nat
  | .lit (.string bytes) => bytes.length + 1
  | .lit _ => 1
  | .nil => 1
  | .ptr d => uptoBulk d + 1
  | .slice elems spare => uptoBulkAll elems + uptoBulkAll spare + 1
  | .agg parts => uptoBulkAll parts + 1
  | .iface _ d => uptoBulk d + 1
  | .map entries => uptoBulkEntries entries + 1
  | .held _ => 1
def uptoBulkAll {H : Type} : List (DataW H) → Nat
  | [] => 0
  | d :: r => uptoBulk d + uptoBulkAll r
def uptoBulkEntries {H : Type} : List (Lit × DataW H) → Nat
  | [] => 0
  | x :: r => uptoBulkEntry x + uptoBulkEntries r
def uptoBulkEntry {H : Type} : Lit × DataW H → Nat
  | (.string bytes, d) => bytes.length + uptoBulk d + 1
  | (_, d) => uptoBulk d + 1
 end
def uptoSmall : (H : Type) → List (DataW H) → Bool := fun _ ds => decide (uptoBulkAll ds ≤ 1048576)
def OpenSpec.upto (s : _root_.Go.ChangeSpec) : _root_.Go.OpenSpec := { _root_.Go.OpenSpec.ofChange s with cond := some uptoSmall }

/-- 'manifoldlaw04.ValueChecks', WHERE WHAT IT READS IS OF BULK AT MOST 1048576: true; the input reads as it did. -/
def valueChecksUptoRow : OpenClaim := { program := "ytfphnecphebijaadoor", sum := "af6784bef211453368217a69b1c51f8456fb93308c513cfd4ffdc6d8b15b6811", func := "manifold/manifoldlaw04.ValueChecks", spec := "valueChecks", inPlace := ["internal/bytealg.abigen_runtime_cmpstring", "slices.overlaps[manifold/api.Field]"], unfollowed := true, recurses := true, named := ["unicode/utf8.first", "unicode/utf8.acceptRanges"], loops := true, apart := false, laid := [("unicode/utf8.acceptRanges", laid_unicode_utf8_acceptRanges), ("unicode/utf8.first", laid_unicode_utf8_first)], narrowed := true }
def ValueChecksUptoSaid : Prop := valueChecksUptoRow.holds Tryd.pinned (OpenSpec.upto valueChecksSpec)

/-- 'manifoldlaw04.ValueNames', WHERE WHAT IT READS IS OF BULK AT MOST 1048576: true; the input reads as it did. -/
def valueNamesUptoRow : OpenClaim := { program := "ytfphnecphebijaadoor", sum := "af6784bef211453368217a69b1c51f8456fb93308c513cfd4ffdc6d8b15b6811", func := "manifold/manifoldlaw04.ValueNames", spec := "valueNames", inPlace := ["internal/bytealg.abigen_runtime_cmpstring", "slices.overlaps[manifold/api.Field]"], unfollowed := true, recurses := true, named := ["unicode/utf8.first", "unicode/utf8.acceptRanges"], apart := false, laid := [("unicode/utf8.acceptRanges", laid_unicode_utf8_acceptRanges), ("unicode/utf8.first", laid_unicode_utf8_first)], narrowed := true }
def ValueNamesUptoSaid : Prop := valueNamesUptoRow.holds Tryd.pinned (OpenSpec.upto valueNamesSpec)

/-- 'manifoldlaw04.ValueKeeps', WHERE WHAT IT READS IS OF BULK AT MOST 1048576: true; the input reads as it did. -/
def valueKeepsUptoRow : OpenClaim := { program := "ytfphnecphebijaadoor", sum := "af6784bef211453368217a69b1c51f8456fb93308c513cfd4ffdc6d8b15b6811", func := "manifold/manifoldlaw04.ValueKeeps", spec := "valueKeeps", inPlace := ["slices.overlaps[manifold/api.Field]", "internal/bytealg.abigen_runtime_cmpstring"], unfollowed := true, recurses := true, named := ["unicode/utf8.first", "unicode/utf8.acceptRanges"], loops := true, apart := false, laid := [("unicode/utf8.acceptRanges", laid_unicode_utf8_acceptRanges), ("unicode/utf8.first", laid_unicode_utf8_first)], narrowed := true }
def ValueKeepsUptoSaid : Prop := valueKeepsUptoRow.holds Tryd.pinned (OpenSpec.upto valueKeepsSpec)

/-- 'manifoldlaw04.ValueRecords', WHERE WHAT IT READS IS OF BULK AT MOST 1048576: true; the input reads as it did. -/
def valueRecordsUptoRow : OpenClaim := { program := "ytfphnecphebijaadoor", sum := "af6784bef211453368217a69b1c51f8456fb93308c513cfd4ffdc6d8b15b6811", func := "manifold/manifoldlaw04.ValueRecords", spec := "valueRecords", inPlace := ["internal/bytealg.abigen_runtime_cmpstring", "slices.overlaps[manifold/api.Field]"], unfollowed := true, recurses := true, named := ["unicode/utf8.first", "unicode/utf8.acceptRanges"], loops := true, apart := false, laid := [("unicode/utf8.acceptRanges", laid_unicode_utf8_acceptRanges), ("unicode/utf8.first", laid_unicode_utf8_first)], narrowed := true }
def ValueRecordsUptoSaid : Prop := valueRecordsUptoRow.holds Tryd.pinned (OpenSpec.upto valueRecordsSpec)

/-- 'manifoldlaw04.ValueOrders', WHERE WHAT IT READS IS OF BULK AT MOST 1048576: true; the input reads as it did. -/
def valueOrdersUptoRow : OpenClaim := { program := "ytfphnecphebijaadoor", sum := "af6784bef211453368217a69b1c51f8456fb93308c513cfd4ffdc6d8b15b6811", func := "manifold/manifoldlaw04.ValueOrders", spec := "valueOrders", inPlace := ["internal/bytealg.abigen_runtime_cmpstring", "slices.overlaps[manifold/api.Field]"], unfollowed := true, recurses := true, named := ["unicode/utf8.first", "unicode/utf8.acceptRanges"], loops := true, apart := false, laid := [("unicode/utf8.acceptRanges", laid_unicode_utf8_acceptRanges), ("unicode/utf8.first", laid_unicode_utf8_first)], narrowed := true }
def ValueOrdersUptoSaid : Prop := valueOrdersUptoRow.holds Tryd.pinned (OpenSpec.upto valueOrdersSpec)

/-- 'manifoldlaw04.ValueClones', WHERE WHAT IT READS IS OF BULK AT MOST 1048576: true; the input reads as it did. -/
def valueClonesUptoRow : OpenClaim := { program := "ytfphnecphebijaadoor", sum := "af6784bef211453368217a69b1c51f8456fb93308c513cfd4ffdc6d8b15b6811", func := "manifold/manifoldlaw04.ValueClones", spec := "valueClones", inPlace := ["internal/bytealg.abigen_runtime_cmpstring", "slices.overlaps[manifold/api.Field]"], unfollowed := true, recurses := true, named := ["unicode/utf8.first", "unicode/utf8.acceptRanges"], loops := true, apart := false, laid := [("unicode/utf8.acceptRanges", laid_unicode_utf8_acceptRanges), ("unicode/utf8.first", laid_unicode_utf8_first)], narrowed := true }
def ValueClonesUptoSaid : Prop := valueClonesUptoRow.holds Tryd.pinned (OpenSpec.upto valueClonesSpec)

/-- 'manifoldlaw04.ValueSizes', WHERE WHAT IT READS IS OF BULK AT MOST 1048576: true; the input reads as it did. -/
def valueSizesUptoRow : OpenClaim := { program := "ytfphnecphebijaadoor", sum := "af6784bef211453368217a69b1c51f8456fb93308c513cfd4ffdc6d8b15b6811", func := "manifold/manifoldlaw04.ValueSizes", spec := "valueSizes", inPlace := ["internal/bytealg.abigen_runtime_cmpstring", "slices.overlaps[manifold/api.Field]"], unfollowed := true, recurses := true, named := ["unicode/utf8.first", "unicode/utf8.acceptRanges"], loops := true, apart := false, laid := [("unicode/utf8.acceptRanges", laid_unicode_utf8_acceptRanges), ("unicode/utf8.first", laid_unicode_utf8_first)], narrowed := true }
def ValueSizesUptoSaid : Prop := valueSizesUptoRow.holds Tryd.pinned (OpenSpec.upto valueSizesSpec)

/-- 'manifoldlaw04.ValueLimits', WHERE WHAT IT READS IS OF BULK AT MOST 1048576: true; the input reads as it did. -/
def valueLimitsUptoRow : OpenClaim := { program := "ytfphnecphebijaadoor", sum := "af6784bef211453368217a69b1c51f8456fb93308c513cfd4ffdc6d8b15b6811", func := "manifold/manifoldlaw04.ValueLimits", spec := "valueLimits", inPlace := ["internal/bytealg.abigen_runtime_cmpstring", "slices.overlaps[manifold/api.Field]"], unfollowed := true, recurses := true, named := ["unicode/utf8.first", "unicode/utf8.acceptRanges"], apart := false, laid := [("unicode/utf8.acceptRanges", laid_unicode_utf8_acceptRanges), ("unicode/utf8.first", laid_unicode_utf8_first)], narrowed := true }
def ValueLimitsUptoSaid : Prop := valueLimitsUptoRow.holds Tryd.pinned (OpenSpec.upto valueLimitsSpec)

/-- 'manifoldlaw04.ValueMakes', WHERE WHAT IT READS IS OF BULK AT MOST 1048576: true; the input reads as it did. -/
def valueMakesUptoRow : OpenClaim := { program := "ytfphnecphebijaadoor", sum := "af6784bef211453368217a69b1c51f8456fb93308c513cfd4ffdc6d8b15b6811", func := "manifold/manifoldlaw04.ValueMakes", spec := "valueMakes", inPlace := ["internal/bytealg.abigen_runtime_cmpstring", "slices.overlaps[manifold/api.Field]"], unfollowed := true, recurses := true, named := ["unicode/utf8.first", "unicode/utf8.acceptRanges"], loops := true, apart := false, laid := [("unicode/utf8.acceptRanges", laid_unicode_utf8_acceptRanges), ("unicode/utf8.first", laid_unicode_utf8_first)], narrowed := true }
def ValueMakesUptoSaid : Prop := valueMakesUptoRow.holds Tryd.pinned (OpenSpec.upto valueMakesSpec)

/-- 'manifoldlaw04.ValueFields', WHERE WHAT IT READS IS OF BULK AT MOST 1048576: true; the input reads as it did. -/
def valueFieldsUptoRow : OpenClaim := { program := "ytfphnecphebijaadoor", sum := "af6784bef211453368217a69b1c51f8456fb93308c513cfd4ffdc6d8b15b6811", func := "manifold/manifoldlaw04.ValueFields", spec := "valueFields", inPlace := ["internal/bytealg.abigen_runtime_cmpstring", "slices.overlaps[manifold/api.Field]"], unfollowed := true, recurses := true, named := ["unicode/utf8.first", "unicode/utf8.acceptRanges"], loops := true, apart := false, laid := [("unicode/utf8.acceptRanges", laid_unicode_utf8_acceptRanges), ("unicode/utf8.first", laid_unicode_utf8_first)], narrowed := true }
def ValueFieldsUptoSaid : Prop := valueFieldsUptoRow.holds Tryd.pinned (OpenSpec.upto valueFieldsSpec)

/-- 'manifoldlaw04.ValueSets', WHERE WHAT IT READS IS OF BULK AT MOST 1048576: true; the input reads as it did. -/
def valueSetsUptoRow : OpenClaim := { program := "ytfphnecphebijaadoor", sum := "af6784bef211453368217a69b1c51f8456fb93308c513cfd4ffdc6d8b15b6811", func := "manifold/manifoldlaw04.ValueSets", spec := "valueSets", inPlace := ["slices.overlaps[manifold/api.Field]", "internal/bytealg.abigen_runtime_cmpstring"], unfollowed := true, recurses := true, named := ["unicode/utf8.first", "unicode/utf8.acceptRanges"], loops := true, apart := false, laid := [("unicode/utf8.acceptRanges", laid_unicode_utf8_acceptRanges), ("unicode/utf8.first", laid_unicode_utf8_first)], narrowed := true }
def ValueSetsUptoSaid : Prop := valueSetsUptoRow.holds Tryd.pinned (OpenSpec.upto valueSetsSpec)

end Rows
end Go.Proofs.YtfphnecphebijaaDoor
