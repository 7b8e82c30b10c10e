/- The tables of utf8, from what a row lists. -/
import Derived.Lib.LaidU8T
import Derived.Test.YtalghhdapjmbbaaGreatDoorVal
import Derived.Test.YtalghhdapjmbbaaGreatDoorEngA
import Derived.Test.YtalghhdapjmbbaaGreatDoorRows
set_option linter.all false
namespace Go.Ai
open Go Go.Proofs Go.Shelf Go.Proofs.YtalghhdapjmbbaaGreatDoor
set_option maxRecDepth 100000
theorem tabs_of {W:World} (hL:laidMetH Tryz.prog Rows.subtypeOrdersUptoRow.laid W):Lib.Utf8Tabs Go.Ai.tabA Go.Ai.tabB W:=by
  have hL':laidMet Tryz.prog Rows.subtypeOrdersUptoRow.laid W:=hL
  exact utf8Tabs_of_readsT (U8Types.of196 Tryz.lays196) ⟨by kernel_rfl,by kernel_rfl,by kernel_rfl,by kernel_rfl,by kernel_rfl,by kernel_rfl,by kernel_rfl⟩ (Lib.laidMet.reads hL' (.tail _ (.head _))) (Lib.laidMet.reads hL' (.head _))
end Go.Ai
