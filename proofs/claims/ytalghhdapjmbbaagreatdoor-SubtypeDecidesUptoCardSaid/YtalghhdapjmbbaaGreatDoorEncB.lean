/- Chapter 6: the reference's record. -/
import Derived.Test.YtalghhdapjmbbaaGreatDoorEncA
set_option linter.all false
namespace Go.Ai
open Go Go.Proofs
set_option maxRecDepth 100000
set_option maxHeartbeats 4000000
end Go.Ai
