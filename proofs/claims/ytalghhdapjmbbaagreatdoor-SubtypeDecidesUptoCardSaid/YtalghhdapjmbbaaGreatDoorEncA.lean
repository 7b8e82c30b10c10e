/- Chapter 6: the reference's rules of a type: unused, limits, bounds. -/
import Derived.Test.YtalghhdapjmbbaaGreatDoorTyC
import Derived.Test.YtalghhdapjmbbaaGreatDoorTyE
import Derived.Test.YtalghhdapjmbbaaGreatDoorTyF
set_option linter.all false
namespace Go.Ai
open Go Go.Proofs
set_option maxRecDepth 100000
set_option maxHeartbeats 4000000
end Go.Ai
