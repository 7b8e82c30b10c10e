/- Chapter 10: the fields in the order of their numbers, found one after another. -/
import Derived.Test.YtlplmdipoacnlaaGreatDoorWrA
import Derived.Test.YtlplmdipoacnlaaGreatDoorEncA
import Derived.Test.YtlplmdipoacnlaaGreatDoorWrB
set_option linter.all false
namespace Go.Ai
open Go Go.Proofs Go.Lib
set_option maxRecDepth 100000
set_option maxHeartbeats 4000000
end Go.Ai

namespace Go.Ai
open Go Go.Proofs
set_option maxRecDepth 100000
set_option maxHeartbeats 4000000
end Go.Ai
