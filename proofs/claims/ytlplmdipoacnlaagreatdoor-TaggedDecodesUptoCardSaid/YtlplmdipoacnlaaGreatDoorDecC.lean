/- Chapter 10: Parts undoes Join. -/
import Derived.Test.YtlplmdipoacnlaaGreatDoorDecB
set_option linter.all false
namespace Go.Ai
open Go Go.Proofs
set_option maxRecDepth 100000
set_option maxHeartbeats 2000000
end Go.Ai
