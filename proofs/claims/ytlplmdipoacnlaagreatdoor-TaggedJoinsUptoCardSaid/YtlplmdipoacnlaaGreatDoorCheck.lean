/- Chapter 4: the document's Check. -/
import Derived.Test.YtlplmdipoacnlaaGreatDoorFnG
set_option linter.all false
namespace Go.Ai
open Go Go.Proofs
set_option maxRecDepth 100000
set_option maxHeartbeats 2000000
end Go.Ai
