/- The order of strings. -/
import Derived.Test.YtlplmdipoacnlaaGreatDoorFnD
import Derived.Sort.LotA
set_option linter.all false
namespace Go.Ai
open Go
end Go.Ai
