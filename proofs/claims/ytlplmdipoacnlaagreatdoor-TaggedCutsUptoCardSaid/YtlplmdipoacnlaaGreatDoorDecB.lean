/- Chapter 10: Parts, Join. -/
import Derived.Test.YtlplmdipoacnlaaGreatDoorDecA
import Derived.Test.YtlplmdipoacnlaaGreatDoorWrA
import Derived.Test.YtlplmdipoacnlaaGreatDoorEncC
set_option linter.all false
namespace Go.Ai
open Go Go.Proofs
set_option maxRecDepth 100000
set_option maxHeartbeats 4000000
end Go.Ai

namespace Go.Ai
open Go Go.Proofs
set_option maxRecDepth 100000
set_option maxHeartbeats 4000000
end Go.Ai

namespace Go.Ai
open Go Go.Proofs
set_option maxRecDepth 100000
set_option maxHeartbeats 2000000
def sgm (s:ByteArray) (a b:Nat):List Nat:=((strN s).take b).drop a
theorem strN_ext (s:ByteArray) {a b:Nat}:strN (s.extract a b)=sgm s a b:=by
  unfold sgm strN
  rw [ByteArray.data_extract,Array.toList_extract,← List.map_take,← List.map_drop]
  congr 1
  rw [List.extract_eq_drop_take,List.drop_take]
end Go.Ai
