/- Chapter 17's model: its paths. -/
import Derived.Test.YtbagpkiomjlhkaaGreatDoorMdR
import Derived.Test.YtbagpkiomjlhkaaGreatDoorMdA
set_option linter.all false
namespace Go.Ai
open Go Go.Proofs
set_option maxRecDepth 100000
set_option maxHeartbeats 4000000
def Mr.lN{r:Mr}{t:ByteArray}(h:r.aH t=true):r.peek.kind≠0∧r.peek.text=t:=by
 unfold Mr.aH at h;simp only[az,eU,cX]at h;exact⟨zo,h.2⟩
def Mr.J5{r:Mr}(h:r.peek.kind≠0):r.next.i=r.i+1∧r.i<r.l.length:=by
 refine⟨by unfold Mr.next;rw[ae h];rfl,?_⟩;unfold Mr.peek at h;split at h
 ·exact absurd rfl h
 ·omega
end Go.Ai
