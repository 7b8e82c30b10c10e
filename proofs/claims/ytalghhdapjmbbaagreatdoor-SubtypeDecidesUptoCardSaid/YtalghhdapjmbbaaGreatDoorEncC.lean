/- Chapter 6: the reference's visit and sizes come to what the program's come to. -/
import Derived.Test.YtalghhdapjmbbaaGreatDoorTyF
import Derived.Test.YtalghhdapjmbbaaGreatDoorEncB
set_option linter.all false
namespace Go.Ai
open Go Go.Proofs
set_option maxRecDepth 100000
set_option maxHeartbeats 4000000
def Ty.sz (e:Nat):Nat→Ty→Prop
  | 0,_=>True
  | d+1,t=>(∀ x ∈ t.elem,Ty.sz e d x)∧∀ f ∈ t.fields,(∀ v ∈ fDef f,sV e v≤1073741824)∧Ty.sz e d (fT f)
def SameR (a b:Int×Int):Prop:=a.1=b.1∧(b.1=0→a.2=b.2)
theorem SameR.of_eq {a b:Int×Int} (h:a=b):SameR a b:=by subst h;exact ⟨rfl,fun _=>rfl⟩
end Go.Ai
