/- Chapter 10: what is read from bytes is read from longer ones. -/
import Derived.Test.YtlplmdipoacnlaaGreatDoorDecP
import Derived.Test.YtlplmdipoacnlaaGreatDoorFnE
import Derived.Test.YtlplmdipoacnlaaGreatDoorEncC
import Derived.Test.YtlplmdipoacnlaaGreatDoorTot
set_option linter.all false
namespace Go.Ai
open Go Go.Proofs
set_option maxRecDepth 100000
set_option maxHeartbeats 2000000
structure Rd.Ext (r q:Rd):Prop where
  g1:r.good
  g2:q.good
  e1:r.e=0
  e2:q.e=0
  pos:q.pos=r.pos
  room:∃ t,q.room=r.room++t
def Gro {α:Type} (F:Rd→α×Rd):Prop:=∀ r q:Rd,r.Ext q→(F r).2.e=0→∃ p:Int,F r=((F r).1,r.to p)∧F q=((F r).1,q.to p)∧(r.to p).Ext (q.to p)
def GroS {α:Type} (F:Rd→α×Rd):Prop:=∀ r q:Rd,r.Ext q→q.fin=r.fin→(F r).2.e=0→∃ p:Int,F r=((F r).1,r.to p)∧F q=((F r).1,q.to p)∧(r.to p).Ext (q.to p)
theorem Gro.s {α:Type} {F:Rd→α×Rd} (h:Gro F):GroS F:=fun r q h1 _ h2=>h r q h1 h2
theorem room_to {r:Rd} (h:r.good) {k:Nat} (hk:k≤r.room.length):(r.to (r.pos+k)).good∧(r.to (r.pos+k)).room=r.room.drop k:=by
  have h1:=adv_room h (l:=r.room.take k) (rest:=r.room.drop k) (List.take_append_drop k _).symm
  unfold Rd.adv at h1
  rw [List.length_take,Nat.min_eq_left hk] at h1
  exact h1
theorem Rd.Ext.step {r q:Rd} (h:r.Ext q) {k:Nat} (hk:k≤r.room.length):(r.to (r.pos+k)).Ext (q.to (r.pos+k)):=by
  obtain ⟨t,ht⟩:=h.room
  obtain ⟨a1,a2⟩:=room_to h.g1 hk
  have hk2:k≤q.room.length:=by rw [ht,List.length_append];omega
  obtain ⟨b1,b2⟩:=room_to h.g2 hk2
  rw [h.pos] at b1 b2
  refine ⟨a1,b1,h.e1,h.e2,rfl,t,?_⟩
  rw [b2,a2,ht,List.drop_append_of_le_length hk]
end Go.Ai

namespace Go.Ai
open Go Go.Proofs
set_option maxRecDepth 100000
set_option maxHeartbeats 4000000
def heavyF (e:Nat) (f:Ty→Bool) (x:TF):Bool:=f (fT x) || (decide (0<(fDef x).length) && decide (20<sV e ((fDef x).getD 0 default)))
def heavyT (e:Nat):Nat→Ty→Bool
  | 0,_=>false
  | d+1,t=>t.elem.any (heavyT e d) || t.fields.any (heavyF e (heavyT e d))
end Go.Ai
