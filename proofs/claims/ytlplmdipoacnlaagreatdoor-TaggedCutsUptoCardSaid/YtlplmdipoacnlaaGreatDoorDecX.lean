/- Chapter 10: what is read from bytes is read from longer ones. -/
import Derived.Test.YtlplmdipoacnlaaGreatDoorDecP
import Derived.Test.YtlplmdipoacnlaaGreatDoorFnE
import Derived.Test.YtlplmdipoacnlaaGreatDoorEncC
import Derived.Test.YtlplmdipoacnlaaGreatDoorTot
set_option linter.all false
namespace Go.Ai
open Go Go.Proofs
set_option maxRecDepth 100000
set_option maxHeartbeats 2000000
structure Rd.Ext (r q:Rd):Prop where
  g1:r.good
  g2:q.good
  e1:r.e=0
  e2:q.e=0
  pos:q.pos=r.pos
  room:∃ t,q.room=r.room++t
def Gro {α:Type} (F:Rd→α×Rd):Prop:=∀ r q:Rd,r.Ext q→(F r).2.e=0→∃ p:Int,F r=((F r).1,r.to p)∧F q=((F r).1,q.to p)∧(r.to p).Ext (q.to p)
def GroS {α:Type} (F:Rd→α×Rd):Prop:=∀ r q:Rd,r.Ext q→q.fin=r.fin→(F r).2.e=0→∃ p:Int,F r=((F r).1,r.to p)∧F q=((F r).1,q.to p)∧(r.to p).Ext (q.to p)
theorem Gro.s {α:Type} {F:Rd→α×Rd} (h:Gro F):GroS F:=fun r q h1 _ h2=>h r q h1 h2
theorem to_self (r:Rd):r.to r.pos=r:=rfl
theorem room_to {r:Rd} (h:r.good) {k:Nat} (hk:k≤r.room.length):(r.to (r.pos+k)).good∧(r.to (r.pos+k)).room=r.room.drop k:=by
  have h1:=adv_room h (l:=r.room.take k) (rest:=r.room.drop k) (List.take_append_drop k _).symm
  unfold Rd.adv at h1
  rw [List.length_take,Nat.min_eq_left hk] at h1
  exact h1
theorem Rd.Ext.step {r q:Rd} (h:r.Ext q) {k:Nat} (hk:k≤r.room.length):(r.to (r.pos+k)).Ext (q.to (r.pos+k)):=by
  obtain ⟨t,ht⟩:=h.room
  obtain ⟨a1,a2⟩:=room_to h.g1 hk
  have hk2:k≤q.room.length:=by rw [ht,List.length_append];omega
  obtain ⟨b1,b2⟩:=room_to h.g2 hk2
  rw [h.pos] at b1 b2
  refine ⟨a1,b1,h.e1,h.e2,rfl,t,?_⟩
  rw [b2,a2,ht,List.drop_append_of_le_length hk]
theorem take_app:∀ (l t:List Nat) (i acc n k:Nat),takeN l i acc=.ok (n,k)→takeN (l++t) i acc=.ok (n,k)
  | [],t,i,acc,n,k,h=>by
    rw [takeN] at h
    split at h<;>cases h
  | b :: r,t,i,acc,n,k,h=>by
    rw [List.cons_append,takeN]
    rw [takeN] at h
    split at h
    · cases h
    · rename_i q
      rw [if_neg q]
      split at h
      · rename_i q2
        rw [if_pos q2]
        exact take_app r t _ _ _ _ h
      · rename_i q2
        rw [if_neg q2]
        exact h
theorem gro_num:Gro numR:=fun r q h he=>by
  obtain ⟨t,ht⟩:=h.room
  cases hk:takeN r.room 0 0 with
  | ok p =>
    obtain ⟨n,k⟩:=p
    obtain ⟨q1,q2,q3⟩:=take_len (room_byte r) hk
    have h1:=numR_get h.e1 hk
    have h2:=numR_get h.e2 (r:=q) (by rw [ht];exact take_app _ t _ _ _ _ hk)
    rw [h.pos] at h2
    exact ⟨r.pos+k,by rw [h1],by rw [h1,h2],h.step q3⟩
  | error k =>
    exfalso
    have:numR r=(0,if k=1 then r.fail r.fin 29 else r.fail r.pos 3):=by simp [numR,h.e1,hk]
    rw [this] at he
    simp only at he
    split at he
    · exact (aft_fail h.g1 r.fin (e:=29) (by decide)).2 he
    · exact (aft_fail h.g1 r.pos (e:=3) (by decide)).2 he
theorem bytes_take {r:Rd} (h:r.good) {n:Int} (hn:0≤n) (hm:n≤r.fin - r.pos):r.s.extract r.pos.toNat (r.pos+n).toNat=baL (r.room.take n.toNat):=by
  rw [← baL_strN (r.s.extract _ _),strN_ext]
  congr 1
  obtain ⟨h1,h2,h3,h4⟩:=h
  unfold sgm Rd.room
  show ((strN r.s).take _).drop _=(((strN r.s).take _).drop _).take _
  rw [List.drop_take,List.drop_take,List.take_take]
  congr 1;omega
theorem gro_bytes {n:Int} (hn:0≤n):Gro fun r=>bytesR r n:=fun r q h he=>by
  obtain ⟨t,ht⟩:=h.room
  have hl:=Rd.room_len h.g1
  have hl2:=Rd.room_len h.g2
  rw [ht,List.length_append] at hl2
  obtain ⟨k1,k2,k3,k4,k5⟩:=bytesR_good h.g1 hn
  obtain ⟨_,k6,k7⟩:=k5 he
  have hk:n.toNat≤r.room.length:=by omega
  have hq:n≤q.fin - q.pos:=by have:=h.g2.2.1;have:=h.g1.2.1;clear k5 k7 he;omega
  have hs:=h.step hk
  rw [show r.pos+(n.toNat:Int)=r.pos+n by omega] at hs
  have h1:bytesR r n=(baL (r.room.take n.toNat),r.to (r.pos+n)):=by
    unfold bytesR
    rw [if_neg (by rw [h.e1];simp),if_neg (by omega),bytes_take h.g1 hn k6]
  have h2:bytesR q n=(baL (r.room.take n.toNat),q.to (r.pos+n)):=by
    unfold bytesR
    rw [if_neg (by rw [h.e2];simp),if_neg (by omega),bytes_take h.g2 hn hq,ht,List.take_append_of_le_length hk,h.pos]
  exact ⟨r.pos+n,by show bytesR r n=((bytesR r n).1,_);rw [h1],by show bytesR q n=((bytesR r n).1,_);rw [h1];exact h2,hs⟩
theorem ext_sub2 {r q:Rd} (h:r.Ext q) (he:(sub2 r).e=0):∃ a b:Int,(numR r).2=r.to a∧sub2 r=r.to b∧(numR q).2=q.to a∧sub2 q=q.to b∧(r.to b).Ext (q.to b)∧a≤b∧(subR r).Ext (subR q)∧(subR q).fin=(subR r).fin:=by
  have hN:=(aft_num h.g1)
  have hnz:(numR r).2.e=0:=(bytesR_good hN.1.good hN.2.2.1).2.2.2.2 he |>.1
  obtain ⟨a,a1,a2,a3⟩:=gro_num r q h hnz
  have ha1:(numR r).2=r.to a:=by rw [a1]
  have ha2:(numR q).2=q.to a:=by rw [a2]
  have hn12:(numR q).1=(numR r).1:=by rw [a2]
  have hb0:=bytesR_good hN.1.good hN.2.2.1
  obtain ⟨b,b1,b2,b3⟩:=gro_bytes hN.2.2.1 (r.to a) (q.to a) a3 (by show (bytesR (r.to a) (numR r).1).2.e=0;rw [← ha1];exact he)
  have hs1:sub2 r=r.to b:=by
    unfold sub2
    rw [ha1]
    have:bytesR (r.to a) (numR r).1=_:=b1
    rw [this];rfl
  have hs2:sub2 q=q.to b:=by
    unfold sub2
    rw [ha2,hn12]
    have:bytesR (q.to a) (numR r).1=_:=b2
    rw [this];rfl
  have hab:a≤b:=by
    have h5:=hb0.2.2.2.1
    rw [show (bytesR (numR r).2 (numR r).1).2=sub2 r from rfl,hs1,ha1] at h5
    exact h5
  have hr1:subR r=⟨r.s,a,b,0,0⟩:=by unfold subR;rw [ha1,hs1];rfl
  have hr2:subR q=⟨q.s,a,b,0,0⟩:=by unfold subR;rw [ha2,hs2];rfl
  have g1:=(subR_good h.g1 he).1
  have g2:=(subR_good h.g2 (by rw [hs2];exact h.e2)).1
  refine ⟨a,b,ha1,hs1,ha2,hs2,b3,hab,⟨g1,g2,rfl,rfl,by rw [hr1,hr2],[],?_⟩,by rw [hr1,hr2]⟩
  rw [List.append_nil]
  obtain ⟨t,ht⟩:=a3.room
  have hl:=Rd.room_len a3.g1
  have hbf:b≤r.fin:=b3.g1.2.1
  have haf:0≤a:=a3.g1.1
  have h6:∀ x:Rd,0≤a→b≤x.fin→a≤b→(Rd.mk x.s a b 0 0).room=(x.to a).room.take (b - a).toNat:=fun x y1 y2 y3=>by
    show ((strN x.s).take b.toNat).drop a.toNat=(((strN x.s).take x.fin.toNat).drop a.toNat).take _
    rw [List.drop_take,List.drop_take,List.take_take]
    congr 1;omega
  rw [hr1,hr2,h6 r haf hbf hab,h6 q haf b3.g2.2.1 hab,ht,List.take_append_of_le_length]
  have:((r.to a).fin - (r.to a).pos)=r.fin - a:=rfl
  omega
theorem back_ok {r p:Rd} (h:(backR r p).e=0):p.e=0∧backR r p=r:=by
  unfold backR at h ⊢
  by_cases hp:p.e≠0
  · rw [if_pos hp] at h
    unfold Rd.fail at h
    split at h
    · exact absurd h hp
    · exact absurd h ‹_›
  · rw [if_neg hp];exact ⟨by omega,rfl⟩
theorem long_ok {p:Rd} (h:(longR p).e=0):p.e=0∧p.fin≤p.pos∧longR p=p:=by
  unfold longR at h ⊢
  by_cases hp:p.pos<p.fin
  · rw [if_pos hp] at h
    unfold Rd.fail at h
    split at h
    · cases h
    · exact absurd h ‹_›
  · rw [if_neg hp] at h ⊢;exact ⟨h,by omega,rfl⟩
theorem gro_part {α:Type} {k:α→Rd→α×Rd} {l:α} (hk:GroS (k l)):Gro (partR k l):=fun r q h he=>by
  have hs:(sub2 r).e=0:=by
    unfold partR at he
    by_cases z:(sub2 r).e≠0
    · rw [if_pos z] at he;exact absurd he z
    · omega
  obtain ⟨a,b,c1,c2,c3,c4,c5,c6,c7,c8⟩:=ext_sub2 h hs
  have hq:(sub2 q).e=0:=by rw [c4];exact h.e2
  have hr:partR k l r=((k l (subR r)).1,backR (sub2 r) (longR (k l (subR r)).2)):=by unfold partR;rw [if_neg (by omega)]
  have hqq:partR k l q=((k l (subR q)).1,backR (sub2 q) (longR (k l (subR q)).2)):=by unfold partR;rw [if_neg (by omega)]
  rw [hr] at he
  obtain ⟨d1,d2⟩:=back_ok he
  obtain ⟨f1,f2,f3⟩:=long_ok d1
  obtain ⟨p,p1,p2,p3⟩:=hk _ _ c7 c8 f1
  have hp1:(k l (subR r)).2=(subR r).to p:=by rw [p1]
  have hp2:k l (subR q)=((k l (subR r)).1,(subR q).to p):=p2
  rw [hp1] at f2
  have f2:(subR r).fin≤p:=f2
  have hl:longR ((subR q).to p)=(subR q).to p:=by
    unfold longR
    rw [if_neg]
    show ¬ (p<(subR q).fin)
    omega
  have hb:backR (sub2 q) ((subR q).to p)=sub2 q:=by
    unfold backR
    rw [if_neg]
    show ¬ (subR q).e≠0
    rw [c7.e2];simp
  refine ⟨b,by rw [hr,d2,c2],?_,c5⟩
  rw [hqq,hp2,hr]
  simp only
  rw [hl,hb,c4]
theorem ext_step {r q:Rd} (h:r.Ext q) (last:Int) (he:(stepR last r).e=0):∃ a:Int,stepR last r=r.to a∧stepR last q=q.to a∧(r.to a).Ext (q.to a)∧(numR q).1=(numR r).1∧(numR r).2.e=0∧(numR q).2.e=0:=by
  have hN:=aft_num h.g1
  by_cases c1:(numR r).1<1∨9999<(numR r).1
  · unfold stepR at he
    rw [if_pos c1] at he
    exact absurd he (aft_fail hN.1.good _ (by decide)).2
  by_cases c2:(numR r).1≤last
  · unfold stepR at he
    rw [if_neg c1,if_pos c2] at he
    exact absurd he (aft_fail hN.1.good _ (by decide)).2
  have hs:stepR last r=(numR r).2:=by unfold stepR;rw [if_neg c1,if_neg c2]
  rw [hs] at he
  obtain ⟨a,a1,a2,a3⟩:=gro_num r q h he
  have hn:(numR q).1=(numR r).1:=by rw [a2]
  have hs2:stepR last q=(numR q).2:=by unfold stepR;rw [hn,if_neg c1,if_neg c2]
  exact ⟨a,by rw [hs,a1],by rw [hs2,a2],a3,hn,he,by rw [a2];exact h.e2⟩
theorem gro_fields {γ:Type} {k:Int→γ→Rd→γ×Rd} (hk:∀ n l,GroS (k n l)) (hka:∀ n l (r:Rd),r.good→r.aft (k n l r).2):∀ (n:Nat) (last:Int) (l:γ),Gro (fieldsR k n last l)
  | 0,last,l=>fun r q h he=>⟨r.pos,rfl,by rw [← h.pos];rfl,by rw [to_self,← h.pos,to_self];exact h⟩
  | n + 1,last,l=>fun r q h he=>by
    rw [fieldsR,if_neg (by rw [h.e1];simp)] at he
    by_cases hnz:(numR r).2.e≠0
    · rw [if_pos hnz] at he;exact absurd he hnz
    rw [if_neg hnz] at he
    have hst:=aft_step last h.g1
    have hpt:=aft_part (k:=k (numR r).1) (l:=l) hst.good
    have hft:=aft_fields (k:=k) n (numR r).1 (partR (k (numR r).1) l (stepR last r)).1 _ hpt.1.good
    have hpe:=hft.e he
    have hse:=hpt.1.e hpe
    obtain ⟨a,a1,a2,a3,a4,a5,a6⟩:=ext_step h last hse
    rw [a1] at hpe he
    obtain ⟨b,b1,b2,b3⟩:=gro_part (hk (numR r).1 l) _ _ a3 hpe
    have hb:(partR (k (numR r).1) l (r.to a)).2=r.to b:=by rw [b1];rfl
    have hb2:partR (k (numR r).1) l (q.to a)=((partR (k (numR r).1) l (r.to a)).1,q.to b):=by rw [b2];rfl
    rw [hb] at he
    have b3:(r.to b).Ext (q.to b):=b3
    obtain ⟨c,c1,c2,c3⟩:=gro_fields hk hka n (numR r).1 _ _ _ b3 he
    have hr:fieldsR k (n+1) last l r=fieldsR k n (numR r).1 (partR (k (numR r).1) l (r.to a)).1 (r.to b):=by
      rw [fieldsR,if_neg (by rw [h.e1];simp),if_neg hnz,a1,hb]
    have hq:fieldsR k (n+1) last l q=fieldsR k n (numR r).1 (partR (k (numR r).1) l (r.to a)).1 (q.to b):=by
      rw [fieldsR,if_neg (by rw [h.e2];simp),if_neg (by omega),a4,a2,hb2]
    refine ⟨c,by rw [hr];exact c1,?_,c3⟩
    rw [hq,hr]
    exact c2
theorem gro_list {f:Rd→V×Rd} (hf:Gro f) (ha:∀ r:Rd,r.good→r.aft (f r).2):∀ (n:Nat) (l:List V),Gro (listR f n l)
  | 0,l=>fun r q h he=>⟨r.pos,rfl,by rw [← h.pos];rfl,by rw [to_self,← h.pos,to_self];exact h⟩
  | n+1,l=>fun r q h he=>by
    rw [listR,if_neg (by rw [h.e1];simp)] at he
    have hfe:=(aft_list ha n (l++[(f r).1]) _ (ha r h.g1).good).e he
    obtain ⟨a,a1,a2,a3⟩:=hf r q h hfe
    have ha1:(f r).2=r.to a:=by rw [a1]
    rw [ha1] at he
    obtain ⟨b,b1,b2,b3⟩:=gro_list hf ha n _ _ _ a3 he
    have hr:listR f (n+1) l r=listR f n (l++[(f r).1]) (r.to a):=by rw [listR,if_neg (by rw [h.e1];simp),ha1]
    have hq:listR f (n+1) l q=listR f n (l++[(f r).1]) (q.to a):=by rw [listR,if_neg (by rw [h.e2];simp),a2]
    exact ⟨b,by rw [hr];exact b1,by rw [hq,hr];exact b2,b3⟩
theorem defs_ok:∀ (fs:List TF) (l:FL) (r q:Rd),r.good→q.e=0→(defsR fs l r).2.e=0→defsR fs l r=((defsR fs l r).1,r)∧defsR fs l q=((defsR fs l r).1,q)
  | [],_,_,_,_,_,_=>⟨rfl,rfl⟩
  | f :: fs,l,r,q,h,hq,he=>by
    simp only [defsR] at he ⊢
    split
    · rename_i c
      rw [if_pos c] at he
      exact defs_ok fs l r q h hq he
    · rename_i c
      rw [if_neg c] at he
      split
      · rename_i c2
        rw [if_pos c2] at he
        have h1:=aft_fail h r.pos (e:=19) (by decide)
        exact absurd ((aft_defs fs l _ h1.1.good).e he) h1.2
      · rename_i c2
        rw [if_neg c2] at he
        split
        · rename_i c3
          rw [if_pos c3] at he
          exact defs_ok fs _ r q h hq he
        · rename_i c3
          rw [if_neg c3] at he
          exact defs_ok fs l r q h hq he
end Go.Ai

namespace Go.Ai
open Go Go.Proofs
set_option maxRecDepth 100000
set_option maxHeartbeats 2000000
theorem gro_text:Gro fun r=>bytesR (numR r).2 (numR r).1:=fun r q h he=>by
  have hN:=(aft_num h.g1)
  have hnz:(numR r).2.e=0:=(bytesR_good hN.1.good hN.2.2.1).2.2.2.2 he |>.1
  obtain ⟨a,a1,a2,a3⟩:=gro_num r q h hnz
  have ha1:(numR r).2=r.to a:=by rw [a1]
  have ha2:(numR q).2=q.to a:=by rw [a2]
  have hn:(numR q).1=(numR r).1:=by rw [a2]
  have he2:(bytesR (r.to a) (numR r).1).2.e=0:=by rw [← ha1];exact he
  obtain ⟨b,b1,b2,b3⟩:=gro_bytes hN.2.2.1 (r.to a) (q.to a) a3 he2
  refine ⟨b,?_,?_,b3⟩
  · show bytesR (numR r).2 (numR r).1=((bytesR (numR r).2 (numR r).1).1,_)
    rw [ha1];exact b1
  · show bytesR (numR q).2 (numR q).1=((bytesR (numR r).2 (numR r).1).1,_)
    rw [ha2,hn,ha1];exact b2
theorem gro_bool:Gro (boolR 0):=fun r q h he=>by
  have hb:(bytesR r 1).2.e=0:=by
    unfold boolR at he
    by_cases z:(bytesR r 1).2.e≠0
    · rw [if_pos z] at he;exact absurd he z
    · omega
  have hg:=(aft_bytes h.g1 (n:=1) (by decide)).good
  have hl:¬ 1<byt (bytesR r 1).1 0:=fun z=>by
    unfold boolR at he
    rw [if_neg (by omega),if_pos z] at he
    exact absurd he (aft_fail hg _ (by decide)).2
  obtain ⟨p,p1,p2,p3⟩:=gro_bytes (n:=1) (by decide) r q h hb
  have p1:bytesR r 1=((bytesR r 1).1,r.to p):=p1
  have p2:bytesR q 1=((bytesR r 1).1,q.to p):=p2
  have h1:boolR 0 r=(byt (bytesR r 1).1 0,r.to p):=by
    unfold boolR;rw [if_neg (by omega),if_neg hl,← (show (bytesR r 1).2=r.to p by rw [p1])]
  have h2:boolR 0 q=(byt (bytesR r 1).1 0,q.to p):=by
    unfold boolR;rw [p2];simp only
    rw [if_neg (by show ¬ q.e≠0;rw [h.e2];simp),if_neg hl]
  exact ⟨p,by rw [h1],by rw [h1,h2],p3⟩
theorem gro_scal (t:Ty):Gro (scalR t):=fun r q h he=>by
  unfold scalR at he ⊢
  by_cases h1:t.kind=1
  · simp only [if_pos h1] at he ⊢
    obtain ⟨p,p1,p2,p3⟩:=gro_bool r q h he
    exact ⟨p,by rw [← (show (boolR 0 r).2=r.to p by rw [p1])],by rw [p2],p3⟩
  · simp only [if_neg h1] at he ⊢
    by_cases h4:t.kind=4∨t.kind=5
    · simp only [if_pos h4] at he ⊢
      obtain ⟨p,p1,p2,p3⟩:=gro_text r q h he
      have p1:bytesR (numR r).2 (numR r).1=((bytesR (numR r).2 (numR r).1).1,r.to p):=p1
      have p2:bytesR (numR q).2 (numR q).1=((bytesR (numR r).2 (numR r).1).1,q.to p):=p2
      exact ⟨p,by rw [← (show (bytesR (numR r).2 (numR r).1).2=r.to p by rw [p1])],by rw [p2],p3⟩
    · simp only [if_neg h4] at he ⊢
      obtain ⟨p,p1,p2,p3⟩:=gro_num r q h he
      exact ⟨p,by rw [← (show (numR r).2=r.to p by rw [p1])],by rw [p2],p3⟩
theorem gro_try (d:Nat) (t:Ty):Gro fun r=>tryR d t r.pos (scalR t r):=fun r q h he=>by
  have hg:=aft_scal (t:=t) h.g1
  have hn:¬ ((scalR t r).2.e=0∧accV 1 d t (scalR t r).1=false):=fun z=>by
    unfold tryR at he
    simp only at he
    rw [if_pos z] at he
    exact absurd he (aft_fail hg.1.good _ (by decide)).2
  have h1:tryR d t r.pos (scalR t r)=scalR t r:=by unfold tryR;rw [if_neg hn]
  have he:(tryR d t r.pos (scalR t r)).2.e=0:=he
  rw [h1] at he
  obtain ⟨p,p1,p2,p3⟩:=gro_scal t r q h he
  have h2:tryR d t q.pos (scalR t q)=scalR t q:=by
    unfold tryR;rw [if_neg]
    rw [p2];simp only
    intro z
    exact hn ⟨he,z.2⟩
  refine ⟨p,?_,?_,p3⟩
  · show tryR d t r.pos (scalR t r)=((tryR d t r.pos (scalR t r)).1,_)
    rw [h1];exact p1
  · show tryR d t q.pos (scalR t q)=((tryR d t r.pos (scalR t r)).1,_)
    rw [h1,h2];exact p2
theorem aft_fld (d:Nat) (t:Ty) (n:Int) (l:FL) (r:Rd) (h:r.good):r.aft (fldK (decV d) t n l r).2:=by
  unfold fldK
  split
  · obtain ⟨h1,h2,h3,h4⟩:=h
    exact ⟨⟨by show 0≤r.fin;omega,Int.le_refl _,h3,h4⟩,rfl,rfl,h2,fun z=>z⟩
  · exact (aft_dec d _ r h).1
theorem gro_fld {d:Nat} {t:Ty} (hd:∀ t,Gro (decV d t)) (n:Int) (l:FL):GroS (fldK (decV d) t n l):=fun r q h hf he=>by
  unfold fldK at he ⊢
  by_cases c:idxI (byNum n) t.fields<0
  · simp only [if_pos c] at he ⊢
    refine ⟨r.fin,rfl,by rw [hf],?_⟩
    have h1:=h.step (k:=r.room.length) (Nat.le_refl _)
    have hl:=Rd.room_len h.g1
    rw [show r.pos+(r.room.length:Int)=r.fin by have:=h.g1.2.1;omega] at h1
    exact h1
  · simp only [if_neg c] at he ⊢
    obtain ⟨p,p1,p2,p3⟩:=hd _ r q h he
    exact ⟨p,by rw [← (show (decV d (fTyp (getTF t (byNum n))) r).2=r.to p by rw [p1])],by rw [p2],p3⟩
theorem gro_dec:∀ (d:Nat) (t:Ty),Gro (decV d t)
  | 0,_=>fun r q h he=>⟨r.pos,rfl,by rw [← h.pos];rfl,by rw [to_self,← h.pos,to_self];exact h⟩
  | d + 1,t=>fun r q h he=>by
    have ih:∀ t,Gro (decV d t):=fun t=>gro_dec d t
    have hN:=aft_num h.g1
    have hdr:decV (d+1) t r=if t.kind=8 then lstR (decV d (t.elem.getD 0 default)) t r else if t.kind=9 then recR (decV d) t r else if t.kind=10 then varR (decV d) t r else tryR (d+1) t r.pos (scalR t r):=by
      rw [decV,if_neg (by rw [h.e1];simp)]
    have hdq:decV (d+1) t q=if t.kind=8 then lstR (decV d (t.elem.getD 0 default)) t q else if t.kind=9 then recR (decV d) t q else if t.kind=10 then varR (decV d) t q else tryR (d+1) t q.pos (scalR t q):=by
      rw [decV,if_neg (by rw [h.e2];simp)]
    rw [hdr] at he
    rw [hdr,hdq]
    by_cases h8:t.kind=8
    · simp only [if_pos h8] at he ⊢
      have ha:∀ r:Rd,r.good→r.aft (decV d (t.elem.getD 0 default) r).2:=fun r h=>(aft_dec d _ r h).1
      have hc:¬ ((numR r).1<t.min∨t.max<(numR r).1):=fun z=>by
        unfold lstR at he
        simp only [if_pos z] at he
        have h1:=aft_fail hN.1.good r.pos (e:=18) (by decide)
        exact absurd ((aft_list ha _ [] _ h1.1.good).e he) h1.2
      have hr:lstR (decV d (t.elem.getD 0 default)) t r=(.mk 8 0 0 ⟨#[]⟩ (listR (decV d (t.elem.getD 0 default)) (numR r).1.toNat [] (numR r).2).1 [],(listR (decV d (t.elem.getD 0 default)) (numR r).1.toNat [] (numR r).2).2):=by
        unfold lstR;simp only [if_neg hc]
      rw [hr] at he
      have hnz:=(aft_list ha (numR r).1.toNat [] _ hN.1.good).e he
      obtain ⟨a,a1,a2,a3⟩:=gro_num r q h hnz
      have ha1:(numR r).2=r.to a:=by rw [a1]
      rw [ha1] at he
      obtain ⟨p,p1,p2,p3⟩:=gro_list (ih (t.elem.getD 0 default)) ha (numR r).1.toNat [] _ _ a3 he
      have hq:lstR (decV d (t.elem.getD 0 default)) t q=(.mk 8 0 0 ⟨#[]⟩ (listR (decV d (t.elem.getD 0 default)) (numR r).1.toNat [] (r.to a)).1 [],q.to p):=by
        unfold lstR;simp only [a2,if_neg hc]
        rw [p2];rfl
      have hp:(listR (decV d (t.elem.getD 0 default)) (numR r).1.toNat [] (r.to a)).2=r.to p:=by rw [p1];rfl
      rw [hr,hq,ha1,hp]
      exact ⟨p,rfl,rfl,p3⟩
    simp only [if_neg h8] at he ⊢
    by_cases h9:t.kind=9
    · simp only [if_pos h9] at he ⊢
      have hF:=aft_fields (k:=fldK (decV d) t) (numR r).1.toNat 0 [] _ hN.1.good
      have hD:=aft_defs t.fields (fieldsF (decV d) t r).1 _ hF.good
      have hfe:=hD.e he
      have hnz:=hF.e hfe
      obtain ⟨a,a1,a2,a3⟩:=gro_num r q h hnz
      have ha1:(numR r).2=r.to a:=by rw [a1]
      have hfe2:(fieldsR (fldK (decV d) t) (numR r).1.toNat 0 [] (r.to a)).2.e=0:=by rw [← ha1];exact hfe
      obtain ⟨p,p1,p2,p3⟩:=gro_fields (k:=fldK (decV d) t) (fun n l=>gro_fld ih n l) (fun n l r h=>aft_fld d t n l r h) (numR r).1.toNat 0 [] _ _ a3 hfe2
      have hFr:fieldsF (decV d) t r=((fieldsR (fldK (decV d) t) (numR r).1.toNat 0 [] (r.to a)).1,r.to p):=by unfold fieldsF;rw [ha1];exact p1
      have hFq:fieldsF (decV d) t q=((fieldsR (fldK (decV d) t) (numR r).1.toNat 0 [] (r.to a)).1,q.to p):=by
        unfold fieldsF;rw [a2];exact p2
      have he2:(defsR t.fields (fieldsR (fldK (decV d) t) (numR r).1.toNat 0 [] (r.to a)).1 (r.to p)).2.e=0:=by
        have:(recR (decV d) t r).2=(defsR t.fields (fieldsR (fldK (decV d) t) (numR r).1.toNat 0 [] (r.to a)).1 (r.to p)).2:=by unfold recR;rw [hFr]
        rw [← this];exact he
      obtain ⟨d1,d2⟩:=defs_ok t.fields (fieldsR (fldK (decV d) t) (numR r).1.toNat 0 [] (r.to a)).1 (r.to p) (q.to p) p3.g1 h.e2 he2
      unfold recR
      rw [hFr,hFq]
      simp only
      rw [d2]
      refine ⟨p,?_,rfl,p3⟩
      rw [d1]
    simp only [if_neg h9] at he ⊢
    by_cases h10:t.kind=10
    · simp only [if_pos h10] at he ⊢
      have hc:¬ idxI (byNum (numR r).1) t.fields<0:=fun z=>by
        unfold varR at he
        rw [if_pos z] at he
        exact absurd he (aft_fail hN.1.good r.pos (e:=21) (by decide)).2
      have hr:varR (decV d) t r=(.mk 10 0 0 (fName (getTF t (byNum (numR r).1))) (partR (varK (decV d) (fTyp (getTF t (byNum (numR r).1)))) [] (numR r).2).1 [],(partR (varK (decV d) (fTyp (getTF t (byNum (numR r).1)))) [] (numR r).2).2):=by
        unfold varR;rw [if_neg hc]
      rw [hr] at he
      have hnz:=(aft_part hN.1.good).1.e he
      obtain ⟨a,a1,a2,a3⟩:=gro_num r q h hnz
      have ha1:(numR r).2=r.to a:=by rw [a1]
      have hv:GroS (varK (decV d) (fTyp (getTF t (byNum (numR r).1))) []):=fun x y g1 _ g2=>by
        obtain ⟨p,p1,p2,p3⟩:=ih (fTyp (getTF t (byNum (numR r).1))) x y g1 g2
        refine ⟨p,?_,?_,p3⟩
        · unfold varK;rw [← (show (decV d (fTyp (getTF t (byNum (numR r).1))) x).2=x.to p by rw [p1])]
        · unfold varK;rw [p2]
      rw [ha1] at he
      obtain ⟨p,p1,p2,p3⟩:=gro_part hv _ _ a3 he
      have hp:(partR (varK (decV d) (fTyp (getTF t (byNum (numR r).1)))) [] (r.to a)).2=r.to p:=by rw [p1];rfl
      have hq:varR (decV d) t q=(.mk 10 0 0 (fName (getTF t (byNum (numR r).1))) (partR (varK (decV d) (fTyp (getTF t (byNum (numR r).1)))) [] (r.to a)).1 [],q.to p):=by
        unfold varR;rw [a2];simp only
        rw [if_neg hc,p2];rfl
      rw [hr,hq,ha1,hp]
      exact ⟨p,rfl,rfl,p3⟩
    simp only [if_neg h10] at he ⊢
    exact gro_try (d+1) t r q h he
end Go.Ai

namespace Go.Ai
open Go Go.Proofs
set_option maxRecDepth 100000
set_option maxHeartbeats 4000000
def Rd.okb (r:Rd):Prop:=r.good∧r.bad≤r.fin
def Bd {α:Type} (F:Rd→α×Rd):Prop:=∀ r:Rd,r.okb→(F r).2.bad≤r.fin
theorem fail_bad {r:Rd} {a e:Int} (h:r.bad≤r.fin) (ha:a≤r.fin):(r.fail a e).bad≤r.fin:=by
  unfold Rd.fail;split
  · exact ha
  · exact h
theorem okb_of {r p:Rd} (h:r.aft p) (hb:p.bad≤r.fin):p.okb:=⟨h.good,by rw [h.fin];exact hb⟩
theorem bd_num:Bd numR:=fun r h=>by
  obtain ⟨⟨h1,h2,h3,h4⟩,hb⟩:=h
  unfold numR
  split
  · exact hb
  split
  · exact hb
  · simp only;split
    · exact fail_bad hb (Int.le_refl _)
    · exact fail_bad hb h2
theorem bd_bytes (n:Int):Bd fun r=>bytesR r n:=fun r h=>by
  show (bytesR r n).2.bad≤r.fin
  unfold bytesR
  split
  · exact h.2
  split
  · exact fail_bad h.2 (Int.le_refl _)
  · exact h.2
theorem okb_num {r:Rd} (h:r.okb):(numR r).2.okb:=okb_of (aft_num h.1).1 (bd_num r h)
theorem bd_sub2 {r:Rd} (h:r.okb):(sub2 r).okb:=by
  have h1:=okb_num h
  have h2:=bd_bytes (numR r).1 _ h1
  have h3:=(aft_num h.1).1.fin
  rw [h3] at h2
  exact okb_of (aft_sub2 h.1).1 h2
theorem bd_part {α:Type} {k:α→Rd→α×Rd} {l:α} (hk:Bd (k l)) (hka:∀ r:Rd,r.good→r.aft (k l r).2):Bd (partR k l):=fun r h=>by
  have hs:=bd_sub2 h
  have hsf:=(aft_sub2 h.1).1.fin
  unfold partR
  split
  · have:=hs.2;rw [hsf] at this;exact this
  · rename_i z
    have hg:=(subR_good h.1 (by omega)).1
    have hkb:=hk (subR r) ⟨hg,by obtain ⟨a,b,_,_⟩:=hg;show (0:Int)≤(subR r).fin;omega⟩
    have hkf:=(hka _ hg).fin
    have hkg:=(hka _ hg).good.2.1
    have hfs:(subR r).fin=(sub2 r).pos:=rfl
    have hsp:=hs.1.2.1
    have hl:(longR (k l (subR r)).2).bad≤(sub2 r).fin:=by
      unfold longR
      split
      · unfold Rd.fail;split
        · show (k l (subR r)).2.pos≤_;omega
        · show (k l (subR r)).2.bad≤_;omega
      · omega
    show (backR (sub2 r) (longR (k l (subR r)).2)).bad≤r.fin
    rw [← hsf]
    unfold backR
    split
    · exact fail_bad hs.2 hl
    · exact hs.2
theorem bd_step {r:Rd} (last:Int) (h:r.okb):(stepR last r).okb:=by
  have h1:=okb_num h
  have hf:=(aft_num h.1).1.fin
  have hp:=h.1.2.1
  refine okb_of (aft_step last h.1) ?_
  rw [← hf]
  unfold stepR
  split
  · exact fail_bad h1.2 (by omega)
  split
  · exact fail_bad h1.2 (by omega)
  · exact h1.2
theorem bd_fields {γ:Type} {k:Int→γ→Rd→γ×Rd} (hk:∀ n l,Bd (k n l)) (hka:∀ n l (r:Rd),r.good→r.aft (k n l r).2):∀ (n:Nat) (last:Int) (l:γ),Bd (fieldsR k n last l)
  | 0,_,_=>fun r h=>h.2
  | n + 1,last,l=>fun r h=>by
    have h1:=okb_num h
    rw [fieldsR]
    split
    · exact h.2
    split
    · rw [← (aft_num h.1).1.fin];exact h1.2
    · have h2:=bd_step last h
      have h3:=bd_part (hk (numR r).1 l) (hka (numR r).1 l) _ h2
      have h4:=aft_part (k:=k (numR r).1) (l:=l) h2.1
      have h5:=bd_fields hk hka n (numR r).1 (partR (k (numR r).1) l (stepR last r)).1 _ (okb_of h4.1 h3)
      rw [h4.1.fin,(aft_step last h.1).fin] at h5
      exact h5
theorem bd_list {f:Rd→V×Rd} (hf:Bd f) (ha:∀ r:Rd,r.good→r.aft (f r).2):∀ (n:Nat) (l:List V),Bd (listR f n l)
  | 0,_=>fun r h=>h.2
  | n + 1,l=>fun r h=>by
    rw [listR]
    split
    · exact h.2
    · have h1:=bd_list hf ha n (l++[(f r).1]) _ (okb_of (ha r h.1) (hf r h))
      rw [(ha r h.1).fin] at h1
      exact h1
theorem bd_defs:∀ (fs:List TF) (l:FL),Bd (defsR fs l)
  | [],_=>fun r h=>h.2
  | f :: fs,l=>fun r h=>by
    rw [defsR]
    split
    · exact bd_defs fs l r h
    split
    · have ha:=(aft_fail h.1 r.pos (e:=19) (by decide)).1
      have h1:=bd_defs fs l _ (okb_of ha (fail_bad h.2 h.1.2.1))
      rw [ha.fin] at h1
      exact h1
    split
    · exact bd_defs fs _ r h
    · exact bd_defs fs l r h
theorem bd_scal (t:Ty):Bd (scalR t):=fun r h=>by
  unfold scalR
  split
  · show (boolR 0 r).2.bad≤_
    have h1:=bd_bytes 1 r h
    have ha:=aft_bytes h.1 (n:=1) (by decide)
    have h1:(bytesR r 1).2.bad≤r.fin:=h1
    unfold boolR
    split
    · exact h1
    split
    · rw [← ha.fin]
      have:=ha.good.2.1
      exact fail_bad (by rw [ha.fin];exact h1) (by omega)
    · exact h1
  split
  · have:=(bd_sub2 h).2
    rw [(aft_sub2 h.1).1.fin] at this
    exact this
  · exact bd_num r h
theorem bd_dec:∀ (d:Nat) (t:Ty),Bd (decV d t)
  | 0,_=>fun r h=>h.2
  | d + 1,t=>fun r h=>by
    have ih:∀ t,Bd (decV d t):=fun t=>bd_dec d t
    have ha:∀ t (r:Rd),r.good→r.aft (decV d t r).2:=fun t r h=>(aft_dec d t r h).1
    have hn:=okb_num h
    have hN:=(aft_num h.1).1
    have hp:=h.1.2.1
    rw [decV]
    split
    · exact h.2
    split
    · rw [← hN.fin]
      have h1:(if (numR r).1<t.min∨t.max<(numR r).1 then (numR r).2.fail r.pos 18 else (numR r).2).okb∧(if (numR r).1<t.min∨t.max<(numR r).1 then (numR r).2.fail r.pos 18 else (numR r).2).fin=(numR r).2.fin:=by
        split
        · have ha:=(aft_fail hn.1 r.pos (e:=18) (by decide)).1
          exact ⟨okb_of ha (fail_bad hn.2 (by rw [hN.fin];exact hp)),ha.fin⟩
        · exact ⟨hn,rfl⟩
      have h2:=bd_list (ih (t.elem.getD 0 default)) (ha _) (numR r).1.toNat [] _ h1.1
      rw [h1.2] at h2
      exact h2
    split
    · have hk:∀ n l,Bd (fldK (decV d) t n l):=fun n l q hq=>by
        unfold fldK
        split
        · exact hq.2
        · exact ih _ q hq
      have h1:=bd_fields hk (fun n l r h=>aft_fld d t n l r h) (numR r).1.toNat 0 [] _ hn
      have hF:=aft_fields (k:=fldK (decV d) t) (numR r).1.toNat 0 [] _ hn.1
      have h2:=bd_defs t.fields (fieldsF (decV d) t r).1 _ (okb_of hF h1)
      rw [hF.fin,hN.fin] at h2
      exact h2
    split
    · unfold varR
      split
      · rw [← hN.fin];exact fail_bad hn.2 (by rw [hN.fin];exact hp)
      · have h1:=bd_part (k:=varK (decV d) (fTyp (getTF t (byNum (numR r).1)))) (l:=[]) (fun q hq=>ih _ q hq) (fun q hq=>ha _ q hq) _ hn
        rw [hN.fin] at h1
        exact h1
    · have h1:=bd_scal t r h
      have hs:=(aft_scal (t:=t) h.1).1
      show (tryR (d+1) t r.pos (scalR t r)).2.bad≤_
      unfold tryR
      simp only
      split
      · rw [← hs.fin];exact fail_bad (by rw [hs.fin];exact h1) (by rw [hs.fin];exact hp)
      · exact h1
theorem firstL_zero:∀ {l:List Int},firstL l=0→∀ x ∈ l,x=0
  | [],_=>fun x h=>by cases h
  | a :: r,h=>fun x hx=>by
    simp only [firstL] at h
    split at h
    · exact absurd h ‹_›
    · rcases List.mem_cons.1 hx with rfl|hx
      · omega
      · exact firstL_zero h x hx
theorem lexC_zero {α:Type} {c:α→α→Int}:∀ {l m:List α},(∀ x ∈ l,∀ y ∈ m,c x y=0→x=y)→lexC c l m=0→l=m
  | [],[],_,_=>rfl
  | [],_ :: _,_,h=>by cases h
  | _ :: _,[],_,h=>by cases h
  | a :: l,b :: m,hc,h=>by
    simp only [lexC] at h
    split at h
    · exact absurd h ‹_›
    · rw [hc a (List.mem_cons_self ..) b (List.mem_cons_self ..) (by omega),lexC_zero (fun x hx y hy=>hc x (List.mem_cons_of_mem _ hx) y (List.mem_cons_of_mem _ hy)) h]
theorem cmpV_zero:∀ (d:Nat) (a b:V),V.le d a→V.le d b→cmpV d a b=0→a=b
  | 0,_,_,h,_,_=>h.elim
  | d + 1,a,b,ha,hb,h=>by
    have h:=firstL_zero (show firstL _=0 from h)
    have h1:=cmpI_zero.1 (h (cmpI a.kind b.kind) (by simp))
    have h2:=cmpI_zero.1 (h (cmpI a.int b.int) (by simp))
    have h3:=cmpI_zero.1 (h (cmpI a.scale b.scale) (by simp))
    have h4:=cmpS_eq.1 (h (cmpS a.text b.text) (by simp))
    have h5:=lexC_zero (fun x hx y hy=>cmpV_zero d x y (ha.2.2.2.1 x hx) (hb.2.2.2.1 y hy)) (h (lexC (cmpV d) a.list b.list) (by simp))
    have h6:=lexC_zero (fun x hx y hy q=>by
      have q:=firstL_zero (show firstL _=0 from q)
      have q1:=cmpS_eq.1 (q (cmpS x.1 y.1) (by simp))
      have q2:=cmpV_zero d x.2 y.2 (ha.2.2.2.2 x hx).2 (hb.2.2.2.2 y hy).2 (q (cmpV d x.2 y.2) (by simp))
      exact Prod.ext q1 q2) (h (lexC (cmpFd (cmpV d)) a.fields b.fields) (by simp))
    cases a;cases b
    simp only [V.kind,V.int,V.scale,V.text,V.list,V.fields] at h1 h2 h3 h4 h5 h6
    subst h1 h2 h3 h4 h5 h6
    rfl
def heavyF (e:Nat) (f:Ty→Bool) (x:TF):Bool:=f (fTyp x) || (decide (0<(fDef x).length) && decide (20<sizeV e ((fDef x).getD 0 default)))
def heavyT (e:Nat):Nat→Ty→Bool
  | 0,_=>false
  | d+1,t=>t.elem.any (heavyT e d) || t.fields.any (heavyF e (heavyT e d))
end Go.Ai
