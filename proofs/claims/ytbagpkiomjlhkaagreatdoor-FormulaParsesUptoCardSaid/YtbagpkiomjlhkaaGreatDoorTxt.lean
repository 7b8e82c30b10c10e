/- Chapter 15: the scanner: texts, all of them. -/
import Derived.Test.YtbagpkiomjlhkaaGreatDoorEsc
set_option linter.all false
namespace Go.Ai
open Go Go.Proofs Go.RowKit
set_option maxRecDepth 100000
set_option maxHeartbeats 4000000
def txtQ(s:ByteArray):Nat->Nat->ByteArray->(Nat×ByteArray) ⊕ (Nat×Int×Int)
 | 0,p,_=>.inr (p,0,1)
 | n+1,p,a=>
  if s.size<=p then .inr (p,s.size,29)
  else if byt s p=34 then .inl (p+1,a)
  else if byt s p=92 then match escF s p with
   | some (j,_,t)=>txtQ s n j (a++t)
   | none=>.inr ((escE s p).1,p,(escE s p).2)
  else if byt s p<32∨byt s p=127 then .inr (p,p,6)
  else if dcE s p=true then .inr (p,p,16)
  else txtQ s n (p+(Utf8.decode s p).2) (a++s.extract p (p+(Utf8.decode s p).2))
def Tok.setV(t:Tok)(v:ByteArray):Tok:=mk 3 t.line t.col t.text v t.num t.scale t.joined
def txtR(s:ByteArray)(i:Nat)(w:Int)(t:Tok):Nat×Int×Int×Tok:=match txtQ s (s.size+1) (i+1) ⟨#[]⟩with
 | .inl (j,v)=>(j,if 1024<v.size then i else w,if 1024<v.size then 5 else 0,t.setV v)
 | .inr (j,w',e)=>(j,w',e,t.set 3 t.text)
def txB(k:Nat)(a:ByteArray):List (Nat×AO):=match k with
 | 0=>[(6,.box [.tnil 179,.nil])]
 | 1=>[(6,bldC 6 960014 1 a),(960014,bldR 1 a)]
 | 2=>[(6,bldC 6 1660014 1 a),(1660014,bldR 1 a)]
 | _+3=>[(6,bldC 6 2740014 1 a),(2740014,bldR 1 a)]
def aqd(s:ByteArray)(i:Nat)(h:i<s.size):1<=(Utf8.decode s i).2∧i+(Utf8.decode s i).2<=s.size:=by
 have h1:∀n a b c d:Nat,1<=n->1<=(Lib.decodeN n a b c d).2∧(Lib.decodeN n a b c d).2<=n:=fun n a b c d hn=>by
  unfold Lib.decodeN
  repeat' split
  all_goals(simp only;omega)
 rw[Lib.decode_at];have:=h1 (s.size-i) (s.get! i).toNat (s.get! (i+1)).toNat (s.get! (i+2)).toNat (s.get! (i+3)).toNat (by omega)
 omega
def text_all(s:ByteArray)(i:Nat)(w:Int)(t:Tok)(hs:s.size<=1073741824)(hi:i<s.size)(hq:byt s i=34):
 Meth 106 s i w 0 t true (txtR s i w t).1 (txtR s i w t).2.1 (txtR s i w t).2.2.1 (txtR s i w t).2.2.2:=by
 obtain⟨R,hR⟩:∃R,R=txtR s i w t:=⟨_,rfl⟩
 rw[<- hR];unfold txtR at hR;have h0:=aaH s i 0 w 0 (by omega) (by omega);rw[show i+0=i from rfl,hq]at h0;have hw1:IntKind.i64.wrap ((i:Int)+1)=((i+1:Nat):Int):=w64n (by omega);unfold Meth
 (apply Af.of tF mF [.tmp 4] aod [(1,[(1,.int .u8 fun _=>34,[(1000,boxC s i w 0)])])] Tryz.func106 (fun _=>?_);(repeat' with_reducible first|exact nY|refine oC ?_ ?_|refine vQ ?_ ?_ ?_|refine cV (fun _=>?_) fun _=>?_|refine wQ ?_|fail))
 all_goals(try simp only[hw1])
 all_goals(try exact zB)
 (all_goals try first|with_reducible (refine rE ?_;cbv;simp only[wl,nc];done)|with_reducible (refine rQ ?_;repeat' first|apply And.intro|exact wZ)|(refine sQ ?_;repeat' first|with_reducible apply And.intro|exact cZ))
 refine .loop (fun q:Nat×Nat×ByteArray×Int×Int=>⟨143,[(6,.ptr 6 0),(5,.int .i64 fun _=>(i:Int)),(0,.ptr 1000 0),(1,.ptr 1001 0)],(1000,boxC s q.1 q.2.2.2.1 q.2.2.2.2)::(1001,boxK (t.set 3 t.text))::txB q.2.1 q.2.2.1⟩)
  (fun q=>q.1<=s.size∧q.2.1<4∧(q.2.1=0->q.2.2.1=⟨#[]⟩)∧q.2.2.1.size<=q.1 ∧
    (q.2.2.2.2=0->q.2.2.2.1=w∧∃n,s.size-q.1<n∧txtQ s n q.1 q.2.2.1=txtQ s (s.size+1) (i+1) ⟨#[]⟩) ∧
    (q.2.2.2.2≠0->txtQ s (s.size+1) (i+1) ⟨#[]⟩=.inr (q.1,q.2.2.2.1,q.2.2.2.2)))
  (fun q=>2*(s.size-q.1)+if q.2.2.2.2=0 then 1 else 0) (i+1,0,⟨#[]⟩,w,0)
  ⟨hi,by show 0<4;omega,fun _=>rfl,Nat.zero_le _,fun _=>⟨rfl,s.size+1,by show s.size-(i+1)<s.size+1;omega,rfl⟩,fun q=>absurd rfl q⟩ ?_ fun q E hq=>?_
 ·unfold txB
  exact aZ
 obtain⟨p,k,a,w',e⟩:=q;obtain⟨e1,e2,e3,e4,e5,e6⟩:=hq;dsimp only at e1 e2 e3 e4 e5 e6;generalize txtQ s (s.size+1) (i+1) ⟨#[]⟩=Z at*;have hf:∀(v c:Int),Af Tryz.prog 109 [.ptr 1000 0,.int .i64 fun _=>v,.int .i64 fun _=>c] [(1000,boxC s p w 0)] (.tup []) [(1000,boxC s p v c)]:=fun v c=>by
  have:=anT s p w 0 v c
  rwa [if_pos rfl,if_pos rfl]at this
 have hk:k=0∨k=1∨k=2∨k=3:=by omega
 by_cases he:e=0
 ·subst he;obtain⟨rfl,n,hn,hQ⟩:=e5 rfl;clear e5 e6;obtain⟨m,rfl⟩:∃m,n=m+1:=⟨n-1,by omega⟩
  unfold txtQ at hQ;by_cases c1:s.size<=p
  ·rw[if_pos c1]at hQ;rw[<- hQ]at hR;obtain⟨z,hz⟩:∃z:Int,z=(s.size:Int):=⟨_,rfl⟩
   have h9:=hf s.size 29;rw[show boxC s p s.size 29=boxC s p z 29 by rw[hz]]at h9;dsimp only at hR;rw[<- hz]at hR;subst hR;obtain rfl|rfl|rfl|rfl:=hk
   all_goals(unfold txB;apply AWp.wk tF mF [(9,[(6,zT,[(1000,boxC s p z 29)])])] aod ?_)
   all_goals(repeat' with_reducible first|exact nY|refine oC ?_ ?_|refine vQ ?_ ?_ ?_|refine cV (fun _=>?_) fun _=>?_|refine wQ ?_|fail)
   all_goals(try(exact absurd c1 (Nat.not_le.2 ‹p<s.size›)))
   all_goals(try exact zB)
   all_goals(all_goals try first|with_reducible (refine rE ?_;cbv;simp only[wl,nc];done)|with_reducible (refine rQ ?_;repeat' first|apply And.intro|exact wZ)|(refine sQ ?_;repeat' first|with_reducible apply And.intro|exact cZ))
  rw[if_neg c1]at hQ;by_cases c2:byt s p=34
  ·rw[if_pos c2]at hQ;rw[<- hQ]at hR;dsimp only at hR;subst hR;have h19:=aq2 s a (p+1) w' 0 i;simp only[and_true]at h19;replace c2:((s.data[p]?.getD 0).toNat:Int)=34:=c2;have h18:=anz a (by omega);have hw2:IntKind.i64.wrap ((p:Int)+1)=((p+1:Nat):Int):=w64n (by omega);obtain rfl|hk:=hk
   ·obtain rfl:=e3 rfl;unfold txB;apply AWp.wk tF mF [(18,[(1,.str fun _=>⟨#[]⟩,[(1000,.box [.tnil 179,.nil])])]),(19,[(6,zT,[(1000,boxC s (p+1) w' 0)])])] aod ?_
    (repeat' with_reducible first|exact nY|refine oC ?_ ?_|refine vQ ?_ ?_ ?_|refine cV (fun _=>?_) fun _=>?_|refine wQ ?_|fail)
    all_goals(try(exact absurd ‹s.size<=p› c1))
    all_goals(try(exact absurd c2 ‹_›))
    all_goals(try simp only[hw2])
    any_goals((with_reducible refine nO ?_);first|exact apw|exact h19)
    (all_goals try first|with_reducible (refine rE ?_;cbv;simp only[wl,nc];done)|with_reducible (refine rQ ?_;repeat' first|apply And.intro|exact wZ)|(refine sQ ?_;repeat' first|with_reducible apply And.intro|exact cZ))
    all_goals rfl
   have hd:1024<a.size↔1024<(a.size:Int):=by omega
   obtain⟨v,hv⟩:∃v,v=(if 1024<a.size then(i:Int)else w'):=⟨_,rfl⟩
   obtain⟨u,hu⟩:∃u,u=(if 1024<a.size then(5:Int)else 0):=⟨_,rfl⟩
   rw[<- hv,<- hu]at h19 ⊢;obtain rfl|rfl|rfl:=hk
   all_goals(unfold txB;apply AWp.wk tF mF [(18,[(1,zR a,[(1000,bldC 1000 1001000001 0 a),(1001000001,agE a)])]),(19,[(6,zT,[(1000,boxC s (p+1) v u)])])] aod ?_)
   all_goals(repeat' with_reducible first|exact nY|refine oC ?_ ?_|refine vQ ?_ ?_ ?_|refine cV (fun _=>?_) fun _=>?_|refine wQ ?_|fail)
   all_goals(try(exact absurd ‹s.size<=p› c1))
   all_goals(try(exact absurd c2 ‹_›))
   all_goals(try simp only[hw2])
   all_goals(try exact zB)
   all_goals(all_goals try first|with_reducible (refine rE ?_;cbv;simp only[wl,nc];done)|with_reducible (refine rQ ?_;repeat' first|apply And.intro|exact wZ)|(refine sQ ?_;repeat' first|with_reducible apply And.intro|exact cZ))
   all_goals(try rfl)
  rw[if_neg c2]at hQ;have hI:∀(j k':Nat) (a':ByteArray),p<j->j<=s.size->k'<4->k'≠0->a'.size<=j->txtQ s m j a'=Z ->
   (j<=s.size∧k'<4∧(k'=0->a'=⟨#[]⟩)∧a'.size<=j∧((0:Int)=0->w'=w'∧∃n,s.size-j<n∧txtQ s n j a'=Z)∧((0:Int)≠0->Z=.inr (j,w',0))) ∧
   (2*(s.size-j)+if(0:Int)=0 then 1 else 0)<(2*(s.size-p)+if(0:Int)=0 then 1 else 0):=fun j k' a' g1 g2 g3 g4 g5 g6=>
   ⟨⟨g2,g3,fun q=>absurd q g4,g5,fun _=>⟨rfl,m,by omega,g6⟩,fun q=>absurd rfl q⟩,by rw[if_pos rfl];omega⟩
  have hE:∀(p':Nat) (v c:Int),c≠0->p<=p'->p'<=s.size->Z=.inr (p',v,c) ->
   (p'<=s.size∧k<4∧(k=0->a=⟨#[]⟩)∧a.size<=p'∧(c=0->v=w'∧∃n,s.size-p'<n∧txtQ s n p' a=Z)∧(c≠0->Z=.inr (p',v,c))) ∧
   (2*(s.size-p')+if c=0 then 1 else 0)<(2*(s.size-p)+if(0:Int)=0 then 1 else 0):=fun p' v c g1 g2 g3 g4=>
   ⟨⟨g3,e2,e3,by omega,fun q=>absurd q g1,fun _=>g4⟩,by rw[if_neg g1,if_pos rfl];omega⟩
  replace c2:¬((s.data[p]?.getD 0).toNat:Int)=34:=c2;clear hR hf;by_cases c3:byt s p=92
  ·rw [if_pos c3]at hQ;replace c3:((s.data[p]?.getD 0).toNat:Int)=92:=c3;cases hesc:escF s p with
   | none=>
    rw[hesc]at hQ;dsimp only at hQ;obtain⟨l1,l2,l3,l4⟩:=aq8 (Nat.lt_of_not_le c1) hesc;have hN:=hE (escE s p).1 p (escE s p).2 (by omega) l1 l2 hQ.symm;have h22:=fun b=>apd s p w' b hs (Nat.lt_of_not_le c1) hesc;clear hQ hesc;generalize (escE s p).1=p' at*;generalize (escE s p).2=c at*;obtain rfl|hk:=hk
    ·have h22:=h22 none;unfold bIn at h22;unfold txB;apply AWp.wk tF mF [(22,[(1,zT,[(1000,boxC s p' p c),(1001,.box [.tnil 179,.nil])])])] aod ?_
     (repeat' with_reducible first|exact nY|refine oC ?_ ?_|refine vQ ?_ ?_ ?_|refine cV (fun _=>?_) fun _=>?_|refine wQ ?_|fail)
     all_goals(try(exact absurd ‹s.size<=p› c1))
     all_goals(try(exact absurd ‹((s.data[p]?.getD 0).toNat:Int)=34› c2))
     all_goals(try(exact absurd c3 ‹¬((s.data[p]?.getD 0).toNat:Int)=92›))
     all_goals(try exact zB)
     (all_goals try first|with_reducible (refine rE ?_;cbv;simp only[wl,nc];done)|with_reducible (refine rQ ?_;repeat' first|apply And.intro|exact wZ)|(refine sQ ?_;repeat' first|with_reducible apply And.intro|exact cZ))
     refine dE (ι:=Nat×Nat×ByteArray×Int×Int) (μ:=fun q=>2*(s.size-q.1)+if q.2.2.2.2=0 then 1 else 0) (i:=(p,0,a,w',0)) (p',0,a,(p:Int),c) hN ?_
     exact aZ
    ·have h22:=h22 (some a);unfold bIn at h22;obtain rfl|rfl|rfl:=hk
     all_goals(unfold txB;apply AWp.wk tF mF [(22,[(1,zT,[(1000,boxC s p' p c),(1001,bldC 1001 1001001001 0 a),(1001001001,bldR 0 a)])])] aod ?_)
     all_goals(repeat' with_reducible first|exact nY|refine oC ?_ ?_|refine vQ ?_ ?_ ?_|refine cV (fun _=>?_) fun _=>?_|refine wQ ?_|fail)
     all_goals(try(exact absurd ‹s.size<=p› c1))
     all_goals(try(exact absurd ‹((s.data[p]?.getD 0).toNat:Int)=34› c2))
     all_goals(try(exact absurd c3 ‹¬((s.data[p]?.getD 0).toNat:Int)=92›))
     all_goals(try exact zB)
     all_goals(all_goals try first|with_reducible (refine rE ?_;cbv;simp only[wl,nc];done)|with_reducible (refine rQ ?_;repeat' first|apply And.intro|exact wZ)|(refine sQ ?_;repeat' first|with_reducible apply And.intro|exact cZ))
     all_goals(first|refine dE (ι:=Nat×Nat×ByteArray×Int×Int) (μ:=fun q=>2*(s.size-q.1)+if q.2.2.2.2=0 then 1 else 0) (i:=(p,1,a,w',0)) (p',1,a,(p:Int),c) hN ?_|refine dE (ι:=Nat×Nat×ByteArray×Int×Int) (μ:=fun q=>2*(s.size-q.1)+if q.2.2.2.2=0 then 1 else 0) (i:=(p,2,a,w',0)) (p',2,a,(p:Int),c) hN ?_|refine dE (ι:=Nat×Nat×ByteArray×Int×Int) (μ:=fun q=>2*(s.size-q.1)+if q.2.2.2.2=0 then 1 else 0) (i:=(p,3,a,w',0)) (p',3,a,(p:Int),c) hN ?_)
     all_goals(first|exact aZ|focus(refine aQ ?_;repeat' first|with_reducible apply And.intro|exact wZ|fail))
   | some q=>
    obtain⟨j,kb,t'⟩:=q;rw[hesc]at hQ;dsimp only at hQ;obtain⟨l1,l2,l3⟩:=aq7 (Nat.lt_of_not_le c1) hesc;have h22:=fun b ha=>apc s p w' b hs (Nat.lt_of_not_le c1) ha j kb t' hesc;clear hesc;obtain rfl|hk:=hk
    ·obtain rfl:=e3 rfl;have h22:=h22 none (fun a h=>by cases h);rw[show(⟨#[]⟩:ByteArray)++t'=t' from ByteArray.empty_append]at hQ;unfold bIn bOut at h22;cases kb with
     | true=>
      have hN:=hI j 2 t' (by omega) l2 (by decide) (by decide) (by omega) hQ;rw[if_pos rfl]at h22;unfold txB;apply AWp.wk tF mF [(22,[(1,zT,[(1000,boxC s j w' 0),(1001,bldC 1001 360014 1 t'),(360014,bldR 1 t')])])] aod ?_
      (repeat' with_reducible first|exact nY|refine oC ?_ ?_|refine vQ ?_ ?_ ?_|refine cV (fun _=>?_) fun _=>?_|refine wQ ?_|fail)
      all_goals(try(exact absurd ‹s.size<=p› c1))
      all_goals(try(exact absurd ‹((s.data[p]?.getD 0).toNat:Int)=34› c2))
      all_goals(try(exact absurd c3 ‹¬((s.data[p]?.getD 0).toNat:Int)=92›))
      all_goals(try exact zB)
      (all_goals try first|with_reducible (refine rE ?_;cbv;simp only[wl,nc];done)|with_reducible (refine rQ ?_;repeat' first|apply And.intro|exact wZ)|(refine sQ ?_;repeat' first|with_reducible apply And.intro|exact cZ))
      refine dE (ι:=Nat×Nat×ByteArray×Int×Int) (μ:=fun q=>2*(s.size-q.1)+if q.2.2.2.2=0 then 1 else 0) (i:=(p,0,⟨#[]⟩,w',0)) (j,2,t',w',0) hN ?_
      exact aZ
     | false=>
      have hN:=hI j 3 t' (by omega) l2 (by decide) (by decide) (by omega) hQ;rw[if_neg (by decide)]at h22;unfold txB;apply AWp.wk tF mF [(22,[(1,zT,[(1000,boxC s j w' 0),(1001,bldC 1001 1440014 1 t'),(1440014,bldR 1 t')])])] aod ?_
      (repeat' with_reducible first|exact nY|refine oC ?_ ?_|refine vQ ?_ ?_ ?_|refine cV (fun _=>?_) fun _=>?_|refine wQ ?_|fail)
      all_goals(try(exact absurd ‹s.size<=p› c1))
      all_goals(try(exact absurd ‹((s.data[p]?.getD 0).toNat:Int)=34› c2))
      all_goals(try(exact absurd c3 ‹¬((s.data[p]?.getD 0).toNat:Int)=92›))
      all_goals(try exact zB)
      (all_goals try first|with_reducible (refine rE ?_;cbv;simp only[wl,nc];done)|with_reducible (refine rQ ?_;repeat' first|apply And.intro|exact wZ)|(refine sQ ?_;repeat' first|with_reducible apply And.intro|exact cZ))
      refine dE (ι:=Nat×Nat×ByteArray×Int×Int) (μ:=fun q=>2*(s.size-q.1)+if q.2.2.2.2=0 then 1 else 0) (i:=(p,0,⟨#[]⟩,w',0)) (j,3,t',w',0) hN ?_
      exact aZ
    ·have h22:=h22 (some a) (fun x h=>by cases h;omega);have hN:=fun k' g4 g5=>hI j k' (a++t') (by omega) l2 g4 g5 (by rw[ByteArray.size_append];omega) hQ;unfold bIn bOut at h22;dsimp only at h22;obtain⟨b',hb⟩:∃b',b'=a++t':=⟨_,rfl⟩
     rw[<- hb]at h22 hN;have hN1:=hN 1 (by decide) (by decide);have hN2:=hN 2 (by decide) (by decide);have hN3:=hN 3 (by decide) (by decide);clear hb hQ hN;obtain rfl|rfl|rfl:=hk
     all_goals(unfold txB;apply AWp.wk tF mF [(22,[(1,zT,[(1000,boxC s j w' 0),(1001,bldC 1001 1001001001 1 b'),(1001001001,bldR 1 b')])])] aod ?_)
     all_goals(repeat' with_reducible first|exact nY|refine oC ?_ ?_|refine vQ ?_ ?_ ?_|refine cV (fun _=>?_) fun _=>?_|refine wQ ?_|fail)
     all_goals(try(exact absurd ‹s.size<=p› c1))
     all_goals(try(exact absurd ‹((s.data[p]?.getD 0).toNat:Int)=34› c2))
     all_goals(try(exact absurd c3 ‹¬((s.data[p]?.getD 0).toNat:Int)=92›))
     all_goals(try exact zB)
     all_goals(all_goals try first|with_reducible (refine rE ?_;cbv;simp only[wl,nc];done)|with_reducible (refine rQ ?_;repeat' first|apply And.intro|exact wZ)|(refine sQ ?_;repeat' first|with_reducible apply And.intro|exact cZ))
     all_goals(first|(refine dE (ι:=Nat×Nat×ByteArray×Int×Int) (μ:=fun q=>2*(s.size-q.1)+if q.2.2.2.2=0 then 1 else 0) (i:=(p,1,a,w',0)) (j,1,b',w',0) hN1 ?_;(first|exact aZ|focus(refine aQ ?_;repeat' first|with_reducible apply And.intro|exact wZ|fail));done)|(refine dE (ι:=Nat×Nat×ByteArray×Int×Int) (μ:=fun q=>2*(s.size-q.1)+if q.2.2.2.2=0 then 1 else 0) (i:=(p,2,a,w',0)) (j,2,b',w',0) hN2 ?_;(first|exact aZ|focus(refine aQ ?_;repeat' first|with_reducible apply And.intro|exact wZ|fail));done)|(refine dE (ι:=Nat×Nat×ByteArray×Int×Int) (μ:=fun q=>2*(s.size-q.1)+if q.2.2.2.2=0 then 1 else 0) (i:=(p,3,a,w',0)) (j,3,b',w',0) hN3 ?_;(first|exact aZ|focus(refine aQ ?_;repeat' first|with_reducible apply And.intro|exact wZ|fail));done))
  rw[if_neg c3]at hQ;replace c3:¬((s.data[p]?.getD 0).toNat:Int)=92:=c3;by_cases c4:byt s p<32∨byt s p=127
  ·rw[if_pos c4]at hQ;have h24:Af Tryz.prog 109 [.ptr 1000 0,.int .i64 fun _=>(p:Int),.int .i64 fun _=>6] [(1000,boxC s p w' 0)] (.tup []) [(1000,boxC s p p 6)]:=by
    have:=anT s p w' 0 p 6
    rwa [if_pos rfl,if_pos rfl]at this
   have hN:=hE p p 6 (by decide) (Nat.le_refl _) e1 hQ.symm;replace c4:((s.data[p]?.getD 0).toNat:Int)<32∨((s.data[p]?.getD 0).toNat:Int)=127:=c4;obtain rfl|rfl|rfl|rfl:=hk
   all_goals(unfold txB;apply AWp.wk tF mF [(24,[(5,zT,[(1000,boxC s p p 6)])])] aod ?_)
   all_goals(repeat' with_reducible first|exact nY|refine oC ?_ ?_|refine vQ ?_ ?_ ?_|refine cV (fun _=>?_) fun _=>?_|refine wQ ?_|fail)
   all_goals(try(exact absurd ‹s.size<=p› c1))
   all_goals(try(exact absurd ‹((s.data[p]?.getD 0).toNat:Int)=34› c2))
   all_goals(try(exact absurd ‹((s.data[p]?.getD 0).toNat:Int)=92› c3))
   all_goals(try(exact absurd c4 (fun q=>‹32<=((s.data[p]?.getD 0).toNat:Int)∧¬((s.data[p]?.getD 0).toNat:Int)=127›.elim fun q1 q2=>q.elim (fun r=>absurd q1 (Int.not_le.2 r)) q2)))
   all_goals(try simp only[Int.toNat_natCast])
   all_goals(try exact zB)
   all_goals(all_goals try first|with_reducible (refine rE ?_;cbv;simp only[wl,nc];done)|with_reducible (refine rQ ?_;repeat' first|apply And.intro|exact wZ)|(refine sQ ?_;repeat' first|with_reducible apply And.intro|exact cZ))
   all_goals(first|refine dE (ι:=Nat×Nat×ByteArray×Int×Int) (μ:=fun q=>2*(s.size-q.1)+if q.2.2.2.2=0 then 1 else 0) (i:=(p,0,a,w',0)) (p,0,a,(p:Int),6) hN ?_|refine dE (ι:=Nat×Nat×ByteArray×Int×Int) (μ:=fun q=>2*(s.size-q.1)+if q.2.2.2.2=0 then 1 else 0) (i:=(p,1,a,w',0)) (p,1,a,(p:Int),6) hN ?_|refine dE (ι:=Nat×Nat×ByteArray×Int×Int) (μ:=fun q=>2*(s.size-q.1)+if q.2.2.2.2=0 then 1 else 0) (i:=(p,2,a,w',0)) (p,2,a,(p:Int),6) hN ?_|refine dE (ι:=Nat×Nat×ByteArray×Int×Int) (μ:=fun q=>2*(s.size-q.1)+if q.2.2.2.2=0 then 1 else 0) (i:=(p,3,a,w',0)) (p,3,a,(p:Int),6) hN ?_)
   all_goals(first|exact aZ|focus(refine aQ ?_;repeat' first|with_reducible apply And.intro|exact wZ|fail))
  rw[if_neg c4]at hQ;have hc4:¬(((s.data[p]?.getD 0).toNat:Int)<32∨((s.data[p]?.getD 0).toNat:Int)=127):=c4;have h11:=aqm s p (by omega) hs;by_cases c5:dcE s p=true
  ·rw[if_pos c5]at hQ;rw[if_pos c5,if_pos c5,if_pos c5]at h11;have h13:Af Tryz.prog 109 [.ptr 1000 0,.int .i64 fun _=>(p:Int),.int .i64 fun _=>16] [(1000,boxC s p w' 0)] (.tup []) [(1000,boxC s p p 16)]:=by
    have:=anT s p w' 0 p 16
    rwa [if_pos rfl,if_pos rfl]at this
   have hN:=hE p p 16 (by decide) (Nat.le_refl _) e1 hQ.symm;obtain rfl|rfl|rfl|rfl:=hk
   all_goals(unfold txB;apply AWp.wk tF mF [(11,[(8,.tup [zI 0,zI 0,zI 16],[])]),(13,[(5,zT,[(1000,boxC s p p 16)])])] aod ?_)
   all_goals(repeat' with_reducible first|exact nY|refine oC ?_ ?_|refine vQ ?_ ?_ ?_|refine cV (fun _=>?_) fun _=>?_|refine wQ ?_|fail)
   all_goals(try(exact absurd ‹s.size<=p› c1))
   all_goals(try(exact absurd ‹((s.data[p]?.getD 0).toNat:Int)=34› c2))
   all_goals(try(exact absurd ‹((s.data[p]?.getD 0).toNat:Int)=92› c3))
   all_goals(try(exact absurd ‹((s.data[p]?.getD 0).toNat:Int)<32∨((s.data[p]?.getD 0).toNat:Int)=127› hc4))
   all_goals(try(exact absurd ‹(16:Int)=0› (by decide)))
   all_goals(try simp only[Int.toNat_natCast])
   all_goals(try exact zB)
   all_goals(all_goals try first|with_reducible (refine rE ?_;cbv;simp only[wl,nc];done)|with_reducible (refine rQ ?_;repeat' first|apply And.intro|exact wZ)|(refine sQ ?_;repeat' first|with_reducible apply And.intro|exact cZ))
   all_goals(first|refine dE (ι:=Nat×Nat×ByteArray×Int×Int) (μ:=fun q=>2*(s.size-q.1)+if q.2.2.2.2=0 then 1 else 0) (i:=(p,0,a,w',0)) (p,0,a,(p:Int),16) hN ?_|refine dE (ι:=Nat×Nat×ByteArray×Int×Int) (μ:=fun q=>2*(s.size-q.1)+if q.2.2.2.2=0 then 1 else 0) (i:=(p,1,a,w',0)) (p,1,a,(p:Int),16) hN ?_|refine dE (ι:=Nat×Nat×ByteArray×Int×Int) (μ:=fun q=>2*(s.size-q.1)+if q.2.2.2.2=0 then 1 else 0) (i:=(p,2,a,w',0)) (p,2,a,(p:Int),16) hN ?_|refine dE (ι:=Nat×Nat×ByteArray×Int×Int) (μ:=fun q=>2*(s.size-q.1)+if q.2.2.2.2=0 then 1 else 0) (i:=(p,3,a,w',0)) (p,3,a,(p:Int),16) hN ?_)
   all_goals(first|exact aZ|focus(refine aQ ?_;repeat' first|with_reducible apply And.intro|exact wZ|fail))
  rw[if_neg c5]at hQ;rw[if_neg c5,if_neg c5,if_neg c5]at h11;obtain⟨z1,z2⟩:=aqd s p (Nat.lt_of_not_le c1);have hx:(s.extract p (p+(Utf8.decode s p).2)).size=(Utf8.decode s p).2:=by rw[ByteArray.size_extract];omega
  have hwz:IntKind.i64.wrap ((p:Int)+((Utf8.decode s p).2:Int))=((p+(Utf8.decode s p).2:Nat):Int):=(w64 (by omega) (by omega)).trans (by omega);generalize ((Utf8.decode s p).1:Int)=rn at*;generalize (Utf8.decode s p).2=z at*;obtain⟨J,hJ⟩:∃J,J=p+z:=⟨_,rfl⟩
  rw[<- hJ]at hQ hx hwz z2;have hX:∀X,X=s.extract p J->X.size=z:=fun X h=>by rw[h];exact hx
  have hx2:(J:Int).toNat=J:=Int.toNat_natCast _;obtain rfl|hk:=hk
  ·obtain rfl:=e3 rfl;have h14:=apL (s.extract p J) none (by omega) (fun a h=>by cases h);rw[show(⟨#[]⟩:ByteArray)++s.extract p J=s.extract p J from ByteArray.empty_append]at hQ;have hN:=hI J 1 (s.extract p J) (by omega) z2 (by decide) (by decide) (by omega) hQ;unfold wsI wsO at h14;clear hQ hX;obtain⟨X,hX⟩:∃X,X=s.extract p J:=⟨_,rfl⟩
   rw[<- hX]at h14 hN hx;unfold txB;apply AWp.wk tF mF [(11,[(8,.tup [zI rn,.int .i64 fun _=>(z:Int),zI 0],[])]),(14,[(15,.tup [.int .i64 fun _=>(X.size:Int),.ifc fun _=>true],[(1000,bldC 1000 14 1 X),(14,bldR 1 X)])])] aod ?_
   (repeat' with_reducible first|exact nY|refine oC ?_ ?_|refine vQ ?_ ?_ ?_|refine cV (fun _=>?_) fun _=>?_|refine wQ ?_|fail)
   all_goals(try(exact absurd ‹s.size<=p› c1))
   all_goals(try(exact absurd ‹((s.data[p]?.getD 0).toNat:Int)=34› c2))
   all_goals(try(exact absurd ‹((s.data[p]?.getD 0).toNat:Int)=92› c3))
   all_goals(try(exact absurd ‹((s.data[p]?.getD 0).toNat:Int)<32∨((s.data[p]?.getD 0).toNat:Int)=127› hc4))
   all_goals(try(exact absurd ‹¬True› (fun g=>g trivial)))
   all_goals(try simp only[hwz,hx2,Int.toNat_natCast,<- hX])
   all_goals(try exact zB)
   (all_goals try first|with_reducible (refine rE ?_;cbv;simp only[wl,nc];done)|with_reducible (refine rQ ?_;repeat' first|apply And.intro|exact wZ)|(refine sQ ?_;repeat' first|with_reducible apply And.intro|exact cZ))
   refine dE (ι:=Nat×Nat×ByteArray×Int×Int) (μ:=fun q=>2*(s.size-q.1)+if q.2.2.2.2=0 then 1 else 0) (i:=(p,0,⟨#[]⟩,w',0)) (J,1,X,w',0) hN ?_
   exact aZ
  ·have h14:=apL (s.extract p J) (some a) (by omega) (fun x h=>by cases h;omega);have hN:=fun k' g4 g5=>hI J k' (a++s.extract p J) (by omega) z2 g4 g5 (by rw[ByteArray.size_append];omega) hQ;unfold wsI wsO at h14;clear hQ hX;obtain⟨X,hX⟩:∃X,X=s.extract p J:=⟨_,rfl⟩
   rw[<- hX]at h14 hN hx;dsimp only at h14;obtain⟨b',hb⟩:∃b',b'=a++X:=⟨_,rfl⟩
   rw[<- hb]at h14 hN;have hN1:=hN 1 (by decide) (by decide);have hN2:=hN 2 (by decide) (by decide);have hN3:=hN 3 (by decide) (by decide);clear hb hN;obtain rfl|rfl|rfl:=hk
   all_goals(unfold txB;apply AWp.wk tF mF [(11,[(8,.tup [zI rn,.int .i64 fun _=>(z:Int),zI 0],[])]),(14,[(15,.tup [.int .i64 fun _=>(X.size:Int),.ifc fun _=>true],[(1000,bldC 1000 1001000001 1 b'),(1001000001,bldR 1 b')])])] aod ?_)
   all_goals(repeat' with_reducible first|exact nY|refine oC ?_ ?_|refine vQ ?_ ?_ ?_|refine cV (fun _=>?_) fun _=>?_|refine wQ ?_|fail)
   all_goals(try(exact absurd ‹s.size<=p› c1))
   all_goals(try(exact absurd ‹((s.data[p]?.getD 0).toNat:Int)=34› c2))
   all_goals(try(exact absurd ‹((s.data[p]?.getD 0).toNat:Int)=92› c3))
   all_goals(try(exact absurd ‹((s.data[p]?.getD 0).toNat:Int)<32∨((s.data[p]?.getD 0).toNat:Int)=127› hc4))
   all_goals(try simp only[hwz,hx2,Int.toNat_natCast,<- hX])
   all_goals(try exact zB)
   all_goals(all_goals try first|with_reducible (refine rE ?_;cbv;simp only[wl,nc];done)|with_reducible (refine rQ ?_;repeat' first|apply And.intro|exact wZ)|(refine sQ ?_;repeat' first|with_reducible apply And.intro|exact cZ))
   all_goals(first|(refine dE (ι:=Nat×Nat×ByteArray×Int×Int) (μ:=fun q=>2*(s.size-q.1)+if q.2.2.2.2=0 then 1 else 0) (i:=(p,1,a,w',0)) (J,1,b',w',0) hN1 ?_;(first|exact aZ|focus(refine aQ ?_;repeat' first|with_reducible apply And.intro|exact wZ|fail));done)|(refine dE (ι:=Nat×Nat×ByteArray×Int×Int) (μ:=fun q=>2*(s.size-q.1)+if q.2.2.2.2=0 then 1 else 0) (i:=(p,2,a,w',0)) (J,2,b',w',0) hN2 ?_;(first|exact aZ|focus(refine aQ ?_;repeat' first|with_reducible apply And.intro|exact wZ|fail));done)|(refine dE (ι:=Nat×Nat×ByteArray×Int×Int) (μ:=fun q=>2*(s.size-q.1)+if q.2.2.2.2=0 then 1 else 0) (i:=(p,3,a,w',0)) (J,3,b',w',0) hN3 ?_;(first|exact aZ|focus(refine aQ ?_;repeat' first|with_reducible apply And.intro|exact wZ|fail));done))
 ·have hZ:=e6 he;rw[hZ]at hR;dsimp only at hR;subst hR;obtain rfl|rfl|rfl|rfl:=hk
  all_goals(unfold txB;apply AWp.wk tF mF [] aod ?_)
  all_goals(repeat' with_reducible first|exact nY|refine oC ?_ ?_|refine vQ ?_ ?_ ?_|refine cV (fun _=>?_) fun _=>?_|refine wQ ?_|fail)
  all_goals(try(exact absurd ‹e=0› he))
  all_goals(all_goals try first|with_reducible (refine rE ?_;cbv;simp only[wl,nc];done)|with_reducible (refine rQ ?_;repeat' first|apply And.intro|exact wZ)|(refine sQ ?_;repeat' first|with_reducible apply And.intro|exact cZ))
def apa(c:Int):Af Tryz.prog 160 [.int .u8 fun _=>c] [] (.int .i64 fun _=>hexV c) []:=by
 have h:=aeb hxdB (if 65<=c∧c<=70 then c+32 else c);unfold hexV;generalize idxB hxdB (if 65<=c∧c<=70 then c+32 else c)=n at*;by_cases q:65<=c∧c<=70
 ·rw[if_pos q]at h;have hw:IntKind.u8.wrap (c+32)=c+32:=by
   unfold IntKind.wrap;simp[IntKind.bits,IntKind.signed];omega
  (refine fA [.tmp 2] kp160 [(3,[(1,zI n,[])])] Tryz.func160 fun _=>?_;repeat' with_reducible first|exact⟨⟩|refine mA ?_ ?_|refine mC (fun _=>?_) fun _=>?_)
  all_goals(try simp only[hw])
  all_goals(try(exfalso;omega))
  all_goals(try exact zB)
  all_goals exact eZ
 ·rw[if_neg q]at h
  (refine fA [.tmp 2] kp160 [(3,[(1,zI n,[])])] Tryz.func160 fun _=>?_;repeat' with_reducible first|exact⟨⟩|refine mA ?_ ?_|refine mC (fun _=>?_) fun _=>?_)
  all_goals(try(exfalso;omega))
  all_goals(try exact zB)
  all_goals exact eZ
def hxB(c:Int):Bool:=decide (0<=hexV c)
def hxB_ok(c:Int):Af Tryz.prog 159 [.int .u8 fun _=>c] [] (.bool fun _=>hxB c) []:=by
 have h:=apa c;unfold hxB;generalize hexV c=n at*
 (refine fA [.tmp 2] kp159 [(1,[(1,zI n,[])])] Tryz.func159 fun _=>?_;repeat' with_reducible first|exact⟨⟩|refine mA ?_ ?_|refine mC (fun _=>?_) fun _=>?_)
 all_goals(try exact zB)
 all_goals exact eZ
theorem aoH{s:ByteArray}{p:Int->Bool}:∀n i m,i<=m->m<runL s p n i->p (byt s m)=true
 | 0,i,m,h,g=>absurd (show m<i from g) (by omega)
 | n+1,i,m,h,g=>by
  simp only[runL]at g;split at g
  ·rename_i q;by_cases e:m=i
   ·rw[e];exact q.2
   ·exact aoH n (i+1) m (by omega) g
  ·omega
def pbB(x:ByteArray)(k:Nat):UInt8:=(hexV (byt x (2*k))*16+hexV (byt x (2*k+1))).toNat.toUInt8
def unL(x:ByteArray):Nat->ByteArray
 | 0=>⟨#[]⟩
 | k+1=>unL x k++⟨#[pbB x k]⟩
theorem aoo(x:ByteArray):∀k,(unL x k).size=k
 | 0=>rfl
 | k+1=>by
  show(unL x k++⟨#[pbB x k]⟩).size=k+1;rw[ByteArray.size_append,aoo x k];rfl
def Tok.setB(t:Tok)(v:ByteArray):Tok:=mk 4 t.line t.col t.text v t.num t.scale t.joined
def bytR(s:ByteArray)(i:Nat)(w:Int)(t:Tok):Nat×Int×Int×Tok:=
 if s.size<=aag s hxB (i+2)then(aag s hxB (i+2),s.size,29,t.set 4 t.text)
 else if byt s (aag s hxB (i+2))≠34∨(aag s hxB (i+2)-(i+2))%2≠0 then(aag s hxB (i+2),(aag s hxB (i+2):Nat),13,t.set 4 t.text)
 else(aag s hxB (i+2)+1,if 1024<(aag s hxB (i+2)-(i+2))/2 then i else w,if 1024<(aag s hxB (i+2)-(i+2))/2 then 5 else 0,t.setB (unL (s.extract (i+2) (aag s hxB (i+2))) ((aag s hxB (i+2)-(i+2))/2)))
def ubS(x:ByteArray):Nat->List (Nat×AO)
 | 0=>[(7,.box [.tnil 179,.nil])]
 | k+1=>[(7,bldC 7 590014 1 (unL x (k+1))),(590014,bldR 1 (unL x (k+1)))]
def aqk(s:ByteArray)(i:Nat)(w:Int)(t:Tok)(hs:s.size<=1073741824)(hi:i<s.size)(hq:byt s i=120∧byt s (i+1)=34):
 Meth 103 s i w 0 t true (bytR s i w t).1 (bytR s i w t).2.1 (bytR s i w t).2.2.1 (bytR s i w t).2.2.2:=by
 obtain⟨q1,q2⟩:=hq;have hi2:i+2<=s.size:=by have:=anw (s:=s) (i:=i+1) (by rw[q2];decide);omega
 have h0:=aaH s i 0 w 0 (by omega) (by omega);have h1:=aaH s i 1 w 0 (by omega) (by omega);rw[show i+0=i from rfl,q1]at h0;rw[q2]at h1;have h6:=ajp s (i+2) w 0 hs hi2 159 hxB hxB_ok;have hjl:=abb (s:=s) (p:=hxB) hi2;have hall:∀m,i+2<=m->m<aag s hxB (i+2)->0<=hexV (byt s m):=fun m a b=>of_decide_eq_true (aoH _ _ m a b);obtain⟨R,hR⟩:∃R,R=bytR s i w t:=⟨_,rfl⟩
 rw[<- hR];unfold bytR at hR;generalize aag s hxB (i+2)=j at*;have hw2:IntKind.i64.wrap ((i:Int)+2)=((i+2:Nat):Int):=(w64 (by omega) (by omega)).trans (by omega);have hx:(s.extract (i+2) j).size=j-(i+2):=by rw[ByteArray.size_extract];omega
 have hxb:∀m,m<j-(i+2)->byt (s.extract (i+2) j) m=byt s (i+2+m):=fun m h=>aok h hjl.2
 generalize s.extract (i+2) j=x at*;have hf:∀(v c:Int),Af Tryz.prog 109 [.ptr 1000 0,.int .i64 fun _=>v,.int .i64 fun _=>c] [(1000,boxC s j w 0)] (.tup []) [(1000,boxC s j v c)]:=fun v c=>by
  have:=anT s j w 0 v c
  rwa [if_pos rfl,if_pos rfl]at this
 unfold Meth;by_cases c1:s.size<=j
 ·rw[if_pos c1]at hR;obtain⟨z,hz⟩:∃z:Int,z=(s.size:Int):=⟨_,rfl⟩
  have h16:=hf s.size 29;rw[show boxC s j s.size 29=boxC s j z 29 by rw[hz]]at h16;rw[<- hz]at hR;subst hR
  (refine fA [.tmp 4] aoM [(1,[(1,.int .u8 fun _=>120,[(1000,boxC s i w 0)]),(5,.int .u8 fun _=>34,[(1000,boxC s i w 0)])]),(6,[(1,zR x,[(1000,boxC s j w 0)])]),(16,[(6,zT,[(1000,boxC s j z 29)])])] Tryz.func103 fun _=>?_;repeat' with_reducible first|exact⟨⟩|refine mA ?_ ?_|refine mC (fun _=>?_) fun _=>?_)
  all_goals(try simp only[ite_self,hw2])
  all_goals(try exact zB)
  all_goals(try(exact absurd trivial (‹¬True∨¬True›.elim id id)))
  all_goals(try(exact absurd c1 (Nat.not_le.2 ‹j<s.size›)))
  (all_goals try first|(refine qC ?_;repeat' with_reducible first|exact⟨⟩|refine mA ?_ ?_))
  all_goals(try rfl)
 rw[if_neg c1]at hR;by_cases c2:byt s j≠34∨(j-(i+2))%2≠0
 ·rw[if_pos c2]at hR;subst hR;have h18:=hf j 13;have hxm:IntKind.i64.wrap ((x.size:Int).tmod 2)=((x.size%2:Nat):Int):=by rw[Int.tmod_eq_emod_of_nonneg (by omega)];exact(w64 (by omega) (by omega)).trans (by omega)
  obtain⟨c,hc⟩:∃c,c=byt s j:=⟨_,rfl⟩
  rw[<- hc]at c2;have hc3:((s.data[j]?.getD 0).toNat:Int)=c:=hc.symm
  (refine fA [.tmp 4] aoM [(1,[(1,.int .u8 fun _=>120,[(1000,boxC s i w 0)]),(5,.int .u8 fun _=>34,[(1000,boxC s i w 0)])]),(6,[(1,zR x,[(1000,boxC s j w 0)])]),(18,[(5,zT,[(1000,boxC s j j 13)])]),(13,[(1,.any,[])]),(14,[(6,zT,[])])] Tryz.func103 fun _=>?_;repeat' with_reducible first|exact⟨⟩|refine mA ?_ ?_|refine mC (fun _=>?_) fun _=>?_)
  all_goals(try simp only[ite_self,hw2,Int.toNat_natCast,hc3])
  all_goals(try exact zB)
  all_goals(try(exact absurd trivial (‹¬True∨¬True›.elim id id)))
  all_goals(try(exact absurd ‹s.size<=j› c1))
  all_goals(try(have g:=‹((s.data[j]?.getD 0).toNat:Int)=34∧(x.size:Int).tmod 2=0›;rw[Int.tmod_eq_emod_of_nonneg (by omega)]at g;exfalso;omega))
  (all_goals try first|(refine qC ?_;repeat' with_reducible first|exact⟨⟩|refine mA ?_ ?_))
  all_goals(try rfl)
 rw[if_neg c2]at hR;have c3:byt s j=34:=Decidable.not_not.1 fun g=>c2 (.inl g);have c4:(j-(i+2))%2=0:=Decidable.not_not.1 fun g=>c2 (.inr g);clear c2;obtain⟨K,hK⟩:∃K,K=(j-(i+2))/2:=⟨_,rfl⟩
 rw[<- hK]at hR;have hxK:x.size=2*K:=by omega
 have hdig:∀m,m<x.size->0<=hexV (byt x m)∧hexV (byt x m)<16:=fun m h=>by
  rw[hxb m (by omega)];exact⟨hall _ (by omega) (by omega),ao3 _⟩
 have hpb:∀k,k<K->((pbB x k).toNat:Int)=hexV (byt x (2*k))*16+hexV (byt x (2*k+1)):=fun k h=>by
  have a:=hdig (2*k) (by omega);have b:=hdig (2*k+1) (by omega);unfold pbB;generalize hexV (byt x (2*k))=u at*;generalize hexV (byt x (2*k+1))=v at*;show(((u*16+v).toNat%256:Nat):Int)=_;omega
 clear hxb hall hf;have h19:=aq2 s (unL x K) (j+1) w 0 i;simp only[and_true,aoo]at h19;obtain⟨v,hv⟩:∃v,v=(if 1024<K then(i:Int)else w):=⟨_,rfl⟩
 obtain⟨u,hu⟩:∃u,u=(if 1024<K then(5:Int)else 0):=⟨_,rfl⟩
 rw[<- hv,<- hu]at h19 hR;have hj1:IntKind.i64.wrap ((j:Int)+1)=((j+1:Nat):Int):=w64n (by omega);have c5:((s.data[j]?.getD 0).toNat:Int)=34:=c3;have hus:=aoo x;subst hR;rcases Nat.eq_zero_or_pos K with hK0|hK0
 ·subst hK0
  (refine fA [.tmp 4] aoM [(1,[(1,.int .u8 fun _=>120,[(1000,boxC s i w 0)]),(5,.int .u8 fun _=>34,[(1000,boxC s i w 0)])]),(6,[(1,zR x,[(1000,boxC s j w 0)])]),(13,[(1,.str fun _=>⟨#[]⟩,[(1000,.box [.tnil 179,.nil])])]),(14,[(6,zT,[(1000,boxC s (j+1) v u)])])] Tryz.func103 fun _=>?_;repeat' with_reducible first|exact⟨⟩|refine mA ?_ ?_|refine mC (fun _=>?_) fun _=>?_)
  all_goals(try simp only[ite_self,hw2,Int.toNat_natCast])
  all_goals(try exact zB)
  all_goals(try(exact absurd trivial (‹¬True∨¬True›.elim id id)))
  all_goals(try(exact absurd ‹s.size<=j› c1))
  all_goals(try(exact absurd ‹¬((s.data[j]?.getD 0).toNat:Int)=34∨¬(x.size:Int).tmod 2=0› (fun g=>by rw[Int.tmod_eq_emod_of_nonneg (by omega)]at g;omega)))
  (all_goals try first|(refine qC ?_;repeat' with_reducible first|exact⟨⟩|refine mA ?_ ?_))
  refine .loop (fun k:Nat=>⟨111,[(8,.int .i64 fun _=>0),(7,.ptr 7 0),(6,.str fun _=>x),(5,.int .i64 fun _=>(i:Int)),(0,.ptr 1000 0),(1,.ptr 1001 0)],(1000,boxC s (j+1) w 0)::(1001,boxK (t.set 4 t.text))::[(7,.box [.tnil 179,.nil])]⟩) (fun k=>k=0) (fun k=>0) 0 rfl ?_ fun k E hk=>?_
  ·(first|exact aZ|focus(refine aQ ?_;repeat' first|with_reducible apply And.intro|exact wZ|fail))
   all_goals(try exact hj1)
  apply AWp.wk tF mF [(12,[(3,zI 0,[]),(9,zI 0,[]),(12,.any,[(1000,.box [.any,.any])])])] aoM ?_
  (refine oA ?_;repeat' with_reducible first|exact⟨⟩|refine mA ?_ ?_|refine mC (fun _=>?_) fun _=>?_)
  all_goals(try(exfalso;omega))
  any_goals((with_reducible refine nO ?_);first|exact apw|exact h19)
  (all_goals try first|(refine qC ?_;repeat' with_reducible first|exact⟨⟩|refine mA ?_ ?_))
  all_goals(try rfl)
 ·obtain⟨acc,hacc⟩:∃a,a=unL x K:=⟨_,rfl⟩
  rw[<- hacc]at h19 ⊢
  (refine fA [.tmp 4] aoM [(1,[(1,.int .u8 fun _=>120,[(1000,boxC s i w 0)]),(5,.int .u8 fun _=>34,[(1000,boxC s i w 0)])]),(6,[(1,zR x,[(1000,boxC s j w 0)])]),(13,[(1,zR acc,[(1000,bldC 1000 1001000001 0 acc),(1001000001,agE acc)])]),(14,[(6,zT,[(1000,boxC s (j+1) v u)])])] Tryz.func103 fun _=>?_;repeat' with_reducible first|exact⟨⟩|refine mA ?_ ?_|refine mC (fun _=>?_) fun _=>?_)
  all_goals(try simp only[ite_self,hw2,Int.toNat_natCast])
  all_goals(try exact zB)
  all_goals(try(exact absurd trivial (‹¬True∨¬True›.elim id id)))
  all_goals(try(exact absurd ‹s.size<=j› c1))
  all_goals(try(exact absurd ‹¬((s.data[j]?.getD 0).toNat:Int)=34∨¬(x.size:Int).tmod 2=0› (fun g=>by rw[Int.tmod_eq_emod_of_nonneg (by omega)]at g;omega)))
  (all_goals try first|(refine qC ?_;repeat' with_reducible first|exact⟨⟩|refine mA ?_ ?_))
  refine .loop (fun k:Nat=>⟨111,[(8,.int .i64 fun _=>((2*k:Nat):Int)),(7,.ptr 7 0),(6,.str fun _=>x),(5,.int .i64 fun _=>(i:Int)),(0,.ptr 1000 0),(1,.ptr 1001 0)],(1000,boxC s (j+1) w 0)::(1001,boxK (t.set 4 t.text))::ubS x k⟩) (fun k=>k<=K) (fun k=>K-k) 0 (Nat.zero_le _) ?_ fun k E hk=>?_
  ·unfold ubS
   (first|exact aZ|focus(refine aQ ?_;repeat' first|with_reducible apply And.intro|exact wZ|fail))
   all_goals(try exact hj1)
  have ha:k=K->unL x k=acc:=fun g=>by rw[g,hacc]
  have e1:unL x (k+1)=unL x k++⟨#[pbB x k]⟩:=rfl;have hz:=hus k;have hp:=hpb k;have hd1:=hdig (2*k);have hd2:=hdig (2*k+1);have g1:=apa (byt x (2*k));have g2:=apa (byt x (2*k+1));have hor:=or4 (hexV (byt x (2*k))) (hexV (byt x (2*k+1)));obtain⟨b1,hb1⟩:∃b,b=byt x (2*k):=⟨_,rfl⟩
  obtain⟨b2,hb2⟩:∃b,b=byt x (2*k+1):=⟨_,rfl⟩
  rw[<- hb1]at hp hd1 g1 hor;rw[<- hb2]at hp hd2 g2 hor;have hq1:((x.data[2*k]?.getD 0).toNat:Int)=b1:=hb1.symm;have hq2:((x.data[2*k+1]?.getD 0).toNat:Int)=b2:=hb2.symm;clear hb1 hb2;generalize hexV b1=p1 at*;generalize hexV b2=p2 at*;generalize hcb:pbB x k=c at*;obtain⟨k2,hk2⟩:∃n,n=2*k:=⟨_,rfl⟩
  have hk3:2*(k+1)=k2+2:=by omega
  rw[<- hk2]at hq1 hq2 hd1 hd2;have hw3:IntKind.i64.wrap ((k2:Int)+1)=((k2+1:Nat):Int):=w64n (by omega);have hw4:IntKind.i64.wrap ((k2:Int)+2)=((k2+2:Nat):Int):=(w64 (by omega) (by omega)).trans (by omega);by_cases hn:k<K
  ·replace hp:=hp hn;replace hd1:=hd1 (by omega);replace hd2:=hd2 (by omega);replace hor:=hor (by omega) (by omega);have hw5:IntKind.u8.wrap (p1*16+p2)=(c.toNat:Int):=by
    rw[<- hp];have:=c.toNat_lt;unfold IntKind.wrap;simp[IntKind.bits,IntKind.signed];omega
   rcases k with _|n
   ·rw[show ubS x 0=[(7,.box [.tnil 179,.nil])]from rfl];have h12:=aph c;have hI:1<=K∧K-1<K-0:=⟨by omega,by omega⟩
    have e1:unL x 1=⟨#[c]⟩:=by rw[e1];exact ByteArray.empty_append
    rw[<- hk2];apply AWp.wk tF mF [(12,[(3,zI p1,[]),(9,zI p2,[]),(12,.ifc fun _=>true,[(1000,bldC 1000 14 1 ⟨#[c]⟩),(14,bldR 1 ⟨#[c]⟩)])])] aoM ?_
    (refine oA ?_;repeat' with_reducible first|exact⟨⟩|refine mA ?_ ?_|refine mC (fun _=>?_) fun _=>?_)
    all_goals(try(exfalso;omega))
    all_goals(try simp only[hw3,Int.toNat_natCast,hq1,hq2,hor,hw5])
    all_goals(try exact zB)
    (all_goals try first|(refine qC ?_;repeat' with_reducible first|exact⟨⟩|refine mA ?_ ?_))
    refine dE (ι:=Nat) (Inv:=fun k=>k<=K) (μ:=fun k=>K-k) (i:=0) 1 hI ?_;rw[hk3,show ubS x 1=[(7,bldC 7 590014 1 (unL x 1)),(590014,bldR 1 (unL x 1))]from rfl,e1]
    (first|exact aZ|focus(refine aQ ?_;repeat' first|with_reducible apply And.intro|exact wZ|fail))
    all_goals(try exact hw4)
   ·rw[show ubS x (n+1)=[(7,bldC 7 590014 1 (unL x (n+1))),(590014,bldR 1 (unL x (n+1)))]from rfl];have hI:n+1+1<=K∧K-(n+1+1)<K-(n+1):=⟨by omega,by omega⟩
    have h12:=aga c (unL x (n+1)) (by omega);rw[<- hk2];rw[<- e1]at h12;obtain⟨ac2,hac2⟩:∃a,a=unL x (n+1+1):=⟨_,rfl⟩
    rw[<- hac2]at h12;obtain⟨ac,hac⟩:∃a,a=unL x (n+1):=⟨_,rfl⟩
    rw[<- hac]at h12 ⊢;apply AWp.wk tF mF [(12,[(3,zI p1,[]),(9,zI p2,[]),(12,.ifc fun _=>true,[(1000,bldC 1000 1001000001 1 ac2),(1001000001,bldR 1 ac2)])])] aoM ?_
    (refine oA ?_;repeat' with_reducible first|exact⟨⟩|refine mA ?_ ?_|refine mC (fun _=>?_) fun _=>?_)
    all_goals(try(exfalso;omega))
    all_goals(try simp only[hw3,Int.toNat_natCast,hq1,hq2,hor,hw5])
    all_goals(try exact zB)
    (all_goals try first|(refine qC ?_;repeat' with_reducible first|exact⟨⟩|refine mA ?_ ?_))
    refine dE (ι:=Nat) (Inv:=fun k=>k<=K) (μ:=fun k=>K-k) (i:=n+1) (n+1+1) hI ?_;rw[hk3,show ubS x (n+1+1)=[(7,bldC 7 590014 1 (unL x (n+1+1))),(590014,bldR 1 (unL x (n+1+1)))]from rfl,<- hac2]
    (first|exact aZ|focus(refine aQ ?_;repeat' first|with_reducible apply And.intro|exact wZ|fail))
    all_goals(try exact hw4)
  ·replace ha:=ha (by omega);obtain⟨n,rfl⟩:∃n,k=n+1:=⟨k-1,by omega⟩
   rw[show ubS x (n+1)=[(7,bldC 7 590014 1 (unL x (n+1))),(590014,bldR 1 (unL x (n+1)))]from rfl];rw[<- hk2,ha];have hacs:acc.size=K:=by rw[hacc];exact hus K
   have h3:=anz acc (by omega);apply AWp.wk tF mF [(12,[(3,zI 0,[]),(9,zI 0,[]),(12,.any,[(1000,.box [.any,.any]),(1001000001,bldR 1 acc)])])] aoM ?_
   (refine oA ?_;repeat' with_reducible first|exact⟨⟩|refine mA ?_ ?_|refine mC (fun _=>?_) fun _=>?_)
   all_goals(try(exfalso;omega))
   all_goals(try exact zB)
   (all_goals try first|(refine qC ?_;repeat' with_reducible first|exact⟨⟩|refine mA ?_ ?_))
   all_goals(try rfl)
end Go.Ai
