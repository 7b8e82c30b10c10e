/- Chapter 15: the scanner: texts, all of them. -/
import Derived.Test.YtbagpkiomjlhkaaGreatDoorEsc
set_option linter.all false
namespace Go.Ai
open Go Go.Proofs Go.RowKit Tryz
set_option maxRecDepth 100000
set_option maxHeartbeats 4000000
def eG(s:ByteArray):Nat->Nat->ByteArray->(Nat×ByteArray) ⊕ (Nat×Int×Int)
 | 0,p,_=>.inr (p,0,1)
 | n+1,p,a=>
  if s.size<=p then .inr (p,s.size,29)
  else if ad s p=34 then .inl (p+1,a)
  else if ad s p=92 then match iT s p with
   | some (j,_,t)=>eG s n j (a++t)
   | none=>.inr ((j5 s p).1,p,(j5 s p).2)
  else if ad s p<32∨ad s p=127 then .inr (p,p,6)
  else if oG s p=true then .inr (p,p,16)
  else eG s n (p+(Utf8.decode s p).2) (a++s.extract p (p+(Utf8.decode s p).2))
def Tok.KR(t:Tok)(v:ByteArray):Tok:=mk 3 t.line t.col t.text v t.num t.scale t.joined
def mB(s:ByteArray)(i:Nat)(w:Int)(t:Tok):Nat×Int×Int×Tok:=match eG s (s.size+1) (i+1) ⟨#[]⟩with
 | .inl (j,v)=>(j,if 1024<v.size then i else w,if 1024<v.size then 5 else 0,t.KR v)
 | .inr (j,w',e)=>(j,w',e,t.set 3 t.text)
def jz(k:Nat)(a:ByteArray):List (Nat×AO):=match k with
 | 0=>[(6,.box [.bj 179,.nil])]
 | 1=>[(6,bc 6 960014 1 a),(960014,br 1 a)]
 | 2=>[(6,bc 6 1660014 1 a),(1660014,br 1 a)]
 | _+3=>[(6,bc 6 2740014 1 a),(2740014,br 1 a)]
def Md(s:ByteArray)(i:Nat)(h:i<s.size):1<=(Utf8.decode s i).2∧i+(Utf8.decode s i).2<=s.size:=by
 have h1:∀n a b c d:Nat,1<=n->1<=(Lib.decodeN n a b c d).2∧(Lib.decodeN n a b c d).2<=n:=fun n a b c d hn=>by
  unfold Lib.decodeN
  repeat' split
  all_goals(simp only;omega)
 rw[x6];have:=h1 (s.size-i) (s.get! i).toNat (s.get! (i+1)).toNat (s.get! (i+2)).toNat (s.get! (i+3)).toNat zo
 omega
def XY(s:ByteArray)(i:Nat)(w:Int)(t:Tok)(hs:s.size<=1073741824)(hi:i<s.size)(hq:ad s i=34):
 iy 106 s i w 0 t true (mB s i w t).1 (mB s i w t).2.1 (mB s i w t).2.2.1 (mB s i w t).2.2.2:=by
 obtain⟨R,hR⟩:∃R,R=mB s i w t:=⟨_,rfl⟩
 rw[<- hR];unfold mB at hR;have h0:=d7 s i 0 w 0 zo zo;rw[show i+0=i from rfl,hq]at h0;have hw1:IntKind.i64.wrap ((i:Int)+1)=((i+1:Nat):Int):=aS zo;unfold iy
 (apply Af.of tF mF [.tmp 4] jw [(1,[(1,.int .u8 fun _=>34,[(1000,ah s i w 0)])])] func106 (fun _=>?_);(repeat' with_reducible first|exact nY|refine oC ?_ ?_|refine vQ ?_ ?_ ?_|refine cV (fun _=>?_) fun _=>?_|refine wQ ?_|fail))
 all_goals(try simp only[hw1])
 all_goals try exact zB
 (all_goals try first|with_reducible (refine rE ?_;cbv;simp only[wl,nc];done)|with_reducible (refine rQ ?_;repeat' first|apply ai|exact wZ)|(refine sQ ?_;repeat' first|with_reducible apply ai|exact cZ))
 refine .loop (fun q:Nat×Nat×ByteArray×Int×Int=>⟨143,[(6,.ptr 6 0),(5,.int .i64 fun _=>(i:Int)),(0,.ptr 1000 0),(1,.ptr 1001 0)],(1000,ah s q.1 q.2.2.2.1 q.2.2.2.2)::(1001,bE (t.set 3 t.text))::jz q.2.1 q.2.2.1⟩)
  (fun q=>q.1<=s.size∧q.2.1<4∧(q.2.1=0->q.2.2.1=⟨#[]⟩)∧q.2.2.1.size<=q.1 ∧
    (q.2.2.2.2=0->q.2.2.2.1=w∧∃n,s.size-q.1<n∧eG s n q.1 q.2.2.1=eG s (s.size+1) (i+1) ⟨#[]⟩) ∧
    (q.2.2.2.2≠0->eG s (s.size+1) (i+1) ⟨#[]⟩=.inr (q.1,q.2.2.2.1,q.2.2.2.2)))
  (fun q=>2*(s.size-q.1)+if q.2.2.2.2=0 then 1 else 0) (i+1,0,⟨#[]⟩,w,0)
  ⟨hi,by show 0<4;omega,fun _=>rfl,aB _,fun _=>⟨rfl,s.size+1,by show s.size-(i+1)<s.size+1;omega,rfl⟩,fun q=>absurd rfl q⟩ ?_ fun q E hq=>?_
 ·unfold jz
  exact aZ
 obtain⟨p,k,a,w',e⟩:=q;obtain⟨e1,e2,e3,e4,e5,e6⟩:=hq;dsimp only at e1 e2 e3 e4 e5 e6;generalize eG s (s.size+1) (i+1) ⟨#[]⟩=Z at*;have hf:∀(v c:Int),Af prog 109 [.ptr 1000 0,.int .i64 fun _=>v,.int .i64 fun _=>c] [(1000,ah s p w 0)] (.ag []) [(1000,ah s p v c)]:=fun v c=>by
  have:=mm s p w 0 v c
  rwa [ae rfl,ae rfl]at this
 have hk:k=0∨k=1∨k=2∨k=3:=zo
 by_cases he:e=0
 ·subst he;obtain⟨rfl,n,hn,hQ⟩:=e5 rfl;clear e5 e6;obtain⟨m,rfl⟩:∃m,n=m+1:=⟨n-1,zo⟩
  unfold eG at hQ;by_cases c1:s.size<=p
  ·rw[ae c1]at hQ;rw[<- hQ]at hR;obtain⟨z,hz⟩:∃z:Int,z=(s.size:Int):=⟨_,rfl⟩
   have h9:=hf s.size 29;rw[show ah s p s.size 29=ah s p z 29 by rw[hz]]at h9;dsimp only at hR;rw[<- hz]at hR;subst hR;obtain rfl|rfl|rfl|rfl:=hk
   all_goals(unfold jz;apply af.wk tF mF [(9,[(6,zT,[(1000,ah s p z 29)])])] jw ?_)
   all_goals(repeat' with_reducible first|exact nY|refine oC ?_ ?_|refine vQ ?_ ?_ ?_|refine cV (fun _=>?_) fun _=>?_|refine wQ ?_|fail)
   all_goals try exact absurd c1 (Nat.not_le.2 ‹p<s.size›)
   all_goals try exact zB
   all_goals(all_goals try first|with_reducible (refine rE ?_;cbv;simp only[wl,nc];done)|with_reducible (refine rQ ?_;repeat' first|apply ai|exact wZ)|(refine sQ ?_;repeat' first|with_reducible apply ai|exact cZ))
  rw[aa c1]at hQ;by_cases c2:ad s p=34
  ·rw[ae c2]at hQ;rw[<- hQ]at hR;dsimp only at hR;subst hR;have h19:=Ka s a (p+1) w' 0 i;simp only[ay]at h19;replace c2:((s.data[p]?.getD 0).toNat:Int)=34:=c2;have h18:=yb a zo;have hw2:IntKind.i64.wrap ((p:Int)+1)=((p+1:Nat):Int):=aS zo;obtain rfl|hk:=hk
   ·obtain rfl:=e3 rfl;unfold jz;apply af.wk tF mF [(18,[(1,.str fun _=>⟨#[]⟩,[(1000,.box [.bj 179,.nil])])]),(19,[(6,zT,[(1000,ah s (p+1) w' 0)])])] jw ?_
    (repeat' with_reducible first|exact nY|refine oC ?_ ?_|refine vQ ?_ ?_ ?_|refine cV (fun _=>?_) fun _=>?_|refine wQ ?_|fail)
    all_goals try exact absurd ‹s.size<=p› c1
    all_goals try exact absurd c2 ‹_›
    all_goals(try simp only[hw2])
    any_goals((with_reducible refine nO ?_);first|exact EP|exact h19)
    (all_goals try first|with_reducible (refine rE ?_;cbv;simp only[wl,nc];done)|with_reducible (refine rQ ?_;repeat' first|apply ai|exact wZ)|(refine sQ ?_;repeat' first|with_reducible apply ai|exact cZ))
    all_goals rfl
   have hd:1024<a.size↔1024<(a.size:Int):=zo
   obtain⟨v,hv⟩:∃v,v=(if 1024<a.size then(i:Int)else w'):=⟨_,rfl⟩
   obtain⟨u,hu⟩:∃u,u=(if 1024<a.size then(5:Int)else 0):=⟨_,rfl⟩
   rw[<- hv,<- hu]at h19 ⊢;obtain rfl|rfl|rfl:=hk
   all_goals(unfold jz;apply af.wk tF mF [(18,[(1,zR a,[(1000,bc 1000 1001000001 0 a),(1001000001,lX a)])]),(19,[(6,zT,[(1000,ah s (p+1) v u)])])] jw ?_)
   all_goals(repeat' with_reducible first|exact nY|refine oC ?_ ?_|refine vQ ?_ ?_ ?_|refine cV (fun _=>?_) fun _=>?_|refine wQ ?_|fail)
   all_goals try exact absurd ‹s.size<=p› c1
   all_goals try exact absurd c2 ‹_›
   all_goals(try simp only[hw2])
   all_goals try exact zB
   all_goals(all_goals try first|with_reducible (refine rE ?_;cbv;simp only[wl,nc];done)|with_reducible (refine rQ ?_;repeat' first|apply ai|exact wZ)|(refine sQ ?_;repeat' first|with_reducible apply ai|exact cZ))
   all_goals(try rfl)
  rw[aa c2]at hQ;have hI:∀(j k':Nat) (a':ByteArray),p<j->j<=s.size->k'<4->k'≠0->a'.size<=j->eG s m j a'=Z ->
   (j<=s.size∧k'<4∧(k'=0->a'=⟨#[]⟩)∧a'.size<=j∧((0:Int)=0->w'=w'∧∃n,s.size-j<n∧eG s n j a'=Z)∧((0:Int)≠0->Z=.inr (j,w',0))) ∧
   (2*(s.size-j)+if(0:Int)=0 then 1 else 0)<(2*(s.size-p)+if(0:Int)=0 then 1 else 0):=fun j k' a' g1 g2 g3 g4 g5 g6=>
   ⟨⟨g2,g3,fun q=>absurd q g4,g5,fun _=>⟨rfl,m,zo,g6⟩,fun q=>absurd rfl q⟩,by rw[ae rfl];omega⟩
  have hE:∀(p':Nat) (v c:Int),c≠0->p<=p'->p'<=s.size->Z=.inr (p',v,c) ->
   (p'<=s.size∧k<4∧(k=0->a=⟨#[]⟩)∧a.size<=p'∧(c=0->v=w'∧∃n,s.size-p'<n∧eG s n p' a=Z)∧(c≠0->Z=.inr (p',v,c))) ∧
   (2*(s.size-p')+if c=0 then 1 else 0)<(2*(s.size-p)+if(0:Int)=0 then 1 else 0):=fun p' v c g1 g2 g3 g4=>
   ⟨⟨g3,e2,e3,zo,fun q=>absurd q g1,fun _=>g4⟩,by rw[aa g1,ae rfl];omega⟩
  replace c2:¬((s.data[p]?.getD 0).toNat:Int)=34:=c2;clear hR hf;by_cases c3:ad s p=92
  ·rw [ae c3]at hQ;replace c3:((s.data[p]?.getD 0).toNat:Int)=92:=c3;cases mL:iT s p with
   | none=>
    rw[mL]at hQ;dsimp only at hQ;obtain⟨l1,l2,l3,l4⟩:=IR (mS c1) mL;have hN:=hE (j5 s p).1 p (j5 s p).2 zo l1 l2 hQ.symm;have h22:=fun b=>Q3 s p w' b hs (mS c1) mL;clear hQ mL;generalize (j5 s p).1=p' at*;generalize (j5 s p).2=c at*;obtain rfl|hk:=hk
    ·have h22:=h22 none;unfold bIn at h22;unfold jz;apply af.wk tF mF [(22,[(1,zT,[(1000,ah s p' p c),(1001,.box [.bj 179,.nil])])])] jw ?_
     (repeat' with_reducible first|exact nY|refine oC ?_ ?_|refine vQ ?_ ?_ ?_|refine cV (fun _=>?_) fun _=>?_|refine wQ ?_|fail)
     all_goals try exact absurd ‹s.size<=p› c1
     all_goals try exact absurd ‹((s.data[p]?.getD 0).toNat:Int)=34› c2
     all_goals try exact absurd c3 ‹¬((s.data[p]?.getD 0).toNat:Int)=92›
     all_goals try exact zB
     (all_goals try first|with_reducible (refine rE ?_;cbv;simp only[wl,nc];done)|with_reducible (refine rQ ?_;repeat' first|apply ai|exact wZ)|(refine sQ ?_;repeat' first|with_reducible apply ai|exact cZ))
     refine dE (ι:=Nat×Nat×ByteArray×Int×Int) (μ:=fun q=>2*(s.size-q.1)+if q.2.2.2.2=0 then 1 else 0) (i:=(p,0,a,w',0)) (p',0,a,(p:Int),c) hN ?_
     exact aZ
    ·have h22:=h22 (some a);unfold bIn at h22;obtain rfl|rfl|rfl:=hk
     all_goals(unfold jz;apply af.wk tF mF [(22,[(1,zT,[(1000,ah s p' p c),(1001,bc 1001 1001001001 0 a),(1001001001,br 0 a)])])] jw ?_)
     all_goals(repeat' with_reducible first|exact nY|refine oC ?_ ?_|refine vQ ?_ ?_ ?_|refine cV (fun _=>?_) fun _=>?_|refine wQ ?_|fail)
     all_goals try exact absurd ‹s.size<=p› c1
     all_goals try exact absurd ‹((s.data[p]?.getD 0).toNat:Int)=34› c2
     all_goals try exact absurd c3 ‹¬((s.data[p]?.getD 0).toNat:Int)=92›
     all_goals try exact zB
     all_goals(all_goals try first|with_reducible (refine rE ?_;cbv;simp only[wl,nc];done)|with_reducible (refine rQ ?_;repeat' first|apply ai|exact wZ)|(refine sQ ?_;repeat' first|with_reducible apply ai|exact cZ))
     all_goals(first|refine dE (ι:=Nat×Nat×ByteArray×Int×Int) (μ:=fun q=>2*(s.size-q.1)+if q.2.2.2.2=0 then 1 else 0) (i:=(p,1,a,w',0)) (p',1,a,(p:Int),c) hN ?_|refine dE (ι:=Nat×Nat×ByteArray×Int×Int) (μ:=fun q=>2*(s.size-q.1)+if q.2.2.2.2=0 then 1 else 0) (i:=(p,2,a,w',0)) (p',2,a,(p:Int),c) hN ?_|refine dE (ι:=Nat×Nat×ByteArray×Int×Int) (μ:=fun q=>2*(s.size-q.1)+if q.2.2.2.2=0 then 1 else 0) (i:=(p,3,a,w',0)) (p',3,a,(p:Int),c) hN ?_)
     all_goals(first|exact aZ|focus(refine aQ ?_;repeat' first|with_reducible apply ai|exact wZ|fail))
   | some q=>
    obtain⟨j,kb,t'⟩:=q;rw[mL]at hQ;dsimp only at hQ;obtain⟨l1,l2,l3⟩:=IQ (mS c1) mL;have h22:=fun b ha=>Q0 s p w' b hs (mS c1) ha j kb t' mL;clear mL;obtain rfl|hk:=hk
    ·obtain rfl:=e3 rfl;have h22:=h22 none (fun a h=>by cases h);rw[show(⟨#[]⟩:ByteArray)++t'=t' from x7]at hQ;unfold bIn bOut at h22;cases kb with
     | true=>
      have hN:=hI j 2 t' zo l2 zd zd zo hQ;rw[ae rfl]at h22;unfold jz;apply af.wk tF mF [(22,[(1,zT,[(1000,ah s j w' 0),(1001,bc 1001 360014 1 t'),(360014,br 1 t')])])] jw ?_
      (repeat' with_reducible first|exact nY|refine oC ?_ ?_|refine vQ ?_ ?_ ?_|refine cV (fun _=>?_) fun _=>?_|refine wQ ?_|fail)
      all_goals try exact absurd ‹s.size<=p› c1
      all_goals try exact absurd ‹((s.data[p]?.getD 0).toNat:Int)=34› c2
      all_goals try exact absurd c3 ‹¬((s.data[p]?.getD 0).toNat:Int)=92›
      all_goals try exact zB
      (all_goals try first|with_reducible (refine rE ?_;cbv;simp only[wl,nc];done)|with_reducible (refine rQ ?_;repeat' first|apply ai|exact wZ)|(refine sQ ?_;repeat' first|with_reducible apply ai|exact cZ))
      refine dE (ι:=Nat×Nat×ByteArray×Int×Int) (μ:=fun q=>2*(s.size-q.1)+if q.2.2.2.2=0 then 1 else 0) (i:=(p,0,⟨#[]⟩,w',0)) (j,2,t',w',0) hN ?_
      exact aZ
     | false=>
      have hN:=hI j 3 t' zo l2 zd zd zo hQ;rw[aa zd]at h22;unfold jz;apply af.wk tF mF [(22,[(1,zT,[(1000,ah s j w' 0),(1001,bc 1001 1440014 1 t'),(1440014,br 1 t')])])] jw ?_
      (repeat' with_reducible first|exact nY|refine oC ?_ ?_|refine vQ ?_ ?_ ?_|refine cV (fun _=>?_) fun _=>?_|refine wQ ?_|fail)
      all_goals try exact absurd ‹s.size<=p› c1
      all_goals try exact absurd ‹((s.data[p]?.getD 0).toNat:Int)=34› c2
      all_goals try exact absurd c3 ‹¬((s.data[p]?.getD 0).toNat:Int)=92›
      all_goals try exact zB
      (all_goals try first|with_reducible (refine rE ?_;cbv;simp only[wl,nc];done)|with_reducible (refine rQ ?_;repeat' first|apply ai|exact wZ)|(refine sQ ?_;repeat' first|with_reducible apply ai|exact cZ))
      refine dE (ι:=Nat×Nat×ByteArray×Int×Int) (μ:=fun q=>2*(s.size-q.1)+if q.2.2.2.2=0 then 1 else 0) (i:=(p,0,⟨#[]⟩,w',0)) (j,3,t',w',0) hN ?_
      exact aZ
    ·have h22:=h22 (some a) (fun x h=>by cases h;omega);have hN:=fun k' g4 g5=>hI j k' (a++t') zo l2 g4 g5 (by rw[aj];omega) hQ;unfold bIn bOut at h22;dsimp only at h22;obtain⟨b',hb⟩:∃b',b'=a++t':=⟨_,rfl⟩
     rw[<- hb]at h22 hN;have hN1:=hN 1 zd zd;have Fj:=hN 2 zd zd;have Fk:=hN 3 zd zd;clear hb hQ hN;obtain rfl|rfl|rfl:=hk
     all_goals(unfold jz;apply af.wk tF mF [(22,[(1,zT,[(1000,ah s j w' 0),(1001,bc 1001 1001001001 1 b'),(1001001001,br 1 b')])])] jw ?_)
     all_goals(repeat' with_reducible first|exact nY|refine oC ?_ ?_|refine vQ ?_ ?_ ?_|refine cV (fun _=>?_) fun _=>?_|refine wQ ?_|fail)
     all_goals try exact absurd ‹s.size<=p› c1
     all_goals try exact absurd ‹((s.data[p]?.getD 0).toNat:Int)=34› c2
     all_goals try exact absurd c3 ‹¬((s.data[p]?.getD 0).toNat:Int)=92›
     all_goals try exact zB
     all_goals(all_goals try first|with_reducible (refine rE ?_;cbv;simp only[wl,nc];done)|with_reducible (refine rQ ?_;repeat' first|apply ai|exact wZ)|(refine sQ ?_;repeat' first|with_reducible apply ai|exact cZ))
     all_goals(first|(refine dE (ι:=Nat×Nat×ByteArray×Int×Int) (μ:=fun q=>2*(s.size-q.1)+if q.2.2.2.2=0 then 1 else 0) (i:=(p,1,a,w',0)) (j,1,b',w',0) hN1 ?_;(first|exact aZ|focus(refine aQ ?_;repeat' first|with_reducible apply ai|exact wZ|fail));done)|(refine dE (ι:=Nat×Nat×ByteArray×Int×Int) (μ:=fun q=>2*(s.size-q.1)+if q.2.2.2.2=0 then 1 else 0) (i:=(p,2,a,w',0)) (j,2,b',w',0) Fj ?_;(first|exact aZ|focus(refine aQ ?_;repeat' first|with_reducible apply ai|exact wZ|fail));done)|(refine dE (ι:=Nat×Nat×ByteArray×Int×Int) (μ:=fun q=>2*(s.size-q.1)+if q.2.2.2.2=0 then 1 else 0) (i:=(p,3,a,w',0)) (j,3,b',w',0) Fk ?_;(first|exact aZ|focus(refine aQ ?_;repeat' first|with_reducible apply ai|exact wZ|fail));done))
  rw[aa c3]at hQ;replace c3:¬((s.data[p]?.getD 0).toNat:Int)=92:=c3;by_cases c4:ad s p<32∨ad s p=127
  ·rw[ae c4]at hQ;have ZL:Af prog 109 [.ptr 1000 0,.int .i64 fun _=>(p:Int),.int .i64 fun _=>6] [(1000,ah s p w' 0)] (.ag []) [(1000,ah s p p 6)]:=by
    have:=mm s p w' 0 p 6
    rwa [ae rfl,ae rfl]at this
   have hN:=hE p p 6 zd (ao _) e1 hQ.symm;replace c4:((s.data[p]?.getD 0).toNat:Int)<32∨((s.data[p]?.getD 0).toNat:Int)=127:=c4;obtain rfl|rfl|rfl|rfl:=hk
   all_goals(unfold jz;apply af.wk tF mF [(24,[(5,zT,[(1000,ah s p p 6)])])] jw ?_)
   all_goals(repeat' with_reducible first|exact nY|refine oC ?_ ?_|refine vQ ?_ ?_ ?_|refine cV (fun _=>?_) fun _=>?_|refine wQ ?_|fail)
   all_goals try exact absurd ‹s.size<=p› c1
   all_goals try exact absurd ‹((s.data[p]?.getD 0).toNat:Int)=34› c2
   all_goals try exact absurd ‹((s.data[p]?.getD 0).toNat:Int)=92› c3
   all_goals try exact absurd c4 (fun q=>‹32<=((s.data[p]?.getD 0).toNat:Int)∧¬((s.data[p]?.getD 0).toNat:Int)=127›.elim fun q1 q2=>q.elim (fun r=>absurd q1 (Int.not_le.2 r)) q2)
   all_goals(try simp only[bu])
   all_goals try exact zB
   all_goals(all_goals try first|with_reducible (refine rE ?_;cbv;simp only[wl,nc];done)|with_reducible (refine rQ ?_;repeat' first|apply ai|exact wZ)|(refine sQ ?_;repeat' first|with_reducible apply ai|exact cZ))
   all_goals(first|refine dE (ι:=Nat×Nat×ByteArray×Int×Int) (μ:=fun q=>2*(s.size-q.1)+if q.2.2.2.2=0 then 1 else 0) (i:=(p,0,a,w',0)) (p,0,a,(p:Int),6) hN ?_|refine dE (ι:=Nat×Nat×ByteArray×Int×Int) (μ:=fun q=>2*(s.size-q.1)+if q.2.2.2.2=0 then 1 else 0) (i:=(p,1,a,w',0)) (p,1,a,(p:Int),6) hN ?_|refine dE (ι:=Nat×Nat×ByteArray×Int×Int) (μ:=fun q=>2*(s.size-q.1)+if q.2.2.2.2=0 then 1 else 0) (i:=(p,2,a,w',0)) (p,2,a,(p:Int),6) hN ?_|refine dE (ι:=Nat×Nat×ByteArray×Int×Int) (μ:=fun q=>2*(s.size-q.1)+if q.2.2.2.2=0 then 1 else 0) (i:=(p,3,a,w',0)) (p,3,a,(p:Int),6) hN ?_)
   all_goals(first|exact aZ|focus(refine aQ ?_;repeat' first|with_reducible apply ai|exact wZ|fail))
  rw[aa c4]at hQ;have hc4:¬(((s.data[p]?.getD 0).toNat:Int)<32∨((s.data[p]?.getD 0).toNat:Int)=127):=c4;have h11:=Um s p zo hs;by_cases c5:oG s p=true
  ·rw[ae c5]at hQ;rw[ae c5,ae c5,ae c5]at h11;have D1:Af prog 109 [.ptr 1000 0,.int .i64 fun _=>(p:Int),.int .i64 fun _=>16] [(1000,ah s p w' 0)] (.ag []) [(1000,ah s p p 16)]:=by
    have:=mm s p w' 0 p 16
    rwa [ae rfl,ae rfl]at this
   have hN:=hE p p 16 zd (ao _) e1 hQ.symm;obtain rfl|rfl|rfl|rfl:=hk
   all_goals(unfold jz;apply af.wk tF mF [(11,[(8,.ag [zI 0,zI 0,zI 16],[])]),(13,[(5,zT,[(1000,ah s p p 16)])])] jw ?_)
   all_goals(repeat' with_reducible first|exact nY|refine oC ?_ ?_|refine vQ ?_ ?_ ?_|refine cV (fun _=>?_) fun _=>?_|refine wQ ?_|fail)
   all_goals try exact absurd ‹s.size<=p› c1
   all_goals try exact absurd ‹((s.data[p]?.getD 0).toNat:Int)=34› c2
   all_goals try exact absurd ‹((s.data[p]?.getD 0).toNat:Int)=92› c3
   all_goals try exact absurd ‹((s.data[p]?.getD 0).toNat:Int)<32∨((s.data[p]?.getD 0).toNat:Int)=127› hc4
   all_goals try exact absurd ‹(16:Int)=0› zd
   all_goals(try simp only[bu])
   all_goals try exact zB
   all_goals(all_goals try first|with_reducible (refine rE ?_;cbv;simp only[wl,nc];done)|with_reducible (refine rQ ?_;repeat' first|apply ai|exact wZ)|(refine sQ ?_;repeat' first|with_reducible apply ai|exact cZ))
   all_goals(first|refine dE (ι:=Nat×Nat×ByteArray×Int×Int) (μ:=fun q=>2*(s.size-q.1)+if q.2.2.2.2=0 then 1 else 0) (i:=(p,0,a,w',0)) (p,0,a,(p:Int),16) hN ?_|refine dE (ι:=Nat×Nat×ByteArray×Int×Int) (μ:=fun q=>2*(s.size-q.1)+if q.2.2.2.2=0 then 1 else 0) (i:=(p,1,a,w',0)) (p,1,a,(p:Int),16) hN ?_|refine dE (ι:=Nat×Nat×ByteArray×Int×Int) (μ:=fun q=>2*(s.size-q.1)+if q.2.2.2.2=0 then 1 else 0) (i:=(p,2,a,w',0)) (p,2,a,(p:Int),16) hN ?_|refine dE (ι:=Nat×Nat×ByteArray×Int×Int) (μ:=fun q=>2*(s.size-q.1)+if q.2.2.2.2=0 then 1 else 0) (i:=(p,3,a,w',0)) (p,3,a,(p:Int),16) hN ?_)
   all_goals(first|exact aZ|focus(refine aQ ?_;repeat' first|with_reducible apply ai|exact wZ|fail))
  rw[aa c5]at hQ;rw[aa c5,aa c5,aa c5]at h11;obtain⟨z1,z2⟩:=Md s p (mS c1);have hx:(s.extract p (p+(Utf8.decode s p).2)).size=(Utf8.decode s p).2:=by rw[dh];omega
  have hwz:IntKind.i64.wrap ((p:Int)+((Utf8.decode s p).2:Int))=((p+(Utf8.decode s p).2:Nat):Int):=(ax zo zo).trans zo;generalize ((Utf8.decode s p).1:Int)=rn at*;generalize (Utf8.decode s p).2=z at*;obtain⟨J,hJ⟩:∃J,J=p+z:=⟨_,rfl⟩
  rw[<- hJ]at hQ hx hwz z2;have hX:∀X,X=s.extract p J->X.size=z:=fun X h=>by rw[h];exact hx
  have hx2:(J:Int).toNat=J:=bu _;obtain rfl|hk:=hk
  ·obtain rfl:=e3 rfl;have su:=Ds (s.extract p J) none zo (fun a h=>by cases h);rw[show(⟨#[]⟩:ByteArray)++s.extract p J=s.extract p J from x7]at hQ;have hN:=hI J 1 (s.extract p J) zo z2 zd zd zo hQ;unfold wC wB at su;clear hQ hX;obtain⟨X,hX⟩:∃X,X=s.extract p J:=⟨_,rfl⟩
   rw[<- hX]at su hN hx;unfold jz;apply af.wk tF mF [(11,[(8,.ag [zI rn,.int .i64 fun _=>(z:Int),zI 0],[])]),(14,[(15,.ag [.int .i64 fun _=>(X.size:Int),.bz fun _=>true],[(1000,bc 1000 14 1 X),(14,br 1 X)])])] jw ?_
   (repeat' with_reducible first|exact nY|refine oC ?_ ?_|refine vQ ?_ ?_ ?_|refine cV (fun _=>?_) fun _=>?_|refine wQ ?_|fail)
   all_goals try exact absurd ‹s.size<=p› c1
   all_goals try exact absurd ‹((s.data[p]?.getD 0).toNat:Int)=34› c2
   all_goals try exact absurd ‹((s.data[p]?.getD 0).toNat:Int)=92› c3
   all_goals try exact absurd ‹((s.data[p]?.getD 0).toNat:Int)<32∨((s.data[p]?.getD 0).toNat:Int)=127› hc4
   all_goals try exact absurd ‹¬True› (fun g=>g trivial)
   all_goals(try simp only[hwz,hx2,bu,<- hX])
   all_goals try exact zB
   (all_goals try first|with_reducible (refine rE ?_;cbv;simp only[wl,nc];done)|with_reducible (refine rQ ?_;repeat' first|apply ai|exact wZ)|(refine sQ ?_;repeat' first|with_reducible apply ai|exact cZ))
   refine dE (ι:=Nat×Nat×ByteArray×Int×Int) (μ:=fun q=>2*(s.size-q.1)+if q.2.2.2.2=0 then 1 else 0) (i:=(p,0,⟨#[]⟩,w',0)) (J,1,X,w',0) hN ?_
   exact aZ
  ·have su:=Ds (s.extract p J) (some a) zo (fun x h=>by cases h;omega);have hN:=fun k' g4 g5=>hI J k' (a++s.extract p J) zo z2 g4 g5 (by rw[aj];omega) hQ;unfold wC wB at su;clear hQ hX;obtain⟨X,hX⟩:∃X,X=s.extract p J:=⟨_,rfl⟩
   rw[<- hX]at su hN hx;dsimp only at su;obtain⟨b',hb⟩:∃b',b'=a++X:=⟨_,rfl⟩
   rw[<- hb]at su hN;have hN1:=hN 1 zd zd;have Fj:=hN 2 zd zd;have Fk:=hN 3 zd zd;clear hb hN;obtain rfl|rfl|rfl:=hk
   all_goals(unfold jz;apply af.wk tF mF [(11,[(8,.ag [zI rn,.int .i64 fun _=>(z:Int),zI 0],[])]),(14,[(15,.ag [.int .i64 fun _=>(X.size:Int),.bz fun _=>true],[(1000,bc 1000 1001000001 1 b'),(1001000001,br 1 b')])])] jw ?_)
   all_goals(repeat' with_reducible first|exact nY|refine oC ?_ ?_|refine vQ ?_ ?_ ?_|refine cV (fun _=>?_) fun _=>?_|refine wQ ?_|fail)
   all_goals try exact absurd ‹s.size<=p› c1
   all_goals try exact absurd ‹((s.data[p]?.getD 0).toNat:Int)=34› c2
   all_goals try exact absurd ‹((s.data[p]?.getD 0).toNat:Int)=92› c3
   all_goals try exact absurd ‹((s.data[p]?.getD 0).toNat:Int)<32∨((s.data[p]?.getD 0).toNat:Int)=127› hc4
   all_goals(try simp only[hwz,hx2,bu,<- hX])
   all_goals try exact zB
   all_goals(all_goals try first|with_reducible (refine rE ?_;cbv;simp only[wl,nc];done)|with_reducible (refine rQ ?_;repeat' first|apply ai|exact wZ)|(refine sQ ?_;repeat' first|with_reducible apply ai|exact cZ))
   all_goals(first|(refine dE (ι:=Nat×Nat×ByteArray×Int×Int) (μ:=fun q=>2*(s.size-q.1)+if q.2.2.2.2=0 then 1 else 0) (i:=(p,1,a,w',0)) (J,1,b',w',0) hN1 ?_;(first|exact aZ|focus(refine aQ ?_;repeat' first|with_reducible apply ai|exact wZ|fail));done)|(refine dE (ι:=Nat×Nat×ByteArray×Int×Int) (μ:=fun q=>2*(s.size-q.1)+if q.2.2.2.2=0 then 1 else 0) (i:=(p,2,a,w',0)) (J,2,b',w',0) Fj ?_;(first|exact aZ|focus(refine aQ ?_;repeat' first|with_reducible apply ai|exact wZ|fail));done)|(refine dE (ι:=Nat×Nat×ByteArray×Int×Int) (μ:=fun q=>2*(s.size-q.1)+if q.2.2.2.2=0 then 1 else 0) (i:=(p,3,a,w',0)) (J,3,b',w',0) Fk ?_;(first|exact aZ|focus(refine aQ ?_;repeat' first|with_reducible apply ai|exact wZ|fail));done))
 ·have hZ:=e6 he;rw[hZ]at hR;dsimp only at hR;subst hR;obtain rfl|rfl|rfl|rfl:=hk
  all_goals(unfold jz;apply af.wk tF mF [] jw ?_)
  all_goals(repeat' with_reducible first|exact nY|refine oC ?_ ?_|refine vQ ?_ ?_ ?_|refine cV (fun _=>?_) fun _=>?_|refine wQ ?_|fail)
  all_goals try exact absurd ‹e=0› he
  all_goals(all_goals try first|with_reducible (refine rE ?_;cbv;simp only[wl,nc];done)|with_reducible (refine rQ ?_;repeat' first|apply ai|exact wZ)|(refine sQ ?_;repeat' first|with_reducible apply ai|exact cZ))
def Fl(c:Int):Af prog 160 [.int .u8 fun _=>c] [] (.int .i64 fun _=>aW c) []:=by
 have h:=ot rj (if 65<=c∧c<=70 then c+32 else c);unfold aW;generalize ek rj (if 65<=c∧c<=70 then c+32 else c)=n at*;by_cases q:65<=c∧c<=70
 ·rw[ae q]at h;have hw:IntKind.u8.wrap (c+32)=c+32:=by
   unfold IntKind.wrap;simp[IntKind.bits,IntKind.signed];omega
  (refine fA [.tmp 2] Al [(3,[(1,zI n,[])])] func160 fun _=>?_;repeat' first|exact⟨⟩|apply mA|apply mC<;>intro)
  all_goals(try simp only[hw])
  all_goals(try(exfalso;omega))
  all_goals try exact zB
  all_goals exact eZ
 ·rw[aa q]at h
  (refine fA [.tmp 2] Al [(3,[(1,zI n,[])])] func160 fun _=>?_;repeat' first|exact⟨⟩|apply mA|apply mC<;>intro)
  all_goals(try(exfalso;omega))
  all_goals try exact zB
  all_goals exact eZ
def eF(c:Int):Bool:=decide (0<=aW c)
def Yr(c:Int):Af prog 159 [.int .u8 fun _=>c] [] (.bool fun _=>eF c) []:=by
 have h:=Fl c;unfold eF;generalize aW c=n at*
 (refine fA [.tmp 2] Ys [(1,[(1,zI n,[])])] func159 fun _=>?_;repeat' first|exact⟨⟩|apply mA|apply mC<;>intro)
 all_goals try exact zB
 all_goals exact eZ
theorem D9{s:ByteArray}{p:Int->Bool}:∀n i m,i<=m->m<o8 s p n i->p (ad s m)=true
 | 0,i,m,h,g=>absurd (show m<i from g) zo
 | n+1,i,m,h,g=>by
  simp only[o8]at g;split at g
  ·rename_i q;by_cases e:m=i
   ·rw[e];exact q.2
   ·exact D9 n (i+1) m zo g
  ·omega
def oT(x:ByteArray)(k:Nat):UInt8:=(aW (ad x (2*k))*16+aW (ad x (2*k+1))).toNat.toUInt8
def eQ(x:ByteArray):Nat->ByteArray
 | 0=>⟨#[]⟩
 | k+1=>eQ x k++⟨#[oT x k]⟩
theorem Ah(x:ByteArray):∀k,(eQ x k).size=k
 | 0=>rfl
 | k+1=>by
  show(eQ x k++⟨#[oT x k]⟩).size=k+1;rw[aj,Ah x k];rfl
def Tok.pU(t:Tok)(v:ByteArray):Tok:=mk 4 t.line t.col t.text v t.num t.scale t.joined
def mz(s:ByteArray)(i:Nat)(w:Int)(t:Tok):Nat×Int×Int×Tok:=
 if s.size<=bn s eF (i+2)then(bn s eF (i+2),s.size,29,t.set 4 t.text)
 else if ad s (bn s eF (i+2))≠34∨(bn s eF (i+2)-(i+2))%2≠0 then(bn s eF (i+2),(bn s eF (i+2):Nat),13,t.set 4 t.text)
 else(bn s eF (i+2)+1,if 1024<(bn s eF (i+2)-(i+2))/2 then i else w,if 1024<(bn s eF (i+2)-(i+2))/2 then 5 else 0,t.pU (eQ (s.extract (i+2) (bn s eF (i+2))) ((bn s eF (i+2)-(i+2))/2)))
def sv(x:ByteArray):Nat->List (Nat×AO)
 | 0=>[(7,.box [.bj 179,.nil])]
 | k+1=>[(7,bc 7 590014 1 (eQ x (k+1))),(590014,br 1 (eQ x (k+1)))]
def XX(s:ByteArray)(i:Nat)(w:Int)(t:Tok)(hs:s.size<=1073741824)(hi:i<s.size)(hq:ad s i=120∧ad s (i+1)=34):
 iy 103 s i w 0 t true (mz s i w t).1 (mz s i w t).2.1 (mz s i w t).2.2.1 (mz s i w t).2.2.2:=by
 obtain⟨q1,q2⟩:=hq;have hi2:i+2<=s.size:=by have:=iu (s:=s) (i:=i+1) (by rw[q2];decide);omega
 have h0:=d7 s i 0 w 0 zo zo;have h1:=d7 s i 1 w 0 zo zo;rw[show i+0=i from rfl,q1]at h0;rw[q2]at h1;have h6:=zX s (i+2) w 0 hs hi2 159 eF Yr;have hjl:=jv (s:=s) (p:=eF) hi2;have hall:∀m,i+2<=m->m<bn s eF (i+2)->0<=aW (ad s m):=fun m a b=>il (D9 _ _ m a b);obtain⟨R,hR⟩:∃R,R=mz s i w t:=⟨_,rfl⟩
 rw[<- hR];unfold mz at hR;generalize bn s eF (i+2)=j at*;have hw2:IntKind.i64.wrap ((i:Int)+2)=((i+2:Nat):Int):=(ax zo zo).trans zo;have hx:(s.extract (i+2) j).size=j-(i+2):=by rw[dh];omega
 have hxb:∀m,m<j-(i+2)->ad (s.extract (i+2) j) m=ad s (i+2+m):=fun m h=>qh h hjl.2
 generalize s.extract (i+2) j=x at*;have hf:∀(v c:Int),Af prog 109 [.ptr 1000 0,.int .i64 fun _=>v,.int .i64 fun _=>c] [(1000,ah s j w 0)] (.ag []) [(1000,ah s j v c)]:=fun v c=>by
  have:=mm s j w 0 v c
  rwa [ae rfl,ae rfl]at this
 unfold iy;by_cases c1:s.size<=j
 ·rw[ae c1]at hR;obtain⟨z,hz⟩:∃z:Int,z=(s.size:Int):=⟨_,rfl⟩
  have h16:=hf s.size 29;rw[show ah s j s.size 29=ah s j z 29 by rw[hz]]at h16;rw[<- hz]at hR;subst hR
  (refine fA [.tmp 4] oy [(1,[(1,.int .u8 fun _=>120,[(1000,ah s i w 0)]),(5,.int .u8 fun _=>34,[(1000,ah s i w 0)])]),(6,[(1,zR x,[(1000,ah s j w 0)])]),(16,[(6,zT,[(1000,ah s j z 29)])])] func103 fun _=>?_;repeat' first|exact⟨⟩|apply mA|apply mC<;>intro)
  all_goals(try simp only[aF,hw2])
  all_goals try exact zB
  all_goals try exact absurd trivial (‹¬True∨¬True›.elim id id)
  all_goals try exact absurd c1 (Nat.not_le.2 ‹j<s.size›)
  (all_goals try first|(refine qC ?_;repeat' first|exact⟨⟩|apply mA))
  all_goals(try rfl)
 rw[aa c1]at hR;by_cases c2:ad s j≠34∨(j-(i+2))%2≠0
 ·rw[ae c2]at hR;subst hR;have h18:=hf j 13;have hxm:IntKind.i64.wrap ((x.size:Int).tmod 2)=((x.size%2:Nat):Int):=by rw[mP zo];exact(ax zo zo).trans zo
  obtain⟨c,hc⟩:∃c,c=ad s j:=⟨_,rfl⟩
  rw[<- hc]at c2;have hc3:((s.data[j]?.getD 0).toNat:Int)=c:=hc.symm
  (refine fA [.tmp 4] oy [(1,[(1,.int .u8 fun _=>120,[(1000,ah s i w 0)]),(5,.int .u8 fun _=>34,[(1000,ah s i w 0)])]),(6,[(1,zR x,[(1000,ah s j w 0)])]),(18,[(5,zT,[(1000,ah s j j 13)])]),(13,[(1,.any,[])]),(14,[(6,zT,[])])] func103 fun _=>?_;repeat' first|exact⟨⟩|apply mA|apply mC<;>intro)
  all_goals(try simp only[aF,hw2,bu,hc3])
  all_goals try exact zB
  all_goals try exact absurd trivial (‹¬True∨¬True›.elim id id)
  all_goals try exact absurd ‹s.size<=j› c1
  all_goals(try(have g:=‹((s.data[j]?.getD 0).toNat:Int)=34∧(x.size:Int).tmod 2=0›;rw[mP zo]at g;exfalso;omega))
  (all_goals try first|(refine qC ?_;repeat' first|exact⟨⟩|apply mA))
  all_goals(try rfl)
 rw[aa c2]at hR;have c3:ad s j=34:=gr.1 fun g=>c2 (.inl g);have c4:(j-(i+2))%2=0:=gr.1 fun g=>c2 (.inr g);clear c2;obtain⟨K,hK⟩:∃K,K=(j-(i+2))/2:=⟨_,rfl⟩
 rw[<- hK]at hR;have ZM:x.size=2*K:=zo
 have hdig:∀m,m<x.size->0<=aW (ad x m)∧aW (ad x m)<16:=fun m h=>by
  rw[hxb m zo];exact⟨hall _ zo zo,ri _⟩
 have hpb:∀k,k<K->((oT x k).toNat:Int)=aW (ad x (2*k))*16+aW (ad x (2*k+1)):=fun k h=>by
  have a:=hdig (2*k) zo;have b:=hdig (2*k+1) zo;unfold oT;generalize aW (ad x (2*k))=u at*;generalize aW (ad x (2*k+1))=v at*;show(((u*16+v).toNat%256:Nat):Int)=_;omega
 clear hxb hall hf;have h19:=Ka s (eQ x K) (j+1) w 0 i;simp only[ay,Ah]at h19;obtain⟨v,hv⟩:∃v,v=(if 1024<K then(i:Int)else w):=⟨_,rfl⟩
 obtain⟨u,hu⟩:∃u,u=(if 1024<K then(5:Int)else 0):=⟨_,rfl⟩
 rw[<- hv,<- hu]at h19 hR;have hj1:IntKind.i64.wrap ((j:Int)+1)=((j+1:Nat):Int):=aS zo;have c5:((s.data[j]?.getD 0).toNat:Int)=34:=c3;have jE:=Ah x;subst hR;rcases sF K with Mn|Mn
 ·subst Mn
  (refine fA [.tmp 4] oy [(1,[(1,.int .u8 fun _=>120,[(1000,ah s i w 0)]),(5,.int .u8 fun _=>34,[(1000,ah s i w 0)])]),(6,[(1,zR x,[(1000,ah s j w 0)])]),(13,[(1,.str fun _=>⟨#[]⟩,[(1000,.box [.bj 179,.nil])])]),(14,[(6,zT,[(1000,ah s (j+1) v u)])])] func103 fun _=>?_;repeat' first|exact⟨⟩|apply mA|apply mC<;>intro)
  all_goals(try simp only[aF,hw2,bu])
  all_goals try exact zB
  all_goals try exact absurd trivial (‹¬True∨¬True›.elim id id)
  all_goals try exact absurd ‹s.size<=j› c1
  all_goals try exact absurd ‹¬((s.data[j]?.getD 0).toNat:Int)=34∨¬(x.size:Int).tmod 2=0› (fun g=>by rw[mP zo]at g;omega)
  (all_goals try first|(refine qC ?_;repeat' first|exact⟨⟩|apply mA))
  refine .loop (fun k:Nat=>⟨111,[(8,.int .i64 fun _=>0),(7,.ptr 7 0),(6,.str fun _=>x),(5,.int .i64 fun _=>(i:Int)),(0,.ptr 1000 0),(1,.ptr 1001 0)],(1000,ah s (j+1) w 0)::(1001,bE (t.set 4 t.text))::[(7,.box [.bj 179,.nil])]⟩) (fun k=>k=0) (fun k=>0) 0 rfl ?_ fun k E hk=>?_
  ·(first|exact aZ|focus(refine aQ ?_;repeat' first|with_reducible apply ai|exact wZ|fail))
   all_goals(try exact hj1)
  apply af.wk tF mF [(12,[(3,zI 0,[]),(9,zI 0,[]),(12,.any,[(1000,.box [.any,.any])])])] oy ?_
  (refine oA ?_;repeat' first|exact⟨⟩|apply mA|apply mC<;>intro)
  all_goals(try(exfalso;omega))
  any_goals((with_reducible refine nO ?_);first|exact EP|exact h19)
  (all_goals try first|(refine qC ?_;repeat' first|exact⟨⟩|apply mA))
  all_goals(try rfl)
 ·obtain⟨acc,hacc⟩:∃a,a=eQ x K:=⟨_,rfl⟩
  rw[<- hacc]at h19 ⊢
  (refine fA [.tmp 4] oy [(1,[(1,.int .u8 fun _=>120,[(1000,ah s i w 0)]),(5,.int .u8 fun _=>34,[(1000,ah s i w 0)])]),(6,[(1,zR x,[(1000,ah s j w 0)])]),(13,[(1,zR acc,[(1000,bc 1000 1001000001 0 acc),(1001000001,lX acc)])]),(14,[(6,zT,[(1000,ah s (j+1) v u)])])] func103 fun _=>?_;repeat' first|exact⟨⟩|apply mA|apply mC<;>intro)
  all_goals(try simp only[aF,hw2,bu])
  all_goals try exact zB
  all_goals try exact absurd trivial (‹¬True∨¬True›.elim id id)
  all_goals try exact absurd ‹s.size<=j› c1
  all_goals try exact absurd ‹¬((s.data[j]?.getD 0).toNat:Int)=34∨¬(x.size:Int).tmod 2=0› (fun g=>by rw[mP zo]at g;omega)
  (all_goals try first|(refine qC ?_;repeat' first|exact⟨⟩|apply mA))
  refine .loop (fun k:Nat=>⟨111,[(8,.int .i64 fun _=>((2*k:Nat):Int)),(7,.ptr 7 0),(6,.str fun _=>x),(5,.int .i64 fun _=>(i:Int)),(0,.ptr 1000 0),(1,.ptr 1001 0)],(1000,ah s (j+1) w 0)::(1001,bE (t.set 4 t.text))::sv x k⟩) (fun k=>k<=K) (fun k=>K-k) 0 (aB _) ?_ fun k E hk=>?_
  ·unfold sv
   (first|exact aZ|focus(refine aQ ?_;repeat' first|with_reducible apply ai|exact wZ|fail))
   all_goals(try exact hj1)
  have ha:k=K->eQ x k=acc:=fun g=>by rw[g,hacc]
  have e1:eQ x (k+1)=eQ x k++⟨#[oT x k]⟩:=rfl;have hz:=jE k;have hp:=hpb k;have hd1:=hdig (2*k);have hd2:=hdig (2*k+1);have g1:=Fl (ad x (2*k));have g2:=Fl (ad x (2*k+1));have hor:=rk (aW (ad x (2*k))) (aW (ad x (2*k+1)));obtain⟨b1,hb1⟩:∃b,b=ad x (2*k):=⟨_,rfl⟩
  obtain⟨b2,hb2⟩:∃b,b=ad x (2*k+1):=⟨_,rfl⟩
  rw[<- hb1]at hp hd1 g1 hor;rw[<- hb2]at hp hd2 g2 hor;have hq1:((x.data[2*k]?.getD 0).toNat:Int)=b1:=hb1.symm;have hq2:((x.data[2*k+1]?.getD 0).toNat:Int)=b2:=hb2.symm;clear hb1 hb2;generalize aW b1=p1 at*;generalize aW b2=p2 at*;generalize hcb:oT x k=c at*;obtain⟨k2,hk2⟩:∃n,n=2*k:=⟨_,rfl⟩
  have hk3:2*(k+1)=k2+2:=zo
  rw[<- hk2]at hq1 hq2 hd1 hd2;have hw3:IntKind.i64.wrap ((k2:Int)+1)=((k2+1:Nat):Int):=aS zo;have hw4:IntKind.i64.wrap ((k2:Int)+2)=((k2+2:Nat):Int):=(ax zo zo).trans zo;by_cases hn:k<K
  ·replace hp:=hp hn;replace hd1:=hd1 zo;replace hd2:=hd2 zo;replace hor:=hor zo zo;have jj:IntKind.u8.wrap (p1*16+p2)=(c.toNat:Int):=by
    rw[<- hp];have:=c.toNat_lt;unfold IntKind.wrap;simp[IntKind.bits,IntKind.signed];omega
   rcases k with _|n
   ·rw[show sv x 0=[(7,.box [.bj 179,.nil])]from rfl];have h12:=Bm c;have hI:1<=K∧K-1<K-0:=⟨zo,zo⟩
    have e1:eQ x 1=⟨#[c]⟩:=by rw[e1];exact x7
    rw[<- hk2];apply af.wk tF mF [(12,[(3,zI p1,[]),(9,zI p2,[]),(12,.bz fun _=>true,[(1000,bc 1000 14 1 ⟨#[c]⟩),(14,br 1 ⟨#[c]⟩)])])] oy ?_
    (refine oA ?_;repeat' first|exact⟨⟩|apply mA|apply mC<;>intro)
    all_goals(try(exfalso;omega))
    all_goals(try simp only[hw3,bu,hq1,hq2,hor,jj])
    all_goals try exact zB
    (all_goals try first|(refine qC ?_;repeat' first|exact⟨⟩|apply mA))
    refine dE (ι:=Nat) (Inv:=fun k=>k<=K) (μ:=fun k=>K-k) (i:=0) 1 hI ?_;rw[hk3,show sv x 1=[(7,bc 7 590014 1 (eQ x 1)),(590014,br 1 (eQ x 1))]from rfl,e1]
    (first|exact aZ|focus(refine aQ ?_;repeat' first|with_reducible apply ai|exact wZ|fail))
    all_goals(try exact hw4)
   ·rw[show sv x (n+1)=[(7,bc 7 590014 1 (eQ x (n+1))),(590014,br 1 (eQ x (n+1)))]from rfl];have hI:n+1+1<=K∧K-(n+1+1)<K-(n+1):=⟨zo,zo⟩
    have h12:=sM c (eQ x (n+1)) zo;rw[<- hk2];rw[<- e1]at h12;obtain⟨Mo,Mp⟩:∃a,a=eQ x (n+1+1):=⟨_,rfl⟩
    rw[<- Mp]at h12;obtain⟨ac,hac⟩:∃a,a=eQ x (n+1):=⟨_,rfl⟩
    rw[<- hac]at h12 ⊢;apply af.wk tF mF [(12,[(3,zI p1,[]),(9,zI p2,[]),(12,.bz fun _=>true,[(1000,bc 1000 1001000001 1 Mo),(1001000001,br 1 Mo)])])] oy ?_
    (refine oA ?_;repeat' first|exact⟨⟩|apply mA|apply mC<;>intro)
    all_goals(try(exfalso;omega))
    all_goals(try simp only[hw3,bu,hq1,hq2,hor,jj])
    all_goals try exact zB
    (all_goals try first|(refine qC ?_;repeat' first|exact⟨⟩|apply mA))
    refine dE (ι:=Nat) (Inv:=fun k=>k<=K) (μ:=fun k=>K-k) (i:=n+1) (n+1+1) hI ?_;rw[hk3,show sv x (n+1+1)=[(7,bc 7 590014 1 (eQ x (n+1+1))),(590014,br 1 (eQ x (n+1+1)))]from rfl,<- Mp]
    (first|exact aZ|focus(refine aQ ?_;repeat' first|with_reducible apply ai|exact wZ|fail))
    all_goals(try exact hw4)
  ·replace ha:=ha zo;obtain⟨n,rfl⟩:∃n,k=n+1:=⟨k-1,zo⟩
   rw[show sv x (n+1)=[(7,bc 7 590014 1 (eQ x (n+1))),(590014,br 1 (eQ x (n+1)))]from rfl];rw[<- hk2,ha];have ZN:acc.size=K:=by rw[hacc];exact jE K
   have h3:=yb acc zo;apply af.wk tF mF [(12,[(3,zI 0,[]),(9,zI 0,[]),(12,.any,[(1000,.box [.any,.any]),(1001000001,br 1 acc)])])] oy ?_
   (refine oA ?_;repeat' first|exact⟨⟩|apply mA|apply mC<;>intro)
   all_goals(try(exfalso;omega))
   all_goals try exact zB
   (all_goals try first|(refine qC ?_;repeat' first|exact⟨⟩|apply mA))
   all_goals(try rfl)
end Go.Ai
