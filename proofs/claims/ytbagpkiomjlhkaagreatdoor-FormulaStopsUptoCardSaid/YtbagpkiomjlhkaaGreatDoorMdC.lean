/- Chapter 17: the law's model of the printer: text at right expressions; paths that begin with a reserved word; sizes. -/
import Derived.Test.YtbagpkiomjlhkaaGreatDoorMdA
set_option linter.all false
namespace Go.Ai
open Go Go.Proofs Tryz
set_option maxRecDepth 100000
set_option maxHeartbeats 4000000
def zM(x:X):Prop:=(1<=x.op∧x.op<=28)∧(0<=x.int∧x.int<=12)∧(x.op=22∨x.op=26->x.args.length=0)∧(aE x.op=9->¬x.op=1->¬x.op=2->¬x.op=22->¬x.op=26->0<x.args.length)
def zN(op:Int):1<=aE op:=by
 rcases qi op with⟨h,e,_⟩|⟨_,e⟩
 ·omega
 ·rw[e];repeat' split
  all_goals omega
theorem DM(lit:V->ByteArray)(e:Nat):∀(k D:Nat) (x:X) (need:Int),X.le (e+1) (D+1) x->X.le (e+1) k x->X.all (fun x=>(lH x∧wR lit e x)∧zM x) k x->wX lit k x<=549755813888->1<=need->need<=9 ->
 Af prog 17 [aq (e+1) (D+1) .any fun _=>x,.int .i64 fun _=>need] [] (.str fun _=>aP lit k x need) []
 | 0,_,_,_,_,h,_,_,_,_=>h.elim
 | k+1,D,x,need,hx,hk,ha,hw,hn0,TR=>by
  have hsz:X.all lH (k+1) x:=X.mt (fun _ h=>h.1.1) ha;have hz:=uk lit (k+1) x hsz;have h01:∀y,aP lit k y 1=aP lit k y 0:=fun y=>by
   have:=zN y.op;unfold aP;rw[aa zo,aa zo]
  have hT:∀i,i<x.args.length->ui (aP lit k) e D (x.args.getD i default):=fun i hi n h1 h2 _=>by
   have hy:=X.gg hx hi;obtain⟨c,rfl⟩:=X.lP hy;have e1:x.args.getD i default=x.args[i]:=by simp[List.getD,hi]
   have hs:=rJ (f:=fun y=>wX lit k y+6) hi;have hw':100+x.text.size+(lit (x.value.getD 0 default)).size+(x.args.map fun y=>wX lit k y+6).sum<=549755813888:=hw;refine DM lit e k c _ n hy (X.gg hk hi) (ha.2 _ ?_) zo h1 h2;rw[e1];exact d9 hi
  have key:∀need,need<=aE x.op->Af prog 17 [aq (e+1) (D+1) .any fun _=>x,.int .i64 fun _=>need] [] (.str fun _=>bh lit (aP lit k) x) []:=fun need hb=>by
   obtain⟨⟨⟨q1,q2,q3,q4,q5⟩,q6⟩,r1,r2,r3,r4⟩:=ha.1;have hz':(bh lit (aP lit k) x).size<=549755813888:=aG hz hw;have hm:=hk.2.2.1;by_cases o3:x.op=3
   ·exact TJ lit _ e D x need hT (q1 (.inl o3)) zo hb o3
   by_cases o16:x.op=16
   ·have l1:=q1 (.inr (.inl o16));have e1:x.args.getD 0 default=x.args[0]:=by simp[List.getD,show 0<x.args.length by omega]
    refine TL lit _ e D x need hT l1 (fun h=>?_) (fun h=>?_) zo hb o16
    ·obtain⟨c,rfl⟩:=X.lP (X.gg hk (show 0<x.args.length by omega));exact(ha.2 (x.args.getD 0 default) (by rw[e1];exact d9 _)).1.1.1.2.2.2.2 h
    ·unfold aP;rw[h];rfl
   by_cases ct:x.op=25
   ·exact TM lit _ e D x need hT h01 (q1 (.inr (.inr ct))) hm zo hb ct
   have l2:=q2 o3 o16 ct;by_cases hp:0<eE x.op
   ·refine TH lit _ e D x need hT (l2 ?_) zo hb hp;obtain⟨_,_,_,q,_⟩:=(qi x.op).resolve_right fun q=>by have:=q.1;omega
    omega
   have b:aE x.op=9:=by
    obtain⟨_,q⟩:=(qi x.op).resolve_left fun q=>by have:=q.1;omega
    rw[q,aa o3,aa ct,aa o16]
   by_cases o1:x.op=1
   ·obtain⟨er,h3⟩:=q6 o1;exact TN lit er _ e D x need (q5 o1) h3 hb o1
   by_cases o2:x.op=2
   ·exact TO lit _ e D x need hb o2
   refine TQ lit _ e D x need hT h01 hm (by have:=hk.1;omega) hb b o1 o2 r1 r2 r3 (r4 b o1 o2) ?_;have h5:=Ab (fun y=>aP lit k y 0) x.args
   have hs:=xa (l:=x.args) (f:=fun y=>(aP lit k y 0).size+2) (g:=fun y=>wX lit k y+6) (fun y hy=>by
    have:=D5 (lit:=lit) (k:=k) (y:=y) 0;have:=uk lit k y (hsz.2 y hy);omega)
   have hw':100+x.text.size+(lit (x.value.getD 0 default)).size+(x.args.map fun y=>wX lit k y+6).sum<=549755813888:=hw;omega
  unfold aP;by_cases hb:aE x.op<need
  ·rw[ae hb];exact TG e D x need _ (key 1 (zN _)) hb zo
  ·rw[aa hb];exact key need zo
def jr:Nat->X->Bool
 | 0,_=>false
 | k+1,x=>if dP x.op=true then(decide (0<(cr x.text).1.length)&&dQ ((cr x.text).1.getD 0 (0,0,⟨#[]⟩)).2.2)else x.args.any (jr k)
theorem Jv(e:Nat):∀(k D:Nat) (x:X),X.le (e+1) (D+1) x->X.le (e+1) k x->Af prog 16 [aq (e+1) (D+1) .any fun _=>x] [] (.bool fun _=>jr k x) []
 | 0,_,_,_,h=>h.elim
 | k+1,D,x,hx,hk=>by
  have hA:∀i,i<x.args.length->Af prog 16 [aq (e+1) D .any fun _=>x.args.getD i default] [] (.bool fun _=>jr k (x.args.getD i default)) []:=fun i hi=>by
   have hy:=X.gg hx hi;obtain⟨c,rfl⟩:=X.lP hy;exact Jv e k c _ hy (X.gg hk hi)
  have hm:=hk.2.2.1;have h1:=wL x.text (aG hx.1 zd);have h2:=TF ((cr x.text).1.getD 0 (0,0,⟨#[]⟩)).2.2;obtain⟨Z,hZ⟩:∃Z,Z=jr (k+1) x:=⟨_,rfl⟩
  rw[<- hZ];unfold jr at hZ;obtain⟨f,hf⟩:∃f,f=jr k:=⟨_,rfl⟩
  rw[<- hf]at hZ hA;clear hf hk hx;generalize cr x.text=P at*;obtain⟨P,pe⟩:=P;dsimp only at h1 h2 hZ;generalize hr:dQ (P.getD 0 (0,0,⟨#[]⟩)).2.2=r at*;by_cases hp:dP x.op=true
  ·rw[ae hp]at hZ;have hp':x.op=2∨x.op=22∨x.op=26:=by simpa[dP,or_assoc]using hp
   clear hA hr
   (apply Af.of tF mF [.tmp 2] Ac [(2,[(2,.ag [l9 fun _=>P,zI pe],[])]),(3,[(8,zO r,[])]),(7,[(5,.any,[])])] func16 (fun _=>?_);(repeat' with_reducible first|exact nY|refine oC ?_ ?_|refine vQ ?_ ?_ ?_|refine cV (fun _=>?_) fun _=>?_|refine wQ ?_|fail))
   all_goals(try simp only[gt,aF]at*)
   all_goals try exact zB
   all_goals try exact absurd hp' zo
   (all_goals try first|exact eZ|with_reducible (refine rQ ?_;repeat' first|apply ai|exact wZ)|(refine sQ ?_;repeat' first|with_reducible apply ai|exact cZ))
   rw[hZ];by_cases q:0<P.length
   ·rw[ae (gq zo),gq q,xU]
   ·rw[aa (by simp only[cX];omega),fD q,Bool.false_and]
  ·rw [aa hp]at hZ;have hp':¬x.op=2∧¬x.op=22∧¬x.op=26:=by simpa[dP,and_assoc]using hp
   clear h1 h2 hr
   (apply Af.of tF mF [.tmp 2] Ac [(2,[(2,.any,[])]),(3,[(8,.any,[])])] func16 (fun _=>?_);(repeat' with_reducible first|exact nY|refine oC ?_ ?_|refine vQ ?_ ?_ ?_|refine cV (fun _=>?_) fun _=>?_|refine wQ ?_|fail))
   all_goals(try simp only[gt,aF]at*)
   all_goals try exact absurd hp' zo
   (all_goals try first|exact eZ|with_reducible (refine rQ ?_;repeat' first|apply ai|exact wZ)|(refine sQ ?_;repeat' first|with_reducible apply ai|exact cZ))
   refine .loop (fun i:Nat=>⟨48,[(5,.int .i64 fun _=>(i:Int)),(1,.ptr 1 0)],[(1,.box [.any,.any,.any,.any,.slc .any 5 (fun _=>x.args.length) (nT (e+1) (D+1) .any fun _=>x)])]⟩)
    (fun i=>i<=x.args.length∧(x.args.drop i).any f=Z) (fun i=>x.args.length-i) 0 ⟨aB _,hZ.symm⟩ ?_ fun i E hi=>?_
   ·exact aZ
   obtain⟨g1,g2⟩:=hi;by_cases hi:i<x.args.length
   ·rw[iH hi,FK]at g2;have e1:x.args.getD i default=x.args[i]:=by simp[List.getD,hi]
    rw[<- e1]at g2;have h3:=hA i hi;generalize f (x.args.getD i default)=b at*;apply af.wk tF mF [(7,[(5,zO b,[])])] Ac ?_
    (repeat' with_reducible first|exact nY|refine oC ?_ ?_|refine vQ ?_ ?_ ?_|refine cV (fun _=>?_) fun _=>?_|refine wQ ?_|fail)
    all_goals(try simp only[bu])
    all_goals try exact zB
    all_goals try exact absurd hi (lU.2 ‹_›)
    (all_goals try first|exact eZ|with_reducible (refine rQ ?_;repeat' first|apply ai|exact wZ)|(refine sQ ?_;repeat' first|with_reducible apply ai|exact cZ))
    ·rw[<- g2,‹b=true›,Bool.true_or]
    ·rw[‹b=false›,Bc]at g2;refine dE (i+1) ⟨⟨zo,g2⟩,zo⟩ ?_
     (focus(refine aQ ?_;repeat' first|with_reducible apply ai|exact wZ|fail))
     exact aS zo
   ·rw[qB zo]at g2;apply af.wk tF mF [(7,[(5,.any,[])])] Ac ?_
    (repeat' with_reducible first|exact nY|refine oC ?_ ?_|refine vQ ?_ ?_ ?_|refine cV (fun _=>?_) fun _=>?_|refine wQ ?_|fail)
    all_goals try exact absurd ‹i<x.args.length› hi
    (all_goals try first|exact eZ|with_reducible (refine rQ ?_;repeat' first|apply ai|exact wZ)|(refine sQ ?_;repeat' first|with_reducible apply ai|exact cZ))
    first|exact g2|exact g2.symm
def my(g:Int->Int->Int)(f:X->Int):List X->Int->Int
 | [],n=>n
 | y::r,n=>my g f r (g n (f y))
def rK:Nat->X->Int
 | 0,_=>0
 | k+1,x=>IntKind.i64.wrap (my (fun a b=>if a<b then b else a) (rK k) x.args 0+1)
theorem JU(e:Nat):∀(k D:Nat) (x:X),X.le (e+1) (D+1) x->X.le (e+1) k x->Af prog 37 [aq (e+1) (D+1) .any fun _=>x] [] (.int .i64 fun _=>rK k x) []
 | 0,_,_,_,h=>h.elim
 | k+1,D,x,hx,hk=>by
  have hA:∀i,i<x.args.length->Af prog 37 [aq (e+1) D .any fun _=>x.args.getD i default] [] (.int .i64 fun _=>rK k (x.args.getD i default)) []:=fun i hi=>by
   have hy:=X.gg hx hi;obtain⟨c,rfl⟩:=X.lP hy;exact JU e k c _ hy (X.gg hk hi)
  have hm:=hk.2.2.1;obtain⟨Z,hZ⟩:∃Z,Z=my (fun a b=>if a<b then b else a) (rK k) x.args 0:=⟨_,rfl⟩
  unfold rK;rw[<- hZ];obtain⟨f,hf⟩:∃f,f=rK k:=⟨_,rfl⟩
  rw[<- hf]at hZ hA;clear hf hk hx
  (refine fA [.tmp 2] D6 [] func37 fun _=>?_;repeat' first|exact⟨⟩|apply mA|apply mC<;>intro)
  refine .loop (fun q:Nat×Int=>⟨22,[(4,.int .i64 fun _=>(q.1:Int)),(3,.int .i64 fun _=>q.2),(1,.ptr 1 0)],[(1,.box [.any,.any,.any,.any,.slc .any 5 (fun _=>x.args.length) (nT (e+1) (D+1) .any fun _=>x)])]⟩)
   (fun q=>q.1<=x.args.length∧my (fun a b=>if a<b then b else a) f (x.args.drop q.1) q.2=Z) (fun q=>x.args.length-q.1) (0,0) ⟨aB _,hZ.symm⟩ ?_ fun q E hq=>?_
  ·exact aZ
  obtain⟨i,n⟩:=q;obtain⟨g1,g2⟩:=hq;dsimp only at g1 g2;by_cases hi:i<x.args.length
  ·rw[iH hi,my]at g2;have e1:x.args.getD i default=x.args[i]:=by simp[List.getD,hi]
   rw[<- e1]at g2;have h3:=hA i hi;generalize f (x.args.getD i default)=b at*;apply af.wk tF mF [(5,[(6,zI b,[])])] D6 ?_
   (refine oA ?_;repeat' first|exact⟨⟩|apply mA|apply mC<;>intro)
   all_goals(try simp only[bu])
   all_goals try exact zB
   all_goals try exact absurd hi (lU.2 ‹_›)
   all_goals try exact eZ
   refine dE (ι:=Nat×Int) (μ:=fun q=>x.args.length-q.1) (i:=(i,n)) (i+1,if n<b then b else n) ⟨⟨by dsimp only;omega,g2⟩,by dsimp only;omega⟩ ?_
   (focus(refine aQ ?_;repeat' first|with_reducible apply ai|exact wZ|fail))
   exact aS zo
  ·rw[qB zo,my]at g2;apply af.wk tF mF [(5,[(6,.any,[])])] D6 ?_
   (refine oA ?_;repeat' first|exact⟨⟩|apply mA|apply mC<;>intro)
   all_goals try exact absurd ‹i<x.args.length› hi
   (all_goals try first|exact eZ|(refine qC ?_;repeat' first|exact⟨⟩|apply mA))
   rw[g2]
def rL:Nat->X->Int
 | 0,_=>0
 | k+1,x=>my (fun a b=>IntKind.i64.wrap (a+b)) (rL k) x.args 1
theorem JV(e:Nat):∀(k D:Nat) (x:X),X.le (e+1) (D+1) x->X.le (e+1) k x->Af prog 38 [aq (e+1) (D+1) .any fun _=>x] [] (.int .i64 fun _=>rL k x) []
 | 0,_,_,_,h=>h.elim
 | k+1,D,x,hx,hk=>by
  have hA:∀i,i<x.args.length->Af prog 38 [aq (e+1) D .any fun _=>x.args.getD i default] [] (.int .i64 fun _=>rL k (x.args.getD i default)) []:=fun i hi=>by
   have hy:=X.gg hx hi;obtain⟨c,rfl⟩:=X.lP hy;exact JV e k c _ hy (X.gg hk hi)
  have hm:=hk.2.2.1;obtain⟨Z,hZ⟩:∃Z,Z=my (fun a b=>IntKind.i64.wrap (a+b)) (rL k) x.args 1:=⟨_,rfl⟩
  unfold rL;rw[<- hZ];obtain⟨f,hf⟩:∃f,f=rL k:=⟨_,rfl⟩
  rw[<- hf]at hZ hA;clear hf hk hx
  (refine fA [.tmp 2] D7 [] func38 fun _=>?_;repeat' first|exact⟨⟩|apply mA|apply mC<;>intro)
  refine .loop (fun q:Nat×Int=>⟨21,[(4,.int .i64 fun _=>(q.1:Int)),(3,.int .i64 fun _=>q.2),(1,.ptr 1 0)],[(1,.box [.any,.any,.any,.any,.slc .any 5 (fun _=>x.args.length) (nT (e+1) (D+1) .any fun _=>x)])]⟩)
   (fun q=>q.1<=x.args.length∧my (fun a b=>IntKind.i64.wrap (a+b)) f (x.args.drop q.1) q.2=Z) (fun q=>x.args.length-q.1) (0,1) ⟨aB _,hZ.symm⟩ ?_ fun q E hq=>?_
  ·exact aZ
  obtain⟨i,n⟩:=q;obtain⟨g1,g2⟩:=hq;dsimp only at g1 g2;by_cases hi:i<x.args.length
  ·rw[iH hi,my]at g2;have e1:x.args.getD i default=x.args[i]:=by simp[List.getD,hi]
   rw[<- e1]at g2;have h3:=hA i hi;generalize f (x.args.getD i default)=b at*;apply af.wk tF mF [(5,[(6,zI b,[])])] D7 ?_
   (refine oA ?_;repeat' first|exact⟨⟩|apply mA|apply mC<;>intro)
   all_goals(try simp only[bu])
   all_goals try exact zB
   all_goals try exact absurd hi (lU.2 ‹_›)
   all_goals try exact eZ
   refine dE (ι:=Nat×Int) (μ:=fun q=>x.args.length-q.1) (i:=(i,n)) (i+1,IntKind.i64.wrap (n+b)) ⟨⟨by dsimp only;omega,g2⟩,by dsimp only;omega⟩ ?_
   (focus(refine aQ ?_;repeat' first|with_reducible apply ai|exact wZ|fail))
   ·exact aS zo
  ·rw[qB zo,my]at g2;apply af.wk tF mF [(5,[(6,.any,[])])] D7 ?_
   (refine oA ?_;repeat' first|exact⟨⟩|apply mA|apply mC<;>intro)
   all_goals try exact absurd ‹i<x.args.length› hi
   all_goals exact eZ
def Sf(e k D:Nat)(x:X)(hx:X.le (e+1) (D+1) x)(hk:X.le (e+1) k x):∃b:Bool,Af prog 13 [aq (e+1) (D+1) .any fun _=>x] [] (.bool fun _=>b) []:=by
 have h1:=JU e k D x hx hk;have h2:=JV e k D x hx hk;generalize rK k x=d at*;generalize rL k x=s at*;refine⟨decide (d<=12)&&decide (s<=300),?_⟩
 (refine fA [.tmp 2] TS [(1,[(1,zI d,[]),(5,zI s,[])])] func13 fun _=>?_;repeat' first|exact⟨⟩|apply mA|apply mC<;>intro)
 all_goals(try simp only[aF])
 all_goals try exact zB
 (all_goals try first|exact eZ|(refine qC ?_;repeat' first|exact⟨⟩|apply mA))
 all_goals trace_state
 all_goals(by_cases q1:d<=12<;>by_cases q2:s<=300<;>simp[q1,q2])
end Go.Ai
