/- Chapter 17: expr: one operation. -/
import Derived.Test.YtbagpkiomjlhkaaGreatDoorPthA
import Derived.Test.YtbagpkiomjlhkaaGreatDoorLexA
set_option linter.all false
namespace Go.Ai
open Go Go.Proofs Tryz
set_option maxRecDepth 100000
set_option maxHeartbeats 4000000
def fH(o:Int):Int:=if o=1∨o=2∨o=22∨o=26 then 0 else if o=3∨o=16∨o=18∨o=19∨o=20∨o=27∨o=28 then 1 else if o=21∨o=24 then 3 else 2
def eW(o:Int):Int:=if o=25 then 256 else fH o
def dP(o:Int):Bool:=o==2||o==22||o==26
def gc(o:Int):Bool:=o==15||o==26
def l8(k:Int):Bool:=decide (1<=k∧k<=7)
def Nc(o:Int):Af prog 91 [.int .i64 fun _=>o] [] (.ag [.int .i64 fun _=>fH o,.int .i64 fun _=>eW o]) []:=by
 obtain⟨a,ha⟩:∃a,a=fH o:=⟨_,rfl⟩
 obtain⟨b,hb⟩:∃b,b=eW o:=⟨_,rfl⟩
 rw[<- ha,<- hb]
 (refine fB [.tmp 2,.tmp 3] Nd [] func91 fun _=>?_;repeat' first|exact⟨⟩|apply mA|apply mC<;>intro)
 all_goals(first|rw[ha]|rw[hb])
 all_goals(try unfold eW)
 all_goals(unfold fH;repeat' split)
 all_goals omega
def Nf(o:Int):Af prog 92 [.int .i64 fun _=>o] [] (.bool fun _=>dP o) []:=by
 obtain⟨a,ha⟩:∃a,a=dP o:=⟨_,rfl⟩
 rw[<- ha]
 (refine fB [.tmp 2] Ng [] func92 fun _=>?_;repeat' first|exact⟨⟩|apply mA|apply mC<;>intro)
 all_goals(rw[ha];unfold dP;by_cases h1:o=2<;>by_cases h2:o=22<;>by_cases h3:o=26<;>simp[h1,h2,h3])
def Nh(o:Int):Af prog 93 [.int .i64 fun _=>o] [] (.bool fun _=>gc o) []:=by
 obtain⟨a,ha⟩:∃a,a=gc o:=⟨_,rfl⟩
 rw[<- ha]
 (refine fB [.tmp 2] Ni [] func93 fun _=>?_;repeat' first|exact⟨⟩|apply mA|apply mC<;>intro)
 all_goals(rw[ha];unfold gc;by_cases h1:o=15<;>by_cases h2:o=26<;>simp[h1,h2])
def Nj(o:Int):Af prog 140 [.int .i64 fun _=>o] [] (.bool fun _=>l8 o) []:=by
 obtain⟨a,ha⟩:∃a,a=l8 o:=⟨_,rfl⟩
 rw[<- ha]
 (refine fB [.tmp 2] Nk [] func140 fun _=>?_;repeat' first|exact⟨⟩|apply mA|apply mC<;>intro)
 all_goals(rw[ha];unfold l8;by_cases h1:1<=o<;>by_cases h2:o<=7<;>simp[h1,h2])
def kA(p:dL):Bool:=p.1==3
def Nl(p:dL):Af prog 96 [vk fun _=>p] [] (.bool fun _=>kA p) []:=by
 obtain⟨a,ha⟩:∃a,a=kA p:=⟨_,rfl⟩
 rw[<- ha]
 (refine fB [.tmp 2] Nm [] func96 fun _=>?_;repeat' first|exact⟨⟩|apply mA|apply mC<;>intro)
 rw[ha];rfl
def mZ(p:dL->Bool):List dL->Nat->Int
 | [],_ => -1
 | x::r,i=>if p x=true then i else mZ p r (i+1)
theorem Gi(p:dL->Bool):∀(l:List dL) (i:Nat),decide (0<=mZ p l i)=l.any p
 | [],_=>by simp[mZ]
 | x::r,i=>by
  unfold mZ;by_cases q:p x=true
  ·rw[ae q];simp[q]
  ·rw[aa q,Gi p r (i+1)];simp[q]
def Nn(l:List dL)(hl:l.length<=1000000):Af prog 141 [l9 fun _=>l,.func 96 []] [] (.int .i64 fun _=>mZ kA l 0) []:=by
 obtain⟨Z,hZ⟩:∃Z,Z=mZ kA l 0:=⟨_,rfl⟩
 rw[<- hZ];unfold l9
 (refine fA [.tmp 4] BG [] func141 fun _=>?_;repeat' first|exact⟨⟩|apply mA|apply mC<;>intro)
 refine .loop (fun i:Nat=>⟨19,[(8,.int .i64 fun _=>(i:Int)),(7,.int .i64 fun _=>(l.length:Int)),(0,.slc .any 3 (fun _=>l.length) (vm fun _=>l)),(1,.func 96 [])],[]⟩)
  (fun i=>i<=l.length∧mZ kA (l.drop i) i=Z) (fun i=>l.length-i) 0 ⟨aB _,hZ.symm⟩ ?_ fun i E hi=>?_
 ·exact aZ
 obtain⟨h1,h2⟩:=hi;by_cases hi:i<l.length
 ·rw[iH hi]at h2;unfold mZ at h2;have h3:=Nl (l.getD i (0,0,⟨#[]⟩));have e1:l.getD i (0,0,⟨#[]⟩)=l[i]:=by simp[List.getD,hi]
  rw[<- e1]at h2;obtain⟨b,hb⟩:∃b,b=kA (l.getD i (0,0,⟨#[]⟩)):=⟨_,rfl⟩
  rw[<- hb]at h2 h3;apply af.wk tF mF [(4,[(5,zO b,[])])] BG ?_
  (refine oA ?_;repeat' first|exact⟨⟩|apply mA|apply mC<;>intro)
  all_goals(try simp only[bu])
  all_goals try exact zB
  all_goals try exact absurd hi ‹¬i<l.length›
  (all_goals try first|exact eZ|(refine qC ?_;repeat' first|exact⟨⟩|apply mA))
  ·rw[ae ‹b=true›]at h2;exact h2
  ·rw[aa (fun g=>Bool.noConfusion (g.symm.trans ‹b=false›))]at h2;refine dE (i+1) ⟨⟨zo,h2⟩,zo⟩ ?_
   (focus(refine aQ ?_;repeat' first|with_reducible apply ai|exact wZ|fail))
   exact aS zo
 ·have e:l.drop i=[]:=qB zo;rw[e]at h2;apply af.wk tF mF [(4,[(5,.any,[])])] BG ?_
  (refine oA ?_;repeat' first|exact⟨⟩|apply mA|apply mC<;>intro)
  all_goals try exact absurd ‹i<l.length› hi
  (all_goals try first|exact eZ|(refine qC ?_;repeat' first|exact⟨⟩|apply mA))
  rw[mZ]at h2
  first|exact h2|exact h2.symm
def No(l:List dL)(hl:l.length<=1000000):Af prog 95 [l9 fun _=>l,.func 96 []] [] (.bool fun _=>l.any kA) []:=by
 have h:=Nn l hl;rw[<- Gi kA l 0];generalize mZ kA l 0=n at*;unfold l9 at*
 (refine fA [.tmp 4] Np [(1,[(2,zI n,[])])] func95 fun _=>?_;repeat' first|exact⟨⟩|apply mA|apply mC<;>intro)
 all_goals try exact zB
 all_goals try exact eZ
 all_goals trace_state
def nS(eg:V->Int)(l:List V):Int:=if l.length=0 then 4 else if l.length=1 then(if eg (l.getD 0 default)≠0 then eg (l.getD 0 default)else if l8 (l.getD 0 default).kind=true then 0 else 18)else 3
def Nq(eg:V->Int)(e:Nat)(l:List V)(hl:l.length<=1073741824)(h:l.length=1->Af prog 99 [aK (e+1) .any fun _=>l.getD 0 default] [] (.int .i64 fun _=>eg (l.getD 0 default)) []):
 Af prog 94 [gH (e+1) .any fun _=>l] [] (.int .i64 fun _=>nS eg l) []:=by
 have h2:=Nj (l.getD 0 default).kind;obtain⟨Z,hZ⟩:∃Z,Z=nS eg l:=⟨_,rfl⟩
 rw[<- hZ];unfold nS at hZ;generalize l8 (l.getD 0 default).kind=b at*;obtain⟨c,hc⟩:∃c,c=eg (l.getD 0 default):=⟨_,rfl⟩
 rw[<- hc]at h hZ;unfold gH
 (refine fA [.tmp 2] Nr [(5,[(3,zI c,[])]),(8,[(4,zO b,[])])] func94 fun _=>?_;repeat' first|exact⟨⟩|apply mA|apply mC<;>intro)
 any_goals((with_reducible refine nO ?_);first|exact h zo|exact h2)
 (all_goals try first|exact eZ|(refine qC ?_;repeat' first|exact⟨⟩|apply mA))
 all_goals(rw[hZ])
 all_goals(repeat' split)
 all_goals(first|rfl|omega|simp_all)
def iL(eg:V->Int)(pv:ByteArray->List dL×Int)(x:X):Int:=
 if x.op<1∨28<x.op then 11 else
 if(x.op≠1∧0<x.value.length)∨(dP x.op=false∧x.text.size≠0)∨(gc x.op=false∧x.int≠0)then 3 else
 if eW x.op=0∧0<x.args.length then 3 else
 if(x.args.length:Int)<fH x.op then 4 else
 if eW x.op<x.args.length∧x.op≠25 then 3 else
 if x.op=1 then nS eg x.value else
 if dP x.op=true∧(pv x.text).2≠0 then(pv x.text).2 else
 if dP x.op=true∧(pv x.text).1.any kA≠(x.op==26)then 22 else
 if gc x.op=true∧(x.int<0∨12<x.int)then 2 else 0
def Gj(eg:V->Int)(pv:ByteArray->List dL×Int)(e D:Nat)(x:X)(hl:x.value.length<=1073741824∧x.args.length<=1073741824)
 (hp:dP x.op=true->Af prog 43 [.str fun _=>x.text] [] (.ag [l9 fun _=>(pv x.text).1,.int .i64 fun _=>(pv x.text).2]) []∧(pv x.text).1.length<=1000000)
 (hv:x.op=1->x.value.length=1->Af prog 99 [aK (e+1) .any fun _=>x.value.getD 0 default] [] (.int .i64 fun _=>eg (x.value.getD 0 default)) []):
 Af prog 42 [aq (e+1) D .any fun _=>x] [] (.int .i64 fun _=>iL eg pv x) []:=by
 have h1:=Nc x.op;have h2:=Nf x.op;have h3:=Nh x.op;have h4:=fun q=>Nq eg e x.value hl.1 (hv q);have h5:=fun q=>No (pv x.text).1 (hp q).2;obtain⟨Z,hZ⟩:∃Z,Z=iL eg pv x:=⟨_,rfl⟩
 rw[<- hZ];unfold iL at hZ;replace hp:=fun q=>(hp q).1;clear hv;generalize nS eg x.value=cv at*;generalize pv x.text=P at*;obtain⟨P,pe⟩:=P;dsimp only at hp h5 hZ;generalize P.any kA=pa at*;generalize fH x.op=lo at*;generalize eW x.op=hi at*;generalize hpx:dP x.op=px at*;generalize hsx:gc x.op=sx at*
 (refine fA [.tmp 2] Ns [(3,[(2,.ag [zI lo,zI hi],[])]),(4,[(12,zO px,[]),(23,zO sx,[])]),(13,[(2,zI cv,[])]),(14,[(2,zO px,[])]),(15,[(2,.ag [l9 fun _=>P,zI pe],[])]),(18,[(1,zO pa,[])]),(21,[(2,zO sx,[])])] func42 fun _=>?_;repeat' first|exact⟨⟩|apply mA|apply mC<;>intro)
 all_goals(try simp only[aF])
 any_goals((with_reducible first|refine nO ?_|refine sO (fun _=>?_));first|exact h1|exact h2|exact h3|exact h4 zo|exact h5 (by assumption)|exact hp (by assumption))
 (all_goals try first|exact eZ|(refine qC ?_;repeat' first|exact⟨⟩|apply mA))
 all_goals(first|exact fun a b=>(by rw[a,b];rfl)|skip)
 all_goals(clear h1 h2 h3 h4 h5 hp hpx hsx;rw[hZ];clear hZ)
 all_goals(repeat' split)
 all_goals(first|rfl|grind)
def X.all(P:X->Prop):Nat->X->Prop
 | 0,_=>True
 | d+1,x=>P x∧∀y∈x.args,X.all P d y
def lu(f:X->Int->Int×Int):List X->Int->Int×Int
 | [],n=>(0,n)
 | y::r,n=>if(f y n).1≠0 then f y n else lu f r (f y n).2
def ge(one:X->Int):Nat->X->Int->Int->Int×Int
 | 0,_,_,n=>(0,n)
 | k+1,x,lvl,n=>if n=256 then(9,n)else if 8<lvl then(23,n+1)else if one x≠0 then(one x,n+1)else lu (fun y m=>ge one k y (lvl+1) m) x.args (n+1)
theorem Gk{f:X->Int->Int×Int}(hf:∀y n,0<=n->n<=256->0<=(f y n).2∧(f y n).2<=256):∀(l:List X) (n:Int),0<=n->n<=256->0<=(lu f l n).2∧(lu f l n).2<=256
 | [],n,h1,h2=>⟨h1,h2⟩
 | y::r,n,h1,h2=>by
  unfold lu;have h:=hf y n h1 h2;split
  ·exact h
  ·exact Gk hf r _ h.1 h.2
theorem BH(one:X->Int):∀(k:Nat) (x:X) (lvl n:Int),0<=n->n<=256->0<=(ge one k x lvl n).2∧(ge one k x lvl n).2<=256
 | 0,_,_,n,h1,h2=>⟨h1,h2⟩
 | k+1,x,lvl,n,h1,h2=>by
  unfold ge;split
  ·exact⟨h1,h2⟩
  split
  ·dsimp only;omega
  split
  ·dsimp only;omega
  ·exact Gk (fun y m a b=>BH one k y (lvl+1) m a b) _ _ zo zo
def ma(n:Int):List (Nat×AO):=[(1002,.box [.int .i64 fun _=>n]),(1003,.box [.func 41 [.ptr 1002 0,.ptr 1003 0]])]
def Gl(one:X->Int)(e:Nat)(P:X->Prop)(hP:∀D x,X.le (e+1) (D+1) x->P x->Af prog 42 [aq (e+1) (D+1) .any fun _=>x] [] (.int .i64 fun _=>one x) [])
 (k D:Nat) (x:X) (lvl n:Int) (hx:X.le (e+1) (D+1) x) (hp:P x) (h1:1<=lvl∧lvl<=9) (hn:0<=n∧n<=256)
 (ih:lvl<=8->∀i m,i<x.args.length->0<=m->m<=256->Af prog 41 [aq (e+1) D .any fun _=>x.args.getD i default,.int .i64 fun _=>lvl+1,.ptr 1002 0,.ptr 1003 0] (ma m) (.int .i64 fun _=>(ge one k (x.args.getD i default) (lvl+1) m).1) (ma (ge one k (x.args.getD i default) (lvl+1) m).2)):
 Af prog 41 [aq (e+1) (D+1) .any fun _=>x,.int .i64 fun _=>lvl,.ptr 1002 0,.ptr 1003 0] (ma n) (.int .i64 fun _=>(ge one (k+1) x lvl n).1) (ma (ge one (k+1) x lvl n).2):=by
 have h2:=hP D x hx hp;have hl1:=hx.2.2.1;obtain⟨Z,hZ⟩:∃Z,Z=ge one (k+1) x lvl n:=⟨_,rfl⟩
 rw[<- hZ];unfold ge at hZ;obtain⟨f,hf⟩:∃f:X->Int->Int×Int,f=fun y m=>ge one k y (lvl+1) m:=⟨_,rfl⟩
 rw[<- hf]at hZ;have hr:∀y n,0<=n->n<=256->0<=(f y n).2∧(f y n).2<=256:=fun y n a b=>by rw[hf];exact BH one k y (lvl+1) n a b
 have ih':lvl<=8->∀i m,i<x.args.length->0<=m->m<=256->Af prog 41 [aq (e+1) D .any fun _=>x.args.getD i default,.int .i64 fun _=>lvl+1,.ptr 1002 0,.ptr 1003 0] (ma m) (.int .i64 fun _=>(f (x.args.getD i default) m).1) (ma (f (x.args.getD i default) m).2):=by rw[hf];exact ih
 clear ih hf;generalize one x=c at*;obtain⟨l1,hl⟩:∃l1,l1=lvl+1:=⟨_,rfl⟩
 rw[<- hl]at ih';have hw:IntKind.i64.wrap (lvl+1)=l1:=(ax zo zo).trans hl.symm;obtain⟨n1,hn1⟩:∃n1,n1=n+1:=⟨_,rfl⟩
 rw[<- hn1]at hZ
 (refine fB [.tmp 6] BI [(6,[(1,zI c,[])])] func41 fun _=>?_;repeat' first|exact⟨⟩|apply mA|apply mC<;>intro)
 ·rw[hZ,ae ‹_›]
 ·rw[hZ,ae ‹_›]
 ·rw[hZ,aa ‹_›,ae ‹_›]
 ·rw[hZ,aa ‹_›,ae ‹_›];exact(ax zo zo).trans hn1.symm
 ·rw[hZ,aa ‹_›,aa zo,ae ‹_›]
 ·rw[hZ,aa ‹_›,aa zo,ae ‹_›];exact(ax zo zo).trans hn1.symm
 rw[aa ‹_›,aa zo,aa zo]at hZ;refine .loop (fun q:Nat×Int=>⟨38,[(25,.int .i64 fun _=>(q.1:Int)),(24,.int .i64 fun _=>(x.args.length:Int)),(23,.slc .any 5 (fun _=>x.args.length) (nT (e+1) (D+1) .any fun _=>x)),(1,.int .i64 fun _=>lvl),(3,.ptr 1003 0)],ma q.2⟩)
  (fun q=>q.1<=x.args.length∧lu f (x.args.drop q.1) q.2=Z∧0<=q.2∧q.2<=256) (fun q=>x.args.length-q.1) (0,n1) ⟨aB _,hZ.symm,by dsimp only;omega,by dsimp only;omega⟩ ?_ fun q E hq=>?_
 ·(focus(refine aQ ?_;repeat' first|with_reducible apply ai|exact wZ|fail))
  exact(ax zo zo).trans hn1.symm
 obtain⟨i,m⟩:=q;obtain⟨q1,q2,q3,q4⟩:=hq;dsimp only at q1 q2 q3 q4;by_cases hi:i<x.args.length
 ·rw[iH hi]at q2;have e1:x.args.getD i default=x.args[i]:=by simp[List.getD,hi]
  rw[<- e1]at q2;unfold lu at q2;have h3:=ih' zo i m hi q3 q4;have h4:=hr (x.args.getD i default) m q3 q4;generalize f (x.args.getD i default) m=r at*;obtain⟨r1,r2⟩:=r;dsimp only at q2 h3 h4;apply af.wk tF mF [(12,[(4,zI r1,ma r2)])] BI ?_
  (refine oA ?_;repeat' first|exact⟨⟩|apply mA|apply mC<;>intro)
  all_goals(try simp only[bu,hw])
  all_goals try exact zB
  all_goals try exact absurd hi (lU.2 ‹_›)
  (all_goals try first|exact eZ|(refine qC ?_;repeat' first|exact⟨⟩|apply mA))
  ·rw[ae ‹_›]at q2;rw[<- q2]
  ·rw[ae ‹_›]at q2;rw[<- q2]
  ·rw[aa zo]at q2;refine dE (ι:=Nat×Int) (μ:=fun q=>x.args.length-q.1) (i:=(i,m)) (i+1,r2) ⟨⟨by dsimp only;omega,q2,h4.1,h4.2⟩,by dsimp only;omega⟩ ?_
   (focus(refine aQ ?_;repeat' first|with_reducible apply ai|exact wZ|fail))
   exact aS zo
 ·have e:x.args.drop i=[]:=qB zo;rw[e,lu]at q2;apply af.wk tF mF [(12,[(4,.any,[])])] BI ?_
  (refine oA ?_;repeat' first|exact⟨⟩|apply mA|apply mC<;>intro)
  all_goals try exact absurd ‹i<x.args.length› hi
  (all_goals try first|exact eZ|(refine qC ?_;repeat' first|exact⟨⟩|apply mA))
  ·rw[<- q2]
  ·rw[<- q2]
def Nt(one:X->Int)(e:Nat)(P:X->Prop)(hP:∀D x,X.le (e+1) (D+1) x->P x->Af prog 42 [aq (e+1) (D+1) .any fun _=>x] [] (.int .i64 fun _=>one x) []):
 ∀(k D:Nat) (x:X) (lvl n:Int),X.le (e+1) (D+1) x->X.all P (k+1) x->1<=lvl->lvl+k=9->0<=n->n<=256 ->
 Af prog 41 [aq (e+1) (D+1) .any fun _=>x,.int .i64 fun _=>lvl,.ptr 1002 0,.ptr 1003 0] (ma n) (.int .i64 fun _=>(ge one (k+1) x lvl n).1) (ma (ge one (k+1) x lvl n).2):=by
 intro k
 induction k with
 | zero=>intro D x lvl n hx hp h1 h2 h3 h4;exact Gl one e P hP 0 D x lvl n hx hp.1 zo ⟨h3,h4⟩ fun h=>absurd h zo
 | succ k ih=>
  intro D x lvl n hx hp h1 h2 h3 h4;refine Gl one e P hP (k+1) D x lvl n hx hp.1 zo ⟨h3,h4⟩ fun h i m hi h5 h6=>?_;have hy:=X.gg hx hi;obtain⟨c,rfl⟩:=X.lP hy;refine ih c _ (lvl+1) m hy (hp.2 _ ?_) zo zo h5 h6;have e1:x.args.getD i default=x.args[i]:=by simp[List.getD,hi]
  rw[e1];exact d9 hi
def kB(one:X->Int)(x:X):Int:=(ge one 9 x 1 0).1
def Gm(one:X->Int)(e:Nat)(P:X->Prop)(hP:∀D x,X.le (e+1) (D+1) x->P x->Af prog 42 [aq (e+1) (D+1) .any fun _=>x] [] (.int .i64 fun _=>one x) [])
 (D:Nat) (x:X) (hx:X.le (e+1) (D+1) x) (hp:X.all P 9 x):Af prog 15 [aq (e+1) (D+1) .any fun _=>x] [] (.int .i64 fun _=>kB one x) []:=by
 have h:=Nt one e P hP 8 D x 1 0 hx hp zo zo zo zo;unfold kB;rw[show 8+1=9 from rfl]at h;generalize ge one 9 x 1 0=r at*;obtain⟨r1,r2⟩:=r;dsimp only at h ⊢
 (refine fA [.tmp 2] Nu [(4,[(2,zI r1,ma r2)])] func15 fun _=>?_;repeat' first|exact⟨⟩|apply mA|apply mC<;>intro)
 all_goals try exact zB
 all_goals try exact eZ
 all_goals trace_state
end Go.Ai
