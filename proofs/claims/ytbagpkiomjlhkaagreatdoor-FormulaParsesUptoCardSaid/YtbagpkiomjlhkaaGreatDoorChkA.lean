/- Chapter 17: expr: one operation. -/
import Derived.Test.YtbagpkiomjlhkaaGreatDoorPthA
import Derived.Test.YtbagpkiomjlhkaaGreatDoorLexA
set_option linter.all false
namespace Go.Ai
open Go Go.Proofs
set_option maxRecDepth 100000
set_option maxHeartbeats 4000000
def lowX(o:Int):Int:=if o=1∨o=2∨o=22∨o=26 then 0 else if o=3∨o=16∨o=18∨o=19∨o=20∨o=27∨o=28 then 1 else if o=21∨o=24 then 3 else 2
def afs(o:Int):Int:=if o=25 then 256 else lowX o
def abJ(o:Int):Bool:=o==2||o==22||o==26
def aec(o:Int):Bool:=o==15||o==26
def abA(k:Int):Bool:=decide (1<=k∧k<=7)
def arity_ok(o:Int):Af Tryz.prog 91 [.int .i64 fun _=>o] [] (.tup [.int .i64 fun _=>lowX o,.int .i64 fun _=>afs o]) []:=by
 obtain⟨a,ha⟩:∃a,a=lowX o:=⟨_,rfl⟩
 obtain⟨b,hb⟩:∃b,b=afs o:=⟨_,rfl⟩
 rw[<- ha,<- hb]
 (refine fB [.tmp 2,.tmp 3] kp91 [] Tryz.func91 fun _=>?_;repeat' with_reducible first|exact⟨⟩|refine mA ?_ ?_|refine mC (fun _=>?_) fun _=>?_)
 all_goals(first|rw[ha]|rw[hb])
 all_goals(try unfold afs)
 all_goals(unfold lowX;repeat' split)
 all_goals omega
def amb(o:Int):Af Tryz.prog 92 [.int .i64 fun _=>o] [] (.bool fun _=>abJ o) []:=by
 obtain⟨a,ha⟩:∃a,a=abJ o:=⟨_,rfl⟩
 rw[<- ha]
 (refine fB [.tmp 2] kp92 [] Tryz.func92 fun _=>?_;repeat' with_reducible first|exact⟨⟩|refine mA ?_ ?_|refine mC (fun _=>?_) fun _=>?_)
 all_goals(rw[ha];unfold abJ;by_cases h1:o=2<;>by_cases h2:o=22<;>by_cases h3:o=26<;>simp[h1,h2,h3])
def alO(o:Int):Af Tryz.prog 93 [.int .i64 fun _=>o] [] (.bool fun _=>aec o) []:=by
 obtain⟨a,ha⟩:∃a,a=aec o:=⟨_,rfl⟩
 rw[<- ha]
 (refine fB [.tmp 2] kp93 [] Tryz.func93 fun _=>?_;repeat' with_reducible first|exact⟨⟩|refine mA ?_ ?_|refine mC (fun _=>?_) fun _=>?_)
 all_goals(rw[ha];unfold aec;by_cases h1:o=15<;>by_cases h2:o=26<;>simp[h1,h2])
def alP(o:Int):Af Tryz.prog 140 [.int .i64 fun _=>o] [] (.bool fun _=>abA o) []:=by
 obtain⟨a,ha⟩:∃a,a=abA o:=⟨_,rfl⟩
 rw[<- ha]
 (refine fB [.tmp 2] kp140 [] Tryz.func140 fun _=>?_;repeat' with_reducible first|exact⟨⟩|refine mA ?_ ?_|refine mC (fun _=>?_) fun _=>?_)
 all_goals(rw[ha];unfold abA;by_cases h1:1<=o<;>by_cases h2:o<=7<;>simp[h1,h2])
def allP(p:Prt):Bool:=p.1==3
def allP_ok(p:Prt):Af Tryz.prog 96 [encP fun _=>p] [] (.bool fun _=>allP p) []:=by
 obtain⟨a,ha⟩:∃a,a=allP p:=⟨_,rfl⟩
 rw[<- ha]
 (refine fB [.tmp 2] kp96 [] Tryz.func96 fun _=>?_;repeat' with_reducible first|exact⟨⟩|refine mA ?_ ?_|refine mC (fun _=>?_) fun _=>?_)
 rw[ha];rfl
def idxP(p:Prt->Bool):List Prt->Nat->Int
 | [],_ => -1
 | x::r,i=>if p x=true then i else idxP p r (i+1)
theorem ak0(p:Prt->Bool):∀(l:List Prt) (i:Nat),decide (0<=idxP p l i)=l.any p
 | [],_=>by simp[idxP]
 | x::r,i=>by
  unfold idxP;by_cases q:p x=true
  ·rw[if_pos q];simp[q]
  ·rw[if_neg q,ak0 p r (i+1)];simp[q]
def an0(l:List Prt)(hl:l.length<=1000000):Af Tryz.prog 141 [slcP fun _=>l,.func 96 []] [] (.int .i64 fun _=>idxP allP l 0) []:=by
 obtain⟨Z,hZ⟩:∃Z,Z=idxP allP l 0:=⟨_,rfl⟩
 rw[<- hZ];unfold slcP
 (refine fA [.tmp 4] kp141 [] Tryz.func141 fun _=>?_;repeat' with_reducible first|exact⟨⟩|refine mA ?_ ?_|refine mC (fun _=>?_) fun _=>?_)
 refine .loop (fun i:Nat=>⟨19,[(8,.int .i64 fun _=>(i:Int)),(7,.int .i64 fun _=>(l.length:Int)),(0,.slc .any 3 (fun _=>l.length) (alT fun _=>l)),(1,.func 96 [])],[]⟩)
  (fun i=>i<=l.length∧idxP allP (l.drop i) i=Z) (fun i=>l.length-i) 0 ⟨Nat.zero_le _,hZ.symm⟩ ?_ fun i E hi=>?_
 ·exact aZ
 obtain⟨h1,h2⟩:=hi;by_cases hi:i<l.length
 ·rw[List.drop_eq_getElem_cons hi]at h2;unfold idxP at h2;have h3:=allP_ok (l.getD i (0,0,⟨#[]⟩));have e1:l.getD i (0,0,⟨#[]⟩)=l[i]:=by simp[List.getD,hi]
  rw[<- e1]at h2;obtain⟨b,hb⟩:∃b,b=allP (l.getD i (0,0,⟨#[]⟩)):=⟨_,rfl⟩
  rw[<- hb]at h2 h3;apply AWp.wk tF mF [(4,[(5,zO b,[])])] kp141 ?_
  (refine oA ?_;repeat' with_reducible first|exact⟨⟩|refine mA ?_ ?_|refine mC (fun _=>?_) fun _=>?_)
  all_goals(try simp only[Int.toNat_natCast])
  all_goals(try exact zB)
  all_goals(try(exact absurd hi ‹¬i<l.length›))
  (all_goals try first|exact eZ|(refine qC ?_;repeat' with_reducible first|exact⟨⟩|refine mA ?_ ?_))
  ·rw[if_pos ‹b=true›]at h2;exact h2
  ·rw[if_neg (fun g=>Bool.noConfusion (g.symm.trans ‹b=false›))]at h2;refine dE (i+1) ⟨⟨by omega,h2⟩,by omega⟩ ?_
   (focus(refine aQ ?_;repeat' first|with_reducible apply And.intro|exact wZ|fail))
   exact w64n (by omega)
 ·have e:l.drop i=[]:=List.drop_eq_nil_of_le (by omega);rw[e]at h2;apply AWp.wk tF mF [(4,[(5,.any,[])])] kp141 ?_
  (refine oA ?_;repeat' with_reducible first|exact⟨⟩|refine mA ?_ ?_|refine mC (fun _=>?_) fun _=>?_)
  all_goals(try(exact absurd ‹i<l.length› hi))
  (all_goals try first|exact eZ|(refine qC ?_;repeat' with_reducible first|exact⟨⟩|refine mA ?_ ?_))
  rw[idxP]at h2
  first|exact h2|exact h2.symm
def ai0(l:List Prt)(hl:l.length<=1000000):Af Tryz.prog 95 [slcP fun _=>l,.func 96 []] [] (.bool fun _=>l.any allP) []:=by
 have h:=an0 l hl;rw[<- ak0 allP l 0];generalize idxP allP l 0=n at*;unfold slcP at*
 (refine fA [.tmp 4] kp95 [(1,[(2,zI n,[])])] Tryz.func95 fun _=>?_;repeat' with_reducible first|exact⟨⟩|refine mA ?_ ?_|refine mC (fun _=>?_) fun _=>?_)
 all_goals(try exact zB)
 (all_goals(try exact eZ))
 all_goals trace_state
def aea(ckv:V->Int)(l:List V):Int:=if l.length=0 then 4 else if l.length=1 then(if ckv (l.getD 0 default)≠0 then ckv (l.getD 0 default)else if abA (l.getD 0 default).kind=true then 0 else 18)else 3
def ani(ckv:V->Int)(e:Nat)(l:List V)(hl:l.length<=1073741824)(h:l.length=1->Af Tryz.prog 99 [encV (e+1) .any fun _=>l.getD 0 default] [] (.int .i64 fun _=>ckv (l.getD 0 default)) []):
 Af Tryz.prog 94 [slcV (e+1) .any fun _=>l] [] (.int .i64 fun _=>aea ckv l) []:=by
 have h2:=alP (l.getD 0 default).kind;obtain⟨Z,hZ⟩:∃Z,Z=aea ckv l:=⟨_,rfl⟩
 rw[<- hZ];unfold aea at hZ;generalize abA (l.getD 0 default).kind=b at*;obtain⟨c,hc⟩:∃c,c=ckv (l.getD 0 default):=⟨_,rfl⟩
 rw[<- hc]at h hZ;unfold slcV
 (refine fA [.tmp 2] kp94 [(5,[(3,zI c,[])]),(8,[(4,zO b,[])])] Tryz.func94 fun _=>?_;repeat' with_reducible first|exact⟨⟩|refine mA ?_ ?_|refine mC (fun _=>?_) fun _=>?_)
 any_goals((with_reducible refine nO ?_);first|exact h (by omega)|exact h2)
 (all_goals try first|exact eZ|(refine qC ?_;repeat' with_reducible first|exact⟨⟩|refine mA ?_ ?_))
 all_goals(rw[hZ])
 all_goals(repeat' split)
 all_goals(first|rfl|omega|simp_all)
def oneX(ckv:V->Int)(pv:ByteArray->List Prt×Int)(x:X):Int:=
 if x.op<1∨28<x.op then 11 else
 if(x.op≠1∧0<x.value.length)∨(abJ x.op=false∧x.text.size≠0)∨(aec x.op=false∧x.int≠0)then 3 else
 if afs x.op=0∧0<x.args.length then 3 else
 if(x.args.length:Int)<lowX x.op then 4 else
 if afs x.op<x.args.length∧x.op≠25 then 3 else
 if x.op=1 then aea ckv x.value else
 if abJ x.op=true∧(pv x.text).2≠0 then(pv x.text).2 else
 if abJ x.op=true∧(pv x.text).1.any allP≠(x.op==26)then 22 else
 if aec x.op=true∧(x.int<0∨12<x.int)then 2 else 0
def one_ok(ckv:V->Int)(pv:ByteArray->List Prt×Int)(e D:Nat)(x:X)(hl:x.value.length<=1073741824∧x.args.length<=1073741824)
 (hp:abJ x.op=true->Af Tryz.prog 43 [.str fun _=>x.text] [] (.tup [slcP fun _=>(pv x.text).1,.int .i64 fun _=>(pv x.text).2]) []∧(pv x.text).1.length<=1000000)
 (hv:x.op=1->x.value.length=1->Af Tryz.prog 99 [encV (e+1) .any fun _=>x.value.getD 0 default] [] (.int .i64 fun _=>ckv (x.value.getD 0 default)) []):
 Af Tryz.prog 42 [encX (e+1) D .any fun _=>x] [] (.int .i64 fun _=>oneX ckv pv x) []:=by
 have h1:=arity_ok x.op;have h2:=amb x.op;have h3:=alO x.op;have h4:=fun q=>ani ckv e x.value hl.1 (hv q);have h5:=fun q=>ai0 (pv x.text).1 (hp q).2;obtain⟨Z,hZ⟩:∃Z,Z=oneX ckv pv x:=⟨_,rfl⟩
 rw[<- hZ];unfold oneX at hZ;replace hp:=fun q=>(hp q).1;clear hv;generalize aea ckv x.value=cv at*;generalize pv x.text=P at*;obtain⟨P,pe⟩:=P;dsimp only at hp h5 hZ;generalize P.any allP=pa at*;generalize lowX x.op=lo at*;generalize afs x.op=hi at*;generalize hpx:abJ x.op=px at*;generalize hsx:aec x.op=sx at*
 (refine fA [.tmp 2] kp42 [(3,[(2,.tup [zI lo,zI hi],[])]),(4,[(12,zO px,[]),(23,zO sx,[])]),(13,[(2,zI cv,[])]),(14,[(2,zO px,[])]),(15,[(2,.tup [slcP fun _=>P,zI pe],[])]),(18,[(1,zO pa,[])]),(21,[(2,zO sx,[])])] Tryz.func42 fun _=>?_;repeat' with_reducible first|exact⟨⟩|refine mA ?_ ?_|refine mC (fun _=>?_) fun _=>?_)
 all_goals(try simp only[ite_self])
 any_goals((with_reducible first|refine nO ?_|refine sO (fun _=>?_));first|exact h1|exact h2|exact h3|exact h4 (by omega)|exact h5 (by assumption)|exact hp (by assumption))
 (all_goals try first|exact eZ|(refine qC ?_;repeat' with_reducible first|exact⟨⟩|refine mA ?_ ?_))
 all_goals(first|exact fun a b=>(by rw[a,b];rfl)|skip)
 all_goals(clear h1 h2 h3 h4 h5 hp hpx hsx;rw[hZ];clear hZ)
 all_goals(repeat' split)
 all_goals(first|rfl|grind)
def X.all(P:X->Prop):Nat->X->Prop
 | 0,_=>True
 | d+1,x=>P x∧∀y∈x.args,X.all P d y
def visL(f:X->Int->Int×Int):List X->Int->Int×Int
 | [],n=>(0,n)
 | y::r,n=>if(f y n).1≠0 then f y n else visL f r (f y n).2
def visX(one:X->Int):Nat->X->Int->Int->Int×Int
 | 0,_,_,n=>(0,n)
 | k+1,x,lvl,n=>if n=256 then(9,n)else if 8<lvl then(23,n+1)else if one x≠0 then(one x,n+1)else visL (fun y m=>visX one k y (lvl+1) m) x.args (n+1)
theorem ajs{f:X->Int->Int×Int}(hf:∀y n,0<=n->n<=256->0<=(f y n).2∧(f y n).2<=256):∀(l:List X) (n:Int),0<=n->n<=256->0<=(visL f l n).2∧(visL f l n).2<=256
 | [],n,h1,h2=>⟨h1,h2⟩
 | y::r,n,h1,h2=>by
  unfold visL;have h:=hf y n h1 h2;split
  ·exact h
  ·exact ajs hf r _ h.1 h.2
theorem agb(one:X->Int):∀(k:Nat) (x:X) (lvl n:Int),0<=n->n<=256->0<=(visX one k x lvl n).2∧(visX one k x lvl n).2<=256
 | 0,_,_,n,h1,h2=>⟨h1,h2⟩
 | k+1,x,lvl,n,h1,h2=>by
  unfold visX;split
  ·exact⟨h1,h2⟩
  split
  ·dsimp only;omega
  split
  ·dsimp only;omega
  ·exact ajs (fun y m a b=>agb one k y (lvl+1) m a b) _ _ (by omega) (by omega)
def ckO(n:Int):List (Nat×AO):=[(1002,.box [.int .i64 fun _=>n]),(1003,.box [.func 41 [.ptr 1002 0,.ptr 1003 0]])]
def ajr(one:X->Int)(e:Nat)(P:X->Prop)(hP:∀D x,X.le (e+1) (D+1) x->P x->Af Tryz.prog 42 [encX (e+1) (D+1) .any fun _=>x] [] (.int .i64 fun _=>one x) [])
 (k D:Nat) (x:X) (lvl n:Int) (hx:X.le (e+1) (D+1) x) (hp:P x) (h1:1<=lvl∧lvl<=9) (hn:0<=n∧n<=256)
 (ih:lvl<=8->∀i m,i<x.args.length->0<=m->m<=256->Af Tryz.prog 41 [encX (e+1) D .any fun _=>x.args.getD i default,.int .i64 fun _=>lvl+1,.ptr 1002 0,.ptr 1003 0] (ckO m) (.int .i64 fun _=>(visX one k (x.args.getD i default) (lvl+1) m).1) (ckO (visX one k (x.args.getD i default) (lvl+1) m).2)):
 Af Tryz.prog 41 [encX (e+1) (D+1) .any fun _=>x,.int .i64 fun _=>lvl,.ptr 1002 0,.ptr 1003 0] (ckO n) (.int .i64 fun _=>(visX one (k+1) x lvl n).1) (ckO (visX one (k+1) x lvl n).2):=by
 have h2:=hP D x hx hp;have hl1:=hx.2.2.1;obtain⟨Z,hZ⟩:∃Z,Z=visX one (k+1) x lvl n:=⟨_,rfl⟩
 rw[<- hZ];unfold visX at hZ;obtain⟨f,hf⟩:∃f:X->Int->Int×Int,f=fun y m=>visX one k y (lvl+1) m:=⟨_,rfl⟩
 rw[<- hf]at hZ;have hr:∀y n,0<=n->n<=256->0<=(f y n).2∧(f y n).2<=256:=fun y n a b=>by rw[hf];exact agb one k y (lvl+1) n a b
 have ih':lvl<=8->∀i m,i<x.args.length->0<=m->m<=256->Af Tryz.prog 41 [encX (e+1) D .any fun _=>x.args.getD i default,.int .i64 fun _=>lvl+1,.ptr 1002 0,.ptr 1003 0] (ckO m) (.int .i64 fun _=>(f (x.args.getD i default) m).1) (ckO (f (x.args.getD i default) m).2):=by rw[hf];exact ih
 clear ih hf;generalize one x=c at*;obtain⟨l1,hl⟩:∃l1,l1=lvl+1:=⟨_,rfl⟩
 rw[<- hl]at ih';have hw:IntKind.i64.wrap (lvl+1)=l1:=(w64 (by omega) (by omega)).trans hl.symm;obtain⟨n1,hn1⟩:∃n1,n1=n+1:=⟨_,rfl⟩
 rw[<- hn1]at hZ
 (refine fB [.tmp 6] kp41 [(6,[(1,zI c,[])])] Tryz.func41 fun _=>?_;repeat' with_reducible first|exact⟨⟩|refine mA ?_ ?_|refine mC (fun _=>?_) fun _=>?_)
 ·rw[hZ,if_pos ‹_›]
 ·rw[hZ,if_pos ‹_›]
 ·rw[hZ,if_neg ‹_›,if_pos ‹_›]
 ·rw[hZ,if_neg ‹_›,if_pos ‹_›];exact(w64 (by omega) (by omega)).trans hn1.symm
 ·rw[hZ,if_neg ‹_›,if_neg (by omega),if_pos ‹_›]
 ·rw[hZ,if_neg ‹_›,if_neg (by omega),if_pos ‹_›];exact(w64 (by omega) (by omega)).trans hn1.symm
 rw[if_neg ‹_›,if_neg (by omega),if_neg (by omega)]at hZ;refine .loop (fun q:Nat×Int=>⟨38,[(25,.int .i64 fun _=>(q.1:Int)),(24,.int .i64 fun _=>(x.args.length:Int)),(23,.slc .any 5 (fun _=>x.args.length) (subX (e+1) (D+1) .any fun _=>x)),(1,.int .i64 fun _=>lvl),(3,.ptr 1003 0)],ckO q.2⟩)
  (fun q=>q.1<=x.args.length∧visL f (x.args.drop q.1) q.2=Z∧0<=q.2∧q.2<=256) (fun q=>x.args.length-q.1) (0,n1) ⟨Nat.zero_le _,hZ.symm,by dsimp only;omega,by dsimp only;omega⟩ ?_ fun q E hq=>?_
 ·(focus(refine aQ ?_;repeat' first|with_reducible apply And.intro|exact wZ|fail))
  exact(w64 (by omega) (by omega)).trans hn1.symm
 obtain⟨i,m⟩:=q;obtain⟨q1,q2,q3,q4⟩:=hq;dsimp only at q1 q2 q3 q4;by_cases hi:i<x.args.length
 ·rw[List.drop_eq_getElem_cons hi]at q2;have e1:x.args.getD i default=x.args[i]:=by simp[List.getD,hi]
  rw[<- e1]at q2;unfold visL at q2;have h3:=ih' (by omega) i m hi q3 q4;have h4:=hr (x.args.getD i default) m q3 q4;generalize f (x.args.getD i default) m=r at*;obtain⟨r1,r2⟩:=r;dsimp only at q2 h3 h4;apply AWp.wk tF mF [(12,[(4,zI r1,ckO r2)])] kp41 ?_
  (refine oA ?_;repeat' with_reducible first|exact⟨⟩|refine mA ?_ ?_|refine mC (fun _=>?_) fun _=>?_)
  all_goals(try simp only[Int.toNat_natCast,hw])
  all_goals(try exact zB)
  all_goals(try(exact absurd hi (Nat.not_lt.2 ‹_›)))
  (all_goals try first|exact eZ|(refine qC ?_;repeat' with_reducible first|exact⟨⟩|refine mA ?_ ?_))
  ·rw[if_pos ‹_›]at q2;rw[<- q2]
  ·rw[if_pos ‹_›]at q2;rw[<- q2]
  ·rw[if_neg (by omega)]at q2;refine dE (ι:=Nat×Int) (μ:=fun q=>x.args.length-q.1) (i:=(i,m)) (i+1,r2) ⟨⟨by dsimp only;omega,q2,h4.1,h4.2⟩,by dsimp only;omega⟩ ?_
   (focus(refine aQ ?_;repeat' first|with_reducible apply And.intro|exact wZ|fail))
   exact w64n (by omega)
 ·have e:x.args.drop i=[]:=List.drop_eq_nil_of_le (by omega);rw[e,visL]at q2;apply AWp.wk tF mF [(12,[(4,.any,[])])] kp41 ?_
  (refine oA ?_;repeat' with_reducible first|exact⟨⟩|refine mA ?_ ?_|refine mC (fun _=>?_) fun _=>?_)
  all_goals(try(exact absurd ‹i<x.args.length› hi))
  (all_goals try first|exact eZ|(refine qC ?_;repeat' with_reducible first|exact⟨⟩|refine mA ?_ ?_))
  ·rw[<- q2]
  ·rw[<- q2]
def vis_ok(one:X->Int)(e:Nat)(P:X->Prop)(hP:∀D x,X.le (e+1) (D+1) x->P x->Af Tryz.prog 42 [encX (e+1) (D+1) .any fun _=>x] [] (.int .i64 fun _=>one x) []):
 ∀(k D:Nat) (x:X) (lvl n:Int),X.le (e+1) (D+1) x->X.all P (k+1) x->1<=lvl->lvl+k=9->0<=n->n<=256 ->
 Af Tryz.prog 41 [encX (e+1) (D+1) .any fun _=>x,.int .i64 fun _=>lvl,.ptr 1002 0,.ptr 1003 0] (ckO n) (.int .i64 fun _=>(visX one (k+1) x lvl n).1) (ckO (visX one (k+1) x lvl n).2):=by
 intro k
 induction k with
 | zero=>intro D x lvl n hx hp h1 h2 h3 h4;exact ajr one e P hP 0 D x lvl n hx hp.1 (by omega) ⟨h3,h4⟩ fun h=>absurd h (by omega)
 | succ k ih=>
  intro D x lvl n hx hp h1 h2 h3 h4;refine ajr one e P hP (k+1) D x lvl n hx hp.1 (by omega) ⟨h3,h4⟩ fun h i m hi h5 h6=>?_;have hy:=X.abm hx hi;obtain⟨c,rfl⟩:=X.lP hy;refine ih c _ (lvl+1) m hy (hp.2 _ ?_) (by omega) (by omega) h5 h6;have e1:x.args.getD i default=x.args[i]:=by simp[List.getD,hi]
  rw[e1];exact List.getElem_mem hi
def ckX(one:X->Int)(x:X):Int:=(visX one 9 x 1 0).1
def ae9(one:X->Int)(e:Nat)(P:X->Prop)(hP:∀D x,X.le (e+1) (D+1) x->P x->Af Tryz.prog 42 [encX (e+1) (D+1) .any fun _=>x] [] (.int .i64 fun _=>one x) [])
 (D:Nat) (x:X) (hx:X.le (e+1) (D+1) x) (hp:X.all P 9 x):Af Tryz.prog 15 [encX (e+1) (D+1) .any fun _=>x] [] (.int .i64 fun _=>ckX one x) []:=by
 have h:=vis_ok one e P hP 8 D x 1 0 hx hp (by omega) (by omega) (by omega) (by omega);unfold ckX;rw[show 8+1=9 from rfl]at h;generalize visX one 9 x 1 0=r at*;obtain⟨r1,r2⟩:=r;dsimp only at h ⊢
 (refine fA [.tmp 2] kp15 [(4,[(2,zI r1,ckO r2)])] Tryz.func15 fun _=>?_;repeat' with_reducible first|exact⟨⟩|refine mA ?_ ?_|refine mC (fun _=>?_) fun _=>?_)
 all_goals(try exact zB)
 (all_goals(try exact eZ))
 all_goals trace_state
end Go.Ai
