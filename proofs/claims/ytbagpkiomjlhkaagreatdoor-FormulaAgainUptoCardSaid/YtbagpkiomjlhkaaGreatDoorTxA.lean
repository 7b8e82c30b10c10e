/- Chapter 17: the printer: lists of arguments. -/
import Derived.Test.YtbagpkiomjlhkaaGreatDoorHid
import Derived.Test.YtbagpkiomjlhkaaGreatDoorBnd
set_option linter.all false
namespace Go.Ai
open Go Go.Proofs Tryz
set_option maxRecDepth 100000
set_option maxHeartbeats 4000000
def cR:ByteArray:=⟨#[44,32]⟩
def Yb(l:List ByteArray)(t:ByteArray)(i:Nat)(hi:i<l.length+1):aD (dO (fun _=>l.length) (fun i=>[.str fun _=>l.getD (i ()) ⟨#[]⟩]) (dY [[.str fun _=>t]]) fun _=>i) [.str fun _=>(l++[t]).getD i ⟨#[]⟩]:=by
 refine aD.of_eq ?_;have e:∀a b:ByteArray,a=b->([.str fun _=>a]:List AV)=[.str fun _=>b]:=fun a b h=>by rw[h]
 unfold dO;by_cases q:i<l.length
 ·rw[ae q];refine e _ _ ?_;rw[cz,cz,gS q]
 ·rw[aa q];obtain rfl:i=l.length:=by omega
  have h1:(dY [[.str fun _=>t]] fun _=>l.length-l.length)=[.str fun _=>t]:=by rw[ku];rfl
  refine h1.trans (e _ _ ?_);rw[cz,jd (ao _),ku];rfl
def Mj(T:X->ByteArray)(e D:Nat)(l:List X)(hl:l.length<=1073741824)(hT:∀i,i<l.length->Af prog 40 [aq (e+1) D .any fun _=>l.getD i default,.int .i64 fun _=>0] [] (.str fun _=>T (l.getD i default)) [])
 (hz:(bO (l.map T) cR).size<=140737488355328):Af prog 87 [eP (e+1) D .any fun _=>l] [] (.str fun _=>bO (l.map T) cR) []:=by
 have h1:=RF (l.map T) cR (by rw[kr];exact hl) hz;obtain⟨Z,hZ⟩:∃Z,Z=bO (l.map T) cR:=⟨_,rfl⟩
 rw[<- hZ]at h1 ⊢;clear hz hZ;obtain⟨L,hL⟩:∃L,L=l.map T:=⟨_,rfl⟩
 rw[<- hL]at h1;have h2:Af prog 138 [.aJ 1000 0 fun _=>L.length,.str fun _=>cR] [(1000,.arr false 9 1 0 (fun _=>L.length) (fun k=>[.str fun _=>L.getD (k ()) ⟨#[]⟩]))] (.str fun _=>Z) [(1000,.arr false 9 1 0 (fun _=>L.length) (fun k=>[.str fun _=>L.getD (k ()) ⟨#[]⟩]))]:=by
  refine Af.borrow h1 ?_ (by simp[AV.bx,sS]) (fun av fL=>?_) (by simp[AV.bx]) (.str _)
  ·exact aZ
  ·rcases bW.1 fL with rfl|fL
   ·exact .slc fun i _ av h=>by rw[dD.1 h];exact .str _
   ·rw[dD.1 fL];exact .str _
 unfold eP
 (refine fA [.tmp 2] Fi [(7,[(1,zR Z,[(1000,.arr false 9 1 0 (fun _=>L.length) (fun k=>[.str fun _=>L.getD (k ()) ⟨#[]⟩]))])])] func87 fun _=>?_;repeat' first|exact⟨⟩|apply mA|apply mC<;>intro)
 refine .loop (fun q:Nat×List ByteArray=>⟨20,[(8,.int .i64 fun _=>(q.1:Int)),(7,.int .i64 fun _=>(l.length:Int)),(6,eP (e+1) D .any fun _=>l),(3,.aJ 16 1 fun _=>q.2.length)],[(16,.arr false 9 1 1 (fun _=>q.2.length) (fun k=>[.str fun _=>q.2.getD (k ()) ⟨#[]⟩]))]⟩)
  (fun q=>q.1<=l.length∧q.2=(l.take q.1).map T) (fun q=>l.length-q.1) (0,[]) ⟨aB _,zsi⟩ ?_ fun q E hq=>?_
 ·exact aZ
 obtain⟨i,ts⟩:=q;obtain⟨q1,q2⟩:=hq;dsimp only at q1 q2;have hts:ts.length=i:= by rw[q2,kr,u6];omega
 by_cases hi:i<l.length
 ·have h3:=hT i hi;have q3:ts++[T (l.getD i default)]=(l.take (i+1)).map T:=by
   rw[q2,FH hi,Bh];simp[List.getD,hi]
  generalize T (l.getD i default)=t at*;apply af.wk tF mF [(5,[(2,zR t,[])])] Fi ?_
  (refine oA ?_;repeat' first|exact⟨⟩|apply mA|apply mC<;>intro)
  all_goals(try simp only[bu])
  all_goals try exact zB
  all_goals try exact absurd hi ‹¬i<l.length›
  all_goals try exact absurd hi (lU.2 ‹_›)
  (all_goals try first|exact eZ|(refine qC ?_;repeat' first|exact⟨⟩|apply mA))
  refine dE (ι:=Nat×List ByteArray) (μ:=fun q=>l.length-q.1) (i:=(i,ts)) (i+1,ts++[t]) ⟨⟨by dsimp only;omega,q3⟩,by dsimp only;omega⟩ ?_
  (focus(refine aQ ?_;repeat' first|with_reducible apply ai|exact wZ|fail))
  ·exact aS zo
  ·rw[du];rfl
  ·rw[du];rfl
  ·rw[du];rfl
  ·exact Yb ts t
 ·have e0:ts=L:=by rw[q2,hL,FJ zo]
  clear q2;subst e0;apply af.wk tF mF [(5,[(2,.any,[])])] Fi ?_
  (refine oA ?_;repeat' first|exact⟨⟩|apply mA|apply mC<;>intro)
  all_goals try exact absurd ‹i<l.length› hi
  all_goals try exact zB
  all_goals try exact eZ
  all_goals trace_state
def dq(s:ByteArray):ByteArray:=⟨#[40]⟩++s++⟨#[41]⟩
def uj:ByteArray:=⟨#[32,105,110,32,40]⟩
def oE:ByteArray:=⟨#[110,111,116,32]⟩
abbrev qm(x:X):Prop:=x.op=1∧((x.value.getD 0 default).kind=2∨(x.value.getD 0 default).kind=3)
def dX(l:List UInt8):(ByteArray.mk (Array.mk l)).size=l.length:=rfl
def iZ(x:X)(s:ByteArray):ByteArray:=if x.op=15∨(x.op=26∧x.int≠0)then s++(⟨#[44,32]⟩++cE x.int)else s
def w9(x:X)(s:ByteArray):ByteArray:=(ba.find? fun p=>p.2.1==x.op).elim ⟨#[]⟩ fun p=>p.1++⟨#[40]⟩++iZ x s++⟨#[41]⟩
def bh(lit:V->ByteArray)(T:X->Int->ByteArray)(x:X):ByteArray:=
 if x.op=3 then oE++T (x.args.getD 0 default) (aE x.op)
 else if x.op=16 then⟨#[45]⟩++(if qm (x.args.getD 0 default)then dq (T (x.args.getD 0 default) 9)else T (x.args.getD 0 default) 9)
 else if x.op=25 then T (x.args.getD 0 default) 5++uj++bO ((x.args.drop 1).map fun y=>T y 0) cR++⟨#[41]⟩
 else if aE x.op=4 then T (x.args.getD 0 default) 5++⟨#[32]⟩++gU x.op 4++⟨#[32]⟩++T (x.args.getD 1 default) 5
 else if aE x.op<9 then T (x.args.getD 0 default) (aE x.op)++⟨#[32]⟩++gU x.op (aE x.op).toNat++⟨#[32]⟩++T (x.args.getD 1 default) (aE x.op+1)
 else if x.op=1 then lit (x.value.getD 0 default)
 else if x.op=2 then x.text
 else w9 x (if 0<x.args.length then bO (x.args.map fun y=>T y 0) cR else x.text)
def fz(lit:V->ByteArray):Nat->X->ByteArray
 | 0,_=>⟨#[]⟩
 | k+1,x=>bh lit (fun y n=>if aE y.op<n then dq (fz lit k y)else fz lit k y) x
def aP(lit:V->ByteArray)(k:Nat)(x:X)(n:Int):ByteArray:=if aE x.op<n then dq (fz lit k x)else fz lit k x
def ss(T:X->Int->ByteArray)(e D:Nat)(x:X):Prop:=∀n,0<=n->n<=9->(T x n).size<=1152921504606846976->Af prog 40 [aq (e+1) D .any fun _=>x,.int .i64 fun _=>n] [] (.str fun _=>T x n) []
def Yc(lit:V->ByteArray)(T:X->Int->ByteArray)(e D:Nat)(x:X)(need:Int)(ha:∀i,i<x.args.length->ss T e D (x.args.getD i default))(hl:1<=x.args.length)(hs:(bh lit T x).size<=1152921504606846976)(hb:need<=aE x.op)(ho:x.op=3):
 Af prog 40 [aq (e+1) (D+1) .any fun _=>x,.int .i64 fun _=>need] [] (.str fun _=>bh lit T x) []:=by
 have h1:=nN x e (D+1);have e1:aE x.op=3:=by rw[ho];rfl
 have h2:=ha 0 zo;unfold bh at hs ⊢;rw[ae ho,e1]at hs ⊢;rw[e1]at h1 hb;have k1:(oE++T (x.args.getD 0 default) 3).size=4+(T (x.args.getD 0 default) 3).size:=aj;have h3:=h2 3 zd zd zo;generalize T (x.args.getD 0 default) 3=t at*;clear h2 ha e1
 (refine fA [.tmp 4] mM [(1,[(1,zI 3,[])]),(3,[(1,.any,[])]),(5,[(5,zR t,[])]),(7,[(4,.any,[])])] func40 fun _=>?_;repeat' first|exact⟨⟩|apply mA|apply mC<;>intro)
 all_goals try exact absurd ‹(3:Int)<need› zo
 all_goals try exact absurd ho ‹¬x.op=3›
 all_goals(try simp only[gt])
 all_goals try exact zB
 (all_goals try first|exact eZ|(refine qC ?_;repeat' first|exact⟨⟩|apply mA))
 ·show 4+t.size<=_;omega
 ·rfl
def Yd(lit:V->ByteArray)(T:X->Int->ByteArray)(e D:Nat)(x:X)(need:Int)(ha:∀i,i<x.args.length->ss T e D (x.args.getD i default))(hl:1<=x.args.length)(hv:(x.args.getD 0 default).op=1->0<(x.args.getD 0 default).value.length)(hs:(bh lit T x).size<=1152921504606846976)(hb:need<=aE x.op)(ho:x.op=16):
 Af prog 40 [aq (e+1) (D+1) .any fun _=>x,.int .i64 fun _=>need] [] (.str fun _=>bh lit T x) []:=by
 have h1:=nN x e (D+1);have e1:aE x.op=8:=by rw[ho];rfl
 have h2:=ha 0 zo;unfold bh at hs ⊢;rw[aa zo,ae ho]at hs ⊢;rw[e1]at h1 hb;have hT:(T (x.args.getD 0 default) 9).size<=1152921504606846976:=by
  rw[aj]at hs;split at hs
  ·unfold dq at hs;rw[aj,aj]at hs;omega
  ·omega
 have h3:=h2 9 zd zd hT;unfold qm dq at*;generalize T (x.args.getD 0 default) 9=t at*;clear h2 ha e1 hs
 (refine fA [.tmp 4] mM [(1,[(1,zI 8,[])]),(3,[(1,.any,[])]),(5,[(5,.any,[])]),(7,[(4,zR t,[])])] func40 fun _=>?_;repeat' first|exact⟨⟩|apply mA|apply mC<;>intro)
 all_goals try exact absurd ‹(8:Int)<need› zo
 all_goals try exact absurd ‹x.op=3› zo
 all_goals try exact absurd ho ‹¬x.op=16›
 all_goals(try simp only[gt,aF])
 all_goals try exact zB
 (all_goals try first|exact eZ|(refine qC ?_;repeat' first|exact⟨⟩|apply mA))
 ·(simp only[aj,dX,bp,bV]at*;omega)
 ·(simp only[aj,dX,bp,bV]at*;omega)
 ·(simp only[aj,dX,bp,bV]at*;omega)
 ·rw[ae ‹_›]
 ·(simp only[aj,dX,bp,bV]at*;omega)
 ·rename_i q;simp only[gt]at q;rw[aa zo]
end Go.Ai
