/- Chapters 4, 16: values and expressions that are equal. -/
import Derived.Test.YtbagpkiomjlhkaaGreatDoorFnE
import Derived.Test.YtbagpkiomjlhkaaGreatDoorValA
import Derived.Test.YtbagpkiomjlhkaaGreatDoorEqX
set_option linter.all false
namespace Go.Ai
open Go Go.Proofs Tryz
set_option maxRecDepth 100000
set_option maxHeartbeats 4000000
def QG(n:Nat)(f:Nat->Int)(hn:n<=1000):Af prog 176 [.aJ 1000 0 fun _=>n] [(1000,.arr false 3 1 0 (fun _=>n) fun i=>[.int .i64 fun _=>f (i ())])] (.int .i64 fun _=>fI f n) [(1000,.arr false 3 1 0 (fun _=>n) fun i=>[.int .i64 fun _=>f (i ())])]:=by
 (refine fB [.tmp 2] ID [] func176 fun _=>?_;repeat' first|exact⟨⟩|apply mA|apply mC<;>intro)
 refine .loop (fun i:Nat=>⟨18,[(8,.int .i64 fun _=>i),(7,.int .i64 fun _=>n),(6,.aJ 1000 0 fun _=>n),(3,.int .i64 fun _=>0)],[(1000,.arr false 3 1 0 (fun _=>n) fun i=>[.int .i64 fun _=>f (i ())])]⟩) (fun i=>i<=n∧fI f i=0) (fun i=>n-i) 0 (by simp[fI]) ?_ fun i E hi=>?_
 ·exact aZ
 apply af.wk tF mF [] ID ?_
 ((refine oA ?_;repeat' first|exact⟨⟩|apply mA|apply mC<;>intro);(all_goals try first|exact eZ|(refine qC ?_;repeat' first|exact⟨⟩|apply mA)))
 ·exact(zA ‹_› hi.2 ‹_›).symm
 ·refine dE (i+1) ⟨⟨zo,by simp_all[fI]⟩,zo⟩ ?_
  (focus(refine aQ ?_;repeat' first|with_reducible apply ai|exact wZ|fail))
  exact aS zo
 ·have:i=n:=by have:=hi.1;omega
  rw[<- this];exact hi.2.symm
def IE(l:List Int)(hl:l.length<=1000):Af prog 176 [.aJ 1000 0 fun _=>l.length] [(1000,.arr false 3 1 0 (fun _=>l.length) (dY (l.map fun x=>[.int .i64 fun _=>x])))] (.int .i64 fun _=>lE l)
 [(1000,.arr false 3 1 0 (fun _=>l.length) fun i=>[.int .i64 fun _=>l.getD (i ()) 0])]:=by
 have q:=QG l.length (fun i=>l.getD i 0) hl;rw[QH]at q;refine Af.wN q ?_;have hL:∀i,i<l.length->aD (dY (l.map fun x=>[AV.int .i64 fun _=>x]) fun _=>i) [AV.int .i64 fun _=>l.getD i 0]:=fun i hi=>aD.of_eq (by simp[dY,List.getD,hi]);generalize dY (l.map fun x=>[AV.int .i64 fun _=>x])=L at hL
 (focus(refine aQ ?_;repeat' first|with_reducible apply ai|exact wZ|fail))
def QI(d:Nat)(fn:FuncId)(c:V->V->Int)(l m:List V)(hl:l.length<=1073741824)(hm:m.length<=1073741824)
 (hc:∀x∈l,∀y∈m,Af prog fn [.agg (cells d .any fun _=>x),.agg (cells d .any fun _=>y)] [] (.int .i64 fun _=>c x y) []):
 Af prog 179 [gH d .any fun _=>l,gH d .any fun _=>m,.func fn []] [] (.int .i64 fun _=>iS c l m) []:=by
 (apply Af.of tF mF [.tmp 6] IF [] func179 (fun _=>?_);(repeat' with_reducible first|exact nY|refine oC ?_ ?_|refine vQ ?_ ?_ ?_|refine cV (fun _=>?_) fun _=>?_|refine wQ ?_|fail))
 (all_goals try first|exact eZ|with_reducible (refine rQ ?_;repeat' first|apply ai|exact wZ)|(refine sQ ?_;repeat' first|with_reducible apply ai|exact cZ))
 refine .loop (fun i:Nat=>⟨39,[(13,.int .i64 fun _=>i),(12,.int .i64 fun _=>l.length),(11,gH d .any fun _=>l),(2,.func fn []),(1,gH d .any fun _=>m),(0,gH d .any fun _=>l)],[]⟩)
  (fun i=>i<=l.length∧i<=m.length∧iS c l m=iS c (l.drop i) (m.drop i)) (fun i=>l.length-i) 0 zsi ?_ fun i E hi=>?_
 ·exact aZ
 apply af.wk tF mF [(7,[(3,.int .i64 (fun _=>?_),[])])] IF ?_
 (repeat' with_reducible first|exact nY|refine oC ?_ ?_|refine vQ ?_ ?_ ?_|refine cV (fun _=>?_) fun _=>?_|refine wQ ?_|fail)
 (any_goals((with_reducible refine bZ ?_)<;>exact(hc _ (wv ‹_›) _ (wv ‹_›))))
 (all_goals try first|exact eZ|with_reducible (refine rQ ?_;repeat' first|apply ai|exact wZ)|(refine sQ ?_;repeat' first|with_reducible apply ai|exact cZ))
 ·rw[hi.2.2,IG ‹_› ‹_›]
 ·rw[hi.2.2,zC ‹_› ‹_› default default,ae ‹_›]
 ·rename_i h1 h2 h3;refine dE (i+1) ⟨⟨h1,h2,?_⟩,zo⟩ ?_
  ·rw[hi.2.2,zC h1 h2 default default,aa (fun q=>q h3)]
  ·(focus(refine aQ ?_;repeat' first|with_reducible apply ai|exact wZ|fail))
   exact aS zo
 ·rename_i h1 h2;rw[hi.2.2,zD h1 hi.2.1 zo,ae h2]
 ·rename_i h1 h2;rw[hi.2.2,zD h1 hi.2.1 zo,aa zo]
def QJ(d:Nat)(fn:FuncId)(c:(ByteArray×V)->(ByteArray×V)->Int)(l m:List (ByteArray×V))(hl:l.length<=1073741824)(hm:m.length<=1073741824)
 (hc:∀x∈l,∀y∈m,Af prog fn [.agg (oq d x),.agg (oq d y)] [] (.int .i64 fun _=>c x y) []):
 Af prog 180 [tZ d .any fun _=>l,tZ d .any fun _=>m,.func fn []] [] (.int .i64 fun _=>iS c l m) []:=by
 (apply Af.of tF mF [.tmp 6] IH [] func180 (fun _=>?_);(repeat' with_reducible first|exact nY|refine oC ?_ ?_|refine vQ ?_ ?_ ?_|refine cV (fun _=>?_) fun _=>?_|refine wQ ?_|fail))
 (all_goals try first|exact eZ|with_reducible (refine rQ ?_;repeat' first|apply ai|exact wZ)|(refine sQ ?_;repeat' first|with_reducible apply ai|exact cZ))
 refine .loop (fun i:Nat=>⟨39,[(13,.int .i64 fun _=>i),(12,.int .i64 fun _=>l.length),(11,tZ d .any fun _=>l),(2,.func fn []),(1,tZ d .any fun _=>m),(0,tZ d .any fun _=>l)],[]⟩)
  (fun i=>i<=l.length∧i<=m.length∧iS c l m=iS c (l.drop i) (m.drop i)) (fun i=>l.length-i) 0 zsi ?_ fun i E hi=>?_
 ·exact aZ
 apply af.wk tF mF [(7,[(3,.int .i64 (fun _=>?_),[])])] IH ?_
 (repeat' with_reducible first|exact nY|refine oC ?_ ?_|refine vQ ?_ ?_ ?_|refine cV (fun _=>?_) fun _=>?_|refine wQ ?_|fail)
 (any_goals((with_reducible refine bZ ?_)<;>exact(hc _ (wv ‹_›) _ (wv ‹_›))))
 (all_goals try first|exact eZ|with_reducible (refine rQ ?_;repeat' first|apply ai|exact wZ)|(refine sQ ?_;repeat' first|with_reducible apply ai|exact cZ))
 ·rw[hi.2.2,IG ‹_› ‹_›]
 ·rw[hi.2.2,zC ‹_› ‹_› default default,ae ‹_›]
 ·rename_i h1 h2 h3;refine dE (i+1) ⟨⟨h1,h2,?_⟩,zo⟩ ?_
  ·rw[hi.2.2,zC h1 h2 default default,aa (fun q=>q h3)]
  ·(focus(refine aQ ?_;repeat' first|with_reducible apply ai|exact wZ|fail))
   exact aS zo
 ·rename_i h1 h2;rw[hi.2.2,zD h1 hi.2.1 zo,ae h2]
 ·rename_i h1 h2;rw[hi.2.2,zD h1 hi.2.1 zo,aa zo]
def QK(d:Nat)(x y:ByteArray×V)(hc:Af prog 114 [aK d .any fun _=>x.2,aK d .any fun _=>y.2] [] (.int .i64 fun _=>kT d x.2 y.2) []):
 Af prog 181 [.agg (oq d x),.agg (oq d y)] [] (.int .i64 fun _=>ww (kT d) x y) []:=by
 (apply Af.of tF mF [.tmp 4] QL [(1,[(4,.int .i64 (fun _=>?_),[]),(9,.int .i64 (fun _=>?_),[]),(11,.int .i64 (fun _=>?_),[(1000,.arr false 3 1 0 (fun _=>2) ?_)])])] func181 (fun _=>?_);(repeat' with_reducible first|exact nY|refine oC ?_ ?_|refine vQ ?_ ?_ ?_|refine cV (fun _=>?_) fun _=>?_|refine wQ ?_|fail))
 (any_goals((with_reducible refine bZ ?_)<;>exact(II _ _)))
 (any_goals((with_reducible refine bZ ?_)<;>exact hc))
 (any_goals((with_reducible refine bZ ?_)<;>exact(IE [_,_] (Nat.le_of_ble_eq_true rfl))))
 (all_goals try first|exact eZ|with_reducible (refine rQ ?_;repeat' first|apply ai|exact wZ)|(refine sQ ?_;repeat' first|with_reducible apply ai|exact cZ))
 all_goals rfl
theorem IJ:∀(d:Nat) (a b:V),V.le d a->V.le d b->Af prog 114 [aK d .any fun _=>a,aK d .any fun _=>b] [] (.int .i64 fun _=>kT d a b) []
 | 0,_,_,h,_=>h.elim
 | d+1,a,b,ha,hb=>by
  have ih:=IJ d
  (apply Af.of tF mF [.tmp 4] QM [(1,[(4,.int .i64 (fun _=>?_),[]),(9,.int .i64 (fun _=>?_),[]),(14,.int .i64 (fun _=>?_),[]),(19,.int .i64 (fun _=>?_),[]),(24,.int .i64 (fun _=>?_),[]),(29,.int .i64 (fun _=>?_),[]),
    (31,.int .i64 (fun _=>?_),[(1000,.arr false 3 1 0 (fun _=>6) ?_)])])] func114 (fun _=>?_);(repeat' with_reducible first|exact nY|refine oC ?_ ?_|refine vQ ?_ ?_ ?_|refine cV (fun _=>?_) fun _=>?_|refine wQ ?_|fail))
  (any_goals((with_reducible refine bZ ?_)<;>exact(QN _ _)))
  (any_goals((with_reducible refine bZ ?_)<;>exact(II _ _)))
  (any_goals((with_reducible refine bZ ?_)<;>exact(QI d 114 (kT d) a.list b.list ha.1 hb.1 fun x hx y hy=>ih x y (ha.2.2.2.1 x hx) (hb.2.2.2.1 y hy))))
  (any_goals((with_reducible refine bZ ?_)<;>exact(QJ d 181 (ww (kT d)) a.fields b.fields ha.2.1 hb.2.1 fun x hx y hy=>QK d x y (ih x.2 y.2 (ha.2.2.2.2 x hx).2 (hb.2.2.2.2 y hy).2))))
  (any_goals((with_reducible refine bZ ?_)<;>exact(IE [_,_,_,_,_,_] (Nat.le_of_ble_eq_true rfl))))
  (all_goals try first|exact eZ|with_reducible (refine rQ ?_;repeat' first|apply ai|exact wZ)|(refine sQ ?_;repeat' first|with_reducible apply ai|exact cZ))
  all_goals rfl
def QO(d:Nat)(a b:V)(ha:V.le d a)(hb:V.le d b):Af prog 62 [aK d .any fun _=>a,aK d .any fun _=>b] [] (.bool fun _=>kT d a b==0) []:=by
 (apply Af.of tF mF [.tmp 4] QP [(1,[(2,.int .i64 (fun _=>?_),[])])] func62 (fun _=>?_);(repeat' with_reducible first|exact nY|refine oC ?_ ?_|refine vQ ?_ ?_ ?_|refine cV (fun _=>?_) fun _=>?_|refine wQ ?_|fail))
 (any_goals((with_reducible refine bZ ?_)<;>exact(IJ _ _ _ ha hb)))
 all_goals exact eZ
theorem Dl:∀l:List UInt8,Lib.compareBytes l l=0
 | []=>rfl
 | a::l=>by
  have h:¬a<a:=UInt8.lt_irrefl a;unfold Lib.compareBytes;rw[aa h,aa h];exact Dl l
def Dm(x:Int):rh x x=0:=by unfold rh;rw[aa (Int.lt_irrefl _),aa (Int.lt_irrefl _)]
theorem Dn{α:Type}{c:α->α->Int}:∀l:List α,(∀x∈l,c x x=0)->iS c l l=0
 | [],_=>rfl
 | a::l,h=>by
  unfold iS;rw[aa (fun g=>g (h a (dJ ..)))];exact Dn l fun x hx=>h x (cH _ hx)
theorem Do:∀(d:Nat) (v:V),kT d v v=0
 | 0,_=>rfl
 | d+1,v=>by
  unfold kT;have h1:wy v.text v.text=0:=Dl _;have h2:=Dn v.list (c:=kT d) fun x _=>Do d x;have h3:=Dn v.fields (c:=ww (kT d)) fun x _=>by
   unfold ww;rw[show wy x.1 x.1=0 from Dl _,Do d];rfl
  rw[Dm,Dm,Dm,h1,h2,h3];rfl
def IK(d:Nat)(v w:V):Bool:=kT d v w==0
end Go.Ai
