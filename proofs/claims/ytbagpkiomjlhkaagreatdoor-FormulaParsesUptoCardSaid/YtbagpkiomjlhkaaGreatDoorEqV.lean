/- Chapters 4, 16: values and expressions that are equal. -/
import Derived.Test.YtbagpkiomjlhkaaGreatDoorFnE
import Derived.Test.YtbagpkiomjlhkaaGreatDoorValA
import Derived.Test.YtbagpkiomjlhkaaGreatDoorEqX
set_option linter.all false
namespace Go.Ai
open Go Go.Proofs
set_option maxRecDepth 100000
set_option maxHeartbeats 4000000
def cmpOr_ok(n:Nat)(f:Nat->Int)(hn:n<=1000):Af Tryz.prog 176 [.aref 1000 0 fun _=>n] [(1000,.arr false 3 1 0 (fun _=>n) fun i=>[.int .i64 fun _=>f (i ())])] (.int .i64 fun _=>fI f n) [(1000,.arr false 3 1 0 (fun _=>n) fun i=>[.int .i64 fun _=>f (i ())])]:=by
 (refine fB [.tmp 2] kp176 [] Tryz.func176 fun _=>?_;repeat' with_reducible first|exact⟨⟩|refine mA ?_ ?_|refine mC (fun _=>?_) fun _=>?_)
 refine .loop (fun i:Nat=>⟨18,[(8,.int .i64 fun _=>i),(7,.int .i64 fun _=>n),(6,.aref 1000 0 fun _=>n),(3,.int .i64 fun _=>0)],[(1000,.arr false 3 1 0 (fun _=>n) fun i=>[.int .i64 fun _=>f (i ())])]⟩) (fun i=>i<=n∧fI f i=0) (fun i=>n-i) 0 (by simp[fI]) ?_ fun i E hi=>?_
 ·exact aZ
 apply AWp.wk tF mF [] kp176 ?_
 ((refine oA ?_;repeat' with_reducible first|exact⟨⟩|refine mA ?_ ?_|refine mC (fun _=>?_) fun _=>?_);(all_goals try first|exact eZ|(refine qC ?_;repeat' with_reducible first|exact⟨⟩|refine mA ?_ ?_)))
 ·exact(aeX ‹_› hi.2 ‹_›).symm
 ·refine dE (i+1) ⟨⟨by omega,by simp_all[fI]⟩,by omega⟩ ?_
  (focus(refine aQ ?_;repeat' first|with_reducible apply And.intro|exact wZ|fail))
  exact w64n (by omega)
 ·have:i=n:=by have:=hi.1;omega
  rw[<- this];exact hi.2.symm
def Or_lit(l:List Int)(hl:l.length<=1000):Af Tryz.prog 176 [.aref 1000 0 fun _=>l.length] [(1000,.arr false 3 1 0 (fun _=>l.length) (aaL (l.map fun x=>[.int .i64 fun _=>x])))] (.int .i64 fun _=>ao6 l)
 [(1000,.arr false 3 1 0 (fun _=>l.length) fun i=>[.int .i64 fun _=>l.getD (i ()) 0])]:=by
 have q:=cmpOr_ok l.length (fun i=>l.getD i 0) hl;rw[apb]at q;refine Af.wN q ?_;have hL:∀i,i<l.length->LeL (aaL (l.map fun x=>[AV.int .i64 fun _=>x]) fun _=>i) [AV.int .i64 fun _=>l.getD i 0]:=fun i hi=>LeL.of_eq (by simp[aaL,List.getD,hi]);generalize aaL (l.map fun x=>[AV.int .i64 fun _=>x])=L at hL
 (focus(refine aQ ?_;repeat' first|with_reducible apply And.intro|exact wZ|fail))
def aom(d:Nat)(fn:FuncId)(c:V->V->Int)(l m:List V)(hl:l.length<=1073741824)(hm:m.length<=1073741824)
 (hc:∀x∈l,∀y∈m,Af Tryz.prog fn [.agg (cells d .any fun _=>x),.agg (cells d .any fun _=>y)] [] (.int .i64 fun _=>c x y) []):
 Af Tryz.prog 179 [slcV d .any fun _=>l,slcV d .any fun _=>m,.func fn []] [] (.int .i64 fun _=>lexC c l m) []:=by
 (apply Af.of tF mF [.tmp 6] kp179 [] Tryz.func179 (fun _=>?_);(repeat' with_reducible first|exact nY|refine oC ?_ ?_|refine vQ ?_ ?_ ?_|refine cV (fun _=>?_) fun _=>?_|refine wQ ?_|fail))
 (all_goals try first|exact eZ|with_reducible (refine rQ ?_;repeat' first|apply And.intro|exact wZ)|(refine sQ ?_;repeat' first|with_reducible apply And.intro|exact cZ))
 refine .loop (fun i:Nat=>⟨39,[(13,.int .i64 fun _=>i),(12,.int .i64 fun _=>l.length),(11,slcV d .any fun _=>l),(2,.func fn []),(1,slcV d .any fun _=>m),(0,slcV d .any fun _=>l)],[]⟩)
  (fun i=>i<=l.length∧i<=m.length∧lexC c l m=lexC c (l.drop i) (m.drop i)) (fun i=>l.length-i) 0 (by simp) ?_ fun i E hi=>?_
 ·exact aZ
 apply AWp.wk tF mF [(7,[(3,.int .i64 (fun _=>?_),[])])] kp179 ?_
 (repeat' with_reducible first|exact nY|refine oC ?_ ?_|refine vQ ?_ ?_ ?_|refine cV (fun _=>?_) fun _=>?_|refine wQ ?_|fail)
 (any_goals((with_reducible refine bZ ?_)<;>exact(hc _ (aog ‹_›) _ (aog ‹_›))))
 (all_goals try first|exact eZ|with_reducible (refine rQ ?_;repeat' first|apply And.intro|exact wZ)|(refine sQ ?_;repeat' first|with_reducible apply And.intro|exact cZ))
 ·rw[hi.2.2,aoZ ‹_› ‹_›]
 ·rw[hi.2.2,aof ‹_› ‹_› default default,if_pos ‹_›]
 ·rename_i h1 h2 h3;refine dE (i+1) ⟨⟨h1,h2,?_⟩,by omega⟩ ?_
  ·rw[hi.2.2,aof h1 h2 default default,if_neg (fun q=>q h3)]
  ·(focus(refine aQ ?_;repeat' first|with_reducible apply And.intro|exact wZ|fail))
   exact w64n (by omega)
 ·rename_i h1 h2;rw[hi.2.2,aoq h1 hi.2.1 (by omega),if_pos h2]
 ·rename_i h1 h2;rw[hi.2.2,aoq h1 hi.2.1 (by omega),if_neg (by omega)]
def aol(d:Nat)(fn:FuncId)(c:(ByteArray×V)->(ByteArray×V)->Int)(l m:List (ByteArray×V))(hl:l.length<=1073741824)(hm:m.length<=1073741824)
 (hc:∀x∈l,∀y∈m,Af Tryz.prog fn [.agg (rowF d x),.agg (rowF d y)] [] (.int .i64 fun _=>c x y) []):
 Af Tryz.prog 180 [slcF d .any fun _=>l,slcF d .any fun _=>m,.func fn []] [] (.int .i64 fun _=>lexC c l m) []:=by
 (apply Af.of tF mF [.tmp 6] kp180 [] Tryz.func180 (fun _=>?_);(repeat' with_reducible first|exact nY|refine oC ?_ ?_|refine vQ ?_ ?_ ?_|refine cV (fun _=>?_) fun _=>?_|refine wQ ?_|fail))
 (all_goals try first|exact eZ|with_reducible (refine rQ ?_;repeat' first|apply And.intro|exact wZ)|(refine sQ ?_;repeat' first|with_reducible apply And.intro|exact cZ))
 refine .loop (fun i:Nat=>⟨39,[(13,.int .i64 fun _=>i),(12,.int .i64 fun _=>l.length),(11,slcF d .any fun _=>l),(2,.func fn []),(1,slcF d .any fun _=>m),(0,slcF d .any fun _=>l)],[]⟩)
  (fun i=>i<=l.length∧i<=m.length∧lexC c l m=lexC c (l.drop i) (m.drop i)) (fun i=>l.length-i) 0 (by simp) ?_ fun i E hi=>?_
 ·exact aZ
 apply AWp.wk tF mF [(7,[(3,.int .i64 (fun _=>?_),[])])] kp180 ?_
 (repeat' with_reducible first|exact nY|refine oC ?_ ?_|refine vQ ?_ ?_ ?_|refine cV (fun _=>?_) fun _=>?_|refine wQ ?_|fail)
 (any_goals((with_reducible refine bZ ?_)<;>exact(hc _ (aog ‹_›) _ (aog ‹_›))))
 (all_goals try first|exact eZ|with_reducible (refine rQ ?_;repeat' first|apply And.intro|exact wZ)|(refine sQ ?_;repeat' first|with_reducible apply And.intro|exact cZ))
 ·rw[hi.2.2,aoZ ‹_› ‹_›]
 ·rw[hi.2.2,aof ‹_› ‹_› default default,if_pos ‹_›]
 ·rename_i h1 h2 h3;refine dE (i+1) ⟨⟨h1,h2,?_⟩,by omega⟩ ?_
  ·rw[hi.2.2,aof h1 h2 default default,if_neg (fun q=>q h3)]
  ·(focus(refine aQ ?_;repeat' first|with_reducible apply And.intro|exact wZ|fail))
   exact w64n (by omega)
 ·rename_i h1 h2;rw[hi.2.2,aoq h1 hi.2.1 (by omega),if_pos h2]
 ·rename_i h1 h2;rw[hi.2.2,aoq h1 hi.2.1 (by omega),if_neg (by omega)]
def apf(d:Nat)(x y:ByteArray×V)(hc:Af Tryz.prog 114 [encV d .any fun _=>x.2,encV d .any fun _=>y.2] [] (.int .i64 fun _=>cmpV d x.2 y.2) []):
 Af Tryz.prog 181 [.agg (rowF d x),.agg (rowF d y)] [] (.int .i64 fun _=>aqj (cmpV d) x y) []:=by
 (apply Af.of tF mF [.tmp 4] kp181 [(1,[(4,.int .i64 (fun _=>?_),[]),(9,.int .i64 (fun _=>?_),[]),(11,.int .i64 (fun _=>?_),[(1000,.arr false 3 1 0 (fun _=>2) ?_)])])] Tryz.func181 (fun _=>?_);(repeat' with_reducible first|exact nY|refine oC ?_ ?_|refine vQ ?_ ?_ ?_|refine cV (fun _=>?_) fun _=>?_|refine wQ ?_|fail))
 (any_goals((with_reducible refine bZ ?_)<;>exact(aoe _ _)))
 (any_goals((with_reducible refine bZ ?_)<;>exact hc))
 (any_goals((with_reducible refine bZ ?_)<;>exact(Or_lit [_,_] (Nat.le_of_ble_eq_true rfl))))
 (all_goals try first|exact eZ|with_reducible (refine rQ ?_;repeat' first|apply And.intro|exact wZ)|(refine sQ ?_;repeat' first|with_reducible apply And.intro|exact cZ))
 all_goals rfl
theorem aoF:∀(d:Nat) (a b:V),V.le d a->V.le d b->Af Tryz.prog 114 [encV d .any fun _=>a,encV d .any fun _=>b] [] (.int .i64 fun _=>cmpV d a b) []
 | 0,_,_,h,_=>h.elim
 | d+1,a,b,ha,hb=>by
  have ih:=aoF d
  (apply Af.of tF mF [.tmp 4] kp114 [(1,[(4,.int .i64 (fun _=>?_),[]),(9,.int .i64 (fun _=>?_),[]),(14,.int .i64 (fun _=>?_),[]),(19,.int .i64 (fun _=>?_),[]),(24,.int .i64 (fun _=>?_),[]),(29,.int .i64 (fun _=>?_),[]),
    (31,.int .i64 (fun _=>?_),[(1000,.arr false 3 1 0 (fun _=>6) ?_)])])] Tryz.func114 (fun _=>?_);(repeat' with_reducible first|exact nY|refine oC ?_ ?_|refine vQ ?_ ?_ ?_|refine cV (fun _=>?_) fun _=>?_|refine wQ ?_|fail))
  (any_goals((with_reducible refine bZ ?_)<;>exact(aoQ _ _)))
  (any_goals((with_reducible refine bZ ?_)<;>exact(aoe _ _)))
  (any_goals((with_reducible refine bZ ?_)<;>exact(aom d 114 (cmpV d) a.list b.list ha.1 hb.1 fun x hx y hy=>ih x y (ha.2.2.2.1 x hx) (hb.2.2.2.1 y hy))))
  (any_goals((with_reducible refine bZ ?_)<;>exact(aol d 181 (aqj (cmpV d)) a.fields b.fields ha.2.1 hb.2.1 fun x hx y hy=>apf d x y (ih x.2 y.2 (ha.2.2.2.2 x hx).2 (hb.2.2.2.2 y hy).2))))
  (any_goals((with_reducible refine bZ ?_)<;>exact(Or_lit [_,_,_,_,_,_] (Nat.le_of_ble_eq_true rfl))))
  (all_goals try first|exact eZ|with_reducible (refine rQ ?_;repeat' first|apply And.intro|exact wZ)|(refine sQ ?_;repeat' first|with_reducible apply And.intro|exact cZ))
  all_goals rfl
def arH(d:Nat)(a b:V)(ha:V.le d a)(hb:V.le d b):Af Tryz.prog 62 [encV d .any fun _=>a,encV d .any fun _=>b] [] (.bool fun _=>cmpV d a b==0) []:=by
 (apply Af.of tF mF [.tmp 4] kp62 [(1,[(2,.int .i64 (fun _=>?_),[])])] Tryz.func62 (fun _=>?_);(repeat' with_reducible first|exact nY|refine oC ?_ ?_|refine vQ ?_ ?_ ?_|refine cV (fun _=>?_) fun _=>?_|refine wQ ?_|fail))
 (any_goals((with_reducible refine bZ ?_)<;>exact(aoF _ _ _ ha hb)))
 all_goals exact eZ
theorem aoz:∀l:List UInt8,Lib.compareBytes l l=0
 | []=>rfl
 | a::l=>by
  have h:¬a<a:=UInt8.lt_irrefl a;unfold Lib.compareBytes;rw[if_neg h,if_neg h];exact aoz l
def aoy(x:Int):cmpI x x=0:=by unfold cmpI;rw[if_neg (Int.lt_irrefl _),if_neg (Int.lt_irrefl _)]
theorem aou{α:Type}{c:α->α->Int}:∀l:List α,(∀x∈l,c x x=0)->lexC c l l=0
 | [],_=>rfl
 | a::l,h=>by
  unfold lexC;rw[if_neg (fun g=>g (h a (List.mem_cons_self ..)))];exact aou l fun x hx=>h x (List.mem_cons_of_mem _ hx)
theorem aox:∀(d:Nat) (v:V),cmpV d v v=0
 | 0,_=>rfl
 | d+1,v=>by
  unfold cmpV;have h1:cmpS v.text v.text=0:=aoz _;have h2:=aou v.list (c:=cmpV d) fun x _=>aox d x;have h3:=aou v.fields (c:=aqj (cmpV d)) fun x _=>by
   unfold aqj;rw[show cmpS x.1 x.1=0 from aoz _,aox d];rfl
  rw[aoy,aoy,aoy,h1,h2,h3];rfl
def eqvV(d:Nat)(v w:V):Bool:=cmpV d v w==0
def xVal(v:V):X:=.mk 0 0 ⟨#[]⟩ [v] []
def aq9(d:Nat)(v:V)(h:V.le (d+1) v):Af Tryz.prog 25 [encX (d+1) 1 .any fun _=>xVal v,encX (d+1) 1 .any fun _=>xVal v] [] (.bool fun _=>true) []:=by
 have hx:X.le (d+1) 1 (xVal v):=⟨Nat.zero_le _,(by decide:1<=1073741824),Nat.zero_le _,fun u hu=>by
  (rcases List.mem_cons.1 hu with rfl|hu
   ·exact h
   ·cases hu),fun z hz=>(by cases hz)⟩
 have h1:=apt (eqvV (d+1)) d d (fun v w hv hw=>arH (d+1) v w hv hw) 1 0 0 (xVal v) (xVal v) hx hx hx;have e:eqX (eqvV (d+1)) 1 (xVal v) (xVal v)=true:=by
  have:eqvV (d+1) v v=true:=by unfold eqvV;rw[aox];rfl
  simp only[eqX,xVal,X.op,X.int,X.text,X.value,X.args,eqL];simp[List.getD,this,List.range,List.range.loop]
 rw[e]at h1;exact h1
end Go.Ai
