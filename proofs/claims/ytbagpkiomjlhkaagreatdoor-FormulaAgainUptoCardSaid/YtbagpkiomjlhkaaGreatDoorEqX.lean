/- Chapter 16: equal expressions. -/
import Derived.Test.YtbagpkiomjlhkaaGreatDoorLexA
import Derived.Test.YtbagpkiomjlhkaaGreatDoorV
import Derived.Test.YtbagpkiomjlhkaaGreatDoorEngC
set_option linter.all false
namespace Go.Ai
open Go Go.Proofs Tryz
set_option maxRecDepth 100000
set_option maxHeartbeats 4000000
def j4{α:Type}[Inhabited α](f:α->α->Bool)(l m:List α):Bool:=decide (l.length=m.length)&&(List.range l.length).all fun j=>f (l.getD j default) (m.getD j default)
def IL{α:Type}[Inhabited α]{f:α->α->Bool}{l m:List α}{j:Nat}(hj:j<l.length)(h:f (l.getD j default) (m.getD j default)=false):j4 f l m=false:=by
 unfold j4;have:((List.range l.length).all fun j=>f (l.getD j default) (m.getD j default))=false:=by
  rw[List.all_eq_false];exact⟨j,qK.2 hj,by rw[h];decide⟩
 rw[this,FG]
def IM{α:Type}[Inhabited α]{f:α->α->Bool}{l m:List α}(hl:l.length=m.length)(h:∀j,j<l.length->f (l.getD j default) (m.getD j default)=true):j4 f l m=true:=by
 unfold j4;rw[gq hl,xU,cI];exact fun j hj=>h j (qK.1 hj)
def QQ(f:V->V->Bool)(d d':Nat)(l m:List V)(hl:l.length<=1073741824)(hm:m.length<=1073741824)
 (hf:∀j,j<l.length->j<m.length->Af prog 62 [aK d .any fun _=>l.getD j default,aK d' .any fun _=>m.getD j default] [] (.bool fun _=>f (l.getD j default) (m.getD j default)) []):
 Af prog 61 [gH d .any fun _=>l,gH d' .any fun _=>m,.func 62 []] [] (.bool fun _=>j4 f l m) []:=by
 obtain⟨Z,hZ⟩:∃Z,Z=j4 f l m:=⟨_,rfl⟩
 rw[<- hZ];unfold gH
 (refine fB [.tmp 6] Dp [] func61 fun _=>?_;repeat' first|exact⟨⟩|apply mA|apply mC<;>intro)
 ·rename_i q;rw[hZ];unfold j4;rw[fD zo,Bool.false_and]
 rename_i q;refine .loop (fun i:Nat=>⟨32,[(17,.int .i64 fun _=>(i:Int)),(16,.int .i64 fun _=>(l.length:Int)),(15,gH d .any fun _=>l),(1,gH d' .any fun _=>m),(2,.func 62 [])],[]⟩)
  (fun i=>i<=l.length∧∀j,j<i->f (l.getD j default) (m.getD j default)=true) (fun i=>l.length-i) 0 ⟨aB _,fun j hj=>zo⟩ ?_ fun i E hi=>?_
 ·exact aZ
 obtain⟨h1,h2⟩:=hi;have ql:l.length=m.length:=zo
 by_cases hi:i<l.length
 ·have h3:=hf i hi zo;have h4:=fun h=>IL (f:=f) (l:=l) (m:=m) (j:=i) hi h;have h5:f (l.getD i default) (m.getD i default)=true->∀j,j<i+1->f (l.getD j default) (m.getD j default)=true:=fun h j hj=>by
   rcases Bf.1 hj with q|q
   ·exact h2 j q
   ·rw[q];exact h
  generalize f (l.getD i default) (m.getD i default)=b at*;apply af.wk tF mF [(7,[(3,zO b,[])])] Dp ?_
  (refine oA ?_;repeat' first|exact⟨⟩|apply mA|apply mC<;>intro)
  all_goals(try simp only[bu])
  all_goals try exact zB
  all_goals try exact absurd hi ‹¬i<l.length›
  (all_goals try first|exact eZ|(refine qC ?_;repeat' first|exact⟨⟩|apply mA))
  ·exact(hZ.trans (h4 ‹_›)).symm
  ·refine dE (i+1) ⟨⟨zo,h5 ‹_›⟩,zo⟩ ?_
   (focus(refine aQ ?_;repeat' first|with_reducible apply ai|exact wZ|fail))
   exact aS zo
 ·apply af.wk tF mF [(7,[(3,.any,[])])] Dp ?_
  (refine oA ?_;repeat' first|exact⟨⟩|apply mA|apply mC<;>intro)
  all_goals try exact absurd ‹i<l.length› hi
  (all_goals try first|exact eZ|(refine qC ?_;repeat' first|exact⟨⟩|apply mA))
  exact(hZ.trans (IM ql fun j hj=>h2 j zo)).symm
def QR(f:X->X->Bool)(e e' d d':Nat)(l m:List X)(hl:l.length<=1073741824)(hm:m.length<=1073741824)
 (hf:∀j,j<l.length->j<m.length->Af prog 25 [aq (e+1) d .any fun _=>l.getD j default,aq (e'+1) d' .any fun _=>m.getD j default] [] (.bool fun _=>f (l.getD j default) (m.getD j default)) []):
 Af prog 63 [eP (e+1) d .any fun _=>l,eP (e'+1) d' .any fun _=>m,.func 25 []] [] (.bool fun _=>j4 f l m) []:=by
 obtain⟨Z,hZ⟩:∃Z,Z=j4 f l m:=⟨_,rfl⟩
 rw[<- hZ];unfold eP
 (refine fB [.tmp 6] Dq [] func63 fun _=>?_;repeat' first|exact⟨⟩|apply mA|apply mC<;>intro)
 ·rename_i q;rw[hZ];unfold j4;rw[fD zo,Bool.false_and]
 rename_i q;refine .loop (fun i:Nat=>⟨32,[(17,.int .i64 fun _=>(i:Int)),(16,.int .i64 fun _=>(l.length:Int)),(15,eP (e+1) d .any fun _=>l),(1,eP (e'+1) d' .any fun _=>m),(2,.func 25 [])],[]⟩)
  (fun i=>i<=l.length∧∀j,j<i->f (l.getD j default) (m.getD j default)=true) (fun i=>l.length-i) 0 ⟨aB _,fun j hj=>zo⟩ ?_ fun i E hi=>?_
 ·exact aZ
 obtain⟨h1,h2⟩:=hi;have ql:l.length=m.length:=zo
 by_cases hi:i<l.length
 ·have h3:=hf i hi zo;have h4:=fun h=>IL (f:=f) (l:=l) (m:=m) (j:=i) hi h;have h5:f (l.getD i default) (m.getD i default)=true->∀j,j<i+1->f (l.getD j default) (m.getD j default)=true:=fun h j hj=>by
   rcases Bf.1 hj with q|q
   ·exact h2 j q
   ·rw[q];exact h
  generalize f (l.getD i default) (m.getD i default)=b at*;apply af.wk tF mF [(7,[(3,zO b,[])])] Dq ?_
  (refine oA ?_;repeat' first|exact⟨⟩|apply mA|apply mC<;>intro)
  all_goals(try simp only[bu])
  all_goals try exact zB
  all_goals try exact absurd hi ‹¬i<l.length›
  (all_goals try first|exact eZ|(refine qC ?_;repeat' first|exact⟨⟩|apply mA))
  ·exact(hZ.trans (h4 ‹_›)).symm
  ·refine dE (i+1) ⟨⟨zo,h5 ‹_›⟩,zo⟩ ?_
   (focus(refine aQ ?_;repeat' first|with_reducible apply ai|exact wZ|fail))
   exact aS zo
 ·apply af.wk tF mF [(7,[(3,.any,[])])] Dq ?_
  (refine oA ?_;repeat' first|exact⟨⟩|apply mA|apply mC<;>intro)
  all_goals try exact absurd ‹i<l.length› hi
  (all_goals try first|exact eZ|(refine qC ?_;repeat' first|exact⟨⟩|apply mA))
  exact(hZ.trans (IM ql fun j hj=>h2 j zo)).symm
def wz(eqv:V->V->Bool):Nat->X->X->Bool
 | 0,_,_=>false
 | k+1,x,y=>(x.op==y.op)&&((x.int==y.int)&&(decide (x.text=y.text)&&(j4 eqv x.value y.value&&j4 (wz eqv k) x.args y.args)))
def QS(e e' d d':Nat)(x y:X)(p q:Bool)(h1:Af prog 61 [gH (e+1) .any fun _=>x.value,gH (e'+1) .any fun _=>y.value,.func 62 []] [] (.bool fun _=>p) [])
 (h2:Af prog 63 [eP (e+1) d .any fun _=>x.args,eP (e'+1) d' .any fun _=>y.args,.func 25 []] [] (.bool fun _=>q) []):
 Af prog 25 [aq (e+1) (d+1) .any fun _=>x,aq (e'+1) (d'+1) .any fun _=>y] [] (.bool fun _=>(x.op==y.op)&&((x.int==y.int)&&(decide (x.text=y.text)&&(p&&q)))) []:=by
 unfold gH at h1;unfold eP at h2
 (refine fA [.tmp 4] QT [(1,[(24,zO p,[]),(31,zO q,[])])] func25 fun _=>?_;repeat' first|exact⟨⟩|apply mA|apply mC<;>intro)
 all_goals(try simp only[aF])
 all_goals try exact zB
 (all_goals try first|exact eZ|(refine qC ?_;repeat' first|exact⟨⟩|apply mA))
 generalize (x.op==y.op)=b1;generalize (x.int==y.int)=b2;generalize decide (x.text=y.text)=b3;cases b1<;>cases b2<;>cases b3<;>cases p<;>cases q<;>rfl
theorem IN(eqv:V->V->Bool)(e e':Nat)(hv:∀v w,V.le (e+1) v->V.le (e'+1) w->Af prog 62 [aK (e+1) .any fun _=>v,aK (e'+1) .any fun _=>w] [] (.bool fun _=>eqv v w) []):
 ∀(k d d':Nat) (x y:X),X.le (e+1) (d+1) x->X.le (e'+1) (d'+1) y->X.le (e+1) k x ->
 Af prog 25 [aq (e+1) (d+1) .any fun _=>x,aq (e'+1) (d'+1) .any fun _=>y] [] (.bool fun _=>wz eqv k x y) []
 | 0,_,_,_,_,_,_,h=>h.elim
 | k+1,d,d',x,y,hx,hy,hk=>by
  have mem:∀{α:Type} [Inhabited α] {l:List α} {i:Nat},i<l.length->l.getD i default∈l:=fun{α} _ {l i} h=>by
   simp only[List.getD,bf h];exact d9 h
  have h1:=QQ eqv (e+1) (e'+1) x.value y.value hx.2.1 hy.2.1 fun j a b=>hv _ _ (hx.2.2.2.1 _ (mem a)) (hy.2.2.2.1 _ (mem b));have h2:=QR (wz eqv k) e e' d d' x.args y.args hx.2.2.1 hy.2.2.1 fun j a b=>by
   have q:=X.gg hx a;obtain⟨c,rfl⟩:=X.lP q;have r:=X.gg hy b;obtain⟨c',rfl⟩:=X.lP r;exact IN eqv e e' hv k c c' _ _ q r (X.gg hk a)
  exact QS e e' d d' x y _ _ h1 h2
end Go.Ai
