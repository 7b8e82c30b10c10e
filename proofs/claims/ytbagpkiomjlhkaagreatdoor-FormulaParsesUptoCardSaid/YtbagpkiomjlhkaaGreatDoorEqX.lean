/- Chapter 16: equal expressions. -/
import Derived.Test.YtbagpkiomjlhkaaGreatDoorLexA
import Derived.Test.YtbagpkiomjlhkaaGreatDoorV
import Derived.Test.YtbagpkiomjlhkaaGreatDoorEngC
set_option linter.all false
namespace Go.Ai
open Go Go.Proofs
set_option maxRecDepth 100000
set_option maxHeartbeats 4000000
def eqL{α:Type}[Inhabited α](f:α->α->Bool)(l m:List α):Bool:=decide (l.length=m.length)&&(List.range l.length).all fun j=>f (l.getD j default) (m.getD j default)
def eqL_no{α:Type}[Inhabited α]{f:α->α->Bool}{l m:List α}{j:Nat}(hj:j<l.length)(h:f (l.getD j default) (m.getD j default)=false):eqL f l m=false:=by
 unfold eqL;have:((List.range l.length).all fun j=>f (l.getD j default) (m.getD j default))=false:=by
  rw[List.all_eq_false];exact⟨j,List.mem_range.2 hj,by rw[h];decide⟩
 rw[this,Bool.and_false]
def aqa{α:Type}[Inhabited α]{f:α->α->Bool}{l m:List α}(hl:l.length=m.length)(h:∀j,j<l.length->f (l.getD j default) (m.getD j default)=true):eqL f l m=true:=by
 unfold eqL;rw[decide_eq_true hl,Bool.true_and,List.all_eq_true];exact fun j hj=>h j (List.mem_range.1 hj)
def eqV61_ok(f:V->V->Bool)(d d':Nat)(l m:List V)(hl:l.length<=1073741824)(hm:m.length<=1073741824)
 (hf:∀j,j<l.length->j<m.length->Af Tryz.prog 62 [encV d .any fun _=>l.getD j default,encV d' .any fun _=>m.getD j default] [] (.bool fun _=>f (l.getD j default) (m.getD j default)) []):
 Af Tryz.prog 61 [slcV d .any fun _=>l,slcV d' .any fun _=>m,.func 62 []] [] (.bool fun _=>eqL f l m) []:=by
 obtain⟨Z,hZ⟩:∃Z,Z=eqL f l m:=⟨_,rfl⟩
 rw[<- hZ];unfold slcV
 (refine fB [.tmp 6] kp61 [] Tryz.func61 fun _=>?_;repeat' with_reducible first|exact⟨⟩|refine mA ?_ ?_|refine mC (fun _=>?_) fun _=>?_)
 ·rename_i q;rw[hZ];unfold eqL;rw[decide_eq_false (by omega),Bool.false_and]
 rename_i q;refine .loop (fun i:Nat=>⟨32,[(17,.int .i64 fun _=>(i:Int)),(16,.int .i64 fun _=>(l.length:Int)),(15,slcV d .any fun _=>l),(1,slcV d' .any fun _=>m),(2,.func 62 [])],[]⟩)
  (fun i=>i<=l.length∧∀j,j<i->f (l.getD j default) (m.getD j default)=true) (fun i=>l.length-i) 0 ⟨Nat.zero_le _,fun j hj=>by omega⟩ ?_ fun i E hi=>?_
 ·exact aZ
 obtain⟨h1,h2⟩:=hi;have ql:l.length=m.length:=by omega
 by_cases hi:i<l.length
 ·have h3:=hf i hi (by omega);have h4:=fun h=>eqL_no (f:=f) (l:=l) (m:=m) (j:=i) hi h;have h5:f (l.getD i default) (m.getD i default)=true->∀j,j<i+1->f (l.getD j default) (m.getD j default)=true:=fun h j hj=>by
   rcases Nat.lt_succ_iff_lt_or_eq.1 hj with q|q
   ·exact h2 j q
   ·rw[q];exact h
  generalize f (l.getD i default) (m.getD i default)=b at*;apply AWp.wk tF mF [(7,[(3,zO b,[])])] kp61 ?_
  (refine oA ?_;repeat' with_reducible first|exact⟨⟩|refine mA ?_ ?_|refine mC (fun _=>?_) fun _=>?_)
  all_goals(try simp only[Int.toNat_natCast])
  all_goals(try exact zB)
  all_goals(try(exact absurd hi ‹¬i<l.length›))
  (all_goals try first|exact eZ|(refine qC ?_;repeat' with_reducible first|exact⟨⟩|refine mA ?_ ?_))
  ·exact(hZ.trans (h4 ‹_›)).symm
  ·refine dE (i+1) ⟨⟨by omega,h5 ‹_›⟩,by omega⟩ ?_
   (focus(refine aQ ?_;repeat' first|with_reducible apply And.intro|exact wZ|fail))
   exact w64n (by omega)
 ·apply AWp.wk tF mF [(7,[(3,.any,[])])] kp61 ?_
  (refine oA ?_;repeat' with_reducible first|exact⟨⟩|refine mA ?_ ?_|refine mC (fun _=>?_) fun _=>?_)
  all_goals(try(exact absurd ‹i<l.length› hi))
  (all_goals try first|exact eZ|(refine qC ?_;repeat' with_reducible first|exact⟨⟩|refine mA ?_ ?_))
  exact(hZ.trans (aqa ql fun j hj=>h2 j (by omega))).symm
def eqX63_ok(f:X->X->Bool)(e e' d d':Nat)(l m:List X)(hl:l.length<=1073741824)(hm:m.length<=1073741824)
 (hf:∀j,j<l.length->j<m.length->Af Tryz.prog 25 [encX (e+1) d .any fun _=>l.getD j default,encX (e'+1) d' .any fun _=>m.getD j default] [] (.bool fun _=>f (l.getD j default) (m.getD j default)) []):
 Af Tryz.prog 63 [slcX (e+1) d .any fun _=>l,slcX (e'+1) d' .any fun _=>m,.func 25 []] [] (.bool fun _=>eqL f l m) []:=by
 obtain⟨Z,hZ⟩:∃Z,Z=eqL f l m:=⟨_,rfl⟩
 rw[<- hZ];unfold slcX
 (refine fB [.tmp 6] kp63 [] Tryz.func63 fun _=>?_;repeat' with_reducible first|exact⟨⟩|refine mA ?_ ?_|refine mC (fun _=>?_) fun _=>?_)
 ·rename_i q;rw[hZ];unfold eqL;rw[decide_eq_false (by omega),Bool.false_and]
 rename_i q;refine .loop (fun i:Nat=>⟨32,[(17,.int .i64 fun _=>(i:Int)),(16,.int .i64 fun _=>(l.length:Int)),(15,slcX (e+1) d .any fun _=>l),(1,slcX (e'+1) d' .any fun _=>m),(2,.func 25 [])],[]⟩)
  (fun i=>i<=l.length∧∀j,j<i->f (l.getD j default) (m.getD j default)=true) (fun i=>l.length-i) 0 ⟨Nat.zero_le _,fun j hj=>by omega⟩ ?_ fun i E hi=>?_
 ·exact aZ
 obtain⟨h1,h2⟩:=hi;have ql:l.length=m.length:=by omega
 by_cases hi:i<l.length
 ·have h3:=hf i hi (by omega);have h4:=fun h=>eqL_no (f:=f) (l:=l) (m:=m) (j:=i) hi h;have h5:f (l.getD i default) (m.getD i default)=true->∀j,j<i+1->f (l.getD j default) (m.getD j default)=true:=fun h j hj=>by
   rcases Nat.lt_succ_iff_lt_or_eq.1 hj with q|q
   ·exact h2 j q
   ·rw[q];exact h
  generalize f (l.getD i default) (m.getD i default)=b at*;apply AWp.wk tF mF [(7,[(3,zO b,[])])] kp63 ?_
  (refine oA ?_;repeat' with_reducible first|exact⟨⟩|refine mA ?_ ?_|refine mC (fun _=>?_) fun _=>?_)
  all_goals(try simp only[Int.toNat_natCast])
  all_goals(try exact zB)
  all_goals(try(exact absurd hi ‹¬i<l.length›))
  (all_goals try first|exact eZ|(refine qC ?_;repeat' with_reducible first|exact⟨⟩|refine mA ?_ ?_))
  ·exact(hZ.trans (h4 ‹_›)).symm
  ·refine dE (i+1) ⟨⟨by omega,h5 ‹_›⟩,by omega⟩ ?_
   (focus(refine aQ ?_;repeat' first|with_reducible apply And.intro|exact wZ|fail))
   exact w64n (by omega)
 ·apply AWp.wk tF mF [(7,[(3,.any,[])])] kp63 ?_
  (refine oA ?_;repeat' with_reducible first|exact⟨⟩|refine mA ?_ ?_|refine mC (fun _=>?_) fun _=>?_)
  all_goals(try(exact absurd ‹i<l.length› hi))
  (all_goals try first|exact eZ|(refine qC ?_;repeat' with_reducible first|exact⟨⟩|refine mA ?_ ?_))
  exact(hZ.trans (aqa ql fun j hj=>h2 j (by omega))).symm
def eqX(eqv:V->V->Bool):Nat->X->X->Bool
 | 0,_,_=>false
 | k+1,x,y=>(x.op==y.op)&&((x.int==y.int)&&(decide (x.text=y.text)&&(eqL eqv x.value y.value&&eqL (eqX eqv k) x.args y.args)))
def apI(e e' d d':Nat)(x y:X)(p q:Bool)(h1:Af Tryz.prog 61 [slcV (e+1) .any fun _=>x.value,slcV (e'+1) .any fun _=>y.value,.func 62 []] [] (.bool fun _=>p) [])
 (h2:Af Tryz.prog 63 [slcX (e+1) d .any fun _=>x.args,slcX (e'+1) d' .any fun _=>y.args,.func 25 []] [] (.bool fun _=>q) []):
 Af Tryz.prog 25 [encX (e+1) (d+1) .any fun _=>x,encX (e'+1) (d'+1) .any fun _=>y] [] (.bool fun _=>(x.op==y.op)&&((x.int==y.int)&&(decide (x.text=y.text)&&(p&&q)))) []:=by
 unfold slcV at h1;unfold slcX at h2
 (refine fA [.tmp 4] kp25 [(1,[(24,zO p,[]),(31,zO q,[])])] Tryz.func25 fun _=>?_;repeat' with_reducible first|exact⟨⟩|refine mA ?_ ?_|refine mC (fun _=>?_) fun _=>?_)
 all_goals(try simp only[ite_self])
 all_goals(try exact zB)
 (all_goals try first|exact eZ|(refine qC ?_;repeat' with_reducible first|exact⟨⟩|refine mA ?_ ?_))
 generalize (x.op==y.op)=b1;generalize (x.int==y.int)=b2;generalize decide (x.text=y.text)=b3;cases b1<;>cases b2<;>cases b3<;>cases p<;>cases q<;>rfl
theorem apt(eqv:V->V->Bool)(e e':Nat)(hv:∀v w,V.le (e+1) v->V.le (e'+1) w->Af Tryz.prog 62 [encV (e+1) .any fun _=>v,encV (e'+1) .any fun _=>w] [] (.bool fun _=>eqv v w) []):
 ∀(k d d':Nat) (x y:X),X.le (e+1) (d+1) x->X.le (e'+1) (d'+1) y->X.le (e+1) k x ->
 Af Tryz.prog 25 [encX (e+1) (d+1) .any fun _=>x,encX (e'+1) (d'+1) .any fun _=>y] [] (.bool fun _=>eqX eqv k x y) []
 | 0,_,_,_,_,_,_,h=>h.elim
 | k+1,d,d',x,y,hx,hy,hk=>by
  have mem:∀{α:Type} [Inhabited α] {l:List α} {i:Nat},i<l.length->l.getD i default∈l:=fun{α} _ {l i} h=>by
   simp only[List.getD,List.getElem?_eq_getElem h];exact List.getElem_mem h
  have h1:=eqV61_ok eqv (e+1) (e'+1) x.value y.value hx.2.1 hy.2.1 fun j a b=>hv _ _ (hx.2.2.2.1 _ (mem a)) (hy.2.2.2.1 _ (mem b));have h2:=eqX63_ok (eqX eqv k) e e' d d' x.args y.args hx.2.2.1 hy.2.2.1 fun j a b=>by
   have q:=X.abm hx a;obtain⟨c,rfl⟩:=X.lP q;have r:=X.abm hy b;obtain⟨c',rfl⟩:=X.lP r;exact apt eqv e e' hv k c c' _ _ q r (X.abm hk a)
  exact apI e e' d d' x y _ _ h1 h2
end Go.Ai
