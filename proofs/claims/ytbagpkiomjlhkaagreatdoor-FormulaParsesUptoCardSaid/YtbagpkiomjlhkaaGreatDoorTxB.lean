/- Chapter 17: the printer: binary operations, values, paths. -/
import Derived.Test.YtbagpkiomjlhkaaGreatDoorTxA
import Derived.Test.YtbagpkiomjlhkaaGreatDoorDec
set_option linter.all false
namespace Go.Ai
open Go Go.Proofs
set_option maxRecDepth 100000
set_option maxHeartbeats 4000000
def aqy(lit:V->ByteArray)(T:X->Int->ByteArray)(e D:Nat)(x:X)(need:Int)(ha:∀i,i<x.args.length->ArgT T e D (x.args.getD i default))(hl:2<=x.args.length)(hs:(aad lit T x).size<=1152921504606846976)(hb:need<=aa1 x.op)(b:Nat)(b1:1<=b)(b7:b<=7)(b4:b≠4)(e1:aa1 x.op=b)(o3:¬x.op=3)(o16:¬x.op=16)(o25:¬x.op=25):
 Af Tryz.prog 40 [encX (e+1) (D+1) .any fun _=>x,.int .i64 fun _=>need] [] (.str fun _=>aad lit T x) []:=by
 have h1:=aan x e (D+1);have h2:=ha 0 (by omega);have h4:=ha 1 (by omega);have h6:=arQ x.op b (by omega);have hw:IntKind.i64.wrap ((b:Int)+1)=(b:Int)+1:=w64 (by omega) (by omega);unfold aad at hs ⊢;rw[if_neg o3,if_neg o16,if_neg o25,e1]at hs ⊢;rw[e1]at h1 hb;rw[if_neg (by omega),if_pos (by omega),Int.toNat_natCast]at hs ⊢;have hs1:=hs;rw[ByteArray.size_append,ByteArray.size_append,ByteArray.size_append,ByteArray.size_append]at hs1;have h3:=h2 b (by omega) (by omega) (by omega);have h5:=h4 (b+1) (by omega) (by omega) (by omega);generalize T (x.args.getD 0 default) b=t at*;generalize T (x.args.getD 1 default) (b+1)=u at*;generalize symV x.op b=sy at*;clear h2 h4 ha e1 hs
 (apply Af.of tF mF [.tmp 4] kp40 [(1,[(1,.int .i64 fun _=>(b:Int),[])]),(3,[(1,.any,[])]),(5,[(5,.any,[])]),(7,[(4,.any,[])]),(13,[(4,.any,[]),(9,.any,[])]),(15,[(4,.any,[]),(9,.any,[]),(16,.any,[])]),(17,[(5,zR t,[]),(10,zR sy,[]),(19,zR u,[])])] Tryz.func40 (fun _=>?_);(repeat' with_reducible first|exact nY|refine oC ?_ ?_|refine vQ ?_ ?_ ?_|refine cV (fun _=>?_) fun _=>?_|refine wQ ?_|fail))
 all_goals(try(exfalso;omega))
 all_goals(try(exact absurd ‹x.op=3› o3))
 all_goals(try(exact absurd ‹x.op=16› o16))
 all_goals(try(exact absurd ‹x.op=25› o25))
 all_goals(try simp only[Int.toNat_zero,show Int.toNat 1=1 from rfl,hw])
 all_goals(try exact zB)
 (all_goals try first|exact eZ|with_reducible (refine rQ ?_;repeat' first|apply And.intro|exact wZ)|(refine sQ ?_;repeat' first|with_reducible apply And.intro|exact cZ))
 all_goals(try(simp only[ByteArray.size_append,bszL,List.length_cons,List.length_nil]at*;omega))
def alF(lit:V->ByteArray)(T:X->Int->ByteArray)(e D:Nat)(x:X)(need:Int)(ha:∀i,i<x.args.length->ArgT T e D (x.args.getD i default))(hl:2<=x.args.length)(hs:(aad lit T x).size<=1152921504606846976)(hb:need<=aa1 x.op)(e1:aa1 x.op=4)(o3:¬x.op=3)(o16:¬x.op=16)(o25:¬x.op=25):
 Af Tryz.prog 40 [encX (e+1) (D+1) .any fun _=>x,.int .i64 fun _=>need] [] (.str fun _=>aad lit T x) []:=by
 have h1:=aan x e (D+1);have h2:=ha 0 (by omega);have h4:=ha 1 (by omega);have h6:=arQ x.op 4 (by decide);unfold aad at hs ⊢;rw[if_neg o3,if_neg o16,if_neg o25,e1]at hs ⊢;rw[e1]at h1 hb;rw[if_pos rfl]at hs ⊢;have hs1:=hs;rw[ByteArray.size_append,ByteArray.size_append,ByteArray.size_append,ByteArray.size_append]at hs1;have h3:=h2 5 (by decide) (by decide) (by omega);have h5:=h4 5 (by decide) (by decide) (by omega);generalize T (x.args.getD 0 default) 5=t at*;generalize T (x.args.getD 1 default) 5=u at*;generalize symV x.op 4=sy at*;clear h2 h4 ha e1 hs
 (refine fA [.tmp 4] kp40 [(1,[(1,zI 4,[])]),(3,[(1,.any,[])]),(5,[(5,.any,[])]),(7,[(4,.any,[])]),(13,[(4,.any,[]),(9,.any,[])]),(15,[(4,zR t,[]),(9,zR sy,[]),(16,zR u,[])])] Tryz.func40 fun _=>?_;repeat' with_reducible first|exact⟨⟩|refine mA ?_ ?_|refine mC (fun _=>?_) fun _=>?_)
 all_goals(try(exact absurd ‹(4:Int)<need› (by omega)))
 all_goals(try(exact absurd ‹x.op=3› o3))
 all_goals(try(exact absurd ‹x.op=16› o16))
 all_goals(try(exact absurd ‹x.op=25› o25))
 all_goals(try simp only[Int.toNat_zero,show Int.toNat 1=1 from rfl,w64 (show(-9223372036854775808:Int)<=4+1 by decide) (by decide)])
 all_goals(try exact zB)
 (all_goals try first|exact eZ|(refine qC ?_;repeat' with_reducible first|exact⟨⟩|refine mA ?_ ?_))
 all_goals(try(simp only[ByteArray.size_append,bszL,List.length_cons,List.length_nil]at*;omega))
def text_val(lit:V->ByteArray)(er:Int)(T:X->Int->ByteArray)(e D:Nat)(x:X)(need:Int)(hl:1<=x.value.length)(h3:Af Tryz.prog 48 [encV (e+1) .any fun _=>x.value.getD 0 default] [] (.tup [.str fun _=>lit (x.value.getD 0 default),.int .i64 fun _=>er]) [])(hb:need<=aa1 x.op)(ho:x.op=1):
 Af Tryz.prog 40 [encX (e+1) (D+1) .any fun _=>x,.int .i64 fun _=>need] [] (.str fun _=>aad lit T x) []:=by
 have h1:=aan x e (D+1);have e1:aa1 x.op=9:=by rw[ho];rfl
 unfold aad;rw[if_neg (by omega),if_neg (by omega),if_neg (by omega),e1,if_neg (by decide),if_neg (by decide),if_pos ho];rw[e1]at h1 hb;generalize lit (x.value.getD 0 default)=t at*;clear e1
 (refine fA [.tmp 4] kp40 [(1,[(1,zI 9,[])]),(3,[(1,.any,[])]),(5,[(5,.any,[])]),(7,[(4,.any,[])]),(13,[(4,.any,[]),(9,.any,[])]),(15,[(4,.any,[]),(9,.any,[]),(16,.any,[])]),(17,[(5,.any,[]),(10,.any,[]),(19,.any,[])]),(19,[(4,.tup [zR t,zI er],[])]),(25,[(2,.any,[])]),(27,[(3,.any,[])])] Tryz.func40 fun _=>?_;repeat' with_reducible first|exact⟨⟩|refine mA ?_ ?_|refine mC (fun _=>?_) fun _=>?_)
 all_goals(try(exact absurd ‹(9:Int)<need› (by omega)))
 all_goals(try(exfalso;omega))
 all_goals(try simp only[Int.toNat_zero])
 all_goals(try exact zB)
 all_goals exact eZ
def alA(lit:V->ByteArray)(T:X->Int->ByteArray)(e D:Nat)(x:X)(need:Int)(hb:need<=aa1 x.op)(ho:x.op=2):
 Af Tryz.prog 40 [encX (e+1) (D+1) .any fun _=>x,.int .i64 fun _=>need] [] (.str fun _=>aad lit T x) []:=by
 have h1:=aan x e (D+1);have e1:aa1 x.op=9:=by rw[ho];rfl
 unfold aad;rw[if_neg (by omega),if_neg (by omega),if_neg (by omega),e1,if_neg (by decide),if_neg (by decide),if_neg (by omega),if_pos ho];rw[e1]at h1 hb;clear e1
 (refine fA [.tmp 4] kp40 [(1,[(1,zI 9,[])]),(3,[(1,.any,[])]),(5,[(5,.any,[])]),(7,[(4,.any,[])]),(13,[(4,.any,[]),(9,.any,[])]),(15,[(4,.any,[]),(9,.any,[]),(16,.any,[])]),(17,[(5,.any,[]),(10,.any,[]),(19,.any,[])]),(19,[(4,.any,[])]),(25,[(2,.any,[])]),(27,[(3,.any,[])])] Tryz.func40 fun _=>?_;repeat' with_reducible first|exact⟨⟩|refine mA ?_ ?_|refine mC (fun _=>?_) fun _=>?_)
 all_goals(try(exact absurd ‹(9:Int)<need› (by omega)))
 all_goals(try(exfalso;omega))
 all_goals(try exact zB)
 all_goals exact eZ
def text_in(lit:V->ByteArray)(T:X->Int->ByteArray)(e D:Nat)(x:X)(need:Int)(ha:∀i,i<x.args.length->ArgT T e D (x.args.getD i default))(hl:1<=x.args.length)(hm:x.args.length<=1073741824)(hs:(aad lit T x).size<=1099511627776)(hb:need<=aa1 x.op)(ho:x.op=25)
 (hj:∀(ts:List ByteArray) (t:ByteArray),t∈ts->t.size<=(aax ts aam).size):
 Af Tryz.prog 40 [encX (e+1) (D+1) .any fun _=>x,.int .i64 fun _=>need] [] (.str fun _=>aad lit T x) []:=by
 have h1:=aan x e (D+1);have e1:aa1 x.op=4:=by rw[ho];rfl
 have h2:=ha 0 (by omega);unfold aad at hs ⊢;rw[if_neg (by omega),if_neg (by omega),if_pos ho]at hs ⊢;rw[e1]at h1 hb;have hs1:=hs;rw[ByteArray.size_append,ByteArray.size_append,ByteArray.size_append]at hs1;have h3:=h2 5 (by decide) (by decide) (by omega)
 have h4:=amM (fun y=>T y 0) e D (x.args.drop 1) (by rw[List.length_drop];omega) (fun i hi=>by
  rw[List.length_drop]at hi;have e2:(x.args.drop 1).getD i default=x.args.getD (1+i) default:=by rw[List.getD_eq_getElem?_getD,List.getElem?_drop,List.getD_eq_getElem?_getD]
  have hq:=hj ((x.args.drop 1).map fun y=>T y 0) (T (x.args.getD (1+i) default) 0) (by
   rw[<- e2];refine List.mem_map.2 ⟨_,?_,rfl⟩;simp only[List.getD,List.getElem?_eq_getElem (show i<(x.args.drop 1).length by rw[List.length_drop];omega)];exact List.getElem_mem _)
  rw[e2];exact ha (1+i) (by omega) 0 (by decide) (by decide) (by omega)) (by omega)
 have e3:∀i,(x.args.drop 1).getD i default=x.args.getD (1+i) default:=fun i=>by rw[List.getD_eq_getElem?_getD,List.getElem?_drop,List.getD_eq_getElem?_getD]
 generalize aax ((x.args.drop 1).map fun y=>T y 0) aam=u at*;generalize T (x.args.getD 0 default) 5=t at*;have e4:(x.args.drop 1).length=x.args.length-1:=List.length_drop;unfold slcX at h4;simp only[e3,e4]at h4;clear h2 ha e1 hs hj e3
 (refine fA [.tmp 4] kp40 [(1,[(1,zI 4,[])]),(3,[(1,.any,[])]),(5,[(5,.any,[])]),(7,[(4,.any,[])]),(13,[(4,zR t,[]),(9,zR u,[])]),(15,[(4,.any,[]),(9,.any,[]),(16,.any,[])])] Tryz.func40 fun _=>?_;repeat' with_reducible first|exact⟨⟩|refine mA ?_ ?_|refine mC (fun _=>?_) fun _=>?_)
 all_goals(try(exact absurd ‹(4:Int)<need› (by omega)))
 all_goals(try(exact absurd ‹x.op=3› (by omega)))
 all_goals(try(exact absurd ‹x.op=16› (by omega)))
 all_goals(try(exact absurd ho ‹¬x.op=25›))
 all_goals(try simp only[Int.toNat_zero])
 all_goals(try exact zB)
 (all_goals try first|exact eZ|(refine qC ?_;repeat' with_reducible first|exact⟨⟩|refine mA ?_ ?_))
 all_goals(try(simp only[ByteArray.size_append,bszL,inB,List.length_cons,List.length_nil]at*;omega))
 all_goals rfl
def callB_at{x:X}{I:ByteArray}{i:Nat}(hi:i<aa2.length)(h:(aa2.getD i default).2.1=x.op):
 (aa2.map (·.1)).getD i ⟨#[]⟩++⟨#[40]⟩++I++⟨#[41]⟩=(aa2.find? fun p=>p.2.1==x.op).elim ⟨#[]⟩ fun p=>p.1++⟨#[40]⟩++I++⟨#[41]⟩:=by
 have key:∀i,i<aa2.length->∃p,(aa2.find? fun p=>p.2.1==(aa2.getD i default).2.1)=some p∧p.1=(aa2.map (·.1)).getD i ⟨#[]⟩:=by
  have:=(by decide:∀i,i<aa2.length->(aa2.find? fun p=>p.2.1==(aa2.getD i default).2.1)=some (aa2.getD i default)∧(aa2.getD i default).1=(aa2.map (·.1)).getD i ⟨#[]⟩)
  exact fun i hi=>⟨_,(this i hi).1,(this i hi).2⟩
 obtain⟨p,h1,h2⟩:=key i hi;rw[h]at h1;rw[h1,<- h2];rfl
def ala{x:X}{I:ByteArray}(h:∀i,i<aa2.length->(aa2.getD i default).2.1≠x.op):((aa2.find? fun p=>p.2.1==x.op).elim ⟨#[]⟩ fun p=>p.1++⟨#[40]⟩++I++⟨#[41]⟩)=⟨#[]⟩:=by
 have:aa2.find? (fun p=>p.2.1==x.op)=none:=by
  rw[List.find?_eq_none];intro p hp;obtain⟨i,hi,rfl⟩:=List.getElem_of_mem hp;have:=h i hi;simpa[List.getD,hi]using this
 rw[this];rfl
def ajc:∃L,L=aa2∧Af Tryz.prog 90 [] [] (cMap L) []:=⟨_,rfl,akc⟩
def alB(lit:V->ByteArray)(T:X->Int->ByteArray)(e D:Nat)(x:X)(need:Int)(hT:∀i,i<x.args.length->ArgT T e D (x.args.getD i default))(hm:x.args.length<=1073741824)(ht:x.text.size<=1099511627776)
 (hb:need<=aa1 x.op) (e1:aa1 x.op=9) (o1:¬x.op=1) (o2:¬x.op=2) (o3:¬x.op=3) (o16:¬x.op=16) (o25:¬x.op=25) (hn:0<=x.int∧x.int<=1000)
 (hs:(aax (x.args.map fun y=>T y 0) aam).size<=1099511627776) (hj:∀(ts:List ByteArray) (t:ByteArray),t∈ts->t.size<=(aax ts aam).size):
 Af Tryz.prog 40 [encX (e+1) (D+1) .any fun _=>x,.int .i64 fun _=>need] [] (.str fun _=>aad lit T x) []:=by
 have h1:=aan x e (D+1)
 have h2:=amM (fun y=>T y 0) e D x.args hm (fun i hi=>by
  refine hT i hi 0 (by decide) (by decide) ?_;have:=hj (x.args.map fun y=>T y 0) (T (x.args.getD i default) 0) (List.mem_map.2 ⟨_,by simp[List.getD,hi],rfl⟩);omega) (by omega)
 have h3:=afl x.int (by omega) (by omega);have hi:=abu x.int (by omega) (by omega);obtain⟨L,eL,h4⟩:=ajc;unfold aad;rw[if_neg o3,if_neg o16,if_neg o25,e1,if_neg (by decide),if_neg (by decide),if_neg o1,if_neg o2];rw[e1]at h1 hb;unfold callB ajX;obtain⟨I,hI⟩:∃I,I=(if x.op=15∨(x.op=26∧x.int≠0)then(if 0<x.args.length then aax (x.args.map fun y=>T y 0) aam else x.text)++(⟨#[44,32]⟩++abD x.int)else if 0<x.args.length then aax (x.args.map fun y=>T y 0) aam else x.text):=⟨_,rfl⟩
 rw[<- hI];have hat:=fun i=>callB_at (x:=x) (I:=I) (i:=i)
 have hno:=ala (x:=x) (I:=I);rw[<- eL]at hat hno ⊢;have hsz:∀i,i<L.length->((L.map (fun p:ByteArray×Int×Int=>p.1)).getD i (⟨#[]⟩:ByteArray)).size<=100:=by rw[eL];decide
 generalize abD x.int=it at*;generalize aax (x.args.map fun y=>T y 0) aam=js at*;generalize ((L.find? fun p=>p.2.1==x.op).elim (⟨#[]⟩:ByteArray) fun p=>p.1++⟨#[40]⟩++I++⟨#[41]⟩)=z at*;have hz:I.size<=1099511627876:=by
  rw[hI]
  repeat' split
  all_goals(try simp only[ByteArray.size_append,bszL,List.length_cons,List.length_nil])
  all_goals omega
 unfold slcX at h2;clear e1 hT hj eL;by_cases c1:0<x.args.length<;>by_cases c2:x.op=15∨(x.op=26∧x.int≠0)
 all_goals(simp only[c1,c2,if_true,if_false]at hI)
 all_goals((apply Af.of tF mF [.tmp 4] kp40 [(1,[(1,zI 9,[])]),(3,[(1,.any,[])]),(5,[(5,.any,[])]),(7,[(4,.any,[])]),(13,[(4,.any,[]),(9,.any,[])]),(15,[(4,.any,[]),(9,.any,[]),(16,.any,[])]),(17,[(5,.any,[]),(10,.any,[]),(19,.any,[])]),(19,[(4,.any,[])]),(25,[(2,zR js,[])]),(27,[(3,zR it,[])]),(28,[(0,cMap L,[])])] Tryz.func40 (fun _=>?_);(repeat' with_reducible first|exact nY|refine oC ?_ ?_|refine vQ ?_ ?_ ?_|refine cV (fun _=>?_) fun _=>?_|(apply Ca.mk<;>intro _)|refine wQ ?_|fail)))
 all_goals(try(exact absurd ‹(9:Int)<need› (by omega)))
 all_goals(try(exfalso;omega))
 all_goals(try exact zB)
 all_goals(try(focus((all_goals(try exact eZ));done)))
 all_goals(try(focus((try simp only[aC,aN,and_true]);simp only[ByteArray.size_append,bszL,List.length_cons,List.length_nil];(repeat'(with_reducible apply And.intro))<;>omega)))
 all_goals(refine .loop (fun seen:List Nat=>⟨195,[(179,.ptr 179 0),(10,.str fun _=>I),(2,.ptr 2 0)],[(179,.it (fun _=>L.map (·.1)) (fun i=>.agg [.int .i64 fun _=>(L.getD (i ()) default).2.1,.int .i64 fun _=>(L.getD (i ()) default).2.2]) (fun _=>seen) false),(2,boxQ x.op)]⟩) (fun seen=>∀i∈seen,(L.getD i default).2.1≠x.op) (fun seen=>unseen L.length seen) [] (fun i hi=>by cases hi) ?_ fun seen E hs=>?_)
 all_goals(try(focus((focus(refine aQ ?_;repeat' first|with_reducible apply And.intro|exact wZ|fail));first|exact hI.symm|skip;done)))
 all_goals(
  apply AWp.wkG tF mF 2 [] kp40 ?_
  (any_goals((with_reducible refine ab9 ?_);cbv;(try dsimp only[nc]at*);(repeat' with_reducible first|exact‹False›.elim|exact nZ|refine oC ?_ ?_|refine vQ ?_ ?_ ?_|refine cV (fun _=>?_) fun _=>?_|(apply Ca.mk<;>intro _)|fail)))
  ·refine LpVC.pick tF mF (fun _=>[]) kp40 179 rfl ‹_› (fun i hi hn=>?_)
   (repeat' with_reducible first|exact nY|refine oC ?_ ?_|refine vQ ?_ ?_ ?_|refine cV (fun _=>?_) fun _=>?_|(apply Ca.mk<;>intro _)|refine wQ ?_|fail)
   all_goals(try simp only[List.getLastD_concat,List.length_map]at*)
   (all_goals try first|exact eZ|with_reducible (refine rQ ?_;repeat' first|apply And.intro|exact wZ)|(refine sQ ?_;repeat' first|with_reducible apply And.intro|exact cZ))
   iterate 3 (first|(focus(have q:=hsz i hi;simp only[ByteArray.size_append,bszL,List.length_cons,List.length_nil];omega))|skip)
   ·exact hat i hi ‹_›
   ·refine dE (ι:=List Nat) (μ:=fun seen=>unseen L.length seen) (i:=seen) (seen++[i]) ⟨fun j hj=>?_,aaz hi hn⟩ ?_
    ·rcases List.mem_append.1 hj with hj|hj
     ·exact hs j hj
     ·rw[List.mem_singleton.1 hj];assumption
    ·exact aZ
  ·(any_goals(repeat' with_reducible first|exact‹False›.elim|exact nZ|refine oC ?_ ?_|refine vQ ?_ ?_ ?_|refine cV (fun _=>?_) fun _=>?_|(apply Ca.mk<;>intro _)|refine oQ ?_|fail))
   (all_goals try first|exact eZ|with_reducible (refine rQ ?_;repeat' first|apply And.intro|exact wZ)|(refine sQ ?_;repeat' first|with_reducible apply And.intro|exact cZ))
   rename_i hall;exact(hno fun i hi=>hs i (hall i (by rw[List.length_map];exact hi))).symm)
end Go.Ai
