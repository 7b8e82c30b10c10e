/- Chapter 17: the printer: lists of arguments. -/
import Derived.Test.YtbagpkiomjlhkaaGreatDoorHid
import Derived.Test.YtbagpkiomjlhkaaGreatDoorBnd
set_option linter.all false
namespace Go.Ai
open Go Go.Proofs
set_option maxRecDepth 100000
set_option maxHeartbeats 4000000
def aam:ByteArray:=⟨#[44,32]⟩
def akC(l:List ByteArray)(t:ByteArray)(i:Nat)(hi:i<l.length+1):LeL (catF (fun _=>l.length) (fun i=>[.str fun _=>l.getD (i ()) ⟨#[]⟩]) (aaL [[.str fun _=>t]]) fun _=>i) [.str fun _=>(l++[t]).getD i ⟨#[]⟩]:=by
 refine LeL.of_eq ?_;have e:∀a b:ByteArray,a=b->([.str fun _=>a]:List AV)=[.str fun _=>b]:=fun a b h=>by rw[h]
 unfold catF;by_cases q:i<l.length
 ·rw[if_pos q];refine e _ _ ?_;rw[List.getD_eq_getElem?_getD,List.getD_eq_getElem?_getD,List.getElem?_append_left q]
 ·rw[if_neg q];obtain rfl:i=l.length:=by omega
  have h1:(aaL [[.str fun _=>t]] fun _=>l.length-l.length)=[.str fun _=>t]:=by rw[Nat.sub_self];rfl
  refine h1.trans (e _ _ ?_);rw[List.getD_eq_getElem?_getD,List.getElem?_append_right (Nat.le_refl _),Nat.sub_self];rfl
def amM(T:X->ByteArray)(e D:Nat)(l:List X)(hl:l.length<=1073741824)(hT:∀i,i<l.length->Af Tryz.prog 40 [encX (e+1) D .any fun _=>l.getD i default,.int .i64 fun _=>0] [] (.str fun _=>T (l.getD i default)) [])
 (hz:(aax (l.map T) aam).size<=140737488355328):Af Tryz.prog 87 [slcX (e+1) D .any fun _=>l] [] (.str fun _=>aax (l.map T) aam) []:=by
 have h1:=Join_ok (l.map T) aam (by rw[List.length_map];exact hl) hz;obtain⟨Z,hZ⟩:∃Z,Z=aax (l.map T) aam:=⟨_,rfl⟩
 rw[<- hZ]at h1 ⊢;clear hz hZ;obtain⟨L,hL⟩:∃L,L=l.map T:=⟨_,rfl⟩
 rw[<- hL]at h1;have h2:Af Tryz.prog 138 [.aref 1000 0 fun _=>L.length,.str fun _=>aam] [(1000,.arr false 9 1 0 (fun _=>L.length) (fun k=>[.str fun _=>L.getD (k ()) ⟨#[]⟩]))] (.str fun _=>Z) [(1000,.arr false 9 1 0 (fun _=>L.length) (fun k=>[.str fun _=>L.getD (k ()) ⟨#[]⟩]))]:=by
  refine Af.borrow h1 ?_ (by simp[AV.aae,sS]) (fun av hav=>?_) (by simp[AV.aae]) (.str _)
  ·exact aZ
  ·rcases List.mem_cons.1 hav with rfl|hav
   ·exact .slc fun i _ av h=>by rw[List.mem_singleton.1 h];exact .str _
   ·rw[List.mem_singleton.1 hav];exact .str _
 unfold slcX
 (refine fA [.tmp 2] kp87 [(7,[(1,zR Z,[(1000,.arr false 9 1 0 (fun _=>L.length) (fun k=>[.str fun _=>L.getD (k ()) ⟨#[]⟩]))])])] Tryz.func87 fun _=>?_;repeat' with_reducible first|exact⟨⟩|refine mA ?_ ?_|refine mC (fun _=>?_) fun _=>?_)
 refine .loop (fun q:Nat×List ByteArray=>⟨20,[(8,.int .i64 fun _=>(q.1:Int)),(7,.int .i64 fun _=>(l.length:Int)),(6,slcX (e+1) D .any fun _=>l),(3,.aref 16 1 fun _=>q.2.length)],[(16,.arr false 9 1 1 (fun _=>q.2.length) (fun k=>[.str fun _=>q.2.getD (k ()) ⟨#[]⟩]))]⟩)
  (fun q=>q.1<=l.length∧q.2=(l.take q.1).map T) (fun q=>l.length-q.1) (0,[]) ⟨Nat.zero_le _,by simp⟩ ?_ fun q E hq=>?_
 ·exact aZ
 obtain⟨i,ts⟩:=q;obtain⟨q1,q2⟩:=hq;dsimp only at q1 q2;have hts:ts.length=i:= by rw[q2,List.length_map,List.length_take];omega
 by_cases hi:i<l.length
 ·have h3:=hT i hi;have q3:ts++[T (l.getD i default)]=(l.take (i+1)).map T:=by
   rw[q2,List.take_succ_eq_append_getElem hi,List.map_append];simp[List.getD,hi]
  generalize T (l.getD i default)=t at*;apply AWp.wk tF mF [(5,[(2,zR t,[])])] kp87 ?_
  (refine oA ?_;repeat' with_reducible first|exact⟨⟩|refine mA ?_ ?_|refine mC (fun _=>?_) fun _=>?_)
  all_goals(try simp only[Int.toNat_natCast])
  all_goals(try exact zB)
  all_goals(try(exact absurd hi ‹¬i<l.length›))
  all_goals(try(exact absurd hi (Nat.not_lt.2 ‹_›)))
  (all_goals try first|exact eZ|(refine qC ?_;repeat' with_reducible first|exact⟨⟩|refine mA ?_ ?_))
  refine dE (ι:=Nat×List ByteArray) (μ:=fun q=>l.length-q.1) (i:=(i,ts)) (i+1,ts++[t]) ⟨⟨by dsimp only;omega,q3⟩,by dsimp only;omega⟩ ?_
  (focus(refine aQ ?_;repeat' first|with_reducible apply And.intro|exact wZ|fail))
  ·exact w64n (by omega)
  ·rw[List.length_append];rfl
  ·rw[List.length_append];rfl
  ·rw[List.length_append];rfl
  ·exact akC ts t
 ·have e0:ts=L:=by rw[q2,hL,List.take_of_length_le (by omega)]
  clear q2;subst e0;apply AWp.wk tF mF [(5,[(2,.any,[])])] kp87 ?_
  (refine oA ?_;repeat' with_reducible first|exact⟨⟩|refine mA ?_ ?_|refine mC (fun _=>?_) fun _=>?_)
  all_goals(try(exact absurd ‹i<l.length› hi))
  all_goals(try exact zB)
  (all_goals(try exact eZ))
  all_goals trace_state
def parB(s:ByteArray):ByteArray:=⟨#[40]⟩++s++⟨#[41]⟩
def inB:ByteArray:=⟨#[32,105,110,32,40]⟩
def notB:ByteArray:=⟨#[110,111,116,32]⟩
abbrev numX(x:X):Prop:=x.op=1∧((x.value.getD 0 default).kind=2∨(x.value.getD 0 default).kind=3)
def bszL(l:List UInt8):(ByteArray.mk (Array.mk l)).size=l.length:=rfl
def ajX(x:X)(s:ByteArray):ByteArray:=if x.op=15∨(x.op=26∧x.int≠0)then s++(⟨#[44,32]⟩++abD x.int)else s
def callB(x:X)(s:ByteArray):ByteArray:=(aa2.find? fun p=>p.2.1==x.op).elim ⟨#[]⟩ fun p=>p.1++⟨#[40]⟩++ajX x s++⟨#[41]⟩
def aad(lit:V->ByteArray)(T:X->Int->ByteArray)(x:X):ByteArray:=
 if x.op=3 then notB++T (x.args.getD 0 default) (aa1 x.op)
 else if x.op=16 then⟨#[45]⟩++(if numX (x.args.getD 0 default)then parB (T (x.args.getD 0 default) 9)else T (x.args.getD 0 default) 9)
 else if x.op=25 then T (x.args.getD 0 default) 5++inB++aax ((x.args.drop 1).map fun y=>T y 0) aam++⟨#[41]⟩
 else if aa1 x.op=4 then T (x.args.getD 0 default) 5++⟨#[32]⟩++symV x.op 4++⟨#[32]⟩++T (x.args.getD 1 default) 5
 else if aa1 x.op<9 then T (x.args.getD 0 default) (aa1 x.op)++⟨#[32]⟩++symV x.op (aa1 x.op).toNat++⟨#[32]⟩++T (x.args.getD 1 default) (aa1 x.op+1)
 else if x.op=1 then lit (x.value.getD 0 default)
 else if x.op=2 then x.text
 else callB x (if 0<x.args.length then aax (x.args.map fun y=>T y 0) aam else x.text)
def txtB(lit:V->ByteArray):Nat->X->ByteArray
 | 0,_=>⟨#[]⟩
 | k+1,x=>aad lit (fun y n=>if aa1 y.op<n then parB (txtB lit k y)else txtB lit k y) x
def txtN(lit:V->ByteArray)(k:Nat)(x:X)(n:Int):ByteArray:=if aa1 x.op<n then parB (txtB lit k x)else txtB lit k x
def ArgT(T:X->Int->ByteArray)(e D:Nat)(x:X):Prop:=∀n,0<=n->n<=9->(T x n).size<=1152921504606846976->Af Tryz.prog 40 [encX (e+1) D .any fun _=>x,.int .i64 fun _=>n] [] (.str fun _=>T x n) []
def text_not(lit:V->ByteArray)(T:X->Int->ByteArray)(e D:Nat)(x:X)(need:Int)(ha:∀i,i<x.args.length->ArgT T e D (x.args.getD i default))(hl:1<=x.args.length)(hs:(aad lit T x).size<=1152921504606846976)(hb:need<=aa1 x.op)(ho:x.op=3):
 Af Tryz.prog 40 [encX (e+1) (D+1) .any fun _=>x,.int .i64 fun _=>need] [] (.str fun _=>aad lit T x) []:=by
 have h1:=aan x e (D+1);have e1:aa1 x.op=3:=by rw[ho];rfl
 have h2:=ha 0 (by omega);unfold aad at hs ⊢;rw[if_pos ho,e1]at hs ⊢;rw[e1]at h1 hb;have k1:(notB++T (x.args.getD 0 default) 3).size=4+(T (x.args.getD 0 default) 3).size:=ByteArray.size_append;have h3:=h2 3 (by decide) (by decide) (by omega);generalize T (x.args.getD 0 default) 3=t at*;clear h2 ha e1
 (refine fA [.tmp 4] kp40 [(1,[(1,zI 3,[])]),(3,[(1,.any,[])]),(5,[(5,zR t,[])]),(7,[(4,.any,[])])] Tryz.func40 fun _=>?_;repeat' with_reducible first|exact⟨⟩|refine mA ?_ ?_|refine mC (fun _=>?_) fun _=>?_)
 all_goals(try(exact absurd ‹(3:Int)<need› (by omega)))
 all_goals(try(exact absurd ho ‹¬x.op=3›))
 all_goals(try simp only[Int.toNat_zero])
 all_goals(try exact zB)
 (all_goals try first|exact eZ|(refine qC ?_;repeat' with_reducible first|exact⟨⟩|refine mA ?_ ?_))
 ·show 4+t.size<=_;omega
 ·rfl
def text_neg(lit:V->ByteArray)(T:X->Int->ByteArray)(e D:Nat)(x:X)(need:Int)(ha:∀i,i<x.args.length->ArgT T e D (x.args.getD i default))(hl:1<=x.args.length)(hv:(x.args.getD 0 default).op=1->0<(x.args.getD 0 default).value.length)(hs:(aad lit T x).size<=1152921504606846976)(hb:need<=aa1 x.op)(ho:x.op=16):
 Af Tryz.prog 40 [encX (e+1) (D+1) .any fun _=>x,.int .i64 fun _=>need] [] (.str fun _=>aad lit T x) []:=by
 have h1:=aan x e (D+1);have e1:aa1 x.op=8:=by rw[ho];rfl
 have h2:=ha 0 (by omega);unfold aad at hs ⊢;rw[if_neg (by omega),if_pos ho]at hs ⊢;rw[e1]at h1 hb;have hT:(T (x.args.getD 0 default) 9).size<=1152921504606846976:=by
  rw[ByteArray.size_append]at hs;split at hs
  ·unfold parB at hs;rw[ByteArray.size_append,ByteArray.size_append]at hs;omega
  ·omega
 have h3:=h2 9 (by decide) (by decide) hT;unfold numX parB at*;generalize T (x.args.getD 0 default) 9=t at*;clear h2 ha e1 hs
 (refine fA [.tmp 4] kp40 [(1,[(1,zI 8,[])]),(3,[(1,.any,[])]),(5,[(5,.any,[])]),(7,[(4,zR t,[])])] Tryz.func40 fun _=>?_;repeat' with_reducible first|exact⟨⟩|refine mA ?_ ?_|refine mC (fun _=>?_) fun _=>?_)
 all_goals(try(exact absurd ‹(8:Int)<need› (by omega)))
 all_goals(try(exact absurd ‹x.op=3› (by omega)))
 all_goals(try(exact absurd ho ‹¬x.op=16›))
 all_goals(try simp only[Int.toNat_zero,ite_self])
 all_goals(try exact zB)
 (all_goals try first|exact eZ|(refine qC ?_;repeat' with_reducible first|exact⟨⟩|refine mA ?_ ?_))
 ·(simp only[ByteArray.size_append,bszL,List.length_cons,List.length_nil]at*;omega)
 ·(simp only[ByteArray.size_append,bszL,List.length_cons,List.length_nil]at*;omega)
 ·(simp only[ByteArray.size_append,bszL,List.length_cons,List.length_nil]at*;omega)
 ·rw[if_pos ‹_›]
 ·(simp only[ByteArray.size_append,bszL,List.length_cons,List.length_nil]at*;omega)
 ·rename_i q;simp only[Int.toNat_zero]at q;rw[if_neg (by omega)]
end Go.Ai
