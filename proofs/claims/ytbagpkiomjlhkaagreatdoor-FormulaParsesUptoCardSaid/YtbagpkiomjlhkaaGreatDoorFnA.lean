/- Chapter 4: nulls, names, the rules of the kinds. -/
import Derived.Test.YtbagpkiomjlhkaaGreatDoorEngC
import Derived.Test.YtbagpkiomjlhkaaGreatDoorV
set_option linter.all false
namespace Go.Ai
open Go Go.Proofs
set_option maxRecDepth 100000
set_option maxHeartbeats 4000000
def ain(d:Nat)(v:V):Af Tryz.prog 100 [encV d .any fun _=>v] [] (.bool fun _=>isNull v) []:=by
 (refine fB [.tmp 2] kp100 [] Tryz.func100 fun _=>?_;repeat' with_reducible first|exact⟨⟩|refine mA ?_ ?_|refine mC (fun _=>?_) fun _=>?_)
 rw[Bool.eq_iff_iff];simp[isNull,aaW]
def afT(s:ByteArray):isName s=true↔0<s.size∧s.size<=32∧(97<=byt s 0∧byt s 0<=122)∧∀j,j<s.size->acF (byt s j)=true:=by
 simp only[isName,Bool.and_eq_true,bne_iff_ne,decide_eq_true_eq,List.all_eq_true,List.mem_range,ne_eq,and_assoc,Nat.pos_iff_ne_zero]
def ahN{s:ByteArray}(h:¬(0<s.size∧s.size<=32∧(97<=byt s 0∧byt s 0<=122)∧∀j,j<s.size->acF (byt s j)=true)):false=isName s:=by
 rw[<- afT]at h;simpa using h
def afm(s:ByteArray)(hs:s.size<=35184372088832):Af Tryz.prog 146 [.str fun _=>s] [] (.bool fun _=>isName s) []:=by
 (refine fB [.tmp 2] kp146 [] Tryz.func146 fun _=>?_;repeat' with_reducible first|exact⟨⟩|refine mA ?_ ?_|refine mC (fun _=>?_) fun _=>?_)
 ·exact ahN (by simp only[byt];rw[show Int.toNat 0=0 from rfl]at*;((((try simp only[nc,cl]at*)<;>(try rw[Bool.eq_iff_iff]))<;>(try simp only[bl,false_iff,true_iff,iff_true,iff_false,aja,ajb,ne_eq,Decidable.not_not]at*))<;>(first|omega|grind)))
 refine .loop (fun i:Nat=>⟨48,[(25,.int .i64 fun _=>i),(24,.int .i64 fun _=>s.size),(23,.slc .any 1 (fun _=>s.size) fun i=>[.int .u8 fun _=>((s.data[i ()]?).getD 0).toNat])],[]⟩)
  (fun i=>i<=s.size∧∀j,j<i->acF (byt s j)=true) (fun i=>s.size-i) 0 (by simp) ?_ fun i E hi=>?_
 ·exact aZ
 apply AWp.wk tF mF [] kp146 ?_
 (refine oB ?_;repeat' with_reducible first|exact⟨⟩|refine mA ?_ ?_|refine mC (fun _=>?_) fun _=>?_)
 ·have q:=‹_∧¬_=(95:Int)›
  refine ahN fun z=>?_;have:=z.2.2.2 i ‹_›;simp only[acF,byt]at this
  ((((try simp only[nc,cl]at*)<;>(try rw[Bool.eq_iff_iff]))<;>(try simp only[bl,false_iff,true_iff,iff_true,iff_false,aja,ajb,ne_eq,Decidable.not_not]at*))<;>(first|omega|grind))
 ·have q:=‹_∨_=(95:Int)›
  refine dE (i+1) ⟨⟨by omega,fun j hj=>?_⟩,by omega⟩ ?_
  ·rcases Nat.lt_succ_iff_lt_or_eq.1 hj with hj|rfl
   ·exact hi.2 j hj
   ·simp only[acF,byt];((((try simp only[nc,cl]at*)<;>(try rw[Bool.eq_iff_iff]))<;>(try simp only[bl,false_iff,true_iff,iff_true,iff_false,aja,ajb,ne_eq,Decidable.not_not]at*))<;>(first|omega|grind))
  ·(focus(refine aQ ?_;repeat' first|with_reducible apply And.intro|exact wZ|fail))
   exact w64n (by omega)
 ·have hc:=‹(_∧_)∧_›
  rw[show Int.toNat 0=0 from rfl]at hc;exact((afT s).2 ⟨by omega,by omega,⟨hc.1.2,hc.2⟩,fun j hj=>hi.2 j (by omega)⟩).symm
def between(n lo hi:Int):Int:=if n<lo∨hi<n then 2 else 0
def ac0(n lo hi:Int):Af Tryz.prog 201 [.int .i64 fun _=>n,.int .i64 fun _=>lo,.int .i64 fun _=>hi] [] (.int .i64 fun _=>between n lo hi) []:=by
 (refine fB [.tmp 6] kp201 [] Tryz.func201 fun _=>?_;repeat' with_reducible first|exact⟨⟩|refine mA ?_ ?_|refine mC (fun _=>?_) fun _=>?_)
 all_goals((try simp only[between]);((try simp only[nc,cl]at*)<;>grind))
def abT(n most e:Int):Int:=if most<n then e else 0
def adi(n most e:Int):Af Tryz.prog 206 [.int .i64 fun _=>n,.int .i64 fun _=>most,.int .i64 fun _=>e] [] (.int .i64 fun _=>abT n most e) []:=by
 (refine fB [.tmp 6] kp206 [] Tryz.func206 fun _=>?_;repeat' with_reducible first|exact⟨⟩|refine mA ?_ ?_|refine mC (fun _=>?_) fun _=>?_)
 all_goals((try simp only[abT]);((try simp only[nc,cl]at*)<;>grind))
def aip(v:V):Bool:=
 ((v.kind==1||v.kind==2||v.kind==6||v.kind==7||v.kind==3)||v.int==0)&&(v.kind==3||v.scale==0)&&((v.kind==4||v.kind==5||v.kind==10)||v.text.size==0) &&
   ((v.kind==8||v.kind==10)||v.list.length==0)&&(v.kind==9||v.fields.length==0)
def uses_ok(d:Nat)(v:V):Af Tryz.prog 149 [encV d .any fun _=>v] [] (.bool fun _=>aip v) []:=by
 (refine fB [.tmp 2] kp149 [] Tryz.func149 fun _=>?_;repeat' with_reducible first|exact⟨⟩|refine mA ?_ ?_|refine mC (fun _=>?_) fun _=>?_)
 all_goals(simp only[aip];((((try simp only[nc,cl]at*)<;>(try rw[Bool.eq_iff_iff]))<;>(try simp only[bl,false_iff,true_iff,iff_true,iff_false,aja,ajb,ne_eq,Decidable.not_not]at*))<;>(first|omega|grind)))
def fI(f:Nat->Int):Nat->Int
 | 0=>0
 | n+1=>if fI f n≠0 then fI f n else f n
theorem ad7{f:Nat->Int}:∀{n i:Nat},i<=n->fI f n=0->fI f i=0
 | 0,i,h,e=>by rw[Nat.le_zero.1 h];exact e
 | n+1,i,h,e=>by
  rcases Nat.lt_or_eq_of_le h with h|rfl
  ·refine ad7 (Nat.le_of_lt_succ h) ?_;simp only[fI]at e;split at e
   ·exact e
   ·rename_i q;simpa using q
  ·exact e
theorem aeX{f:Nat->Int}:∀{n i:Nat},i<n->fI f i=0->f i≠0->fI f n=f i
 | 0,i,h,_,_=>by omega
 | n+1,i,h,e,q=>by
  rcases Nat.lt_succ_iff_lt_or_eq.1 h with h|rfl
  ·have:=aeX h e q;simp only[fI,this];rw[if_pos q]
  ·simp[fI,e]
def first_ok(n:Nat)(f:Nat->Int)(hn:n<=1000):Af Tryz.prog 204 [.aref 1000 0 fun _=>n] [(1000,.arr false 28 1 0 (fun _=>n) fun i=>[.int .i64 fun _=>f (i ())])] (.int .i64 fun _=>fI f n) [(1000,.arr false 28 1 0 (fun _=>n) fun i=>[.int .i64 fun _=>f (i ())])]:=by
 (refine fB [.tmp 2] kp204 [] Tryz.func204 fun _=>?_;repeat' with_reducible first|exact⟨⟩|refine mA ?_ ?_|refine mC (fun _=>?_) fun _=>?_)
 refine .loop (fun i:Nat=>⟨15,[(7,.int .i64 fun _=>i),(6,.int .i64 fun _=>n),(5,.aref 1000 0 fun _=>n)],[(1000,.arr false 28 1 0 (fun _=>n) fun i=>[.int .i64 fun _=>f (i ())])]⟩) (fun i=>i<=n∧fI f i=0) (fun i=>n-i) 0 (by simp[fI]) ?_ fun i E hi=>?_
 ·exact aZ
 refine AWp.wk tF mF [] kp204 ?_
 ((refine oA ?_;repeat' with_reducible first|exact⟨⟩|refine mA ?_ ?_|refine mC (fun _=>?_) fun _=>?_);(all_goals try first|exact eZ|(refine qC ?_;repeat' with_reducible first|exact⟨⟩|refine mA ?_ ?_)))
 ·exact(aeX ‹_› hi.2 ‹_›).symm
 ·refine dE (i+1) ⟨⟨by omega,by simp_all[fI]⟩,by omega⟩ ?_
  (focus(refine aQ ?_;repeat' first|with_reducible apply And.intro|exact wZ|fail))
  exact w64n (by omega)
 ·have:i=n:=by have:=hi.1;omega
  rw[<- this];exact hi.2.symm
def rule3_ok(d:Nat)(v:V):Af Tryz.prog 203 [encV d .any fun _=>v] [] (.int .i64 fun _=>if between v.int (-999999999999999) 999999999999999≠0 then between v.int (-999999999999999) 999999999999999 else between v.scale 0 12) []:=by
 (apply Af.of tF mF [.tmp 2] kp203 [(1,[(2,.int .i64 (fun _=>?r1),[]),(5,.int .i64 (fun _=>?r2),[]),(7,.int .i64 (fun _=>?r3),[(1000,.arr false 28 1 0 (fun _=>2) ?r4)])])] Tryz.func203 (fun _=>?_);(repeat' with_reducible first|exact nY|refine oC ?_ ?_|refine vQ ?_ ?_ ?_|refine cV (fun _=>?_) fun _=>?_|refine wQ ?_|fail))
 (any_goals((with_reducible refine bZ ?_)<;>exact(ac0 _ _ _)))
 rotate_left 2
 ·refine nO ?_;have q:=first_ok 2 (fun i=>if i=0 then between v.int (-999999999999999) 999999999999999 else between v.scale 0 12) (by decide);dsimp only;refine Af.wN (objs2:=[(1000,.arr false 28 1 0 (fun _=>2) fun i=>[.int .i64 fun _=>if i ()=0 then between v.int (-999999999999999) 999999999999999 else between v.scale 0 12])]) (args2:=[.aref 1000 0 fun _=>2]) ?_ ?_
  ·exact q
  (focus(refine aQ ?_;repeat' first|with_reducible apply And.intro|exact wZ|fail))
  intro i hi;have:i=0∨i=1:=by omega
  rcases this with rfl|rfl<;>exact LeL.of_eq rfl
 (all_goals try first|exact eZ|with_reducible (refine rQ ?_;repeat' first|apply And.intro|exact wZ)|(refine sQ ?_;repeat' first|with_reducible apply And.intro|exact cZ))
 ·simp[fI]
def rule1_ok(d:Nat)(v:V):Af Tryz.prog 200 [encV d .any fun _=>v] [] (.int .i64 fun _=>between v.int 0 1) []:=by
 (apply Af.of tF mF [.tmp 2] kp200 [(1,[(2,.int .i64 (fun _=>?r1),[])])] Tryz.func200 (fun _=>?_);(repeat' with_reducible first|exact nY|refine oC ?_ ?_|refine vQ ?_ ?_ ?_|refine cV (fun _=>?_) fun _=>?_|refine wQ ?_|fail))
 (any_goals((with_reducible refine bZ ?_)<;>exact(ac0 _ _ _)))
 all_goals exact eZ
def rule2_ok(d:Nat)(v:V):Af Tryz.prog 202 [encV d .any fun _=>v] [] (.int .i64 fun _=>between v.int (-999999999999999) 999999999999999) []:=by
 (apply Af.of tF mF [.tmp 2] kp202 [(1,[(2,.int .i64 (fun _=>?r1),[])])] Tryz.func202 (fun _=>?_);(repeat' with_reducible first|exact nY|refine oC ?_ ?_|refine vQ ?_ ?_ ?_|refine cV (fun _=>?_) fun _=>?_|refine wQ ?_|fail))
 (any_goals((with_reducible refine bZ ?_)<;>exact(ac0 _ _ _)))
 all_goals exact eZ
def rule6_ok(d:Nat)(v:V):Af Tryz.prog 209 [encV d .any fun _=>v] [] (.int .i64 fun _=>between v.int (-719162) 2932896) []:=by
 (apply Af.of tF mF [.tmp 2] kp209 [(1,[(2,.int .i64 (fun _=>?r1),[])])] Tryz.func209 (fun _=>?_);(repeat' with_reducible first|exact nY|refine oC ?_ ?_|refine vQ ?_ ?_ ?_|refine cV (fun _=>?_) fun _=>?_|refine wQ ?_|fail))
 (any_goals((with_reducible refine bZ ?_)<;>exact(ac0 _ _ _)))
 all_goals exact eZ
def rule7_ok(d:Nat)(v:V):Af Tryz.prog 210 [encV d .any fun _=>v] [] (.int .i64 fun _=>between v.int (-62135596800000) 253402300799999) []:=by
 (apply Af.of tF mF [.tmp 2] kp210 [(1,[(2,.int .i64 (fun _=>?r1),[])])] Tryz.func210 (fun _=>?_);(repeat' with_reducible first|exact nY|refine oC ?_ ?_|refine vQ ?_ ?_ ?_|refine cV (fun _=>?_) fun _=>?_|refine wQ ?_|fail))
 (any_goals((with_reducible refine bZ ?_)<;>exact(ac0 _ _ _)))
 all_goals exact eZ
def rule5_ok(d:Nat)(v:V):Af Tryz.prog 208 [encV d .any fun _=>v] [] (.int .i64 fun _=>abT v.text.size 1024 5) []:=by
 (apply Af.of tF mF [.tmp 2] kp208 [(1,[(3,.int .i64 (fun _=>?r1),[])])] Tryz.func208 (fun _=>?_);(repeat' with_reducible first|exact nY|refine oC ?_ ?_|refine vQ ?_ ?_ ?_|refine cV (fun _=>?_) fun _=>?_|refine wQ ?_|fail))
 (any_goals((with_reducible refine bZ ?_)<;>exact(adi _ _ _)))
 all_goals exact eZ
def ajy(v:V):Int:=if isName v.text=false then 12 else if v.list.length=0 then 4 else abT v.list.length 1 3
def parts_ok(d:Nat)(v:V)(hv:V.le (d+1) v):Af Tryz.prog 247 [encV (d+1) .any fun _=>v] [] (slcV d .any fun _=>kz v) []:=by
 have hf:=hv.2.1
 (refine fA [.tmp 2] kp247 [] Tryz.func247 fun _=>?_;repeat' with_reducible first|exact⟨⟩|refine mA ?_ ?_|refine mC (fun _=>?_) fun _=>?_)
 all_goals(try(exfalso;omega))
 (all_goals try first|exact eZ|(refine qC ?_;repeat' with_reducible first|exact⟨⟩|refine mA ?_ ?_))
 all_goals first
  | (simp[kz, *];done)
  | exact fun i hi=>ak8 (by simp[kz, *])
  | skip
 have hk:kz v=v.fields.map (·.2):=by simp[kz, *]
 refine .loop (fun i:Nat=>⟨29,[(18,.int .i64 fun _=>i),(17,.int .i64 fun _=>v.fields.length),(16,.slc .any 7 (fun _=>v.fields.length) fun i=>.str (fun _=>(v.fields.getD (i ()) default).1)::cells d .any fun _=>(v.fields.getD (i ()) default).2),(3,.aref 26 0 fun _=>i)],
  [(26,.arr false 56 6 0 (fun _=>i) fun j=>cells d .any fun _=>(v.fields.getD (j ()) default).2)]⟩)
  (fun i=>i<=v.fields.length) (fun i=>v.fields.length-i) 0 (by simp) ?_ fun i E hi=>?_
 ·exact aZ
 apply AWp.wk tF mF [] kp247 ?_
 (refine oB ?_;repeat' with_reducible first|exact⟨⟩|refine mA ?_ ?_|refine mC (fun _=>?_) fun _=>?_)
 ·refine dE (i+1) ⟨by omega,by omega⟩ ?_
  (focus(refine aQ ?_;repeat' first|with_reducible apply And.intro|exact wZ|fail))
  ·exact w64n (by omega)
  ·refine cat_le (n:=fun _=>i) (m:=1) (F:=fun j=>cells d .any fun _=>(v.fields.getD (j ()) default).2) (fun k hk=>LeL.of_eq rfl) (fun k hk=>?_);have:k=0:=by omega
   subst this;exact LeL.of_eq rfl
 ·rw[hk];simp;omega
 ·intro j hj;refine ak8 ?_;rw[hk];simp only[List.getD_eq_getElem?_getD,List.getElem?_map];cases v.fields[j]? <;> rfl
end Go.Ai
