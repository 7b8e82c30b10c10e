/- Chapter 4: nulls, names, the rules of the kinds. -/
import Derived.Test.YtbagpkiomjlhkaaGreatDoorEngC
import Derived.Test.YtbagpkiomjlhkaaGreatDoorV
set_option linter.all false
namespace Go.Ai
open Go Go.Proofs Tryz
set_option maxRecDepth 100000
set_option maxHeartbeats 4000000
def IS(d:Nat)(v:V):Af prog 100 [aK d .any fun _=>v] [] (.bool fun _=>isNull v) []:=by
 (refine fB [.tmp 2] Q4 [] func100 fun _=>?_;repeat' first|exact⟨⟩|apply mA|apply mC<;>intro)
 rw[mQ];simp[isNull,mY]
def Dt(s:ByteArray):isName s=true↔0<s.size∧s.size<=32∧(97<=ad s 0∧ad s 0<=122)∧∀j,j<s.size->rl (ad s j)=true:=by
 simp only[isName,az,bne_iff_ne,cX,cI,qK,mT,and_assoc,Nat.pos_iff_ne_zero]
def IT{s:ByteArray}(h:¬(0<s.size∧s.size<=32∧(97<=ad s 0∧ad s 0<=122)∧∀j,j<s.size->rl (ad s j)=true)):false=isName s:=by
 rw[<- Dt]at h;simpa using h
def Du(s:ByteArray)(hs:s.size<=35184372088832):Af prog 146 [.str fun _=>s] [] (.bool fun _=>isName s) []:=by
 (refine fB [.tmp 2] IU [] func146 fun _=>?_;repeat' first|exact⟨⟩|apply mA|apply mC<;>intro)
 ·exact IT (by simp only[ad];rw[show Int.toNat 0=0 from rfl]at*;((((try simp only[nc,cl]at*)<;>(try rw[mQ]))<;>(try simp only[bl,uU,uV,uW,uX,qc,qd,mT,gr]at*))<;>(first|omega|grind)))
 refine .loop (fun i:Nat=>⟨48,[(25,.int .i64 fun _=>i),(24,.int .i64 fun _=>s.size),(23,.slc .any 1 (fun _=>s.size) fun i=>[.int .u8 fun _=>((s.data[i ()]?).getD 0).toNat])],[]⟩)
  (fun i=>i<=s.size∧∀j,j<i->rl (ad s j)=true) (fun i=>s.size-i) 0 zsi ?_ fun i E hi=>?_
 ·exact aZ
 apply af.wk tF mF [] IU ?_
 (refine oB ?_;repeat' first|exact⟨⟩|apply mA|apply mC<;>intro)
 ·have q:=‹_∧¬_=(95:Int)›
  refine IT fun z=>?_;have:=z.2.2.2 i ‹_›;simp only[rl,ad]at this
  ((((try simp only[nc,cl]at*)<;>(try rw[mQ]))<;>(try simp only[bl,uU,uV,uW,uX,qc,qd,mT,gr]at*))<;>(first|omega|grind))
 ·have q:=‹_∨_=(95:Int)›
  refine dE (i+1) ⟨⟨zo,fun j hj=>?_⟩,zo⟩ ?_
  ·rcases Bf.1 hj with hj|rfl
   ·exact hi.2 j hj
   ·simp only[rl,ad];((((try simp only[nc,cl]at*)<;>(try rw[mQ]))<;>(try simp only[bl,uU,uV,uW,uX,qc,qd,mT,gr]at*))<;>(first|omega|grind))
  ·(focus(refine aQ ?_;repeat' first|with_reducible apply ai|exact wZ|fail))
   exact aS zo
 ·have hc:=‹(_∧_)∧_›
  rw[show Int.toNat 0=0 from rfl]at hc;exact((Dt s).2 ⟨zo,zo,⟨hc.1.2,hc.2⟩,fun j hj=>hi.2 j zo⟩).symm
def between(n lo hi:Int):Int:=if n<lo∨hi<n then 2 else 0
def wE(n lo hi:Int):Af prog 201 [.int .i64 fun _=>n,.int .i64 fun _=>lo,.int .i64 fun _=>hi] [] (.int .i64 fun _=>between n lo hi) []:=by
 (refine fB [.tmp 6] Q5 [] func201 fun _=>?_;repeat' first|exact⟨⟩|apply mA|apply mC<;>intro)
 all_goals((try simp only[between]);((try simp only[nc,cl]at*)<;>grind))
def fQ(n most e:Int):Int:=if most<n then e else 0
def wF(n most e:Int):Af prog 206 [.int .i64 fun _=>n,.int .i64 fun _=>most,.int .i64 fun _=>e] [] (.int .i64 fun _=>fQ n most e) []:=by
 (refine fB [.tmp 6] Q6 [] func206 fun _=>?_;repeat' first|exact⟨⟩|apply mA|apply mC<;>intro)
 all_goals((try simp only[fQ]);((try simp only[nc,cl]at*)<;>grind))
def ou(v:V):Bool:=
 ((v.kind==1||v.kind==2||v.kind==6||v.kind==7||v.kind==3)||v.int==0)&&(v.kind==3||v.scale==0)&&((v.kind==4||v.kind==5||v.kind==10)||v.text.size==0) &&
   ((v.kind==8||v.kind==10)||v.list.length==0)&&(v.kind==9||v.fields.length==0)
def Q7(d:Nat)(v:V):Af prog 149 [aK d .any fun _=>v] [] (.bool fun _=>ou v) []:=by
 (refine fB [.tmp 2] Q8 [] func149 fun _=>?_;repeat' first|exact⟨⟩|apply mA|apply mC<;>intro)
 all_goals(simp only[ou];((((try simp only[nc,cl]at*)<;>(try rw[mQ]))<;>(try simp only[bl,uU,uV,uW,uX,qc,qd,mT,gr]at*))<;>(first|omega|grind)))
def fI(f:Nat->Int):Nat->Int
 | 0=>0
 | n+1=>if fI f n≠0 then fI f n else f n
theorem Dv{f:Nat->Int}:∀{n i:Nat},i<=n->fI f n=0->fI f i=0
 | 0,i,h,e=>by rw[Nat.le_zero.1 h];exact e
 | n+1,i,h,e=>by
  rcases Nat.lt_or_eq_of_le h with h|rfl
  ·refine Dv (Nat.le_of_lt_succ h) ?_;simp only[fI]at e;split at e
   ·exact e
   ·rename_i q;simpa using q
  ·exact e
theorem zA{f:Nat->Int}:∀{n i:Nat},i<n->fI f i=0->f i≠0->fI f n=f i
 | 0,i,h,_,_=>zo
 | n+1,i,h,e,q=>by
  rcases Bf.1 h with h|rfl
  ·have:=zA h e q;simp only[fI,this];rw[ae q]
  ·simp[fI,e]
def Q9(n:Nat)(f:Nat->Int)(hn:n<=1000):Af prog 204 [.aJ 1000 0 fun _=>n] [(1000,.arr false 28 1 0 (fun _=>n) fun i=>[.int .i64 fun _=>f (i ())])] (.int .i64 fun _=>fI f n) [(1000,.arr false 28 1 0 (fun _=>n) fun i=>[.int .i64 fun _=>f (i ())])]:=by
 (refine fB [.tmp 2] IV [] func204 fun _=>?_;repeat' first|exact⟨⟩|apply mA|apply mC<;>intro)
 refine .loop (fun i:Nat=>⟨15,[(7,.int .i64 fun _=>i),(6,.int .i64 fun _=>n),(5,.aJ 1000 0 fun _=>n)],[(1000,.arr false 28 1 0 (fun _=>n) fun i=>[.int .i64 fun _=>f (i ())])]⟩) (fun i=>i<=n∧fI f i=0) (fun i=>n-i) 0 (by simp[fI]) ?_ fun i E hi=>?_
 ·exact aZ
 refine af.wk tF mF [] IV ?_
 ((refine oA ?_;repeat' first|exact⟨⟩|apply mA|apply mC<;>intro);(all_goals try first|exact eZ|(refine qC ?_;repeat' first|exact⟨⟩|apply mA)))
 ·exact(zA ‹_› hi.2 ‹_›).symm
 ·refine dE (i+1) ⟨⟨zo,by simp_all[fI]⟩,zo⟩ ?_
  (focus(refine aQ ?_;repeat' first|with_reducible apply ai|exact wZ|fail))
  exact aS zo
 ·have:i=n:=by have:=hi.1;omega
  rw[<- this];exact hi.2.symm
def Ra(d:Nat)(v:V):Af prog 203 [aK d .any fun _=>v] [] (.int .i64 fun _=>if between v.int (-999999999999999) 999999999999999≠0 then between v.int (-999999999999999) 999999999999999 else between v.scale 0 12) []:=by
 (apply Af.of tF mF [.tmp 2] Rb [(1,[(2,.int .i64 (fun _=>?r1),[]),(5,.int .i64 (fun _=>?r2),[]),(7,.int .i64 (fun _=>?r3),[(1000,.arr false 28 1 0 (fun _=>2) ?r4)])])] func203 (fun _=>?_);(repeat' with_reducible first|exact nY|refine oC ?_ ?_|refine vQ ?_ ?_ ?_|refine cV (fun _=>?_) fun _=>?_|refine wQ ?_|fail))
 (any_goals((with_reducible refine bZ ?_)<;>exact(wE _ _ _)))
 rotate_left 2
 ·refine nO ?_;have q:=Q9 2 (fun i=>if i=0 then between v.int (-999999999999999) 999999999999999 else between v.scale 0 12) zd;dsimp only;refine Af.wN (iR:=[(1000,.arr false 28 1 0 (fun _=>2) fun i=>[.int .i64 fun _=>if i ()=0 then between v.int (-999999999999999) 999999999999999 else between v.scale 0 12])]) (args2:=[.aJ 1000 0 fun _=>2]) ?_ ?_
  ·exact q
  (focus(refine aQ ?_;repeat' first|with_reducible apply ai|exact wZ|fail))
  intro i hi;have:i=0∨i=1:=zo
  rcases this with rfl|rfl<;>exact aD.of_eq rfl
 (all_goals try first|exact eZ|with_reducible (refine rQ ?_;repeat' first|apply ai|exact wZ)|(refine sQ ?_;repeat' first|with_reducible apply ai|exact cZ))
 ·simp[fI]
def Rc(d:Nat)(v:V):Af prog 200 [aK d .any fun _=>v] [] (.int .i64 fun _=>between v.int 0 1) []:=by
 (apply Af.of tF mF [.tmp 2] Re [(1,[(2,.int .i64 (fun _=>?r1),[])])] func200 (fun _=>?_);(repeat' with_reducible first|exact nY|refine oC ?_ ?_|refine vQ ?_ ?_ ?_|refine cV (fun _=>?_) fun _=>?_|refine wQ ?_|fail))
 (any_goals((with_reducible refine bZ ?_)<;>exact(wE _ _ _)))
 all_goals exact eZ
def Rf(d:Nat)(v:V):Af prog 202 [aK d .any fun _=>v] [] (.int .i64 fun _=>between v.int (-999999999999999) 999999999999999) []:=by
 (apply Af.of tF mF [.tmp 2] Rg [(1,[(2,.int .i64 (fun _=>?r1),[])])] func202 (fun _=>?_);(repeat' with_reducible first|exact nY|refine oC ?_ ?_|refine vQ ?_ ?_ ?_|refine cV (fun _=>?_) fun _=>?_|refine wQ ?_|fail))
 (any_goals((with_reducible refine bZ ?_)<;>exact(wE _ _ _)))
 all_goals exact eZ
def Rh(d:Nat)(v:V):Af prog 209 [aK d .any fun _=>v] [] (.int .i64 fun _=>between v.int (-719162) 2932896) []:=by
 (apply Af.of tF mF [.tmp 2] Ri [(1,[(2,.int .i64 (fun _=>?r1),[])])] func209 (fun _=>?_);(repeat' with_reducible first|exact nY|refine oC ?_ ?_|refine vQ ?_ ?_ ?_|refine cV (fun _=>?_) fun _=>?_|refine wQ ?_|fail))
 (any_goals((with_reducible refine bZ ?_)<;>exact(wE _ _ _)))
 all_goals exact eZ
def Rj(d:Nat)(v:V):Af prog 210 [aK d .any fun _=>v] [] (.int .i64 fun _=>between v.int (-62135596800000) 253402300799999) []:=by
 (apply Af.of tF mF [.tmp 2] Rk [(1,[(2,.int .i64 (fun _=>?r1),[])])] func210 (fun _=>?_);(repeat' with_reducible first|exact nY|refine oC ?_ ?_|refine vQ ?_ ?_ ?_|refine cV (fun _=>?_) fun _=>?_|refine wQ ?_|fail))
 (any_goals((with_reducible refine bZ ?_)<;>exact(wE _ _ _)))
 all_goals exact eZ
def Rl(d:Nat)(v:V):Af prog 208 [aK d .any fun _=>v] [] (.int .i64 fun _=>fQ v.text.size 1024 5) []:=by
 (apply Af.of tF mF [.tmp 2] Rm [(1,[(3,.int .i64 (fun _=>?r1),[])])] func208 (fun _=>?_);(repeat' with_reducible first|exact nY|refine oC ?_ ?_|refine vQ ?_ ?_ ?_|refine cV (fun _=>?_) fun _=>?_|refine wQ ?_|fail))
 (any_goals((with_reducible refine bZ ?_)<;>exact(wF _ _ _)))
 all_goals exact eZ
def Rn(d:Nat)(v:V):Af prog 211 [aK d .any fun _=>v] [] (.int .i64 fun _=>fQ v.list.length 256 9) []:=by
 (apply Af.of tF mF [.tmp 2] Ro [(1,[(3,.int .i64 (fun _=>?r1),[])])] func211 (fun _=>?_);(repeat' with_reducible first|exact nY|refine oC ?_ ?_|refine vQ ?_ ?_ ?_|refine cV (fun _=>?_) fun _=>?_|refine wQ ?_|fail))
 (any_goals((with_reducible refine bZ ?_)<;>exact(wF _ _ _)))
 all_goals exact eZ
def zE(v:V):Int:=if isName v.text=false then 12 else if v.list.length=0 then 4 else fQ v.list.length 1 3
def Rp(d:Nat)(v:V)(hs:v.text.size<=35184372088832):Af prog 213 [aK d .any fun _=>v] [] (.int .i64 fun _=>zE v) []:=by
 (apply Af.of tF mF [.tmp 2] Rq [(1,[(2,.bool (fun _=>?r1),[])]),(5,[(3,.int .i64 (fun _=>?r2),[])])] func213 (fun _=>?_);(repeat' with_reducible first|exact nY|refine oC ?_ ?_|refine vQ ?_ ?_ ?_|refine cV (fun _=>?_) fun _=>?_|refine wQ ?_|fail))
 (any_goals((with_reducible refine bZ ?_)<;>exact(Du _ hs)))
 (any_goals((with_reducible refine bZ ?_)<;>exact(wF _ _ _)))
 (all_goals try first|exact eZ|with_reducible (refine rQ ?_;repeat' first|apply ai|exact wZ)|(refine sQ ?_;repeat' first|with_reducible apply ai|exact cZ))
 all_goals((try simp only[zE]);((try simp only[nc,cl]at*)<;>grind))
def Rr(d:Nat)(v:V)(hv:V.le (d+1) v):Af prog 247 [aK (d+1) .any fun _=>v] [] (gH d .any fun _=>kz v) []:=by
 have hf:=hv.2.1
 (refine fA [.tmp 2] IW [] func247 fun _=>?_;repeat' first|exact⟨⟩|apply mA|apply mC<;>intro)
 all_goals(try(exfalso;omega))
 (all_goals try first|exact eZ|(refine qC ?_;repeat' first|exact⟨⟩|apply mA))
 all_goals first
  | (simp[kz, *];done)
  | exact fun i hi=>IX (by simp[kz, *])
  | skip
 have hk:kz v=v.fields.map (·.2):=by simp[kz, *]
 refine .loop (fun i:Nat=>⟨29,[(18,.int .i64 fun _=>i),(17,.int .i64 fun _=>v.fields.length),(16,.slc .any 7 (fun _=>v.fields.length) fun i=>.str (fun _=>(v.fields.getD (i ()) default).1)::cells d .any fun _=>(v.fields.getD (i ()) default).2),(3,.aJ 26 0 fun _=>i)],
  [(26,.arr false 56 6 0 (fun _=>i) fun j=>cells d .any fun _=>(v.fields.getD (j ()) default).2)]⟩)
  (fun i=>i<=v.fields.length) (fun i=>v.fields.length-i) 0 zsi ?_ fun i E hi=>?_
 ·exact aZ
 apply af.wk tF mF [] IW ?_
 (refine oB ?_;repeat' first|exact⟨⟩|apply mA|apply mC<;>intro)
 ·refine dE (i+1) ⟨zo,zo⟩ ?_
  (focus(refine aQ ?_;repeat' first|with_reducible apply ai|exact wZ|fail))
  ·exact aS zo
  ·refine PY (n:=fun _=>i) (m:=1) (F:=fun j=>cells d .any fun _=>(v.fields.getD (j ()) default).2) (fun k hk=>aD.of_eq rfl) (fun k hk=>?_);have:k=0:=by omega
   subst this;exact aD.of_eq rfl
 ·rw[hk];simp;omega
 ·intro j hj;refine IX ?_;rw[hk];simp only[cz,gC];cases v.fields[j]? <;> rfl
end Go.Ai
