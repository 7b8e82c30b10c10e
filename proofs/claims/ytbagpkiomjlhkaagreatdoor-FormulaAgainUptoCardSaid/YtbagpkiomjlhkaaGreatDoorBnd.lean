/- Chapter 17: the printer: symbols of operations. -/
import Derived.Test.YtbagpkiomjlhkaaGreatDoorLexA
import Derived.Test.YtbagpkiomjlhkaaGreatDoorEngC
set_option linter.all false
namespace Go.Ai
open Go Go.Proofs Tryz
set_option maxRecDepth 100000
set_option maxHeartbeats 4000000
def unseen(n:Nat)(l:List Nat):Nat:=((List.range n).filter fun i=>decide (i∉l)).length
def Bo{n:Nat}{l:List Nat}{i:Nat}(h1:i<n)(h2:i∉l):unseen n (l++[i])<unseen n l:=by
 unfold unseen;have e:(List.range n).filter (fun j=>decide (j∉l++[i]))=((List.range n).filter fun j=>decide (j∉l)).filter fun j=>decide (j≠i):=by
  rw[List.filter_filter];refine List.filter_congr fun j _=>?_;by_cases q1:j∈l<;>by_cases q2:j=i<;>simp[q1,q2]
 rw[e];refine List.length_filter_lt_length_iff_exists.2 ⟨i,?_,zsi⟩;simp[h1,h2]
def gU(op:Int)(b:Nat):ByteArray:=((opsL b).find? fun p=>p.2==op).elim ⟨#[]⟩ (·.1)
def MJ{op:Int}{b i:Nat}(hb:b<10)(hi:i<(opsL b).length)(h:((opsL b).getD i default).2=op):((opsL b).map (·.1)).getD i ⟨#[]⟩=gU op b:=by
 have key:∀b,b<10->∀i,i<(opsL b).length->((opsL b).map (·.1)).getD i ⟨#[]⟩=gU ((opsL b).getD i default).2 b:=zd
 rw[<- h];exact key b hb i hi
def MK{op:Int}{b:Nat}(h:∀i,i<(opsL b).length->((opsL b).getD i default).2≠op):gU op b=⟨#[]⟩:=by
 have:(opsL b).find? (fun p=>p.2==op)=none:=by
  rw[Ft];intro p hp;obtain⟨i,hi,rfl⟩:=sD hp;have:=h i hi;simpa[List.getD,hi]using this
 unfold gU;rw[this];rfl
def F0(op:Int)(b:Nat)(hb:b<10):Af prog 88 [.int .i64 fun _=>op,.int .i64 fun _=>(b:Int)] [] (.str fun _=>gU op b) []:=by
 obtain⟨O,hO,h1⟩:=yc;have hat:=fun i=>MJ (op:=op) (b:=b) (i:=i) hb;have hno:=MK (op:=op) (b:=b);rw[<- hO]at hat hno;generalize gU op b=z at*;clear hO
 (apply Af.of tF mF [.tmp 4] Bp [(1,[(0,pj O,[])])] func88 (fun _=>?_);(repeat' with_reducible first|exact nY|refine oC ?_ ?_|refine vQ ?_ ?_ ?_|refine cV (fun _=>?_) fun _=>?_|(apply Ca.mk<;>intro _)|refine wQ ?_|fail))
 all_goals try exact zB
 all_goals try exact eZ
 refine .loop (fun seen:List Nat=>⟨20,[(10,.ptr 10 0),(0,.int .i64 fun _=>op)],[(10,.it (fun _=>(O b).map (·.1)) (fun i=>.int .i64 fun _=>((O b).getD (i ()) default).2) (fun _=>seen) false)]⟩)
  (fun seen=>∀i∈seen,((O b).getD i default).2≠op) (fun seen=>unseen (O b).length seen) [] (fun i hi=>by cases hi) ?_ fun seen E hs=>?_
 ·exact aZ
 generalize O b=L at*;apply af.mW tF mF 2 [] Bp ?_
 (any_goals((with_reducible refine Bq ?_);cbv;(try dsimp only[nc]at*);(repeat' with_reducible first|exact‹False›.elim|exact nZ|refine oC ?_ ?_|refine vQ ?_ ?_ ?_|refine cV (fun _=>?_) fun _=>?_|(apply Ca.mk<;>intro _)|fail)))
 ·refine iJ.pick tF mF (fun _=>[]) Bp 10 rfl ‹_› (fun i hi hn=>?_)
  (repeat' with_reducible first|exact nY|refine oC ?_ ?_|refine vQ ?_ ?_ ?_|refine cV (fun _=>?_) fun _=>?_|(apply Ca.mk<;>intro _)|refine wQ ?_|fail)
  all_goals(try simp only[List.getLastD_concat,kr]at*)
  (all_goals try first|exact eZ|with_reducible (refine rQ ?_;repeat' first|apply ai|exact wZ)|(refine sQ ?_;repeat' first|with_reducible apply ai|exact cZ))
  ·exact hat i hi ‹_›
  ·refine dE (ι:=List Nat) (μ:=fun seen=>unseen L.length seen) (i:=seen) (seen++[i]) ⟨fun j hj=>?_,Bo hi hn⟩ ?_
   ·rcases gB.1 hj with hj|hj
    ·exact hs j hj
    ·rw[dD.1 hj];assumption
   ·exact aZ
 ·(any_goals(repeat' with_reducible first|exact‹False›.elim|exact nZ|refine oC ?_ ?_|refine vQ ?_ ?_ ?_|refine cV (fun _=>?_) fun _=>?_|(apply Ca.mk<;>intro _)|refine oQ ?_|fail))
  (all_goals try first|exact eZ|with_reducible (refine rQ ?_;repeat' first|apply ai|exact wZ)|(refine sQ ?_;repeat' first|with_reducible apply ai|exact cZ))
  rename_i hall;exact(hno fun i hi=>hs i (hall i (by rw[kr];exact hi))).symm
def lY(op:Int):Nat->Nat->Int
 | 0,_=>9
 | n+1,j=>if(opsL j).any (fun p=>p.2==op)=true then j else lY op n (j+1)
def aE(op:Int):Int:=if op=3 then 3 else if op=25 then 4 else if op=16 then 8 else lY op 10 0
def ML{op:Int}{n j:Nat}{Z:Int}{L:List (ByteArray×Int)}(e:L=opsL j){i:Nat}(hi:i<L.length)(h:(L.getD i default).2=op)(hZ:lY op (n+1) j=Z):(j:Int)=Z:=by
 subst e;have:(opsL j).any (fun p=>p.2==op)=true:=by
  rw[o9];exact⟨(opsL j).getD i default,by simp only[List.getD,bf hi];exact d9 hi,by simpa using h⟩
 rw[lY,ae this]at hZ;exact hZ
def MM{op:Int}{n j:Nat}{Z:Int}{L:List (ByteArray×Int)}(e:L=opsL j)(h:∀i,i<L.length->(L.getD i default).2≠op)(hZ:lY op (n+1) j=Z):lY op n (j+1)=Z:=by
 subst e;have:¬(opsL j).any (fun p=>p.2==op)=true:=by
  rw[o9];rintro⟨p,hp,hq⟩;obtain⟨i,hi,rfl⟩:=sD hp;exact h i hi (by simpa[List.getD,hi]using hq)
 rw[lY,aa this]at hZ;exact hZ
def Br(op:Int):AO:=.box [.int .i64 fun _=>op,.any,.any,.any,.any]
def nN(x:X)(e D:Nat):Af prog 86 [aq (e+1) D .any fun _=>x] [] (.int .i64 fun _=>aE x.op) []:=by
 obtain⟨O,hO,h1⟩:=yc;obtain⟨Z,hZ⟩:∃Z,Z=aE x.op:=⟨_,rfl⟩
 rw[<- hZ];unfold aE at hZ;generalize hF:(lY x.op)=F at*
 (apply Af.of tF mF [.tmp 2] vd [(8,[(0,pj O,[])])] func86 (fun _=>?_);(repeat' with_reducible first|exact nY|refine oC ?_ ?_|refine vQ ?_ ?_ ?_|refine cV (fun _=>?_) fun _=>?_|(apply Ca.mk<;>intro _)|refine wQ ?_|fail))
 all_goals try exact zB
 (all_goals try first|exact eZ|with_reducible (refine rQ ?_;repeat' first|apply ai|exact wZ)|(refine sQ ?_;repeat' first|with_reducible apply ai|exact cZ))
 all_goals(try first|(rw[hZ,ae ‹_›];done)|(rw[hZ,aa ‹_›,ae ‹_›];done)|(rw[hZ,aa ‹_›,aa ‹_›,ae ‹_›];done))
 rw[aa ‹_›,aa ‹_›,aa ‹_›]at hZ;refine .loop (fun j:Nat=>⟨32,[(16,.int .i64 fun _=>(j:Int)),(15,pj O),(1,.ptr 1 0)],[(1,Br x.op)]⟩)
  (fun j=>j<=10∧F (10-j) j=Z) (fun j=>10-j) 0 ⟨aB _,hZ.symm⟩ ?_ fun j E hj=>?_
 ·exact aZ
 obtain⟨j1,j2⟩:=hj;clear hZ;obtain⟨op,hop⟩:∃op,op=x.op:=⟨_,rfl⟩
 rw[<- hop]at hF ⊢;clear hop;by_cases c:j<10
 ·obtain⟨n,hn⟩:∃n,10-j=n+1:=⟨9-j,zo⟩
  rw[hn,<- hF]at j2;obtain⟨L,hL⟩:∃L,L=O j:=⟨_,rfl⟩
  have eL:L=opsL j:=by rw[hL,hO]
  apply af.wk tF mF [] vd ?_
  (repeat' with_reducible first|exact nY|refine oC ?_ ?_|refine vQ ?_ ?_ ?_|refine cV (fun _=>?_) fun _=>?_|(apply Ca.mk<;>intro _)|refine wQ ?_|fail)
  all_goals(try simp only[bu,<- hL])
  all_goals(try(exfalso;omega))
  (all_goals try first|exact eZ|with_reducible (refine rQ ?_;repeat' first|apply ai|exact wZ)|(refine sQ ?_;repeat' first|with_reducible apply ai|exact cZ))
  refine .loop (fun seen:List Nat=>⟨32,[(21,.ptr 21 0),(3,.int .i64 fun _=>(j:Int)),(16,.int .i64 fun _=>(j:Int)),(15,pj O),(1,.ptr 1 0)],[(21,.it (fun _=>L.map (·.1)) (fun i=>.int .i64 fun _=>(L.getD (i ()) default).2) (fun _=>seen) false),(1,Br op)]⟩)
   (fun seen=>∀i∈seen,i<L.length∧(L.getD i default).2≠op) (fun seen=>unseen L.length seen) [] (fun i hi=>by cases hi) ?_ fun seen E hs=>?_
  ·exact aZ
  clear hL h1;apply af.mW tF mF 2 [] vd ?_
  (any_goals((with_reducible refine Bq ?_);cbv;(try dsimp only[nc]at*);(repeat' with_reducible first|exact‹False›.elim|exact nZ|refine oC ?_ ?_|refine vQ ?_ ?_ ?_|refine cV (fun _=>?_) fun _=>?_|(apply Ca.mk<;>intro _)|fail)))
  ·refine iJ.pick tF mF (fun _=>[]) vd 21 rfl ‹_› (fun i hi hn=>?_)
   (repeat' with_reducible first|exact nY|refine oC ?_ ?_|refine vQ ?_ ?_ ?_|refine cV (fun _=>?_) fun _=>?_|(apply Ca.mk<;>intro _)|refine wQ ?_|fail)
   all_goals(try simp only[List.getLastD_concat,kr]at*)
   (all_goals try first|exact eZ|with_reducible (refine rQ ?_;repeat' first|apply ai|exact wZ)|(refine sQ ?_;repeat' first|with_reducible apply ai|exact cZ))
   ·exact ML eL hi ‹_› j2
   ·refine dE (ι:=List Nat) (μ:=fun seen=>unseen L.length seen) (i:=seen) (seen++[i]) ⟨fun j hj=>?_,Bo hi hn⟩ ?_
    ·rcases gB.1 hj with hj|hj
     ·exact hs j hj
     ·rw[dD.1 hj];exact⟨hi,by assumption⟩
    ·exact aZ
  ·(any_goals(repeat' with_reducible first|exact‹False›.elim|exact nZ|refine oC ?_ ?_|refine vQ ?_ ?_ ?_|refine cV (fun _=>?_) fun _=>?_|(apply Ca.mk<;>intro _)|refine oQ ?_|fail))
   (all_goals try first|exact eZ|with_reducible (refine rQ ?_;repeat' first|apply ai|exact wZ)|(refine sQ ?_;repeat' first|with_reducible apply ai|exact cZ))
   rename_i hall;refine dE (ι:=Nat) (μ:=fun j=>10-j) (i:=j) (j+1) ⟨⟨zo,?_⟩,zo⟩ ?_
   ·rw[<- hF,show 10-(j+1)=n by omega];exact MM (n:=n) eL (fun i hi=>(hs i (hall i (by rw[kr];exact hi))).2) j2
   ·(focus(refine aQ ?_;repeat' first|with_reducible apply ai|exact wZ|fail))
    exact aS zo
 ·obtain rfl:j=10:=by omega
  rw[<- hF]at j2;apply af.wk tF mF [] vd ?_
  (repeat' with_reducible first|exact nY|refine oC ?_ ?_|refine vQ ?_ ?_ ?_|refine cV (fun _=>?_) fun _=>?_|(apply Ca.mk<;>intro _)|refine wQ ?_|fail)
  all_goals(try(exfalso;omega))
  (all_goals try first|exact eZ|with_reducible (refine rQ ?_;repeat' first|apply ai|exact wZ)|(refine sQ ?_;repeat' first|with_reducible apply ai|exact cZ))
  exact j2
end Go.Ai
