/- Chapter 17's model: its paths. -/
import Derived.Test.YtbagpkiomjlhkaaGreatDoorMdR
import Derived.Test.YtbagpkiomjlhkaaGreatDoorMdA
set_option linter.all false
namespace Go.Ai
open Go Go.Proofs
set_option maxRecDepth 100000
set_option maxHeartbeats 4000000
def aoc(acc:ByteArray)(r:Mr):Option (Option ByteArray×Mr):=
 if r.e≠0∨r.peek.joined=false∨(r.isT dotT=false∧r.isT qmT=false∧r.isT lbT=false)then none
 else if r.peek.text=lbT then
  if r.next.peek.joined=false∨isI r.next.peek=false then some (none,r.next.fail 13)
  else if r.next.next.peek.joined=false∨r.next.next.isT rbT=false then some (none,r.next.next.fail 13)
  else some (some (acc++r.peek.text++r.next.peek.text++r.next.next.peek.text),r.next.next.next)
 else if r.next.peek.joined=false∨isW r.next.peek=false then some (none,r.next.fail 13)
 else some (some (acc++r.peek.text++r.next.peek.text),r.next.next)
def anZ:Nat->ByteArray->Mr->Option ByteArray×Mr
 | 0,acc,r=>(some acc,r)
 | n+1,acc,r=>match aoc acc r with
  | none=>(some acc,r)
  | some (none,r')=>(none,r')
  | some (some a,r')=>anZ n a r'
def aoA(pe:ByteArray->Int)(r:Mr):ByteArray×Mr:=
 if r.peek.kind≠1∨resB r.peek.text=true then(⟨#[]⟩,r.fail 13)
 else match anZ (r.l.length+1) r.peek.text r.next with
  | (none,r')=>(⟨#[]⟩,r')
  | (some s,r')=>(s,r'.fail (pe s))
def Mr.ab7{r:Mr}{t:ByteArray}(h:r.isT t=true):r.peek.kind≠0∧r.peek.text=t:=by
 unfold Mr.isT at h;simp only[Bool.and_eq_true,Bool.or_eq_true,decide_eq_true_eq]at h;exact⟨by omega,h.2⟩
def Mr.aot{r:Mr}(h:r.peek.kind≠0):r.next.i=r.i+1∧r.i<r.l.length:=by
 refine⟨by unfold Mr.next;rw[if_pos h];rfl,?_⟩;unfold Mr.peek at h;split at h
 ·exact absurd rfl h
 ·omega
def Mr.aop{r:Mr}(h:r.i<=r.l.length):r.next.i<=r.l.length:=by
 by_cases q:r.peek.kind≠0
 ·have:=Mr.aot q;omega
 ·unfold Mr.next;rw[if_neg q];exact h
def aoK{acc a:ByteArray}{r r':Mr}(hP:∀t∈r.l,PlTok t)(hi:r.i<=r.l.length)(h:aoc acc r=some (some a,r')):r'.l=r.l∧r.i+1<=r'.i∧r.i<r.l.length∧r'.i<=r.l.length∧a.size<=acc.size+200000:=by
 have p1:=(Mr.anY PlTok.default hP).size;have p2:=(Mr.anY PlTok.default (r:=r.next) (by rw[Mr.anR];exact hP)).size;have p3:=(Mr.anY PlTok.default (r:=r.next.next) (by rw[Mr.anR,Mr.anR];exact hP)).size;have i1:=Mr.aop hi;have i2:=Mr.aop (r:=r.next) (by rw[Mr.anR];exact i1);rw[Mr.anR]at i2;have i3:=Mr.aop (r:=r.next.next) (by rw[Mr.anR,Mr.anR];exact i2);rw[Mr.anR,Mr.anR]at i3;have jz:∀z:Mr,z.i<=z.next.i:=fun z=>by
  unfold Mr.next;split
  ·exact Nat.le_succ _
  ·exact Nat.le_refl _
 have j1:=jz r.next;have j2:=jz r.next.next;unfold aoc at h;split at h
 ·cases h
 rename_i hc;have hk:r.peek.kind≠0:=by
  cases q1:r.isT dotT
  ·cases q2:r.isT qmT
   ·cases q3:r.isT lbT
    ·exact absurd (.inr (.inr ⟨q1,q2,q3⟩)) hc
    ·exact(Mr.ab7 q3).1
   ·exact(Mr.ab7 q2).1
  ·exact(Mr.ab7 q1).1
 obtain⟨e1,e2⟩:=Mr.aot hk;split at h
 ·split at h
  ·simp at h
  split at h
  ·simp at h
  simp only[Option.some.injEq,Prod.mk.injEq]at h;obtain⟨rfl,rfl⟩:=h;refine⟨by rw[Mr.anR,Mr.anR,Mr.anR],by omega,e2,by omega,?_⟩;rw[ByteArray.size_append,ByteArray.size_append,ByteArray.size_append];omega
 ·split at h
  ·simp at h
  simp only[Option.some.injEq,Prod.mk.injEq]at h;obtain⟨rfl,rfl⟩:=h;refine⟨by rw[Mr.anR,Mr.anR],by omega,e2,by omega,?_⟩;rw[ByteArray.size_append,ByteArray.size_append];omega
def aqW{pe:ByteArray->Int}(hpc:∀t,t.size<=100000000000->Af Tryz.prog 43 [.str fun _=>t] [] (.tup [.any,.int .i64 fun _=>pe t]) [])
 (r:Mr) (hl:r.l.length<=65537) (hi:r.i<=r.l.length) (hP:∀t∈r.l,PlTok t):Af Tryz.prog 33 [.ptr 1000 0] [(1000,boxM r)] (.str fun _=>(aoA pe r).1) [(1000,boxM (aoA pe r).2)]:=by
 have h1:=anS r;have h2:=agi r.peek.text;have h3:=anX r 13;have h5:=anU r (by omega);have hp:=(Mr.anY PlTok.default hP).size;obtain⟨R,hR⟩:∃R,R=aoA pe r:=⟨_,rfl⟩
 rw[<- hR];unfold aoA at hR;by_cases c1:r.peek.kind≠1∨resB r.peek.text=true
 ·rw[if_pos c1]at hR;subst hR;dsimp only;generalize resB r.peek.text=b at*;generalize r.peek=p at*;generalize r.fail 13=fr at*
  (apply Af.of tF mF [.tmp 2] kp33 [(1,[(1,zK p,zM r)]),(2,[(6,zO b,[])]),(3,[(1,zT,zM fr)]),(23,[(1,.any,[])]),(24,[(2,.any,[])])] Tryz.func33 (fun _=>?_);(repeat' with_reducible first|exact nY|refine oC ?_ ?_|refine vQ ?_ ?_ ?_|refine cV (fun _=>?_) fun _=>?_|refine wQ ?_|fail))
  all_goals(try exact zB)
  all_goals(try(exact absurd ‹p.kind=1∧b=false› (fun g=>c1.elim (fun k=>k g.1) (fun k=>Bool.noConfusion (k.symm.trans g.2)))))
  all_goals exact eZ
 rw[if_neg c1]at hR;have c1a:r.peek.kind=1:=Decidable.not_not.1 fun g=>c1 (.inl g);have c1b:resB r.peek.text=false:=by simpa using fun g=>c1 (.inr g)
 rw[c1b]at h2;clear c1 c1b;have hn:=Mr.aot (r:=r) (by rw[c1a];decide);have hnl:=Mr.anR r;have hnP:∀t∈r.next.l,PlTok t:=by rw[hnl];exact hP
 obtain⟨Q,hQ⟩:∃Q,Q=anZ (r.l.length+1) r.peek.text r.next:=⟨_,rfl⟩
 rw[<- hQ]at hR;generalize r.next=r1 at*;generalize r.peek=p at*;obtain⟨qs,qr⟩:=Q;obtain⟨sv,hsv⟩:∃sv,sv=qs.getD ⟨#[]⟩:=⟨_,rfl⟩
 obtain⟨F,hF⟩:∃F,F=qr.fail (pe sv):=⟨_,rfl⟩
 (apply Af.of tF mF [.tmp 2] kp33 [(1,[(1,zK p,zM r)]),(2,[(6,zO false,[])]),(5,[(1,zK p,zM r1)]),(23,[(1,.tup [.any,.int .i64 fun _=>pe sv],[])]),(24,[(2,zT,zM F)])] Tryz.func33 (fun _=>?_);(repeat' with_reducible first|exact nY|refine oC ?_ ?_|refine vQ ?_ ?_ ?_|refine cV (fun _=>?_) fun _=>?_|refine wQ ?_|fail))
 all_goals(try exact zB)
 all_goals(try(exact absurd c1a ‹¬p.kind=1∧True›.1))
 (all_goals(try exact eZ))
 refine .loop (fun q:ByteArray×Mr=>⟨119,[(4,.str fun _=>q.1),(0,.ptr 1000 0)],[(1000,boxM q.2)]⟩)
  (fun q=>q.2.l=r.l∧q.2.i<=r.l.length∧q.1.size<=200000*q.2.i∧∃n,r.l.length-q.2.i<n∧anZ n q.1 q.2=(qs,qr)) (fun q=>r.l.length-q.2.i) (p.text,r1) ⟨hnl,by show r1.i<=_;omega,by show p.text.size<=200000*r1.i;omega,r.l.length+1,by show r.l.length-r1.i<r.l.length+1;omega,hQ.symm⟩ ?_ fun q E hq=>?_
 ·exact aZ
 obtain⟨acc,m⟩:=q;obtain⟨e1,e2,e3,n,e4,e5⟩:=hq;dsimp only at e1 e2 e3 e4 e5;obtain⟨n,rfl⟩:∃k,n=k+1:=⟨n-1,by omega⟩
 simp only[anZ]at e5;have hmP:∀t∈m.l,PlTok t:=by rw[e1];exact hP
 have hle:=fun a r'=>aoK (acc:=acc) (a:=a) (r:=m) (r':=r') hmP (by rw[e1];exact e2);have g6:=anS m;have gd:=ao5 m dotT;have gq:=ao5 m qmT;have gb:=ao5 m lbT;have g8:=anU m (by omega);have hm1:=Mr.aoX m;have g9:=anS m.next;have g14:=anX m.next 13;have g16:=anU m.next (by omega);have hm2:=Mr.aoX m.next;have g18:=anS m.next.next;have g19:=ao5 m.next.next rbT;have g20:=anX m.next.next 13;have g22:=anU m.next.next (by omega);have zp:=(Mr.anY PlTok.default hmP).size;have zu:=(Mr.anY PlTok.default (r:=m.next) (by rw[Mr.anR];exact hmP)).size;have zv:=(Mr.anY PlTok.default (r:=m.next.next) (by rw[Mr.anR,Mr.anR];exact hmP)).size;have kd:m.isT dotT=true->m.peek.text=dotT:=fun g=>(Mr.ab7 g).2;have kq:m.isT qmT=true->m.peek.text=qmT:=fun g=>(Mr.ab7 g).2;have kb:m.isT lbT=true->m.peek.text=lbT:=fun g=>(Mr.ab7 g).2;unfold aoc isI isW at e5 hle;generalize m.next.next.next=m3 at*;generalize m.next.next.fail 13=f2 at*;generalize m.next.next.isT rbT=cb at*;generalize m.next.next.peek=v at*;generalize m.next.next=m2 at*;generalize m.next.fail 13=f1 at*;generalize m.next.peek=u at*;generalize m.next=m1 at*;generalize m.isT dotT=d at*;generalize m.isT qmT=k at*;generalize m.isT lbT=b at*;generalize m.peek=w at*;by_cases c2:m.e≠0∨w.joined=false∨(d=false∧k=false∧b=false)
 ·rw[if_pos c2]at e5;dsimp only at e5;obtain⟨h1,h2⟩:=Prod.mk.inj e5;subst h1;subst h2;obtain rfl:sv=acc:=hsv;dsimp only at hR;rw[<- hF]at hR;subst hR;have h23:=hpc sv (by omega);have h24:=anX m (pe sv);rw[<- hF]at h24;clear hF;apply AWp.wk tF mF [(6,[(1,zK w,zM m)]),(7,[(12,zO d,zM m),(15,zO k,zM m),(19,zO b,zM m)])] kp33 ?_
  (repeat' with_reducible first|exact nY|refine oC ?_ ?_|refine vQ ?_ ?_ ?_|refine cV (fun _=>?_) fun _=>?_|refine wQ ?_|fail)
  all_goals(try simp only[ite_self])
  all_goals(try exact zB)
  all_goals(try(exact absurd ‹(m.e=0∧w.joined=true)∧((d=true∨k=true)∨b=true)› (fun g=>c2.elim (fun z=>z g.1.1) (fun z=>z.elim (fun y=>Bool.noConfusion (y.symm.trans g.1.2)) (fun y=>g.2.elim (fun x=>x.elim (fun o=>Bool.noConfusion (y.1.symm.trans o)) (fun o=>Bool.noConfusion (y.2.1.symm.trans o))) (fun o=>Bool.noConfusion (y.2.2.symm.trans o)))))))
  (all_goals try first|exact eZ|with_reducible (refine rQ ?_;repeat' first|apply And.intro|exact wZ)|(refine sQ ?_;repeat' first|with_reducible apply And.intro|exact cZ))
  all_goals(try(intro g1 g2;rw[g1,g2];rfl))
 rw[if_neg c2]at e5 hle;by_cases c3:w.text=lbT
 ·rw[if_pos c3]at e5 hle;by_cases c4:u.joined=false∨(u.kind==2||(u.kind==5&&decide (u.text=⟨#[42]⟩)))=false
  ·rw[if_pos c4]at e5;dsimp only at e5;obtain⟨h1,h2⟩:=Prod.mk.inj e5;subst h1;subst h2;dsimp only at hR;subst hR;apply AWp.wk tF mF [(6,[(1,zK w,zM m)]),(7,[(12,zO d,zM m),(15,zO k,zM m),(19,zO b,zM m)]),(8,[(2,zK w,zM m1)]),(9,[(1,zK u,zM m1)]),(14,[(1,zT,zM f1)])] kp33 ?_
   (repeat' with_reducible first|exact nY|refine oC ?_ ?_|refine vQ ?_ ?_ ?_|refine cV (fun _=>?_) fun _=>?_|refine wQ ?_|fail)
   all_goals(try simp only[ite_self])
   all_goals(try exact zB)
   all_goals(try(exact absurd ‹(¬m.e=0∨w.joined=false)∨(d=false∧k=false)∧b=false› (fun g=>c2 (g.elim (fun z=>z.elim .inl (fun y=>.inr (.inl y))) (fun z=>.inr (.inr ⟨z.1.1,z.1.2,z.2⟩))))))
   all_goals(try(exact absurd c3 ‹¬w.text=(⟨#[91]⟩:ByteArray)›))
   all_goals(try(exact absurd ‹u.joined=true∧(u.kind=2∨u.kind=5∧u.text=(⟨#[42]⟩:ByteArray))› (fun g=>c4.elim (fun z=>Bool.noConfusion (z.symm.trans g.1)) (fun z=>by simp only[Bool.or_eq_false_iff,beq_eq_false_iff_ne,Bool.and_eq_false_iff,decide_eq_false_iff_not]at z;exact g.2.elim z.1 (fun y=>z.2.elim (fun x=>x y.1) (fun x=>x y.2))))))
   (all_goals try first|exact eZ|with_reducible (refine rQ ?_;repeat' first|apply And.intro|exact wZ)|(refine sQ ?_;repeat' first|with_reducible apply And.intro|exact cZ))
   all_goals(try(intro g1 g2;rw[g1,g2];rfl))
   all_goals(try(simp only[ByteArray.size_append];omega))
  rw[if_neg c4]at e5 hle;simp only[not_or,Bool.not_eq_false,Bool.or_eq_true,beq_iff_eq,Bool.and_eq_true,decide_eq_true_eq]at c4;by_cases c5:v.joined=false∨cb=false
  ·rw[if_pos c5]at e5;dsimp only at e5;obtain⟨h1,h2⟩:=Prod.mk.inj e5;subst h1;subst h2;dsimp only at hR;subst hR;apply AWp.wk tF mF [(6,[(1,zK w,zM m)]),(7,[(12,zO d,zM m),(15,zO k,zM m),(19,zO b,zM m)]),(8,[(2,zK w,zM m1)]),(9,[(1,zK u,zM m1)]),(16,[(2,zK u,zM m2)]),(18,[(1,zK v,zM m2)]),(19,[(5,zO cb,zM m2)]),(20,[(1,zT,zM f2)])] kp33 ?_
   (repeat' with_reducible first|exact nY|refine oC ?_ ?_|refine vQ ?_ ?_ ?_|refine cV (fun _=>?_) fun _=>?_|refine wQ ?_|fail)
   all_goals(try simp only[ite_self])
   all_goals(try exact zB)
   all_goals(try(exact absurd ‹(¬m.e=0∨w.joined=false)∨(d=false∧k=false)∧b=false› (fun g=>c2 (g.elim (fun z=>z.elim .inl (fun y=>.inr (.inl y))) (fun z=>.inr (.inr ⟨z.1.1,z.1.2,z.2⟩))))))
   all_goals(try(exact absurd c3 ‹¬w.text=(⟨#[91]⟩:ByteArray)›))
   all_goals(try(exact absurd ‹u.joined=false∨¬u.kind=2∧(¬u.kind=5∨¬u.text=(⟨#[42]⟩:ByteArray))› (fun g=>g.elim (fun z=>Bool.noConfusion (c4.1.symm.trans z)) (fun z=>c4.2.elim (fun y=>z.1 y) (fun y=>z.2.elim (fun x=>x y.1) (fun x=>x y.2))))))
   all_goals(try(exact absurd ‹v.joined=true∧cb=true› (fun g=>c5.elim (fun z=>Bool.noConfusion (z.symm.trans g.1)) (fun z=>Bool.noConfusion (z.symm.trans g.2)))))
   (all_goals try first|exact eZ|with_reducible (refine rQ ?_;repeat' first|apply And.intro|exact wZ)|(refine sQ ?_;repeat' first|with_reducible apply And.intro|exact cZ))
   all_goals(try(intro g1 g2;rw[g1,g2];rfl))
   all_goals(try(simp only[ByteArray.size_append];omega))
  rw[if_neg c5]at e5 hle;dsimp only at e5;have hle:=hle _ _ rfl;apply AWp.wk tF mF [(6,[(1,zK w,zM m)]),(7,[(12,zO d,zM m),(15,zO k,zM m),(19,zO b,zM m)]),(8,[(2,zK w,zM m1)]),(9,[(1,zK u,zM m1)]),(16,[(2,zK u,zM m2)]),(18,[(1,zK v,zM m2)]),(19,[(5,zO cb,zM m2)]),(22,[(2,zK v,zM m3)])] kp33 ?_
  (repeat' with_reducible first|exact nY|refine oC ?_ ?_|refine vQ ?_ ?_ ?_|refine cV (fun _=>?_) fun _=>?_|refine wQ ?_|fail)
  all_goals(try simp only[ite_self])
  all_goals(try exact zB)
  all_goals(try(exact absurd ‹(¬m.e=0∨w.joined=false)∨(d=false∧k=false)∧b=false› (fun g=>c2 (g.elim (fun z=>z.elim .inl (fun y=>.inr (.inl y))) (fun z=>.inr (.inr ⟨z.1.1,z.1.2,z.2⟩))))))
  all_goals(try(exact absurd c3 ‹¬w.text=(⟨#[91]⟩:ByteArray)›))
  all_goals(try(exact absurd ‹u.joined=false∨¬u.kind=2∧(¬u.kind=5∨¬u.text=(⟨#[42]⟩:ByteArray))› (fun g=>g.elim (fun z=>Bool.noConfusion (c4.1.symm.trans z)) (fun z=>c4.2.elim (fun y=>z.1 y) (fun y=>z.2.elim (fun x=>x y.1) (fun x=>x y.2))))))
  all_goals(try(exact absurd ‹v.joined=false∨cb=false› c5))
  (all_goals try first|exact eZ|with_reducible (refine rQ ?_;repeat' first|apply And.intro|exact wZ)|(refine sQ ?_;repeat' first|with_reducible apply And.intro|exact cZ))
  all_goals(try(intro g1 g2;rw[g1,g2];rfl))
  all_goals(try(simp only[ByteArray.size_append];omega))
  have hI:(m3.l=r.l∧m3.i<=r.l.length∧(acc++w.text++u.text++v.text).size<=200000*m3.i∧∃n,r.l.length-m3.i<n∧anZ n (acc++w.text++u.text++v.text) m3=(qs,qr))∧r.l.length-m3.i<r.l.length-m.i:=⟨⟨hle.1.trans e1,by have:=hle.2.2.2.1;rw[e1]at this;exact this,by have:=hle.2.2.2.2;have:=hle.2.1;omega,n,by have:=hle.2.1;have:=hle.2.2.1;rw[e1]at this;omega,e5⟩,by have:=hle.2.1;have:=hle.2.2.1;rw[e1]at this;omega⟩
  refine dE (ι:=ByteArray×Mr) (μ:=fun q=>r.l.length-q.2.i) (i:=(acc,m)) (acc++w.text++u.text++v.text,m3) hI ?_
  exact aZ
 rw[if_neg c3]at e5 hle;by_cases c4:u.joined=false∨(u.kind==1)=false
 ·rw[if_pos c4]at e5;dsimp only at e5;obtain⟨h1,h2⟩:=Prod.mk.inj e5;subst h1;subst h2;dsimp only at hR;subst hR;apply AWp.wk tF mF [(6,[(1,zK w,zM m)]),(7,[(12,zO d,zM m),(15,zO k,zM m),(19,zO b,zM m)]),(8,[(2,zK w,zM m1)]),(9,[(1,zK u,zM m1)]),(14,[(1,zT,zM f1)])] kp33 ?_
  (repeat' with_reducible first|exact nY|refine oC ?_ ?_|refine vQ ?_ ?_ ?_|refine cV (fun _=>?_) fun _=>?_|refine wQ ?_|fail)
  all_goals(try simp only[ite_self])
  all_goals(try exact zB)
  all_goals(try(exact absurd ‹(¬m.e=0∨w.joined=false)∨(d=false∧k=false)∧b=false› (fun g=>c2 (g.elim (fun z=>z.elim .inl (fun y=>.inr (.inl y))) (fun z=>.inr (.inr ⟨z.1.1,z.1.2,z.2⟩))))))
  all_goals(try(exact absurd ‹w.text=(⟨#[91]⟩:ByteArray)› c3))
  all_goals(try(exact absurd ‹u.joined=true∧u.kind=1› (fun g=>c4.elim (fun z=>Bool.noConfusion (z.symm.trans g.1)) (fun z=>by simp only[beq_eq_false_iff_ne]at z;exact z g.2))))
  (all_goals try first|exact eZ|with_reducible (refine rQ ?_;repeat' first|apply And.intro|exact wZ)|(refine sQ ?_;repeat' first|with_reducible apply And.intro|exact cZ))
  all_goals(try(intro g1 g2;rw[g1,g2];rfl))
  all_goals(try(simp only[ByteArray.size_append];omega))
 rw[if_neg c4]at e5 hle;dsimp only at e5;have hle:=hle _ _ rfl;apply AWp.wk tF mF [(6,[(1,zK w,zM m)]),(7,[(12,zO d,zM m),(15,zO k,zM m),(19,zO b,zM m)]),(8,[(2,zK w,zM m1)]),(9,[(1,zK u,zM m1)]),(16,[(2,zK u,zM m2)])] kp33 ?_
 (repeat' with_reducible first|exact nY|refine oC ?_ ?_|refine vQ ?_ ?_ ?_|refine cV (fun _=>?_) fun _=>?_|refine wQ ?_|fail)
 all_goals(try simp only[ite_self])
 all_goals(try exact zB)
 all_goals(try(exact absurd ‹(¬m.e=0∨w.joined=false)∨(d=false∧k=false)∧b=false› (fun g=>c2 (g.elim (fun z=>z.elim .inl (fun y=>.inr (.inl y))) (fun z=>.inr (.inr ⟨z.1.1,z.1.2,z.2⟩))))))
 all_goals(try(exact absurd ‹w.text=(⟨#[91]⟩:ByteArray)› c3))
 all_goals(try(exact absurd ‹u.joined=false∨¬u.kind=1› (fun g=>g.elim (fun z=>c4 (.inl z)) (fun z=>c4 (.inr (by simp only[beq_eq_false_iff_ne];exact z))))))
 (all_goals try first|exact eZ|with_reducible (refine rQ ?_;repeat' first|apply And.intro|exact wZ)|(refine sQ ?_;repeat' first|with_reducible apply And.intro|exact cZ))
 all_goals(try(intro g1 g2;rw[g1,g2];rfl))
 all_goals(try(simp only[ByteArray.size_append];omega))
 have hI:(m2.l=r.l∧m2.i<=r.l.length∧(acc++w.text++u.text).size<=200000*m2.i∧∃n,r.l.length-m2.i<n∧anZ n (acc++w.text++u.text) m2=(qs,qr))∧r.l.length-m2.i<r.l.length-m.i:=⟨⟨hle.1.trans e1,by have:=hle.2.2.2.1;rw[e1]at this;exact this,by have:=hle.2.2.2.2;have:=hle.2.1;omega,n,by have:=hle.2.1;have:=hle.2.2.1;rw[e1]at this;omega,e5⟩,by have:=hle.2.1;have:=hle.2.2.1;rw[e1]at this;omega⟩
 refine dE (ι:=ByteArray×Mr) (μ:=fun q=>r.l.length-q.2.i) (i:=(acc,m)) (acc++w.text++u.text,m2) hI ?_
 exact aZ
end Go.Ai
