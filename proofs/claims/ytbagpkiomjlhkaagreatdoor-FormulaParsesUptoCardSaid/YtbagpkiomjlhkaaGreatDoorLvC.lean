/- Chapter 17's model: primaries. -/
import Derived.Test.YtbagpkiomjlhkaaGreatDoorLvB
set_option linter.all false
namespace Go.Ai
open Go Go.Proofs
set_option maxRecDepth 100000
set_option maxHeartbeats 4000000
section
variable {pe:ByteArray->Int}(hpc:∀t,t.size<=100000000000->Af Tryz.prog 43 [.str fun _=>t] [] (.tup [.any,.int .i64 fun _=>pe t]) []){e D k:Nat}(hD:65600<=D){E:MdF}(hE:∀j,k=j+1->MLv (e+1) D j 1 E){r:Mr}(h:OkM k r)(q:r.e=0)
include hD hE h q
theorem as6(c:r.isT lpT=true):Af Tryz.prog 118 [.ptr 1000 0] [(1000,boxM r)] (encX (e+1) D .any fun _=>(aqt pe E r).1) [(1000,boxM (aqt pe E r).2)]:=by
 obtain⟨D,rfl⟩:∃d,D=d+1:=⟨D-1,by omega⟩
 unfold aqt;rw[if_pos c];have b:=MBeg.of lpT q;have hl:=h.len;have hi:=h.i;have h0:=anS r;have h1:=ao5 r lpT;rw[c]at h1;have h2:=aqP r lpT (by omega) ⟨by have:=h.o0;omega,by have:=h.o1;omega⟩;obtain⟨j,rfl,g⟩:=h.beg q b;obtain⟨p,h3⟩:=hE j rfl _ g;have g2:=g.go p.g;have h4:=ari (E (r.beg lpT)).2 (by have:=g2.i;have:=g2.len;omega) ⟨by have:=g2.o0;omega,by have:=g2.o1;omega⟩;unfold lpT at*;generalize E (r.beg ⟨#[40]⟩)=u at*;generalize r.beg ⟨#[40]⟩=a at*;generalize r.peek=pk at*;obtain⟨x,z⟩:=u;dsimp only at*;generalize z.end_=W at*
 (refine fB [.cell 2 25] aqC [(1,[(1,zK pk,zM r)]),(2,[(1,zO true,zM r)]),(3,[(1,zT,zM a)]),(4,[(1,encX (e+1) (D+1) .any fun _=>x,zM z)]),(5,[(1,zT,zM W)])] Tryz.func118 fun _=>?_;repeat' with_reducible first|exact⟨⟩|refine mA ?_ ?_|refine mC (fun _=>?_) fun _=>?_)
include hpc
theorem arM(c:¬r.isT lpT=true)(d:r.peek.kind=1∧resB r.peek.text=false):Af Tryz.prog 118 [.ptr 1000 0] [(1000,boxM r)] (encX (e+1) D .any fun _=>(aqt pe E r).1) [(1000,boxM (aqt pe E r).2)]:=by
 obtain⟨D,rfl⟩:∃d,D=d+1:=⟨D-1,by omega⟩
 unfold aqt;rw[if_neg c,if_pos d];have hl:=h.len;have hi:=h.i;have h0:=anS r;have h1:=ao5 r lpT;rw[show r.isT lpT=false by simpa using c]at h1;have h2:=agi r.peek.text;rw[d.2]at h2;have h3:=aqW hpc r hl hi h.tk;have d1:=d.1;clear d;unfold lpT at*;generalize aoA pe r=u at*;generalize r.peek=pk at*;obtain⟨t,z⟩:=u;dsimp only at*
 (apply Af.of tF mF [.cell 2 25] aqC [(1,[(1,zK pk,zM r)]),(2,[(1,zO false,zM r)]),(7,[(6,zO false,[])]),(8,[(1,zR t,zM z)])] Tryz.func118 (fun _=>?_);(repeat' with_reducible first|exact nY|refine oC ?_ ?_|refine vQ ?_ ?_ ?_|refine cV (fun _=>?_) fun _=>?_|refine wQ ?_|fail))
 all_goals(try exact zB)
 all_goals(try(exact absurd d1 (‹¬pk.kind=1∨False›.resolve_right id)))
 (all_goals try first|exact eZ|with_reducible (refine rQ ?_;repeat' first|apply And.intro|exact wZ)|(refine sQ ?_;repeat' first|with_reducible apply And.intro|exact cZ))
 all_goals rfl
end
def mcwK(p:Tok)(k:Nat):Int:=if p.kind=1 then mcwL p.text k else 0
def mkI(p:Tok)(r:Mr)(k:Nat):SS:=
 ⟨110,[(6,.int .i64 fun _=>(k:Int)),(5,.int .i64 fun _=>mcwK p (k-1)),(3,.ptr 3 0),(0,.ptr 1000 0),(2,.ptr 2 0)],[(1000,boxM r),(2,.box [.int .i64 fun _=>0,.int .i64 fun _=>0,.str fun _=>⟨#[]⟩,.nil,.nil]),(3,.box (acT fun _=>p))]⟩
abbrev MaI:=Nat×List X×Mr
def maI(e D:Nat)(O:Int)(N:Nat)(q:MaI):SS:=
 ⟨110,[(9,.int .i64 fun _=>(q.1:Int)),(8,.int .i64 fun _=>(N:Int)),(7,.ptr 7 0),(5,.int .i64 fun _=>O),(0,.ptr 1000 0),(2,.ptr 2 0)],
  [(1000,boxM q.2.2),(2,.box [.int .i64 fun _=>0,.int .i64 fun _=>0,.str fun _=>⟨#[]⟩,.nil,.nil]),(7,.box [.int .i64 fun _=>O,.int .i64 fun _=>0,.str fun _=>⟨#[]⟩,.nil,.aref 83 1 fun _=>q.2.1.length]),(83,.arr false 25 5 1 (fun _=>q.2.1.length) (aqZ e D fun _=>q.2.1))]⟩
theorem arK{pe:ByteArray->Int}(hpc:∀t,t.size<=100000000000->Af Tryz.prog 43 [.str fun _=>t] [] (.tup [.any,.int .i64 fun _=>pe t]) []){e D k:Nat}(hD:65600<=D){E:MdF}(hE:∀j,k=j+1->MLv (e+1) D j 1 E){r:Mr}(h:OkM k r)(q:r.e=0)
 (c:¬r.isT lpT=true) (d:¬(r.peek.kind=1∧resB r.peek.text=false)):Af Tryz.prog 118 [.ptr 1000 0] [(1000,boxM r)] (encX (e+1) D .any fun _=>(aqt pe E r).1) [(1000,boxM (aqt pe E r).2)]:=by
 obtain⟨D,rfl⟩:∃d,D=d+1:=⟨D-1,by omega⟩
 unfold aqt;rw[if_neg c,if_neg d];have hl:=h.len;have hi:=h.i;have h0:=anS r;have h1:=ao5 r lpT;rw[show r.isT lpT=false by simpa using c]at h1;have h2:=agi r.peek.text;have h3:=as2 e r (by omega) h.tk;have h4:=anU r (by omega);have gn:=MGo.next r;have g1:=h.go gn;have he:r.next.e=0:=by rw[Mr.aoD];exact q
 have b:=MBeg.of lpT he;have h5:=aqP r.next lpT (by have:=g1.i;have:=g1.len;omega) ⟨by have:=g1.o0;omega,by have:=g1.o1;omega⟩;obtain⟨j,rfl,g⟩:=g1.beg he b;have gi:=g.i;have gl:=g.len;have h6:=aqW hpc _ gl gi g.tk;have p6:=aqz pe (r.next.beg lpT);have g6:=g.go p6;have h7:=aoE (aoA pe (r.next.beg lpT)).2 cmT (by have:=g6.i;have:=g6.len;omega);have g7:OkM j ((aoA pe (r.next.beg lpT)).2.accept cmT):=by
  unfold Mr.accept;split
  ·exact g6.go (.next _)
  ·exact g6
 have h8:=as5 ((aoA pe (r.next.beg lpT)).2.accept cmT) (by have:=g7.i;have:=g7.len;omega);obtain⟨l1,l2,-⟩:=aqw (fun r h=>(hE j rfl r h).1) (r.next.beg lpT) 2 0 [] _ g (.refl _) (fun y hy=>by cases hy);have g9:=g.go l1;have h9:=aqB (aqs E 2 0 [] (r.next.beg lpT)).2 cmT (by have:=g9.i;have:=g9.len;omega);have g10:=g9.go (MGo.expect _ cmT);have h10:=as5 ((aqs E 2 0 [] (r.next.beg lpT)).2.expect cmT) (by have:=g10.i;have:=g10.len;omega);obtain⟨O,hO⟩:∃O,O=mcw r.peek:=⟨_,rfl⟩
 rw[<- hO];obtain⟨k1,k2,-⟩:=arb (pe:=pe) (fun r h=>(hE j rfl r h).1) O _ g;have g11:=g.go k1;have h11:=ari (mcal pe E O (r.next.beg lpT)).2 (by have:=g11.i;have:=g11.len;omega) ⟨by have:=g11.o0;omega,by have:=g11.o1;omega⟩;obtain⟨R,hR⟩:∃R,R=mcal pe E O (r.next.beg lpT):=⟨_,rfl⟩
 rw[<- hR]at h11 k2 g11 ⊢;have hdep:X.dep (D+1) R.1:=X.aqo k2 (by have:=g11.i;have:=g11.len;omega);unfold mcal at hR;obtain⟨W,hW⟩:∃W,W=R.2.end_:=⟨_,rfl⟩
 rw[<- hW]at h11 ⊢;have d2:r.peek.kind=1->resB r.peek.text=true:=fun z=>by
  cases y:resB r.peek.text
  ·exact absurd ⟨z,y⟩ d
  ·rfl
 clear c d gn g1 he b p6 g6 g7 l1 l2 g9 g10 k1 k2 g11 hW;unfold lpT cmT at*;obtain⟨a,ha⟩:∃a,a=r.next.beg ⟨#[40]⟩:=⟨_,rfl⟩
 obtain⟨P,hP⟩:∃P,P=aoA pe a:=⟨_,rfl⟩
 obtain⟨A,hA⟩:∃A,A=P.2.accept ⟨#[44]⟩:=⟨_,rfl⟩
 obtain⟨S,hS⟩:∃S,S=mscl A:=⟨_,rfl⟩
 obtain⟨X4,hX4⟩:∃X4,X4=(aqs E 2 0 [] a).2.expect ⟨#[44]⟩:=⟨_,rfl⟩
 obtain⟨T,hT⟩:∃T,T=mscl X4:=⟨_,rfl⟩
 rw[<- ha,<- hP,<- hA,<- hS]at h8;rw[<- ha,<- hP,<- hA]at h7;rw[<- ha,<- hP]at h6;rw[<- ha,<- hX4,<- hT]at h10;rw[<- ha,<- hX4]at h9;rw[<- ha]at h5 g gi gl;rw[<- ha,<- hP,<- hX4,<- hT]at hR;obtain⟨cm,hcm⟩:∃cm,cm=P.2.isT ⟨#[44]⟩:=⟨_,rfl⟩
 rw[<- hcm]at h7 hR;have hAn:cm=true->A=P.2.next:=fun z=>by rw[hA];unfold Mr.accept;rw[if_pos (by rw[<- hcm];exact z)]
 have hAs:cm=false->A=P.2:=fun z=>by rw[hA];unfold Mr.accept;rw[if_neg (by rw[<- hcm,z];decide)]
 generalize mval r=V at*;generalize r.next=n at*;obtain⟨pk,hpk⟩:∃pk,pk=r.peek:=⟨_,rfl⟩
 rw[<- hpk]at h0 h2 h4 hO d2;obtain⟨bb,hbb⟩:∃bb,bb=resB pk.text:=⟨_,rfl⟩
 rw[<- hbb]at h2 d2;clear ha hP hA hpk hbb
 (apply Af.of tF mF [.cell 2 25] aqC [(1,[(1,zK pk,zM r)]),(2,[(1,zO false,zM r)]),(7,[(6,zO bb,[])]),(16,[(1,encV (e+1) .any fun _=>V.1,[(1000,boxM V.2)])]),(17,[(1,zK pk,zM n)]),(18,[(1,zT,zM a)]),
   (36,[(1,.str fun _=>P.1,[(1000,boxM P.2)])]),(38,[(1,.str fun _=>P.1,[(1000,boxM P.2)])]),(39,[(1,zO cm,zM A)]),(40,[(1,.int .i64 fun _=>S.1,[(1000,boxM S.2)])]),(33,[(1,zT,zM X4)]),(34,[(1,.int .i64 fun _=>T.1,[(1000,boxM T.2)])]),(41,[(1,zT,zM W)])] Tryz.func118 (fun _=>?_);(repeat' with_reducible first|exact nY|refine oC ?_ ?_|refine vQ ?_ ?_ ?_|refine cV (fun _=>?_) fun _=>?_|refine wQ ?_|fail))
 all_goals(try exact zB)
 all_goals(try(exact absurd (d2 ‹pk.kind=1∧bb=false›.1) (by rw[‹pk.kind=1∧bb=false›.2];decide)))
 (all_goals(try exact eZ))
 refine .loop (mkI pk r) (fun k=>1<=k∧k<=29) (fun k=>29-k) 1 ⟨Nat.le_refl _,by decide⟩ ?_ fun k E' hk=>?_
 ·have e0:mcwK pk (1-1)=0:=by unfold mcwK;split<;>rfl
  unfold mkI;rw[e0]
  (exact aZ)
 obtain⟨kl,kh⟩:=hk;unfold mkI;by_cases kc:k<=28
 ·obtain⟨f,rfl⟩:∃f,k=f+1:=⟨k-1,by omega⟩
  have hw:IntKind.i64.wrap (((f+1:Nat):Int)+1)=((f+1+1:Nat):Int):=w64n (by omega);have hc:=anu ((f+1:Nat):Int);have ho:mcwK pk (f+1)=if pk.kind=1∧calB ((f+1:Nat):Int)=pk.text then((f+1:Nat):Int)else mcwK pk f:=by
   unfold mcwK;by_cases z:pk.kind=1
   ·rw[if_pos z,if_pos z];show(if calB ((f+1:Nat):Int)=pk.text then((f+1:Nat):Int)else mcwL pk.text f)=_;by_cases y:calB ((f+1:Nat):Int)=pk.text
    ·rw[if_pos y,if_pos ⟨z,y⟩]
    ·rw[if_neg y,if_neg (fun g=>y g.2)]
   ·rw[if_neg z,if_neg z,if_neg (fun g=>z g.1)]
  rw[show f+1-1=f from rfl];obtain⟨o1,ho1⟩:∃o1,o1=mcwK pk (f+1):=⟨_,rfl⟩
  rw[<- ho1]at ho;obtain⟨k2,hk2⟩:∃k2,k2=f+1:=⟨_,rfl⟩
  rw[<- hk2]at hw hc ho ⊢;generalize mcwK pk f=o0 at*;generalize calB (k2:Int)=cs at*;apply AWp.wk tF mF [(13,[(5,zR cs,[])])] aqC ?_
  (repeat' with_reducible first|exact nY|refine oC ?_ ?_|refine vQ ?_ ?_ ?_|refine cV (fun _=>?_) fun _=>?_|refine wQ ?_|fail)
  all_goals(try exact zB)
  all_goals(try(exfalso;omega))
  (all_goals(try exact eZ))
  all_goals(refine dE (ι:=Nat) (Inv:=fun k=>1<=k∧k<=29) (μ:=fun k=>29-k) (i:=k2) (I:=mkI pk r) (k2+1) ⟨⟨by omega,by omega⟩,by omega⟩ ?_)
  all_goals(unfold mkI;rw[show mcwK pk (k2+1-1)=o1 by rw[ho1,hk2];rfl])
  ·rw[if_pos ‹pk.kind=1∧cs=pk.text›]at ho
   (exact aZ)
  ·rw[if_neg (fun z=>‹¬pk.kind=1∨¬cs=pk.text›.elim (fun g=>g z.1) (fun g=>g z.2))]at ho
   (exact aZ)
 ·obtain rfl:k=29:=by omega
  have e0:mcwK pk (29-1)=O:=hO.symm;rw[e0];clear hO e0 kl kh kc;by_cases z0:O=0
  ·simp only[if_pos z0];apply AWp.wk tF mF [] aqC ?_
   (repeat' with_reducible first|exact nY|refine oC ?_ ?_|refine vQ ?_ ?_ ?_|refine cV (fun _=>?_) fun _=>?_|refine wQ ?_|fail)
   all_goals(try exact zB)
   all_goals(try(exact absurd z0 ‹¬O=0›))
   all_goals(try(exfalso;omega))
   (all_goals try first|exact eZ|with_reducible (refine rQ ?_;repeat' first|apply And.intro|exact wZ)|(refine sQ ?_;repeat' first|with_reducible apply And.intro|exact cZ))
   all_goals(try rfl)
   all_goals(try(intro i hi;obtain rfl:i=0:=(by(have hi:i<1:=hi);omega);exact LeL.of_eq rfl))
   all_goals(try exact fun i hi=>LeL.of_eq rfl)
  simp only[if_neg z0];by_cases z22:O=22
  ·rw[if_pos z22]at hR;subst hR;apply AWp.wk tF mF [] aqC ?_
   (repeat' with_reducible first|exact nY|refine oC ?_ ?_|refine vQ ?_ ?_ ?_|refine cV (fun _=>?_) fun _=>?_|refine wQ ?_|fail)
   all_goals(try exact zB)
   all_goals(try(exact absurd ‹O=0› z0))
   all_goals(try(exact absurd z22 ‹¬O=22›))
   all_goals(try(exfalso;omega))
   (all_goals try first|exact eZ|with_reducible (refine rQ ?_;repeat' first|apply And.intro|exact wZ)|(refine sQ ?_;repeat' first|with_reducible apply And.intro|exact cZ))
   all_goals(try rfl)
   all_goals(try exact z22)
  rw[if_neg z22]at hR;by_cases z26:O=26
  ·rw[if_pos z26]at hR;cases cm with
   | true=>
    rw[if_pos rfl]at hR;rw[<- hAn rfl,<- hS]at hR;subst hR;clear hS hX4 hT hAn hAs h9 h10;apply AWp.wk tF mF [] aqC ?_
    (repeat' with_reducible first|exact nY|refine oC ?_ ?_|refine vQ ?_ ?_ ?_|refine cV (fun _=>?_) fun _=>?_|refine wQ ?_|fail)
    all_goals(try exact zB)
    all_goals(try(exact absurd ‹O=0› z0))
    all_goals(try(exact absurd ‹O=22› z22))
    all_goals(try(exact absurd z26 ‹¬O=26›))
    all_goals(try(exfalso;omega))
    (all_goals try first|exact eZ|with_reducible (refine rQ ?_;repeat' first|apply And.intro|exact wZ)|(refine sQ ?_;repeat' first|with_reducible apply And.intro|exact cZ))
    all_goals(try rfl)
    all_goals(try exact z26)
   | false=>
    rw[if_neg (by decide)]at hR;obtain rfl:=hAs rfl;subst hR;clear hS hX4 hT hAn hAs h9 h10;apply AWp.wk tF mF [] aqC ?_
    (repeat' with_reducible first|exact nY|refine oC ?_ ?_|refine vQ ?_ ?_ ?_|refine cV (fun _=>?_) fun _=>?_|refine wQ ?_|fail)
    all_goals(try exact zB)
    all_goals(try(exact absurd ‹O=0› z0))
    all_goals(try(exact absurd ‹O=22› z22))
    all_goals(try(exact absurd z26 ‹¬O=26›))
    all_goals(try(exfalso;omega))
    (all_goals try first|exact eZ|with_reducible (refine rQ ?_;repeat' first|apply And.intro|exact wZ)|(refine sQ ?_;repeat' first|with_reducible apply And.intro|exact cZ))
    all_goals(try rfl)
    all_goals(try exact z26)
  rw[if_neg z26]at hR;obtain⟨N,hN⟩:∃N,N=aqG O:=⟨_,rfl⟩
  have hN1:(O=15->N=2)∧(O≠15->(O=21∨O=24->N=3)∧(¬(O=21∨O=24)->N=1)):=by
   rw[hN];unfold aqG;refine⟨fun z=>if_pos z,fun z=>⟨fun y=>?_,fun y=>?_⟩⟩
   ·rw[if_neg z,if_pos y]
   ·rw[if_neg z,if_neg y]
  obtain⟨M,hM⟩:∃M,M=aqs E N 0 [] a:=⟨_,rfl⟩
  rw[<- hN,<- hM]at hR;have hN3:N<=3∧1<=N:=by omega
  have hM2:O=15->aqs E 2 0 [] a=M:=fun z=>by rw[hM,hN1.1 z]
  clear h6 h7 h8 hS hAn hAs h3 hN;apply AWp.wk tF mF [] aqC ?_
  (repeat' with_reducible first|exact nY|refine oC ?_ ?_|refine vQ ?_ ?_ ?_|refine cV (fun _=>?_) fun _=>?_|refine wQ ?_|fail)
  all_goals(try exact zB)
  all_goals(try(exact absurd ‹O=0› z0))
  all_goals(try(exact absurd ‹O=22› z22))
  all_goals(try(exact absurd ‹O=26› z26))
  all_goals(try(exfalso;omega))
  (all_goals(try exact eZ))
  all_goals
   refine .loop (maI (e+1) (D+1) O N) (fun q=>aqs E (N-q.1) q.1 q.2.1 q.2.2=M∧OkM j q.2.2∧q.2.1.length=q.1∧q.1<=N) (fun q=>N-q.1) (0,[],a) ⟨hM.symm,g,rfl,Nat.zero_le _⟩ ?_ fun q E'' hq=>?_
   ·unfold maI
    (exact aZ)
   clear h4 h5 hM;obtain⟨i,l,z⟩:=q;obtain⟨m1,m2,m3,m4⟩:=hq;dsimp only at m1 m2 m3 m4;unfold maI;dsimp only;have zi:=m2.i;have zl:=m2.len;by_cases s:i<N
   ·obtain⟨c,hc⟩:∃c,N-i=c+1:=⟨N-i-1,by omega⟩
    rw[hc]at m1;simp only[aqs]at m1;have g3:=m2.go (as4 i z);obtain⟨p1,h3⟩:=hE j rfl _ g3;have g4:=g3.go p1.g;have hw:IntKind.i64.wrap ((i:Int)+1)=((i+1:Nat):Int):=w64n (by omega);have hx:=aqB z cmT (by omega);have e1:0<i->msep i z=z.expect cmT:=fun y=>by unfold msep;rw[if_pos y]
    have e2:¬0<i->msep i z=z:=fun y=>by unfold msep;rw[if_neg y]
    unfold cmT at hx e1;obtain⟨v,hv⟩:∃v,v=msep i z:=⟨_,rfl⟩
    rw[<- hv]at m1 h3 g4 e1 e2;obtain⟨u,hu⟩:∃u,u=E v:=⟨_,rfl⟩
    rw[<- hu]at m1 h3 g4;obtain⟨y,z2⟩:=u;dsimp only at m1 h3 g4;have hI:aqs E (N-(i+1)) (i+1) (l++[y]) z2=M∧OkM j z2∧(l++[y]).length=i+1∧i+1<=N:=by
     refine⟨?_,g4,by rw[List.length_append,m3];rfl,s⟩;rw[show N-(i+1)=c by omega];exact m1
    have hL:∀i,i<l.length+1->LeL (catF (fun _=>l.length) (aqZ (e+1) (D+1) fun _=>l) (aaL [aa8 (e+1) (D+1) .any fun _=>y]) fun _=>i) (aqZ (e+1) (D+1) (fun _=>l++[y]) fun _=>i):=fun i hi=>afz l y i hi;clear hu hv p1 m1 g3 g4;by_cases ip:0<i
    ·rw[<- e1 ip]at hx;apply AWp.wk tF mF [(30,[(1,zT,zM v)]),(31,[(3,encX (e+1) (D+1) .any fun _=>y,zM z2)])] aqC ?_
     (repeat' with_reducible first|exact nY|refine oC ?_ ?_|refine vQ ?_ ?_ ?_|refine cV (fun _=>?_) fun _=>?_|refine wQ ?_|fail)
     all_goals(try exact zB)
     all_goals(try(exfalso;omega))
     (all_goals(try exact eZ))
     all_goals
      refine dE (ι:=MaI) (μ:=fun q=>N-q.1) (i:=(i,l,z)) (I:=maI (e+1) (D+1) O N) (i+1,l++[y],z2) ⟨hI,by dsimp only;omega⟩ ?_;unfold maI
      (exact aZ)
      all_goals(try exact hw)
      all_goals(try(rw[List.length_append];rfl))
      all_goals(try exact hL)
    ·obtain rfl:=e2 ip;apply AWp.wk tF mF [(31,[(3,encX (e+1) (D+1) .any fun _=>y,zM z2)])] aqC ?_
     (repeat' with_reducible first|exact nY|refine oC ?_ ?_|refine vQ ?_ ?_ ?_|refine cV (fun _=>?_) fun _=>?_|refine wQ ?_|fail)
     all_goals(try exact zB)
     all_goals(try(exfalso;omega))
     (all_goals(try exact eZ))
     refine dE (ι:=MaI) (μ:=fun q=>N-q.1) (i:=(i,l,v)) (I:=maI (e+1) (D+1) O N) (i+1,l++[y],z2) ⟨hI,by dsimp only;omega⟩ ?_;unfold maI
     (exact aZ)
     all_goals(try exact hw)
     all_goals(try(rw[List.length_append];rfl))
     all_goals(try exact hL)
   ·obtain rfl:i=N:=by omega
    have hM3:M=(l,z):=by
     rw[<- m1,Nat.sub_self];rfl
    rw[hM3]at hR hM2;dsimp only at hR;have hdR:∀i,i<l.length->LeL (aqZ (e+1) (D+1) (fun _=>l) fun _=>i) (subX (e+1) (D+1) .any (fun _=>R.1) fun _=>i):=fun i hi=>by
     have ha:R.1.args=l:=by
      by_cases y:O=15
      ·rw[hR,if_pos y];show(aqs E 2 0 [] a).1=l;rw[hM2 y]
      ·rw[hR,if_neg y];rfl
     show LeL (aa8 (e+1) (D+1) .any fun _=>l.getD i default) (aa8 (e+1) D .any fun _=>R.1.args.getD i default);rw[ha];exact aqE D (fun _=>l.getD i default) (by rw[show l.getD i default=l[i] by simp[List.getD,hi]];exact hdep _ (by rw[ha];exact List.getElem_mem hi)) (D+1) D (by omega) (Nat.le_refl _)
    by_cases z15:O=15
    ·rw[if_pos z15,hM2 z15]at hR;rw[hM2 z15]at h9;subst hR;apply AWp.wk tF mF [] aqC ?_
     (repeat' with_reducible first|exact nY|refine oC ?_ ?_|refine vQ ?_ ?_ ?_|refine cV (fun _=>?_) fun _=>?_|refine wQ ?_|fail)
     all_goals(try exact zB)
     all_goals(try(exact absurd z15 ‹¬O=15›))
     all_goals(try(exfalso;omega))
     (all_goals try first|exact eZ|with_reducible (refine rQ ?_;repeat' first|apply And.intro|exact wZ)|(refine sQ ?_;repeat' first|with_reducible apply And.intro|exact cZ))
     all_goals(try rfl)
     all_goals(try exact z15)
    ·rw[if_neg z15]at hR;subst hR;apply AWp.wk tF mF [] aqC ?_
     (repeat' with_reducible first|exact nY|refine oC ?_ ?_|refine vQ ?_ ?_ ?_|refine cV (fun _=>?_) fun _=>?_|refine wQ ?_|fail)
     all_goals(try exact zB)
     all_goals(try(exact absurd ‹O=15› z15))
     all_goals(try(exfalso;omega))
     (all_goals try first|exact eZ|with_reducible (refine rQ ?_;repeat' first|apply And.intro|exact wZ)|(refine sQ ?_;repeat' first|with_reducible apply And.intro|exact cZ))
     all_goals(try rfl)
theorem arx{pe:ByteArray->Int}(hpc:∀t,t.size<=100000000000->Af Tryz.prog 43 [.str fun _=>t] [] (.tup [.any,.int .i64 fun _=>pe t]) []){e D k:Nat}(hD:65600<=D){E:MdF}(hE:∀j,k=j+1->MLv (e+1) D j 1 E):MPr (e+1) D k (aqt pe E):=fun r h q=>by
 refine⟨arL (fun j hj r h=>(hE j hj r h).1) h q,?_⟩;by_cases c:r.isT lpT=true
 ·exact as6 hD hE h q c
 by_cases d:r.peek.kind=1∧resB r.peek.text=false
 ·exact arM hpc hD hE h q c d
 ·exact arK hpc hD hE h q c d
theorem asi(pe:ByteArray->Int)(E N U:MdF):MB (mL1 pe E N U):=aqO _ _
theorem ash(pe:ByteArray->Int)(E N U:MdF):MB (mL3 pe E N U):=arz _ _
theorem asg(pe:ByteArray->Int)(E U:MdF):MB (mL8 pe E U):=arA _ _
theorem arw(pe:ByteArray->Int):∀k,MB (mrec pe k).1∧MB (mrec pe k).2.1∧MB (mrec pe k).2.2
 | 0=>⟨asi _ _ _ _,ash _ _ _ _,asg _ _ _⟩
 | _+1=>⟨asi _ _ _ _,ash _ _ _ _,asg _ _ _⟩
section
variable {pe:ByteArray->Int}(hpc:∀t,t.size<=100000000000->Af Tryz.prog 43 [.str fun _=>t] [] (.tup [.any,.int .i64 fun _=>pe t]) []){e D:Nat}(hD:65600<=D)
include hpc hD
theorem asb{k:Nat}{E N U:MdF}(hE:∀j,k=j+1->MLv (e+1) D j 1 E)(hN:∀j,k=j+1->MLv (e+1) D j 3 N)(Nb:MB N)(hU:∀j,k=j+1->MLv (e+1) D j 8 U)(Ub:MB U):
 MLv (e+1) D k 5 (mL5 pe E U)∧MLv (e+1) D k 1 (mL1 pe E N U)∧MLv (e+1) D k 3 (mL3 pe E N U)∧MLv (e+1) D k 8 (mL8 pe E U):=by
 have l8:=asa hD hU Ub (arx hpc hD hE);have l7:=aqr (n:=7) hD (by decide) l8;have l6:=aqr (n:=6) hD (by decide) l7;have l5:=aqr (n:=5) hD (by decide) l6;have l3:=as9 hD hN Nb (asf hD hE l5);have l2:=aqr (n:=2) hD (by decide) l3;exact⟨l5,aqr (n:=1) hD (by decide) l2,l3,l8⟩
theorem aqV:∀k,MLv (e+1) D k 1 (mrec pe k).1∧MLv (e+1) D k 3 (mrec pe k).2.1∧MLv (e+1) D k 8 (mrec pe k).2.2
 | 0=>(asb hpc hD (k:=0) (E:=md0) (N:=md0) (U:=md0) (fun j hj=>by omega) (fun j hj=>by omega) (fun _ _=>rfl) (fun j hj=>by omega) (fun _ _=>rfl)).2
 | k+1=>by
  obtain⟨a,b,c⟩:=aqV k;obtain⟨_,nb,ub⟩:=arw pe k;have key:∀{p:Nat->Prop},p k->∀j,k+1=j+1->p j:=fun hp j hj=>by
   obtain rfl:k=j:=by omega
   exact hp
  exact(asb hpc hD (key (p:=fun j=>MLv (e+1) D j 1 _) a) (key (p:=fun j=>MLv (e+1) D j 3 _) b) nb (key (p:=fun j=>MLv (e+1) D j 8 _) c) ub).2
end
def mfin(r:Mr):Mr:=if r.e=0∧r.peek.kind≠0 then r.fail 13 else r
def aqA(pe:ByteArray->Int)(r:Mr):X×Mr:=(mrec pe 33).1 r
def aqx(pe:ByteArray->Int)(ck:X->Int)(r:Mr):X×Int×Int×Int:=
 if(mfin ((aqA pe r).2.fail (ck (aqA pe r).1))).place.2.2≠0 then(default,(mfin ((aqA pe r).2.fail (ck (aqA pe r).1))).place)else((aqA pe r).1,0,0,0)
theorem as7{pe:ByteArray->Int}(hpc:∀t,t.size<=100000000000->Af Tryz.prog 43 [.str fun _=>t] [] (.tup [.any,.int .i64 fun _=>pe t]) []){e D:Nat}(hD:65600<=D){ck:X->Int}{s:ByteArray}{r:Mr}(h1:Af Tryz.prog 31 [.str fun _=>s] [] (.ptr 19 0) [(19,boxM r)])(h:OkM 33 r)
 (hck:Af Tryz.prog 15 [encX (e+1) D .any fun _=>(aqA pe r).1] [] (.int .i64 fun _=>ck (aqA pe r).1) []):
 Af Tryz.prog 26 [.str fun _=>s] [] (.tup [encX (e+1) D .any fun _=>(aqx pe ck r).1,.int .i64 fun _=>(aqx pe ck r).2.1,.int .i64 fun _=>(aqx pe ck r).2.2.1,.int .i64 fun _=>(aqx pe ck r).2.2.2]) []:=by
 obtain⟨-,h2⟩:=(aqV (e:=e) hpc hD 33).1 r h;rw[show(mrec pe 33).1 r=aqA pe r from rfl]at h2;obtain⟨D,rfl⟩:∃d,D=d+1:=⟨D-1,by omega⟩
 unfold aqx;generalize aqA pe r=q at*;obtain⟨x,a⟩:=q;dsimp only at*;have h3:=anX a (ck x);generalize ck x=c at*;generalize a.fail c=b at*;have h4:=anS b;have h5:=anX b 13;obtain⟨d,hd⟩:∃d,d=mfin b:=⟨_,rfl⟩
 have h6:=aoY d;rw[<- hd];unfold mfin at hd;generalize b.fail 13=w at*;generalize b.peek=p at*;generalize d.place=pl at*;obtain⟨l1,l2,l3⟩:=pl;dsimp only at h6 ⊢;clear h hD hpc;by_cases q:b.e=0∧p.kind≠0
 ·rw [if_pos q]at hd;subst hd;obtain⟨q1,q2⟩:=q;by_cases c2:l3≠0
  ·rw[if_pos c2];dsimp only
   (refine fA [.cell 2 25,.tmp 3,.tmp 4,.tmp 5] kp26 [(1,[(1,.ptr 19 0,[(19,boxM r)])]),(2,[(1,encX (e+1) (D+1) .any fun _=>x,zM a)]),(3,[(2,zI c,[]),(3,zT,zM b)]),(4,[(7,zK p,zM b)]),(5,[(1,zT,zM d)]),
     (6,[(1,.tup [zI l1,zI l2,zI l3],zM d)])] Tryz.func26 fun _=>?_;repeat' with_reducible first|exact⟨⟩|refine mA ?_ ?_|refine mC (fun _=>?_) fun _=>?_)
   all_goals(try simp only[ite_self])
   all_goals(try exact zB)
   all_goals(try(exact absurd ‹¬b.e=0∨p.kind=0› fun z=>z.elim (fun y=>y q1) q2))
   all_goals(try(exact absurd ‹l3=0› c2))
   (all_goals(try exact eZ))
   all_goals trace_state
  ·rw[if_neg c2];dsimp only
   (refine fA [.cell 2 25,.tmp 3,.tmp 4,.tmp 5] kp26 [(1,[(1,.ptr 19 0,[(19,boxM r)])]),(2,[(1,encX (e+1) (D+1) .any fun _=>x,zM a)]),(3,[(2,zI c,[]),(3,zT,zM b)]),(4,[(7,zK p,zM b)]),(5,[(1,zT,zM d)]),
     (6,[(1,.tup [zI l1,zI l2,zI l3],zM d)])] Tryz.func26 fun _=>?_;repeat' with_reducible first|exact⟨⟩|refine mA ?_ ?_|refine mC (fun _=>?_) fun _=>?_)
   all_goals(try simp only[ite_self])
   all_goals(try exact zB)
   all_goals(try(exact absurd ‹¬b.e=0∨p.kind=0› fun z=>z.elim (fun y=>y q1) q2))
   all_goals(try(exact absurd ‹¬l3=0› c2))
   (all_goals(try exact eZ))
   all_goals trace_state
 ·rw [if_neg q]at hd;subst hd;by_cases c2:l3≠0
  ·rw[if_pos c2];dsimp only
   (refine fA [.cell 2 25,.tmp 3,.tmp 4,.tmp 5] kp26 [(1,[(1,.ptr 19 0,[(19,boxM r)])]),(2,[(1,encX (e+1) (D+1) .any fun _=>x,zM a)]),(3,[(2,zI c,[]),(3,zT,zM d)]),(4,[(7,zK p,zM d)]),(5,[(1,zT,zM w)]),
     (6,[(1,.tup [zI l1,zI l2,zI l3],zM d)])] Tryz.func26 fun _=>?_;repeat' with_reducible first|exact⟨⟩|refine mA ?_ ?_|refine mC (fun _=>?_) fun _=>?_)
   all_goals(try simp only[ite_self])
   all_goals(try exact zB)
   all_goals(try(exact absurd ‹d.e=0∧¬p.kind=0› q))
   all_goals(try(exact absurd ‹l3=0› c2))
   (all_goals(try exact eZ))
   all_goals trace_state
  ·rw[if_neg c2];dsimp only
   (refine fA [.cell 2 25,.tmp 3,.tmp 4,.tmp 5] kp26 [(1,[(1,.ptr 19 0,[(19,boxM r)])]),(2,[(1,encX (e+1) (D+1) .any fun _=>x,zM a)]),(3,[(2,zI c,[]),(3,zT,zM d)]),(4,[(7,zK p,zM d)]),(5,[(1,zT,zM w)]),
     (6,[(1,.tup [zI l1,zI l2,zI l3],zM d)])] Tryz.func26 fun _=>?_;repeat' with_reducible first|exact⟨⟩|refine mA ?_ ?_|refine mC (fun _=>?_) fun _=>?_)
   all_goals(try simp only[ite_self])
   all_goals(try exact zB)
   all_goals(try(exact absurd ‹d.e=0∧¬p.kind=0› q))
   all_goals(try(exact absurd ‹¬l3=0› c2))
   (all_goals(try exact eZ))
   all_goals trace_state
end Go.Ai
