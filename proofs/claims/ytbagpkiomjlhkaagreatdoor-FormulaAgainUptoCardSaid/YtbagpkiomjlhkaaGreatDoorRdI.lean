/- Chapter 17: the reader, tied; Read and Parse under contracts of path.Parse and expr.Check. -/
import Derived.Test.YtbagpkiomjlhkaaGreatDoorRdH
import Derived.Test.YtbagpkiomjlhkaaGreatDoorLexE
set_option linter.all false
namespace Go.Ai
open Go Go.Proofs Tryz
set_option maxRecDepth 100000
set_option maxHeartbeats 4000000
abbrev dH:=Rd->X×Rd
def mD:dH:=fun r=>(default,r)
def XU(pe:ByteArray->Int)(E U:dH):dH:=cj 5 (cj 6 (cj 7 (ib U (eS E pe))))
def AP(pe:ByteArray->Int)(E N U:dH):dH:=nC N (i6 E (XU pe E U))
def Fe(pe:ByteArray->Int)(E N U:dH):dH:=cj 1 (cj 2 (AP pe E N U))
def ff(pe:ByteArray->Int):Nat->dH×dH×dH
 | 0=>(Fe pe mD mD mD,AP pe mD mD mD,ib mD (eS mD pe))
 | n+1=>(Fe pe (ff pe n).1 (ff pe n).2.1 (ff pe n).2.2,AP pe (ff pe n).1 (ff pe n).2.1 (ff pe n).2.2,ib (ff pe n).2.2 (eS (ff pe n).1 pe))
section
variable {pe:ByteArray->Int}(hpe:∀t,pe t=0->t.size<=200)(hpc:∀t,t.size<=100000000000->Asc t->Af prog 43 [.str fun _=>t] [] (.ag [.any,.int .i64 fun _=>pe t]) [])
 {e D:Nat} (hD:65600<=D)
include hpe hpc hD
theorem Mb{k:Nat}{E N U:dH}(hE:∀j,k=j+1->cW de (e+1) D j 67 E)(hN:∀j,k=j+1->cW de (e+1) D j 185 N)(hU:∀j,k=j+1->cW de (e+1) D j 282 U):
 cW de (e+1) D k 67 (Fe pe E N U)∧cW de (e+1) D k 185 (AP pe E N U)∧cW de (e+1) D k 282 (ib U (eS E pe)):=by
 have u:=WQ hD hU (XR hpe hpc hD hE);have c:=WD hD (WB hD (Wz hD u));have n:=WP hD hN (WX hD hE c);exact⟨WH hD (WF hD n),n,u⟩
theorem Mc:∀k,cW de (e+1) D k 67 (ff pe k).1∧cW de (e+1) D k 185 (ff pe k).2.1∧cW de (e+1) D k 282 (ff pe k).2.2
 | 0=>Mb hpe hpc hD (fun j hj=>zo) (fun j hj=>zo) (fun j hj=>zo)
 | k+1=>by
  obtain⟨a,b,c⟩:=Mc k;have key:∀{p:Nat->Prop},p k->∀j,k+1=j+1->p j:=fun hp j hj=>by
   obtain rfl:k=j:=zo
   exact hp
  exact Mb hpe hpc hD (key (p:=fun j=>cW de (e+1) D j 67 _) a) (key (p:=fun j=>cW de (e+1) D j 185 _) b) (key (p:=fun j=>cW de (e+1) D j 282 _) c)
end
def ep(pe:ByteArray->Int)(s:St):X×Rd:=(ff pe 33).1 (.mk s 0)
def mJ(pe:ByteArray->Int)(ck:X->Int)(s:St):X×St:=
 if(ep pe s).2.s.e≠0 then(default,(ep pe s).2.s)
 else if((ep pe s).2.s.fail (ck (ep pe s).1)).e≠0 then(default,(ep pe s).2.s.fail (ck (ep pe s).1))
 else((ep pe s).1,(ep pe s).2.s.fail (ck (ep pe s).1))
theorem XV{pe:ByteArray->Int}(hpe:∀t,pe t=0->t.size<=200)(hpc:∀t,t.size<=100000000000->Asc t->Af prog 43 [.str fun _=>t] [] (.ag [.any,.int .i64 fun _=>pe t]) [])
 {e D:Nat} (hD:65600<=D) {ck:X->Int} (s:St) (h:eu de s)
 (hck:(ep pe s).2.s.e=0->Af prog 15 [aq (e+1) D .any fun _=>(ep pe s).1] [] (.int .i64 fun _=>ck (ep pe s).1) []):
 Af prog 28 [.ptr 1000 0] [(1000,am fun _=>s)] (aq (e+1) D .any fun _=>(mJ pe ck s).1) [(1000,am fun _=>(mJ pe ck s).2)]:=by
 have hr:bU de 33 (.mk s 0):=⟨h.fin,h.len,(zd:(-1:Int)<=0),(zd:(0:Int)<=33),h.ne,.inr ⟨(zd:(0:Int)<=0),(zd:(0:Int)<=32),(zd:(33:Int)<=((33:Nat):Int)+0)⟩,h.tk⟩
 obtain⟨p1,h1⟩:=(Mc (e:=e) hpe hpc hD 33).1 (.mk s 0) hr;have e1:(ff pe 33).1 (.mk s 0)=ep pe s:=rfl;rw[e1]at p1 h1;clear e1;have h2:=uh (ep pe s).2;obtain⟨D,rfl⟩:∃d,D=d+1:=⟨D-1,zo⟩
 rw[aL,aL,show(Rd.mk s 0).s=s from rfl,show(Rd.mk s 0).o=0 from rfl]at h1;rw[aL]at h2;unfold mJ;unfold Rd.bad at h2;generalize ep pe s=q at*;obtain⟨x,r⟩:=q;dsimp only at h1 h2 hck ⊢;by_cases c1:r.s.e≠0
 ·rw[ae c1];dsimp only;rw[show(r.s.e != 0)=true by simp[c1]]at h2;clear c1 hck p1;generalize r.s=s1 at*;generalize r.o=o1 at*
  (refine fB [.cell 2 25] Ff [(4,[(1,aq (e+1) (D+1) .any fun _=>x,[(1000,aX o1),(1001000000,am fun _=>s1)])]),(5,[(1,zO true,[(1000,aX o1),(1001000000,am fun _=>s1)])]),(7,[(1,zO true,[(1000,aX o1),(1001000000,am fun _=>s1)])])] func28 fun _=>?_;repeat' first|exact⟨⟩|apply mA|apply mC<;>intro)
  trace_state
 ·rw [aa c1];have c1:r.s.e=0:=fp c1;have h3:=hck c1;rw[show(r.s.e != 0)=false by simp[c1]]at h2;have h4:=j6 r.s (ck x);have h5:=uh (r.to (r.s.fail (ck x)));rw[aL,show(r.to (r.s.fail (ck x))).s=r.s.fail (ck x)from rfl,show(r.to (r.s.fail (ck x))).o=r.o from rfl]at h5;have hb:(r.to (r.s.fail (ck x))).bad=((r.s.fail (ck x)).e != 0):=rfl;rw[hb]at h5;clear hck p1 hb hr c1;generalize ck x=c at*;generalize r.s.fail c=s2 at*;generalize r.s=s1 at*;generalize r.o=o1 at*;by_cases c2:s2.e≠0
  ·rw[ae c2];dsimp only;rw[show(s2.e != 0)=true by simp[c2]]at h5
   (refine fB [.cell 2 25] Ff [(4,[(1,aq (e+1) (D+1) .any fun _=>x,[(1000,aX o1),(1001000000,am fun _=>s1)])]),(5,[(1,zO false,[(1000,aX o1),(1001000000,am fun _=>s1)])]),
     (6,[(2,zI c,[]),(3,zT,zS s2)]),(7,[(1,zO true,[(1000,aX o1),(1001000000,am fun _=>s2)])])] func28 fun _=>?_;repeat' first|exact⟨⟩|apply mA|apply mC<;>intro)
   all_goals trace_state
  ·rw[aa c2];dsimp only;have c2:s2.e=0:=fp c2;rw[show(s2.e != 0)=false by simp[c2]]at h5
   (refine fB [.cell 2 25] Ff [(4,[(1,aq (e+1) (D+1) .any fun _=>x,[(1000,aX o1),(1001000000,am fun _=>s1)])]),(5,[(1,zO false,[(1000,aX o1),(1001000000,am fun _=>s1)])]),
     (6,[(2,zI c,[]),(3,zT,zS s2)]),(7,[(1,zO false,[(1000,aX o1),(1001000000,am fun _=>s2)])])] func28 fun _=>?_;repeat' first|exact⟨⟩|apply mA|apply mC<;>intro)
   all_goals trace_state
def oZ(s:St):St:=if s.peek.kind≠0 then s.fail 13 else s
def oY(pe:ByteArray->Int)(ck:X->Int)(S:St):X×Int×Int×Int:=
 if(oZ (mJ pe ck S).2).e≠0 then(default,(oZ (mJ pe ck S).2).line,(oZ (mJ pe ck S).2).col,(oZ (mJ pe ck S).2).e)
 else((mJ pe ck S).1,0,0,0)
def wM(pe:ByteArray->Int)(ck:X->Int)(L:List Tok):X×Int×Int×Int:=oY pe ck (.mk L 0 0 0)
theorem Jw{pe:ByteArray->Int}(hpe:∀t,pe t=0->t.size<=200)(hpc:∀t,t.size<=100000000000->Asc t->Af prog 43 [.str fun _=>t] [] (.ag [.any,.int .i64 fun _=>pe t]) [])
 {e D:Nat} (hD:65600<=D) {ck:X->Int} {s:ByteArray} (s0:St) (h1:Af prog 20 [.str fun _=>s] [] (.ptr 19 0) [(19,am fun _=>s0)]) (h:eu de s0)
 (hck:(ep pe s0).2.s.e=0->Af prog 15 [aq (e+1) D .any fun _=>(ep pe s0).1] [] (.int .i64 fun _=>ck (ep pe s0).1) []):
 Af prog 24 [.str fun _=>s] [] (.ag [aq (e+1) D .any fun _=>(oY pe ck s0).1,.int .i64 fun _=>(oY pe ck s0).2.1,.int .i64 fun _=>(oY pe ck s0).2.2.1,.int .i64 fun _=>(oY pe ck s0).2.2.2]) []:=by
 have h2:=XV hpe hpc hD _ h hck;obtain⟨D,rfl⟩:∃d,D=d+1:=⟨D-1,zo⟩
 unfold oY;generalize mJ pe ck s0=q at*;obtain⟨x,u⟩:=q;dsimp only at h2 ⊢;have h3:=ju u;have h4:=j6 u 13;have h5:=DO (oZ u);obtain⟨v,hv⟩:∃v,v=oZ u:=⟨_,rfl⟩
 rw[<- hv]at h5 ⊢;unfold oZ at hv;generalize u.fail 13=w at*;generalize u.peek=p at*;clear hck;by_cases c1:p.kind≠0
 ·rw [ae c1]at hv;subst hv;by_cases c2:v.e≠0
  ·rw[ae c2];dsimp only
   (refine fA [.cell 2 25,.tmp 3,.tmp 4,.tmp 5] AQ [(1,[(1,.ptr 19 0,[(19,am fun _=>s0)])]),(2,[(1,aq (e+1) (D+1) .any fun _=>x,zS u)]),(3,[(1,zK p,zS u)]),(4,[(1,zT,zS v)]),
     (5,[(1,.ag [.int .i64 fun _=>v.line,.int .i64 fun _=>v.col,.int .i64 fun _=>v.e],zS v)])] func24 fun _=>?_;repeat' first|exact⟨⟩|apply mA|apply mC<;>intro)
   all_goals try exact zB
   all_goals try exact absurd ‹p.kind=0› c1
   all_goals try exact absurd ‹v.e=0› c2
   all_goals try exact eZ
   all_goals rfl
  ·rw[aa c2];dsimp only
   (refine fA [.cell 2 25,.tmp 3,.tmp 4,.tmp 5] AQ [(1,[(1,.ptr 19 0,[(19,am fun _=>s0)])]),(2,[(1,aq (e+1) (D+1) .any fun _=>x,zS u)]),(3,[(1,zK p,zS u)]),(4,[(1,zT,zS v)]),
     (5,[(1,.ag [.int .i64 fun _=>v.line,.int .i64 fun _=>v.col,.int .i64 fun _=>v.e],zS v)])] func24 fun _=>?_;repeat' first|exact⟨⟩|apply mA|apply mC<;>intro)
   all_goals try exact zB
   all_goals try exact absurd ‹p.kind=0› c1
   all_goals try exact absurd ‹¬v.e=0› c2
   (all_goals exact eZ)
 ·rw [aa c1]at hv;subst hv;by_cases c2:v.e≠0
  ·rw[ae c2];dsimp only
   (refine fA [.cell 2 25,.tmp 3,.tmp 4,.tmp 5] AQ [(1,[(1,.ptr 19 0,[(19,am fun _=>s0)])]),(2,[(1,aq (e+1) (D+1) .any fun _=>x,zS v)]),(3,[(1,zK p,zS v)]),
     (5,[(1,.ag [.int .i64 fun _=>v.line,.int .i64 fun _=>v.col,.int .i64 fun _=>v.e],zS v)])] func24 fun _=>?_;repeat' first|exact⟨⟩|apply mA|apply mC<;>intro)
   all_goals try exact zB
   all_goals try exact absurd ‹¬p.kind=0› c1
   all_goals try exact absurd ‹v.e=0› c2
   all_goals try exact eZ
   all_goals rfl
  ·rw[aa c2];dsimp only
   (refine fA [.cell 2 25,.tmp 3,.tmp 4,.tmp 5] AQ [(1,[(1,.ptr 19 0,[(19,am fun _=>s0)])]),(2,[(1,aq (e+1) (D+1) .any fun _=>x,zS v)]),(3,[(1,zK p,zS v)]),
     (5,[(1,.ag [.int .i64 fun _=>v.line,.int .i64 fun _=>v.col,.int .i64 fun _=>v.e],zS v)])] func24 fun _=>?_;repeat' first|exact⟨⟩|apply mA|apply mC<;>intro)
   all_goals try exact zB
   all_goals try exact absurd ‹¬p.kind=0› c1
   all_goals try exact absurd ‹¬v.e=0› c2
   (all_goals exact eZ)
theorem RW{pe:ByteArray->Int}(hpe:∀t,pe t=0->t.size<=200)(hpc:∀t,t.size<=100000000000->Asc t->Af prog 43 [.str fun _=>t] [] (.ag [.any,.int .i64 fun _=>pe t]) [])
 {e D:Nat} (hD:65600<=D) {ck:X->Int} {s:ByteArray} (L:List Tok) (h1:Af prog 20 [.str fun _=>s] [] (.ptr 19 0) [(19,am fun _=>.mk L 0 0 0)]) (h:eu de (.mk L 0 0 0))
 (hck:(ep pe (.mk L 0 0 0)).2.s.e=0->Af prog 15 [aq (e+1) D .any fun _=>(ep pe (.mk L 0 0 0)).1] [] (.int .i64 fun _=>ck (ep pe (.mk L 0 0 0)).1) []):
 Af prog 24 [.str fun _=>s] [] (.ag [aq (e+1) D .any fun _=>(wM pe ck L).1,.int .i64 fun _=>(wM pe ck L).2.1,.int .i64 fun _=>(wM pe ck L).2.2.1,.int .i64 fun _=>(wM pe ck L).2.2.2]) []:=Jw hpe hpc hD _ h1 h hck
end Go.Ai
