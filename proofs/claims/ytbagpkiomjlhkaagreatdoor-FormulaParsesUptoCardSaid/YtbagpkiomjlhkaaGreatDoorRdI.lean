/- Chapter 17: the reader, tied; Read and Parse under contracts of path.Parse and expr.Check. -/
import Derived.Test.YtbagpkiomjlhkaaGreatDoorRdH
import Derived.Test.YtbagpkiomjlhkaaGreatDoorLexE
set_option linter.all false
namespace Go.Ai
open Go Go.Proofs
set_option maxRecDepth 100000
set_option maxHeartbeats 4000000
abbrev RdF:=Rd->X×Rd
def rd0:RdF:=fun r=>(default,r)
def chsF(pe:ByteArray->Int)(E U:RdF):RdF:=aaT 5 (aaT 6 (aaT 7 (unF U (ahj E pe))))
def lvlN(pe:ByteArray->Int)(E N U:RdF):RdF:=negF N (cmpF E (chsF pe E U))
def lvlE(pe:ByteArray->Int)(E N U:RdF):RdF:=aaT 1 (aaT 2 (lvlN pe E N U))
def recV(pe:ByteArray->Int):Nat->RdF×RdF×RdF
 | 0=>(lvlE pe rd0 rd0 rd0,lvlN pe rd0 rd0 rd0,unF rd0 (ahj rd0 pe))
 | n+1=>(lvlE pe (recV pe n).1 (recV pe n).2.1 (recV pe n).2.2,lvlN pe (recV pe n).1 (recV pe n).2.1 (recV pe n).2.2,unF (recV pe n).2.2 (ahj (recV pe n).1 pe))
section
variable {pe:ByteArray->Int}(hpe:∀t,pe t=0->t.size<=200)(hpc:∀t,t.size<=100000000000->Asc t->Af Tryz.prog 43 [.str fun _=>t] [] (.tup [.any,.int .i64 fun _=>pe t]) [])
 {e D:Nat} (hD:65600<=D)
include hpe hpc hD
theorem lvl_ok{k:Nat}{E N U:RdF}(hE:∀j,k=j+1->Fun PlTok (e+1) D j 67 E)(hN:∀j,k=j+1->Fun PlTok (e+1) D j 185 N)(hU:∀j,k=j+1->Fun PlTok (e+1) D j 282 U):
 Fun PlTok (e+1) D k 67 (lvlE pe E N U)∧Fun PlTok (e+1) D k 185 (lvlN pe E N U)∧Fun PlTok (e+1) D k 282 (unF U (ahj E pe)):=by
 have u:=arp hD hU (akL hpe hpc hD hE);have c:=ank hD (sum_ok hD (akK hD u));have n:=aiP hD hN (agM hD hE c);exact⟨expr_ok hD (asq hD n),n,u⟩
theorem arT:∀k,Fun PlTok (e+1) D k 67 (recV pe k).1∧Fun PlTok (e+1) D k 185 (recV pe k).2.1∧Fun PlTok (e+1) D k 282 (recV pe k).2.2
 | 0=>lvl_ok hpe hpc hD (fun j hj=>by omega) (fun j hj=>by omega) (fun j hj=>by omega)
 | k+1=>by
  obtain⟨a,b,c⟩:=arT k;have key:∀{p:Nat->Prop},p k->∀j,k+1=j+1->p j:=fun hp j hj=>by
   obtain rfl:k=j:=by omega
   exact hp
  exact lvl_ok hpe hpc hD (key (p:=fun j=>Fun PlTok (e+1) D j 67 _) a) (key (p:=fun j=>Fun PlTok (e+1) D j 185 _) b) (key (p:=fun j=>Fun PlTok (e+1) D j 282 _) c)
end
def abP(pe:ByteArray->Int)(s:St):X×Rd:=(recV pe 33).1 (.mk s 0)
def agk(pe:ByteArray->Int)(ck:X->Int)(s:St):X×St:=
 if(abP pe s).2.s.e≠0 then(default,(abP pe s).2.s)
 else if((abP pe s).2.s.fail (ck (abP pe s).1)).e≠0 then(default,(abP pe s).2.s.fail (ck (abP pe s).1))
 else((abP pe s).1,(abP pe s).2.s.fail (ck (abP pe s).1))
theorem read_ok{pe:ByteArray->Int}(hpe:∀t,pe t=0->t.size<=200)(hpc:∀t,t.size<=100000000000->Asc t->Af Tryz.prog 43 [.str fun _=>t] [] (.tup [.any,.int .i64 fun _=>pe t]) [])
 {e D:Nat} (hD:65600<=D) {ck:X->Int} (s:St) (h:OkS PlTok s)
 (hck:(abP pe s).2.s.e=0->Af Tryz.prog 15 [encX (e+1) D .any fun _=>(abP pe s).1] [] (.int .i64 fun _=>ck (abP pe s).1) []):
 Af Tryz.prog 28 [.ptr 1000 0] [(1000,boxS fun _=>s)] (encX (e+1) D .any fun _=>(agk pe ck s).1) [(1000,boxS fun _=>(agk pe ck s).2)]:=by
 have hr:Okr PlTok 33 (.mk s 0):=⟨h.fin,h.len,(by decide:(-1:Int)<=0),(by decide:(0:Int)<=33),h.ne,.inr ⟨(by decide:(0:Int)<=0),(by decide:(0:Int)<=32),(by decide:(33:Int)<=((33:Nat):Int)+0)⟩,h.tk⟩
 obtain⟨p1,h1⟩:=(arT (e:=e) hpe hpc hD 33).1 (.mk s 0) hr;have e1:(recV pe 33).1 (.mk s 0)=abP pe s:=rfl;rw[e1]at p1 h1;clear e1;have h2:=abq (abP pe s).2;obtain⟨D,rfl⟩:∃d,D=d+1:=⟨D-1,by omega⟩
 rw[aa0,aa0,show(Rd.mk s 0).s=s from rfl,show(Rd.mk s 0).o=0 from rfl]at h1;rw[aa0]at h2;unfold agk;unfold Rd.bad at h2;generalize abP pe s=q at*;obtain⟨x,r⟩:=q;dsimp only at h1 h2 hck ⊢;by_cases c1:r.s.e≠0
 ·rw[if_pos c1];dsimp only;rw[show(r.s.e != 0)=true by simp[c1]]at h2;clear c1 hck p1;generalize r.s=s1 at*;generalize r.o=o1 at*
  (refine fB [.cell 2 25] kp28 [(4,[(1,encX (e+1) (D+1) .any fun _=>x,[(1000,boxO o1),(1001000000,boxS fun _=>s1)])]),(5,[(1,zO true,[(1000,boxO o1),(1001000000,boxS fun _=>s1)])]),(7,[(1,zO true,[(1000,boxO o1),(1001000000,boxS fun _=>s1)])])] Tryz.func28 fun _=>?_;repeat' with_reducible first|exact⟨⟩|refine mA ?_ ?_|refine mC (fun _=>?_) fun _=>?_)
  trace_state
 ·rw [if_neg c1];have c1:r.s.e=0:=Classical.byContradiction c1;have h3:=hck c1;rw[show(r.s.e != 0)=false by simp[c1]]at h2;have h4:=abE r.s (ck x);have h5:=abq (r.to (r.s.fail (ck x)));rw[aa0,show(r.to (r.s.fail (ck x))).s=r.s.fail (ck x)from rfl,show(r.to (r.s.fail (ck x))).o=r.o from rfl]at h5;have hb:(r.to (r.s.fail (ck x))).bad=((r.s.fail (ck x)).e != 0):=rfl;rw[hb]at h5;clear hck p1 hb hr c1;generalize ck x=c at*;generalize r.s.fail c=s2 at*;generalize r.s=s1 at*;generalize r.o=o1 at*;by_cases c2:s2.e≠0
  ·rw[if_pos c2];dsimp only;rw[show(s2.e != 0)=true by simp[c2]]at h5
   (refine fB [.cell 2 25] kp28 [(4,[(1,encX (e+1) (D+1) .any fun _=>x,[(1000,boxO o1),(1001000000,boxS fun _=>s1)])]),(5,[(1,zO false,[(1000,boxO o1),(1001000000,boxS fun _=>s1)])]),
     (6,[(2,zI c,[]),(3,zT,zS s2)]),(7,[(1,zO true,[(1000,boxO o1),(1001000000,boxS fun _=>s2)])])] Tryz.func28 fun _=>?_;repeat' with_reducible first|exact⟨⟩|refine mA ?_ ?_|refine mC (fun _=>?_) fun _=>?_)
   all_goals trace_state
  ·rw[if_neg c2];dsimp only;have c2:s2.e=0:=Classical.byContradiction c2;rw[show(s2.e != 0)=false by simp[c2]]at h5
   (refine fB [.cell 2 25] kp28 [(4,[(1,encX (e+1) (D+1) .any fun _=>x,[(1000,boxO o1),(1001000000,boxS fun _=>s1)])]),(5,[(1,zO false,[(1000,boxO o1),(1001000000,boxS fun _=>s1)])]),
     (6,[(2,zI c,[]),(3,zT,zS s2)]),(7,[(1,zO false,[(1000,boxO o1),(1001000000,boxS fun _=>s2)])])] Tryz.func28 fun _=>?_;repeat' with_reducible first|exact⟨⟩|refine mA ?_ ?_|refine mC (fun _=>?_) fun _=>?_)
   all_goals trace_state
def endF(s:St):St:=if s.peek.kind≠0 then s.fail 13 else s
def aqF(pe:ByteArray->Int)(ck:X->Int)(S:St):X×Int×Int×Int:=
 if(endF (agk pe ck S).2).e≠0 then(default,(endF (agk pe ck S).2).line,(endF (agk pe ck S).2).col,(endF (agk pe ck S).2).e)
 else((agk pe ck S).1,0,0,0)
def afD(pe:ByteArray->Int)(ck:X->Int)(L:List Tok):X×Int×Int×Int:=aqF pe ck (.mk L 0 0 0)
theorem ar1{pe:ByteArray->Int}(hpe:∀t,pe t=0->t.size<=200)(hpc:∀t,t.size<=100000000000->Asc t->Af Tryz.prog 43 [.str fun _=>t] [] (.tup [.any,.int .i64 fun _=>pe t]) [])
 {e D:Nat} (hD:65600<=D) {ck:X->Int} {s:ByteArray} (s0:St) (h1:Af Tryz.prog 20 [.str fun _=>s] [] (.ptr 19 0) [(19,boxS fun _=>s0)]) (h:OkS PlTok s0)
 (hck:(abP pe s0).2.s.e=0->Af Tryz.prog 15 [encX (e+1) D .any fun _=>(abP pe s0).1] [] (.int .i64 fun _=>ck (abP pe s0).1) []):
 Af Tryz.prog 24 [.str fun _=>s] [] (.tup [encX (e+1) D .any fun _=>(aqF pe ck s0).1,.int .i64 fun _=>(aqF pe ck s0).2.1,.int .i64 fun _=>(aqF pe ck s0).2.2.1,.int .i64 fun _=>(aqF pe ck s0).2.2.2]) []:=by
 have h2:=read_ok hpe hpc hD _ h hck;obtain⟨D,rfl⟩:∃d,D=d+1:=⟨D-1,by omega⟩
 unfold aqF;generalize agk pe ck s0=q at*;obtain⟨x,u⟩:=q;dsimp only at h2 ⊢;have h3:=aal u;have h4:=abE u 13;have h5:=ana (endF u);obtain⟨v,hv⟩:∃v,v=endF u:=⟨_,rfl⟩
 rw[<- hv]at h5 ⊢;unfold endF at hv;generalize u.fail 13=w at*;generalize u.peek=p at*;clear hck;by_cases c1:p.kind≠0
 ·rw [if_pos c1]at hv;subst hv;by_cases c2:v.e≠0
  ·rw[if_pos c2];dsimp only
   (refine fA [.cell 2 25,.tmp 3,.tmp 4,.tmp 5] kp24 [(1,[(1,.ptr 19 0,[(19,boxS fun _=>s0)])]),(2,[(1,encX (e+1) (D+1) .any fun _=>x,zS u)]),(3,[(1,zK p,zS u)]),(4,[(1,zT,zS v)]),
     (5,[(1,.tup [.int .i64 fun _=>v.line,.int .i64 fun _=>v.col,.int .i64 fun _=>v.e],zS v)])] Tryz.func24 fun _=>?_;repeat' with_reducible first|exact⟨⟩|refine mA ?_ ?_|refine mC (fun _=>?_) fun _=>?_)
   all_goals(try exact zB)
   all_goals(try(exact absurd ‹p.kind=0› c1))
   all_goals(try(exact absurd ‹v.e=0› c2))
   (all_goals(try exact eZ))
   all_goals rfl
  ·rw[if_neg c2];dsimp only
   (refine fA [.cell 2 25,.tmp 3,.tmp 4,.tmp 5] kp24 [(1,[(1,.ptr 19 0,[(19,boxS fun _=>s0)])]),(2,[(1,encX (e+1) (D+1) .any fun _=>x,zS u)]),(3,[(1,zK p,zS u)]),(4,[(1,zT,zS v)]),
     (5,[(1,.tup [.int .i64 fun _=>v.line,.int .i64 fun _=>v.col,.int .i64 fun _=>v.e],zS v)])] Tryz.func24 fun _=>?_;repeat' with_reducible first|exact⟨⟩|refine mA ?_ ?_|refine mC (fun _=>?_) fun _=>?_)
   all_goals(try exact zB)
   all_goals(try(exact absurd ‹p.kind=0› c1))
   all_goals(try(exact absurd ‹¬v.e=0› c2))
   (all_goals exact eZ)
 ·rw [if_neg c1]at hv;subst hv;by_cases c2:v.e≠0
  ·rw[if_pos c2];dsimp only
   (refine fA [.cell 2 25,.tmp 3,.tmp 4,.tmp 5] kp24 [(1,[(1,.ptr 19 0,[(19,boxS fun _=>s0)])]),(2,[(1,encX (e+1) (D+1) .any fun _=>x,zS v)]),(3,[(1,zK p,zS v)]),
     (5,[(1,.tup [.int .i64 fun _=>v.line,.int .i64 fun _=>v.col,.int .i64 fun _=>v.e],zS v)])] Tryz.func24 fun _=>?_;repeat' with_reducible first|exact⟨⟩|refine mA ?_ ?_|refine mC (fun _=>?_) fun _=>?_)
   all_goals(try exact zB)
   all_goals(try(exact absurd ‹¬p.kind=0› c1))
   all_goals(try(exact absurd ‹v.e=0› c2))
   (all_goals(try exact eZ))
   all_goals rfl
  ·rw[if_neg c2];dsimp only
   (refine fA [.cell 2 25,.tmp 3,.tmp 4,.tmp 5] kp24 [(1,[(1,.ptr 19 0,[(19,boxS fun _=>s0)])]),(2,[(1,encX (e+1) (D+1) .any fun _=>x,zS v)]),(3,[(1,zK p,zS v)]),
     (5,[(1,.tup [.int .i64 fun _=>v.line,.int .i64 fun _=>v.col,.int .i64 fun _=>v.e],zS v)])] Tryz.func24 fun _=>?_;repeat' with_reducible first|exact⟨⟩|refine mA ?_ ?_|refine mC (fun _=>?_) fun _=>?_)
   all_goals(try exact zB)
   all_goals(try(exact absurd ‹¬p.kind=0› c1))
   all_goals(try(exact absurd ‹¬v.e=0› c2))
   (all_goals exact eZ)
theorem parse_ok{pe:ByteArray->Int}(hpe:∀t,pe t=0->t.size<=200)(hpc:∀t,t.size<=100000000000->Asc t->Af Tryz.prog 43 [.str fun _=>t] [] (.tup [.any,.int .i64 fun _=>pe t]) [])
 {e D:Nat} (hD:65600<=D) {ck:X->Int} {s:ByteArray} (L:List Tok) (h1:Af Tryz.prog 20 [.str fun _=>s] [] (.ptr 19 0) [(19,boxS fun _=>.mk L 0 0 0)]) (h:OkS PlTok (.mk L 0 0 0))
 (hck:(abP pe (.mk L 0 0 0)).2.s.e=0->Af Tryz.prog 15 [encX (e+1) D .any fun _=>(abP pe (.mk L 0 0 0)).1] [] (.int .i64 fun _=>ck (abP pe (.mk L 0 0 0)).1) []):
 Af Tryz.prog 24 [.str fun _=>s] [] (.tup [encX (e+1) D .any fun _=>(afD pe ck L).1,.int .i64 fun _=>(afD pe ck L).2.1,.int .i64 fun _=>(afD pe ck L).2.2.1,.int .i64 fun _=>(afD pe ck L).2.2.2]) []:=ar1 hpe hpc hD _ h1 h hck
end Go.Ai
