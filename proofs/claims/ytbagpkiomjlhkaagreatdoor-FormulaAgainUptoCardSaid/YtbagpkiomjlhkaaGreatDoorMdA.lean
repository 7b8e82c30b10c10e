/- Chapter 17: the law's model of the printer: signs, bindings, words of calls, digits, reserved words. -/
import Derived.Test.YtbagpkiomjlhkaaGreatDoorTxD
set_option linter.all false
namespace Go.Ai
open Go Go.Proofs Tryz
set_option maxRecDepth 100000
set_option maxHeartbeats 4000000
def gm(op:Int):ByteArray:=if op=5 then⟨#[32,111,114,32]⟩else if op=4 then⟨#[32,97,110,100,32]⟩else if op=6 then⟨#[32,61,32]⟩else if op=7 then⟨#[32,33,61,32]⟩else if op=8 then⟨#[32,60,32]⟩else if op=9 then⟨#[32,60,61,32]⟩else
 if op=10 then⟨#[32,62,32]⟩else if op=11 then⟨#[32,62,61,32]⟩else if op=23 then⟨#[32,101,108,115,101,32]⟩else if op=12 then⟨#[32,43,32]⟩else if op=13 then⟨#[32,45,32]⟩else if op=17 then⟨#[32,38,32]⟩else if op=14 then⟨#[32,42,32]⟩else⟨#[]⟩
def eE(op:Int):Int:=if op=5 then 1 else if op=4 then 2 else if op=6 then 4 else if op=7 then 4 else if op=8 then 4 else if op=9 then 4 else if op=10 then 4 else if op=11 then 4 else if op=23 then 5 else if op=12 then 6 else if op=13 then 6 else if op=17 then 6 else if op=14 then 7 else 0
def lM(op:Int):Af prog 46 [.int .i64 fun _=>op] [] (.ag [.str fun _=>gm op,.int .i64 fun _=>eE op]) []:=by
 obtain⟨s,hs⟩:∃s,s=gm op:=⟨_,rfl⟩
 obtain⟨n,hn⟩:∃n,n=eE op:=⟨_,rfl⟩
 rw[<- hs,<- hn]
 (refine fB [.tmp 2,.tmp 3] Tv [] func46 fun _=>?_;repeat' first|exact⟨⟩|apply mA|apply mC<;>intro)
 all_goals(first|rw[hs]|rw[hn])
 all_goals(first|unfold gm|unfold eE)
 all_goals(simp only[*,bC,dg])
 all_goals rfl
def qi(op:Int):(0<eE op∧eE op=aE op∧gm op=⟨#[32]⟩++gU op (aE op).toNat++⟨#[32]⟩∧aE op<8∧op≠3∧op≠25∧op≠16∧op≠1∧op≠2)∨(eE op=0∧aE op=if op=3 then 3 else if op=25 then 4 else if op=16 then 8 else 9):=by
 by_cases h1:op=5
 ·subst h1;left;decide
 by_cases h2:op=4
 ·subst h2;left;decide
 by_cases h3:op=6
 ·subst h3;left;decide
 by_cases h4:op=7
 ·subst h4;left;decide
 by_cases h5:op=8
 ·subst h5;left;decide
 by_cases h6:op=9
 ·subst h6;left;decide
 by_cases h7:op=10
 ·subst h7;left;decide
 by_cases h8:op=11
 ·subst h8;left;decide
 by_cases h9:op=23
 ·subst h9;left;decide
 by_cases h10:op=12
 ·subst h10;left;decide
 by_cases h11:op=13
 ·subst h11;left;decide
 by_cases h12:op=17
 ·subst h12;left;decide
 by_cases D1:op=14
 ·subst D1;left;decide
 right;have q:∀k:Int,¬op=k->(k==op)=false:=fun k h=>uT.2 fun e=>h e.symm;refine⟨by unfold eE;simp only[*,dg],?_⟩;unfold aE;have e:lY op 10 0=9:=by
  simp[lY,opsL,q _ h1,q _ h2,q _ h3,q _ h4,q _ h5,q _ h6,q _ h7,q _ h8,q _ h9,q _ h10,q _ h11,q _ h12,q _ D1]
 rw[e]
def qj(x:X)(e D:Nat):Af prog 45 [aq (e+1) D .any fun _=>x] [] (.int .i64 fun _=>aE x.op) []:=by
 have h1:=lM x.op;have h2:=qi x.op;generalize aE x.op=b at*;generalize gm x.op=s at*;generalize eE x.op=n at*
 (refine fB [.tmp 2] Tw [(1,[(2,.ag [zR s,zI n],[])])] func45 fun _=>?_;repeat' first|exact⟨⟩|apply mA|apply mC<;>intro)
 all_goals(rcases h2 with⟨a,b,-,c,d1,d2,d3,-⟩|⟨a,b⟩)
 all_goals(first|omega|(rw[b];simp only[*,bC,dg])|skip)
def qk(op:Int):ByteArray:=if op=18 then⟨#[108,101,110,103,116,104]⟩else if op=19 then⟨#[108,111,119,101,114]⟩else if op=20 then⟨#[117,112,112,101,114]⟩else if op=27 then⟨#[116,101,120,116]⟩else if op=28 then⟨#[110,117,109,98,101,114]⟩else
 if op=21 then⟨#[115,108,105,99,101]⟩else if op=24 then⟨#[105,102]⟩else if op=15 then⟨#[100,105,118,105,100,101]⟩else if op=22 then⟨#[104,97,115]⟩else if op=26 then⟨#[115,117,109]⟩else⟨#[]⟩
def Tx(op:Int):Af prog 50 [.int .i64 fun _=>op] [] (.str fun _=>qk op) []:=by
 obtain⟨s,hs⟩:∃s,s=qk op:=⟨_,rfl⟩
 rw[<- hs]
 (refine fB [.tmp 2] Ty [] func50 fun _=>?_;repeat' first|exact⟨⟩|apply mA|apply mC<;>intro)
 all_goals rw[hs]
 all_goals unfold qk
 all_goals(simp only[*,bC,dg])
 all_goals rfl
def Tz{x:X}{I:ByteArray}(h1:1<=x.op)(h2:x.op<=28)(hb:aE x.op=9)(o1:¬x.op=1)(o2:¬x.op=2):((ba.find? fun p=>p.2.1==x.op).elim ⟨#[]⟩ fun p=>p.1++⟨#[40]⟩++I++⟨#[41]⟩)=qk x.op++⟨#[40]⟩++I++⟨#[41]⟩:=by
 generalize x.op=o at*;have key:(ba.find? fun p=>p.2.1==o).map (·.1)=some (qk o):=by
  rcases(zo:o=3∨o=4∨o=5∨o=6∨o=7∨o=8∨o=9∨o=10∨o=11∨o=12∨o=13∨o=14∨o=15∨o=16∨o=17∨o=18∨o=19∨o=20∨o=21∨o=22∨o=23∨o=24∨o=25∨o=26∨o=27∨o=28)with
   rfl|rfl|rfl|rfl|rfl|rfl|rfl|rfl|rfl|rfl|rfl|rfl|rfl|rfl|rfl|rfl|rfl|rfl|rfl|rfl|rfl|rfl|rfl|rfl|rfl|rfl
  all_goals first|decide|(exact absurd hb zd)
 cases hf:ba.find? fun p=>p.2.1==o with
 | none=>rw[hf]at key;cases key
 | some p=>rw[hf]at key;simp only[eM,cB]at key;simp only[Option.elim,key]
def TA(n:Int)(h0:0<=n)(h1:n<=12):Af prog 49 [.int .i64 fun _=>n] [] (.str fun _=>cE n) []:=by
 obtain⟨s,hs⟩:∃s,s=cE n:=⟨_,rfl⟩
 rw[<- hs]
 (refine fB [.tmp 2] TB [] func49 fun _=>?_;repeat' first|exact⟨⟩|apply mA|apply mC<;>intro)
 any_goals(intro i hi;rcases(zo:i=0∨i=1)with rfl|rfl<;>first|rfl|omega)
 all_goals(rcases(zo:n=0∨n=1∨n=2∨n=3∨n=4∨n=5∨n=6∨n=7∨n=8∨n=9∨n=10∨n=11∨n=12)with rfl|rfl|rfl|rfl|rfl|rfl|rfl|rfl|rfl|rfl|rfl|rfl|rfl)
 all_goals first|(exfalso;omega)|(rw[hs];cbv)
theorem D4(s t:ByteArray):∀(ts:List ByteArray),ts≠[]->bO (ts++[t]) s=bO ts s++s++t
 | [],h=>absurd rfl h
 | [u],_=>by rw[show[u]++[t]=[u,t]from rfl,rG,rH,rH]
 | u::v::ts,_=>by
  have ih:=D4 s t (v::ts) (List.cons_ne_nil _ _);show bO (u::v::(ts++[t])) s=_;rw[rG,show v::(ts++[t])=(v::ts)++[t]from rfl,ih,rG];simp only[ee]
theorem JS(s:ByteArray):∀(us ts:List ByteArray),(bO ts s).size<=(bO (ts++us) s).size
 | [],ts=>by rw[uS];exact ao _
 | u::us,ts=>by
  have h:=JS s us (ts++[u]);rw[gF]at h;refine aG ?_ h;by_cases q:ts=[]
  ·subst q;exact aB _
  ·rw[D4 s u ts q,aj,aj];omega
def JT(T:X->ByteArray)(e D:Nat)(l:List X)(hl:l.length<=1073741824)(hT:∀i,i<l.length->Af prog 17 [aq (e+1) D .any fun _=>l.getD i default,.int .i64 fun _=>1] [] (.str fun _=>T (l.getD i default)) [])
 (hz:(bO (l.map T) cR).size<=140737488355328):Af prog 47 [eP (e+1) D .any fun _=>l] [] (.str fun _=>bO (l.map T) cR) []:=by
 obtain⟨J,hJ⟩:∃J:Nat->ByteArray,J=fun i=>bO ((l.take i).map T) cR:=⟨_,rfl⟩
 have jz0:J 0=⟨#[]⟩:=by rw[hJ];rfl
 have jl:bO (l.map T) cR=J l.length:=by rw[hJ];dsimp only;rw[List.take_length]
 have js:∀i,i<l.length->(J i).size<=140737488355328∧(J (i+1)).size<=140737488355328∧J (i+1)=if 0<i then J i++cR++T (l.getD i default)else J i++T (l.getD i default):=fun i hi=>by
  have key:∀k,(J k).size<=140737488355328:=fun k=>by
   rw[hJ];dsimp only;have:=JS cR ((l.drop k).map T) ((l.take k).map T);rw[<- Bh,FL]at this;exact aG this hz
  refine⟨key i,key _,?_⟩;have e1:(l.take (i+1)).map T=(l.take i).map T++[T (l.getD i default)]:=by
   rw[FH hi,Bh];simp[List.getD,hi]
  rw[hJ];dsimp only;rw[e1];by_cases c:0<i
  ·rw[ae c];refine D4 _ _ _ fun q=>?_;have:=ak List.length q;rw[kr,u6]at this;simp only[bV]at this;omega
  ·obtain rfl:i=0:=by omega
   rw[aa c];show bO [T (l.getD 0 default)] cR=bO [] cR++_;rw[rH];apply gp;simp[iF,bO,Lib.join]
 rw[jl];clear jl hJ hz;unfold eP
 (refine fA [.tmp 2] Aa [] func47 fun _=>?_;repeat' first|exact⟨⟩|apply mA|apply mC<;>intro)
 refine .loop (fun i:Nat=>⟨23,[(4,.int .i64 fun _=>(i:Int)),(3,.str fun _=>J i),(0,eP (e+1) D .any fun _=>l)],[]⟩) (fun i=>i<=l.length) (fun i=>l.length-i) 0 (aB _) ?_ fun i E hi=>?_
 ·(focus(refine aQ ?_;repeat' first|with_reducible apply ai|exact wZ|fail))
  exact jz0.symm
 by_cases hi:i<l.length
 ·have h3:=hT i hi;obtain⟨s1,s2,s3⟩:=js i hi;generalize T (l.getD i default)=t at*;obtain⟨u,hu⟩:∃u,u=J (i+1):=⟨_,rfl⟩
  rw[<- hu]at s2 s3;generalize J i=s at*;have hc:cR.size=2:=rfl;by_cases c:0<i
  ·rw[ae c]at s3;have s4:=s2;rw[s3,aj,aj,hc]at s4;apply af.wk tF mF [(7,[(5,zR t,[])])] Aa ?_
   (refine oA ?_;repeat' first|exact⟨⟩|apply mA|apply mC<;>intro)
   all_goals(try simp only[bu])
   all_goals try exact zB
   all_goals try exact absurd hi ‹¬i<l.length›
   all_goals try exact absurd ‹(i:Int)<=0› zo
   (all_goals try first|exact eZ|(refine qC ?_;repeat' first|exact⟨⟩|apply mA))
   ·show s.size+2<=_;omega
   ·rw[aj];show _+2+_<=_;omega
   refine dE (i+1) ⟨zo,zo⟩ ?_
   (focus(refine aQ ?_;repeat' first|with_reducible apply ai|exact wZ|fail))
   ·exact aS zo
   ·rw[<- hu];exact s3.symm
  ·rw[aa c]at s3;have s4:=s2;rw[s3,aj]at s4;apply af.wk tF mF [(7,[(5,zR t,[])])] Aa ?_
   (refine oA ?_;repeat' first|exact⟨⟩|apply mA|apply mC<;>intro)
   all_goals(try simp only[bu])
   all_goals try exact zB
   all_goals try exact absurd hi ‹¬i<l.length›
   all_goals try exact absurd ‹(0:Int)<(i:Int)› zo
   all_goals try exact eZ
   refine dE (i+1) ⟨zo,zo⟩ ?_
   (focus(refine aQ ?_;repeat' first|with_reducible apply ai|exact wZ|fail))
   ·exact aS zo
   ·rw[<- hu];exact s3.symm
 ·obtain rfl:i=l.length:=by omega
  apply af.wk tF mF [(7,[(5,.any,[])])] Aa ?_
  (refine oA ?_;repeat' first|exact⟨⟩|apply mA|apply mC<;>intro)
  all_goals try exact absurd ‹l.length<l.length› hi
  all_goals exact eZ
def j8:List (Nat×cL):=[(2,[(1,.any,[])]),(3,[(2,.any,[])]),(8,[(5,.any,[]),(13,.any,[])]),(11,[(4,.any,[])]),(13,[(4,.any,[]),(9,.any,[])]),(17,[(1,.any,[])]),(18,[(1,.any,[])]),(20,[(4,.any,[])]),(24,[(2,.any,[])]),(26,[(4,.any,[])]),(30,[(5,.any,[])]),(31,[(2,.any,[])])]
def ui(T:X->Int->ByteArray)(e D:Nat)(x:X):Prop:=∀n,1<=n->n<=9->(T x n).size<=1152921504606846976->Af prog 17 [aq (e+1) D .any fun _=>x,.int .i64 fun _=>n] [] (.str fun _=>T x n) []
def TG(e D:Nat)(x:X)(need:Int)(t:ByteArray)(h:Af prog 17 [aq (e+1) (D+1) .any fun _=>x,.int .i64 fun _=>1] [] (.str fun _=>t) [])(hb:aE x.op<need)(ht:t.size<=1152921504606846976):
 Af prog 17 [aq (e+1) (D+1) .any fun _=>x,.int .i64 fun _=>need] [] (.str fun _=>dq t) []:=by
 have h1:=qj x e (D+1);unfold dq;generalize aE x.op=b at*
 (refine fA [.tmp 4] j9 ([(1,[(1,zI b,[])]),(2,[(1,zR t,[])])]++j8) func17 fun _=>?_;repeat' first|exact⟨⟩|apply mA|apply mC<;>intro)
 all_goals try exact absurd hb (pc.2 ‹_›)
 all_goals try exact zB
 (all_goals try first|exact eZ|(refine qC ?_;repeat' first|exact⟨⟩|apply mA))
 all_goals(first|(simp only[aj,dX,bp,bV];omega)|rfl)
def TH(lit:V->ByteArray)(T:X->Int->ByteArray)(e D:Nat)(x:X)(need:Int)(ha:∀i,i<x.args.length->ui T e D (x.args.getD i default))(hl:2<=x.args.length)(hs:(bh lit T x).size<=1152921504606846976)(hb:need<=aE x.op)(hp:0<eE x.op):
 Af prog 17 [aq (e+1) (D+1) .any fun _=>x,.int .i64 fun _=>need] [] (.str fun _=>bh lit T x) []:=by
 have h1:=qj x e (D+1);have h2:=ha 0 zo;have h4:=ha 1 zo;have h6:=lM x.op;obtain⟨_,g1,g2,g3,o3,ct,o16,_,_⟩:=(qi x.op).resolve_right fun q=>by have:=q.1;omega
 rw[g1]at h6 hp;unfold bh at hs ⊢;rw[aa o3,aa o16,aa ct]at hs ⊢;generalize gm x.op=S at*;generalize aE x.op=b at*;by_cases b4:b=4
 ·subst b4;rw[ae rfl]at hs ⊢;have hs1:=hs;rw[aj,aj,aj,aj]at hs1;have h3:=h2 5 zd zd zo;have h5:=h4 5 zd zd zo;generalize T (x.args.getD 0 default) 5=t at*;generalize T (x.args.getD 1 default) 5=u at*;rw[show Int.toNat 4=4 from rfl]at g2;generalize gU x.op 4=sy at*;have e0:t++⟨#[32]⟩++sy++⟨#[32]⟩++u=t++S++u:=by rw[g2];simp only[ee]
  rw[e0]at hs ⊢;rw[aj,aj]at hs;clear h2 h4 ha g1 g2 hs1 e0
  (refine fA [.tmp 4] j9 ([(1,[(1,zI 4,[])]),(3,[(2,.ag [zR S,zI 4],[])]),(8,[(5,zR t,[]),(13,zR u,[])])]++j8) func17 fun _=>?_;repeat' first|exact⟨⟩|apply mA|apply mC<;>intro)
  all_goals try exact absurd ‹(4:Int)<need› zo
  all_goals try exact absurd ‹(4:Int)<=0› zd
  all_goals(try simp only[gt,show Int.toNat 1=1 from rfl])
  all_goals try exact zB
  (all_goals try first|exact eZ|(refine qC ?_;repeat' first|exact⟨⟩|apply mA))
  all_goals(try(simp only[aj];omega))
 ·rw[aa b4,ae zo]at hs ⊢;have hs1:=hs;rw[aj,aj,aj,aj]at hs1;have h3:=h2 b zo zo zo;have h5:=h4 (b+1) zo zo zo;obtain⟨r,hr⟩:∃r,r=b+1:=⟨_,rfl⟩
  have hw:IntKind.i64.wrap (b+1)=r:=(ax zo zo).trans hr.symm;rw[<- hr]at hs hs1 h5 ⊢;generalize T (x.args.getD 0 default) b=t at*;generalize T (x.args.getD 1 default) r=u at*;generalize gU x.op b.toNat=sy at*;have e0:t++⟨#[32]⟩++sy++⟨#[32]⟩++u=t++S++u:=by rw[g2];simp only[ee]
  rw[e0]at hs ⊢;rw[aj,aj]at hs;clear h2 h4 ha g1 g2 hs1 e0
  (refine fA [.tmp 4] j9 ([(1,[(1,zI b,[])]),(3,[(2,.ag [zR S,zI b],[])]),(8,[(5,zR t,[]),(13,zR u,[])])]++j8) func17 fun _=>?_;repeat' first|exact⟨⟩|apply mA|apply mC<;>intro)
  all_goals try exact absurd ‹b<need› zo
  all_goals try exact absurd ‹b<=0› zo
  all_goals try exact absurd ‹b=4› b4
  all_goals(try simp only[gt,show Int.toNat 1=1 from rfl,hw])
  all_goals try exact zB
  (all_goals try first|exact eZ|(refine qC ?_;repeat' first|exact⟨⟩|apply mA))
  all_goals(try(simp only[aj];omega))
def TJ(lit:V->ByteArray)(T:X->Int->ByteArray)(e D:Nat)(x:X)(need:Int)(ha:∀i,i<x.args.length->ui T e D (x.args.getD i default))(hl:1<=x.args.length)(hs:(bh lit T x).size<=1152921504606846976)(hb:need<=aE x.op)(ho:x.op=3):
 Af prog 17 [aq (e+1) (D+1) .any fun _=>x,.int .i64 fun _=>need] [] (.str fun _=>bh lit T x) []:=by
 have h1:=qj x e (D+1);have h6:=lM x.op;have e1:aE x.op=3:=by rw[ho];rfl
 have e2:eE x.op=0:=by rw[ho];rfl
 have h2:=ha 0 zo;unfold bh at hs ⊢;rw[ae ho,e1]at hs ⊢;rw[e1]at h1 hb;rw[e2]at h6;have k1:(oE++T (x.args.getD 0 default) 3).size=4+(T (x.args.getD 0 default) 3).size:=aj;have h3:=h2 3 zd zd zo;generalize T (x.args.getD 0 default) 3=t at*;generalize gm x.op=S at*;clear h2 ha e1 e2
 (refine fA [.tmp 4] j9 ([(1,[(1,zI 3,[])]),(3,[(2,.ag [zR S,zI 0],[])]),(11,[(4,zR t,[])])]++j8) func17 fun _=>?_;repeat' first|exact⟨⟩|apply mA|apply mC<;>intro)
 all_goals try exact absurd ‹(3:Int)<need› zo
 all_goals try exact absurd ‹(0:Int)<0› zd
 all_goals try exact absurd ho ‹¬x.op=3›
 all_goals(try simp only[gt])
 all_goals try exact zB
 (all_goals try first|exact eZ|(refine qC ?_;repeat' first|exact⟨⟩|apply mA))
 ·show 4+t.size<=_;omega
 ·rfl
def TL(lit:V->ByteArray)(T:X->Int->ByteArray)(e D:Nat)(x:X)(need:Int)(ha:∀i,i<x.args.length->ui T e D (x.args.getD i default))(hl:1<=x.args.length)(hv:(x.args.getD 0 default).op=1->0<(x.args.getD 0 default).value.length)(h19:(x.args.getD 0 default).op=1->T (x.args.getD 0 default) 1=T (x.args.getD 0 default) 9)(hs:(bh lit T x).size<=1152921504606846976)(hb:need<=aE x.op)(ho:x.op=16):
 Af prog 17 [aq (e+1) (D+1) .any fun _=>x,.int .i64 fun _=>need] [] (.str fun _=>bh lit T x) []:=by
 have h1:=qj x e (D+1);have h6:=lM x.op;have e1:aE x.op=8:=by rw[ho];rfl
 have e2:eE x.op=0:=by rw[ho];rfl
 have h2:=ha 0 zo;unfold bh at hs ⊢;rw[aa zo,ae ho]at hs ⊢;rw[e1]at h1 hb;rw[e2]at h6;have hT:(T (x.args.getD 0 default) 9).size<=1152921504606846976:=by
  rw[aj]at hs;split at hs
  ·unfold dq at hs;rw[aj,aj]at hs;omega
  ·omega
 by_cases hn:qm (x.args.getD 0 default)
 ·rw[ae hn];have h3:=h2 1 zd zd (by rw[h19 hn.1];exact hT);rw[h19 hn.1]at h3;unfold qm dq at*;generalize T (x.args.getD 0 default) 9=t at*;generalize gm x.op=S at*;clear h2 ha e1 e2 hs h19
  (refine fA [.tmp 4] j9 ([(1,[(1,zI 8,[])]),(3,[(2,.ag [zR S,zI 0],[])]),(17,[(1,zR t,[])])]++j8) func17 fun _=>?_;repeat' first|exact⟨⟩|apply mA|apply mC<;>intro)
  all_goals try exact absurd ‹(8:Int)<need› zo
  all_goals try exact absurd ‹(0:Int)<0› zd
  all_goals try exact absurd ‹(0:Int)<0› zd
  all_goals try exact absurd ‹x.op=3› zo
  all_goals try exact absurd ‹x.op=25› zo
  all_goals try exact absurd ho ‹¬x.op=16›
  all_goals(try simp only[gt,aF]at*)
  all_goals try exact absurd hn zo
  all_goals try exact zB
  (all_goals try first|exact eZ|(refine qC ?_;repeat' first|exact⟨⟩|apply mA))
  all_goals(first|(simp only[aj,dX,bp,bV]at*;omega)|(rw[show(⟨#[45,40]⟩:ByteArray)=⟨#[45]⟩++⟨#[40]⟩from rfl];simp only[ee])|skip)
 ·rw[aa hn];have h3:=h2 9 zd zd hT;unfold qm at*;generalize T (x.args.getD 0 default) 9=t at*;generalize gm x.op=S at*;clear h2 ha e1 e2 hs h19
  (refine fA [.tmp 4] j9 ([(1,[(1,zI 8,[])]),(3,[(2,.ag [zR S,zI 0],[])]),(18,[(1,zR t,[])])]++j8) func17 fun _=>?_;repeat' first|exact⟨⟩|apply mA|apply mC<;>intro)
  all_goals try exact absurd ‹(8:Int)<need› zo
  all_goals try exact absurd ‹(0:Int)<0› zd
  all_goals try exact absurd ‹x.op=3› zo
  all_goals try exact absurd ‹x.op=25› zo
  all_goals try exact absurd ho ‹¬x.op=16›
  all_goals(try simp only[gt,aF]at*)
  all_goals try exact absurd zo hn
  all_goals try exact zB
  (all_goals try first|exact eZ|(refine qC ?_;repeat' first|exact⟨⟩|apply mA))
  all_goals(first|(simp only[aj,dX,bp,bV]at*;omega)|skip)
def TM(lit:V->ByteArray)(T:X->Int->ByteArray)(e D:Nat)(x:X)(need:Int)(ha:∀i,i<x.args.length->ui T e D (x.args.getD i default))(h01:∀y,T y 1=T y 0)(hl:1<=x.args.length)(hm:x.args.length<=1073741824)(hs:(bh lit T x).size<=1099511627776)(hb:need<=aE x.op)(ho:x.op=25):
 Af prog 17 [aq (e+1) (D+1) .any fun _=>x,.int .i64 fun _=>need] [] (.str fun _=>bh lit T x) []:=by
 have h1:=qj x e (D+1);have h6:=lM x.op;have e1:aE x.op=4:=by rw[ho];rfl
 have e5:eE x.op=0:=by rw[ho];rfl
 have h2:=ha 0 zo;unfold bh at hs ⊢;rw[aa zo,aa zo,ae ho]at hs ⊢;rw[e1]at h1 hb;rw[e5]at h6;have hs1:=hs;rw[aj,aj,aj]at hs1;have h3:=h2 5 zd zd zo
 have h4:=JT (fun y=>T y 0) e D (x.args.drop 1) (by rw[gu];omega) (fun i hi=>by
  rw[gu]at hi;have e2:(x.args.drop 1).getD i default=x.args.getD (1+i) default:=by rw[cz,qG,cz]
  have hq:=wW cR ((x.args.drop 1).map fun y=>T y 0) (T (x.args.getD (1+i) default) 0) (by
   rw[<- e2];refine gG.2 ⟨_,?_,rfl⟩;simp only[List.getD,bf (show i<(x.args.drop 1).length by rw[gu];omega)];exact d9 _)
  have hk:=ha (1+i) zo 1 zd zd (by rw[h01];omega);rw[h01]at hk;rw[e2];exact hk) zo
 have e3:∀i,(x.args.drop 1).getD i default=x.args.getD (1+i) default:=fun i=>by rw[cz,qG,cz]
 generalize bO ((x.args.drop 1).map fun y=>T y 0) cR=u at*;generalize T (x.args.getD 0 default) 5=t at*;have e4:(x.args.drop 1).length=x.args.length-1:=gu;unfold eP at h4;simp only[e3,e4]at h4;generalize gm x.op=S at*;clear h2 ha e1 hs e3 e5 h01
 (refine fA [.tmp 4] j9 ([(1,[(1,zI 4,[])]),(3,[(2,.ag [zR S,zI 0],[])]),(13,[(4,zR t,[]),(9,zR u,[])])]++j8) func17 fun _=>?_;repeat' first|exact⟨⟩|apply mA|apply mC<;>intro)
 all_goals try exact absurd ‹(4:Int)<need› zo
 all_goals try exact absurd ‹(0:Int)<0› zd
 all_goals try exact absurd ‹x.op=3› zo
 all_goals try exact absurd ho ‹¬x.op=25›
 all_goals(try simp only[gt])
 all_goals try exact zB
 (all_goals try first|exact eZ|(refine qC ?_;repeat' first|exact⟨⟩|apply mA))
 all_goals(try(simp only[aj,dX,uj,bp,bV]at*;omega))
 all_goals rfl
def TN(lit:V->ByteArray)(er:Int)(T:X->Int->ByteArray)(e D:Nat)(x:X)(need:Int)(hl:1<=x.value.length)(h3:Af prog 48 [aK (e+1) .any fun _=>x.value.getD 0 default] [] (.ag [.str fun _=>lit (x.value.getD 0 default),.int .i64 fun _=>er]) [])(hb:need<=aE x.op)(ho:x.op=1):
 Af prog 17 [aq (e+1) (D+1) .any fun _=>x,.int .i64 fun _=>need] [] (.str fun _=>bh lit T x) []:=by
 have h1:=qj x e (D+1);have h6:=lM x.op;have e1:aE x.op=9:=by rw[ho];rfl
 have e2:eE x.op=0:=by rw[ho];rfl
 unfold bh;rw[aa zo,aa zo,aa zo,e1,aa zd,aa zd,ae ho];rw[e1]at h1 hb;rw[e2]at h6;generalize lit (x.value.getD 0 default)=t at*;generalize gm x.op=S at*;clear e1 e2
 (refine fA [.tmp 4] j9 ([(1,[(1,zI 9,[])]),(3,[(2,.ag [zR S,zI 0],[])]),(20,[(4,.ag [zR t,zI er],[])])]++j8) func17 fun _=>?_;repeat' first|exact⟨⟩|apply mA|apply mC<;>intro)
 all_goals try exact absurd ‹(9:Int)<need› zo
 all_goals try exact absurd ‹(0:Int)<0› zd
 all_goals(try(exfalso;omega))
 all_goals(try simp only[gt])
 all_goals try exact zB
 all_goals exact eZ
def TO(lit:V->ByteArray)(T:X->Int->ByteArray)(e D:Nat)(x:X)(need:Int)(hb:need<=aE x.op)(ho:x.op=2):
 Af prog 17 [aq (e+1) (D+1) .any fun _=>x,.int .i64 fun _=>need] [] (.str fun _=>bh lit T x) []:=by
 have h1:=qj x e (D+1);have h6:=lM x.op;have e1:aE x.op=9:=by rw[ho];rfl
 have e2:eE x.op=0:=by rw[ho];rfl
 unfold bh;rw[aa zo,aa zo,aa zo,e1,aa zd,aa zd,aa zo,ae ho];rw[e1]at h1 hb;rw[e2]at h6;generalize gm x.op=S at*;clear e1 e2
 (refine fA [.tmp 4] j9 ([(1,[(1,zI 9,[])]),(3,[(2,.ag [zR S,zI 0],[])])]++j8) func17 fun _=>?_;repeat' first|exact⟨⟩|apply mA|apply mC<;>intro)
 all_goals try exact absurd ‹(9:Int)<need› zo
 all_goals try exact absurd ‹(0:Int)<0› zd
 all_goals(try(exfalso;omega))
 all_goals try exact zB
 all_goals exact eZ
def TP{op:Int}(h:aE op=9):¬op=3∧¬op=16∧¬op=25∧eE op=0:=by
 refine⟨fun q=>?_,fun q=>?_,fun q=>?_,?_⟩
 ·rw[q]at h;exact absurd h zd
 ·rw[q]at h;exact absurd h zd
 ·rw[q]at h;exact absurd h zd
 ·rcases qi op with⟨_,_,_,q,_⟩|⟨q,_⟩
  ·omega
  ·exact q
def TQ(lit:V->ByteArray)(T:X->Int->ByteArray)(e D:Nat)(x:X)(need:Int)(hT:∀i,i<x.args.length->ui T e D (x.args.getD i default))(h01:∀y,T y 1=T y 0)(hm:x.args.length<=1073741824)(ht:x.text.size<=1099511627776)
 (hb:need<=aE x.op) (e1:aE x.op=9) (o1:¬x.op=1) (o2:¬x.op=2) (hr:1<=x.op∧x.op<=28) (hn:0<=x.int∧x.int<=12) (hz:x.op=22∨x.op=26->x.args.length=0) (hy:¬x.op=22->¬x.op=26->0<x.args.length)
 (hs:(bO (x.args.map fun y=>T y 0) cR).size<=1099511627776):
 Af prog 17 [aq (e+1) (D+1) .any fun _=>x,.int .i64 fun _=>need] [] (.str fun _=>bh lit T x) []:=by
 obtain⟨o3,o16,ct,e2⟩:=TP e1;have h1:=qj x e (D+1);have h6:=lM x.op
 have h2:=JT (fun y=>T y 0) e D x.args hm (fun i hi=>by
  have hq:=wW cR (x.args.map fun y=>T y 0) (T (x.args.getD i default) 0) (gG.2 ⟨_,by simp[List.getD,hi],rfl⟩);have hk:=hT i hi 1 zd zd (by rw[h01];omega);rw[h01]at hk;exact hk) zo
 have h3:=TA x.int hn.1 hn.2;have hi:=qL x.int zo zo;have h4:=Tx x.op;have hcl:(qk x.op).size<=10:=by
  unfold qk
  repeat' split
  all_goals decide
 unfold bh;rw[aa o3,aa o16,aa ct,e1,aa zd,aa zd,aa o1,aa o2];unfold w9;rw[Tz hr.1 hr.2 e1 o1 o2];unfold iZ;rw[e1]at h1 hb;rw[e2]at h6;obtain⟨I,hI⟩:∃I,I=(if x.op=15∨(x.op=26∧x.int≠0)then(if 0<x.args.length then bO (x.args.map fun y=>T y 0) cR else x.text)++(⟨#[44,32]⟩++cE x.int)else if 0<x.args.length then bO (x.args.map fun y=>T y 0) cR else x.text):=⟨_,rfl⟩
 rw[<- hI];generalize cE x.int=it at*;generalize bO (x.args.map fun y=>T y 0) cR=js at*;generalize gm x.op=S at*;generalize qk x.op=C at*;unfold eP at h2;clear hT h01 e1 e2;rcases(zo:x.op=15∨x.op=22∨(x.op=26∧x.int=0)∨(x.op=26∧¬x.int=0)∨(¬x.op=15∧¬x.op=22∧¬x.op=26))with c|c|c|c|c
 ·have hl:=hy zo zo;rw[ae (.inl c),ae hl]at hI
  (refine fA [.tmp 4] j9 ([(1,[(1,zI 9,[])]),(3,[(2,.ag [zR S,zI 0],[])]),(24,[(2,zR js,[])]),(26,[(4,zR it,[])]),(30,[(5,zR it,[])]),(31,[(2,zR C,[])])]++j8) func17 fun _=>?_;repeat' first|exact⟨⟩|apply mA|apply mC<;>intro)
  all_goals try exact absurd ‹(9:Int)<need› zo
  all_goals try exact absurd ‹(0:Int)<0› zd
  all_goals(try(exfalso;omega))
  all_goals try exact zB
  (all_goals try first|exact eZ|(refine qC ?_;repeat' first|exact⟨⟩|apply mA))
  all_goals(first|(simp only[aj,dX,bp,bV]at*;omega)|(rw[hI];simp only[ee])|skip)
 ·have hl:=hz zo;rw[aa zo,aa zo]at hI
  (refine fA [.tmp 4] j9 ([(1,[(1,zI 9,[])]),(3,[(2,.ag [zR S,zI 0],[])]),(24,[(2,zR js,[])]),(26,[(4,zR it,[])]),(30,[(5,zR it,[])]),(31,[(2,zR C,[])])]++j8) func17 fun _=>?_;repeat' first|exact⟨⟩|apply mA|apply mC<;>intro)
  all_goals try exact absurd ‹(9:Int)<need› zo
  all_goals try exact absurd ‹(0:Int)<0› zd
  all_goals(try(exfalso;omega))
  all_goals try exact zB
  (all_goals try first|exact eZ|(refine qC ?_;repeat' first|exact⟨⟩|apply mA))
  all_goals(first|(simp only[aj,dX,bp,bV]at*;omega)|(rw[hI])|skip)
 ·have hl:=hz zo;rw[aa zo,aa zo]at hI
  (refine fA [.tmp 4] j9 ([(1,[(1,zI 9,[])]),(3,[(2,.ag [zR S,zI 0],[])]),(24,[(2,zR js,[])]),(26,[(4,zR it,[])]),(30,[(5,zR it,[])]),(31,[(2,zR C,[])])]++j8) func17 fun _=>?_;repeat' first|exact⟨⟩|apply mA|apply mC<;>intro)
  all_goals try exact absurd ‹(9:Int)<need› zo
  all_goals try exact absurd ‹(0:Int)<0› zd
  all_goals(try(exfalso;omega))
  all_goals try exact zB
  (all_goals try first|exact eZ|(refine qC ?_;repeat' first|exact⟨⟩|apply mA))
  all_goals(first|(simp only[aj,dX,bp,bV]at*;omega)|(rw[hI])|skip)
 ·have hl:=hz zo;rw[ae (.inr c),aa zo]at hI
  (refine fA [.tmp 4] j9 ([(1,[(1,zI 9,[])]),(3,[(2,.ag [zR S,zI 0],[])]),(24,[(2,zR js,[])]),(26,[(4,zR it,[])]),(30,[(5,zR it,[])]),(31,[(2,zR C,[])])]++j8) func17 fun _=>?_;repeat' first|exact⟨⟩|apply mA|apply mC<;>intro)
  all_goals try exact absurd ‹(9:Int)<need› zo
  all_goals try exact absurd ‹(0:Int)<0› zd
  all_goals(try(exfalso;omega))
  all_goals try exact zB
  (all_goals try first|exact eZ|(refine qC ?_;repeat' first|exact⟨⟩|apply mA))
  all_goals(first|(simp only[aj,dX,bp,bV]at*;omega)|(rw[hI];simp only[ee])|skip)
 ·have hl:=hy zo zo;rw[aa zo,ae hl]at hI
  (refine fA [.tmp 4] j9 ([(1,[(1,zI 9,[])]),(3,[(2,.ag [zR S,zI 0],[])]),(24,[(2,zR js,[])]),(26,[(4,zR it,[])]),(30,[(5,zR it,[])]),(31,[(2,zR C,[])])]++j8) func17 fun _=>?_;repeat' first|exact⟨⟩|apply mA|apply mC<;>intro)
  all_goals try exact absurd ‹(9:Int)<need› zo
  all_goals try exact absurd ‹(0:Int)<0› zd
  all_goals(try(exfalso;omega))
  all_goals try exact zB
  (all_goals try first|exact eZ|(refine qC ?_;repeat' first|exact⟨⟩|apply mA))
  all_goals(first|(simp only[aj,dX,bp,bV]at*;omega)|(rw[hI])|skip)
end Go.Ai
