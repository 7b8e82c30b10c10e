/- Printed texts: what stands behind an expression is left. -/
import Derived.Test.YtbagpkiomjlhkaaGreatDoorPrD
import Derived.Test.YtbagpkiomjlhkaaGreatDoorMdC
set_option linter.all false
namespace Go.Ai
open Go
set_option maxRecDepth 100000
set_option maxHeartbeats 4000000
def stop_read{pe:ByteArray->Int}{x:X}{t w:ByteArray}{L:List Tok}{m:Nat}{k:Tok}(h:Pr pe (.one 1 x) false t L m)(hm:m<=32)(hk:bd (fun c=>c=0) w [k] false)(hf:Fo 1 k)(hz:k.z=k)(hs:(t++fg++w).size<=16384):
 ∃a E,ep pe (newS (t++fg++w))=(x,aT [a,E] 0 0 0)∧a.z=k∧E.z=.mk 0 0 0 ⟨#[]⟩ ⟨#[]⟩ 0 0 false:=by
 have h1:=(UU h).oM hk zsi (.inr (.inl rfl));have h2:Lx (t++fg++w) 0 (-1) (L++[k]) (t++fg++w).size (t++fg++w).size:=by
  have:=h1 (t++fg++w) 0 (-1) (At.all _) (by rw[eC];exact qe (ao _)) rfl
  rwa [eC]at this
 have hl:=h2.len;obtain⟨A,E,s1,s2,s3⟩:=Ur h2 (Lm _) zo zo zsi;obtain⟨L',M',rfl,e1,e2⟩:=kh s2;obtain⟨a,Mq2,rfl,e3,e4⟩:=map_cons e2;have:=map_nil e4;subst this;have hR:=(UQ h 33 0 zo zo zo).2 L' a [E] 0 0 e1 (kY e3 hf hz);refine⟨a,E,?_,e3,s3⟩;unfold newS ep;rw[s1,xl,gF];exact hR
def stopL:List (ByteArray×Tok):=[(⟨#[59]⟩,sy ⟨#[59]⟩ false),(⟨#[125]⟩,sy ⟨#[125]⟩ false),(⟨#[41]⟩,sy ⟨#[41]⟩ false),(⟨#[44]⟩,sy ⟨#[44]⟩ false),(⟨#[119,111,114,100]⟩,wd ⟨#[119,111,114,100]⟩ false),(⟨#[45,62]⟩,sy ⟨#[45,62]⟩ false),(⟨#[123]⟩,sy ⟨#[123]⟩ false),(⟨#[55]⟩,nu ⟨#[55]⟩ 7 0 false)]
def lx_arrow(jb:Bool):bd (fun _=>True) ⟨#[45,62]⟩ [sy ⟨#[45,62]⟩ jb] jb:=by
 intro s i last ha _ hj;have hb:ad s i=45:=ha.b0 (by show 0<2;omega);have hd:ad s (i+1)=62:=ha.2 1 (by show 1<2;omega);have hle:i+2<=s.size:=ha.1;have hp:gM s i=true:=by unfold gM;rw[hb,hd];rfl
 subst hj;refine .one ⟨by show i<i+2;omega,hle,um (by rw[hb];decide),fun l d=>?_⟩;have e:cS s i (.mk 0 l d ⟨#[]⟩ ⟨#[]⟩ 0 0 (decide ((i:Int)=last)))=(true,i+2,0,0,Tok.set (.mk 0 l d ⟨#[]⟩ ⟨#[]⟩ 0 0 (decide ((i:Int)=last))) 5 ⟨#[45,62]⟩):=by
  unfold cS;rw[aa (fun q=>absurd (hb.symm.trans q.1) zd),aa (by rw[hb];decide),aa (by rw[hb];decide),aa (by rw[hb];decide),ae hp,show s.extract i (i+2)=⟨#[45,62]⟩from ha.ext]
 exact⟨_,_,e,rfl⟩
def stop_all:∀p∈stopL,bd (fun c=>c=0) p.1 [p.2] false∧Fo 1 p.2∧p.2.z=p.2∧p.2.text=p.1:=by
 have o:∀c:UInt8,iY c.toNat=true->((c.toNat:Int)≠45∧(c.toNat:Int)≠33∧(c.toNat:Int)≠60∧(c.toNat:Int)≠62∧(c.toNat:Int)≠46)->bd (fun d=>d=0) ⟨#[c]⟩ [sy ⟨#[c]⟩ false] false:=fun c h1 h2=>(nF h1 h2 false).of fun _ _=>trivial;intro p hp;simp only[stopL,bW,sK,ii]at hp;rcases hp with rfl|rfl|rfl|rfl|rfl|rfl|rfl|rfl
 ·exact⟨o 59 zd zd,nD zd (fun _=>rfl) rfl,rfl,rfl⟩
 ·exact⟨o 125 zd zd,nD zd (fun _=>rfl) rfl,rfl,rfl⟩
 ·exact⟨o 41 zd zd,nD zd (fun _=>rfl) rfl,rfl,rfl⟩
 ·exact⟨o 44 zd zd,nD zd (fun _=>rfl) rfl,rfl,rfl⟩
 ·exact⟨(oO (w:=⟨#[119,111,114,100]⟩) zd zd zd zd false).of fun c q=>by rw[q];decide,nD zd (fun _=>zd) zd,rfl,rfl⟩
 ·exact⟨(lx_arrow false).of fun _ _=>trivial,nD zd (fun _=>zd) zd,rfl,rfl⟩
 ·exact⟨o 123 zd zd,nD zd (fun _=>rfl) rfl,rfl,rfl⟩
 ·have h:=Lf (n:=7) zd zd false;have e:cE 7=⟨#[55]⟩:=by
   rw[show(7:Int)=((7:Nat):Int)from rfl,rV,Lib.decDigits_one zd];rfl
  rw[e]at h;exact⟨h.2.of fun c q=>.inl q,nD zd (fun _=>zd) zd,rfl,rfl⟩
def iE(lit:V->ByteArray):Nat->X->ByteArray
 | 0,_=>⟨#[]⟩
 | k+1,x=>
  if 0<eE x.op then dq (iE lit k (x.args.getD 0 default))++gm x.op++dq (iE lit k (x.args.getD 1 default))
  else if x.op=3 then nz++fg++dq (iE lit k (x.args.getD 0 default))
  else if x.op=16 then⟨#[45]⟩++dq (iE lit k (x.args.getD 0 default))
  else aP lit (k+1) x 1
def Lr(lit:V->ByteArray)(k:Nat)(y:X):Prop:=∀jb,∃L,Pr jt (.one 1 y) jb (iE lit k y) L (2*k)
def Lr.par{lit:V->ByteArray}{k:Nat}{y:X}(h:Lr lit k y)(c:Nat)(h1:1<=c)(h2:c<=9)(jb:Bool):∃L,Pr jt (.one c y) jb (dq (iE lit k y)) L (2*k+1):=by
 obtain⟨L,hL⟩:=h true;have hp:Pr jt (.one 9 y) jb (dq (iE lit k y)) (sy fV jb::(L++[sy gO true])) (2*k+1):=.par hL;exact⟨_,r9 hp (9-c) c zo h1 zd⟩
def wrap_bin{lit:V->ByteArray}{k c:Nat}{op:Int}{s:ByteArray}{y z:X}(hc:iB c∨c=4)(hf:dk s (opsL c)=some op)(hs:0<eE op)(hb:gm op=fg++s++fg)(hy:Lr lit k y)(hz:Lr lit k z):Lr lit (k+1) (bin op y z):=by
 intro jb;have hT:iE lit (k+1) (bin op y z)=dq (iE lit k y)++gm op++dq (iE lit k z):=ae hs;rw[hT,hb];have h9:1<=c∧c<=7:=by unfold iB at hc;omega
 have e:dq (iE lit k y)++fg++s++fg++dq (iE lit k z)=dq (iE lit k y)++(fg++s++fg)++dq (iE lit k z):=by simp only[ee]
 rcases hc with hc|rfl
 ·obtain⟨L,hL⟩:=hy.par c h9.1 zo jb;obtain⟨M,hM⟩:=hz.par (c+1) zo zo false;exact⟨_,(r9 (Pr.bin hc hf hL hM) (c-1) 1 zo zd zo).cast e zo⟩
 ·obtain⟨L,hL⟩:=hy.par 5 zd zd jb;obtain⟨M,hM⟩:=hz.par 5 zd zd false;exact⟨_,(r9 (Pr.cmp hf hL hM) 3 1 zd zd zd).cast e zo⟩
def wrap_not{lit:V->ByteArray}{k:Nat}{y:X}(hy:Lr lit k y):Lr lit (k+1) (.mk 3 0 ⟨#[]⟩ [] [y]):=by
 intro jb;have hT:iE lit (k+1) (.mk 3 0 ⟨#[]⟩ [] [y])=nz++fg++dq (iE lit k y):=(aa (show¬0<eE 3 by decide)).trans (ae rfl);rw[hT];obtain⟨L,hL⟩:=hy.par 3 zd zd false;exact⟨_,(r9 (Pr.not hL) 2 1 zd zd zd).cast rfl zo⟩
def wrap_neg{lit:V->ByteArray}{k:Nat}{y:X}(hy:Lr lit k y):Lr lit (k+1) (.mk 16 0 ⟨#[]⟩ [] [y]):=by
 intro jb;have hT:iE lit (k+1) (.mk 16 0 ⟨#[]⟩ [] [y])=⟨#[45]⟩++dq (iE lit k y):=(aa (show¬0<eE 16 by decide)).trans ((aa (show¬(16:Int)=3 by decide)).trans (ae rfl));rw[hT];obtain⟨L,hL⟩:=hy true;have hp:Pr jt (.one 9 y) true (dq (iE lit k y)) (sy fV true::(L++[sy gO true])) (2*k+1):=.par hL
 have hN:=Pr.neg (jb:=jb) hp (fun a u e=>by cases e;exact(zd:(5:Int)≠2)) (by
  have:ad (dq (iE lit k y)) 0=40:=(eB (by rw[aj];exact cf im (io 1 _))).trans ((eB (a:=⟨#[40]⟩) im).trans zd);rw[this];decide)
 exact⟨_,(r9 hN 7 1 zd zd zd).cast rfl zo⟩
def wrap_node{lit:V->ByteArray}{k:Nat}{x:X}(nf:Lg x)(ha:∀y∈x.args,Lr lit k y)(ht:ig lit (k+1) x):Lr lit (k+1) x:=by
 have rest:¬0<eE x.op->x.op≠3->x.op≠16->Lr lit (k+1) x:=fun q1 q2 q3 jb=>by
  have hT:iE lit (k+1) x=aP lit (k+1) x 1:=(aa q1).trans ((aa q2).trans (aa q3));rw[hT];exact ht 1 zd jb
 obtain⟨op,int,text,value,args⟩:=x;obtain⟨ho,hv,hv1,htx,hi,hlo,hhi,hp,hs⟩:=nf;dsimp only[X.op,X.int,X.text,X.value,X.args]at*;have plain:op≠1->dP op=false->gc op=false->X.mk op int text value args=.mk op 0 ⟨#[]⟩ [] args:=fun q1 q2 q3=>by rw[hv q1,htx q2,hi q3]
 have two:fH op=2->eW op=2->op≠25->∃y z,args=[y,z]:=fun q1 q2 q3=>by
  have:=hhi q3;have hl:args.length=2:=zo
  match args,hl with
  | [y,z],_=>exact⟨y,z,rfl⟩
 by_cases c3:op=3
 ·subst c3;obtain⟨y,rfl⟩:=Bb.1 (by have:=hhi zd;rw[show eW 3=1 by decide]at this;rw[show fH 3=1 by decide]at hlo;omega:args.length=1);rw[plain zd zd zd];exact wrap_not (ha y zsi)
 by_cases c16:op=16
 ·subst c16;obtain⟨y,rfl⟩:=Bb.1 (by have:=hhi zd;rw[show eW 16=1 by decide]at this;rw[show fH 16=1 by decide]at hlo;omega:args.length=1);rw[plain zd zd zd];exact wrap_neg (ha y zsi)
 by_cases cb:op=5∨op=4∨op=23∨op=12∨op=13∨op=17∨op=14∨op=6∨op=7∨op=8∨op=9∨op=10∨op=11
 ·have hb:fH op=2∧eW op=2∧op≠25∧op≠1∧dP op=false∧gc op=false:=by rcases cb with rfl|rfl|rfl|rfl|rfl|rfl|rfl|rfl|rfl|rfl|rfl|rfl|rfl<;>decide
  obtain⟨y,z,rfl⟩:=two hb.1 hb.2.1 hb.2.2.1;rw[plain hb.2.2.2.1 hb.2.2.2.2.1 hb.2.2.2.2.2];have hy:=ha y zsi;have hz:=ha z zsi;rcases cb with rfl|rfl|rfl|rfl|rfl|rfl|rfl|rfl|rfl|rfl|rfl|rfl|rfl
  ·exact wrap_bin (c:=1) (s:=⟨#[111,114]⟩) (.inl (.inl rfl)) zd zd zd hy hz
  ·exact wrap_bin (c:=2) (s:=⟨#[97,110,100]⟩) (.inl (.inr (.inl rfl))) zd zd zd hy hz
  ·exact wrap_bin (c:=5) (s:=⟨#[101,108,115,101]⟩) (.inl (.inr (.inr (.inl rfl)))) zd zd zd hy hz
  ·exact wrap_bin (c:=6) (s:=⟨#[43]⟩) (.inl (.inr (.inr (.inr (.inl rfl))))) zd zd zd hy hz
  ·exact wrap_bin (c:=6) (s:=⟨#[45]⟩) (.inl (.inr (.inr (.inr (.inl rfl))))) zd zd zd hy hz
  ·exact wrap_bin (c:=6) (s:=⟨#[38]⟩) (.inl (.inr (.inr (.inr (.inl rfl))))) zd zd zd hy hz
  ·exact wrap_bin (c:=7) (s:=⟨#[42]⟩) (.inl (.inr (.inr (.inr (.inr rfl))))) zd zd zd hy hz
  ·exact wrap_bin (c:=4) (s:=⟨#[61]⟩) (.inr rfl) zd zd zd hy hz
  ·exact wrap_bin (c:=4) (s:=⟨#[33,61]⟩) (.inr rfl) zd zd zd hy hz
  ·exact wrap_bin (c:=4) (s:=⟨#[60]⟩) (.inr rfl) zd zd zd hy hz
  ·exact wrap_bin (c:=4) (s:=⟨#[60,61]⟩) (.inr rfl) zd zd zd hy hz
  ·exact wrap_bin (c:=4) (s:=⟨#[62]⟩) (.inr rfl) zd zd zd hy hz
  ·exact wrap_bin (c:=4) (s:=⟨#[62,61]⟩) (.inr rfl) zd zd zd hy hz
 refine rest ?_ c3 c16;unfold eE
 repeat'(rw[aa zo])
 decide
theorem wrap_ok{lit:V->ByteArray}{e:Nat}:∀{k:Nat} {x:X},X.le e k x->X.all (ud lit) k x->gL k x=false->Lr lit k x
 | 0,_,h,_,_=>h.elim
 | k+1,x,hx,hg,hh=>by
  obtain⟨c,h⟩:=Lk hx hg hh;obtain⟨ck,h1⟩:=hg.1.one;have hd:∀y∈x.args,gL k y=false:=fun y hy=>by
   unfold gL at hh;rw[Bool.or_eq_false_iff]at hh;simpa using List.any_eq_false.1 hh.2 y hy
  exact wrap_node (Lh h1) (fun y hy=>wrap_ok (hx.2.2.2.2 y hy) (hg.2 y hy) (hd y hy)) h.arg
def EN:Nat->ByteArray->ByteArray
 | 0,t=>t
 | n+1,t=>dq (EN n t)
theorem Wc{x:X}{t:ByteArray}{m:Nat}(h:∀jb,∃L,Pr jt (.one 1 x) jb t L m):∀(n:Nat) (jb:Bool),∃L,Pr jt (.one 1 x) jb (EN n t) L (m+n)
 | 0,jb=>h jb
 | n+1,jb=>by
  obtain⟨L,hL⟩:=Wc h n true;have hp:Pr jt (.one 9 x) jb (dq (EN n t)) (sy fV jb::(L++[sy gO true])) (m+n+1):=.par hL;exact⟨_,r9 hp 8 1 zd zd zd⟩
end Go.Ai

namespace Go.Ai
open Go Go.Proofs Tryz
set_option maxRecDepth 100000
set_option maxHeartbeats 4000000
def Fq:List (Nat×cL):=[(3,[(4,.any,[]),(14,.any,[])]),(6,[(4,.any,[])]),(8,[(4,.any,[])]),(9,[(1,.any,[])])]
def Y7(e D:Nat)(x:X)(t u:ByteArray)(hl:2<=x.args.length)(hp:0<eE x.op)(h2:Af prog 27 [aq (e+1) D .any fun _=>x.args.getD 0 default] [] (.str fun _=>t) [])(h3:Af prog 27 [aq (e+1) D .any fun _=>x.args.getD 1 default] [] (.str fun _=>u) [])(hs:(dq t++gm x.op++dq u).size<=1152921504606846976):
 Af prog 27 [aq (e+1) (D+1) .any fun _=>x] [] (.str fun _=>dq t++gm x.op++dq u) []:=by
 have h1:=lM x.op;generalize gm x.op=S at*;generalize eE x.op=n at*;have e0:dq t++S++dq u=⟨#[40]⟩++t++⟨#[41]⟩++S++⟨#[40]⟩++u++⟨#[41]⟩:=by unfold dq;simp only[ee]
 rw[e0]at hs ⊢;rw[aj,aj,aj,aj,aj,aj]at hs
 (apply Af.of tF mF [.tmp 2] AR ([(1,[(2,.ag [.str fun _=>S,.int .i64 fun _=>n],[])]),(3,[(4,.str fun _=>t,[]),(14,.str fun _=>u,[])])]++Fq) func27 (fun _=>?_);(any_goals((with_reducible refine wI ?_);cbv;(try dsimp only[nc]at*);(repeat'(with_reducible first|exact‹False›.elim|exact nZ|refine oC ?_ ?_|refine VC.mk rfl ?_ ?_ ?_|(apply Ca.mk<;>intro _)|refine cV (fun _=>?_) fun _=>?_|((first|apply xE|apply uE);cbv;(try dsimp only[nc]at*)))))))
 all_goals try exact absurd ‹n<=0› zo
 all_goals(try simp only[gt,show Int.toNat 1=1 from rfl])
 any_goals((with_reducible refine nO ?_);first|exact h1|exact h2|exact h3)
 (all_goals try first|exact eZ|with_reducible (refine rQ ?_;repeat' first|apply ai|exact wZ)|(refine sQ ?_;repeat' first|with_reducible apply ai|exact cZ))
 all_goals(try(rw[aC];simp only[aN,aC,ay,qA]))
 all_goals(try(simp only[aj];omega))
def Y8(e D:Nat)(x:X)(t:ByteArray)(hl:1<=x.args.length)(ho:x.op=3)(h2:Af prog 27 [aq (e+1) D .any fun _=>x.args.getD 0 default] [] (.str fun _=>t) [])(hs:t.size<=549755813888):
 Af prog 27 [aq (e+1) (D+1) .any fun _=>x] [] (.str fun _=>oE++⟨#[40]⟩++t++⟨#[41]⟩) []:=by
 have h1:=lM x.op;have e2:eE x.op=0:=by rw[ho];rfl
 rw[e2]at h1;generalize gm x.op=S at*
 (apply Af.of tF mF [.tmp 2] AR ([(1,[(2,.ag [zR S,zI 0],[])]),(6,[(4,zR t,[])])]++Fq) func27 (fun _=>?_);(repeat' with_reducible first|exact nY|refine oC ?_ ?_|refine vQ ?_ ?_ ?_|refine cV (fun _=>?_) fun _=>?_|refine wQ ?_|fail))
 all_goals try exact absurd ‹(0:Int)<0› zd
 all_goals try exact absurd ho ‹¬x.op=3›
 all_goals(try simp only[gt])
 all_goals try exact zB
 (all_goals try first|exact eZ|with_reducible (refine rQ ?_;repeat' first|apply ai|exact wZ)|(refine sQ ?_;repeat' first|with_reducible apply ai|exact cZ))
 all_goals(try(simp only[aj,dX,bp,bV];omega))
 all_goals(first|rfl|rw[show oE++(⟨#[40]⟩:ByteArray)=⟨#[110,111,116,32,40]⟩from rfl]|rw[show oE++(⟨#[40]⟩:ByteArray)=⟨#[110,111,116,32,40]⟩from zd])
def Y9(e D:Nat)(x:X)(t:ByteArray)(hl:1<=x.args.length)(ho:x.op=16)(h2:Af prog 27 [aq (e+1) D .any fun _=>x.args.getD 0 default] [] (.str fun _=>t) [])(hs:t.size<=549755813888):
 Af prog 27 [aq (e+1) (D+1) .any fun _=>x] [] (.str fun _=>⟨#[45,40]⟩++t++⟨#[41]⟩) []:=by
 have h1:=lM x.op;have e2:eE x.op=0:=by rw[ho];rfl
 rw[e2]at h1;generalize gm x.op=S at*
 (apply Af.of tF mF [.tmp 2] AR ([(1,[(2,.ag [zR S,zI 0],[])]),(8,[(4,zR t,[])])]++Fq) func27 (fun _=>?_);(repeat' with_reducible first|exact nY|refine oC ?_ ?_|refine vQ ?_ ?_ ?_|refine cV (fun _=>?_) fun _=>?_|refine wQ ?_|fail))
 all_goals try exact absurd ‹(0:Int)<0› zd
 all_goals try exact absurd ‹x.op=3› zo
 all_goals try exact absurd ho ‹¬x.op=16›
 all_goals(try simp only[gt])
 all_goals try exact zB
 (all_goals try first|exact eZ|with_reducible (refine rQ ?_;repeat' first|apply ai|exact wZ)|(refine sQ ?_;repeat' first|with_reducible apply ai|exact cZ))
 all_goals(try(simp only[aj,dX,bp,bV];omega))
def Za(e D:Nat)(x:X)(t:ByteArray)(hn:eE x.op<=0)(h3:x.op≠3)(h16:x.op≠16)(h2:Af prog 17 [aq (e+1) (D+1) .any fun _=>x,.int .i64 fun _=>1] [] (.str fun _=>t) []):
 Af prog 27 [aq (e+1) (D+1) .any fun _=>x] [] (.str fun _=>t) []:=by
 have h1:=lM x.op;generalize gm x.op=S at*;generalize eE x.op=n at*
 (refine fA [.tmp 2] AR ([(1,[(2,.ag [zR S,zI n],[])]),(9,[(1,zR t,[])])]++[(3,[(4,.any,[]),(14,.any,[])]),(6,[(4,.any,[])]),(8,[(4,.any,[])])]) func27 fun _=>?_;repeat' first|exact⟨⟩|apply mA|apply mC<;>intro)
 all_goals try exact absurd ‹0<n› zo
 all_goals try exact absurd ‹x.op=3› h3
 all_goals try exact absurd ‹x.op=16› h16
 all_goals(try simp only[gt])
 all_goals try exact zB
 all_goals exact eZ
def uI{x:X}{i:Nat}(hi:i<x.args.length):x.args.getD i default∈x.args:=by
 simp only[List.getD,bf hi];exact d9 _
theorem Zb{f:X->Nat}:∀{l:List X},2<=l.length->f (l.getD 0 default)+f (l.getD 1 default)<=(l.map f).sum
 | [],h=>absurd h zsi
 | [_],h=>absurd h zsi
 | y::z::l,_=>by simp only[fZ,sH,List.getD_cons_zero,List.getD_cons_succ];omega
def MH(op:Int)(h:0<eE op):(gm op).size<=10∧aE op<9∧op≠3∧op≠25∧op≠16:=by
 obtain⟨_,g1,g2,g3,o3,ct,o16,_,_⟩:=(qi op).resolve_right fun q=>by have:=q.1;omega
 refine⟨?_,zo,o3,ct,o16⟩;have:=Mm op (aE op).toNat zo
 rw[g2,aj,aj,show(ByteArray.mk #[32]).size=1 from rfl];omega
def Zc(lit:V->ByteArray)(k:Nat)(x:X):aP lit k x 1=fz lit k x:=by
 have:=zN x.op;unfold aP;rw[aa zo]
theorem xK(lit:V->ByteArray):∀(k:Nat) (x:X),X.all lH k x->(iE lit k x).size<=wX lit k x
 | 0,_,_=>ao _
 | k+1,x,h=>by
  have hw:wX lit (k+1) x=100+x.text.size+(lit (x.value.getD 0 default)).size+(x.args.map fun y=>wX lit k y+6).sum:=rfl;obtain⟨q1,q2,_⟩:=h.1;unfold iE;split
  ·rename_i hp;obtain⟨s1,s2,s3,s4,s5⟩:=MH x.op hp;have hl:=q2 s3 s5 s4 s2;have a:=xK lit k _ (h.2 _ (uI (show 0<x.args.length by omega)));have b:=xK lit k _ (h.2 _ (uI (show 1<x.args.length by omega)));have c:=Zb (f:=fun y=>wX lit k y+6) hl;rw[aj,aj,qv,qv];omega
  ·split
   ·rename_i o;have hl:=q1 (.inl o);have a:=xK lit k _ (h.2 _ (uI (show 0<x.args.length by omega)));have c:=rJ (f:=fun y=>wX lit k y+6) (show 0<x.args.length by omega);rw[aj,aj,qv,show nz.size=3 from rfl,show fg.size=1 from rfl];omega
   ·split
    ·rename_i o;have hl:=q1 (.inr (.inl o));have a:=xK lit k _ (h.2 _ (uI (show 0<x.args.length by omega)));have c:=rJ (f:=fun y=>wX lit k y+6) (show 0<x.args.length by omega);rw[aj,qv,show(ByteArray.mk #[45]).size=1 from rfl];omega
    ·rw[Zc];exact uk lit (k+1) x h
theorem Zd(lit:V->ByteArray)(e:Nat):∀(k D:Nat) (x:X),X.le (e+1) (D+1) x->X.le (e+1) k x->X.all (fun x=>(lH x∧wR lit e x)∧zM x) k x->wX lit k x<=549755813888 ->
 Af prog 27 [aq (e+1) (D+1) .any fun _=>x] [] (.str fun _=>iE lit k x) []
 | 0,_,_,_,h,_,_=>h.elim
 | k+1,D,x,hx,hk,ha,hw=>by
  have hw':100+x.text.size+(lit (x.value.getD 0 default)).size+(x.args.map fun y=>wX lit k y+6).sum<=549755813888:=hw;obtain⟨q1,q2,_⟩:=ha.1.1.1;have hT:∀i,i<x.args.length->Af prog 27 [aq (e+1) D .any fun _=>x.args.getD i default] [] (.str fun _=>iE lit k (x.args.getD i default)) []∧(iE lit k (x.args.getD i default)).size<=wX lit k (x.args.getD i default)∧wX lit k (x.args.getD i default)+6<=549755813888:=fun i hi=>by
   have hy:=X.gg hx hi;obtain⟨c,rfl⟩:=X.lP hy;have hs:=rJ (f:=fun y=>wX lit k y+6) hi;exact⟨Zd lit e k c _ hy (X.gg hk hi) (ha.2 _ (uI hi)) zo,xK lit k _ (X.mt (fun _ h=>h.1.1) (ha.2 _ (uI hi))),zo⟩
  unfold iE;split
  ·rename_i hp;obtain⟨s1,s2,s3,s4,s5⟩:=MH x.op hp;have hl:=q2 s3 s5 s4 s2;obtain⟨a1,a2,a3⟩:=hT 0 zo;obtain⟨b1,b2,b3⟩:=hT 1 zo;refine Y7 e D x _ _ hl hp a1 b1 ?_;rw[aj,aj,qv,qv];omega
  ·split
   ·rename_i o;obtain⟨a1,a2,a3⟩:=hT 0 (q1 (.inl o));have:=Y8 e D x _ (q1 (.inl o)) o a1 zo;have e1:nz++fg++dq (iE lit k (x.args.getD 0 default))=oE++⟨#[40]⟩++iE lit k (x.args.getD 0 default)++⟨#[41]⟩:=by
     rw[show nz++fg=oE from rfl];unfold dq;simp only[ee]
    rw[e1];exact this
   ·split
    ·rename_i o;obtain⟨a1,a2,a3⟩:=hT 0 (q1 (.inr (.inl o)));have:=Y9 e D x _ (q1 (.inr (.inl o))) o a1 zo;have e1:(⟨#[45]⟩:ByteArray)++dq (iE lit k (x.args.getD 0 default))=⟨#[45,40]⟩++iE lit k (x.args.getD 0 default)++⟨#[41]⟩:=by
      rw[show(⟨#[45,40]⟩:ByteArray)=⟨#[45]⟩++⟨#[40]⟩from rfl];unfold dq;simp only[ee]
     rw[e1];exact this
    ·rename_i o1 o2 o3;exact Za e D x _ zo o2 o3 (DM lit e (k+1) D x 1 hx hk ha hw zd zd)
end Go.Ai
