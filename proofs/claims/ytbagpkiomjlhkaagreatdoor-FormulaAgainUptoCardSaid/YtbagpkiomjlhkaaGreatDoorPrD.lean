/- Printed texts: what the printer writes is among what may be written. -/
import Derived.Test.YtbagpkiomjlhkaaGreatDoorPrC
import Derived.Test.YtbagpkiomjlhkaaGreatDoorMdD
import Derived.Test.YtbagpkiomjlhkaaGreatDoorKnA
import Derived.Test.YtbagpkiomjlhkaaGreatDoorEqX
import Derived.Test.YtbagpkiomjlhkaaGreatDoorSimA
import Derived.Test.YtbagpkiomjlhkaaGreatDoorEqV
set_option linter.all false
namespace Go.Ai
open Go
set_option maxRecDepth 100000
set_option maxHeartbeats 4000000
abbrev jt:ByteArray->Int:=fun t=>(cr t).2
theorem r9{pe:ByteArray->Int}{x:X}{jb:Bool}{t:ByteArray}{L:List Tok}{m c:Nat}(h:Pr pe (.one c x) jb t L m):∀(d b:Nat),b+d=c->1<=b->c<=9->Pr pe (.one b x) jb t L m
 | 0,b,e,_,_=>by
  have:b=c:=zo
  subst this;exact h
 | d+1,b,e,h1,h2=>.dn (r9 h d (b+1) zo zo h2) h1 zo
def Pr.cast{pe:ByteArray->Int}{w:Wh}{jb:Bool}{t t':ByteArray}{L:List Tok}{m m':Nat}(h:Pr pe w jb t L m)(ht:t=t')(hm:m<=m'):Pr pe w jb t' L m':=by subst ht;exact .up h hm
def Lf{n:Int}(h0:0<=n)(h1:n<=12)(jb:Bool):Ee n [nu (cE n) n 0 jb]∧bd dT (cE n) [nu (cE n) n 0 jb] jb:=by
 obtain⟨u,rfl⟩:∃u:Nat,n=(u:Int):=⟨n.toNat,zo⟩
 refine⟨fun A a B ln cl hA=>?_,?_⟩
 ·obtain⟨x,A1,rfl,e1,e2⟩:=map_cons hA;have:=map_nil e2;subst this;have hk:x.kind=2:=gx e1;have hn:x.num=(u:Int):=(ak Tok.num e1:x.z.num=_)
  have hs:x.scale=0:=(ak Tok.scale e1:x.z.scale=_)
  have hp:(ar ([x]++a::B) ln cl).peek=x:=eR;unfold dI;rw[hp,show(ar ([x]++a::B) ln cl).ok=true from xf,hk,hs,hn,aa zsi,aa zo,show(ar ([x]++a::B) ln cl).next=ar (a::B) ln cl from iA zsi]
 ·rw[rV];have:=Ep (d:=false) (qp u) (k9 u) Az (Ax (u:=u) (Nat.lt_of_le_of_lt (zo:u<=12) zd)) jb
  rwa [show(if false=true then(⟨#[100]⟩:ByteArray)else⟨#[]⟩)=⟨#[]⟩from rfl,oW]at this
def ig(lit:V->ByteArray)(k:Nat)(y:X):Prop:=∀(n:Nat),n<=9->∀jb,∃L,Pr jt (.one (max n 1) y) jb (aP lit k y n) L (2*k)
theorem EI{lit:V->ByteArray}{k:Nat}:∀(l:List X),l≠[]->(∀y∈l,ig lit k y)->∀jb,∃L,Pr jt (.oI l) jb (bO (l.map fun y=>aP lit k y 0) cR) L (2*k)
 | [],h,_,_=>absurd rfl h
 | [x],_,h,jb=>by
  obtain⟨L,hL⟩:=h x dJ 0 zd jb;exact⟨L,by rw[fZ,List.map_nil,rH];exact .last hL⟩
 | x::y::r,_,h,jb=>by
  obtain⟨L,hL⟩:=h x dJ 0 zd jb;obtain⟨M,hM⟩:=EI (y::r) zsi (fun z hz=>h z (cH _ hz)) false;refine⟨L++sy dx true::M,?_⟩;rw[fZ,fZ,rG];exact .more hL hM
structure ud(lit:V->ByteArray)(x:X):Prop where
 one:∃ck:V->Int,iL ck cr x=0
 lit:x.op=1->Lit (x.value.getD 0 default) (lit (x.value.getD 0 default))
structure Lg(x:X):Prop where
 op:1<=x.op∧x.op<=28
 val:x.op≠1->x.value=[]
 ZA:x.op=1->x.value.length=1
 text:dP x.op=false->x.text=⟨#[]⟩
 int:gc x.op=false->x.int=0
 lo:fH x.op<=x.args.length
 hi:x.op≠25->(x.args.length:Int)<=eW x.op
 path:dP x.op=true->(cr x.text).2=0
 sc:gc x.op=true->0<=x.int∧x.int<=12
def Lh{ck:V->Int}{x:X}(h:iL ck cr x=0):Lg x:=by
 unfold iL at h;by_cases c1:x.op<1∨28<x.op
 ·rw[ae c1]at h;exact absurd h zd
 rw[aa c1]at h;by_cases c2:(x.op≠1∧0<x.value.length)∨(dP x.op=false∧x.text.size≠0)∨(gc x.op=false∧x.int≠0)
 ·rw[ae c2]at h;exact absurd h zd
 rw[aa c2]at h;by_cases c3:eW x.op=0∧0<x.args.length
 ·rw[ae c3]at h;exact absurd h zd
 rw[aa c3]at h;by_cases c4:(x.args.length:Int)<fH x.op
 ·rw[ae c4]at h;exact absurd h zd
 rw[aa c4]at h;by_cases c5:eW x.op<x.args.length∧x.op≠25
 ·rw[ae c5]at h;exact absurd h zd
 rw[aa c5]at h;have v0:x.op≠1->x.value=[]:=fun q=>sJ.1 (Nat.eq_zero_of_not_pos fun k=>c2 (.inl ⟨q,k⟩));have t0:dP x.op=false->x.text=⟨#[]⟩:=fun q=>by
  have:x.text.size=0:=fp fun k=>c2 (.inr (.inl ⟨q,k⟩));exact(mY _).2 this
 have i0:gc x.op=false->x.int=0:=fun q=>fp fun k=>c2 (.inr (.inr ⟨q,k⟩));have hi:x.op≠25->(x.args.length:Int)<=eW x.op:=fun q=>pc.1 fun k=>c5 ⟨k,q⟩;by_cases c6:x.op=1
 ·rw [ae c6]at h;have e1:x.value.length=1:=by
   unfold nS at h;split at h
   ·exact absurd h zd
   ·split at h
    ·assumption
    ·exact absurd h zd
  exact⟨zo,v0,fun _=>e1,t0,i0,zo,hi,fun q=>(by rw[c6]at q;cases q),fun q=>(by rw[c6]at q;cases q)⟩
 rw[aa c6]at h;by_cases c7:dP x.op=true∧(cr x.text).2≠0
 ·rw[ae c7]at h;exact absurd h c7.2
 rw[aa c7]at h;by_cases c8:dP x.op=true∧(cr x.text).1.any kA≠(x.op==26)
 ·rw[ae c8]at h;exact absurd h zd
 rw[aa c8]at h;by_cases c9:gc x.op=true∧(x.int<0∨12<x.int)
 ·rw[ae c9]at h;exact absurd h zd
 exact⟨zo,v0,fun q=>absurd q c6,t0,i0,zo,hi,fun q=>fp fun k=>c7 ⟨q,k⟩,fun q=>⟨pc.1 fun k=>c9 ⟨q,.inl k⟩,pc.1 fun k=>c9 ⟨q,.inr k⟩⟩⟩
structure Exact(lit:V->ByteArray)(k:Nat)(x:X)(c:Nat):Prop where
 c0:1<=c∧c<=9
 cb:aE x.op=c
 pr:∀jb,∃L,Pr jt (.one c x) jb (fz lit (k+1) x) L (2*k+1)∧(c=9->¬qm x->∀a u,L=a::u->a.kind≠2)
 b0:c=9->ad (fz lit (k+1) x) 0≠62∧ad (fz lit (k+1) x) 0≠61
def Exact.arg{lit:V->ByteArray}{k c:Nat}{x:X}(h:Exact lit k x c):ig lit (k+1) x:=by
 intro n hn jb;obtain⟨L,hL,_⟩:=h.pr jb;unfold aP;rw[h.cb];by_cases q:(c:Int)<(n:Int)
 ·rw[ae q];obtain⟨M,hM,_⟩:=h.pr true;have h1:=r9 hM (c-1) 1 (by have:=h.c0;omega) zd h.c0.2;have h2:Pr jt (.one 9 x) jb (dq (fz lit (k+1) x)) (sy fV jb::(M++[sy gO true])) (2*k+2):=.par h1;exact⟨_,(r9 h2 (9-max n 1) (max n 1) zo zo zd).cast rfl zo⟩
 ·rw[aa q];exact⟨L,(r9 hL (c-max n 1) (max n 1) (by have:=h.c0;omega) zo h.c0.2).cast rfl zo⟩
def sf{lit:V->ByteArray}{k c:Nat}{op:Int}{s:ByteArray}{y z:X}(hc:iB c)(hb:aE op=c)(hs:gU op c=s)(hf:dk s (opsL c)=some op)(h3:op≠3∧op≠16∧op≠25)(hy:ig lit k y)(hz:ig lit k z):
 Exact lit k (bin op y z) c:=by
 have hc1:1<=c∧c<=7∧c≠4:=by unfold iB at hc;omega
 refine⟨zo,hb,fun jb=>?_,fun q=>zo⟩;obtain⟨L,hL⟩:=hy c zo jb;obtain⟨M,hM⟩:=hz (c+1) zo false;rw[show max c 1=c by omega]at hL;rw[show max (c+1) 1=c+1 by omega]at hM;refine⟨L++opt s::M,(Pr.bin hc hf hL hM).cast ?_ zo,fun q=>zo⟩;show _=bh lit (aP lit k) (bin op y z);unfold bh
 rw[aa (show¬(bin op y z).op=3 from h3.1),aa (show¬(bin op y z).op=16 from h3.2.1),aa (show¬(bin op y z).op=25 from h3.2.2),aa (by rw[show(bin op y z).op=op from rfl,hb];omega),ae (by rw[show(bin op y z).op=op from rfl,hb];omega),
  show(bin op y z).op=op from rfl,hb,show((c:Int)).toNat=c from bu c,hs]
 rfl
def ux{lit:V->ByteArray}{k:Nat}{op:Int}{s:ByteArray}{y z:X}(hb:aE op=4)(hs:gU op 4=s)(hf:dk s (opsL 4)=some op)(h3:op≠3∧op≠16∧op≠25)(hy:ig lit k y)(hz:ig lit k z):
 Exact lit k (bin op y z) 4:=by
 refine⟨zo,hb,fun jb=>?_,fun q=>zo⟩;obtain⟨L,hL⟩:=hy 5 zo jb;obtain⟨M,hM⟩:=hz 5 zo false;refine⟨L++opt s::M,(Pr.cmp hf hL hM).cast ?_ zo,fun q=>zo⟩;show _=bh lit (aP lit k) (bin op y z);unfold bh;rw[aa (show¬(bin op y z).op=3 from h3.1),aa (show¬(bin op y z).op=16 from h3.2.1),aa (show¬(bin op y z).op=25 from h3.2.2),ae (show aE (bin op y z).op=4 from hb),show(bin op y z).op=op from rfl,hs];rfl
def VO{lit:V->ByteArray}{k:Nat}{y:X}(hy:ig lit k y):Exact lit k (.mk 3 0 ⟨#[]⟩ [] [y]) 3:=by
 refine⟨zo,(zd:aE 3=3),fun jb=>?_,fun q=>zo⟩;obtain⟨L,hL⟩:=hy 3 zo false;refine⟨wd nz jb::L,(Pr.not hL).cast ?_ zo,fun q=>zo⟩;show _=bh lit (aP lit k) (.mk 3 0 ⟨#[]⟩ [] [y]);unfold bh;exact(ae rfl).symm
def VP{lit:V->ByteArray}{k:Nat}{y:X}{l:List X}(hl:l≠[])(hy:ig lit k y)(h:∀z∈l,ig lit k z):Exact lit k (.mk 25 0 ⟨#[]⟩ [] (y::l)) 4:=by
 refine⟨zo,(zd:aE 25=4),fun jb=>?_,fun q=>zo⟩;obtain⟨L,hL⟩:=hy 5 zo jb;obtain⟨M,hM⟩:=EI l hl h true;refine⟨_,(Pr.Ap hL hM).cast ?_ zo,fun q=>zo⟩;show _=bh lit (aP lit k) (.mk 25 0 ⟨#[]⟩ [] (y::l));unfold bh;refine nM ?_ ((aa (show¬(25:Int)=3 by decide)).trans ((aa (show¬(25:Int)=16 by decide)).trans (ae rfl))).symm;show _=aP lit k y 5++uj++bO (l.map fun y=>aP lit k y 0) cR++⟨#[41]⟩
 rw[show uj=fg++inT++fg++⟨#[40]⟩ by decide];simp only[ee];rfl
def VQ{lit:V->ByteArray}{k c:Nat}{y:X}(hy:Exact lit k y c):Exact lit (k+1) (.mk 16 0 ⟨#[]⟩ [] [y]) 8:=by
 refine⟨zo,(zd:aE 16=8),fun jb=>?_,fun q=>zo⟩;have hT:fz lit (k+2) (.mk 16 0 ⟨#[]⟩ [] [y])=⟨#[45]⟩++(if qm y then dq (aP lit (k+1) y 9)else aP lit (k+1) y 9):=by
  show bh lit (aP lit (k+1)) (.mk 16 0 ⟨#[]⟩ [] [y])=_;unfold bh;exact(aa (show¬(16:Int)=3 by decide)).trans (ae rfl)
 rw[hT];obtain⟨M,hM,hk⟩:=hy.pr true;have h1:=r9 hM (c-1) 1 (by have:=hy.c0;omega) zd hy.c0.2;have hp:Pr jt (.one 9 y) true (dq (fz lit (k+1) y)) (sy fV true::(M++[sy gO true])) (2*k+2):=.par h1;have hN:Pr jt (.one 8 (.mk 16 0 ⟨#[]⟩ [] [y])) jb (⟨#[45]⟩++dq (fz lit (k+1) y)) (sy bP jb::sy fV true::(M++[sy gO true])) (2*k+2+1):=
  .neg hp (fun a u e=>by cases e;exact(zd:(5:Int)≠2)) (by
   have:ad (dq (fz lit (k+1) y)) 0=40:=(eB (by rw[aj];exact cf im (io 1 _))).trans ((eB (a:=⟨#[40]⟩) im).trans zd);rw[this];decide)
 by_cases q:qm y
 ·rw[ae q];have hb:aE y.op=9:=by rw[q.1];decide
  have e:aP lit (k+1) y 9=fz lit (k+1) y:=by unfold aP;rw[hb];exact aa zd
  rw[e];exact⟨_,hN.cast rfl zo,fun w=>zo⟩
 ·rw[aa q];unfold aP;rw[hy.cb];by_cases q2:(c:Int)<9
  ·rw[ae q2];exact⟨_,hN.cast rfl zo,fun w=>zo⟩
  ·rw[aa q2];have:c=9:=by have:=hy.c0;omega
   subst this;exact⟨_,(Pr.neg hM (hk rfl q) (hy.b0 rfl)).cast rfl zo,fun w=>zo⟩
def VS{lit:V->ByteArray}{k:Nat}{v:V}(h:Lit v (lit v)):Exact lit k (.mk 1 0 ⟨#[]⟩ [v] []) 9:=by
 have hT:fz lit (k+1) (.mk 1 0 ⟨#[]⟩ [v] [])=lit v:=by
  show bh lit (aP lit k) (.mk 1 0 ⟨#[]⟩ [v] [])=_;unfold bh;exact(aa (show¬(1:Int)=3 by decide)).trans ((aa (show¬(1:Int)=16 by decide)).trans ((aa (show¬(1:Int)=25 by decide)).trans ((aa (show¬aE 1=4 by decide)).trans ((aa (show¬aE 1<9 by decide)).trans (ae rfl)))))
 refine⟨zo,(zd:aE 1=9),fun jb=>?_,fun _=>by rw[hT];exact h.b0⟩;rw[hT];obtain⟨L,h1,h2,h3⟩:=h.tok jb;exact⟨L,(Pr.val h1 h2).cast rfl zo,fun _ q=>h3 fun w=>q ⟨rfl,w⟩⟩
def EJ{t:ByteArray}(h:bJ (ad t 0)=true):ad t 0≠62∧ad t 0≠61:=by
 unfold bJ at h;simp only[cX]at h;omega
def VT{lit:V->ByteArray}{k:Nat}{p:ByteArray}(h:(cr p).2=0)(hr:dQ (iV p)=false):Exact lit k (.mk 2 0 p [] []) 9:=by
 have hT:fz lit (k+1) (.mk 2 0 p [] [])=p:=by
  show bh lit (aP lit k) (.mk 2 0 p [] [])=_;unfold bh;exact(aa (show¬(2:Int)=3 by decide)).trans ((aa (show¬(2:Int)=16 by decide)).trans ((aa (show¬(2:Int)=25 by decide)).trans ((aa (show¬aE 2=4 by decide)).trans ((aa (show¬aE 2<9 by decide)).trans ((aa (show¬(2:Int)=1 by decide)).trans (ae rfl))))))
 refine⟨zo,(zd:aE 2=9),fun jb=>?_,fun _=>?_⟩
 ·rw[hT];obtain⟨L,h1,h2⟩:=EH h hr jb;obtain⟨a,u,e,e1,_⟩:=h1.hd;exact⟨L,(Pr.path h1 h2).cast rfl zo,fun _ _ b w q=>by rw[e]at q;cases q;omega⟩
 ·rw[hT];obtain⟨w,r,L,rfl,hw,_⟩:=Le h;rw[eB hw.1];exact EJ hw.2.2.1
def AG{lit:V->ByteArray}{k:Nat}{x:X}{w:ByteArray}{q:ByteArray×Int×Int}(h3:x.op≠3∧x.op≠16∧x.op≠25∧x.op≠1∧x.op≠2)(hb:aE x.op=9)(hf:(ba.find? fun p=>p.2.1==x.op)=some q)(hw:q.1=w):
 fz lit (k+1) x=w++⟨#[40]⟩++iZ x (if 0<x.args.length then bO (x.args.map fun y=>aP lit k y 0) cR else x.text)++⟨#[41]⟩:=by
 show bh lit (aP lit k) x=_;unfold bh;rw[aa h3.1,aa h3.2.1,aa h3.2.2.1,aa (by rw[hb];decide),aa (by rw[hb];decide),aa h3.2.2.2.1,aa h3.2.2.2.2];unfold w9;rw[hf];show q.1++_++_++_=_;rw[hw]
def sg{lit:V->ByteArray}{k:Nat}{op n:Int}{w:ByteArray}{l:List X}(hop:op≠3∧op≠16∧op≠25∧op≠1∧op≠2∧op≠15∧op≠22∧op≠26)(hb:aE op=9)(hf:(ba.find? fun p=>p.2.1==op)=some (w,op,n))(hw:dk w ba=some (op,n))
 (hl:l≠[]) (hn:n=l.length) (h:∀z∈l,ig lit k z):Exact lit k (.mk op 0 ⟨#[]⟩ [] l) 9:=by
 obtain⟨h1,h2,h3,h4,h5,h6,h7,h8⟩:=hop;have hT:=AG (lit:=lit) (k:=k) (x:=.mk op 0 ⟨#[]⟩ [] l) ⟨h1,h2,h3,h4,h5⟩ hb hf rfl;have hi:iZ (.mk op 0 ⟨#[]⟩ [] l) (if 0<l.length then bO (l.map fun y=>aP lit k y 0) cR else⟨#[]⟩)=bO (l.map fun y=>aP lit k y 0) cR:=by
  unfold iZ;exact(aa (fun q=>q.elim h6 (fun q=>h8 q.1))).trans (ae (mU.2 hl))
 have oX:fz lit (k+1) (.mk op 0 ⟨#[]⟩ [] l)=w++⟨#[40]⟩++bO (l.map fun y=>aP lit k y 0) cR++⟨#[41]⟩:=by rw[hT,<- hi];rfl
 obtain⟨c1,c2,c3,c4⟩:=Kz hw;refine⟨zo,hb,fun jb=>?_,fun _=>?_⟩
 ·obtain⟨M,hM⟩:=EI l hl h true;rw[oX];exact⟨_,(Pr.call hw (fun q=>q.elim h7 h8) h6 hn hM).cast rfl zo,fun _ _ a u e=>by cases e;exact(zd:(1:Int)≠2)⟩
 ·rw[oX,eB (by rw[aj,aj];omega),eB (by rw[aj];omega),eB c1];exact EJ c2
def VU{lit:V->ByteArray}{k:Nat}{n:Int}{y z:X}(h0:0<=n)(h1:n<=12)(hy:ig lit k y)(hz:ig lit k z):Exact lit k (.mk 15 n ⟨#[]⟩ [] [y,z]) 9:=by
 have hT:=AG (lit:=lit) (k:=k) (x:=.mk 15 n ⟨#[]⟩ [] [y,z]) (w:=mE) (q:=(mE,15,2)) (show(15:Int)≠3∧(15:Int)≠16∧(15:Int)≠25∧(15:Int)≠1∧(15:Int)≠2 by decide) (zd:aE 15=9) (zd:(ba.find? fun p=>p.2.1==(15:Int))=some (mE,15,2)) rfl;have hi:iZ (.mk 15 n ⟨#[]⟩ [] [y,z]) (bO [aP lit k y 0,aP lit k z 0] cR)=aP lit k y 0++lQ++aP lit k z 0++(lQ++cE n):=by
  unfold iZ;refine(ae (.inl rfl)).trans ?_;rw[rG,rH];rfl
 have oX:fz lit (k+1) (.mk 15 n ⟨#[]⟩ [] [y,z])=mE++⟨#[40]⟩++aP lit k y 0++lQ++aP lit k z 0++lQ++cE n++⟨#[41]⟩:=by
  refine hT.trans ?_;show mE++⟨#[40]⟩++iZ (.mk 15 n ⟨#[]⟩ [] [y,z]) (bO [aP lit k y 0,aP lit k z 0] cR)++⟨#[41]⟩=_;rw[hi];simp only[ee]
 refine⟨zo,(zd:aE 15=9),fun jb=>?_,fun _=>?_⟩
 ·obtain⟨L,hL⟩:=hy 0 zd true;obtain⟨M,hM⟩:=hz 0 zd false;obtain⟨n1,n2⟩:=Lf h0 h1 false;rw[oX];exact⟨_,(Pr.div hL hM n1 n2 zsi).cast rfl zo,fun _ _ a u e=>by cases e;exact(zd:(1:Int)≠2)⟩
 ·rw[hT];rw[ee (a:=mE),ee (a:=mE)];rw[eB zd];decide
def Li{lit:V->ByteArray}{k:Nat}{op:Int}{p:ByteArray}(hop:op=22∨op=26)(h:(cr p).2=0)(hr:dQ (iV p)=false):Exact lit k (.mk op 0 p [] []) 9:=by
 have key:∀(w:ByteArray),((op=22∧w=Ef)∨(op=26∧w=kg))->aE op=9->(ba.find? fun q=>q.2.1==op)=some (w,op,0)->0<w.size->bJ (ad w 0)=true->Exact lit k (.mk op 0 p [] []) 9:=by
  intro w hw hb hf hs hl
  have hT:=AG (lit:=lit) (k:=k) (x:=.mk op 0 p [] []) (w:=w) (q:=(w,op,0)) (by
   show op≠3∧op≠16∧op≠25∧op≠1∧op≠2;omega) hb hf rfl
  have oX:fz lit (k+1) (.mk op 0 p [] [])=w++⟨#[40]⟩++p++⟨#[41]⟩:=by
   refine hT.trans ?_;have:iZ (.mk op 0 p [] []) p=p:=by
    unfold iZ;exact aa (by show¬(op=15∨(op=26∧(0:Int)≠0));omega)
   show w++⟨#[40]⟩++iZ (.mk op 0 p [] []) p++⟨#[41]⟩=_;rw[this]
  refine⟨zo,hb,fun jb=>?_,fun _=>?_⟩
  ·obtain⟨L,l1,l2⟩:=EH h hr true;rw[oX];exact⟨_,(Pr.has hw l1 l2).cast rfl zo,fun _ _ a u e=>by cases e;exact(zd:(1:Int)≠2)⟩
  ·rw[oX,ee (a:=w++⟨#[40]⟩)];rw[eB (by rw[aj];omega),eB hs];exact EJ hl
 rcases hop with rfl|rfl
 ·exact key Ef (.inl ⟨rfl,rfl⟩) zd zd zd zd
 ·exact key kg (.inr ⟨rfl,rfl⟩) zd zd zd zd
def VV{lit:V->ByteArray}{k:Nat}{n:Int}{p:ByteArray}(hn:n≠0)(h0:0<=n)(h1:n<=12)(h:(cr p).2=0)(hr:dQ (iV p)=false):Exact lit k (.mk 26 n p [] []) 9:=by
 have hT:=AG (lit:=lit) (k:=k) (x:=.mk 26 n p [] []) (w:=kg) (q:=(kg,26,0)) (show(26:Int)≠3∧(26:Int)≠16∧(26:Int)≠25∧(26:Int)≠1∧(26:Int)≠2 by decide) (zd:aE 26=9) (zd:(ba.find? fun q=>q.2.1==(26:Int))=some (kg,26,0)) rfl;have oX:fz lit (k+1) (.mk 26 n p [] [])=kg++⟨#[40]⟩++p++lQ++cE n++⟨#[41]⟩:=by
  refine hT.trans ?_;have:iZ (.mk 26 n p [] []) p=p++(lQ++cE n):=by
   unfold iZ;exact ae (.inr ⟨rfl,hn⟩)
  show kg++⟨#[40]⟩++iZ (.mk 26 n p [] []) p++⟨#[41]⟩=_;rw[this];simp only[ee]
 refine⟨zo,(zd:aE 26=9),fun jb=>?_,fun _=>?_⟩
 ·obtain⟨L,l1,l2⟩:=EH h hr true;obtain⟨n1,n2⟩:=Lf h0 h1 false;rw[oX];exact⟨_,(Pr.sum l1 l2 n1 n2 zsi).cast rfl zo,fun _ _ a u e=>by cases e;exact(zd:(1:Int)≠2)⟩
 ·rw[hT,ee (a:=kg),ee (a:=kg)];rw[eB zd];decide
def VW{lit:V->ByteArray}{k:Nat}{op:Int}{y z:X}(h:op=5∨op=4∨op=23∨op=12∨op=13∨op=17∨op=14)(hy:ig lit k y)(hz:ig lit k z):∃c,Exact lit k (bin op y z) c:=by
 rcases h with rfl|rfl|rfl|rfl|rfl|rfl|rfl
 ·exact⟨1,sf (s:=⟨#[111,114]⟩) (.inl rfl) zd zd zd zd hy hz⟩
 ·exact⟨2,sf (s:=⟨#[97,110,100]⟩) (.inr (.inl rfl)) zd zd zd zd hy hz⟩
 ·exact⟨5,sf (s:=⟨#[101,108,115,101]⟩) (.inr (.inr (.inl rfl))) zd zd zd zd hy hz⟩
 ·exact⟨6,sf (s:=⟨#[43]⟩) (.inr (.inr (.inr (.inl rfl)))) zd zd zd zd hy hz⟩
 ·exact⟨6,sf (s:=⟨#[45]⟩) (.inr (.inr (.inr (.inl rfl)))) zd zd zd zd hy hz⟩
 ·exact⟨6,sf (s:=⟨#[38]⟩) (.inr (.inr (.inr (.inl rfl)))) zd zd zd zd hy hz⟩
 ·exact⟨7,sf (s:=⟨#[42]⟩) (.inr (.inr (.inr (.inr rfl)))) zd zd zd zd hy hz⟩
def VX{lit:V->ByteArray}{k:Nat}{op:Int}{y z:X}(h:op=6∨op=7∨op=8∨op=9∨op=10∨op=11)(hy:ig lit k y)(hz:ig lit k z):∃c,Exact lit k (bin op y z) c:=by
 rcases h with rfl|rfl|rfl|rfl|rfl|rfl
 ·exact⟨4,ux (s:=⟨#[61]⟩) zd zd zd zd hy hz⟩
 ·exact⟨4,ux (s:=⟨#[33,61]⟩) zd zd zd zd hy hz⟩
 ·exact⟨4,ux (s:=⟨#[60]⟩) zd zd zd zd hy hz⟩
 ·exact⟨4,ux (s:=⟨#[60,61]⟩) zd zd zd zd hy hz⟩
 ·exact⟨4,ux (s:=⟨#[62]⟩) zd zd zd zd hy hz⟩
 ·exact⟨4,ux (s:=⟨#[62,61]⟩) zd zd zd zd hy hz⟩
def VY{lit:V->ByteArray}{k:Nat}{op:Int}{l:List X}(h:(op=18∨op=19∨op=20∨op=27∨op=28)∧l.length=1∨(op=21∨op=24)∧l.length=3)(hl:∀y∈l,ig lit k y):∃c,Exact lit k (.mk op 0 ⟨#[]⟩ [] l) c:=by
 have hne:l≠[]:=fun q=>by subst q;rcases h with h|h<;>exact absurd h.2 zd
 refine⟨9,?_⟩;rcases h with⟨h|h|h|h|h,e⟩|⟨h|h,e⟩<;>subst h
 ·exact sg (w:=⟨#[108,101,110,103,116,104]⟩) (n:=1) zd zd zd zd hne zo hl
 ·exact sg (w:=⟨#[108,111,119,101,114]⟩) (n:=1) zd zd zd zd hne zo hl
 ·exact sg (w:=⟨#[117,112,112,101,114]⟩) (n:=1) zd zd zd zd hne zo hl
 ·exact sg (w:=⟨#[116,101,120,116]⟩) (n:=1) zd zd zd zd hne zo hl
 ·exact sg (w:=⟨#[110,117,109,98,101,114]⟩) (n:=1) zd zd zd zd hne zo hl
 ·exact sg (w:=⟨#[115,108,105,99,101]⟩) (n:=3) zd zd zd zd hne zo hl
 ·exact sg (w:=⟨#[105,102]⟩) (n:=3) zd zd zd zd hne zo hl
def Lj{lit:V->ByteArray}{k:Nat}{x:X}(nf:Lg x)(hl:x.op=1->Lit (x.value.getD 0 default) (lit (x.value.getD 0 default)))(hr:dQ (iV x.text)=false)(ha:∀y∈x.args,ig lit k y∧∃j c,k=j+1∧Exact lit j y c):∃c,Exact lit k x c:=by
 obtain⟨op,int,text,value,args⟩:=x;obtain⟨ho,hv,hv1,ht,hi,hlo,hhi,hp,hs⟩:=nf;dsimp only[X.op,X.int,X.text,X.value,X.args]at*;have v0:op≠1->value=[]:=hv;have two:fH op=2->eW op=2->op≠25->∃y z,args=[y,z]:=fun q1 q2 q3=>by
  have:=hhi q3;have hl:args.length=2:=zo
  match args,hl with
  | [y,z],_=>exact⟨y,z,rfl⟩
 have plain:op≠1->dP op=false->gc op=false->X.mk op int text value args=.mk op 0 ⟨#[]⟩ [] args:=fun q1 q2 q3=>by rw[hv q1,ht q2,hi q3]
 by_cases c1:op=1
 ·subst c1;obtain⟨v,rfl⟩:=Bb.1 (hv1 rfl);have h0:args=[]:=sJ.1 (by have:=hhi zd;rw[show eW 1=0 by decide]at this;omega);subst h0;rw[ht zd,hi zd];exact⟨9,VS (hl rfl)⟩
 by_cases c2:op=2
 ·subst c2;have h0:args=[]:=sJ.1 (by have:=hhi zd;rw[show eW 2=0 by decide]at this;omega);subst h0;rw[hv zd,hi zd];exact⟨9,VT (hp zd) hr⟩
 by_cases wJ:op=22
 ·subst wJ;have h0:args=[]:=sJ.1 (by have:=hhi zd;rw[show eW 22=0 by decide]at this;omega);subst h0;rw[hv zd,hi zd];exact⟨9,Li (.inl rfl) (hp zd) hr⟩
 by_cases Am:op=26
 ·subst Am;have h0:args=[]:=sJ.1 (by have:=hhi zd;rw[show eW 26=0 by decide]at this;omega);subst h0;rw[hv zd];obtain⟨s0,s1⟩:=hs zd;by_cases q:int=0
  ·subst q;exact⟨9,Li (.inr rfl) (hp zd) hr⟩
  ·exact⟨9,VV q s0 s1 (hp zd) hr⟩
 by_cases c15:op=15
 ·subst c15;obtain⟨y,z,rfl⟩:=two zd zd zd;rw[hv zd,ht zd];obtain⟨s0,s1⟩:=hs zd;exact⟨9,VU s0 s1 (ha y zsi).1 (ha z zsi).1⟩
 by_cases c3:op=3
 ·subst c3;obtain⟨y,rfl⟩:=Bb.1 (by have:=hhi zd;rw[show eW 3=1 by decide]at this;rw[show fH 3=1 by decide]at hlo;omega:args.length=1);rw[plain zd zd zd];exact⟨3,VO (ha y zsi).1⟩
 by_cases c16:op=16
 ·subst c16;obtain⟨y,rfl⟩:=Bb.1 (by have:=hhi zd;rw[show eW 16=1 by decide]at this;rw[show fH 16=1 by decide]at hlo;omega:args.length=1);rw[plain zd zd zd];obtain⟨_,j,c,rfl,h⟩:=ha y zsi;exact⟨8,VQ h⟩
 by_cases rm:op=25
 ·subst rm;rw[plain zd zd zd];rw[show fH 25=2 by decide]at hlo
  match args,hlo,ha with
  | [],h,_=>exact absurd h zd
  | [_],h,_=>exact absurd h (by show¬(2:Int)<=((1:Nat):Int);decide)
  | y::z::r,_,ha=>exact⟨4,VP zsi (ha y zsi).1 fun w hw=>(ha w (cH _ hw)).1⟩
 by_cases cb:op=5∨op=4∨op=23∨op=12∨op=13∨op=17∨op=14
 ·have hb:fH op=2∧eW op=2∧op≠25∧op≠1∧dP op=false∧gc op=false:=by rcases cb with rfl|rfl|rfl|rfl|rfl|rfl|rfl<;>decide
  obtain⟨y,z,rfl⟩:=two hb.1 hb.2.1 hb.2.2.1;rw[plain hb.2.2.2.1 hb.2.2.2.2.1 hb.2.2.2.2.2];exact VW cb (ha y zsi).1 (ha z zsi).1
 by_cases cc:op=6∨op=7∨op=8∨op=9∨op=10∨op=11
 ·have hb:fH op=2∧eW op=2∧op≠25∧op≠1∧dP op=false∧gc op=false:=by rcases cc with rfl|rfl|rfl|rfl|rfl|rfl<;>decide
  obtain⟨y,z,rfl⟩:=two hb.1 hb.2.1 hb.2.2.1;rw[plain hb.2.2.2.1 hb.2.2.2.2.1 hb.2.2.2.2.2];exact VX cc (ha y zsi).1 (ha z zsi).1
 have c4:(op=18∨op=19∨op=20∨op=27∨op=28)∨(op=21∨op=24):=zo
 have hb:op≠25∧op≠1∧dP op=false∧gc op=false:=by rcases c4 with(rfl|rfl|rfl|rfl|rfl)|(rfl|rfl)<;>decide
 have hh:=hhi hb.1;rw[plain hb.2.1 hb.2.2.1 hb.2.2.2];refine VY ?_ fun y hy=>(ha y hy).1;rcases c4 with q|q
 ·refine .inl ⟨q,?_⟩;have:fH op=1∧eW op=1:=by rcases q with rfl|rfl|rfl|rfl|rfl<;>decide
  omega
 ·refine .inr ⟨q,?_⟩;have:fH op=3∧eW op=3:=by rcases q with rfl|rfl<;>decide
  omega
def Lk{lit:V->ByteArray}{e:Nat}:∀{k:Nat} {x:X},X.le e (k+1) x->X.all (ud lit) (k+1) x->gL (k+1) x=false->∃c,Exact lit k x c:=by
 have ZB:dQ (iV ⟨#[]⟩)=false:=zd
 have key:∀{k:Nat} {x:X},X.le e (k+1) x->X.all (ud lit) (k+1) x->gL (k+1) x=false->(∀y∈x.args,gL k y=false)∧dQ (iV x.text)=false:=fun{k x} _ _ h=>by
  unfold gL at h;rw[Bool.or_eq_false_iff]at h
  exact⟨fun y hy=>by
   have:=List.any_eq_false.1 h.2 y hy;simpa using this,h.1⟩
 intro k
 induction k with
 | zero=>
  intro x hx hg hh;obtain⟨_,h2⟩:=key hx hg hh;obtain⟨ck,h1⟩:=hg.1.one;exact Lj (Lh h1) hg.1.lit h2 fun y hy=>(hx.2.2.2.2 y hy).elim
 | succ k ih=>
  intro x hx hg hh;obtain⟨h3,h2⟩:=key hx hg hh;obtain⟨ck,h1⟩:=hg.1.one;refine Lj (Lh h1) hg.1.lit h2 fun y hy=>?_;obtain⟨c,h⟩:=ih (hx.2.2.2.2 y hy) (hg.2 y hy) (h3 y hy);exact⟨h.arg,k,c,rfl,h⟩
def VZ{t:Tok}(h:t.z=.mk 0 0 0 ⟨#[]⟩ ⟨#[]⟩ 0 0 false):Fo 1 t:=kY h (nD zd (fun _=>rfl) rfl) rfl
def Ll{pe:ByteArray->Int}{x:X}{t r:ByteArray}{L M:List Tok}{m:Nat}{k:Nat}{e:Int}(h:Pr pe (.one 1 x) false t L m)(hm:m<=32)(hr:dT (ad (t++r) t.size))(hx:Lx (t++r) t.size t.size M k e)(hk:(t++r).size<=dR (t++r) k)(hs:(t++r).size<=16384)
 (hM:∀a,M.head? = some a->Fo 1 a∧a.z=a):
 ∃L' M' E,eY (t++r)=(L'++(M'++[E]),0,0,0)∧L'.map Tok.z=L∧M'.map Tok.z=M∧E.z=.mk 0 0 0 ⟨#[]⟩ ⟨#[]⟩ 0 0 false∧ep pe (ar (L'++(M'++[E])) 0 0)=(x,aT (M'++[E]) 0 0 0):=by
 have h1:Lx (t++r) 0 (-1) L t.size t.size:=by
  have:=UU h (t++r) 0 (-1) (At.all _).app.1 (by rw[eC];exact hr) rfl
  rwa [eC]at this
 have h2:=h1.app hx;have hl:=h2.len;have hL:=(gP h).2.2;have h3:=hl.2 (by simp[hL]);obtain⟨A,E,s1,s2,s3⟩:=Ur h2 hk zo zo (by simp[hL]);obtain⟨L',M',rfl,e1,e2⟩:=kh s2;refine⟨L',M',E,by rw[s1,gF],e1,e2,s3,?_⟩;have hR:=(UQ h 33 0 zo zo zo).2;unfold ep;rw[xl];cases M' with
 | nil=>exact hR L' E [] 0 0 e1 (VZ s3)
 | cons a B=>
  have ha:M.head? = some a.z:=by rw[<- e2];rfl
  obtain⟨f1,f2⟩:=hM _ ha;exact hR L' a (B++[E]) 0 0 e1 (kY rfl f1 f2)
def Lm(s:ByteArray):s.size<=dR s s.size:=by
 unfold dR;rw[ku];exact ao _
def V0{pe:ByteArray->Int}{ck:X->Int}{x:X}{t:ByteArray}{L:List Tok}{m:Nat}(h:Pr pe (.one 1 x) false t L m)(hm:m<=32)(hs:t.size<=16384)(hc:ck x=0):oY pe ck (newS t)=(x,0,0,0):=by
 have he:t++(⟨#[]⟩:ByteArray)=t:=oW t;obtain⟨L',M',E,s1,s2,s3,s4,s5⟩:=Ll (r:=⟨#[]⟩) (M:=[]) (k:=t.size) (e:=t.size) h hm (by rw[he];exact .inl (qe (ao _))) .nil (by rw[he];exact Lm t) (by rw[he];exact hs) (fun a q=>by cases q);have:=map_nil s3;subst this;rw[he]at s1;have hn:newS t=ar (L'++([]++[E])) 0 0:=by unfold newS;rw[s1]
 have hk:E.kind=0:=gx s4;have hr:mJ pe ck (newS t)=(x,ar [E] 0 0):=by
  unfold mJ;rw[hn,s5];show(if(ar [E] 0 0).e≠0 then _ else if((ar [E] 0 0).fail (ck x)).e≠0 then _ else(x,(ar [E] 0 0).fail (ck x)))=_;rw[hc,lc];exact(aa (by show¬(0:Int)≠0;simp)).trans (aa (by show¬(0:Int)≠0;simp))
 have hE:oZ (ar [E] 0 0)=ar [E] 0 0:=by
  unfold oZ;rw[eR,hk];rfl
 unfold oY;rw[hr];dsimp only;rw[hE];exact aa (by show¬(0:Int)≠0;simp)
def Sg{lit:V->ByteArray}{e:Nat}{ck:X->Int}{x:X}(hx:X.le e 9 x)(hg:X.all (ud lit) 9 x)(hh:gL 9 x=false)(hc:ck x=0)(hs:(aP lit 9 x 0).size<=16384):oY jt ck (newS (aP lit 9 x 0))=(x,0,0,0):=by
 obtain⟨c,h⟩:=Lk hx hg hh;obtain⟨L,hL⟩:=h.arg 0 zd false;exact V0 hL zd hs hc
def xx{u w:Nat}:gV (u:Int) (w:Int)=eJ w u:=by
 unfold gV eJ oU;rw[rV,gy,rU,show((w:Int)-((Lib.decDigits u).length:Int)).toNat=w-(Lib.decDigits u).length by omega];rfl
def Ln{n:Int}{t:ByteArray}(h:vg n t):∃y m d:Nat,(1<=y∧y<=9999)∧(1<=m∧m<=12)∧(1<=d∧d<=31)∧t=ld y m d∧jG y m d=(n,0):=by
 obtain⟨y,m,d,y0,y1,m0,m1,d0,d1,⟨e1,e2⟩,e3⟩:=h;obtain⟨y,rfl⟩:∃u:Nat,y=(u:Int):=⟨y.toNat,zo⟩
 obtain⟨m,rfl⟩:∃u:Nat,m=(u:Int):=⟨m.toNat,zo⟩
 obtain⟨d,rfl⟩:∃u:Nat,d=(u:Int):=⟨d.toNat,zo⟩
 refine⟨y,m,d,zo,zo,zo,?_,?_⟩
 ·rw[e3];unfold ld;rw[<- xx (w:=4),<- xx (w:=2),<- xx (w:=2)];rfl
 ·unfold jG;rw[ae ⟨⟨y0,y1⟩,⟨m0,m1⟩,d0,e1⟩,<- e2]
def V2{n:Int}{t:ByteArray}(h:vg n t):Lit (sc 6 n 0 ⟨#[]⟩) (qr++fg++kq t):=by
 obtain⟨y,m,d,h1,h2,h3,rfl,h4⟩:=Ln h;have e:(10:Nat)^4=10000:=zd
 have e2:(10:Nat)^2=100:=zd
 have z:(ld y m d).size=10:=by
  unfold ld;simp only[aj];rw[mH zo zd,mH zo zd,mH zo zd];rfl
 exact VB (K8 _ _ _) zo ((Vw zo zo zo).trans h4)
def V3{n:Int}{t:ByteArray}(h:Bw n t)(hn : -62135596800000<=n∧n<=253402300799999):Lit (sc 7 n 0 ⟨#[]⟩) (oR++fg++kq t):=by
 obtain⟨u,b,hu,hb,ht⟩:=h;obtain⟨y,m,d,h1,h2,h3,rfl,h4⟩:=Ln hu;have e:(10:Nat)^4=10000:=zd
 have e2:(10:Nat)^2=100:=zd
 have e3:(10:Nat)^3=1000:=zd
 obtain⟨b,rfl⟩:∃c:Nat,b=(c:Int):=⟨b.toNat,zo⟩
 have f1:(b:Int)/1000/3600=((b/1000/3600:Nat):Int):=zo
 have f2:(b:Int)/1000/60%60=((b/1000/60%60:Nat):Int):=zo
 have f3:(b:Int)/1000%60=((b/1000%60:Nat):Int):=zo
 have f4:(b:Int)%1000=((b%1000:Nat):Int):=zo
 have hb2:b<86400000:=zo
 have hT:t=qt y m d (b/1000/3600) (b/1000/60%60) (b/1000%60) (b%1000):=by
  rw[ht,f1,f2,f3,f4];unfold qt nG;have p2:∀u:Nat,gV (u:Int) 2=eJ 2 u:=fun u=>xx (w:=2);have p3:∀u:Nat,gV (u:Int) 3=eJ 3 u:=fun u=>xx (w:=3);rw[p2,p2,p2,p3];by_cases q:b%1000=0
  ·rw[ae zo,ae q];simp only[ee]
  ·rw[aa zo,aa q];simp only[ee]
 have z:t.size<=1024:=by
  have zm:(nG (b%1000)).size<=5:=by
   unfold nG;split
   ·exact(zd:1<=5)
   ·simp only[aj];rw[mH zo zd];exact ao _
  have k1:(⟨#[84]⟩:ByteArray).size=1:=rfl;have k2:(⟨#[58]⟩:ByteArray).size=1:=rfl;have k3:(⟨#[45]⟩:ByteArray).size=1:=rfl;rw[hT];unfold qt ld;simp only[aj,k1,k2,k3];rw[mH (u:=y) zo zd,mH (u:=m) zo zd,mH (u:=d) zo zd,mH (u:=b/1000/3600) zo zd,mH (u:=b/1000/60%60) zo zd,mH (u:=b/1000%60) zo zd];omega
 refine VD (by rw[hT];exact VA _ _ _ _ _ _ _) z ?_;rw[hT,Vy zo zo zo zo zo zo zo (by rw[h4]),h4];unfold pn;dsimp only;rw[ae zo];congr 1;omega
structure Lo(v:V)(t:ByteArray):Prop where
 k1:v.kind=1->t=nw (v.int==1)
 k2:v.kind=2->t=cE v.int
 k3:v.kind=3->t=if v.scale=0 then(ej (v.int,v.scale)).1++⟨#[100]⟩else(ej (v.int,v.scale)).1
 k4:v.kind=4->t=kq v.text
 k5:v.kind=5->t=⟨#[120,34]⟩++dU v.text v.text.size++⟨#[34]⟩
 k6:v.kind=6 -> -719162<=v.int∧v.int<=2932896->∃u,vg v.int u∧t=⟨#[100,97,116,101,32]⟩++kq u
 k7:v.kind=7 -> -62135596800000<=v.int∧v.int<=253402300799999->∃u,Bw v.int u∧t=⟨#[116,105,109,101,32]⟩++kq u
def uy{n a b:Int}(h:between n a b=0):a<=n∧n<=b:=by
 unfold between at h;split at h
 ·exact absurd h zd
 ·omega
def Lp{n m e:Int}(h:fQ n m e=0)(he:e≠0):n<=m:=by
 unfold fQ at h;split at h
 ·exact absurd h he
 ·omega
def V4{vs:ByteArray->Bool}{v:V}(h:eA vs v=0):(v.kind=1->0<=v.int∧v.int<=1)∧(v.kind=2 -> -999999999999999<=v.int∧v.int<=999999999999999)∧(v.kind=3->(-999999999999999<=v.int∧v.int<=999999999999999)∧0<=v.scale∧v.scale<=12) ∧
 (v.kind=4->v.text.size<=1024∧vs v.text=true)∧(v.kind=5->v.text.size<=1024)∧(v.kind=6 -> -719162<=v.int∧v.int<=2932896)∧(v.kind=7 -> -62135596800000<=v.int∧v.int<=253402300799999):=by
 unfold eA at h;refine⟨fun q=>?_,fun q=>?_,fun q=>?_,fun q=>?_,fun q=>?_,fun q=>?_,fun q=>?_⟩
 ·rw[ae q]at h;exact uy h
 ·rw[aa zo,ae q]at h;exact uy h
 ·rw[aa zo,aa zo,ae q]at h;split at h
  ·rename_i k;exact absurd h k
  ·rename_i k;exact⟨uy (Classical.not_not.1 k),uy h⟩
 ·rw[aa zo,aa zo,aa zo,ae q]at h;split at h
  ·exact absurd h zd
  ·rename_i k;have hz:=Lp h zd;refine⟨zo,?_⟩;cases c:vs v.text with
   | true=>rfl
   | false=>exact absurd ⟨h,c⟩ k
 ·rw[aa zo,aa zo,aa zo,aa zo,ae q]at h;have:=Lp h zd;omega
 ·rw[aa zo,aa zo,aa zo,aa zo,aa zo,ae q]at h;exact uy h
 ·rw[aa zo,aa zo,aa zo,aa zo,aa zo,aa zo,ae q]at h;exact uy h
def V5{vs:ByteArray->Bool}(hvs:∀t,vs t=true->Lib.validD t.data.toList=true){v:V}{t:ByteArray}(h:iz vs v=0)(hk:1<=v.kind∧v.kind<=7)(ht:Lo v t):Lit v t:=by
 unfold iz at h;split at h
 ·exact absurd h zd
 split at h
 ·exact absurd h zd
 split at h
 ·exact absurd h zd
 rename_i hu;have hu:ou v=true:=by simpa using hu
 obtain⟨r1,r2,r3,r4,r5,r6,r7⟩:=V4 h;clear h;obtain⟨a1,a2,a3,a4,a5,a6,a7⟩:=ht;obtain⟨k,n,s,x,l,f⟩:=v;unfold ou at hu;simp only[az,eU,dv]at hu;obtain⟨⟨⟨⟨u1,u2⟩,u3⟩,u4⟩,u5⟩:=hu;dsimp only[V.kind,V.int,V.scale,V.text,V.list,V.fields]at*;have hl:l=[]:=sJ.1 zo;have hf:f=[]:=sJ.1 zo;subst hl;subst hf;have hx:k≠4->k≠5->x=⟨#[]⟩:=fun a b=>(mY x).2 zo;have hs:k≠3->s=0:=fun a=>zo
 rcases(zo:k=1∨k=2∨k=3∨k=4∨k=5∨k=6∨k=7)with rfl|rfl|rfl|rfl|rfl|rfl|rfl
 ·have:=r1 rfl;rw[hs zd,hx zd zd,a1 rfl];have hb:=Vq (n==1);have:qq (n==1)=.mk 1 n 0 ⟨#[]⟩ [] []:=by
   unfold qq sc;rcases(zo:n=0∨n=1)with rfl|rfl<;>rfl
  rwa [this]at hb
 ·rw[hs zd,hx zd zd,a2 rfl];exact U7 (r2 rfl).1 (r2 rfl).2
 ·rw[hx zd zd,a3 rfl];have h3:=r3 rfl;exact U8 h3.1.1 h3.1.2 h3.2.1 h3.2.2
 ·obtain rfl:n=0:=by omega
  rw[hs zd,a4 rfl];exact Vo (hvs x (r4 rfl).2) (r4 rfl).1
 ·obtain rfl:n=0:=by omega
  rw[hs zd,a5 rfl];exact Vt (r5 rfl)
 ·obtain⟨u,h1,h2⟩:=a6 rfl (r6 rfl);rw[hs zd,hx zd zd,h2,show(⟨#[100,97,116,101,32]⟩:ByteArray)=qr++fg by decide];exact V2 h1
 ·obtain⟨u,h1,h2⟩:=a7 rfl (r7 rfl);rw[hs zd,hx zd zd,h2,show(⟨#[116,105,109,101,32]⟩:ByteArray)=oR++fg by decide];exact V3 h1 (r7 rfl)
end Go.Ai

namespace Go.Ai
open Go Go.Proofs Tryz
set_option maxRecDepth 100000
set_option maxHeartbeats 4000000
def V6(c:UInt8):(fW aR c).size<=6:=by
 have hz:(aR c).size<=2:=by unfold aR fk;split;exact(zd:1<=2);exact(zd:2<=2)
 unfold fW
 repeat' split
 all_goals first|exact(zd:1<=6)|exact(zd:2<=6)|(simp only[aj];have k1:(⟨#[92]⟩:ByteArray).size=1:=rfl;have k2:(⟨#[92,117,123]⟩:ByteArray).size=3:=rfl;have k3:(⟨#[125]⟩:ByteArray).size=1:=rfl;have k4:(⟨#[c]⟩:ByteArray).size=1:=rfl;omega)
def EK(v:ByteArray):(kq v).size<=6*v.size+2:=by
 have h:∀n,(bo aR v n).size<=6*n+1:=fun n=>by
  induction n with
  | zero=>exact(zd:1<=1)
  | succ n ih=>
   rw[uu];have:=V6 ((v.data[n]?).getD 0);omega
 have:=h v.size;show(bo aR v v.size++⟨#[34]⟩:ByteArray).size<=_;rw[aj,show(ByteArray.mk #[34]).size=1 from rfl];omega
def EL(s:ByteArray)(hs:s.size<=1000000):Af prog 152 [.str fun _=>s] [] (.str fun _=>kq s) []:=V7 aR s hs V8
def V9(e:Nat)(v:V)(hk:1<=v.kind∧v.kind<=7)(hn : -9223372036854775808<v.int∧v.int<=9223372036854775807)(ht:v.text.size<=1024):∃t,t.size<=65536∧Af prog 102 [aK (e+1) .any fun _=>v] [] (.str fun _=>t) []∧Lo v t:=by
 rcases(zo:v.kind=1∨v.kind=2∨v.kind=3∨v.kind=4∨v.kind=5∨v.kind=6∨v.kind=7)with k|k|k|k|k|k|k
 ·exact⟨_,by cases v.int==1<;>decide,Tp e v k,fun _=>rfl,fun q=>zo,fun q=>zo,fun q=>zo,fun q=>zo,fun q=>zo,fun q=>zo⟩
 ·exact⟨_,aG (qL _ zo zo) zd,I9 e v k ⟨zo,hn.2⟩,fun q=>zo,fun _=>rfl,fun q=>zo,fun q=>zo,fun q=>zo,fun q=>zo,fun q=>zo⟩
 ·have hd:=TV (v.int,v.scale);exact⟨_,by split<;>(first|(rw[aj];exact aG (Nat.add_le_add_right hd 1) zd)|omega),Ts e v k hn zo,fun q=>zo,fun q=>zo,fun _=>rfl,fun q=>zo,fun q=>zo,fun q=>zo,fun q=>zo⟩
 ·exact⟨_,aG (EK v.text) zo,Tq e v _ k (EL v.text zo),fun q=>zo,fun q=>zo,fun q=>zo,fun _=>rfl,fun q=>zo,fun q=>zo,fun q=>zo⟩
 ·refine⟨_,?_,Tr e v _ k (Wa v.text zo),fun q=>zo,fun q=>zo,fun q=>zo,fun q=>zo,fun _=>rfl,fun q=>zo,fun q=>zo⟩;have:=EM v.text v.text.size;simp only[aj];rw[show(ByteArray.mk #[120,34]).size=2 from rfl,show(ByteArray.mk #[34]).size=1 from rfl];omega
 ·obtain⟨t,f,h1,hr,h2⟩:=F5 v.int;have hq:=EK t;have k5:(ByteArray.mk #[100,97,116,101,32]).size=5:=rfl;exact⟨_,by rw[aj,k5];omega,Tt e v t _ f k h2 (EL t zo) zo,fun q=>zo,fun q=>zo,fun q=>zo,fun q=>zo,fun q=>zo,fun _ hb=>⟨t,(hr hb).2,rfl⟩,fun q=>zo⟩
 ·obtain⟨t,f,h1,hr,h2⟩:=M0 v.int zo hn.2;have hq:=EK t;have k5:(ByteArray.mk #[116,105,109,101,32]).size=5:=rfl;exact⟨_,by rw[aj,k5];omega,Tu e v t _ f k h2 (EL t zo) zo,fun q=>zo,fun q=>zo,fun q=>zo,fun q=>zo,fun q=>zo,fun q=>zo,fun _ hb=>⟨t,(hr hb).2,rfl⟩⟩
def Jq{s:ByteArray}(h:(cr s).2=0):s.size<=200:=Jg s h
theorem X.ir{P Q:X->Prop}:∀{k:Nat} {x:X},X.all P k x->X.all Q k x->X.all (fun x=>P x∧Q x) k x
 | 0,_,_,_=>trivial
 | _+1,_,h,g=>⟨⟨h.1,g.1⟩,fun y hy=>X.ir (h.2 y hy) (g.2 y hy)⟩
theorem X.all_le{e:Nat}:∀{k:Nat} {x:X},X.le e k x->X.all (fun x=>∀v∈x.value,V.le e v) k x
 | 0,_,h=>h.elim
 | _+1,_,h=>⟨h.2.2.2.1,fun y hy=>X.all_le (h.2.2.2.2 y hy)⟩
def Jm{α:Type}[Inhabited α]{f:α->α->Bool}{l:List α}(h:∀x∈l,f x x=true):j4 f l l=true:=by
 unfold j4;rw[az];refine⟨gq rfl,cI.2 fun j hj=>h _ ?_⟩;have hj:=qK.1 hj;rw[show l.getD j default=l[j] by simp[List.getD,hj]];exact d9 hj
theorem Jn{eqv:V->V->Bool}(hv:∀v,eqv v v=true){e:Nat}:∀(k:Nat) {x:X},X.le e k x->wz eqv k x x=true
 | 0,_,h=>h.elim
 | k+1,x,h=>by
  unfold wz;rw[Jm fun v _=>hv v,Jm fun y hy=>Jn hv k (h.2.2.2.2 y hy)];simp
def print_of(e D:Nat)(x:X)(hx:X.le (e+1) (D+1) x)(hc:kB (iL (iW e) cr) x=0){lit:V->ByteArray}(l1:∀v,(lit v).size<=65536)
 (l2:∀v,V.le (e+1) v->l8 v.kind=true->iW e v=0->(∃er,Af prog 48 [aK (e+1) .any fun _=>v] [] (.ag [.str fun _=>lit v,.int .i64 fun _=>er]) [])∧Lit v (lit v)):
 (X.le (e+1) 9 x∧X.all (ud lit) 9 x∧gL 9 x=jr 9 x∧X.all (fun y=>y.text.size<=1073741824) 9 x ∧
 Af prog 40 [aq (e+1) (D+1) .any fun _=>x,.int .i64 fun _=>0] [] (.str fun _=>aP lit 9 x 0) []∧Af prog 17 [aq (e+1) (D+1) .any fun _=>x,.int .i64 fun _=>1] [] (.str fun _=>aP lit 9 x 0) []∧X.all (fun x=>(lH x∧wR lit e x)∧zM x) 9 x∧wX lit 9 x<=549755813888)∧X.all (fun y=>y.op=1->V.le (e+1) (y.value.getD 0 default)∧l8 (y.value.getD 0 default).kind=true∧iW e (y.value.getD 0 default)=0) 9 x:=by
 obtain⟨c1,c2,c3⟩:=Sb hx hc;have c4:X.all (fun x=>wS (iW e) cr x) 9 x:=X.mt (fun _ h=>Jo h) c2;have kyv:∀y:X,wS (iW e) cr y->(∀v∈y.value,V.le (e+1) v)->y.op=1->V.le (e+1) (y.value.getD 0 default)∧l8 (y.value.getD 0 default).kind=true∧iW e (y.value.getD 0 default)=0:=fun y f hv ho=>by
  obtain⟨v1,v2,v3⟩:=Jp (f.val ho);refine⟨hv _ ?_,v3,v2⟩;simp only[List.getD,bf (show 0<y.value.length by omega)];exact d9 _
 have key:∀y:X,wS (iW e) cr y->(∀v∈y.value,V.le (e+1) v)->y.op=1->(∃er,Af prog 48 [aK (e+1) .any fun _=>y.value.getD 0 default] [] (.ag [.str fun _=>lit (y.value.getD 0 default),.int .i64 fun _=>er]) [])∧Lit (y.value.getD 0 default) (lit (y.value.getD 0 default)):=fun y f hv ho=>by
  obtain⟨q1,q2,q3⟩:=kyv y f hv ho;exact l2 _ q1 q2 q3
 have c5:X.all (fun x=>(lH x∧wR lit e x)∧zM x) 9 x:=X.mt (fun y h=>by
  obtain⟨f,hv⟩:=h;obtain⟨s1,s2⟩:=Sd f;exact⟨⟨s1,fun ho=>(key y f hv ho).1⟩,s2⟩) (X.ir c4 (X.all_le c3))
 have cg:X.all (ud lit) 9 x:=X.mt (fun y h=>⟨⟨_,h.1⟩,fun ho=>(key y (Jo h.1) h.2 ho).2⟩) (X.ir c2 (X.all_le c3))
 have c6:X.all (fun x=>x.text.size<=200) 9 x:=X.mt (fun y f=>by
  by_cases q:dP y.op=true
  ·exact Jq (f.path (fun k=>by rw[k]at q;exact absurd q zd) q)
  ·rw[f.text (by simpa using q)];exact aB _) c4
 have hw:=Jr l1 c3 c6;have h3:=DL lit e 9 D x 0 hx c3 (X.mt (fun _ h=>h.1) c5) zo zd zd;have h4:=DM lit e 9 D x 1 hx c3 c5 zo zd zd;have h01:aP lit 9 x 1=aP lit 9 x 0:=by
  have:=zN x.op;unfold aP;rw[aa zo,aa zo]
 rw[h01]at h4;exact⟨⟨c3,cg,Js c3 c4,X.mt (fun _ h=>aG h zd) c6,h3,h4,c5,zo⟩,X.mt (fun y h=>kyv y h.1 h.2) (X.ir c4 (X.all_le c3))⟩
def Jt(e:Nat)(he:e+1<=1073741824)(D:Nat)(x:X)(hx:X.le (e+1) (D+1) x):Af prog 15 [aq (e+1) (D+1) .any fun _=>x] [] (.int .i64 fun _=>kB (iL (iW e) cr) x) []:=by
 have hP:∀D x,X.le (e+1) (D+1) x->True->Af prog 42 [aq (e+1) (D+1) .any fun _=>x] [] (.int .i64 fun _=>iL (iW e) cr x) []:=fun D x hx _=>by
  refine Gj (iW e) cr e (D+1) x ⟨hx.2.1,hx.2.2.1⟩ (fun _=>⟨wL x.text (aG hx.1 zd),aG (Jc _) zd⟩) (fun h1 h2=>Ju e he _ ?_);refine hx.2.2.2.1 _ ?_;simp only[List.getD,bf (show 0<x.value.length by omega)];exact d9 _
 have hT:∀(k:Nat) (x:X),X.all (fun _=>True) k x:=by
  intro k
  induction k with
  | zero=>intro _;trivial
  | succ k ih=>intro x;exact⟨trivial,fun y _=>ih y⟩
 exact Gm _ e (fun _=>True) hP D x hx (hT 9 x)
end Go.Ai
