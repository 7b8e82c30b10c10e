/- Printed texts: they have the tokens that the relation says. -/
import Derived.Test.YtbagpkiomjlhkaaGreatDoorPrA
import Derived.Lib.ValidU
set_option linter.all false
namespace Go.Ai
open Go
set_option maxRecDepth 100000
set_option maxHeartbeats 4000000
def bd(F:Int->Prop)(t:ByteArray)(L:List Tok)(jb:Bool):Prop:=∀(s:ByteArray) (i:Nat) (last:Int),At s i t->F (ad s (i+t.size))->jb=decide ((i:Int)=last)->Lx s i last L (i+t.size) ((i+t.size:Nat):Int)
def dT(c:Int):Prop:=c=0∨c=32∨c=41∨c=44
def El{t:ByteArray}{L:List Tok}{jb:Bool}:rS t L jb↔bd dT t L jb:=Iff.rfl
def Lx.skip{s:ByteArray}{i k:Nat}{last e:Int}{L:List Tok}(hi:i<s.size)(hb:ad s i=32)(hL:L≠[])(h:Lx s (i+1) last L k e):Lx s i last L k e:=by
 cases h with
 | nil=>exact absurd rfl hL
 | cons h1 h2 h3 h4=>exact .cons zo (by rw[Kg hi hb];exact h2) h3 h4
def bd.cat{F G:Int->Prop}{t u:ByteArray}{L M:List Tok}{jb:Bool}(h:bd F t L jb)(g:bd G u M true)(h0:0<u.size)(hF:F (ad u 0)):bd G (t++u) (L++M) jb:=by
 intro s i last ha hg hj;obtain⟨a1,a2⟩:=ha.app;rw[aj,<- ik]at hg ⊢;have h1:=h s i last a1 (by rw[a2.b0 h0];exact hF) hj;exact h1.app (g s (i+t.size) _ a2 hg zsi)
def bd.oM{F G:Int->Prop}{t u:ByteArray}{L M:List Tok}{jb:Bool}(h:bd F t L jb)(g:bd G u M false)(hM:M≠[])(hF:F 32):bd G (t++fg++u) (L++M) jb:=by
 intro s i last ha hg hj;obtain⟨a1,a2⟩:=ha.app;obtain⟨a3,a4⟩:=a1.app;have hb:ad s (i+t.size)=32:=a4.b0 zd;have hz:(t++fg).size=t.size+1:=by rw[aj];rfl
 rw[hz]at a2;rw[aj,hz,show i+(t.size+1+u.size)=i+(t.size+1)+u.size by omega]at hg ⊢;have h1:=h s i last a3 (by rw[hb];exact hF) hj;have h2:=g s (i+(t.size+1)) ((i+t.size:Nat):Int) a2 hg (by symm;exact fD zo);have:=a4.1;refine h1.app (.skip (by have:fg.size=1:=rfl;omega) hb hM h2)
def bd.of{F G:Int->Prop}{t:ByteArray}{L:List Tok}{jb:Bool}(h:bd F t L jb)(hF:∀c,G c->F c):bd G t L jb:=fun s i last a g j=>h s i last a (hF _ g) j
def bd.to{F:Int->Prop}{t u:ByteArray}{L M:List Tok}{jb:Bool}(h:bd F t L jb)(ht:t=u)(hL:L=M):bd F u M jb:=by subst ht;subst hL;exact h
def UR{s:ByteArray}{i:Nat}(h:ad s i≠45∧ad s i≠33∧ad s i≠60∧ad s i≠62∧ad s i≠46):gM s i=false:=by
 obtain⟨h1,h2,h3,h4,h5⟩:=h;unfold gM;simp[h1,h2,h3,h4,h5]
def nF{c:UInt8}(hc:iY c.toNat=true)(hp:(c.toNat:Int)≠45∧(c.toNat:Int)≠33∧(c.toNat:Int)≠60∧(c.toNat:Int)≠62∧(c.toNat:Int)≠46)(jb:Bool):bd (fun _=>True) ⟨#[c]⟩ [sy ⟨#[c]⟩ jb] jb:=by
 intro s i last ha _ hj;have hb:ad s i=c.toNat:=ha.b0 (by show 0<1;omega);subst hj;exact .one (Ea ha hc (UR (by rw[hb];exact hp)) _)
def Em{c:UInt8}(hc:iY c.toNat=true)(hp:c=45∨c=60∨c=62)(jb:Bool):bd (fun d=>d≠62∧d≠61) ⟨#[c]⟩ [sy ⟨#[c]⟩ jb] jb:=by
 intro s i last ha hf hj;have hb:ad s i=c.toNat:=ha.b0 (by show 0<1;omega);obtain⟨h1,h2⟩:ad s (i+1)≠62∧ad s (i+1)≠61:=hf;subst hj;refine .one (Ea ha hc ?_ _);unfold gM;rw[hb];rcases hp with rfl|rfl|rfl<;>simp[h1,h2]
def US{c:UInt8}(hc:c=33∨c=60∨c=62)(jb:Bool):bd (fun _=>True) ⟨#[c,61]⟩ [sy ⟨#[c,61]⟩ jb] jb:=by
 intro s i last ha _ hj;subst hj;exact .one (Ut ha ⟨hc,rfl⟩ _)
def oO{w:ByteArray}(h0:0<w.size)(hl:bJ (ad w 0)=true)(hp:∀k,k<w.size->cx (ad w k)=true)(h64:w.size<=64)(jb:Bool):bd (fun d=>cx d=false∧d≠34) w [wd w jb] jb:=by
 intro s i last ha hf hj;subst hj;exact .one (Us ha h0 hl hp hf.1 hf.2 h64 _)
def dT.word{c:Int}(h:dT c):cx c=false∧c≠34:=by
 unfold dT at h;refine⟨?_,zo⟩;rcases h with rfl|rfl|rfl|rfl<;>decide
def xn(jb:Bool):bd (fun _=>True) ⟨#[40]⟩ [sy fV jb] jb:=nF zd zd jb
def xp(jb:Bool):bd (fun _=>True) ⟨#[41]⟩ [sy gO jb] jb:=nF zd zd jb
def UT(jb:Bool):bd (fun _=>True) ⟨#[44]⟩ [sy dx jb] jb:=nF zd zd jb
def Ky{k:ByteArray}{op:Int}{c:Nat}(hc:iB c∨c=4)(h:dk k (opsL c)=some op):bd (fun d=>d=32) k [opt k] false:=by
 have hm:=xj h;clear h;have hc:c=1∨c=2∨c=4∨c=5∨c=6∨c=7:=by unfold iB at hc;omega
 have w:∀{k:ByteArray},0<k.size->bJ (ad k 0)=true->(∀j,j<k.size->cx (ad k j)=true)->k.size<=64->bd (fun d=>d=32) k [opt k] false:=fun{k} h0 hl hp h64=>
  ((oO h0 hl hp h64 false).of fun c q=>by rw[q];decide).to rfl (by unfold opt;rw[ae hl])
 have o1:∀{c:UInt8},iY c.toNat=true->(c=45∨c=60∨c=62)->bJ (ad ⟨#[c]⟩ 0)=false->bd (fun d=>d=32) ⟨#[c]⟩ [opt ⟨#[c]⟩] false:=fun{c} h1 h2 hl=>
  ((Em h1 h2 false).of fun c q=>by rw[q];decide).to rfl (by unfold opt;rw[hl];rfl)
 have o2:∀{c:UInt8},iY c.toNat=true->((c.toNat:Int)≠45∧(c.toNat:Int)≠33∧(c.toNat:Int)≠60∧(c.toNat:Int)≠62∧(c.toNat:Int)≠46)->bJ (ad ⟨#[c]⟩ 0)=false->bd (fun d=>d=32) ⟨#[c]⟩ [opt ⟨#[c]⟩] false:=fun{c} h1 h2 hl=>
  ((nF h1 h2 false).of fun _ _=>trivial).to rfl (by unfold opt;rw[hl];rfl)
 have o3:∀{c:UInt8},(c=33∨c=60∨c=62)->bJ (ad ⟨#[c,61]⟩ 0)=false->bd (fun d=>d=32) ⟨#[c,61]⟩ [opt ⟨#[c,61]⟩] false:=fun{c} h1 hl=>
  ((US h1 false).of fun _ _=>trivial).to rfl (by unfold opt;rw[hl];rfl)
 rcases hc with rfl|rfl|rfl|rfl|rfl|rfl
 all_goals simp only[opsL,bC,dg,Nat.reduceEqDiff,bW,sK,ii,nJ]at hm
 ·obtain⟨rfl,-⟩:=hm;exact w zd zd zd zd
 ·obtain⟨rfl,-⟩:=hm;exact w zd zd zd zd
 ·rcases hm with⟨rfl,-⟩|⟨rfl,-⟩|⟨rfl,-⟩|⟨rfl,-⟩|⟨rfl,-⟩|⟨rfl,-⟩
  ·exact o2 zd zd zd
  ·exact o3 zd zd
  ·exact o1 zd zd zd
  ·exact o3 zd zd
  ·exact o1 zd zd zd
  ·exact o3 zd zd
 ·obtain⟨rfl,-⟩:=hm;exact w zd zd zd zd
 ·rcases hm with⟨rfl,-⟩|⟨rfl,-⟩|⟨rfl,-⟩
  ·exact o2 zd zd zd
  ·exact o1 zd zd zd
  ·exact o2 zd zd zd
 ·obtain⟨rfl,-⟩:=hm;exact o2 zd zd zd
def Kz{k:ByteArray}{v:Int×Int}(h:dk k ba=some v):0<k.size∧bJ (ad k 0)=true∧(∀j,j<k.size->cx (ad k j)=true)∧k.size<=64:=by
 have hm:=xj h;revert hm;unfold ba;simp only[bW,sK,ii,nJ];rintro(⟨rfl,-⟩|⟨rfl,-⟩|⟨rfl,-⟩|⟨rfl,-⟩|⟨rfl,-⟩|⟨rfl,-⟩|⟨rfl,-⟩|⟨rfl,-⟩|⟨rfl,-⟩|⟨rfl,-⟩)<;>exact⟨zd,zd,zd,zd⟩
def bd.com{G:Int->Prop}{t u:ByteArray}{L M:List Tok}{jb:Bool}(h:bd dT t L jb)(g:bd G u M false)(hM:M≠[]):bd G (t++lQ++u) (L++sy dx true::M) jb:=by
 refine bd.to ((h.cat (UT true) zd (.inr (.inr (.inr zd)))).oM g hM trivial) ?_ ?_
 ·rw[show t++⟨#[44]⟩++fg=t++lQ from ee.trans (ak (t++·) zd)]
 ·rw[gF];rfl
def bd.app{k t:ByteArray}{L:List Tok}{jb:Bool}(hk:0<k.size∧bJ (ad k 0)=true∧(∀j,j<k.size->cx (ad k j)=true)∧k.size<=64)(h:bd dT t L true)(ht:0<t.size):bd dT (k++⟨#[40]⟩++t++⟨#[41]⟩) (wd k jb::sy fV true::(L++[sy gO true])) jb:=
 ((((oO hk.1 hk.2.1 hk.2.2.1 hk.2.2.2 jb).cat (xn true) zd zd).cat h ht trivial).cat (xp true) zd (.inr (.inr (.inl zd)))).of fun _ _=>trivial
def bd.pos{t:ByteArray}{L:List Tok}{jb:Bool}(h:bd dT t L jb)(hL:L≠[]):0<t.size:=by
 have h1:=h t 0 (if jb=true then 0 else -1) (.all t) (.inl (qe zo)) (by cases jb<;>rfl);have:=h1.len.1;have:0<L.length:=mU.2 hL;omega
def UU{pe:ByteArray->Int}{w:Wh}{jb:Bool}{t:ByteArray}{L:List Tok}{m:Nat}(h:Pr pe w jb t L m):bd dT t L jb:=by
 induction h with
 | up _ _ ih=>exact ih
 | dn _ _ _ ih=>exact ih
 | par h ih=>exact(((xn _).cat ih (ih.pos (gP h).2.2) trivial).cat (xp true) zd (.inr (.inr (.inl zd)))).of fun _ _=>trivial
 | neg h _ hb ih=>exact(Em (c:=45) zd (.inl rfl) _).cat ih (ih.pos (gP h).2.2) hb
 | not h ih=>exact((oO zd zd zd zd _).oM ih (gP h).2.2 zd)
 | bin hc hk h1 h2 ih1 ih2=>exact((ih1.oM (Ky (.inl hc) hk) zsi (.inr (.inl rfl))).oM ih2 (gP h2).2.2 rfl).to rfl zsi
 | cmp hk h1 h2 ih1 ih2=>exact((ih1.oM (Ky (.inr rfl) hk) zsi (.inr (.inl rfl))).oM ih2 (gP h2).2.2 rfl).to rfl zsi
 | Ap h1 h2 ih1 ih2=>
  have w:bd (fun d=>cx d=false∧d≠34) inT [wd inT false] false:=oO zd zd zd zd _;exact((((((ih1.oM w zsi (.inr (.inl rfl))).oM (xn false) zsi zd).cat ih2 (ih2.pos (gP h2).2) trivial).cat (xp true) zd (.inr (.inr (.inl zd)))).of fun _ _=>trivial)).to rfl zsi
 | val _ h=>exact h
 | path _ h=>exact h
 | call hk _ _ _ g ih=>exact .app (Kz hk) ih (ih.pos (gP g).2)
 | div g1 g2 _ hq hN ih1 ih2=>
  have w:∀jb,bd (fun d=>cx d=false∧d≠34) mE [wd mE jb] jb:=oO zd zd zd zd;exact((((((w _).cat (xn true) zd zd).cat ih1 (ih1.pos (gP g1).2.2) trivial).com ih2 (gP g2).2.2).com (El.1 hq) hN).cat (xp true) zd (.inr (.inr (.inl zd)))).of (fun _ _=>trivial) |>.to rfl zsi
 | has hk hp hl=>
  have hL:0<ByteArray.size _:=bd.pos hl (by obtain⟨a,u,e,_⟩:=hp.hd;rw[e];simp);rcases hk with⟨_,rfl⟩|⟨_,rfl⟩
  ·exact .app ⟨zd,zd,zd,zd⟩ hl hL
  ·exact .app ⟨zd,zd,zd,zd⟩ hl hL
 | sum hp hl _ hq hN=>
  have hL:0<ByteArray.size _:=bd.pos hl (by obtain⟨a,u,e,_⟩:=hp.hd;rw[e];simp);have w:∀jb,bd (fun d=>cx d=false∧d≠34) kg [wd kg jb] jb:=oO zd zd zd zd;exact(((((w _).cat (xn true) zd zd).cat (El.1 hl) hL trivial).com (El.1 hq) hN).cat (xp true) zd (.inr (.inr (.inl zd)))).of (fun _ _=>trivial) |>.to rfl zsi
 | last _ ih=>exact ih
 | more h1 h2 ih1 ih2=>exact ih1.com ih2 (gP h2).2
def fj(b:UInt8):Prop:=48<=b.toNat∧b.toNat<=57
theorem xq:∀(l m:List UInt8) (a:Nat),Lib.decFrom a (l++m)=(Lib.decFrom a l).bind fun b=>Lib.decFrom b m
 | [],m,a=>rfl
 | c::r,m,a=>by
  simp only[pg,Lib.decFrom];cases Lib.digitVal c with
  | none=>rfl
  | some d=>exact xq r m _
def Au{k:Nat}(h:k<10):(UInt8.ofNat (48+k)).toNat=48+k:=by
 rw[UInt8.toNat_ofNat'];omega
def KA{k:Nat}(h:k<10):Lib.digitVal (UInt8.ofNat (48+k))=some k:=by
 unfold Lib.digitVal;rw[Au h,ae zo];congr 1;omega
def En(u:Nat):Lib.decFrom 0 (Lib.decDigits u)=some u:=by
 induction u using Nat.strongRecOn with
 | _ u ih=>
  rw[Lib.decDigits];split
  ·rename_i h;simp only[Lib.decFrom,KA h];congr 1;omega
  ·rename_i h;rw[xq,ih (u/10) zo];simp only[Option.bind_some,Lib.decFrom,KA (xQ u (zd:0<10))];congr 1;omega
def k9(u:Nat):∀b∈Lib.decDigits u,fj b:=by
 induction u using Nat.strongRecOn with
 | _ u ih=>
  intro b hb;rw[Lib.decDigits]at hb;split at hb
  ·rename_i h;rw[dD.1 hb];unfold fj;rw[Au h];omega
  ·rename_i h;rcases gB.1 hb with hb|hb
   ·exact ih (u/10) zo b hb
   ·rw[dD.1 hb];unfold fj;rw[Au (xQ u zd)];omega
def xr(u:Nat):0<(Lib.decDigits u).length:=by rw[Lib.decDigits_length];exact Lib.nDigits_pos u
def Eo{u k:Nat}(h:u<10^k)(hk:1<=k):(Lib.decDigits u).length<=k:=by
 rw[Lib.decDigits_length]
 induction k generalizing u with
 | zero=>omega
 | succ k ih=>
  by_cases q:u<10
  ·rw[Lib.nDigits_small q];omega
  ·rw[Lib.nDigits_big q];rw[qz]at h;cases k with
   | zero=>rw[Nat.pow_zero]at h;omega
   | succ k=>have:=ih (u:=u/10) zo zo;omega
def KB{u:Nat}(h:1<(Lib.decDigits u).length):∃b r,Lib.decDigits u=b::r∧b.toNat≠48:=by
 induction u using Nat.strongRecOn with
 | _ u ih=>
  rw[Lib.decDigits]at h ⊢;split at h
  ·simp at h
  ·rename_i q;rw[dif_neg q];by_cases q2:u/10<10
   ·refine⟨UInt8.ofNat (48+u/10),_,by rw[Lib.decDigits,dif_pos q2];rfl,?_⟩;rw[Au q2];omega
   ·have h1:1<(Lib.decDigits (u/10)).length:=by
     rw[Lib.decDigits,dif_neg q2,du];have:=xr (u/10/10);simp only[bp,bV];omega
    obtain⟨b,r,e,hb⟩:=ih (u/10) zo h1;exact⟨b,_,by rw[e];rfl,hb⟩
def KC{l:List UInt8}{u:Nat}(hl:l≠[])(h18:l.length<=18)(hd:∀b∈l,fj b)(h:Lib.decFrom 0 l=some u):dy ⟨l.toArray⟩=((u:Int),true):=by
 have e:Lib.atoiAll l=.ok (u:Int):=by
  rw[Lib.atoiAll_short l h18];cases l with
  | nil=>exact absurd rfl hl
  | cons b r=>
   have hb:=hd b (dJ);unfold fj at hb;have e1:(b==45)=false:=by rw[uT];intro q;rw[q]at hb;exact absurd hb.1 zd
   have e2:(b==43)=false:=by rw[uT];intro q;rw[q]at hb;exact absurd hb.1 zd
   simp only[Lib.atoi,e1,e2];have e3:Lib.decNat (b::r)=some u:=by unfold Lib.decNat;rw[aa zsi];exact h
   simp[e3,Lib.NumEnd.ofOption]
 unfold dy;rw[show(ByteArray.mk l.toArray).data.toList=l from rfl,e]
def Av{l:List UInt8}{i:Nat}:Lib.occAt l [46] i=true↔l[i]? = some 46:=by
 unfold Lib.occAt;rw[<- List.head?_drop];cases l.drop i with
 | nil=>simp
 | cons a t=>
  simp only[List.isPrefixOf,Bool.and_true,dv,List.head?_cons,cB];exact⟨fun q=>q.symm,fun q=>q.symm⟩
def UV{l:List UInt8}(h:∀b∈l,fj b):cY ⟨l.toArray⟩ ⟨#[46]⟩=(⟨l.toArray⟩,⟨#[]⟩,false):=by
 have e:Lib.cut l [46]=(l,[],false):=by
  unfold Lib.cut;rcases Lib.index_spec l [46]with⟨h1,_⟩|⟨i,h1,h2,h3,_⟩
  ·rw[h1,aa zd]
  ·have:=Av.1 h3;have hm:=h _ (je this);exact absurd hm.1 zd
 unfold cY;rw[show(ByteArray.mk l.toArray).data.toList=l from rfl,show(ByteArray.mk #[46]).data.toList=[46]from rfl,e]
def UW{l m:List UInt8}(h:∀b∈l,fj b):cY ⟨(l++46::m).toArray⟩ ⟨#[46]⟩=(⟨l.toArray⟩,⟨m.toArray⟩,true):=by
 have e:Lib.cut (l++46::m) [46]=(l,m,true):=by
  unfold Lib.cut;have h0:(l++46::m)[l.length]? = some 46:=zsi
  rcases Lib.index_spec (l++46::m) [46]with⟨h1,h2⟩|⟨i,h1,h2,h3,h4⟩
  ·have:=h2 l.length zsi;rw[Av.2 h0]at this;cases this
  ·have h5:=Av.1 h3;have hi:i=l.length:=by
    rcases Nat.lt_trichotomy i l.length with q|q|q
    ·rw[gS q]at h5;exact absurd (h _ (je h5)).1 zd
    ·exact q
    ·have:=h4 l.length q;rw[Av.2 h0]at this;cases this
   subst hi;rw[h1,ae zo];simp
 unfold cY;rw[show(ByteArray.mk (l++46::m).toArray).data.toList=l++46::m from rfl,show(ByteArray.mk #[46]).data.toList=[46]from rfl,e]
def aA(l:List UInt8):ByteArray:=⟨l.toArray⟩
def gy(l:List UInt8):(aA l).size=l.length:=by show l.toArray.size=_;simp
def oP{l:List UInt8}(h:∀b∈l,fj b){k:Nat}(hk:k<l.length):bD (ad (aA l) k)=true:=by
 have e:ad (aA l) k=(l[k].toNat:Int):=by
  unfold ad;show(((l.toArray[k]?).getD 0).toNat:Int)=_;rw[uN,bf hk];rfl
 rw[e];have:=h _ (d9 hk);unfold fj at this;unfold bD;exact gq zo
def rU(l m:List UInt8):aA (l++m)=aA l++aA m:=by
 refine gp ?_;rw[iF];show(l++m).toArray=l.toArray++m.toArray;simp
def rV(u:Nat):cE (u:Int)=aA (Lib.decDigits u):=by unfold cE aA;rw[Lib.itoa_nonneg]
def UX{u:Nat}(h:1<=u):cE (-(u:Int))=⟨#[45]⟩++aA (Lib.decDigits u):=by
 unfold cE;rw[Lib.itoa_neg u h,show(45::Lib.decDigits u)=[45]++Lib.decDigits u from rfl];exact rU [45] _
def UY{c:Int}(h:bD c=true):c≠34∧c≠120∧bJ c=false∧c≠32∧c≠9∧c≠10∧c≠47∧c≠45:=by
 unfold bD at h;simp only[cX]at h;refine⟨zo,zo,?_,zo,zo,zo,zo,zo⟩;unfold bJ;exact fD zo
def nu(t:ByteArray)(n sc:Int)(jb:Bool):Tok:=.mk 2 0 0 t ⟨#[]⟩ n sc jb
def KD{s t:ByteArray}{i:Nat}{n sc:Int}{w:ByteArray}(h:At s i t)(h0:0<t.size)(hd:bD (ad t 0)=true)(hz:¬(1<aY s i-i∧ad s i=48))(hq:gN s i=i+t.size)(hk:s.extract i (cy s i)=w)(hv:dV w=(n,sc,0))(jb:Bool):Tk s i jb (nu t n sc jb) (i+t.size):=by
 have hb:ad s i=ad t 0:=h.b0 h0;obtain⟨d1,d2,d3,d4⟩:=UY hd;refine⟨zo,h.1,um (by rw[hb];exact⟨d4.1,d4.2.1,d4.2.2.1,d4.2.2.2.1⟩),fun l c=>?_⟩;have e:cS s i (.mk 0 l c ⟨#[]⟩ ⟨#[]⟩ 0 0 jb)=(true,i+t.size,0,0,Tok.DZ (.mk 0 l c ⟨#[]⟩ ⟨#[]⟩ 0 0 jb) t n sc):=by
  unfold cS;rw[aa (fun q=>d2 (by rw[<- hb];exact q.1)),aa (by rw[hb,d3];decide),ae (by rw[hb];exact hd)];unfold nR;rw[aa hz,hk,hv,hq,h.ext];rfl
 exact⟨_,_,e,rfl⟩
def dT.num{c:Int}(h:dT c):bD c=false∧c≠46∧c≠100∧cx c=false:=by
 unfold dT at h;refine⟨?_,zo,zo,?_⟩<;>rcases h with rfl|rfl|rfl|rfl<;>decide
def At.sub{s t:ByteArray}{i:Nat}(h:At s i t)(a b:Nat)(hb:b<=t.size)(ha:a<=b):∀k,k<b-a->ad s (i+a+k)=ad t (a+k):=fun k hk=>by rw[ik];exact h.2 (a+k) zo
def KE{l:List UInt8}{n:Int}{d:Bool}(hl:l≠[])(hd:∀b∈l,fj b)(hz:1<l.length->ad (aA l) 0≠48)(hv:dV (aA l)=(n,0,0))(jb:Bool):
 bd (fun c=>bD c=false∧c≠46∧c≠100∧cx c=false) (aA l++(if d=true then⟨#[100]⟩else⟨#[]⟩)) [nu (aA l++(if d=true then⟨#[100]⟩else⟨#[]⟩)) n 0 jb] jb:=by
 intro s i last ha hf hj;obtain⟨a1,a2⟩:=ha.app;have hlen:0<l.length:=mU.2 hl;have hs:=gy l;obtain⟨f1,f2,f3,f4⟩:=hf;have hle:=ha.1;rw[aj]at hle;have hJ:aY s i=i+l.length:=by
  unfold aY;refine xe zo (fun k hk=>?_) ?_
  ·rw[a1.2 k zo];exact oP hd hk
  ·cases d
   ·rw[aj]at f1;rw[<- hs];exact f1
   ·have:=a2.b0 (by show 0<1;omega);rw[<- hs,this];decide
 have hb:bD (ad (aA l) 0)=true:=oP hd hlen;have hz2:¬(1<aY s i-i∧ad s i=48):=by
  rw[hJ,a1.b0 zo];exact fun q=>hz zo q.2
 have hK:cy s i=i+l.length:=by
  unfold cy;rw[hJ,aa];rintro⟨q,_⟩;cases d
  ·rw[aj]at f2;exact f2 (by rw[<- ik,hs];exact q)
  ·have:=a2.b0 (by show 0<1;omega);rw[hs,q]at this;exact absurd this zd
 have h0:ad (aA l++(if d=true then⟨#[100]⟩else⟨#[]⟩)) 0=ad (aA l) 0:=by rw[lV,ae zo]
 subst hj;refine .one (KD (w:=aA l) ha (by rw[aj];omega) (by rw[h0];exact hb) hz2 ?_ (by rw[hK,<- hs];exact a1.ext) hv _);unfold gN;rw[hK,hJ,aj,hs];rw[aj,hs]at f1 f2 f3 f4;cases d
 ·rw[aa (fun q=>f3 q.2.1)];rfl
 ·have h1:=a2.b0 (by show 0<1;omega);rw[hs]at h1;rw[ae ⟨rfl,by rw[h1];decide,f4⟩];rfl
def Ep{l:List UInt8}{n:Int}{d:Bool}(hl:l≠[])(hd:∀b∈l,fj b)(hz:1<l.length->ad (aA l) 0≠48)(hv:dV (aA l)=(n,0,0))(jb:Bool):
 bd dT (aA l++(if d=true then⟨#[100]⟩else⟨#[]⟩)) [nu (aA l++(if d=true then⟨#[100]⟩else⟨#[]⟩)) n 0 jb] jb:=(KE hl hd hz hv jb).of fun _ h=>dT.num h
def UZ{a b:List UInt8}{n sc:Int}(ha0:a≠[])(hb0:b≠[])(ha1:∀c∈a,fj c)(hb1:∀c∈b,fj c)(hz:1<a.length->ad (aA a) 0≠48)(hv:dV (aA a++⟨#[46]⟩++aA b)=(n,sc,0))(jb:Bool):
 bd dT (aA a++⟨#[46]⟩++aA b) [nu (aA a++⟨#[46]⟩++aA b) n sc jb] jb:=by
 intro s i last ha hf hj;obtain⟨a1,a3⟩:=ha.app;obtain⟨a1,a2⟩:=a1.app;have la:0<a.length:=mU.2 ha0;have lb:0<b.length:=mU.2 hb0;have sa:=gy a;have sb:=gy b;have s1:(aA a++⟨#[46]⟩:ByteArray).size=a.length+1:=by rw[aj,sa];rfl
 have s2:(aA a++⟨#[46]⟩++aA b:ByteArray).size=a.length+1+b.length:=by rw[aj,s1,sb]
 obtain⟨f1,_,_,_⟩:=dT.num hf;have hle:=ha.1;rw[s2]at hle f1;rw[s1]at a3;have hp:ad s (i+a.length)=46:=by have:=a2.b0 (by show 0<1;omega);rw[sa]at this;rw[this];decide
 have hJ:aY s i=i+a.length:=by
  unfold aY;refine xe zo (fun k hk=>?_) ?_
  ·rw[a1.2 k zo];exact oP ha1 hk
  ·rw[hp];decide
 have hz2:¬(1<aY s i-i∧ad s i=48):=by
  rw[hJ,a1.b0 zo];exact fun q=>hz zo q.2
 have hK:cy s i=i+(a.length+1+b.length):=by
  unfold cy;have h1:ad s (i+a.length+1)=ad (aA b) 0:=by have:=a3.b0 zo;rwa [<- ik]at this
  rw[hJ,ae ⟨hp,by rw[h1];exact oP hb1 lb⟩]
  have hw:bn s bD (i+a.length+1)=i+a.length+1+b.length:=xe zo (fun k hk=>by
   have:=a3.2 k zo;rw[show i+a.length+1+k=i+(a.length+1)+k by omega,this];exact oP hb1 hk) (by rw[show i+a.length+1+b.length=i+(a.length+1+b.length) by omega];exact f1)
  rw[hw];omega
 have h0:ad (aA a++⟨#[46]⟩++aA b) 0=ad (aA a) 0:=by rw[lV,ae zo,lV,ae zo]
 subst hj;refine .one (KD (w:=aA a++⟨#[46]⟩++aA b) ha zo (by rw[h0];exact oP ha1 la) hz2 ?_ ?_ hv _)
 ·unfold gN;rw[hK,hJ,aa (fun q=>by have:=q.1;omega),s2]
 ·rw[hK,<- s2];exact ha.ext
def KF{u k:Nat}(hu:u<10^15)(hk:k<=12):gI ((u:Int),(k:Int))=0:=by
 unfold gI;have:(10:Nat)^15=1000000000000000:=zd
 exact ae ⟨by show _<=(u:Int);omega,by show(u:Int)<=_;omega,by show(0:Int)<=(k:Int);omega,by show(k:Int)<=12;omega⟩
def Aw(u:Nat):ei (u:Int)=u:=by unfold ei;rw[aa zo]
def Ax{u:Nat}(hu:u<10^15):dV (aA (Lib.decDigits u))=((u:Int),0,0):=by
 have hl:=Eo hu zd;have h0:=xr u;have hne:Lib.decDigits u≠[]:=fun q=>by rw[q]at h0;simp at h0
 have hc:cY (aA (Lib.decDigits u)) ⟨#[46]⟩=(aA (Lib.decDigits u),⟨#[]⟩,false):=UV (k9 u);have hw:kD (aA (Lib.decDigits u))=aA (Lib.decDigits u):=by unfold kD;rw[hc];exact FN
 have ha:dy (aA (Lib.decDigits u))=((u:Int),true):=KC hne zo (k9 u) (En u);have hr:jH (aA (Lib.decDigits u))=((u:Int),0):=by unfold jH;rw[hw,ha,hc];rfl
 have hd:ej ((u:Int),0)=(aA (Lib.decDigits u),0):=by
  have e:=KF (k:=0) hu zd;unfold ej;rw[aa (fun q=>q e),aa (by show¬(u:Int)<0;omega)];unfold eN;rw[aa (by show¬(0:Int)<0;decide)];show(cE (ei (u:Int)),(0:Int))=_;rw[Aw,rV]
 unfold dV decP;rw[gy,aa zo,aa zo,hw,ha,hr,hd,hc];simp
def fb(u k:Nat):List UInt8:=Lib.repeatL [48] (k+1-(Lib.decDigits u).length)++Lib.decDigits u
def Es(c:Nat):(∀b∈Lib.repeatL [48] c,fj b)∧Lib.decFrom 0 (Lib.repeatL [48] c)=some 0∧(Lib.repeatL [48] c).length=c:=by
 induction c with
 | zero=>exact⟨fun b hb=>(sK hb).elim,rfl,rfl⟩
 | succ c ih=>
  refine⟨fun b hb=>?_,?_,by rw[Lib.repeatL_length];simp⟩
  ·rcases gB.1 hb with h|h
   ·rw[dD.1 h];exact⟨zd,zd⟩
   ·exact ih.1 b h
  ·show Lib.decFrom 0 ([48]++Lib.repeatL [48] c)=_;rw[xq];exact ih.2.1
def rW(u k:Nat):(∀b∈fb u k,fj b)∧Lib.decFrom 0 (fb u k)=some u∧(fb u k).length=max (Lib.decDigits u).length (k+1):=by
 obtain⟨r1,r2,r3⟩:=Es (k+1-(Lib.decDigits u).length);refine⟨fun b hb=>?_,?_,?_⟩
 ·rcases gB.1 hb with h|h
  ·exact r1 b h
  ·exact k9 u b h
 ·unfold fb;rw[xq,r2];exact En u
 ·unfold fb;rw[du,r3];omega
def gQ(u k:Nat):List UInt8:=(fb u k).take ((fb u k).length-k)
def ko(u k:Nat):List UInt8:=(fb u k).drop ((fb u k).length-k)
def U0(l:List UInt8)(m:Nat):(aA l).extract 0 m=aA (l.take m):=by
 refine gp ?_;rw[jh];show(l.toArray.extract 0 m)=(l.take m).toArray;simp
def U1(l:List UInt8)(m:Nat):(aA l).extract m (aA l).size=aA (l.drop m):=by
 refine gp ?_;rw[jh,gy];show(l.toArray.extract m l.length)=(l.drop m).toArray;rw[List.extract_toArray,List.extract_eq_take_drop,FJ (by rw[gu];omega)]
def Ay{u k:Nat}(hk:1<=k):eN ((u:Int),(k:Int))=aA (gQ u k)++⟨#[46]⟩++aA (ko u k):=by
 have hp:mc ((u:Int),(k:Int))=aA (fb u k):=by
  unfold mc;show pk ⟨#[48]⟩ ((k:Int)+1-(cE (ei (u:Int))).size).toNat++cE (ei (u:Int))=_;rw[Aw,rV,gy];unfold fb;rw[rU,show((k:Int)+1-((Lib.decDigits u).length:Int)).toNat=k+1-(Lib.decDigits u).length by omega];rfl
 have hl:=(rW u k).2.2;unfold eN;rw[ae (show(0:Int)<(k:Int) by omega),hp];have e:(((aA (fb u k)).size:Int)-((u:Int),(k:Int)).2).toNat=(fb u k).length-k:=by
  rw[gy];show(((fb u k).length:Int)-(k:Int)).toNat=_;omega
 rw[e,U0,U1];rfl
def U2{u k:Nat}(hu:u<10^15)(hk:1<=k)(hk2:k<=12):dV (eN ((u:Int),(k:Int)))=((u:Int),(k:Int),0):=by
 obtain⟨p1,p2,p3⟩:=rW u k;have hl:=Eo hu zd;have ha:∀b∈gQ u k,fj b:=fun b hb=>p1 b (AY hb);have lb:(ko u k).length=k:=by unfold ko;rw[gu];omega
 have la:(gQ u k).length=(fb u k).length-k:=by unfold gQ;rw[u6];omega
 have hs:=Ay (u:=u) hk;have hc:cY (eN ((u:Int),(k:Int))) ⟨#[46]⟩=(aA (gQ u k),aA (ko u k),true):=by
  rw[hs];have:aA (gQ u k)++⟨#[46]⟩++aA (ko u k)=⟨(gQ u k++46::ko u k).toArray⟩:=by
   show _=aA (gQ u k++([46]++ko u k));rw[rU,rU,<- ee];rfl
  rw[this];exact UW ha
 have hw:kD (eN ((u:Int),(k:Int)))=aA (fb u k):=by
  unfold kD;rw[hc];show aA (gQ u k)++aA (ko u k)=_;rw[<- rU];unfold gQ ko;rw[FL]
 have hne:fb u k≠[]:=fun q=>by rw[q]at p3;simp at p3;omega
 have hat:dy (aA (fb u k))=((u:Int),true):=KC hne zo p1 p2;have hr:jH (eN ((u:Int),(k:Int)))=((u:Int),(k:Int)):=by
  unfold jH;rw[hw,hat,hc];show((u:Int),((aA (ko u k)).size:Int))=_;rw[gy,lb]
 have hd:ej ((u:Int),(k:Int))=(eN ((u:Int),(k:Int)),0):=by
  have e:=KF hu hk2;unfold ej;rw[aa (fun q=>q e),aa (by show¬(u:Int)<0;omega)]
 have hz:(eN ((u:Int),(k:Int))).size=(fb u k).length+1:=by
  rw[hs,aj,aj,gy,gy,la,lb];show _-_+1+_=_;omega
 unfold dV decP;rw[hz,aa zo,aa zo,hw,hat,hr,hd,hc,aa];rintro(q|q|q|⟨_,q⟩)
 ·cases q
 ·exact q rfl
 ·exact q rfl
 ·rw[show(aA (ko u k)).size=k from by rw[gy,lb]]at q;omega
def U3{u k:Nat}(h:1<(gQ u k).length):ad (aA (gQ u k)) 0≠48:=by
 obtain⟨_,_,p3⟩:=rW u k;have la:(gQ u k).length=(fb u k).length-k:=by unfold gQ;rw[u6];omega
 have h1:k+1<(Lib.decDigits u).length:=zo
 obtain⟨b,r,e,hb⟩:=KB (u:=u) zo;have e2:fb u k=b::r:=by unfold fb;rw[show k+1-(Lib.decDigits u).length=0 by omega];exact e
 have e3:gQ u k=b::r.take ((fb u k).length-k-1):=by
  unfold gQ;obtain⟨j,hj⟩:∃j,(fb u k).length-k=j+1:=⟨(fb u k).length-k-1,zo⟩
  rw[hj,e2];rfl
 rw[e3];show((b.toNat:Nat):Int)≠48;omega
def Az{u:Nat}(h:1<(Lib.decDigits u).length):ad (aA (Lib.decDigits u)) 0≠48:=by
 obtain⟨b,r,e,hb⟩:=KB h;rw[e];show((b.toNat:Nat):Int)≠48;omega
structure Lit(v:V)(t:ByteArray):Prop where
 tok:∀jb,∃L,VR v L∧bd dT t L jb∧(¬(v.kind=2∨v.kind=3)->∀a u,L=a::u->a.kind≠2)
 b0:ad t 0≠62∧ad t 0≠61
def Et{s:St}{m:Bool}{x:Tok}{s':St}{v:V}(he:s.e=0)(hv:s.val=true)(h1:s.aH bP=m)(h2:(s.accept bP).peek=x)(h3:(s.accept bP).next=s')(h4:gR m x s'=(v,s'.fail 0))(h5:(s'.fail 0).e=0):fw s=(v,s'.fail 0):=by
 unfold fw;rw[aa (by rw[he];simp),aa (by rw[hv];simp),h1,h2,h3,h4];dsimp only;rw[aa (by rw[h5];simp)]
def lc(s:St):s.fail 0=s:=by unfold St.fail;rw[aa (fun q=>q.2 rfl)]
def ur{a:Tok}{l:List Tok}{ln cl:Int}{t:ByteArray}(h:cU a t=false):(ar (a::l) ln cl).accept t=ar (a::l) ln cl:=by
 unfold St.accept;rw[dS,h];rfl
def KG{a:Tok}{l:List Tok}{ln cl:Int}{t:ByteArray}(h:cU a t=true)(hl:l≠[]):(ar (a::l) ln cl).accept t=ar l ln cl:=by
 unfold St.accept;rw[dS,h];exact(ae rfl).trans (iA hl)
def KH{m:Bool}{x y:Tok}(h:x.z=y):i8 m x=i8 m y:=by
 have e1:x.text=y.text:=ic h;have e2:x.num=y.num:=(ak Tok.num h:x.z.num=_)
 have e3:x.scale=y.scale:=(ak Tok.scale h:x.z.scale=_)
 unfold i8;rw[e1,e2,e3]
def U4{t:ByteArray}{n sc:Int}{jb:Bool}{v:V}(hv:i8 false (nu t n sc jb)=v):VR v [nu t n sc jb]:=by
 refine⟨⟨_,_,rfl,rfl⟩,⟨_,_,rfl,fun q=>Bool.noConfusion q⟩,fun A a B ln cl hA=>?_⟩;obtain⟨x,A1,rfl,e1,e2⟩:=map_cons hA;have:=map_nil e2;subst this;have hk:x.kind=2:=gx e1;have ht:cU x bP=false:=by unfold cU;rw[hk];rfl
 have hval:(ar ([x]++a::B) ln cl).val=true:=by
  show(ar (x::a::B) ln cl).val=true;unfold St.val;rw[eR,ae (.inl hk)]
 refine⟨hval,?_⟩;have:=Et (s:=ar ([x]++a::B) ln cl) (m:=false) (x:=x) (s':=ar (a::B) ln cl) (v:=v) rfl hval (dS.trans ht) ((ak St.peek (ur ht)).trans eR) ((ak St.next (ur ht)).trans (iA zsi))
  (by unfold gR;rw[ae hk,KH e1,hv,lc]) (by rw[lc];rfl)
 rw[this,lc]
def U5{t:ByteArray}{n sc:Int}{jb:Bool}{v:V}(hv:i8 true (nu t n sc true)=v):VR v [sy bP jb,nu t n sc true]:=by
 refine⟨⟨_,_,rfl,rfl⟩,⟨_,_,rfl,fun _=>⟨_,_,rfl,rfl,rfl⟩⟩,fun A a B ln cl hA=>?_⟩;obtain⟨y,A0,rfl,e0,e9⟩:=map_cons hA;obtain⟨x,A1,rfl,e1,e2⟩:=map_cons e9;have:=map_nil e2;subst this;have hk:x.kind=2:=gx e1;have hj:x.joined=true:=mG e1;have hk0:y.kind=5:=gx e0;have ht:cU y bP=true:=eT e0 rfl;have hval:(ar ([y,x]++a::B) ln cl).val=true:=by
  show(ar (y::x::a::B) ln cl).val=true;unfold St.val;rw[eR,aa zo,aa zo,Ar,ht];simp[hk,hj]
 refine⟨hval,?_⟩;have:=Et (s:=ar ([y,x]++a::B) ln cl) (m:=true) (x:=x) (s':=ar (a::B) ln cl) (v:=v) rfl hval (dS.trans ht) ((ak St.peek (KG ht zsi)).trans eR) ((ak St.next (KG ht zsi)).trans (iA zsi))
  (by unfold gR;rw[ae hk,KH e1,hv,lc]) (by rw[lc];rfl)
 rw[this,lc]
def KI{l:List UInt8}(h:∀b∈l,fj b):rX (aA l)=false:=by
 unfold rX Lib.hasSuffix;show List.isSuffixOf [100] l=false;cases q:List.isSuffixOf [100] l with
 | false=>rfl
 | true=>
  have:=List.isSuffixOf_iff_suffix.1 q;have:=h 100 (this.subset zsi);exact absurd this.2 zd
def KJ(l:List UInt8):rX (aA l++⟨#[100]⟩)=true:=by
 unfold rX Lib.hasSuffix;have:(aA l++⟨#[100]⟩:ByteArray).data.toList=l++[100]:=by rw[iF,ph];rfl
 rw[this];exact List.isSuffixOf_iff_suffix.2 (List.suffix_append _ _)
def KL{t:ByteArray}(h:bD (ad t 0)=true):ad t 0≠62∧ad t 0≠61:=by
 unfold bD at h;simp only[cX]at h;omega
def U6(jb:Bool):bd (fun d=>d≠62∧d≠61) ⟨#[45]⟩ [sy bP jb] jb:=Em zd (.inl rfl) jb
def eB{a b:ByteArray}(h:0<a.size):ad (a++b) 0=ad a 0:=by rw[lV,ae h]
def Eu{t:ByteArray}{n sc:Int}{v:V}(hk:v.kind=2∨v.kind=3)(hx:∀jb,bd dT t [nu t n sc jb] jb)(hd:bD (ad t 0)=true)(hv:∀jb,i8 false (nu t n sc jb)=v):Lit v t:=⟨fun jb=>⟨_,U4 (hv jb),hx jb,fun q=>absurd hk q⟩,KL hd⟩
def Ev{t:ByteArray}{n sc:Int}{v:V}(hk:v.kind=2∨v.kind=3)(hx:∀jb,bd dT t [nu t n sc jb] jb)(hd:bD (ad t 0)=true)(h0:0<t.size)(hv:i8 true (nu t n sc true)=v):Lit v (⟨#[45]⟩++t):=
 ⟨fun jb=>⟨_,U5 hv,(U6 jb).cat (hx true) h0 (KL hd),fun q=>absurd hk q⟩,by rw[eB zd];decide⟩
def AA{l:List UInt8}(h:l≠[]):0<(aA l).size:=by rw[gy];exact mU.2 h
def qp(u:Nat):Lib.decDigits u≠[]:=fun q=>by have:=xr u;rw[q]at this;simp at this
def U7{n:Int}(h0 : -999999999999999<=n)(h1:n<=999999999999999):Lit (sc 2 n 0 ⟨#[]⟩) (cE n):=by
 have e15:(10:Nat)^15=1000000000000000:=zd
 have key:∀u:Nat,u<10^15->(∀jb,bd dT (aA (Lib.decDigits u)) [nu (aA (Lib.decDigits u)) (u:Int) 0 jb] jb):=fun u hu jb=>by
  have:=Ep (d:=false) (qp u) (k9 u) Az (Ax hu) jb
  rwa [show(if false=true then(⟨#[100]⟩:ByteArray)else⟨#[]⟩)=⟨#[]⟩from rfl,show aA (Lib.decDigits u)++⟨#[]⟩=aA (Lib.decDigits u)from FN]at this
 have hb:∀u,bD (ad (aA (Lib.decDigits u)) 0)=true:=fun u=>oP (k9 u) (xr u);rcases xL n 0 with q|q
 ·obtain⟨u,rfl⟩:∃u:Nat,n = -(u:Int):=⟨n.natAbs,zo⟩
  rw[UX zo];refine Ev (.inl rfl) (key u zo) (hb u) (AA (qp u)) ?_;unfold i8;rw[aa (by rintro(k|k);exact k rfl;rw[show(nu (aA (Lib.decDigits u)) (u:Int) 0 true).text=aA (Lib.decDigits u)from rfl,KI (k9 u)]at k;cases k)];rfl
 ·obtain⟨u,rfl⟩:∃u:Nat,n=(u:Int):=⟨n.toNat,zo⟩
  rw[rV];refine Eu (.inl rfl) (key u zo) (hb u) fun jb=>?_;unfold i8;rw[aa (by rintro(k|k);exact k rfl;rw[show(nu (aA (Lib.decDigits u)) (u:Int) 0 jb).text=aA (Lib.decDigits u)from rfl,KI (k9 u)]at k;cases k)];rfl
def U8{n k:Int}(h0 : -999999999999999<=n)(h1:n<=999999999999999)(h2:0<=k)(h3:k<=12):Lit (sc 3 n k ⟨#[]⟩) (if k=0 then(ej (n,k)).1++⟨#[100]⟩else(ej (n,k)).1):=by
 have e15:(10:Nat)^15=1000000000000000:=zd
 obtain⟨j,rfl⟩:∃j:Nat,k=(j:Int):=⟨k.toNat,zo⟩
 have hE:gI (n,(j:Int))=0:=ae ⟨h0,h1,h2,h3⟩;have hT:ej (n,(j:Int))=(if n<0 then⟨#[45]⟩++eN (n,(j:Int))else eN (n,(j:Int)),0):=by unfold ej;exact aa (fun q=>q hE)
 have hS:∀u:Nat,ei n=u->eN (n,(j:Int))=eN ((u:Int),(j:Int)):=fun u hu=>by
  unfold eN mc;show(if 0<(j:Int)then _ else _)=(if 0<(j:Int)then _ else _)
  rw[show ei ((u:Int),(j:Int)).1=ei (n,(j:Int)).1 from(Aw u).trans hu.symm]
 rw[hT];rcases sF j with hj|hj
 ·subst hj;rw[ae (show((0:Nat):Int)=0 from rfl)];have key:∀u:Nat,u<10^15->(∀jb,bd dT (aA (Lib.decDigits u)++⟨#[100]⟩) [nu (aA (Lib.decDigits u)++⟨#[100]⟩) (u:Int) 0 jb] jb):=fun u hu jb=>
   Ep (d:=true) (qp u) (k9 u) Az (Ax hu) jb
  have hb:∀u,bD (ad (aA (Lib.decDigits u)++⟨#[100]⟩) 0)=true:=fun u=>by rw[eB (AA (qp u))];exact oP (k9 u) (xr u)
  have hd:∀u:Nat,ei n=u->eN (n,((0:Nat):Int))=aA (Lib.decDigits u):=fun u hu=>by
   unfold eN;rw[aa (by show¬(0:Int)<0;decide)];show cE (ei n)=_;rw[hu,rV]
  rcases xL n 0 with q|q
  ·obtain⟨u,rfl⟩:∃u:Nat,n = -(u:Int):=⟨n.natAbs,zo⟩
   rw[ae q,hd u (by unfold ei;rw[ae zo];omega),ee];refine Ev (.inr rfl) (key u zo) (hb u) (by rw[aj];have:=AA (qp u);omega) ?_;unfold i8;rw[ae (.inr (KJ _))];rfl
  ·obtain⟨u,rfl⟩:∃u:Nat,n=(u:Int):=⟨n.toNat,zo⟩
   rw[aa zo,hd u (Aw u)];refine Eu (.inr rfl) (key u zo) (hb u) fun jb=>?_;unfold i8;rw[ae (.inr (KJ _))];rfl
 ·rw[aa zo];have la:∀u,0<(gQ u j).length:=fun u=>by
   have:=(rW u j).2.2;unfold gQ;rw[u6];omega
  have ha:∀u,∀b∈gQ u j,fj b:=fun u b hb=>(rW u j).1 b (AY hb);have hbb:∀u,∀b∈ko u j,fj b:=fun u b hb=>(rW u j).1 b (uQ hb);have lb:∀u,0<(ko u j).length:=fun u=>by
   have:=(rW u j).2.2;unfold ko;rw[gu];omega
  have key:∀u:Nat,u<10^15->(∀jb,bd dT (eN ((u:Int),(j:Int))) [nu (eN ((u:Int),(j:Int))) (u:Int) (j:Int) jb] jb):=fun u hu jb=>by
   have hv:=U2 hu hj zo;rw[Ay hj]at hv ⊢;exact UZ (mU.1 (la u)) (mU.1 (lb u)) (ha u) (hbb u) U3 hv jb
  have hs:∀u:Nat,0<(eN ((u:Int),(j:Int))).size:=fun u=>by rw[Ay hj,aj,aj,gy];have:=la u;omega
  have hb:∀u:Nat,bD (ad (eN ((u:Int),(j:Int))) 0)=true:=fun u=>by
   rw[Ay hj,eB (by rw[aj,gy];have:=la u;omega),eB (by rw[gy];exact la u)];exact oP (ha u) (la u)
  rcases xL n 0 with q|q
  ·obtain⟨u,rfl⟩:∃u:Nat,n = -(u:Int):=⟨n.natAbs,zo⟩
   rw[ae q,hS u (by unfold ei;rw[ae zo];omega)];refine Ev (.inr rfl) (key u zo) (hb u) (hs u) ?_;unfold i8;rw[ae (.inl (by show(j:Int)≠0;omega))];rfl
  ·obtain⟨u,rfl⟩:∃u:Nat,n=(u:Int):=⟨n.toNat,zo⟩
   rw[aa zo];refine Eu (.inr rfl) (key u zo) (hb u) fun jb=>?_;unfold i8;rw[ae (.inl (by show(j:Int)≠0;omega))];rfl
end Go.Ai

namespace Go.Ai
open Go Go.Lib
set_option maxRecDepth 100000
set_option maxHeartbeats 4000000
def U9{n m b0 b1 b2 b3 c1 c2 c3:Nat}(hm:(decodeN n b0 b1 b2 b3).2<=m)(hv:¬((decodeN n b0 b1 b2 b3).1=65533∧(decodeN n b0 b1 b2 b3).2=1))
 (h1:1<(decodeN n b0 b1 b2 b3).2->c1=b1) (h2:2<(decodeN n b0 b1 b2 b3).2->c2=b2) (h3:3<(decodeN n b0 b1 b2 b3).2->c3=b3):decodeN m b0 c1 c2 c3=decodeN n b0 b1 b2 b3:=by
 by_cases q0:b0<128
 ·unfold decodeN;rw[ae q0,ae q0]
 by_cases q1:b0/32=6∧(1<n∧b1/64=2)
 ·by_cases r:b0%32*64+b1%64≥128
  ·have e:decodeN n b0 b1 b2 b3=(b0%32*64+b1%64,2):=by unfold decodeN;rw[aa q0,ae q1,ae r]
   rw[e]at hm h1 ⊢;have:=h1 (show 1<_ from by first|exact(zd:1<2)|exact(zd:1<3)|exact(zd:1<4));subst this;have hm:2<=m:=hm;unfold decodeN;rw[aa q0,ae ⟨q1.1,zo,q1.2.2⟩,ae r]
  ·have e:decodeN n b0 b1 b2 b3=(65533,1):=by unfold decodeN;rw[aa q0,ae q1,aa r]
   rw[e]at hv;exact absurd ⟨rfl,rfl⟩ hv
 by_cases q2:b0/16=14∧(1<n∧b1/64=2)∧(2<n∧b2/64=2)
 ·generalize hr:(b0%16*4096+b1%64*64+b2%64≥2048∧(b0%16*4096+b1%64*64+b2%64<55296∨(57344<=b0%16*4096+b1%64*64+b2%64∧b0%16*4096+b1%64*64+b2%64<=1114111)))=R;by_cases r:(decodeN n b0 b1 b2 b3)=(b0%16*4096+b1%64*64+b2%64,3)
  ·have r2:=r;rw[r]at hm h1 h2 ⊢;have e1:=h1 (show 1<_ from by first|exact(zd:1<2)|exact(zd:1<3)|exact(zd:1<4));have e2:=h2 (show 2<_ from by first|exact(zd:2<3)|exact(zd:2<4));subst e1;subst e2;have hm:3<=m:=hm;unfold decodeN at r2 ⊢;rw[aa q0,aa zo,ae q2]at r2;rw[aa q0,aa zo,ae ⟨q2.1,⟨zo,q2.2.1.2⟩,zo,q2.2.2.2⟩];exact r2
  ·have e:decodeN n b0 b1 b2 b3=(65533,1):=by
    unfold decodeN at r ⊢;rw[aa q0,aa q1,ae q2]at r ⊢;split
    ·rename_i k;rw[ae k]at r;exact absurd rfl r
    ·rfl
   rw[e]at hv;exact absurd ⟨rfl,rfl⟩ hv
 by_cases q3:b0/8=30∧(1<n∧b1/64=2)∧(2<n∧b2/64=2)∧(3<n∧b3/64=2)
 ·by_cases r:(decodeN n b0 b1 b2 b3)=(b0%8*262144+b1%64*4096+b2%64*64+b3%64,4)
  ·have r2:=r;rw[r]at hm h1 h2 h3 ⊢;have e1:=h1 (show 1<_ from by first|exact(zd:1<2)|exact(zd:1<3)|exact(zd:1<4));have e2:=h2 (show 2<_ from by first|exact(zd:2<3)|exact(zd:2<4));have e3:=h3 (show 3<_ from(zd:3<4));subst e1;subst e2;subst e3;have hm:4<=m:=hm;unfold decodeN at r2 ⊢;rw[aa q0,aa zo,aa zo,ae q3]at r2;rw[aa q0,aa zo,aa zo,ae ⟨q3.1,⟨zo,q3.2.1.2⟩,⟨zo,q3.2.2.1.2⟩,zo,q3.2.2.2.2⟩];exact r2
  ·have e:decodeN n b0 b1 b2 b3=(65533,1):=by
    unfold decodeN at r ⊢;rw[aa q0,aa q1,aa q2,ae q3]at r ⊢;split
    ·rename_i k;rw[ae k]at r;exact absurd rfl r
    ·rfl
   rw[e]at hv;exact absurd ⟨rfl,rfl⟩ hv
 have e:decodeN n b0 b1 b2 b3=(65533,1):=by unfold decodeN;rw[aa q0,aa q1,aa q2,aa q3]
 rw[e]at hv;exact absurd ⟨rfl,rfl⟩ hv
def AB{s:ByteArray}{i:Nat}(h:i<s.size):((s.get! i).toNat:Int)=ad s i:=by
 unfold ad;have:s.get! i=s.data[i]:=by
  show s.data[i]! = _;rw[getElem!_pos s.data i h]
 rw[this,dC h];rfl
def Va{s v:ByteArray}{p q:Nat}(hq:q<v.size)(hv:¬((Utf8.decode v q).1=65533∧(Utf8.decode v q).2=1))(hp:p+(Utf8.decode v q).2<=s.size)(hb:∀k,k<(Utf8.decode v q).2->ad s (p+k)=ad v (q+k)):
 Utf8.decode s p=Utf8.decode v q:=by
 obtain⟨w1,w2,w3,w4,w5⟩:=ut v q hq;have g:∀k,k<(Utf8.decode v q).2->q+k<v.size->(s.get! (p+k)).toNat=(v.get! (q+k)).toNat:=fun k hk hqk=>by
  have e1:=AB (s:=s) (i:=p+k) zo;have e2:=AB hqk;have:=hb k hk;omega
 have g0:=g 0 zo zo;rw[fE,fE]at g0;rw[decode_at s p,g0];rw[decode_at v q]at hv hp w1 w2 w3 w4 w5 g ⊢;exact U9 zo hv (fun k=>g 1 k (w3 zo).2) (fun k=>g 2 k (w4 zo).2) (fun k=>g 3 k (w5 zo).2)
end Go.Ai

namespace Go.Ai
open Go
set_option maxRecDepth 100000
set_option maxHeartbeats 4000000
def Vb(v:ByteArray)(q:Nat)(h:q<v.size):Lib.decodeL (v.data.toList.drop q)=Utf8.decode v q:=by
 have e:(ByteArray.mk (v.data.toList.drop q).toArray)=v.extract q v.size:=by
  refine gp ?_;show(v.data.toList.drop q).toArray=_;rw[<- z6]
 have hz:(v.extract q v.size).size=v.size-q:=by rw[dh];omega
 have hg:∀j,(v.extract q v.size).get! j=v.get! (q+j):=fun j=>by
  show(v.extract q v.size).data[j]! = v.data[q+j]!;rw[jh,getElem!_def,getElem!_def,Array.getElem?_extract];have e:min v.size v.data.size=v.size:=Nat.min_self _;rw[e];by_cases hj:j<v.size-q
  ·rw[ae hj]
  ·rw[aa hj,Array.getElem?_eq_none (by show v.size<=_;omega)]
 unfold Lib.decodeL;rw[e,x6,x6 v q,hz];simp only[hg,Nat.sub_zero,eC,fE]
def AC(v:ByteArray)(q:Nat):Prop:=∃m,v.size-q<=m∧Lib.validGoD m (v.data.toList.drop q)=true
def Vc{v:ByteArray}(h:Lib.validD v.data.toList=true):AC v 0:=⟨v.data.toList.length,by rw[fY];exact Nat.sub_le _ _,h⟩
def Vd{v:ByteArray}{q:Nat}(hq:q<v.size)(h:AC v q):¬((Utf8.decode v q).1=65533∧(Utf8.decode v q).2=1)∧AC v (q+(Utf8.decode v q).2):=by
 obtain⟨m,hm,h⟩:=h;obtain⟨k,rfl⟩:∃k,m=k+1:=⟨m-1,zo⟩
 have hne:v.data.toList.drop q≠[]:=fun e=>by
  have:=ak List.length e;rw[gu,fY]at this;have:v.data.size-q=0:=by simpa using this
  have:v.size=v.data.size:=rfl;omega
 simp only[Lib.validGoD]at h;rw[aa hne,Vb v q hq]at h;split at h
 ·cases h
 ·rename_i hv;have w:=(ut v q hq).1;refine⟨hv,k,zo,?_⟩;rw[uR]at h;exact h
def aR(c:UInt8):ByteArray:=fk c.toNat
theorem Ew{s v:ByteArray}{i:Nat}:∀{n:Nat},At s i (bo aR v n)->∀q,q<n->At s (i+(bo aR v q).size) (fW aR ((v.data[q]?).getD 0))
 | 0,_,q,hq=>absurd hq (uO _)
 | n+1,h,q,hq=>by
  obtain⟨h1,h2⟩:=At.app (show At s i (bo aR v n++fW aR ((v.data[n]?).getD 0))from h);rcases iG q n with k|k
  ·exact Ew h1 q k
  ·rw[show q=n by omega];exact h2
def uu(v:ByteArray)(q:Nat):(bo aR v (q+1)).size=(bo aR v q).size+(fW aR ((v.data[q]?).getD 0)).size:=aj
def Ve{s v:ByteArray}{p q n:Nat}{a:ByteArray}(hq:q<v.size)(hv:¬((Utf8.decode v q).1=65533∧(Utf8.decode v q).2=1))(hp:p+(Utf8.decode v q).2<=s.size)(hb:∀k,k<(Utf8.decode v q).2->ad s (p+k)=ad v (q+k))
 (hq2:q+(Utf8.decode v q).2<=v.size) (h1:ad v q≠34∧ad v q≠92∧32<=ad v q∧ad v q≠127):eG s (n+1) p a=eG s n (p+(Utf8.decode v q).2) (a++v.extract q (q+(Utf8.decode v q).2)):=by
 have hd:=Va hq hv hp hb;have w:=(ut v q hq).1;have h0:=hb 0 zo;rw[fE,fE]at h0;have he:oG s p=false:=by
  unfold oG;rw[hd];cases e:((Utf8.decode v q).1==65533)with
  | false=>rfl
  | true=>
   rw[xU];refine fD fun k=>hv ⟨by simpa using e,zo⟩
 have hx:s.extract p (p+(Utf8.decode v q).2)=v.extract q (q+(Utf8.decode v q).2):=by
  have z1:(s.extract p (p+(Utf8.decode v q).2)).size=(Utf8.decode v q).2:=by rw[dh];omega
  have z2:(v.extract q (q+(Utf8.decode v q).2)).size=(Utf8.decode v q).2:=by rw[dh];omega
  refine Kf (z1.trans z2.symm) fun k hk=>?_;rw[z1]at hk;rw[qh zo hp,qh zo hq2,hb k hk]
 simp only[eG];rw[aa zo,aa (by rw[h0];exact h1.1),aa (by rw[h0];exact h1.2.1),aa (by rw[h0];omega),he,hd,hx];rfl
def Vf{s:ByteArray}{p n j:Nat}{a t:ByteArray}{b:Bool}(hp:p<s.size)(h0:ad s p=92)(h:iT s p=some (j,b,t)):eG s (n+1) p a=eG s n j (a++t):=by
 simp only[eG];rw[aa zo,aa (by rw[h0];decide),ae h0,h]
def Vg{s:ByteArray}{p:Nat}{c d:UInt8}(h:At s p ⟨#[92,d]⟩)(hd:(d,c)∈[((34:UInt8),(34:UInt8)),(92,92),(110,10),(114,13),(116,9)]):iT s p=some (p+2,true,⟨#[c]⟩):=by
 have hb:ad s (p+1)=d.toNat:=h.2 1 (by show 1<2;decide);have hle:p+2<=s.size:=h.1;unfold iT;rw[hb];simp only[bW,sK,ii,nJ]at hd;rcases hd with⟨rfl,rfl⟩|⟨rfl,rfl⟩|⟨rfl,rfl⟩|⟨rfl,rfl⟩|⟨rfl,rfl⟩<;>exact(ae ⟨zo,zd⟩).trans rfl
def Ex{s:ByteArray}{i n:Nat}{acc:Int}(h:i<s.size∧0<=aW (ad s i)):bs s (n+1) i acc=bs s n (i+1) (acc*16+aW (ad s i)):=by simp only[bs];rw[ae h]
theorem KM{s:ByteArray}{i:Nat}{acc:Int}(h:¬(i<s.size∧0<=aW (ad s i))):∀n,bs s n i acc=(i,acc)
 | 0=>rfl
 | n+1=>by simp only[bs];rw[aa h]
def Vh:∀c:_root_.Fin 16,aW (ad (fk c.val) 0)=c.val∧(fk c.val).size=1:=zd
def Vi:∀c:_root_.Fin 256,16<=c.val->aW (ad (fk c.val) 0)=(c.val/16:Nat)∧aW (ad (fk c.val) 1)=(c.val%16:Nat)∧(fk c.val).size=2:=zd
def Vj{c:UInt8}(h:c.toNat<128):Utf8.encode (c.toNat:Int)=⟨#[c]⟩:=by
 have hv:Utf8.valid (c.toNat:Int)=true:=by
  unfold Utf8.valid;simp only[az,eU,cX];omega
 unfold Utf8.encode;simp only[hv,bC,bu];rw[ae h,UInt8.ofNat_toNat]
def Vk{s:ByteArray}{p:Nat}{c:UInt8}(h:At s p (⟨#[92,117,123]⟩++aR c++⟨#[125]⟩))(hc:c.toNat<128):iT s p=some (p+4+(aR c).size,false,⟨#[c]⟩):=by
 obtain⟨g,g3⟩:=h.app;obtain⟨g1,g2⟩:=g.app;have b1:ad s (p+1)=117:=g1.2 1 (by show 1<3;decide);have b2:ad s (p+2)=123:=g1.2 2 (by show 2<3;decide);have z:(⟨#[92,117,123]⟩++aR c:ByteArray).size=3+(aR c).size:=by rw[aj];rfl
 have g2:At s (p+3) (aR c):=g2;rw[z]at g3;have b3:ad s (p+(3+(aR c).size))=125:=g3.b0 zd;have hle:=g3.1;have hle:p+(3+(aR c).size)+1<=s.size:=hle;have hstop:¬(p+(3+(aR c).size)<s.size∧0<=aW (ad s (p+(3+(aR c).size)))):=by rw[b3];exact fun k=>absurd k.2 zd
 have hR:bs s 7 (p+3) 0=(p+(3+(aR c).size),(c.toNat:Int))∧1<=(aR c).size∧(aR c).size<=2:=by
  rcases iG c.toNat 16 with k|k
  ·obtain⟨e1,e2⟩:=Vh ⟨c.toNat,k⟩;have e2:(aR c).size=1:=e2;have d0:ad s (p+3)=ad (fk c.toNat) 0:=g2.b0 zo;have v0:aW (ad s (p+3))=c.toNat:=by rw[d0];exact e1
   refine⟨?_,zo,zo⟩;rw[Ex ⟨zo,zo⟩,v0];rw[e2]at hstop ⊢;rw[show p+3+1=p+(3+1) by omega,KM hstop];simp
  ·obtain⟨e1,e2,e3⟩:=Vi ⟨c.toNat,Bi c⟩ k;have e3:(aR c).size=2:=e3;have d0:ad s (p+3)=ad (fk c.toNat) 0:=g2.b0 zo;have d1:ad s (p+3+1)=ad (fk c.toNat) 1:=g2.2 1 zo;have v0:aW (ad s (p+3))=(c.toNat/16:Nat):=by rw[d0];exact e1
   have v1:aW (ad s (p+3+1))=(c.toNat%16:Nat):=by rw[d1];exact e2
   refine⟨?_,zo,zo⟩;rw[Ex ⟨zo,zo⟩,Ex ⟨zo,zo⟩,v0,v1];rw[e3]at hstop ⊢;rw[show p+3+1+1=p+(3+2) by omega,KM hstop];congr 1;omega
 obtain⟨hR,l1,l2⟩:=hR;unfold iT;rw[hR,b1,b2];refine(aa (fun k=>absurd k.2 zd)).trans ((ae ⟨rfl,rfl⟩).trans ?_);dsimp only;rw[b3,aa zo,Vj hc];refine(ae ?_).trans (by rw[show p+(3+(aR c).size)+1=p+4+(aR c).size by omega]);unfold kU;simp only[az,cX];omega
def xu(v:ByteArray)(q:Nat):ad v q=(((v.data[q]?).getD 0).toNat:Int):=rfl
def Ey{v:ByteArray}{q:Nat}(hq:q<v.size)(h:ad v q<128):Utf8.decode v q=((ad v q).toNat,1):=by
 have e:=AB hq;rw[x6];unfold Lib.decodeN;rw[ae zo,<- e];rfl
def Vl{c:UInt8}(h:¬(c.toNat=34∨c.toNat=92)∧32<=c.toNat∧c.toNat≠127):fW aR c=⟨#[c]⟩:=by
 unfold fW;rw[aa h.1,aa zo,aa zo,aa zo,aa zo]
theorem KN{s v:ByteArray}{i q n:Nat}(h:At s i (bo aR v v.size)):∀k,k<=n->q+n<=v.size->(∀j,j<n->¬(ad v (q+j)=34∨ad v (q+j)=92)∧32<=ad v (q+j)∧ad v (q+j)≠127) ->
 (bo aR v (q+k)).size=(bo aR v q).size+k∧(∀j,j<k->ad s (i+(bo aR v q).size+j)=ad v (q+j))
 | 0,_,_,_=>⟨rfl,fun j hj=>absurd hj (uO _)⟩
 | k+1,hk,hn,hp=>by
  obtain⟨e1,e2⟩:=KN h k zo hn hp;have hc:=hp k zo;rw[xu]at hc;have e3:fW aR ((v.data[q+k]?).getD 0)=⟨#[(v.data[q+k]?).getD 0]⟩:=Vl ⟨zo,zo,zo⟩;have ha:=Ew h (q+k) zo;rw[e3,e1]at ha;refine⟨by rw[<- ik,uu,e3,e1];rfl,fun j hj=>?_⟩;rcases iG j k with g|g
  ·exact e2 j g
  ·rw[show j=k by omega];have:=ha.b0 (by show 0<1;decide);rw[<- ik]at this;rw[this,xu];rfl
def KO{v:ByteArray}{q n:Nat}(h:q+n<=v.size)(a:ByteArray):a++v.extract q (q+n)++v.extract (q+n) v.size=a++v.extract q v.size:=by
 rw[ee,qn zo h (ao _)]
def one_byte{v:ByteArray}{q:Nat}(h:q<v.size):v.extract q (q+1)=⟨#[(v.data[q]?).getD 0]⟩:=Aj h (xu v q)
def Vm{s v:ByteArray}{i:Nat}(h:At s i (bo aR v v.size))(Ez:ad s (i+(bo aR v v.size).size)=34)(hend:i+(bo aR v v.size).size<s.size):∀(d q:Nat),v.size-q=d->q<=v.size->AC v q->∀(fuel:Nat) (a:ByteArray),v.size-q+1<=fuel ->
 eG s fuel (i+(bo aR v q).size) a=.inl (i+(bo aR v v.size).size+1,a++v.extract q v.size):=by
 intro d
 induction d using Nat.strongRecOn with
 | _ d ih=>
  intro q hd hq hV fuel a hf;obtain⟨n,rfl⟩:∃n,fuel=n+1:=⟨fuel-1,zo⟩
  rcases Nat.eq_or_lt_of_le hq with e|hlt
  ·subst e;simp only[eG];rw[aa zo,ae Ez,show v.extract v.size v.size=⟨#[]⟩from gp (by rw[jh];simp),show a++⟨#[]⟩=a from FN]
  obtain⟨hv,hV2⟩:=Vd hlt hV;have ha:=Ew h q hlt;have hle:=ha.1;have hc:=xu v q;have hs:=uu v q;have hb:=one_byte hlt;generalize hcd:(v.data[q]?).getD 0=c at ha hle hc hs hb;have one:c.toNat<128->∀(b:Bool) (t:ByteArray),t=⟨#[c]⟩->ad s (i+(bo aR v q).size)=92->iT s (i+(bo aR v q).size)=some (i+(bo aR v (q+1)).size,b,t)->i+(bo aR v q).size<s.size ->
   eG s (n+1) (i+(bo aR v q).size) a=.inl (i+(bo aR v v.size).size+1,a++v.extract q v.size):=fun h128 b t ht Vn hE hsz=>by
   have hd1:(Utf8.decode v q).2=1:=by rw[Ey hlt zo]
   rw[hd1]at hV2;rw[Vf hsz Vn hE,ih (v.size-(q+1)) zo (q+1) rfl zo hV2 n _ zo,ht,<- hb,KO zo]
  have two:∀d:UInt8,(d,c)∈[((34:UInt8),(34:UInt8)),(92,92),(110,10),(114,13),(116,9)]->fW aR c=⟨#[92,d]⟩->c.toNat<128 ->
   eG s (n+1) (i+(bo aR v q).size) a=.inl (i+(bo aR v v.size).size+1,a++v.extract q v.size):=fun d hm hE h128=>by
   rw[hE]at ha hs;have hs:(bo aR v (q+1)).size=(bo aR v q).size+2:=hs;have h2:=ha.1;have h2:i+(bo aR v q).size+2<=s.size:=h2;refine one h128 true ⟨#[c]⟩ rfl (ha.b0 (by show 0<2;decide)) ?_ zo;rw[hs,<- ik];exact Vg ha hm
  have app2:∀x y:UInt8,(⟨#[x]⟩++⟨#[y]⟩:ByteArray)=⟨#[x,y]⟩:=fun x y=>gp (by rw[iF];rfl);by_cases q1:c.toNat=34∨c.toNat=92
  ·refine two c ?_ (by unfold fW;rw[ae q1];exact app2 _ _) zo;rcases q1 with k|k
   ·have:c=34:=ji.1 k;subst this;decide
   ·have:c=92:=ji.1 k;subst this;decide
  by_cases q2:c.toNat=10
  ·have:c=10:=ji.1 q2;subst this;exact two 110 zd (by unfold fW;rw[aa q1,ae q2]) zd
  by_cases q3:c.toNat=13
  ·have:c=13:=ji.1 q3;subst this;exact two 114 zd (by unfold fW;rw[aa q1,aa q2,ae q3]) zd
  by_cases q4:c.toNat=9
  ·have:c=9:=ji.1 q4;subst this;exact two 116 zd (by unfold fW;rw[aa q1,aa q2,aa q3,ae q4]) zd
  by_cases q5:c.toNat<32∨c.toNat=127
  ·have hE:fW aR c=⟨#[92,117,123]⟩++aR c++⟨#[125]⟩:=by unfold fW;rw[aa q1,aa q2,aa q3,aa q4,ae q5]
   rw[hE]at ha hs;have hz:(⟨#[92,117,123]⟩++aR c++⟨#[125]⟩:ByteArray).size=4+(aR c).size:=by
    rw[aj,aj];show 3+_+1=_;omega
   have h2:=ha.1;rw[hz]at hs h2;refine one zo false ⟨#[c]⟩ rfl ?_ ?_ zo
   ·have:=ha.app.1.app.1.b0 zd;exact this
   ·rw[hs,show i+((bo aR v q).size+(4+(aR c).size))=i+(bo aR v q).size+4+(aR c).size by omega];exact Vk ha zo
  obtain⟨w1,w2⟩:q+(Utf8.decode v q).2<=v.size∧∀j,j<(Utf8.decode v q).2->¬(ad v (q+j)=34∨ad v (q+j)=92)∧32<=ad v (q+j)∧ad v (q+j)≠127:=by
   rcases iG c.toNat 128 with k|k
   ·rw[Ey hlt zo];refine⟨by show q+1<=_;omega,fun j hj=>?_⟩;have hj:j<1:=hj;rw[show q+j=q by omega,hc];omega
   ·have hbig:128<=(v[q]'hlt).toNat:=by
     have:=AB hlt;have e:v[q]=c:=by rw[<- hcd,dC (show q<v.data.size from hlt)];rfl
     rw[e];exact k
    obtain⟨g1,g2⟩:=KP v q hlt hbig;refine⟨g1,fun j hj=>?_⟩;have hj2:q+j<v.data.size:=by have:v.size=v.data.size:=rfl;omega
    have:=g2 (q+j) (v.data[q+j]) zo zo (by rw[qw,dC hj2]);rw[xu,dC hj2];simp only[qF];omega
  obtain⟨p1,p2⟩:=KN (n:=(Utf8.decode v q).2) h (Utf8.decode v q).2 (ao _) w1 w2;have wd:=(ut v q hlt).1;have hlast:=h.1;have mono:∀a b,a<=b->(bo aR v a).size<=(bo aR v b).size:=fun a b hab=>by
   induction hab with
   | refl=>exact ao _
   | step _ ih=>rw[uu];omega
  have hm:=mono _ _ w1;have h00:=w2 0 zo;rw[fE]at h00
  rw[Ve hlt hv zo p2 w1 ⟨zo,zo,zo,zo⟩,show i+(bo aR v q).size+(Utf8.decode v q).2=i+(bo aR v (q+(Utf8.decode v q).2)).size by omega,
   ih (v.size-(q+(Utf8.decode v q).2)) zo (q+(Utf8.decode v q).2) rfl w1 hV2 n _ zo,KO w1]
end Go.Ai
