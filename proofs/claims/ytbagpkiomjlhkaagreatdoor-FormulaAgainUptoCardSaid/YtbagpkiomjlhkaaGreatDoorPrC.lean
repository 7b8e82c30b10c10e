/- Printed texts: values that are texts, bytes or Booleans. -/
import Derived.Test.YtbagpkiomjlhkaaGreatDoorPrB
import Derived.Test.YtbagpkiomjlhkaaGreatDoorMdD
set_option linter.all false
namespace Go.Ai
open Go
set_option maxRecDepth 100000
set_option maxHeartbeats 4000000
def tq(v:ByteArray)(jb:Bool):Tok:=.mk 3 0 0 ⟨#[]⟩ v 0 0 jb
def kq(v:ByteArray):ByteArray:=bo aR v v.size++⟨#[34]⟩
theorem EA(v:ByteArray):∀n,0<(bo aR v n).size∧ad (bo aR v n) 0=34
 | 0=>⟨show 0<(⟨#[34]⟩:ByteArray).size by decide,show ad ⟨#[34]⟩ 0=34 by decide⟩
 | n+1=>by
  obtain⟨h1,h2⟩:=EA v n;refine⟨by rw[uu];omega,?_⟩;show ad (bo aR v n++_) 0=34;rw[eB h1];exact h2
def KQ{v:ByteArray}(hv:Lib.validD v.data.toList=true)(hz:v.size<=1024)(jb:Bool):bd (fun _=>True) (kq v) [tq v jb] jb:=by
 intro s i last ha _ hj;obtain⟨h0,b0⟩:=EA v v.size;obtain⟨a1,a2⟩:=ha.app;have hb:ad s i=34:=(a1.b0 h0).trans b0;have Ez:ad s (i+(bo aR v v.size).size)=34:=a2.b0 zd;have hle:=a2.1;have hle:i+(bo aR v v.size).size+1<=s.size:=hle;have hsz:(kq v).size=(bo aR v v.size).size+1:=aj;have mono:v.size+1<=(bo aR v v.size).size:=by
  have:∀n,n+1<=(bo aR v n).size:=fun n=>by
   induction n with
   | zero=>exact(zd:0+1<=(⟨#[34]⟩:ByteArray).size)
   | succ n ih=>
    rw[uu];have:0<(fW aR ((v.data[n]?).getD 0)).size:=by
     unfold fW
     repeat' split
     all_goals first|exact im|exact Nat.zero_lt_two|(rw[aj];exact cf im (Nat.le_add_left 1 _))
    omega
  exact this v.size
 have hs:eG s (s.size+1) (i+1) ⟨#[]⟩=.inl (i+(bo aR v v.size).size+1,v):=by
  have:=Vm a1 Ez zo _ 0 rfl (aB _) (Vc hv) (s.size+1) ⟨#[]⟩ zo;rw[show(bo aR v 0).size=1 from rfl,show v.extract 0 v.size=v from xb v,show(⟨#[]⟩:ByteArray)++v=v from x7]at this;exact this
 subst hj;rw[hsz,<- ik];refine .one ⟨zo,zo,um (by rw[hb];decide),fun l c=>?_⟩;have e:cS s i (.mk 0 l c ⟨#[]⟩ ⟨#[]⟩ 0 0 (decide ((i:Int)=last)))=(true,i+(bo aR v v.size).size+1,0,0,Tok.KR (.mk 0 l c ⟨#[]⟩ ⟨#[]⟩ 0 0 (decide ((i:Int)=last))) v):=by
  unfold cS;rw[aa (by rw[hb];exact fun k=>absurd k.1 zd),aa (by rw[hb];decide),aa (by rw[hb];decide),ae hb];unfold mB;rw[hs];dsimp only;rw[aa zo,aa zo]
 exact⟨_,_,e,rfl⟩
def KT{t:Tok}{v:V}(ht:t.z=t)(hk:t.kind=3∨t.kind=4)(hv:∀(x:Tok) (s:St),x.z=t->gR false x s=(v,s)):VR v [t]:=by
 have n1:∀w,cU t w=false:=fun w=>by unfold cU;rcases hk with k|k<;>rw[k]<;>rfl
 refine⟨⟨_,_,rfl,n1 _⟩,⟨_,_,rfl,fun q=>by rw[n1]at q;cases q⟩,fun A a B ln cl hA=>?_⟩;obtain⟨x,A1,rfl,e1,e2⟩:=map_cons hA;have:=map_nil e2;subst this;have hk:x.kind=3∨x.kind=4:=by rw[gx e1];exact hk
 have ht:cU x bP=false:=oK e1 (n1 _);have hval:(ar ([x]++a::B) ln cl).val=true:=by
  show(ar (x::a::B) ln cl).val=true;unfold St.val;rw[eR,ae zo]
 refine⟨hval,?_⟩;have:=Et (s:=ar ([x]++a::B) ln cl) (m:=false) (x:=x) (s':=ar (a::B) ln cl) (v:=v) rfl hval (dS.trans ht) ((ak St.peek (ur ht)).trans eR) ((ak St.next (ur ht)).trans (iA zsi))
  (by rw[hv x _ e1,lc]) (by rw[lc];rfl)
 rw[this,lc]
def Vo{v:ByteArray}(hv:Lib.validD v.data.toList=true)(hz:v.size<=1024):Lit (sc 4 0 0 v) (kq v):=by
 refine⟨fun jb=>⟨_,KT (t:=tq v jb) rfl (.inl rfl) fun x s e=>?_,(KQ hv hz jb).of fun _ _=>trivial,fun _ a u e=>by cases e;exact(zd:(3:Int)≠2)⟩,?_⟩
 ·have k:x.kind=3:=gx e;have e2:x.value=v:=(ak Tok.value e:x.z.value=_)
  unfold gR;rw[aa zo,ae k,e2]
 ·obtain⟨h0,b0⟩:=EA v v.size;unfold kq;rw[eB h0,b0];decide
def Vp{s:St}{m:Bool}{x:Tok}{s' s2:St}{v:V}(he:s.e=0)(hv:s.val=true)(h1:s.aH bP=m)(h2:(s.accept bP).peek=x)(h3:(s.accept bP).next=s')(h4:gR m x s'=(v,s2))(h5:s2.e=0):fw s=(v,s2):=by
 unfold fw;rw[aa (by rw[he];simp),aa (by rw[hv];simp),h1,h2,h3,h4];dsimp only;rw[aa (by rw[h5];simp)]
def KU{t:Tok}{v:V}{r:List Tok}(ht:t.kind=1)(hw:bI kW t.text=true)(hr:∀(A:List Tok) (x:Tok) (a:Tok) (B:List Tok) (ln cl:Int),x.z=t->A.map Tok.z=r->gR false x (ar (A++a::B) ln cl)=(v,ar (a::B) ln cl)):VR v (t::r):=by
 have hm:=Ej.1 hw;have n1:cU t nz=false∧cU t bP=false:=by
  refine⟨rT fun e=>?_,rT fun e=>?_⟩<;>rw[e]at hw<;>exact absurd hw zd
 refine⟨⟨_,_,rfl,n1.1⟩,⟨_,_,rfl,fun q=>by rw[n1.2]at q;cases q⟩,fun A a B ln cl hA=>?_⟩;obtain⟨x,A1,rfl,e1,e2⟩:=map_cons hA;have hk:x.kind=1:=by rw[<- ht,<- e1];rfl
 have htx:x.text=t.text:=by rw[<- e1];rfl
 have hx:cU x bP=false:=by have:=oK e1 n1.2;exact this
 have hne:A1++a::B≠[]:=zsi
 have hval:(ar (x::A1++a::B) ln cl).val=true:=by
  show(ar (x::(A1++a::B)) ln cl).val=true;rw[Ek hk,htx];exact hw
 refine⟨hval,?_⟩;exact Vp (s:=ar (x::A1++a::B) ln cl) (m:=false) (x:=x) (s':=ar (A1++a::B) ln cl) (v:=v) rfl hval (dS.trans hx) ((ak St.peek (ur hx)).trans eR) ((ak St.next (ur hx)).trans (iA hne)) (hr A1 x a B ln cl e1 e2) rfl
def KV{x:Tok}{s:St}(hk:x.kind=1):gR false x s=jx x.text s:=by
 unfold gR;rw[aa zo,aa zo,aa zo]
def Vq(b:Bool):Lit (qq b) (nw b):=by
 have h1:nw true=uw∧nw false=⟨#[102,97,108,115,101]⟩:=zd
 have vt:∀(t:ByteArray),t=nw b->(t≠qr∧t≠oR)∧decide (t=uw)=b∧bI kW t=true∧(0<t.size∧bJ (ad t 0)=true∧(∀j,j<t.size->cx (ad t j)=true)∧t.size<=64):=by
  intro t ht;cases b
  ·rw[h1.2]at ht;subst ht;exact⟨⟨zd,zd⟩,zd,zd,zd,zd,zd,zd⟩
  ·rw[h1.1]at ht;subst ht;exact⟨⟨zd,zd⟩,zd,zd,zd,zd,zd,zd⟩
 obtain⟨⟨w1,w2⟩,w3,w4,w5,w6,w7,w8⟩:=vt _ rfl;refine⟨fun jb=>⟨[wd (nw b) jb],KU rfl w4 fun A x a B ln cl e hA=>?_,(oO w5 w6 w7 w8 jb).of fun c h=>dT.word h,fun _ a u e=>by cases e;exact(zd:(1:Int)≠2)⟩,?_⟩
 ·have:=map_nil hA;subst this;have hk:x.kind=1:=gx e;have ht:x.text=nw b:=ic e;rw[KV hk,ht];unfold jx;rw[aa w1,aa w2,w3];rfl
 ·cases b
  ·rw[h1.2];decide
  ·rw[h1.1];decide
def bq(v:ByteArray)(jb:Bool):Tok:=.mk 4 0 0 ⟨#[]⟩ v 0 0 jb
def Vr:∀c:_root_.Fin 256,(fm (UInt8.ofNat c.val)).size=2∧aW (ad (fm (UInt8.ofNat c.val)) 0)=(c.val/16:Nat)∧aW (ad (fm (UInt8.ofNat c.val)) 1)=(c.val%16:Nat):=by decide +kernel
def KW(c:UInt8):(fm c).size=2∧aW (ad (fm c) 0)=(c.toNat/16:Nat)∧aW (ad (fm c) 1)=(c.toNat%16:Nat):=by
 have:=Vr ⟨c.toNat,Bi c⟩
 rwa [UInt8.ofNat_toNat]at this
theorem EB(v:ByteArray):∀n,(dU v n).size=2*n
 | 0=>rfl
 | n+1=>by
  show(dU v n++fm _).size=_;rw[aj,EB v n,(KW _).1];omega
theorem EC(v:ByteArray):∀n j,j<n->aW (ad (dU v n) (2*j))=(((v.data[j]?).getD 0).toNat/16:Nat)∧aW (ad (dU v n) (2*j+1))=(((v.data[j]?).getD 0).toNat%16:Nat)
 | 0,j,h=>absurd h (uO _)
 | n+1,j,h=>by
  have hz:=EB v n;show aW (ad (dU v n++fm _) (2*j))=_∧aW (ad (dU v n++fm _) (2*j+1))=_;rcases iG j n with k|k
  ·rw[lV,lV,ae zo,ae zo];exact EC v n j k
  ·have:j=n:=by omega
   subst this;rw[lV,lV,aa zo,aa zo,hz,show 2*j-2*j=0 by omega,show 2*j+1-2*j=1 by omega];exact(KW _).2
theorem KX(v:ByteArray):∀k,k<=v.size->eQ (dU v v.size) k=v.extract 0 k
 | 0,_=>(gp (by rw[jh];simp):(⟨#[]⟩:ByteArray)=v.extract 0 0)
 | k+1,h=>by
  show eQ (dU v v.size) k++⟨#[oT (dU v v.size) k]⟩=_;obtain⟨h1,h2⟩:=EC v v.size k zo;have e:oT (dU v v.size) k=(v.data[k]?).getD 0:=by
   unfold oT;rw[h1,h2];refine ji.1 ?_;have:=Bi ((v.data[k]?).getD 0);show(Int.toNat _).toUInt8.toNat=_;rw[Nat.toUInt8,UInt8.toNat_ofNat'];omega
  rw[KX v k zo,e,<- one_byte (show k<v.size by omega),qn zo zo zo]
def Vs{v:ByteArray}(hz:v.size<=1024)(jb:Bool):bd (fun _=>True) (⟨#[120,34]⟩++dU v v.size++⟨#[34]⟩) [bq v jb] jb:=by
 intro s i last ha _ hj;obtain⟨a1,a2⟩:=ha.app;obtain⟨a0,a1⟩:=a1.app;have b0:ad s i=120:=a0.b0 zd;have b1:ad s (i+1)=34:=a0.2 1 zd;have z:=EB v v.size;have z1:(⟨#[120,34]⟩++dU v v.size:ByteArray).size=2+2*v.size:=by rw[aj,z];rfl
 have z2:(⟨#[120,34]⟩++dU v v.size++⟨#[34]⟩:ByteArray).size=3+2*v.size:=by rw[aj,z1];show 2+2*v.size+1=_;omega
 rw[z1]at a2;have a1:At s (i+2) (dU v v.size):=a1;have b2:ad s (i+(2+2*v.size))=34:=a2.b0 zd;have hle:=a2.1;have hle:i+(2+2*v.size)+1<=s.size:=hle;have hw:bn s eF (i+2)=i+2+2*v.size:=by
  refine xe zo (fun k hk=>?_) ?_
  ·rw[a1.2 k zo];unfold eF;refine gq ?_;obtain⟨h1,h2⟩:=EC v v.size (k/2) zo;rcases Nat.mod_two_eq_zero_or_one k with q|q
   ·rw[show k=2*(k/2) by omega,h1];omega
   ·rw[show k=2*(k/2)+1 by omega,h2];omega
  ·rw[show i+2+2*v.size=i+(2+2*v.size) by omega,b2];decide
 have hx:s.extract (i+2) (i+2+2*v.size)=dU v v.size:=by have:=a1.ext;rwa [z]at this
 subst hj;rw[z2];refine .one ⟨zo,zo,um (by rw[b0];decide),fun l c=>?_⟩;have e:cS s i (.mk 0 l c ⟨#[]⟩ ⟨#[]⟩ 0 0 (decide ((i:Int)=last)))=(true,i+(3+2*v.size),0,0,Tok.pU (.mk 0 l c ⟨#[]⟩ ⟨#[]⟩ 0 0 (decide ((i:Int)=last))) v):=by
  unfold cS;rw[ae ⟨b0,b1⟩];unfold mz
  rw[hw,hx,show i+2+2*v.size-(i+2)=2*v.size by omega,show 2*v.size/2=v.size by omega,KX v v.size (ao _),xb,show i+2+2*v.size=i+(2+2*v.size) by omega,b2,
   aa zo,aa zo,aa zo,aa zo,show i+(2+2*v.size)+1=i+(3+2*v.size) by omega]
 exact⟨_,_,e,rfl⟩
def Vt{v:ByteArray}(hz:v.size<=1024):Lit (sc 5 0 0 v) (⟨#[120,34]⟩++dU v v.size++⟨#[34]⟩):=by
 refine⟨fun jb=>⟨_,KT (t:=bq v jb) rfl (.inr rfl) fun x s e=>?_,(Vs hz jb).of fun _ _=>trivial,fun _ a u e=>by cases e;exact(zd:(4:Int)≠2)⟩,?_⟩
 ·have k:x.kind=4:=gx e;have e2:x.value=v:=(ak Tok.value e:x.z.value=_)
  unfold gR;rw[aa zo,aa zo,ae k,e2]
 ·rw[eB (by rw[aj];exact cf (zd:0<2) (io 2 _)),eB zd];decide
def oU(w u:Nat):List UInt8:=Lib.repeatL [48] (w-(Lib.decDigits u).length)++Lib.decDigits u
def KY{w u:Nat}(h:u<10^w)(hw:1<=w):(∀b∈oU w u,fj b)∧Lib.decFrom 0 (oU w u)=some u∧(oU w u).length=w:=by
 obtain⟨r1,r2,r3⟩:=Es (w-(Lib.decDigits u).length);refine⟨fun b hb=>?_,?_,?_⟩
 ·rcases gB.1 hb with h|h
  ·exact r1 b h
  ·exact k9 u b h
 ·unfold oU;rw[xq,r2];exact En u
 ·have:=Eo h hw;unfold oU;rw[du,r3];omega
def eJ(w u:Nat):ByteArray:=aA (oU w u)
def mH{w u:Nat}(h:u<10^w)(hw:1<=w):(eJ w u).size=w:=by unfold eJ;rw[gy];exact(KY h hw).2.2
def Vu{l r:List UInt8}{b:UInt8}{s:ByteArray}{i:Nat}(h:At s i (aA (b::r))):ad s i=b.toNat∧At s (i+1) (aA r):=by
 obtain⟨h1,h2⟩:=At.app (show At s i (aA [b]++aA r)from by rw[<- rU];exact h);exact⟨h1.b0 (by rw[gy];exact im),by have:(aA [b]).size=1:=gy _;rwa [this]at h2⟩
theorem KZ{s:ByteArray}:∀(l:List UInt8) (i a n:Nat),(∀b∈l,fj b)->At s i (aA l)->Lib.decFrom a l=some n->kw s l.length i (a:Int)=some (n:Int)
 | [],i,a,n,_,_,h=>by cases h;rfl
 | b::r,i,a,n,hd,ha,h=>by
  obtain⟨h1,h2⟩:=Vu (l:=[]) ha;have hb:=hd b dJ;unfold fj at hb;have hv:Lib.digitVal b=some (b.toNat-48):=by unfold Lib.digitVal;exact ae hb
  simp only[Lib.decFrom,hv]at h;show kw s (r.length+1) i a=_;simp only[kw];rw[ae zo,show 10*(a:Int)+(ad s i-48)=((a*10+(b.toNat-48):Nat):Int) by rw[h1];omega];exact KZ r (i+1) _ n (fun c hc=>hd c (cH _ hc)) h2 h
def AD(a r:ByteArray):(a++r).extract a.size (a++r).size=r:=by
 have h:At (a++r) a.size r:=by have:=(At.all (a++r)).app.2;rwa [eC]at this
 have:=h.ext
 rwa [<- aj]at this
def K0(a r:ByteArray):(a++r).extract 0 a.size=a:=by
 have:=(At.all (a++r)).app.1.ext
 rwa [eC]at this
def K3{w u:Nat}{r:ByteArray}(h:u<10^w)(hw:1<=w):gv w (eJ w u++r)=((u:Int),r,true):=by
 obtain⟨p1,p2,p3⟩:=KY h hw;have hz:=mH h hw;have hd:kw (eJ w u++r) w 0 0=some (u:Int):=by
  have:=KZ (s:=eJ w u++r) (oU w u) 0 0 u p1 (At.all _).app.1 p2
  rwa [p3]at this
 have hr:=AD (eJ w u) r;rw[hz]at hr;unfold gv;rw[aa (by rw[aj];omega),hd];dsimp only;rw[hr]
def K4(p r:ByteArray):eV (p++r) p=(r,true):=by
 have h:nP (p++r) p=true:=by
  unfold nP;rw[K0,gq rfl,Bool.and_true];exact gq (by rw[aj];omega)
 unfold eV;rw[ae h,AD]
def oV{p:ByteArray}{w u:Nat}{ms:List (ByteArray×Nat)}{l:List Int}{r:ByteArray}(h:u<10^w)(hw:1<=w):kx ((p,w)::ms) l (p++(eJ w u++r))=kx ms (l++[(u:Int)]) r:=by
 have h1:=K4 p (eJ w u++r);have h2:=K3 (r:=r) h hw;simp only[kx];rw[h1];dsimp only;rw[h2];rfl
def Vv(a:ByteArray):(⟨#[]⟩:ByteArray)++a=a:=x7
def oW(a:ByteArray):a++(⟨#[]⟩:ByteArray)=a:=FN
def ld(y m d:Nat):ByteArray:=eJ 4 y++⟨#[45]⟩++eJ 2 m++⟨#[45]⟩++eJ 2 d
def K5(y m d:Nat)(r:ByteArray):ld y m d++r=⟨#[]⟩++(eJ 4 y++(⟨#[45]⟩++(eJ 2 m++(⟨#[45]⟩++(eJ 2 d++r))))):=by
 unfold ld;rw[Vv];simp only[ee]
def Vw{y m d:Nat}(hy:y<10^4)(hm:m<10^2)(hd:d<10^2):lZ (ld y m d)=jG y m d:=by
 have h:dK lq (ld y m d)=([(y:Int),(m:Int),(d:Int)],⟨#[]⟩,true):=by
  unfold dK lq;rw[<- oW (ld y m d),K5,oV hy zd,oV hm zd,oV hd zd];rfl
 unfold lZ;rw[h];exact aa zsi
def nG(k:Nat):ByteArray:=if k=0 then⟨#[90]⟩else⟨#[46]⟩++eJ 3 k++⟨#[90]⟩
def qt(y m d h n s k:Nat):ByteArray:=ld y m d++⟨#[84]⟩++eJ 2 h++⟨#[58]⟩++eJ 2 n++⟨#[58]⟩++eJ 2 s++nG k
def Vx{k:Nat}(hk:k<10^3):qN (nG k)=some ((k:Int),⟨#[90]⟩):=by
 unfold nG;rcases sF k with h|h
 ·subst h;have e:eV ⟨#[90]⟩ ⟨#[46]⟩=(⟨#[90]⟩,false):=by decide
  rw[ae rfl];unfold qN;rw[e];rfl
 ·rw[aa zo,ee];have e:=K4 ⟨#[46]⟩ (eJ 3 k++⟨#[90]⟩);have e2:=K3 (r:=⟨#[90]⟩) hk zd;unfold qN;rw[e];dsimp only;rw[e2,ae rfl];dsimp only;rw[aa];rintro(q|q)
  ·cases q
  ·omega
def Vy{y m d h n s k:Nat}(hy:y<10^4)(hm:m<10^2)(hd:d<10^2)(hh:h<24)(hn:n<60)(hs:s<60)(hk:k<1000)(Vz:(jG y m d).2=0):l7 (qt y m d h n s k)=pn (jG y m d).1 (((60*(h:Int)+n)*60+s)*1000+k):=by
 have e:dK ky (qt y m d h n s k)=([(y:Int),(m:Int),(d:Int),(h:Int),(n:Int),(s:Int)],nG k,true):=by
  unfold dK ky;have:qt y m d h n s k=ld y m d++(⟨#[84]⟩++(eJ 2 h++(⟨#[58]⟩++(eJ 2 n++(⟨#[58]⟩++(eJ 2 s++nG k)))))):=by unfold qt;simp only[ee]
  rw[this,K5,oV hy zd,oV hm zd,oV hd zd,oV zo zd,oV zo zd,oV zo zd];rfl
 unfold l7;rw[e,Vx hk];refine(aa zsi).trans ?_;show po (jG (y:Int) (m:Int) (d:Int)) (h:Int) (n:Int) (s:Int) (some ((k:Int),⟨#[90]⟩))=_;unfold po;dsimp only;rw[aa zsi,aa (by rw[Vz];rintro(q|q|q|q)<;>omega)]
theorem K6:∀(m:Nat) (l:List UInt8),l.length<=m->(∀b∈l,b.toNat<128)->Lib.validGoD m l=true
 | 0,_,_,_=>rfl
 | m+1,l,hm,h=>by
  simp only[Lib.validGoD];cases l with
  | nil=>rfl
  | cons b r=>
   have hb:=h b dJ;have e:Lib.decodeL (b::r)=(b.toNat,1):=by
    have hs:0<(aA (b::r)).size:=by rw[gy];exact Nat.succ_pos _
    have h0:ad (aA (b::r)) 0=b.toNat:=rfl;have:=Ey (v:=aA (b::r)) (q:=0) hs (by rw[h0];omega);rw[h0]at this;exact this
   rw[e,aa zsi,aa (by rintro⟨q,_⟩;have:b.toNat=65533:=q;omega)];exact K6 m r (by simpa using hm) fun c hc=>h c (cH _ hc)
def K7{t:ByteArray}(h:Asc t):Lib.validD t.data.toList=true:=K6 _ _ (ao _) h
def rY(w u:Nat):Asc (eJ w u):=by
 intro b hb;have hb:b∈oU w u:=hb;have hd:fj b:=by
  rcases gB.1 hb with h|h
  ·exact(Es _).1 b h
  ·exact k9 u b h
 unfold fj at hd;omega
def asc_one{c:UInt8}(h:c.toNat<128):Asc ⟨#[c]⟩:=by
 intro b hb;have:b=c:=dD.1 hb;rw[this];exact h
def K8(y m d:Nat):Asc (ld y m d):=((((rY _ _).app (asc_one zd)).app (rY _ _)).app (asc_one zd)).app (rY _ _)
def VA(y m d h n s k:Nat):Asc (qt y m d h n s k):=by
 have hm:Asc (nG k):=by
  unfold nG;split
  ·exact asc_one zd
  ·exact((asc_one zd).app (rY _ _)).app (asc_one zd)
 exact((((((((K8 _ _ _).app (asc_one zd)).app (rY _ _)).app (asc_one zd)).app (rY _ _)).app (asc_one zd)).app (rY _ _))).app hm
def K9{w t:ByteArray}{v:V}(hw:bI kW w=true)(hl:0<w.size∧bJ (ad w 0)=true∧(∀j,j<w.size->cx (ad w j)=true)∧w.size<=64)(hv:Lib.validD t.data.toList=true)(hz:t.size<=1024)
 (hF:∀s:St,(s.fS 3).value=t->jx w s=(v,s.take 3)):Lit v (w++fg++kq t):=by
 refine⟨fun jb=>⟨[wd w jb,tq t false],KU rfl hw fun A x a B ln cl e hA=>?_,(((oO hl.1 hl.2.1 hl.2.2.1 hl.2.2.2 jb).oM (KQ hv hz false) zsi zd).of fun _ _=>trivial),fun _ a u e=>by cases e;exact(zd:(1:Int)≠2)⟩,?_⟩
 ·obtain⟨c,A1,rfl,e1,e2⟩:=map_cons hA;have:=map_nil e2;subst this;have hk:x.kind=1:=gx e;have ht:x.text=w:=ic e;have hck:c.kind=3:=gx e1;have hcv:c.value=t:=(ak Tok.value e1:c.z.value=_)
  have htk:(ar ([c]++a::B) ln cl).takes 3=true:=by
   unfold St.takes;rw[show(ar ([c]++a::B) ln cl).ok=true from xf,show(ar ([c]++a::B) ln cl).peek=c from eR,hck];rfl
  have h1:(ar ([c]++a::B) ln cl).fS 3=c:=(ae htk).trans eR;have h2:(ar ([c]++a::B) ln cl).take 3=ar (a::B) ln cl:=(ae htk).trans (iA zsi);rw[KV hk,ht,hF _ (by rw[h1];exact hcv),h2]
 ·have h2:=hl.2.1;rw[eB (by rw[aj];omega),eB hl.1];unfold bJ at h2;simp only[cX]at h2;omega
def VB{t:ByteArray}{n:Int}(ha:Asc t)(hz:t.size<=1024)(h:lZ t=(n,0)):Lit (sc 6 n 0 ⟨#[]⟩) (qr++fg++kq t):=by
 refine K9 zd ⟨zd,zd,zd,zd⟩ (K7 ha) hz fun s hs=>?_;unfold jx;rw[ae rfl,hs,h,lc]
def VD{t:ByteArray}{n:Int}(ha:Asc t)(hz:t.size<=1024)(h:l7 t=(n,0)):Lit (sc 7 n 0 ⟨#[]⟩) (oR++fg++kq t):=by
 refine K9 zd ⟨zd,zd,zd,zd⟩ (K7 ha) hz fun s hs=>?_;unfold jx;rw[aa zd,ae rfl,hs,h,lc]
def rZ(w:ByteArray):Prop:=0<w.size∧w.size<=32∧bJ (ad w 0)=true∧∀j,j<w.size->cx (ad w j)=true
inductive ie:ByteArray->List Tok->Prop
 | nil:ie ⟨#[]⟩ []
 | nm {w r:ByteArray} {L:List Tok} {c:UInt8}:c=46∨c=63->rZ w->ie r L->ie (⟨#[c]⟩++(w++r)) (sy ⟨#[c]⟩ true::wd w true::L)
 | all {r:ByteArray} {L:List Tok}:ie r L->ie (⟨#[91]⟩++(⟨#[42]⟩++(⟨#[93]⟩++r))) (sy kf true::sy ⟨#[42]⟩ true::sy ⟨#[93]⟩ true::L)
 | num {u:Nat} {r:ByteArray} {L:List Tok}:u<256->ie r L->ie (⟨#[91]⟩++(aA (Lib.decDigits u)++(⟨#[93]⟩++r))) (sy kf true::nu (aA (Lib.decDigits u)) u 0 true::sy ⟨#[93]⟩ true::L)
def AE(c:Int):Prop:=dT c∨c=46∨c=63∨c=91
def AE.word{c:Int}(h:AE c):cx c=false∧c≠34:=by
 rcases h with h|rfl|rfl|rfl
 ·exact h.word
 ·exact⟨zd,zd⟩
 ·exact⟨zd,zd⟩
 ·exact⟨zd,zd⟩
def ED{t:ByteArray}{L:List Tok}(h:ie t L):t=⟨#[]⟩∧L=[]∨0<t.size∧L≠[]∧(ad t 0=46∨ad t 0=63∨ad t 0=91):=by
 cases h with
 | nil=>exact .inl ⟨rfl,rfl⟩
 | nm hc _ _=>exact .inr ⟨by rw[aj];exact cf im (io 1 _),zsi,by rw[eB (by exact im)];rcases hc with rfl|rfl<;>decide⟩
 | all _=>exact .inr ⟨by rw[aj];exact cf im (io 1 _),zsi,by rw[eB (by exact im)];decide⟩
 | num _ _=>exact .inr ⟨by rw[aj];exact cf im (io 1 _),zsi,by rw[eB (by exact im)];decide⟩
def EE{w:ByteArray}(h:rZ w)(jb:Bool):bd AE w [wd w jb] jb:=(oO h.1 h.2.2.1 h.2.2.2 (aG h.2.1 zd) jb).of fun _ q=>q.word
def VE(jb:Bool):bd (fun d=>d≠46) ⟨#[46]⟩ [sy ⟨#[46]⟩ jb] jb:=by
 intro s i last ha hf hj;have hb:ad s i=46:=ha.b0 im;have h1:ad s (i+1)≠46:=hf;subst hj;refine .one (Ea ha zd ?_ _);unfold gM;rw[hb];simp[h1]
def VF{t:ByteArray}{L:List Tok}(h:ie t L):L≠[]->bd dT t L true:=by
 have key:∀{r:ByteArray} {L:List Tok},(L≠[]->bd dT r L true)->ie r L->∀{t:ByteArray} {M:List Tok} {jb:Bool},bd AE t M jb->bd dT (t++r) (M++L) jb:=fun{r L} ih hr {t M jb} ht=>by
  rcases ED hr with⟨rfl,rfl⟩|⟨h0,h1,hb⟩
  ·rw[oW,uS];exact ht.of fun _=>.inl
  ·exact ht.cat (ih h1) h0 (.inr hb)
 induction h with
 | nil=>exact fun q=>absurd rfl q
 | @nm w r L c hc hw hr ih=>
  intro _;have hb:ad (w++r) 0=ad w 0:=eB hw.1;have hl:=hw.2.2.1;unfold bJ at hl;simp only[cX]at hl;have g:=key ih hr (EE hw true);have hz:0<(w++r).size:=by rw[aj];have:=hw.1;omega
  rcases hc with rfl|rfl
  ·exact(VE true).cat g hz (by rw[hb];omega)
  ·exact(nF (c:=63) zd zd true).cat g hz trivial
 | @all r L hr ih=>
  intro _;have g:=key ih hr ((nF (c:=93) zd zd true).of fun _ _=>trivial);exact(nF (c:=91) zd zd true).cat ((nF (c:=42) zd zd true).cat g (by rw[aj];exact cf im (io 1 _)) trivial) (by rw[aj];exact cf im (io 1 _)) trivial
 | @num u r L hu hr ih=>
  intro _;have g:=key ih hr ((nF (c:=93) zd zd true).of fun _ _=>trivial);have hn:bd (fun c=>bD c=false∧c≠46∧c≠100∧cx c=false) (aA (Lib.decDigits u)) [nu (aA (Lib.decDigits u)) u 0 true] true:=by
   have:=KE (d:=false) (qp u) (k9 u) Az (Ax (Nat.lt_trans hu zd)) true
   rwa [show(if false=true then(⟨#[100]⟩:ByteArray)else⟨#[]⟩)=⟨#[]⟩from rfl,oW]at this
  have hb:ad (⟨#[93]⟩++r) 0=93:=(eB (a:=⟨#[93]⟩) im).trans zd;exact(nF (c:=91) zd zd true).cat (hn.cat g (by rw[aj];exact cf im (io 1 _)) (by rw[hb];decide)) (by rw[aj];have:=AA (qp u);omega) trivial
def VG{w r:ByteArray}{L:List Tok}(hw:rZ w)(hr:ie r L)(jb:Bool):bd dT (w++r) (wd w jb::L) jb:=by
 rcases ED hr with⟨rfl,rfl⟩|⟨h0,h1,hb⟩
 ·rw[oW];exact(EE hw jb).of fun _=>.inl
 ·exact(EE hw jb).cat (VF hr h1) h0 (.inr hb)
def VH{acc:ByteArray}{a:Tok}{B:List Tok}{ln cl:Int}(h:nA a=false):iC acc (ar (a::B) ln cl)=none:=by
 unfold iC;rw[eR,dS,dS,dS];unfold nA at h;cases q:a.joined with
 | false=>rw[ae (.inr rfl)]
 | true=>
  rw[q,xU]at h;simp only[Bool.or_eq_false_iff]at h;rw[aa (by rintro(k|k);exact k rfl;cases k),h.1.1,h.1.2,h.2];simp
def xw{p:Tok->Bool}{a:Tok}{l:List Tok}{ln cl:Int}(hj:a.joined=true)(hp:p a=true)(hl:l≠[]):jF p (ar (a::l) ln cl)=(a.text,ar l ln cl):=by
 unfold jF;rw[eR,aa (by rw[hj,hp];simp),iA hl]
def VI{t:ByteArray}{L:List Tok}(h:ie t L):∀(acc:ByteArray) (A:List Tok) (a:Tok) (B:List Tok) (ln cl:Int) (n:Nat),A.map Tok.z=L->nA a=false->L.length<n->eK n acc (ar (A++a::B) ln cl)=(acc++t,ar (a::B) ln cl):=by
 induction h with
 | nil=>
  intro acc A a B ln cl n hA ha hn;have:=map_nil hA;subst this;obtain⟨k,rfl⟩:∃k,n=k+1:=⟨n-1,by simp at hn;omega⟩
  simp only[eK];rw[show iC acc (ar ([]++a::B) ln cl)=none from VH ha,oW];rfl
 | @nm w r L c hc hw hr ih=>
  intro acc A a B ln cl n hA ha hn;obtain⟨x,A1,rfl,e1,e2⟩:=map_cons hA;obtain⟨y,A2,rfl,e3,e4⟩:=map_cons e2;simp only[bp]at hn;obtain⟨k,rfl⟩:∃k,n=k+1:=⟨n-1,zo⟩
  have hj:x.joined=true:=mG e1;have hx:(ar (x::y::(A2++a::B)) ln cl).aH oH=true∨(ar (x::y::(A2++a::B)) ln cl).aH nB=true:=by
   rw[dS,dS,xg,e1,xg (t:=nB),e1];rcases hc with rfl|rfl
   ·exact .inl zd
   ·exact .inr zd
  have hy:jF lf (ar (y::(A2++a::B)) ln cl)=(w,ar (A2++a::B) ln cl):=by
   have:=xw (p:=lf) (l:=A2++a::B) (ln:=ln) (cl:=cl) (mG e3:y.joined=true) (by unfold lf;rw[gx e3];rfl) zsi;rw[this,show y.text=w from ic e3]
  have hP:iC acc (ar (x::y::(A2++a::B)) ln cl)=some (acc++(⟨#[c]⟩++w),ar (A2++a::B) ln cl):=by
   unfold iC;rw[eR,aa (by rw[hj];rintro(q|q);exact q rfl;cases q),ae hx,iA zsi,hy,show x.text=⟨#[c]⟩from ic e1]
  show eK (k+1) acc (ar (x::y::(A2++a::B)) ln cl)=_;simp only[eK];rw[hP];dsimp only;rw[ih _ A2 a B ln cl k e4 ha zo];simp only[ee]
 | @all r L hr ih=>
  intro acc A a B ln cl n hA ha hn;obtain⟨x,A1,rfl,e1,e2⟩:=map_cons hA;obtain⟨y,A2,rfl,e3,e4⟩:=map_cons e2;obtain⟨z,A3,rfl,e5,e6⟩:=map_cons e4;simp only[bp]at hn;obtain⟨k,rfl⟩:∃k,n=k+1:=⟨n-1,zo⟩
  have hj:x.joined=true:=mG e1;have n1:(ar (x::y::z::(A3++a::B)) ln cl).aH oH=false:=dS.trans (oK e1 zd);have n2:(ar (x::y::z::(A3++a::B)) ln cl).aH nB=false:=dS.trans (oK e1 zd);have n3:(ar (x::y::z::(A3++a::B)) ln cl).aH kf=true:=dS.trans (eT e1 zd);have hy:jF fo (ar (y::z::(A3++a::B)) ln cl)=(⟨#[42]⟩,ar (z::(A3++a::B)) ln cl):=by
   have:=xw (p:=fo) (l:=z::(A3++a::B)) (ln:=ln) (cl:=cl) (mG e3:y.joined=true) (by unfold fo;rw[gx e3,ic e3];rfl) zsi;rw[this,show y.text=⟨#[42]⟩from ic e3]
  have hz:jF iD (ar (z::(A3++a::B)) ln cl)=(⟨#[93]⟩,ar (A3++a::B) ln cl):=by
   have:=xw (p:=iD) (l:=A3++a::B) (ln:=ln) (cl:=cl) (mG e5:z.joined=true) (by unfold iD;rw[gx e5,ic e5];rfl) zsi;rw[this,show z.text=⟨#[93]⟩from ic e5]
  have hP:iC acc (ar (x::y::z::(A3++a::B)) ln cl)=some (acc++kf++⟨#[42]⟩++⟨#[93]⟩,ar (A3++a::B) ln cl):=by
   unfold iC;rw[eR,aa (by rw[hj];rintro(q|q);exact q rfl;cases q),n1,n2,aa zsi,ae n3,iA zsi,hy];dsimp only;rw[hz,show x.text=kf from ic e1]
  show eK (k+1) acc (ar (x::y::z::(A3++a::B)) ln cl)=_;simp only[eK];rw[hP];dsimp only;rw[ih _ A3 a B ln cl k e6 ha zo];simp only[ee];rfl
 | @num u r L hu hr ih=>
  intro acc A a B ln cl n hA ha hn;obtain⟨x,A1,rfl,e1,e2⟩:=map_cons hA;obtain⟨y,A2,rfl,e3,e4⟩:=map_cons e2;obtain⟨z,A3,rfl,e5,e6⟩:=map_cons e4;simp only[bp]at hn;obtain⟨k,rfl⟩:∃k,n=k+1:=⟨n-1,zo⟩
  have hj:x.joined=true:=mG e1;have n1:(ar (x::y::z::(A3++a::B)) ln cl).aH oH=false:=dS.trans (oK e1 zd);have n2:(ar (x::y::z::(A3++a::B)) ln cl).aH nB=false:=dS.trans (oK e1 zd);have n3:(ar (x::y::z::(A3++a::B)) ln cl).aH kf=true:=dS.trans (eT e1 zd);have hy:jF fo (ar (y::z::(A3++a::B)) ln cl)=(aA (Lib.decDigits u),ar (z::(A3++a::B)) ln cl):=by
   have:=xw (p:=fo) (l:=z::(A3++a::B)) (ln:=ln) (cl:=cl) (mG e3:y.joined=true) (by unfold fo;rw[gx e3];rfl) zsi;rw[this,show y.text=aA (Lib.decDigits u)from ic e3]
  have hz:jF iD (ar (z::(A3++a::B)) ln cl)=(⟨#[93]⟩,ar (A3++a::B) ln cl):=by
   have:=xw (p:=iD) (l:=A3++a::B) (ln:=ln) (cl:=cl) (mG e5:z.joined=true) (by unfold iD;rw[gx e5,ic e5];rfl) zsi;rw[this,show z.text=⟨#[93]⟩from ic e5]
  have hP:iC acc (ar (x::y::z::(A3++a::B)) ln cl)=some (acc++kf++aA (Lib.decDigits u)++⟨#[93]⟩,ar (A3++a::B) ln cl):=by
   unfold iC;rw[eR,aa (by rw[hj];rintro(q|q);exact q rfl;cases q),n1,n2,aa zsi,ae n3,iA zsi,hy];dsimp only;rw[hz,show x.text=kf from ic e1]
  show eK (k+1) acc (ar (x::y::z::(A3++a::B)) ln cl)=_;simp only[eK];rw[hP];dsimp only;rw[ih _ A3 a B ln cl k e6 ha zo];simp only[ee];rfl
def VJ{pe:ByteArray->Int}{w r:ByteArray}{L:List Tok}{jb:Bool}(hw:rZ w)(hr:ie r L)(hres:dQ w=false)(hpe:pe (w++r)=0):PR pe (w++r) (wd w jb::L):=by
 refine⟨⟨_,_,rfl,rfl,hres,fun e=>?_⟩,fun A a B ln cl hA ha=>?_⟩
 ·have:=hw.2.2.1;rw[show w=bP from e]at this;exact absurd this zd
 obtain⟨x,A1,rfl,e1,e2⟩:=map_cons hA;have hk:x.kind=1:=gx e1;have ht:x.text=w:=ic e1;have hlen:L.length<(x::A1++a::B).length:=by
  have:=ak List.length e2;rw[kr]at this;simp only[pg,bp,du];omega
 have h:=VI hr w A1 a B ln cl _ e2 ha hlen;have hf:(ar (a::B) ln cl).fail (pe (w++r))=ar (a::B) ln cl:=by rw[hpe,lc]
 unfold dN;rw[aa (by show¬(0:Int)≠0;simp),show(ar (x::A1++a::B) ln cl).peek=x from eR,aa (by rw[hk,ht,hres];simp),show(ar (x::A1++a::B) ln cl).next=ar (A1++a::B) ln cl from iA zsi,ht,show(ar (x::A1++a::B) ln cl).l.length=(x::A1++a::B).length from rfl,h];dsimp only;rw[hf,aa (by show¬(0:Int)≠0;simp),aa (by show¬(0:Int)≠0;simp)]
def La{w:ByteArray}(h:isName w=true):rZ w:=by
 obtain⟨h1,h2,h3,h4⟩:=(Dt w).1 h;refine⟨h1,h2,?_,fun j hj=>?_⟩
 ·unfold bJ;exact gq zo
 ·have:=h4 j hj;unfold rl at this;unfold cx bJ bD;simp only[eU,az,cX,dv]at this ⊢;omega
def Lb{s:ByteArray}{a:Nat}(h0:0<s.size)(h1:1<=a)(h2:a<=s.size):s=s.extract 0 1++(s.extract 1 a++s.extract a s.size):=by
 rw[qn h1 h2 (ao _),qn zo zo (ao _),xb]
def EF{s:ByteArray}{c:UInt8}(h0:0<s.size)(h:ad s 0=c.toNat):s.extract 0 1=⟨#[c]⟩:=Aj h0 h
def VK{s:ByteArray}(h:(cY s ja).2.2=true):s=(cY s ja).1++(⟨#[93]⟩++(cY s ja).2.1):=by
 unfold cY at h ⊢;have hr:ja.data.toList=[93]:=rfl;rw[hr]at h ⊢;unfold Lib.cut at h ⊢;rcases Lib.index_spec s.data.toList [93]with⟨h1,_⟩|⟨i,h1,h2,h3,_⟩
 ·rw[h1,aa zd]at h;cases h
 ·rw [h1,ae zo];have hp:[(93:UInt8)] <+: s.data.toList.drop i:=FM.1 h3;obtain⟨r,hr⟩:=hp;have e:s.data.toList=s.data.toList.take i++([93]++s.data.toList.drop (i+1)):=by
   have:s.data.toList.drop (i+1)=r:=by
    rw[<- uR,<- hr];rfl
   rw[this,hr,FL]
  refine gp (mR ?_);rw[iF,iF,ph,ph];dsimp only;exact e
def VL{s:ByteArray}(h:dp s allT=true):s=⟨#[91]⟩++(⟨#[42]⟩++(⟨#[93]⟩++s.extract 3 s.size)):=by
 have h1:allT.data.toList <+: s.data.toList:=FM.1 h;obtain⟨r,hr⟩:=h1;have e:(s.extract 3 s.size).data.toList=r:=by rw[z6,<- hr];rfl
 refine gp (mR ?_);rw[iF,iF,iF,ph,ph,ph,e,<- hr];rfl
def VM{s:ByteArray}(h0:0<s.size)(ht:(fe s).2.2=true)(hv:mI (fe s).1=true){L:List Tok}(hr:ie (fe s).2.1 L):∃M,ie s M:=by
 have hb:=AF (s:=s) (i:=1) h0;unfold fe at ht hv hr;by_cases c1:dp s allT=true
 ·rw[ae c1]at hr;rw[VL c1];exact⟨_,.all hr⟩
 rw[aa c1]at ht hv hr;by_cases c2:ad s 0=46
 ·rw[ae c2]at hv hr;unfold mI at hv;rw[ae (.inl rfl),az]at hv;rw[Lb (a:=(endP s 1).toNat) h0 zo zo,EF (c:=46) h0 c2];exact⟨_,.nm (.inl rfl) (La hv.2) hr⟩
 rw[aa c2]at ht hv hr;by_cases c3:ad s 0=63
 ·rw[ae c3]at hv hr;unfold mI at hv;rw[ae (.inr rfl),az]at hv;rw[Lb (a:=(endP s 1).toNat) h0 zo zo,EF (c:=63) h0 c3];exact⟨_,.nm (.inr rfl) (La hv.2) hr⟩
 rw[aa c3]at ht hv hr;simp only[az,cX]at ht;obtain⟨t1,t2,t3,t4⟩:=ht;unfold mI at hv;rw[aa (by show¬((2:Int)=1∨(2:Int)=4);decide),ae rfl]at hv;simp only[az,cX]at hv;obtain⟨_,v1,v2⟩:=hv;have e1:s=⟨#[91]⟩++s.extract 1 s.size:=by
  have:=qn (s:=s) (i:=0) (j:=1) (k:=s.size) zo zo (ao _);rw[EF (c:=91) h0 t1,xb]at this;exact this.symm
 have e2:=VK t2;obtain⟨u,hu⟩:∃u:Nat,(dy (cY (s.extract 1 s.size) ja).1).1=(u:Int):=⟨(dy (cY (s.extract 1 s.size) ja).1).1.toNat,zo⟩
 rw[hu]at t4 v2;rw[e1,e2,<- t4,rV];exact⟨_,.num zo hr⟩
theorem Lc:∀(n:Nat) (l:List dL) (r:ByteArray) (L:List dL),r.size<n->kX n l r=some L->∃M,ie r M
 | 0,_,_,_,h,_=>absurd h (uO _)
 | n+1,l,r,L,hn,h=>by
  rw[kX]at h;split at h
  ·rename_i q;rw[q];exact⟨_,.nil⟩
  ·rename_i q;split at h
   ·cases h
   ·rename_i q2;have h0:0<r.size:=EG q;have hl:=Ld h0;obtain⟨M,hM⟩:=Lc n _ _ L zo h;have t1:(fe r).2.2=true:=by cases e:(fe r).2.2 with
     | true=>rfl
     | false=>exact absurd (.inl e) q2
    have t2:mI (fe r).1=true:=by cases e:mI (fe r).1 with
     | true=>rfl
     | false=>exact absurd (.inr e) q2
    exact VM h0 t1 t2 hM
def Le{s:ByteArray}(h:(cr s).2=0):∃w r L,s=w++r∧rZ w∧ie r L:=by
 unfold cr at h;by_cases c1:s=⟨#[]⟩
 ·rw[ae c1]at h;exact absurd h (by dsimp only;decide)
 rw[aa c1]at h;by_cases c2:200<s.size
 ·rw[ae c2]at h;exact absurd h (by dsimp only;decide)
 rw[aa c2]at h;cases e:kX 202 [] (⟨#[46]⟩++s)with
 | none=>rw[e]at h;exact absurd h (by dsimp only;decide)
 | some l=>
  have hz:(⟨#[46]⟩++s:ByteArray).size=1+s.size:=aj;obtain⟨M,hM⟩:=Lc 202 [] _ l zo e;generalize hg:(⟨#[46]⟩++s:ByteArray)=t at hM;have hb:ad t 0=46:=by rw[<- hg];exact(eB (a:=⟨#[46]⟩) im).trans zd
  cases hM with
  | nil=>exact absurd hb zd
  | @nm w r L c hc hw hr=>
   have:s=w++r:=by
    have e1:=AD ⟨#[46]⟩ s;have e2:=AD ⟨#[c]⟩ (w++r);rw[hg]at e1;exact e1.symm.trans e2
   exact⟨w,r,L,this,hw,hr⟩
  | all _=>exact absurd ((eB (a:=⟨#[91]⟩) im).symm.trans hb) zd
  | num _ _=>exact absurd ((eB (a:=⟨#[91]⟩) im).symm.trans hb) zd
def VN{w r:ByteArray}{L:List Tok}(hw:rZ w)(hr:ie r L):iV (w++r)=w:=by
 have hno:∀b∈w.data.toList,fR.data.toList.contains b=false:=fun b hb=>by
  obtain⟨j,hj⟩:=List.mem_iff_getElem?.1 hb;have hj2:j<w.size:=by obtain⟨k,_⟩:=bX.1 hj;rwa [fY]at k
  have hp:=hw.2.2.2 j hj2;have e:ad w j=b.toNat:=by
   unfold ad;rw[qw]at hj;rw[hj];rfl
  rw[e]at hp;cases q:fR.data.toList.contains b with
  | false=>rfl
  | true=>
   have:b=46∨b=91∨b=63:=by simpa[fR]using q
   rcases this with rfl|rfl|rfl<;>exact absurd hp zd
 have key:∀(l m:List UInt8),(∀b∈l,fR.data.toList.contains b=false)->Lib.indexAny (l++m) fR.data.toList=if Lib.indexAny m fR.data.toList = -1 then -1 else Lib.indexAny m fR.data.toList+l.length:=by
  intro l
  induction l with
  | nil=>intro m _;split<;>simp_all
  | cons b l ih=>
   intro m h;have h1:=ih m (fun c hc=>h c (cH _ hc));have hge:=Lib.indexAny_ge fR.data.toList m;simp only[pg,Lib.indexAny];rw[h b dJ,h1];by_cases q:Lib.indexAny m fR.data.toList = -1
   ·rw[ae q];simp[q]
   ·rw[aa q];have:(Lib.indexAny m fR.data.toList+(l.length:Int) == -1)=false:=by rw[uT];omega
    simp only[jc,dg,this,q,bp];omega
 have hk:=key w.data.toList r.data.toList hno;have hx:iw (w++r)=if Lib.indexAny r.data.toList fR.data.toList = -1 then -1 else Lib.indexAny r.data.toList fR.data.toList+(w.size:Int):=by
  unfold iw;rw[iF,ph,hk,fY];rfl
 unfold iV;rcases ED hr with⟨rfl,_⟩|⟨h0,_,hb⟩
 ·have e:iw (w++⟨#[]⟩) = -1:=hx.trans (ae zd);rw[e];refine(aa zd).trans (oW w)
 ·have h1:Lib.indexAny r.data.toList fR.data.toList=0:=by
   obtain⟨b,hd,hbb⟩:=qg h0;rw[xO]at hd;rw[hd];simp only[Lib.indexAny];have:fR.data.toList.contains b=true:=by
    have:b=46∨b=63∨b=91:=by
     rcases hb with q|q|q
     ·exact .inl (ji.1 (by show b.toNat=46;omega))
     ·exact .inr (.inl (ji.1 (by show b.toNat=63;omega)))
     ·exact .inr (.inr (ji.1 (by show b.toNat=91;omega)))
    rcases this with rfl|rfl|rfl<;>decide
   rw[this];rfl
  have e:iw (w++r)=(w.size:Int):=by rw[hx,h1];exact(aa zd).trans zo
  rw[e,ae zo,bu,K0]
def EH{s:ByteArray}(h:(cr s).2=0)(hr:dQ (iV s)=false)(jb:Bool):∃L,PR (fun t=>(cr t).2) s L∧bd dT s L jb:=by
 obtain⟨w,r,L,rfl,hw,hp⟩:=Le h;rw[VN hw hp]at hr;exact⟨_,VJ (jb:=jb) hw hp hr h,VG hw hp jb⟩
end Go.Ai
