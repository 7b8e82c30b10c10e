/- Printed texts: where parts of a text stand, and the tokens from there on. -/
import Derived.Test.YtbagpkiomjlhkaaGreatDoorRdI
import Derived.Test.YtbagpkiomjlhkaaGreatDoorMdR
import Derived.Test.YtbagpkiomjlhkaaGreatDoorTxD
import Derived.Test.YtbagpkiomjlhkaaGreatDoorHid
import Derived.Test.YtbagpkiomjlhkaaGreatDoorChkA
import Derived.Test.YtbagpkiomjlhkaaGreatDoorLit
import Derived.Test.YtbagpkiomjlhkaaGreatDoorValB
set_option linter.all false
namespace Go.Ai
open Go
set_option maxRecDepth 100000
set_option maxHeartbeats 4000000
def Kf{a b:ByteArray}(h:a.size=b.size)(hb:∀k,k<a.size->ad a k=ad b k):a=b:=by
 refine gp (sB h fun k h1 h2=>?_);have:=hb k h1;unfold ad at this;rw[dC h1,dC h2]at this;simp only[qF]at this;exact ji.1 zo
def At(s:ByteArray)(i:Nat)(t:ByteArray):Prop:=i+t.size<=s.size∧∀k,k<t.size->ad s (i+k)=ad t k
def At.app{s a b:ByteArray}{i:Nat}(h:At s i (a++b)):At s i a∧At s (i+a.size) b:=by
 obtain⟨h1,h2⟩:=h;rw[aj]at h1 h2;refine⟨⟨zo,fun k hk=>?_⟩,zo,fun k hk=>?_⟩
 ·have:=h2 k zo;rw[lV,ae hk]at this;exact this
 ·have:=h2 (a.size+k) zo;rw[lV,aa zo,show a.size+k-a.size=k by omega]at this;rw[ik];exact this
def At.ext{s t:ByteArray}{i:Nat}(h:At s i t):s.extract i (i+t.size)=t:=by
 have hz:(s.extract i (i+t.size)).size=t.size:=by rw[dh];have:=h.1;omega
 refine Kf hz fun k hk=>?_;rw[hz]at hk;rw[qh zo h.1];exact h.2 k hk
def At.all(s:ByteArray):At s 0 s:=⟨zo,fun k _=>by rw[eC]⟩
def At.b0{s t:ByteArray}{i:Nat}(h:At s i t)(h0:0<t.size):ad s i=ad t 0:=by have:=h.2 0 h0;rwa [fE]at this
def Tok.z(t:Tok):Tok:=.mk t.kind 0 0 t.text t.value t.num t.scale t.joined
def sy(t:ByteArray)(jb:Bool):Tok:=.mk 5 0 0 t ⟨#[]⟩ 0 0 jb
def wd(t:ByteArray)(jb:Bool):Tok:=.mk 1 0 0 t ⟨#[]⟩ 0 0 jb
structure Tk(s:ByteArray)(j:Nat)(jb:Bool)(t:Tok)(k:Nat):Prop where
 lt:j<k
 le:k<=s.size
 bl:dR s j=j
 m:∀l c,∃w u,cS s j (.mk 0 l c ⟨#[]⟩ ⟨#[]⟩ 0 0 jb)=(true,k,w,0,u)∧u.z=t
inductive Lx(s:ByteArray):Nat->Int->List Tok->Nat->Int->Prop
 | nil {i:Nat} {last:Int}:Lx s i last [] i last
 | cons {i j k m:Nat} {last e:Int} {t:Tok} {L:List Tok}:i<=j->dR s i=j->Tk s j (decide ((j:Int)=last)) t k->Lx s k k L m e->Lx s i last (t::L) m e
def Lx.app{s:ByteArray}{i j k:Nat}{last e f:Int}{L M:List Tok}(h:Lx s i last L j e)(g:Lx s j e M k f):Lx s i last (L++M) k f:=by
 induction h with
 | nil=>exact g
 | cons h1 h2 h3 _ ih=>exact .cons h1 h2 h3 (ih g)
def Lx.one{s:ByteArray}{i k:Nat}{last:Int}{t:Tok}(h:Tk s i (decide ((i:Int)=last)) t k):Lx s i last [t] k k:=.cons (ao _) h.bl h .nil
def Lx.len{s:ByteArray}{i k:Nat}{last e:Int}{L:List Tok}(h:Lx s i last L k e):i+L.length<=k∧(L≠[]->k<=s.size):=by
 induction h with
 | nil=>exact⟨ao _,fun h=>absurd rfl h⟩
 | @cons i j k m last e t L h1 h2 h3 h4 ih=>
  have:=h3.lt;have:=h3.le;refine⟨by simp only[bp];omega,fun _=>?_⟩;cases h4 with
  | nil=>exact h3.le
  | cons=>exact ih.2 zsi
def Lx.run{s:ByteArray}{i k:Nat}{last e:Int}{L:List Tok}(h:Lx s i last L k e):∀(n:Nat) (l:List Tok) (f:Nat) (p:Int×Int),l.length+L.length<=16384 ->
 ∃L' f' p',L'.map Tok.z=L∧ny s (n+L.length) l f i p last=ny s n (l++L') f' k p' e:=by
 induction h with
 | nil=>intro n l f p _;exact⟨[],f,p,rfl,by rw[uS];rfl⟩
 | @cons i j k m last e t L h1 h2 h3 h4 ih=>
  intro n l f p hl;have hlt:=h3.lt;have hle:=h3.le;obtain⟨w,u,hm,hu⟩:=h3.m (bT s f j p).1 (bT s f j p).2;rw[bp]at hl;obtain⟨L',f',p',g1,g2⟩:=ih n (l++[u]) j (bT s f j p) (by rw[du];simp only[bp,bV];omega);refine⟨u::L',f',p',by rw[fZ,hu,g1],?_⟩;rw[bp,<- ik];simp only[ny];rw[h2,aa zo,aa zo,hm];simp only[Bool.true_eq_false,dg,mT,lT];rw[g2,gF];rfl
def Ur{s:ByteArray}{k:Nat}{e:Int}{L:List Tok}(h:Lx s 0 (-1) L k e)(hk:s.size<=dR s k)(hs:s.size<=65536)(hL:L.length<=16384)(h0:L≠[]):
 ∃L' t,eY s=(L'++[t],0,0,0)∧L'.map Tok.z=L∧t.z=.mk 0 0 0 ⟨#[]⟩ ⟨#[]⟩ 0 0 false:=by
 have hl:=h.len;have:=hl.2 h0;obtain⟨n,hn⟩:∃n,s.size+1=(n+1)+L.length:=⟨s.size-L.length,zo⟩
 obtain⟨L',f',p',g1,g2⟩:=h.run (n+1) [] 0 (1,1) (by simpa using hL);have e:eY s=(L'++[.mk 0 (bT s f' (dR s k) p').1 (bT s f' (dR s k) p').2 ⟨#[]⟩ ⟨#[]⟩ 0 0 false],0,0,0):=by
  unfold eY;rw[aa zo,hn,g2];simp only[ny];rw[ae hk,AZ]
 exact⟨L',_,e,g1,rfl⟩
def xe{s:ByteArray}{p:Int->Bool}{n:Nat}:∀{i:Nat},i+n<=s.size->(∀k,k<n->p (ad s (i+k))=true)->p (ad s (i+n))=false->bn s p i=i+n:=by
 induction n with
 | zero=>intro i _ _ h;exact zY fun q=>by rw[fE]at h;rw[h]at q;exact absurd q.2 zsi
 | succ n ih=>
  intro i h1 h2 h3;have h0:=h2 0 zo;rw[fE]at h0;rw[qf ⟨zo,h0⟩,ih zo (fun k hk=>by have:=h2 (k+1) zo;rwa [show i+(k+1)=i+1+k by omega]at this) (by rwa [show i+1+n=i+(n+1) by omega])];omega
def um{s:ByteArray}{i:Nat}(h:ad s i≠32∧ad s i≠9∧ad s i≠10∧ad s i≠47):dR s i=i:=by
 unfold dR;cases s.size-i with
 | zero=>rfl
 | succ n=>
  simp only[iX];split
  ·rw[aa zo,aa zo]
  ·rfl
def Kg{s:ByteArray}{i:Nat}(hi:i<s.size)(h:ad s i=32):dR s i=dR s (i+1):=by
 unfold dR;obtain⟨n,hn⟩:∃n,s.size-i=n+1:=⟨s.size-i-1,zo⟩
 rw[hn,show s.size-(i+1)=n by omega];simp only[iX];rw[ae hi,ae (.inl h)]
def Lx.sp{s:ByteArray}{i k:Nat}{last:Int}{t:Tok}(hi:ad s i=32)(h:Tk s (i+1) (decide (((i+1:Nat):Int)=last)) t k):Lx s i last [t] k k:=by
 have h1:=h.lt;have h2:=h.le;exact .cons (Nat.le_succ _) (by rw[Kg zo hi,h.bl]) h .nil
def Us{s w:ByteArray}{i:Nat}(h:At s i w)(h0:0<w.size)(hl:bJ (ad w 0)=true)(hp:∀k,k<w.size->cx (ad w k)=true)(he:cx (ad s (i+w.size))=false)(hq:ad s (i+w.size)≠34)(h64:w.size<=64)(jb:Bool):
 Tk s i jb (wd w jb) (i+w.size):=by
 have hb:=h.b0 h0;have hle:=h.1;have hw:bn s cx i=i+w.size:=xe hle (fun k hk=>by rw[h.2 k hk];exact hp k hk) he;have hx:¬(ad s i=120∧ad s (i+1)=34):=fun q=>by
  rcases iG 1 w.size with g|g
  ·have h1:=h.2 1 g;have h2:=hp 1 g;rw[<- h1,q.2]at h2;exact absurd h2 zd
  ·rw[show i+w.size=i+1 by omega]at hq;exact hq q.2
 refine⟨zo,hle,um ?_,fun l c=>?_⟩
 ·rw[hb];unfold bJ at hl;simp only[cX]at hl;omega
 have e:cS s i (.mk 0 l c ⟨#[]⟩ ⟨#[]⟩ 0 0 jb)=(true,i+w.size,0,0,Tok.set (.mk 0 l c ⟨#[]⟩ ⟨#[]⟩ 0 0 jb) 1 w):=by
  unfold cS;rw[aa hx,ae (by rw[hb];exact hl),hw,aa (zo:¬64<i+w.size-i),aa (zo:¬64<i+w.size-i),h.ext]
 exact⟨_,_,e,rfl⟩
def Ea{s:ByteArray}{c:UInt8}{i:Nat}(h:At s i ⟨#[c]⟩)(hc:iY c.toNat=true)(hp:gM s i=false)(jb:Bool):Tk s i jb (sy ⟨#[c]⟩ jb) (i+1):=by
 have hb:ad s i=c.toNat:=h.b0 (by show 0<1;omega);have hle:i+1<=s.size:=h.1;have hx:¬(c.toNat:Int)=120∧bJ c.toNat=false∧bD c.toNat=false∧(c.toNat:Int)≠34∧(c.toNat:Int)≠32∧(c.toNat:Int)≠9∧(c.toNat:Int)≠10∧(c.toNat:Int)≠47:=by
  revert hc;generalize (c.toNat:Int)=n;intro hc;unfold iY at hc;simp only[List.contains_cons,List.contains_nil,Bool.or_false,eU,dv]at hc;refine⟨zo,?_,?_,zo,zo,zo,zo,zo⟩
  ·unfold bJ;exact fD zo
  ·unfold bD;exact fD zo
 refine⟨zo,hle,um (by rw[hb];exact hx.2.2.2.2),fun l d=>?_⟩;have e:cS s i (.mk 0 l d ⟨#[]⟩ ⟨#[]⟩ 0 0 jb)=(true,i+1,0,0,Tok.set (.mk 0 l d ⟨#[]⟩ ⟨#[]⟩ 0 0 jb) 5 ⟨#[c]⟩):=by
  unfold cS;rw[aa (fun q=>hx.1 (by rw[<- hb];exact q.1)),aa (by rw[hb,hx.2.1];simp),aa (by rw[hb,hx.2.2.1];simp),aa (by rw[hb];exact hx.2.2.2.1),aa (by rw[hp];simp),ae (by rw[hb];exact hc),show s.extract i (i+1)=⟨#[c]⟩from h.ext]
 exact⟨_,_,e,rfl⟩
def Ut{s:ByteArray}{c d:UInt8}{i:Nat}(h:At s i ⟨#[c,d]⟩)(hc:(c=33∨c=60∨c=62)∧d=61)(jb:Bool):Tk s i jb (sy ⟨#[c,d]⟩ jb) (i+2):=by
 have hb:ad s i=c.toNat:=h.b0 (by show 0<2;omega);have hd:ad s (i+1)=d.toNat:=h.2 1 (by show 1<2;omega);have hle:i+2<=s.size:=h.1;obtain⟨hc,rfl⟩:=hc;have hx:¬(c.toNat:Int)=120∧bJ c.toNat=false∧bD c.toNat=false∧(c.toNat:Int)≠34∧(c.toNat:Int)≠32∧(c.toNat:Int)≠9∧(c.toNat:Int)≠10∧(c.toNat:Int)≠47:=by
  rcases hc with rfl|rfl|rfl<;>decide
 have hp:gM s i=true:=by
  unfold gM;rw[hb,hd];rcases hc with rfl|rfl|rfl<;>decide
 refine⟨zo,hle,um (by rw[hb];exact hx.2.2.2.2),fun l d=>?_⟩;have e:cS s i (.mk 0 l d ⟨#[]⟩ ⟨#[]⟩ 0 0 jb)=(true,i+2,0,0,Tok.set (.mk 0 l d ⟨#[]⟩ ⟨#[]⟩ 0 0 jb) 5 ⟨#[c,61]⟩):=by
  unfold cS;rw[aa (fun q=>hx.1 (by rw[<- hb];exact q.1)),aa (by rw[hb,hx.2.1];simp),aa (by rw[hb,hx.2.2.1];simp),aa (by rw[hb];exact hx.2.2.2.1),ae hp,show s.extract i (i+2)=⟨#[c,61]⟩from h.ext]
 exact⟨_,_,e,rfl⟩
abbrev ar(l:List Tok)(ln cl:Int):St:=.mk l ln cl 0
abbrev aT(l:List Tok)(ln cl o:Int):Rd:=.mk (ar l ln cl) o
def xf{a:Tok}{l:List Tok}{ln cl:Int}:(ar (a::l) ln cl).ok=true:=by
 unfold St.ok;simp[St.e,St.l]
def eR{a:Tok}{l:List Tok}{ln cl:Int}:(ar (a::l) ln cl).peek=a:=by
 unfold St.peek;rw[ae xf];rfl
def iA{a:Tok}{l:List Tok}{ln cl:Int}(h:l≠[]):(ar (a::l) ln cl).next=ar l ln cl:=by
 unfold St.next;refine(ae ⟨xf,?_⟩).trans rfl;show 1<(a::l).length;cases l with
 | nil=>exact absurd rfl h
 | cons b t=>simp
def cU(a:Tok)(t:ByteArray):Bool:=(decide (a.kind=1)||decide (a.kind=5))&&decide (a.text=t)
def dS{a:Tok}{l:List Tok}{ln cl:Int}{t:ByteArray}:(ar (a::l) ln cl).aH t=cU a t:=by
 unfold St.aH cU;rw[xf,eR];rfl
def xg{a:Tok}{t:ByteArray}:cU a t=cU a.z t:=rfl
def Ao{a:Tok}{l:List Tok}{ln cl:Int}{t:ByteArray}(h:cU a t=true)(hl:l≠[]):(ar (a::l) ln cl).expect t=ar l ln cl:=by
 unfold St.expect;rw[ae (dS.trans h),iA hl]
def rR(a:Tok)(c:Nat):Prop:=(a.kind=1∨a.kind=5)∧(dk a.text (opsL c)).isSome=true
def Kh{a:Tok}{l:List Tok}{ln cl o:Int}{c:Nat}:(aT (a::l) ln cl o).op c=if a.kind≠1∧a.kind≠5 then none else dk a.text (opsL c):=by
 unfold Rd.op;show(if(ar (a::l) ln cl).peek.kind≠1∧(ar (a::l) ln cl).peek.kind≠5 then none else dk (ar (a::l) ln cl).peek.text (opsL c))=_;rw[eR]
def Eb{a:Tok}{l:List Tok}{ln cl o:Int}{c:Nat}(h:¬rR a c):(aT (a::l) ln cl o).op c=none:=by
 rw[Kh];split
 ·rfl
 ·rename_i q;cases e:dk a.text (opsL c)with
  | none=>rfl
  | some v=>exact absurd ⟨zo,by rw[e];rfl⟩ h
def gO:ByteArray:=⟨#[41]⟩
def nz:ByteArray:=⟨#[110,111,116]⟩
def nA(a:Tok):Bool:=a.joined&&(cU a oH||cU a nB||cU a kf)
structure Fo(b:Nat)(a:Tok):Prop where
 op:∀c,b<=c->c<=7->¬rR a c
 inn:b<=4->cU a inT=false
 xh:nA a=false
def Fo.up{b c:Nat}{a:Tok}(h:Fo b a)(hb:b<=c):Fo c a:=⟨fun d h1 h2=>h.op d zo h2,fun q=>h.inn zo,h.xh⟩
def Fo.Uu{b:Nat}{a c:Tok}(h:Fo b c)(e:a.z=c.z):Fo b a:=by
 have e1:a.kind=c.kind:=(ak Tok.kind e:a.z.kind=c.z.kind)
 have e2:a.text=c.text:=(ak Tok.text e:a.z.text=c.z.text)
 have e3:a.joined=c.joined:=(ak Tok.joined e:a.z.joined=c.z.joined)
 refine⟨fun d h1 h2 q=>h.op d h1 h2 ?_,fun q=>?_,?_⟩
 ·unfold rR at q ⊢;rwa [<- e1,<- e2]
 ·have:=h.inn q;unfold cU at this ⊢;rwa [e1,e2]
 ·have:=h.xh;unfold nA cU at this ⊢;rwa [e1,e2,e3]
def dM(pe:ByteArray->Int):Nat->dH×dH×dH
 | 0=>(mD,mD,mD)
 | n+1=>ff pe n
def eH(pe:ByteArray->Int)(P:dH×dH×dH):Nat->dH
 | 1=>cj 1 (cj 2 (nC P.2.1 (i6 P.1 (cj 5 (cj 6 (cj 7 (ib P.2.2 (eS P.1 pe))))))))
 | 2=>cj 2 (nC P.2.1 (i6 P.1 (cj 5 (cj 6 (cj 7 (ib P.2.2 (eS P.1 pe)))))))
 | 3=>nC P.2.1 (i6 P.1 (cj 5 (cj 6 (cj 7 (ib P.2.2 (eS P.1 pe))))))
 | 4=>i6 P.1 (cj 5 (cj 6 (cj 7 (ib P.2.2 (eS P.1 pe)))))
 | 5=>cj 5 (cj 6 (cj 7 (ib P.2.2 (eS P.1 pe))))
 | 6=>cj 6 (cj 7 (ib P.2.2 (eS P.1 pe)))
 | 7=>cj 7 (ib P.2.2 (eS P.1 pe))
 | 8=>ib P.2.2 (eS P.1 pe)
 | _=>eS P.1 pe
def Ed(pe:ByteArray->Int)(n:Nat):ff pe n=(eH pe (dM pe n) 1,eH pe (dM pe n) 3,eH pe (dM pe n) 8):=by cases n<;>rfl
def iB(b:Nat):Prop:=b=1∨b=2∨b=5∨b=6∨b=7
def Uv{pe:ByteArray->Int}{P:dH×dH×dH}{b:Nat}(h:iB b):eH pe P b=cj b (eH pe P (b+1)):=by
 rcases h with rfl|rfl|rfl|rfl|rfl<;>rfl
def xi(F:dH)(b:Nat)(x:X)(L:List Tok)(o:Int):Prop:=∀(A:List Tok) (a:Tok) (B:List Tok) (ln cl:Int),A.map Tok.z=L->Fo b a->F (aT (A++a::B) ln cl o)=(x,aT (a::B) ln cl o)
def un(F G:dH)(b:Nat)(x:X)(L:List Tok)(o:Int):Prop:=∀(A:List Tok) (a:Tok) (B:List Tok) (ln cl:Int),A.map Tok.z=L->Fo (b+1) a->∃k,(a::B).length<=k∧F (aT (A++a::B) ln cl o)=mv b G k x (aT (a::B) ln cl o)
theorem Uw{b:Nat}{f:dH}{x:X}{r:Rd}(h:r.op b=none):∀k,mv b f k x r=(x,r)
 | 0=>rfl
 | k+1=>by simp only[mv];rw[h]
def un.Ki{F G:dH}{b:Nat}{x:X}{L:List Tok}{o:Int}(hb:b<=7)(h:un F G b x L o):xi F b x L o:=by
 intro A a B ln cl hA hf;obtain⟨k,_,e⟩:=h A a B ln cl hA (hf.up (Nat.le_succ _));rw[e,Uw (Eb (hf.op b (ao _) hb))]
def xi.Ux{F:dH}{b:Nat}{x:X}{L:List Tok}{o:Int}(h:xi F (b+1) x L o):un (cj b F) F b x L o:=by
 intro A a B ln cl hA hf;refine⟨(a::B).length,ao _,?_⟩;unfold cj;rw[h A a B ln cl hA hf];rfl
inductive Wh where
 | one (b:Nat) (x:X)
 | oI (l:List X)
def opt(k:ByteArray):Tok:=if bJ (ad k 0)=true then wd k false else sy k false
def fg:ByteArray:=⟨#[32]⟩
def lQ:ByteArray:=⟨#[44,32]⟩
def Fw(s:ByteArray)(i:Nat):Prop:=ad s i=0∨ad s i=32∨ad s i=41∨ad s i=44
def rS(t:ByteArray)(L:List Tok)(jb:Bool):Prop:=∀(s:ByteArray) (i:Nat) (last:Int),At s i t->Fw s (i+t.size)->jb=decide ((i:Int)=last)->Lx s i last L (i+t.size) ((i+t.size:Nat):Int)
def Kj(L:List Tok):Prop:=∃a t,L=a::t∧cU a nz=false
def Kk(L:List Tok):Prop:=∃a t,L=a::t∧(cU a bP=true->∃c u,t=c::u∧c.kind=2∧c.joined=true)
structure VR(v:V)(L:List Tok):Prop where
 hd:Kj L
 hn:Kk L
 rd:∀(A:List Tok) (a:Tok) (B:List Tok) (ln cl:Int),A.map Tok.z=L->(ar (A++a::B) ln cl).val=true∧fw (ar (A++a::B) ln cl)=(v,ar (a::B) ln cl)
structure PR(pe:ByteArray->Int)(p:ByteArray)(L:List Tok):Prop where
 hd:∃a t,L=a::t∧a.kind=1∧dQ a.text=false∧a.text≠bP
 rd:∀(A:List Tok) (a:Tok) (B:List Tok) (ln cl:Int),A.map Tok.z=L->nA a=false->dN pe (ar (A++a::B) ln cl)=(p,ar (a::B) ln cl)
def Ee(n:Int)(L:List Tok):Prop:=∀(A:List Tok) (a:Tok) (B:List Tok) (ln cl:Int),A.map Tok.z=L->dI (ar (A++a::B) ln cl)=(n,ar (a::B) ln cl)
def mE:ByteArray:=⟨#[100,105,118,105,100,101]⟩
def Ef:ByteArray:=⟨#[104,97,115]⟩
def kg:ByteArray:=⟨#[115,117,109]⟩
inductive Pr(pe:ByteArray->Int):Wh->Bool->ByteArray->List Tok->Nat->Prop
 | up {w:Wh} {jb:Bool} {t:ByteArray} {L:List Tok} {m m':Nat}:Pr pe w jb t L m->m<=m'->Pr pe w jb t L m'
 | dn {b:Nat} {x:X} {jb:Bool} {t:ByteArray} {L:List Tok} {m:Nat}:Pr pe (.one (b+1) x) jb t L m->1<=b->b<=8->Pr pe (.one b x) jb t L m
 | par {x:X} {jb:Bool} {t:ByteArray} {L:List Tok} {m:Nat}:Pr pe (.one 1 x) true t L m->Pr pe (.one 9 x) jb (⟨#[40]⟩++t++⟨#[41]⟩) (sy fV jb::(L++[sy gO true])) (m+1)
 | neg {x:X} {jb:Bool} {t:ByteArray} {L:List Tok} {m:Nat}:Pr pe (.one 9 x) true t L m->(∀a u,L=a::u->a.kind≠2)->ad t 0≠62∧ad t 0≠61->Pr pe (.one 8 (.mk 16 0 ⟨#[]⟩ [] [x])) jb (⟨#[45]⟩++t) (sy bP jb::L) (m+1)
 | not {x:X} {jb:Bool} {t:ByteArray} {L:List Tok} {m:Nat}:Pr pe (.one 3 x) false t L m->Pr pe (.one 3 (.mk 3 0 ⟨#[]⟩ [] [x])) jb (nz++fg++t) (wd nz jb::L) (m+1)
 | bin {c:Nat} {k:ByteArray} {op:Int} {x y:X} {jb:Bool} {t u:ByteArray} {L M:List Tok} {m:Nat}:iB c->dk k (opsL c)=some op->Pr pe (.one c x) jb t L m->Pr pe (.one (c+1) y) false u M m ->
  Pr pe (.one c (bin op x y)) jb (t++fg++k++fg++u) (L++opt k::M) m
 | cmp {k:ByteArray} {op:Int} {x y:X} {jb:Bool} {t u:ByteArray} {L M:List Tok} {m:Nat}:dk k (opsL 4)=some op->Pr pe (.one 5 x) jb t L m->Pr pe (.one 5 y) false u M m ->
  Pr pe (.one 4 (bin op x y)) jb (t++fg++k++fg++u) (L++opt k::M) m
 | Ap {x:X} {l:List X} {jb:Bool} {t u:ByteArray} {L M:List Tok} {m:Nat}:Pr pe (.one 5 x) jb t L m->Pr pe (.oI l) true u M m ->
  Pr pe (.one 4 (.mk 25 0 ⟨#[]⟩ [] (x::l))) jb (t++fg++inT++fg++⟨#[40]⟩++u++⟨#[41]⟩) (L++wd inT false::sy fV false::(M++[sy gO true])) (m+1)
 | val {v:V} {jb:Bool} {t:ByteArray} {L:List Tok}:VR v L->rS t L jb->Pr pe (.one 9 (.mk 1 0 ⟨#[]⟩ [v] [])) jb t L 0
 | path {p:ByteArray} {jb:Bool} {L:List Tok}:PR pe p L->rS p L jb->Pr pe (.one 9 (.mk 2 0 p [] [])) jb p L 0
 | call {k:ByteArray} {op n:Int} {l:List X} {jb:Bool} {t:ByteArray} {L:List Tok} {m:Nat}:dk k ba=some (op,n)->¬(op=22∨op=26)->op≠15->n=l.length->Pr pe (.oI l) true t L m ->
  Pr pe (.one 9 (.mk op 0 ⟨#[]⟩ [] l)) jb (k++⟨#[40]⟩++t++⟨#[41]⟩) (wd k jb::sy fV true::(L++[sy gO true])) (m+1)
 | div {n:Int} {x y:X} {jb:Bool} {t u q:ByteArray} {L M N:List Tok} {m:Nat}:Pr pe (.one 1 x) true t L m->Pr pe (.one 1 y) false u M m->Ee n N->rS q N false->N≠[] ->
  Pr pe (.one 9 (.mk 15 n ⟨#[]⟩ [] [x,y])) jb (mE++⟨#[40]⟩++t++lQ++u++lQ++q++⟨#[41]⟩) (wd mE jb::sy fV true::(L++sy dx true::(M++sy dx true::(N++[sy gO true])))) (m+1)
 | has {op:Int} {k p:ByteArray} {jb:Bool} {L:List Tok}:((op=22∧k=Ef)∨(op=26∧k=kg))->PR pe p L->rS p L true ->
  Pr pe (.one 9 (.mk op 0 p [] [])) jb (k++⟨#[40]⟩++p++⟨#[41]⟩) (wd k jb::sy fV true::(L++[sy gO true])) 1
 | sum {n:Int} {p q:ByteArray} {jb:Bool} {L N:List Tok}:PR pe p L->rS p L true->Ee n N->rS q N false->N≠[] ->
  Pr pe (.one 9 (.mk 26 n p [] [])) jb (kg++⟨#[40]⟩++p++lQ++q++⟨#[41]⟩) (wd kg jb::sy fV true::(L++sy dx true::(N++[sy gO true]))) 1
 | last {x:X} {jb:Bool} {t:ByteArray} {L:List Tok} {m:Nat}:Pr pe (.one 1 x) jb t L m->Pr pe (.oI [x]) jb t L m
 | more {x:X} {l:List X} {jb:Bool} {t u:ByteArray} {L M:List Tok} {m:Nat}:Pr pe (.one 1 x) jb t L m->Pr pe (.oI l) false u M m->Pr pe (.oI (x::l)) jb (t++lQ++u) (L++sy dx true::M) m
def rT{a:Tok}{t:ByteArray}(h:a.text≠t):cU a t=false:=by unfold cU;rw[fD h,FG]
def Eg{k:ByteArray}{v:Int×Int}(h:dk k ba=some v):k≠nz∧k≠bP∧bI kW k=false∧bJ (ad k 0)=true:=by
 unfold ba at h;simp only[dk]at h
 repeat'(split at h)
 all_goals first|(subst_vars;decide)|(cases h)
def Eh{P:Tok->Prop}{L M:List Tok}(h:∃a t,L=a::t∧P a):∃a t,L++M=a::t∧P a:=by
 obtain⟨a,t,rfl,h⟩:=h;exact⟨a,t++M,rfl,h⟩
def Kl:Wh->List Tok->Prop
 | .one b _,L=>(4<=b->Kj L)∧(b=9->Kk L)∧L≠[]
 | .oI l,L=>l≠[]∧L≠[]
def gP{pe:ByteArray->Int}{w:Wh}{jb:Bool}{t:ByteArray}{L:List Tok}{m:Nat}(h:Pr pe w jb t L m):Kl w L:=by
 induction h with
 | up _ _ ih=>exact ih
 | dn _ h1 h2 ih=>exact⟨fun q=>ih.1 zo,fun q=>zo,ih.2.2⟩
 | par=>exact⟨fun _=>⟨_,_,rfl,rfl⟩,fun _=>⟨_,_,rfl,fun q=>absurd q (by decide +revert)⟩,zsi⟩
 | neg=>exact⟨fun _=>⟨_,_,rfl,by decide +revert⟩,fun q=>absurd q zd,zsi⟩
 | not=>exact⟨fun q=>absurd q zd,fun q=>absurd q zd,zsi⟩
 | bin hc _ _ _ ih=>exact⟨fun q=>Eh (ih.1 q),fun q=>(by unfold iB at hc;omega),zsi⟩
 | cmp _ _ _ ih=>exact⟨fun _=>Eh (ih.1 zd),fun q=>absurd q zd,zsi⟩
 | Ap _ _ ih=>exact⟨fun _=>Eh (ih.1 zd),fun q=>absurd q zd,zsi⟩
 | val h1=>obtain⟨a,t,e,_⟩:=h1.hd;exact⟨fun _=>h1.hd,fun _=>h1.hn,by rw[e];simp⟩
 | path h1=>
  obtain⟨a,t,e,h2,h3,h4⟩:=h1.hd;exact⟨fun _=>⟨a,t,e,rT fun q=>by rw[q]at h3;exact absurd h3 zd⟩,fun _=>⟨a,t,e,fun q=>by rw[rT h4]at q;cases q⟩,by rw[e];simp⟩
 | call h1=>exact⟨fun _=>⟨_,_,rfl,rT (Eg h1).1⟩,fun _=>⟨_,_,rfl,fun q=>by rw[rT (a:=wd _ _) (Eg h1).2.1]at q;cases q⟩,zsi⟩
 | div=>exact⟨fun _=>⟨_,_,rfl,rfl⟩,fun _=>⟨_,_,rfl,fun q=>absurd q (by decide +revert)⟩,zsi⟩
 | has h1=>rcases h1 with⟨_,rfl⟩|⟨_,rfl⟩<;>exact⟨fun _=>⟨_,_,rfl,rfl⟩,fun _=>⟨_,_,rfl,fun q=>absurd q (by decide +revert)⟩,zsi⟩
 | sum=>exact⟨fun _=>⟨_,_,rfl,rfl⟩,fun _=>⟨_,_,rfl,fun q=>absurd q (by decide +revert)⟩,zsi⟩
 | last _ ih=>exact⟨zsi,ih.2.2⟩
 | more _ _ ih=>exact⟨zsi,zsi⟩
def kh{A:List Tok}{L M:List Tok}(h:A.map Tok.z=L++M):∃A0 A1,A=A0++A1∧A0.map Tok.z=L∧A1.map Tok.z=M:=by
 obtain⟨a,b,h1,h2,h3⟩:=List.map_eq_append_iff.1 h;exact⟨a,b,h1,h2,h3⟩
def map_cons{A:List Tok}{t:Tok}{M:List Tok}(h:A.map Tok.z=t::M):∃a A1,A=a::A1∧a.z=t∧A1.map Tok.z=M:=by
 obtain⟨a,b,h1,h2,h3⟩:=List.map_eq_cons_iff.1 h;exact⟨a,b,h1,h2,h3⟩
def map_nil{A:List Tok}(h:A.map Tok.z=[]):A=[]:=List.map_eq_nil_iff.1 h
instance (a:Tok)(c:Nat):Decidable (rR a c):=by unfold rR;infer_instance
def nD{b:Nat}{a:Tok}(h1:∀c,c<8->b<=c->¬rR a c)(h2:b<=4->cU a inT=false)(h3:nA a=false):Fo b a:=⟨fun c h q=>h1 c zo h,h2,h3⟩
def Ei:Fo 1 (sy gO true):=nD zd (fun _=>rfl) rfl
def Aq:Fo 1 (sy dx true):=nD zd (fun _=>rfl) rfl
def Km:Fo 5 (wd inT false):=nD zd (fun q=>absurd q zd) rfl
theorem xj{α:Type}{k:ByteArray}{v:α}:∀{l:List (ByteArray×α)},dk k l=some v->(k,v)∈l
 | [],h=>by cases h
 | (a,b)::r,h=>by
  simp only[dk]at h;split at h
  ·rename_i q;cases h;rw[q];exact dJ
  ·exact cH _ (xj h)
def Kn{k:ByteArray}{op:Int}{c:Nat}(hc:c=1∨c=2∨c=4∨c=5∨c=6∨c=7)(h:dk k (opsL c)=some op):Fo (c+1) (opt k):=by
 have hm:=xj h;clear h;rcases hc with rfl|rfl|rfl|rfl|rfl|rfl
 all_goals simp only[opsL,bC,dg,Nat.reduceEqDiff,bW,sK,ii,nJ]at hm
 ·obtain⟨rfl,-⟩:=hm;exact nD zd zd zd
 ·obtain⟨rfl,-⟩:=hm;exact nD zd zd zd
 ·rcases hm with⟨rfl,-⟩|⟨rfl,-⟩|⟨rfl,-⟩|⟨rfl,-⟩|⟨rfl,-⟩|⟨rfl,-⟩<;>exact nD zd zd zd
 ·obtain⟨rfl,-⟩:=hm;exact nD zd zd zd
 ·rcases hm with⟨rfl,-⟩|⟨rfl,-⟩|⟨rfl,-⟩<;>exact nD zd zd zd
 ·obtain⟨rfl,-⟩:=hm;exact nD zd zd zd
def Ko{k:ByteArray}{op:Int}{c:Nat}{b:Tok}{l:List Tok}{ln cl o:Int}(hb:b.z=opt k)(h:dk k (opsL c)=some op):(aT (b::l) ln cl o).op c=some op:=by
 have e1:b.kind=(opt k).kind:=(ak Tok.kind hb:b.z.kind=_)
 have e2:b.text=(opt k).text:=(ak Tok.text hb:b.z.text=_)
 have e3:(opt k).text=k:=by unfold opt;split<;>rfl
 have e4:(opt k).kind=1∨(opt k).kind=5:=by unfold opt;split;exact .inl rfl;exact .inr rfl
 rw[Kh,aa zo,e2,e3,h]
def fh(pe:ByteArray->Int)(n:Nat)(o:Int)(b:Nat)(x:X)(L:List Tok):Prop:=
 (iB b->un (eH pe (dM pe n) b) (eH pe (dM pe n) (b+1)) b x L o)∧xi (eH pe (dM pe n) b) b x L o
def uo(pe:ByteArray->Int)(n:Nat)(o:Int)(l:List X)(L:List Tok):Prop:=
 ∀(least most i:Int) (acc:List X) (A:List Tok) (c:Tok) (B:List Tok) (ln cl:Int) (fuel:Nat),A.map Tok.z=(if i=0 then L else sy dx true::L)->cU c dx=false->Fo 1 c->0<=i->(i=0->1<=least) ->
  (most<0∧least<=1∨0<=most∧least=i+l.length)->l.length<fuel->fx (eH pe (dM pe n) 1) least most fuel i acc (aT (A++c::B) ln cl o)=(acc++l,aT (c::B) ln cl o)
def Uy(pe:ByteArray->Int)(n:Nat)(o:Int):Wh->List Tok->Prop
 | .one b x,L=>fh pe n o b x L
 | .oI l,L=>uo pe n o l L
def fh.of{pe:ByteArray->Int}{n b:Nat}{o:Int}{x:X}{L:List Tok}(hb:¬iB b)(h:xi (eH pe (dM pe n) b) b x L o):fh pe n o b x L:=⟨fun q=>absurd q hb,h⟩
def oJ{a:Tok}{l:List Tok}{ln cl o:Int}(h:cU a fV=true)(hl:l≠[])(ho:o<32):(aT (a::l) ln cl o).paren=aT l ln cl (o+1):=by
 have e:(aT (a::l) ln cl o).enter=aT (a::l) ln cl (o+1):=by
  unfold Rd.enter;rw[aa (by show¬o=32;omega)];rfl
 have e2:(ar (a::l) ln cl).expect ⟨#[40]⟩=ar l ln cl:=Ao h hl;have e3:(aT (a::l) ln cl o).s.aH ⟨#[40]⟩=true:=dS.trans h;unfold Rd.paren;rw[ae e3,e];show Rd.mk ((ar (a::l) ln cl).expect ⟨#[40]⟩) (o+1)=_;rw[e2]
def uq{a:Tok}{l:List Tok}{ln cl o:Int}(h:cU a gO=true)(hl:l≠[]):(aT (a::l) ln cl (o+1)).close=aT l ln cl o:=by
 have e2:(ar (a::l) ln cl).expect ⟨#[41]⟩=ar l ln cl:=Ao h hl;show Rd.mk ((ar (a::l) ln cl).expect ⟨#[41]⟩) (o+1-1)=_;rw[e2,show o+1-1=o by omega]
def eT{a b:Tok}{t:ByteArray}(h:a.z=b)(e:cU b t=true):cU a t=true:=by rw[xg,h];exact e
def oK{a b:Tok}{t:ByteArray}(h:a.z=b)(e:cU b t=false):cU a t=false:=by rw[xg,h];exact e
def kY{a t:Tok}{b:Nat}(h:a.z=t)(g:Fo b t)(e:t.z=t):Fo b a:=g.Uu (h.trans e.symm)
def Kp{A:List Tok}{L:List Tok}{i:Int}{c:Tok}{B:List Tok}{ln cl o:Int}(hi:0<=i)(hA:A.map Tok.z=(if i=0 then L else sy dx true::L))(hL:L≠[]):
 ∃A1,A1.map Tok.z=L∧fy i (aT (A++c::B) ln cl o)=aT (A1++c::B) ln cl o∧(i≠0->(aT (A++c::B) ln cl o).s.aH ⟨#[44]⟩=true):=by
 by_cases q:i=0
 ·rw[ae q]at hA;exact⟨A,hA,by unfold fy;rw[aa zo],fun k=>absurd q k⟩
 ·rw[aa q]at hA;obtain⟨a,A1,rfl,h1,h2⟩:=map_cons hA;have h3:cU a ⟨#[44]⟩=true:=eT h1 rfl;have h4:A1++c::B≠[]:=by simp
  refine⟨A1,h2,?_,fun _=>dS.trans h3⟩;unfold fy;rw[ae zo];show Rd.mk ((ar (a::(A1++c::B)) ln cl).expect ⟨#[44]⟩) o=_;rw[Ao h3 h4]
def Kq{least most i o:Int}{l:List Tok}{ln cl:Int}(h:i<least∨(most<0∧(aT l ln cl o).s.aH ⟨#[44]⟩=true)):kZ least most i (aT l ln cl o)=true:=by
 unfold kZ;rw[show(aT l ln cl o).bad=false from rfl];rcases h with h|⟨h1,h2⟩
 ·simp[h]
 ·rw[gq h1,h2];simp
def Uz{least most i o:Int}{c:Tok}{l:List Tok}{ln cl:Int}(h:¬i<least)(hc:most<0->cU c dx=false):kZ least most i (aT (c::l) ln cl o)=false:=by
 unfold kZ;rw[fD h];by_cases q:most<0
 ·rw[show(aT (c::l) ln cl o).s.aH ⟨#[44]⟩=false from dS.trans (hc q)];simp
 ·rw[fD q];simp
def Kr{E:dH}{least most i:Int}{f:Nat}{acc:List X}{r:Rd}(h:kZ least most i r=true):fx E least most (f+1) i acc r=fx E least most f (i+1) (acc++[(E (fy i r)).1]) (E (fy i r)).2:=by simp only[fx];rw[ae h]
theorem UA{E:dH}{least most i:Int}{acc:List X}{r:Rd}(h:kZ least most i r=false):∀f,fx E least most f i acc r=(acc,r)
 | 0=>rfl
 | f+1=>by simp only[fx];rw[h];rfl
def UB{pe:ByteArray->Int}{n:Nat}{o:Int}{x:X}{L:List Tok}(hL:L≠[])(h:fh pe n o 1 x L):uo pe n o [x] L:=by
 intro least most i acc A c B ln cl fuel hA hc hf hi h0 hm hfu;obtain⟨f,rfl⟩:∃f,fuel=f+1:=⟨fuel-1,by simp only[bp,bV]at hfu;omega⟩
 simp only[bp,bV]at hm;obtain⟨A1,g1,g2,g3⟩:=Kp (c:=c) (B:=B) (ln:=ln) (cl:=cl) (o:=o) hi hA hL
 rw [Kr (Kq (by
  by_cases q:i=0
  ·exact .inl (by have:=h0 q;omega)
  ·rcases hm with hm|hm
   ·exact .inr ⟨hm.1,g3 q⟩
   ·exact .inl zo)),g2,h.2 A1 c B ln cl g1 hf,UA (Uz zo (fun _=>hc))]
def UC{pe:ByteArray->Int}{n:Nat}{o:Int}{x:X}{l:List X}{L M:List Tok}(hL:L≠[])(h:fh pe n o 1 x L)(g:uo pe n o l M):uo pe n o (x::l) (L++sy dx true::M):=by
 intro least most i acc A c B ln cl fuel hA hc hf hi h0 hm hfu;simp only[bp]at hfu hm;obtain⟨f,rfl⟩:∃f,fuel=f+1:=⟨fuel-1,zo⟩
 obtain⟨A1,g1,g2,g3⟩:=Kp (c:=c) (B:=B) (ln:=ln) (cl:=cl) (o:=o) hi hA zsi;obtain⟨A2,A3,rfl,e1,e2⟩:=kh g1;obtain⟨b,A4,rfl,e3,e4⟩:=map_cons e2
 rw [Kr (Kq (by
  by_cases q:i=0
  ·exact .inl (by have:=h0 q;omega)
  ·rcases hm with hm|hm
   ·exact .inr ⟨hm.1,g3 q⟩
   ·exact .inl zo)),g2,gF]
 have hb:Fo 1 b:=kY e3 Aq rfl;rw[show A2++(b::A4++c::B)=A2++b::(A4++c::B)from rfl,h.2 A2 b (A4++c::B) ln cl e1 hb]
 have:=g least most (i+1) (acc++[x]) (b::A4) c B ln cl f (by rw[aa zo,fZ,e3,e4]) hc hf zo (fun q=>zo) (by
  rcases hm with hm|hm
  ·exact .inl hm
  ·exact .inr ⟨hm.1,zo⟩) zo
 rw[show(b::A4++c::B)=b::(A4++c::B)from rfl]at this;rw[this,gF];rfl
def Ks{pe:ByteArray->Int}{n:Nat}{o:Int}{l:List X}{M:List Tok}(h:uo pe n (o+1) l M)(hl:l≠[])(ho:o<32){least most:Int}(hm:most<0∧least=1∨0<=most∧least=l.length)
 {p:Tok} {A:List Tok} {q a:Tok} {B:List Tok} {ln cl:Int} (hp:cU p fV=true) (hA:A.map Tok.z=M) (hq:q.z=sy gO true) (hlen:l.length<=A.length+3):eI (eH pe (dM pe n) 1) least most (aT (p::(A++q::a::B)) ln cl o)=(l,aT (a::B) ln cl o):=by
 unfold eI;rw[oJ hp zsi ho];have h1:1<=l.length:=by cases l with|nil=>exact absurd rfl hl|cons=>simp
 have:=h least most 0 [] A q (a::B) ln cl ((A++q::a::B).length+4) (by rw[ae rfl];exact hA) (oK hq rfl) (kY hq Ei rfl) (fC _) (fun _=>zo) zo (by rw[du];omega);show((fx _ least most ((A++q::a::B).length+4) 0 [] _).1,(fx _ least most ((A++q::a::B).length+4) 0 [] _).2.close)=_;rw[this];show(_,(aT (q::a::B) ln cl (o+1)).close)=_;rw[uq (eT hq rfl) zsi];rfl
def Kt{pe:ByteArray->Int}{w:Wh}{jb:Bool}{t:ByteArray}{L:List Tok}{m:Nat}(h:Pr pe w jb t L m):∀l,w=.oI l->l.length<=L.length:=by
 induction h with
 | up _ _ ih=>exact ih
 | last h ih=>
  intro l q;cases q;obtain⟨a,u,e⟩:=List.exists_cons_of_ne_nil (gP h).2.2;rw[e];simp
 | more h1 h2 ih1 ih2=>
  intro l q;cases q;have:=ih2 _ rfl;rw[du];simp only[bp];omega
 | _=>intro l q;cases q
def ki{b:Nat}(h:b=3∨b=4∨b=8∨b=9):¬iB b:=by unfold iB;omega
def UD{l:List Tok}{ln cl o:Int}(ho:o<32):(aT l ln cl o).enter=aT l ln cl (o+1):=by
 unfold Rd.enter;rw[aa (by show¬o=32;omega)];rfl
def gx{a b:Tok}(h:a.z=b):a.kind=b.kind:=(ak Tok.kind h:a.z.kind=_)
def ic{a b:Tok}(h:a.z=b):a.text=b.text:=(ak Tok.text h:a.z.text=_)
def mG{a b:Tok}(h:a.z=b):a.joined=b.joined:=(ak Tok.joined h:a.z.joined=_)
def Ar{a:Tok}{l:List Tok}{ln cl:Int}:(ar (a::l) ln cl).neg=(cU a bP&&match l with|[]=>(decide (a.kind=2)&&a.joined)|c::_=>(decide (c.kind=2)&&c.joined)):=by
 unfold St.neg;rw[show(ar (a::l) ln cl).aH ⟨#[45]⟩=cU a bP from dS];cases l with
 | nil=>
  have:(ar [a] ln cl).next=ar [a] ln cl:=by unfold St.next;rw[aa (fun q=>absurd q.2 (by show¬1<[a].length;simp))]
  rw[this,eR]
 | cons c u=>rw[iA zsi,eR]
def Ku{pe:ByteArray->Int}{n b:Nat}{o:Int}{x:X}{L:List Tok}(hd:Kl (.one (b+1) x) L)(h1:1<=b)(h2:b<=8)(g:fh pe n o (b+1) x L):fh pe n o b x L:=by
 have hb:iB b∨b=3∨b=4∨b=8:=by unfold iB;omega
 rcases hb with hb|rfl|rfl|rfl
 ·have c:un (eH pe (dM pe n) b) (eH pe (dM pe n) (b+1)) b x L o:=by rw[Uv hb];exact g.2.Ux
  exact⟨fun _=>c,c.Ki (by unfold iB at hb;omega)⟩
 ·refine .of (ki zo) fun A a B ln cl hA hf=>?_;have hr:=g.2 A a B ln cl hA (hf.up zd);obtain⟨a0,t0,e,h0⟩:=hd.1 zd;rw[e]at hA;obtain⟨a1,A1,rfl,e1,e2⟩:=map_cons hA;have hn:(aT (a1::A1++a::B) ln cl o).s.aH ⟨#[110,111,116]⟩=false:=dS.trans (oK e1 h0);show nC (dM pe n).2.1 (eH pe (dM pe n) 4) _=_;unfold nC;exact(aa (by rw[hn];decide)).trans hr
 ·refine .of (ki zo) fun A a B ln cl hA hf=>?_;have hr:eH pe (dM pe n) 5 (aT (A++a::B) ln cl o)=(x,aT (a::B) ln cl o):=g.2 A a B ln cl hA (hf.up zd);show i6 (dM pe n).1 (eH pe (dM pe n) 5) _=_;have hi:(aT (a::B) ln cl o).s.aH inT=false:=dS.trans (hf.inn zd);unfold i6;rw[hr];dsimp only;rw[Eb (hf.op 4 zd zd)];dsimp only;exact aa (by rw[hi];decide)
 ·refine .of (ki zo) fun A a B ln cl hA hf=>?_;have hr:=g.2 A a B ln cl hA (hf.up zd);obtain⟨a0,t0,e,h0⟩:=hd.2.1 rfl;rw[e]at hA;obtain⟨a1,A1,rfl,e1,e2⟩:=map_cons hA;show ib (dM pe n).2.2 (eH pe (dM pe n) 9) _=_;unfold ib;refine(aa ?_).trans hr
  ·rintro⟨q1,q2⟩;have q1':cU a1 bP=true:=dS.symm.trans q1;obtain⟨c,u,rfl,k1,k2⟩:=h0 (by rw[<- e1,<- xg];exact q1');obtain⟨c1,A2,rfl,e3,_⟩:=map_cons e2;have q3:(ar (a1::(c1::A2++a::B)) ln cl).neg=false:=q2;have:=gx e3;have:=mG e3;rw[Ar,q1']at q3;simp only[pg,xU]at q3;rw[show c1.kind=2 by omega,show c1.joined=true by rw[mG e3,k2]]at q3;simp at q3
def xk{l:List Tok}{ln cl o:Int}:(aT l ln cl o).bad=false:=rfl
def UE{pe:ByteArray->Int}{E:dH}{p q a:Tok}{A B:List Tok}{ln cl o:Int}{jb:Bool}{x:X}(hp:p.z=sy fV jb)(hq:q.z=sy gO true)(ho:o<32)(hE:E (aT (A++q::a::B) ln cl (o+1))=(x,aT (q::a::B) ln cl (o+1))):
 eS E pe (aT (p::(A++q::a::B)) ln cl o)=(x,aT (a::B) ln cl o):=by
 have hk:p.kind=5:=gx hp;have ht:p.text=fV:=ic hp;have hv:(ar (p::(A++q::a::B)) ln cl).val=false:=by
  unfold St.val;rw[eR,aa zo,aa zo,Ar,rT (by rw[ht];decide)];rfl
 have hk2:(aT (p::(A++q::a::B)) ln cl o).s.peek.kind=5:=by rw[<- hk];exact ak Tok.kind eR
 have hi:(aT (p::(A++q::a::B)) ln cl o).s.aH fV=true:=dS.trans (eT hp rfl);have hp2:=oJ (a:=p) (l:=A++q::a::B) (ln:=ln) (cl:=cl) (eT hp rfl) zsi ho;unfold eS;rw[aa (by rw[xk];decide),aa (by rw[show(aT (p::(A++q::a::B)) ln cl o).s.val=false from hv];decide),aa zo,aa zo,ae hi,hp2,hE];show(x,(aT (q::a::B) ln cl (o+1)).close)=_;rw[uq (eT hq rfl) zsi]
def xl(pe:ByteArray->Int)(n:Nat):(ff pe n).1=eH pe (dM pe n) 1:=by rw[Ed]
def UF(pe:ByteArray->Int)(n:Nat):(ff pe n).2.1=eH pe (dM pe n) 3:=by rw[Ed]
def UG(pe:ByteArray->Int)(n:Nat):(ff pe n).2.2=eH pe (dM pe n) 8:=by rw[Ed]
def Kv{op:Int}{t:ByteArray}{U:dH}{p a:Tok}{A B:List Tok}{ln cl o:Int}{x:X}(ho:o<32)(hE:U (aT (A++a::B) ln cl (o+1))=(x,aT (a::B) ln cl (o+1))):
 i7 op t U (aT (p::(A++a::B)) ln cl o)=(.mk op 0 ⟨#[]⟩ [] [x],aT (a::B) ln cl o):=by
 have h1:(aT (p::(A++a::B)) ln cl o).enter.to (aT (p::(A++a::B)) ln cl o).enter.s.next=aT (A++a::B) ln cl (o+1):=by
  rw[UD ho];show Rd.mk (ar (p::(A++a::B)) ln cl).next (o+1)=_;rw[iA zsi]
 unfold i7;rw[h1,aa (by rw[xk];decide),hE];show(_,Rd.mk _ (o+1-1))=_;rw[show o+1-1=o by omega];rfl
def As{a:Tok}{l:List Tok}{ln cl o:Int}(h:l≠[]):(aT (a::l) ln cl o).to (aT (a::l) ln cl o).s.next=aT l ln cl o:=by
 show Rd.mk (ar (a::l) ln cl).next o=_;rw[iA h]
def UH{pe:ByteArray->Int}{n c:Nat}{o:Int}{k:ByteArray}{op:Int}{x y:X}{L M:List Tok}(hc:iB c)(hk:dk k (opsL c)=some op)(g:fh pe n o c x L)(g':fh pe n o (c+1) y M):fh pe n o c (bin op x y) (L++opt k::M):=by
 have hch:un (eH pe (dM pe n) c) (eH pe (dM pe n) (c+1)) c (bin op x y) (L++opt k::M) o:=by
  intro A a B ln cl hA hf;obtain⟨A0,A1,rfl,e1,e2⟩:=kh hA;obtain⟨b,A2,rfl,e3,e4⟩:=map_cons e2;have hb:Fo (c+1) b:=by
   have:(opt k).z=opt k:=by unfold opt;split<;>rfl
   exact kY e3 (Kn (by unfold iB at hc;omega) hk) this
  obtain⟨m,hm,e⟩:=g.1 hc A0 b (A2++a::B) ln cl e1 hb;obtain⟨j,rfl⟩:∃j,m=j+1:=⟨m-1,by simp only[bp]at hm;omega⟩
  refine⟨j,by simp only[bp,du]at hm ⊢;omega,?_⟩;rw[gF];refine e.trans ?_;simp only[mv];rw[Ko e3 hk];dsimp only;rw[As zsi,g'.2 A2 a B ln cl e4 hf]
 exact⟨fun _=>hch,hch.Ki (by unfold iB at hc;omega)⟩
def UI{pe:ByteArray->Int}{n:Nat}{o:Int}{k:ByteArray}{op:Int}{x y:X}{L M:List Tok}(hk:dk k (opsL 4)=some op)(g:fh pe n o 5 x L)(g':fh pe n o 5 y M):fh pe n o 4 (bin op x y) (L++opt k::M):=by
 refine .of (ki zo) fun A a B ln cl hA hf=>?_;obtain⟨A0,A1,rfl,e1,e2⟩:=kh hA;obtain⟨b,A2,rfl,e3,e4⟩:=map_cons e2;have hb:Fo 5 b:=by
  have:(opt k).z=opt k:=by unfold opt;split<;>rfl
  exact kY e3 (Kn (c:=4) zo hk) this
 have h1:=g.2 A0 b (A2++a::B) ln cl e1 hb;have h2:=g'.2 A2 a B ln cl e4 (hf.up zd);show i6 (dM pe n).1 (eH pe (dM pe n) 5) _=_;rw[gF];show i6 (dM pe n).1 (eH pe (dM pe n) 5) (aT (A0++b::(A2++a::B)) ln cl o)=_;unfold i6;rw[h1];dsimp only;rw[Ko e3 hk];dsimp only;rw[As zsi,h2]
def UJ{pe:ByteArray->Int}{n:Nat}{o:Int}{x:X}{l:List X}{L M:List Tok}(ho:o<32)(hl:l≠[])(hlen:l.length<=M.length)(g:fh pe (n+1) o 5 x L)(g':uo pe n (o+1) l M):
 fh pe (n+1) o 4 (.mk 25 0 ⟨#[]⟩ [] (x::l)) (L++wd inT false::sy fV false::(M++[sy gO true])):=by
 refine .of (ki zo) fun A a B ln cl hA hf=>?_;obtain⟨A0,A1,rfl,e1,e2⟩:=kh hA;obtain⟨b,A2,rfl,e3,e4⟩:=map_cons e2;obtain⟨p,A3,rfl,e5,e6⟩:=map_cons e4;obtain⟨A4,A5,rfl,e7,e8⟩:=kh e6;obtain⟨q,A6,rfl,e9,e10⟩:=map_cons e8;have:=map_nil e10;subst this;have h1:=g.2 A0 b (p::(A4++q::a::B)) ln cl e1 (kY e3 Km rfl);have h2:=Ks (ln:=ln) (cl:=cl) (a:=a) (B:=B) g' hl ho (least:=1) (most := -1) (.inl ⟨zd,rfl⟩) (p:=p) (eT e5 rfl) e7 e9 (by have:=ak List.length e7;rw[kr]at this;omega);have e:A0++b::p::(A4++[q])++a::B=A0++b::(p::(A4++q::a::B)):=zsi
 rw[e];show i6 (ff pe n).1 (eH pe (dM pe (n+1)) 5) _=_;unfold i6;rw[h1];dsimp only
 rw[Eb (by
  have:=(kY (b:=5) e3 Km rfl)
  intro k;have k2:=ic e3;unfold rR at k;rw[k2]at k;exact absurd k.2 zd)]
 dsimp only;rw[ae (show(aT (b::p::(A4++q::a::B)) ln cl o).s.aH inT=true from dS.trans (eT e3 rfl)),As zsi,xl,h2]
def Ej{l:List ByteArray}{t:ByteArray}:bI l t=true↔t∈l:=by
 unfold bI;rw[o9];exact⟨fun⟨x,h,e⟩=>by rw[cX]at e;exact e▸h,fun h=>⟨t,h,gq rfl⟩⟩
def UK{t:ByteArray}(h:dQ t=false):bI kW t=false∧dk t ba=none:=by
 have key:∀w∈mu,t≠w:=fun w hw e=>by
  have:dQ t=true:=Ej.2 (e▸hw);rw[h]at this;cases this
 refine⟨?_,?_⟩
 ·cases q:bI kW t with
  | false=>rfl
  | true=>
   have:=Ej.1 q
   exact absurd rfl (key t (by
    revert this;unfold kW mu;simp only[bW,sK,ii];rintro(h|h|h|h)<;>simp[h]))
 ·cases q:dk t ba with
  | none=>rfl
  | some v=>
   have:=xj q
   exact absurd rfl (key t (by
    revert this;unfold ba mu;simp only[bW,sK,ii,nJ];rintro(h|h|h|h|h|h|h|h|h|h)<;>simp[h.1]))
def Ek{a:Tok}{l:List Tok}{ln cl:Int}(hk:a.kind=1):(ar (a::l) ln cl).val=bI kW a.text:=by
 unfold St.val;rw[eR,aa zo,ae hk]
def xm{pe:ByteArray->Int}{E:dH}{w:Tok}{A:List Tok}{ln cl o:Int}{k:ByteArray}{op n:Int}{jb:Bool}(hw:w.z=wd k jb)(hk:dk k ba=some (op,n))(hA:A≠[]):
 eS E pe (aT (w::A) ln cl o)=kj E pe op n (aT A ln cl o):=by
 have hk1:w.kind=1:=gx hw;have ht:w.text=k:=ic hw;have hv:(aT (w::A) ln cl o).s.val=false:=by
  show(ar (w::A) ln cl).val=false;rw[Ek hk1,ht];exact(Eg hk).2.2.1
 have e1:(aT (w::A) ln cl o).s.peek=w:=eR;unfold eS;rw[aa (by rw[xk];decide),aa (by rw[hv];decide),e1,ht,hk,ae ⟨hk1,rfl⟩,As hA];rfl
def UL{pe:ByteArray->Int}{E:dH}{p:ByteArray}{L:List Tok}{A:List Tok}{a:Tok}{B:List Tok}{ln cl o:Int}(h:PR pe p L)(hA:A.map Tok.z=L)(hf:nA a=false):
 eS E pe (aT (A++a::B) ln cl o)=(.mk 2 0 p [] [],aT (a::B) ln cl o):=by
 have hr:=h.rd A a B ln cl hA hf;obtain⟨a0,t0,e,h1,h2,h3⟩:=h.hd;rw[e]at hA;obtain⟨a1,A1,rfl,e1,e2⟩:=map_cons hA;have hk1:a1.kind=1:=by rw[<- h1,<- e1];rfl
 have ht:dQ a1.text=false:=by rw[<- h2,<- e1];rfl
 obtain⟨r1,r2⟩:=UK ht;have hv:(aT (a1::A1++a::B) ln cl o).s.val=false:=by
  show(ar (a1::(A1++a::B)) ln cl).val=false;rw[Ek hk1];exact r1
 have e3:(aT (a1::A1++a::B) ln cl o).s.peek=a1:=eR;unfold eS;rw[aa (by rw[xk];decide),aa (by rw[hv];decide),e3,r2,aa zsi,ae ⟨hk1,ht⟩];show(X.mk 2 0 (dN pe (ar (a1::A1++a::B) ln cl)).1 [] [],Rd.mk (dN pe (ar (a1::A1++a::B) ln cl)).2 o)=_;rw[hr]
def UM{pe:ByteArray->Int}{E:dH}{v:V}{L:List Tok}{A:List Tok}{a:Tok}{B:List Tok}{ln cl o:Int}(h:VR v L)(hA:A.map Tok.z=L):
 eS E pe (aT (A++a::B) ln cl o)=(.mk 1 0 ⟨#[]⟩ [v] [],aT (a::B) ln cl o):=by
 obtain⟨h1,h2⟩:=h.rd A a B ln cl hA;unfold eS;rw[aa (by rw[xk];decide),ae (show(aT (A++a::B) ln cl o).s.val=true from h1)];show(X.mk 1 0 ⟨#[]⟩ [(fw (ar (A++a::B) ln cl)).1] [],Rd.mk (fw (ar (A++a::B) ln cl)).2 o)=_;rw[h2]
def Kw{a:Tok}{l:List Tok}{ln cl o:Int}(h:a.z=sy dx true)(hl:l≠[]):dr (aT (a::l) ln cl o)=aT l ln cl o:=by
 show Rd.mk ((ar (a::l) ln cl).expect dx) o=_;rw[Ao (eT h rfl) hl]
def Kx{pe:ByteArray->Int}{op:Int}{r:Rd}{p:ByteArray}{s:St}(h:dN pe r.paren.s=(p,s))(hn:¬(op=26∧s.aH dx=true)):k8 pe op r=(.mk op 0 p [] [],(r.paren.to s).close):=by
 unfold k8;rw[h];exact aa hn
def UN{pe:ByteArray->Int}{r:Rd}{p:ByteArray}{s s':St}{n:Int}(h:dN pe r.paren.s=(p,s))(hc:s.aH dx=true)(hn:dI s.next=(n,s')):k8 pe 26 r=(.mk 26 n p [] [],(r.paren.to s').close):=by
 unfold k8;rw[h];refine(ae ⟨rfl,hc⟩).trans ?_;dsimp only;rw[hn]
def UO{a:Tok}(h:a.z=sy gO true):nA a=false:=(kY (b:=1) h Ei rfl).xh
def UP{a:Tok}(h:a.z=sy dx true):nA a=false:=(kY (b:=1) h Aq rfl).xh
def UQ{pe:ByteArray->Int}{w:Wh}{jb:Bool}{t:ByteArray}{L:List Tok}{m:Nat}(h:Pr pe w jb t L m):∀(n:Nat) (o:Int),m<=n->0<=o->o+m<=32->Uy pe n o w L:=by
 induction h with
 | up _ hm ih=>intro n o h1 h2 h3;exact ih n o zo h2 zo
 | dn h hb1 hb2 ih=>intro n o h1 h2 h3;exact Ku (gP h) hb1 hb2 (ih n o h1 h2 h3)
 | par h ih=>
  intro n o h1 h2 h3;obtain⟨k,rfl⟩:∃k,n=k+1:=⟨n-1,zo⟩
  have g:=ih k (o+1) zo zo zo;refine fh.of (ki zo) fun A a B ln cl hA hf=>?_;obtain⟨p,A1,rfl,e1,e2⟩:=map_cons hA;obtain⟨A2,A3,rfl,e3,e4⟩:=kh e2;obtain⟨q,A4,rfl,e5,e6⟩:=map_cons e4;have:=map_nil e6;subst this;rw[show p::(A2++[q])++a::B=p::(A2++q::a::B) by simp];exact UE e1 e5 zo (by rw[show dM pe (k+1)=ff pe k from rfl,xl];exact g.2 A2 q (a::B) ln cl e3 (kY e5 Ei rfl))
 | neg h hne _ ih=>
  intro n o h1 h2 h3;obtain⟨k,rfl⟩:∃k,n=k+1:=⟨n-1,zo⟩
  have g:=Ku (gP h) zd zd (ih k (o+1) zo zo zo);have hL:=(gP h).2.2;refine fh.of (ki zo) fun A a B ln cl hA hf=>?_;obtain⟨p,A1,rfl,e1,e2⟩:=map_cons hA;have hE:=g.2 A1 a B ln cl e2 hf;rw[<- UG]at hE;obtain⟨c0,u0,hc0⟩:=List.exists_cons_of_ne_nil hL;have hk:=hne c0 u0 hc0;rw[hc0]at e2;obtain⟨c1,A2,rfl,e3,e4⟩:=map_cons e2;have hk2:c1.kind≠2:=by rw[<- e3]at hk;exact hk
  show ib (ff pe k).2.2 (eS (ff pe k).1 pe) (aT (p::(c1::A2++a::B)) ln cl o)=_;unfold ib;refine(ae ⟨dS.trans (eT e1 rfl),?_⟩).trans (Kv zo hE);show(ar (p::(c1::A2++a::B)) ln cl).neg=false;rw[Ar];simp only[pg];rw[fD hk2];simp
 | not h ih=>
  intro n o h1 h2 h3;obtain⟨k,rfl⟩:∃k,n=k+1:=⟨n-1,zo⟩
  have g:=ih k (o+1) zo zo zo;refine fh.of (ki zo) fun A a B ln cl hA hf=>?_;obtain⟨p,A1,rfl,e1,e2⟩:=map_cons hA;have hE:=g.2 A1 a B ln cl e2 hf;rw[<- UF]at hE;show nC (ff pe k).2.1 (eH pe (dM pe (k+1)) 4) (aT (p::(A1++a::B)) ln cl o)=_;unfold nC;exact(ae (dS.trans (eT e1 rfl))).trans (Kv zo hE)
 | bin hc hk _ _ ih1 ih2=>intro n o h1 h2 h3;exact UH hc hk (ih1 n o h1 h2 h3) (ih2 n o h1 h2 h3)
 | cmp hk _ _ ih1 ih2=>intro n o h1 h2 h3;exact UI hk (ih1 n o h1 h2 h3) (ih2 n o h1 h2 h3)
 | Ap h g ih1 ih2=>
  intro n o h1 h2 h3;obtain⟨k,rfl⟩:∃k,n=k+1:=⟨n-1,zo⟩
  exact UJ zo (gP g).1 (Kt g _ rfl) (ih1 (k+1) o zo h2 zo) (ih2 k (o+1) zo zo zo)
 | val h _=>intro n o h1 h2 h3;exact fh.of (ki zo) fun A a B ln cl hA _=>UM h hA
 | path h _=>intro n o h1 h2 h3;exact fh.of (ki zo) fun A a B ln cl hA hf=>UL h hA hf.xh
 | call hk hn hd hl g ih=>
  intro n o h1 h2 h3;obtain⟨k,rfl⟩:∃k,n=k+1:=⟨n-1,zo⟩
  have g':=ih k (o+1) zo zo zo;have hlen:=Kt g _ rfl;refine fh.of (ki zo) fun A a B ln cl hA hf=>?_;obtain⟨w,A1,rfl,e1,e2⟩:=map_cons hA;obtain⟨p,A2,rfl,e3,e4⟩:=map_cons e2;obtain⟨A3,A4,rfl,e5,e6⟩:=kh e4;obtain⟨q,A5,rfl,e7,e8⟩:=map_cons e6;have:=map_nil e8;subst this;rw[show w::p::(A3++[q])++a::B=w::(p::(A3++q::a::B)) by simp];refine(xm e1 hk zsi).trans ?_;unfold kj
  rw[aa hn,aa hd,show(dM pe (k+1)).1=eH pe (dM pe k) 1 from xl pe k,
   Ks g' (gP g).1 zo (.inr ⟨by rw[hl];omega,hl⟩) (eT e3 rfl) e5 e7 (by have:=ak List.length e5;rw[kr]at this;omega)]
 | div g1 g2 hN _ _ ih1 ih2=>
  intro n o h1 h2 h3;obtain⟨k,rfl⟩:∃k,n=k+1:=⟨n-1,zo⟩
  have r1:=ih1 k (o+1) zo zo zo;have r2:=ih2 k (o+1) zo zo zo;refine fh.of (ki zo) fun A a B ln cl hA hf=>?_;obtain⟨w,A1,rfl,e1,e2⟩:=map_cons hA;obtain⟨p,A2,rfl,e3,e4⟩:=map_cons e2;obtain⟨A3,A4,rfl,e5,e6⟩:=kh e4;obtain⟨c1,A5,rfl,e7,e8⟩:=map_cons e6;obtain⟨A6,A7,rfl,e9,e10⟩:=kh e8;obtain⟨c2,A8,rfl,e11,e12⟩:=map_cons e10;obtain⟨A9,Zy,rfl,e13,e14⟩:=kh e12;obtain⟨q,Zz,rfl,e15,e16⟩:=map_cons e14;have:=map_nil e16;subst this;rw[show w::p::(A3++c1::(A6++c2::(A9++[q])))++a::B=w::(p::(A3++c1::(A6++c2::(A9++q::a::B)))) by simp];refine(xm (op:=15) (n:=2) e1 zd zsi).trans ?_;have s1:=r1.2 A3 c1 (A6++c2::(A9++q::a::B)) ln cl e5 (kY e7 Aq rfl);have s2:=r2.2 A6 c2 (A9++q::a::B) ln cl e9 (kY e11 Aq rfl);have s3:=hN A9 q (a::B) ln cl e13;rw[<- xl]at s1 s2;show qo (ff pe k).1 _=_;unfold qo;rw[oJ (eT e3 rfl) zsi zo,s1,Kw e7 zsi,s2,Kw e11 zsi];show(X.mk 15 (dI (ar (A9++q::a::B) ln cl)).1 ⟨#[]⟩ [] _,(Rd.mk (dI (ar (A9++q::a::B) ln cl)).2 (o+1)).close)=_;rw[s3];show(_,(aT (q::a::B) ln cl (o+1)).close)=_;rw[uq (eT e15 rfl) zsi]
 | has hk hp _=>
  intro n o h1 h2 h3;refine fh.of (ki zo) fun A a B ln cl hA hf=>?_;obtain⟨w,A1,rfl,e1,e2⟩:=map_cons hA;obtain⟨p,A2,rfl,e3,e4⟩:=map_cons e2;obtain⟨A3,A4,rfl,e5,e6⟩:=kh e4;obtain⟨q,A5,rfl,e7,e8⟩:=map_cons e6;have:=map_nil e8;subst this;rw[show w::p::(A3++[q])++a::B=w::(p::(A3++q::a::B)) by simp];have s1:=hp.rd A3 q (a::B) ln cl e5 (UO e7);have hq:(ar (q::a::B) ln cl).aH dx=false:=dS.trans (oK e7 rfl);rcases hk with⟨rfl,rfl⟩|⟨rfl,rfl⟩
  ·refine(xm (op:=22) (n:=0) e1 zd zsi).trans ?_;show k8 pe 22 (aT (p::(A3++q::a::B)) ln cl o)=_;refine(Kx (p:=_) (s:=ar (q::a::B) ln cl) (by rw[oJ (eT e3 rfl) zsi zo];exact s1) (fun k=>absurd k.1 zd)).trans ?_;rw[oJ (eT e3 rfl) zsi zo];show(_,(aT (q::a::B) ln cl (o+1)).close)=_;rw[uq (eT e7 rfl) zsi]
  ·refine(xm (op:=26) (n:=0) e1 zd zsi).trans ?_;show k8 pe 26 (aT (p::(A3++q::a::B)) ln cl o)=_;refine(Kx (p:=_) (s:=ar (q::a::B) ln cl) (by rw[oJ (eT e3 rfl) zsi zo];exact s1) (fun k=>by rw[hq]at k;exact absurd k.2 zd)).trans ?_;rw[oJ (eT e3 rfl) zsi zo];show(_,(aT (q::a::B) ln cl (o+1)).close)=_;rw[uq (eT e7 rfl) zsi]
 | sum hp _ hN _ _=>
  intro n o h1 h2 h3;refine fh.of (ki zo) fun A a B ln cl hA hf=>?_;obtain⟨w,A1,rfl,e1,e2⟩:=map_cons hA;obtain⟨p,A2,rfl,e3,e4⟩:=map_cons e2;obtain⟨A3,A4,rfl,e5,e6⟩:=kh e4;obtain⟨c1,A5,rfl,e7,e8⟩:=map_cons e6;obtain⟨A6,A7,rfl,e9,e10⟩:=kh e8;obtain⟨q,A8,rfl,e11,e12⟩:=map_cons e10;have:=map_nil e12;subst this;rw[show w::p::(A3++c1::(A6++[q]))++a::B=w::(p::(A3++c1::(A6++q::a::B))) by simp];have s1:=hp.rd A3 c1 (A6++q::a::B) ln cl e5 (UP e7);have s2:=hN A6 q (a::B) ln cl e9;have hq:(ar (c1::(A6++q::a::B)) ln cl).aH dx=true:=dS.trans (eT e7 rfl);refine(xm (op:=26) (n:=0) e1 zd zsi).trans ?_;show k8 pe 26 (aT (p::(A3++c1::(A6++q::a::B))) ln cl o)=_;refine(UN (p:=_) (s:=ar (c1::(A6++q::a::B)) ln cl) (s':=ar (q::a::B) ln cl) (by rw[oJ (eT e3 rfl) zsi zo];exact s1) hq (by rw[iA zsi];exact s2)).trans ?_;rw[oJ (eT e3 rfl) zsi zo];show(_,(aT (q::a::B) ln cl (o+1)).close)=_;rw[uq (eT e11 rfl) zsi]
 | last h ih=>intro n o h1 h2 h3;exact UB (gP h).2.2 (ih n o h1 h2 h3)
 | more h _ ih1 ih2=>intro n o h1 h2 h3;exact UC (gP h).2.2 (ih1 n o h1 h2 h3) (ih2 n o h1 h2 h3)
end Go.Ai
