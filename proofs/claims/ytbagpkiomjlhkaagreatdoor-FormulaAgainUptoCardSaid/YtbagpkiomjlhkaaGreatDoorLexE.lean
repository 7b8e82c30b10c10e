/- Chapter 15: the first of the scanner's ways that takes a token. -/
import Derived.Test.YtbagpkiomjlhkaaGreatDoorLexB
import Derived.Test.YtbagpkiomjlhkaaGreatDoorV
import Derived.Test.YtbagpkiomjlhkaaGreatDoorLexA
set_option linter.all false
namespace Go.Ai
open Go Go.Proofs Tryz
set_option maxRecDepth 100000
set_option maxHeartbeats 4000000
def fU:List AV:=[.a8 103 1001000000,.a8 104 1001000000,.a8 105 1001000000,.a8 106 1001000000,.a8 107 1001000000]
def Th(s:ByteArray)(i i':Nat)(w e w' e':Int)(t t':Tok)(k:Nat)(hk:k<=5)(hb:∀j,j<k->iy (103+j) s i w e t false i w e t)
 (h:(k<5∧iy (103+k) s i w e t true i' w' e' t')∨(k=5∧i'=i∧w'=w∧e'=e∧t'=t)) (r:Int) (hr:r=if k<5 then(k:Int)else -1):
 Af prog 172 [.bG 1000 5,.func 111 [.ptr 1001001000 0]] [(1000,.box fU),(1001001000,bE t),(1001000000,ah s i w e)] (.int .i64 fun _=>r) [(1000,.box fU),(1001001000,bE t'),(1001000000,ah s i' w' e')]:=by
 (refine fA [.tmp 4] lL [] func172 fun _=>?_;repeat' first|exact⟨⟩|apply mA|apply mC<;>intro)
 refine .loop (fun j:Nat=>⟨19,[(8,.int .i64 fun _=>(j:Int)),(7,.int .i64 fun _=>5),(0,.bG 1000 5),(1,.func 111 [.ptr 1001001000 0])],[(1000,.box fU),(1001001000,bE t),(1001000000,ah s i w e)]⟩)
  (fun j=>j<=k) (fun j=>5-j) 0 (aB _) ?_ fun j E hj=>?_
 ·exact aZ
 by_cases q:j=5
 ·subst q;have hk5:k=5:=by omega
  obtain⟨h1,_⟩|⟨_,rfl,rfl,rfl,rfl⟩:=h
  ·omega
  clear hb;subst hk5;rw[aa zd]at hr;subst hr;apply af.wk tF mF [] lL ?_
  (refine oA ?_;repeat' first|exact⟨⟩|apply mA|apply mC<;>intro)
  all_goals try exact absurd ‹((5:Nat):Int)<5› zd
  all_goals exact eZ
 by_cases q1:j<k
 ·have hf:=JN (hb j q1);have Zx:j<5:=by omega
  clear hb h hj hr q;rcases j with _|_|_|_|_|j
  ·show af _ _ _ _ _ (SS.st ⟨19,[(8,.int .i64 fun _=>(0:Int)),(7,.int .i64 fun _=>5),(0,.bG 1000 5),(1,.func 111 [.ptr 1001001000 0])],[(1000,.box fU),(1001001000,bE t),(1001000000,ah s i w e)]⟩);apply af.wk tF mF [(4,[(5,zO false,[(1000,ah s i w e),(1001,bE t)])])] lL ?_
   (refine oA ?_;repeat' first|exact⟨⟩|apply mA|apply mC<;>intro)
   all_goals try exact zB
   all_goals try exact absurd ‹(5:Int)<=0› zd
   (all_goals try first|exact eZ|(refine qC ?_;repeat' first|exact⟨⟩|apply mA))
   refine dE 1 ⟨q1,zd⟩ ?_
   exact aZ
  ·show af _ _ _ _ _ (SS.st ⟨19,[(8,.int .i64 fun _=>(1:Int)),(7,.int .i64 fun _=>5),(0,.bG 1000 5),(1,.func 111 [.ptr 1001001000 0])],[(1000,.box fU),(1001001000,bE t),(1001000000,ah s i w e)]⟩);apply af.wk tF mF [(4,[(5,zO false,[(1000,ah s i w e),(1001,bE t)])])] lL ?_
   (refine oA ?_;repeat' first|exact⟨⟩|apply mA|apply mC<;>intro)
   all_goals try exact zB
   all_goals try exact absurd ‹(5:Int)<=1› zd
   (all_goals try first|exact eZ|(refine qC ?_;repeat' first|exact⟨⟩|apply mA))
   refine dE 2 ⟨q1,zd⟩ ?_
   exact aZ
  ·show af _ _ _ _ _ (SS.st ⟨19,[(8,.int .i64 fun _=>(2:Int)),(7,.int .i64 fun _=>5),(0,.bG 1000 5),(1,.func 111 [.ptr 1001001000 0])],[(1000,.box fU),(1001001000,bE t),(1001000000,ah s i w e)]⟩);apply af.wk tF mF [(4,[(5,zO false,[(1000,ah s i w e),(1001,bE t)])])] lL ?_
   (refine oA ?_;repeat' first|exact⟨⟩|apply mA|apply mC<;>intro)
   all_goals try exact zB
   all_goals try exact absurd ‹(5:Int)<=2› zd
   (all_goals try first|exact eZ|(refine qC ?_;repeat' first|exact⟨⟩|apply mA))
   refine dE 3 ⟨q1,zd⟩ ?_
   exact aZ
  ·show af _ _ _ _ _ (SS.st ⟨19,[(8,.int .i64 fun _=>(3:Int)),(7,.int .i64 fun _=>5),(0,.bG 1000 5),(1,.func 111 [.ptr 1001001000 0])],[(1000,.box fU),(1001001000,bE t),(1001000000,ah s i w e)]⟩);apply af.wk tF mF [(4,[(5,zO false,[(1000,ah s i w e),(1001,bE t)])])] lL ?_
   (refine oA ?_;repeat' first|exact⟨⟩|apply mA|apply mC<;>intro)
   all_goals try exact zB
   all_goals try exact absurd ‹(5:Int)<=3› zd
   (all_goals try first|exact eZ|(refine qC ?_;repeat' first|exact⟨⟩|apply mA))
   refine dE 4 ⟨q1,zd⟩ ?_
   exact aZ
  ·show af _ _ _ _ _ (SS.st ⟨19,[(8,.int .i64 fun _=>(4:Int)),(7,.int .i64 fun _=>5),(0,.bG 1000 5),(1,.func 111 [.ptr 1001001000 0])],[(1000,.box fU),(1001001000,bE t),(1001000000,ah s i w e)]⟩);apply af.wk tF mF [(4,[(5,zO false,[(1000,ah s i w e),(1001,bE t)])])] lL ?_
   (refine oA ?_;repeat' first|exact⟨⟩|apply mA|apply mC<;>intro)
   all_goals try exact zB
   all_goals try exact absurd ‹(5:Int)<=4› zd
   (all_goals try first|exact eZ|(refine qC ?_;repeat' first|exact⟨⟩|apply mA))
   refine dE 5 ⟨q1,zd⟩ ?_
   exact aZ
  ·omega
 ·obtain rfl:j=k:=by omega
  obtain⟨h1,h2⟩|⟨h1,_⟩:=h
  ·have hf:=JN h2;rw[ae h1]at hr;clear hb hj q h2 q1 hk;subst hr;rcases j with _|_|_|_|_|j
   ·show af _ _ _ _ _ (SS.st ⟨19,[(8,.int .i64 fun _=>(0:Int)),(7,.int .i64 fun _=>5),(0,.bG 1000 5),(1,.func 111 [.ptr 1001001000 0])],[(1000,.box fU),(1001001000,bE t),(1001000000,ah s i w e)]⟩);apply af.wk tF mF [(4,[(5,zO true,[(1000,ah s i' w' e'),(1001,bE t')])])] lL ?_
    (refine oA ?_;repeat' first|exact⟨⟩|apply mA|apply mC<;>intro)
    all_goals try exact zB
    all_goals try exact absurd ‹(5:Int)<=0› zd
    all_goals exact eZ
   ·show af _ _ _ _ _ (SS.st ⟨19,[(8,.int .i64 fun _=>(1:Int)),(7,.int .i64 fun _=>5),(0,.bG 1000 5),(1,.func 111 [.ptr 1001001000 0])],[(1000,.box fU),(1001001000,bE t),(1001000000,ah s i w e)]⟩);apply af.wk tF mF [(4,[(5,zO true,[(1000,ah s i' w' e'),(1001,bE t')])])] lL ?_
    (refine oA ?_;repeat' first|exact⟨⟩|apply mA|apply mC<;>intro)
    all_goals try exact zB
    all_goals try exact absurd ‹(5:Int)<=1› zd
    all_goals exact eZ
   ·show af _ _ _ _ _ (SS.st ⟨19,[(8,.int .i64 fun _=>(2:Int)),(7,.int .i64 fun _=>5),(0,.bG 1000 5),(1,.func 111 [.ptr 1001001000 0])],[(1000,.box fU),(1001001000,bE t),(1001000000,ah s i w e)]⟩);apply af.wk tF mF [(4,[(5,zO true,[(1000,ah s i' w' e'),(1001,bE t')])])] lL ?_
    (refine oA ?_;repeat' first|exact⟨⟩|apply mA|apply mC<;>intro)
    all_goals try exact zB
    all_goals try exact absurd ‹(5:Int)<=2› zd
    all_goals exact eZ
   ·show af _ _ _ _ _ (SS.st ⟨19,[(8,.int .i64 fun _=>(3:Int)),(7,.int .i64 fun _=>5),(0,.bG 1000 5),(1,.func 111 [.ptr 1001001000 0])],[(1000,.box fU),(1001001000,bE t),(1001000000,ah s i w e)]⟩);apply af.wk tF mF [(4,[(5,zO true,[(1000,ah s i' w' e'),(1001,bE t')])])] lL ?_
    (refine oA ?_;repeat' first|exact⟨⟩|apply mA|apply mC<;>intro)
    all_goals try exact zB
    all_goals try exact absurd ‹(5:Int)<=3› zd
    all_goals exact eZ
   ·show af _ _ _ _ _ (SS.st ⟨19,[(8,.int .i64 fun _=>(4:Int)),(7,.int .i64 fun _=>5),(0,.bG 1000 5),(1,.func 111 [.ptr 1001001000 0])],[(1000,.box fU),(1001001000,bE t),(1001000000,ah s i w e)]⟩);apply af.wk tF mF [(4,[(5,zO true,[(1000,ah s i' w' e'),(1001,bE t')])])] lL ?_
    (refine oA ?_;repeat' first|exact⟨⟩|apply mA|apply mC<;>intro)
    all_goals try exact zB
    all_goals try exact absurd ‹(5:Int)<=4› zd
    all_goals exact eZ
   ·omega
  ·omega
def any_ok(s:ByteArray)(i i':Nat)(w e w' e':Int)(t t':Tok)(k:Nat)(hk:k<=5)(hb:∀j,j<k->iy (103+j) s i w e t false i w e t)
 (h:(k<5∧iy (103+k) s i w e t true i' w' e' t')∨(k=5∧i'=i∧w'=w∧e'=e∧t'=t)) (r:Bool) (hr:r=decide (k<5)):
 Af prog 110 [.bG 1000 5,.func 111 [.ptr 1001001000 0]] [(1000,.box fU),(1001001000,bE t),(1001000000,ah s i w e)] (.bool fun _=>r) [(1000,.box fU),(1001001000,bE t'),(1001000000,ah s i' w' e')]:=by
 have h1:=Th s i i' w e w' e' t t' k hk hb h _ rfl;obtain⟨n,hn⟩:∃n:Int,n=if k<5 then(k:Int)else -1:=⟨_,rfl⟩
 rw[<- hn]at h1;have hb:r=decide (0<=n):=by
  rw[hr,hn];split
  ·rename_i q;simp[q]
  ·rename_i q;simp[q]
 rw[hb]
 (refine fA [.tmp 4] Ti [(1,[(2,zI n,[(1000,.box fU),(1001001000,bE t'),(1001000000,ah s i' w' e')])])] func110 fun _=>?_;repeat' first|exact⟨⟩|apply mA|apply mC<;>intro)
 all_goals try exact zB
 all_goals exact eZ
def pm(s:ByteArray)(i:Nat):∃b:UInt8,ad s i=b.toNat:=by
 rcases iG i s.size with h|h
 ·obtain⟨b,_,hb⟩:=qg h;exact⟨b,hb⟩
 ·exact⟨0,qe h⟩
def wV{s:ByteArray}{i:Nat}{a b:UInt8}(hi:i<s.size)(hb:b≠0):dp (s.extract i s.size) ⟨#[a,b]⟩=(ad s i==(a.toNat:Int)&&ad s (i+1)==(b.toNat:Int)):=by
 unfold dp Lib.hasPrefix;rw[z6];obtain⟨x,hx,hx2⟩:=qg hi;rw[hx];have key:∀u v:UInt8,(u==v)=(((v.toNat:Nat):Int)==(u.toNat:Int)):=fun u v=>by
  rw[mQ];simp only[dv];exact⟨fun h=>by rw[h],fun h=>ji.1 zo⟩
 rcases iG (i+1) s.size with h|h
 ·obtain⟨y,hy,hy2⟩:=qg h;rw[hy,hx2,hy2];show(a==x&&(b==y&&true))=_;rw[Bool.and_true,key a x,key b y]
 ·have hd:s.data.toList.drop (i+1)=[]:=xV.2 (by rw[fY];exact h);rw[hd,qe h,hx2];show(a==x&&false)=_;have:((0:Int)==(b.toNat:Int))=false:=by
   rw[uT];intro h0;exact hb (ji.1 (by show b.toNat=0;omega))
  rw[this,FG,FG]
def JO(b:UInt8):(0<=ek ones (b.toNat:Int))↔iY (b.toNat:Int)=true:=by
 have key:((List.range 256).all fun n=>decide (0<=ek ones (n:Int))==iY (n:Int))=true:=zk
 have:=cI.1 key b.toNat (qK.2 b.toNat_lt)
 rw[<- uM this];simp
def Tj(c:Int):ek ones c<0↔¬0<=ek ones c:=zo
def Tl{s:ByteArray}{i:Nat}(hi:i<s.size):(gM s i=false∧∀j,j<5->dp (s.extract i s.size) (dG j)=false) ∨
 (gM s i=true∧∃k,k<5∧dp (s.extract i s.size) (dG k)=true∧(∀j,j<k->dp (s.extract i s.size) (dG j)=false)∧dG k=s.extract i (i+2)):=by
 have h0:dp (s.extract i s.size) (dG 0)=(ad s i==45&&ad s (i+1)==62):=wV (a:=45) (b:=62) hi zd;have h1:dp (s.extract i s.size) (dG 1)=(ad s i==33&&ad s (i+1)==61):=wV (a:=33) (b:=61) hi zd;have h2:dp (s.extract i s.size) (dG 2)=(ad s i==60&&ad s (i+1)==61):=wV (a:=60) (b:=61) hi zd;have h3:dp (s.extract i s.size) (dG 3)=(ad s i==62&&ad s (i+1)==61):=wV (a:=62) (b:=61) hi zd;have h4:dp (s.extract i s.size) (dG 4)=(ad s i==46&&ad s (i+1)==46):=wV (a:=46) (b:=46) hi zd;have hp:gM s i=(dp (s.extract i s.size) (dG 0)||dp (s.extract i s.size) (dG 1)||dp (s.extract i s.size) (dG 2)||dp (s.extract i s.size) (dG 3)||dp (s.extract i s.size) (dG 4)):=by
  rw[h0,h1,h2,h3,h4];rfl
 have hx:∀a b:UInt8,(ad s i==(a.toNat:Int)&&ad s (i+1)==(b.toNat:Int))=true->b≠0->(⟨#[a,b]⟩:ByteArray)=s.extract i (i+2):=by
  intro a b h hb;simp only[az,dv]at h;obtain⟨h1,h2⟩:=h;have hlt:i+1<s.size:=by
   rcases iG (i+1) s.size with h|h
   ·exact h
   ·rw[qe h]at h2;exact absurd (ji.1 (show b.toNat=0 by omega)) hb
  obtain⟨x,hx,hx2⟩:=qg hi;obtain⟨y,hy,hy2⟩:=qg hlt;have ex:x=a:=ji.1 zo;have ey:y=b:=ji.1 zo;apply gp;apply Fu.1;rw[jh,xZ];simp only[List.extract];rw[hx,hy,ex,ey,show i+2-i=2 by omega];rfl
 have kk:∀k,k<5->dp (s.extract i s.size) (dG k)=true->dG k=s.extract i (i+2):=by
  intro k hk hp;rcases k with _|_|_|_|_|k
  ·exact hx 45 62 (h0▸hp) zd
  ·exact hx 33 61 (h1▸hp) zd
  ·exact hx 60 61 (h2▸hp) zd
  ·exact hx 62 61 (h3▸hp) zd
  ·exact hx 46 46 (h4▸hp) zd
  ·omega
 clear h0 h1 h2 h3 h4 hx;rw[hp];by_cases g:∃k,k<5∧dp (s.extract i s.size) (dG k)=true
 ·refine .inr ?_;have least:∀n,(∃k,k<n∧dp (s.extract i s.size) (dG k)=true)->∃k,k<n∧dp (s.extract i s.size) (dG k)=true∧∀j,j<k->dp (s.extract i s.size) (dG j)=false:=by
   intro n
   induction n with
   | zero=>rintro⟨k,hk,_⟩;omega
   | succ n ih=>
    rintro⟨k,hk,hp⟩;by_cases g:∃k,k<n∧dp (s.extract i s.size) (dG k)=true
    ·obtain⟨k,a,b,c⟩:=ih g;exact⟨k,zo,b,c⟩
    ·have hkn:k=n:=by
      rcases iG k n with h|h
      ·exact absurd ⟨k,h,hp⟩ g
      ·omega
     subst hkn;refine⟨k,zo,hp,fun j hj=>?_⟩;cases hq:dp (s.extract i s.size) (dG j)with
     | false=>rfl
     | true=>exact absurd ⟨j,hj,hq⟩ g
  obtain⟨k,a,b,c⟩:=least 5 g;refine⟨?_,k,a,b,c,kk k a b⟩;rcases k with _|_|_|_|_|k
  ·simp[b]
  ·simp[b]
  ·simp[b]
  ·simp[b]
  ·simp[b]
  ·omega
 ·have f:∀j,j<5->dp (s.extract i s.size) (dG j)=false:=fun j hj=>by
   cases hq:dp (s.extract i s.size) (dG j)with
   | false=>rfl
   | true=>exact absurd ⟨j,hj,hq⟩ g
  refine .inl ⟨?_,f⟩;rw[f 0 zo,f 1 zo,f 2 zo,f 3 zo,f 4 zo];rfl
structure PlainT(dec:ByteArray->Int×Int×Int)(s:ByteArray):Prop where
 size:s.size<=65536
 quote:∀i,ad s i≠34
 one:∀i,bD (ad s i)=true->bD (ad s (i+1))=false∧ad s (i+1)≠46∧ad s (i+1)≠100
 dec:∀i,bD (ad s i)=true->Af prog 167 [.str fun _=>s.extract i (i+1)] [] (.ag [.agg [.int .i64 fun _=>(dec (s.extract i (i+1))).1,.int .i64 fun _=>(dec (s.extract i (i+1))).2.1],.int .i64 fun _=>0]) []∧(dec (s.extract i (i+1))).2.2=0
abbrev JP:=Nat×List Tok×Nat×(Int×Int)×Int×Nat
def z8(s:ByteArray)(x:JP):SS:=
 ⟨124,[(9,.int .i64 fun _=>x.2.2.2.2.1),(8,.int .i64 fun _=>(x.2.2.2.2.2:Int)),(4,.int .i64 fun _=>x.2.2.2.1.2),(3,.int .i64 fun _=>x.2.2.2.1.1),(7,.bG 29 5),(6,.ptr 18 0),(2,.aJ 119 1 fun _=>x.2.1.length),(0,.str fun _=>s)],
  [(18,ah s x.2.2.1 0 0),(29,.box [.a8 103 18,.a8 104 18,.a8 105 18,.a8 106 18,.a8 107 18]),(119,.arr false 52 8 1 (fun _=>x.2.1.length) (oD fun _=>x.2.1))]⟩
def JQ(l:List Tok)(t:Tok)(i:Nat)(hi:i<l.length+1):aD (dO (fun _=>l.length) (oD fun _=>l) (dY [nv fun _=>t]) fun _=>i) (oD (fun _=>l++[t]) fun _=>i):=by
 refine aD.of_eq ?_;have e:∀a b:Tok,a=b->(nv fun _=>a)=nv fun _=>b:=fun a b h=>by rw[h]
 unfold dO;by_cases q:i<l.length
 ·rw[ae q];refine e _ _ ?_;show l.getD i default=(l++[t]).getD i default;rw[cz,cz,gS q]
 ·rw[aa q];obtain rfl:i=l.length:=by omega
  have h1:(dY [nv fun _=>t] fun _=>l.length-l.length)=nv fun _=>t:=by rw[ku];rfl
  refine h1.trans (e _ _ ?_);show t=(l++[t]).getD l.length default;rw[cz,jd (ao _),ku];rfl
def iu{s:ByteArray}{i:Nat}(h:ad s i≠0):i<s.size:=by
 rcases iG i s.size with g|g
 ·exact g
 ·exact absurd (qe g) h
def qh{s:ByteArray}{i j k:Nat}(h:k<j-i)(hj:j<=s.size):ad (s.extract i j) k=ad s (i+k):=by
 have h2:(s.extract i j).data[k]? = s.data[i+k]? := by
  rw[jh,Array.getElem?_extract,ae (by have:s.data.size=s.size:=rfl;omega)]
 unfold ad;rw[h2]
end Go.Ai
