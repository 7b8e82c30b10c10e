/- Chapter 17: the reader: values. -/
import Derived.Test.YtbagpkiomjlhkaaGreatDoorRdF
import Derived.Test.YtbagpkiomjlhkaaGreatDoorWide
import Derived.Test.YtbagpkiomjlhkaaGreatDoorCalR
set_option linter.all false
namespace Go.Ai
open Go Go.Proofs Tryz
set_option maxRecDepth 100000
set_option maxHeartbeats 4000000
def sc(k n sc:Int)(t:ByteArray):V:=.mk k n sc t [] []
def AN{e:Nat}{k n s:Int}{t:ByteArray}(ht:t.size<=1073741824):V.le (e+1) (sc k n s t):=
 ⟨aB _,aB _,ht,fun x hx=>(by cases hx),fun x hx=>(by cases hx)⟩
def L5(e:Nat)(n:Int):Af prog 72 [.int .i64 fun _=>n] [] (aK (e+1) .any fun _=>sc 2 n 0 ⟨#[]⟩) []:=by
 (refine fB [.cell 2 56] Xr [] func72 fun _=>?_;repeat' first|exact⟨⟩|apply mA|apply mC<;>intro)
 all_goals rfl
def L6(e:Nat)(n s:Int):Af prog 74 [.int .i64 fun _=>n,.int .i64 fun _=>s] [] (aK (e+1) .any fun _=>sc 3 n s ⟨#[]⟩) []:=by
 (refine fB [.cell 4 56] Xs [] func74 fun _=>?_;repeat' first|exact⟨⟩|apply mA|apply mC<;>intro)
 all_goals rfl
def Xt(e:Nat)(s:ByteArray):Af prog 75 [.str fun _=>s] [] (aK (e+1) .any fun _=>sc 4 0 0 s) []:=by
 (refine fB [.cell 2 56] Xu [] func75 fun _=>?_;repeat' first|exact⟨⟩|apply mA|apply mC<;>intro)
 all_goals rfl
def Xv(e:Nat)(s:ByteArray):Af prog 76 [.str fun _=>s] [] (aK (e+1) .any fun _=>sc 5 0 0 s) []:=by
 (refine fB [.cell 2 56] Xw [] func76 fun _=>?_;repeat' first|exact⟨⟩|apply mA|apply mC<;>intro)
 all_goals rfl
def Xx(e:Nat)(n:Int):Af prog 124 [.int .i64 fun _=>n] [] (aK (e+1) .any fun _=>sc 6 n 0 ⟨#[]⟩) []:=by
 (refine fB [.cell 2 56] Xy [] func124 fun _=>?_;repeat' first|exact⟨⟩|apply mA|apply mC<;>intro)
 all_goals rfl
def Xz(e:Nat)(n:Int):Af prog 125 [.int .i64 fun _=>n] [] (aK (e+1) .any fun _=>sc 7 n 0 ⟨#[]⟩) []:=by
 (refine fB [.cell 2 56] XA [] func125 fun _=>?_;repeat' first|exact⟨⟩|apply mA|apply mC<;>intro)
 all_goals rfl
def qq(b:Bool):V:=sc 1 (if b=true then 1 else 0) 0 ⟨#[]⟩
def XB(e:Nat)(b:Bool):Af prog 126 [.bool fun _=>b] [] (aK (e+1) .any fun _=>qq b) []:=by
 cases b <;>
 ·(refine fB [.cell 2 56] XC [] func126 fun _=>?_;repeat' first|exact⟨⟩|apply mA|apply mC<;>intro)
  all_goals rfl
def qr:ByteArray:=⟨#[100,97,116,101]⟩
def oR:ByteArray:=⟨#[116,105,109,101]⟩
def uw:ByteArray:=⟨#[116,114,117,101]⟩
def XD(e:Nat)(s:St)(t:ByteArray)(h1:t≠qr)(h2:t≠oR):Af prog 77 [.ptr 1000 0,.str fun _=>t] [(1000,am fun _=>s)] (aK (e+1) .any fun _=>qq (decide (t=uw))) [(1000,am fun _=>s)]:=by
 have h3:=XB e (decide (t=uw));obtain⟨b,hb⟩:∃b,b=decide (t=uw):=⟨_,rfl⟩
 rw[<- hb]at h3 ⊢;generalize qq b=v at*
 (refine fA [.cell 4 56] Fd [(10,[(2,aK (e+1) .any fun _=>v,[])])] func77 fun _=>?_;repeat' first|exact⟨⟩|apply mA|apply mC<;>intro)
 all_goals try exact absurd ‹t=(⟨#[100,97,116,101]⟩:ByteArray)› h1
 all_goals try exact absurd ‹t=(⟨#[116,105,109,101]⟩:ByteArray)› h2
 any_goals((with_reducible refine nO ?_);rw[hb]at h3;exact h3)
 all_goals exact eZ
def jx(t:ByteArray)(s:St):V×St:=
 if t=qr then(sc 6 (lZ (s.fS 3).value).1 0 ⟨#[]⟩,(s.take 3).fail (lZ (s.fS 3).value).2)
 else if t=oR then(sc 7 (l7 (s.fS 3).value).1 0 ⟨#[]⟩,(s.take 3).fail (l7 (s.fS 3).value).2)
 else(qq (decide (t=uw)),s)
def XE(e:Nat)(s:St)(t:ByteArray)(hl:s.l.length<=1073741824)(hv:(s.fS 3).value.size<=1073741824):Af prog 77 [.ptr 1000 0,.str fun _=>t] [(1000,am fun _=>s)] (aK (e+1) .any fun _=>(jx t s).1) [(1000,am fun _=>(jx t s).2)]:=by
 have h1:=SC s 3 hl;unfold jx;by_cases c1:t=qr
 ·subst c1;rw[ae rfl];dsimp only;have h2:=M9 (s.fS 3).value hv;have h3:=j6 (s.take 3) (lZ (s.fS 3).value).2;have h4:=Xx e (lZ (s.fS 3).value).1;generalize lZ (s.fS 3).value=q at*;generalize (s.take 3).fail q.2=u at*;generalize s.take 3=w at*;generalize s.fS 3=k at*;generalize sc 6 q.1 0 ⟨#[]⟩=v at*
  (refine fA [.cell 4 56] Fd [(3,[(1,zK k,zS w),(3,.ag [.int .i64 fun _=>q.1,.int .i64 fun _=>q.2],[])]),(4,[(2,zT,zS u)]),(5,[(1,aK (e+1) .any fun _=>v,[])])] func77 fun _=>?_;repeat' first|exact⟨⟩|apply mA|apply mC<;>intro)
  all_goals try exact zB
  all_goals try exact absurd rfl ‹¬qr=_›
  all_goals try exact eZ
  all_goals(try exact fun _=>rfl)
 rw[aa c1];by_cases c2:t=oR
 ·subst c2;rw[ae rfl];dsimp only;have h2:=Nb (s.fS 3).value hv;have h3:=j6 (s.take 3) (l7 (s.fS 3).value).2;have h4:=Xz e (l7 (s.fS 3).value).1;generalize l7 (s.fS 3).value=q at*;generalize (s.take 3).fail q.2=u at*;generalize s.take 3=w at*;generalize s.fS 3=k at*;generalize sc 7 q.1 0 ⟨#[]⟩=v at*
  (refine fA [.cell 4 56] Fd [(7,[(1,zK k,zS w),(3,.ag [.int .i64 fun _=>q.1,.int .i64 fun _=>q.2],[])]),(8,[(2,zT,zS u)]),(9,[(1,aK (e+1) .any fun _=>v,[])])] func77 fun _=>?_;repeat' first|exact⟨⟩|apply mA|apply mC<;>intro)
  all_goals try exact zB
  all_goals try exact absurd rfl ‹¬oR=_›
  all_goals try exact absurd ‹oR=(⟨#[100,97,116,101]⟩:ByteArray)› c1
  all_goals try exact eZ
  all_goals(try exact fun _=>rfl)
 ·rw[aa c2];exact XD e s t c1 c2
def rX(t:ByteArray):Bool:=Lib.hasSuffix t.data.toList [100]
def XF(t:ByteArray)(ht:t.size<=1073741824):Af prog 73 [.str fun _=>t,.str fun _=>⟨#[100]⟩] [] (.bool fun _=>rX t) []:=
 Af.pure (vals:=#[.string t,.string ⟨#[100]⟩]) func73 rfl rfl fun w=>Any.strings_HasSuffix lays100 t ⟨#[100]⟩ w zo
structure de(t:Tok):Prop where
 size:t.text.size<=65536
 L7:t.value.size<=65536
 num : -1000000000000000<=t.num∧t.num<=1000000000000000
 sc:0<=t.scale
 k1:t.kind=1->bJ (ad t.text 0)=true
 k2:t.kind=2->0<t.text.size∧0<=t.num
 k5:t.kind=5->bJ (ad t.text 0)=false
 uB:Asc t.text
def de.default:de default:=⟨aB _,aB _,⟨zd,zd⟩,zd,fun h=>absurd h zd,fun h=>absurd h zd,fun h=>absurd h zd,Asc.nil⟩
def eu.peek{P:Tok->Prop}(hd:P default){s:St}(h:eu P s):P s.peek:=by
 unfold St.peek;split
 ·rename_i q;obtain⟨_,hl⟩:=lI q;rw[show s.l.getD 0 default=s.l[0] by simp[List.getD,hl]];exact h.tk _ (d9 hl)
 ·exact hd
def bP:ByteArray:=⟨#[45]⟩
def i8(m:Bool)(x:Tok):V:=if x.scale≠0∨rX x.text=true then sc 3 (if m=true then -x.num else x.num) x.scale ⟨#[]⟩else sc 2 (if m=true then -x.num else x.num) 0 ⟨#[]⟩
def gR(m:Bool)(x:Tok)(s:St):V×St:=if x.kind=2 then(i8 m x,s)else if x.kind=3 then(sc 4 0 0 x.value,s)else if x.kind=4 then(sc 5 0 0 x.value,s)else jx x.text s
def fw(s:St):V×St:=
 if s.e≠0 then(default,s)else if s.val=false then(default,s.fail 13)else
 (if(gR (s.aH bP) (s.accept bP).peek (s.accept bP).next).2.e≠0 then default else(gR (s.aH bP) (s.accept bP).peek (s.accept bP).next).1,(gR (s.aH bP) (s.accept bP).peek (s.accept bP).next).2)
def XG{e:Nat}(t:ByteArray)(s:St):V.le (e+1) (jx t s).1:=by
 unfold jx qq
 (repeat' split)<;>exact AN (aB _)
def XH{e:Nat}(m:Bool)(x:Tok)(s:St)(hx:x.value.size<=65536):V.le (e+1) (gR m x s).1:=by
 unfold gR i8;split
 ·split<;>exact AN (aB _)
 split
 ·exact AN (aG hx zd)
 split
 ·exact AN (aG hx zd)
 ·exact XG _ _
def Steps.take(s:St)(k:Int):Steps s (s.take k):=by
 unfold St.take;split
 ·exact .next _
 ·exact .fail _ _
def XI(t:ByteArray)(s:St):Steps s (jx t s).2:=by
 unfold jx;split
 ·exact(Steps.take s 3).trans (.fail _ _)
 split
 ·exact(Steps.take s 3).trans (.fail _ _)
 ·exact .refl _
def XJ(m:Bool)(x:Tok)(s:St):Steps s (gR m x s).2:=by
 unfold gR;split
 ·exact .refl _
 split
 ·exact .refl _
 split
 ·exact .refl _
 ·exact XI _ _
def XK(e:Nat)(s:St)(h:eu de s):Af prog 30 [.ptr 1000 0] [(1000,am fun _=>s)] (aK (e+1) .any fun _=>(fw s).1) [(1000,am fun _=>(fw s).2)]:=by
 have hl:=aG h.len (zd:65537<=1073741824);have h1:=rC s;have h2:=LU s hl;have h3:=j6 s 13;have h4:=zQ s bP hl;have ha:Steps s (s.accept bP):=.accept s bP;have hga:=h.go ha;have h5:=kV (s.accept bP) (aG hga.len zd);have hx:=hga.peek de.default;have hgn:=hga.go (Steps.next _);have htk:((s.accept bP).next.fS 3).value.size<=65536:=by
  unfold St.fS;split
  ·exact(hgn.peek de.default).L7
  ·exact aB _
 have hgl:=hgn.len;unfold fw;by_cases c1:s.e≠0
 ·rw[ae c1];dsimp only
  (refine fA [.cell 2 56] nH [(1,[(4,.bool fun _=>s.e != 0,zS s)])] func30 fun _=>?_;repeat' first|exact⟨⟩|apply mA|apply mC<;>intro)
  all_goals(try simp only[aF])
  all_goals try exact zB
  all_goals try exact absurd ‹True∧s.e=0› (fun g=>c1 g.2)
  (all_goals try first|exact eZ|(refine qC ?_;repeat' first|exact⟨⟩|apply mA))
  exact fun _=>rfl
 rw[aa c1];have c1:s.e=0:=fp c1;rw[show(s.e != 0)=false by simp[c1]]at h1;cases c2:s.val with
 | false=>
  rw[c2]at h2;rw[ae rfl];dsimp only;generalize s.fail 13=u at*
  (refine fA [.cell 2 56] nH [(1,[(4,zO false,zS s)]),(3,[(1,zO false,zS s)]),(4,[(1,zT,zS u)])] func30 fun _=>?_;repeat' first|exact⟨⟩|apply mA|apply mC<;>intro)
  all_goals(try simp only[aF])
  all_goals try exact zB
  all_goals try exact absurd ‹False∧True› (fun g=>g.1)
  (all_goals try first|exact eZ|(refine qC ?_;repeat' first|exact⟨⟩|apply mA))
  exact fun _=>rfl
 | true=>
  rw[c2]at h2;rw[aa zsi];dsimp only;have hn0:(s.accept bP).next.e=0:=by
   have e1:∀t:St,t.e=0->t.next.e=0:=fun t ht=>by unfold St.next;split<;>exact ht
   unfold St.accept;split
   ·exact e1 _ (e1 _ c1)
   ·exact e1 _ c1
  have h6:=rC (s.accept bP).next;rw[hn0]at h6;have h6:Af prog 52 [.ptr 1000 0] [(1000,am fun _=>(s.accept bP).next)] (.bool fun _=>false) [(1000,am fun _=>(s.accept bP).next)]:=h6;generalize s.aH bP=m at*;generalize (s.accept bP).peek=x at*;generalize (s.accept bP).next=t at*;generalize s.accept bP=u at*;by_cases c3:x.kind=2
  ·unfold gR;rw[ae c3];dsimp only;rw[aa (fun g=>g hn0)];have h7:=XF x.text (aG hx.size zd);have ZJ:=hx.num;have hw:IntKind.i64.wrap (0-x.num) = -x.num:=by rw[ax zo zo];omega
   unfold i8;generalize rX x.text=f at*;cases m with
   | true=>
    rw[show(if true=true then -x.num else x.num) = -x.num from rfl];have h8:=L5 e (-x.num);have h9:=L6 e (-x.num) x.scale;by_cases c4:x.scale≠0∨f=true
    ·rw[ae c4];generalize sc 2 (-x.num) 0 ⟨#[]⟩=v1 at*;generalize sc 3 (-x.num) x.scale ⟨#[]⟩=v2 at*
     (refine fA [.cell 2 56] nH [(1,[(4,zO false,zS s)]),(3,[(1,zO true,zS s)]),(6,[(1,zO true,zS u)]),(7,[(1,zK x,zS t)]),
       (15,[(2,aK (e+1) .any fun _=>v1,[])]),(16,[(6,zO f,[])]),(17,[(4,aK (e+1) .any fun _=>v2,[])]),(22,[(1,zO false,zS t)])] func30 fun _=>?_;repeat' first|exact⟨⟩|apply mA|apply mC<;>intro)
     all_goals(try simp only[aF])
     any_goals((with_reducible first|refine nO ?_|refine sO (fun _=>?_));first|exact h1|exact h2|exact h4|exact h5|exact h6|exact h7|(simp only[hw];exact h8)|(simp only[hw];exact h9)|exact h8|exact h9)
     all_goals try exact absurd ‹False∧True› (fun g=>g.1)
     all_goals try exact absurd ‹¬x.kind=2› (fun g=>g c3)
     all_goals try exact absurd ‹x.scale=0∧f=false› (fun g=>c4.elim (fun k=>k g.1) (fun k=>by rw[g.2]at k;cases k))
     (all_goals try first|exact eZ|(refine qC ?_;repeat' first|exact⟨⟩|apply mA))
     exact fun _=>rfl
    ·rw[aa c4];generalize sc 2 (-x.num) 0 ⟨#[]⟩=v1 at*;generalize sc 3 (-x.num) x.scale ⟨#[]⟩=v2 at*
     (refine fA [.cell 2 56] nH [(1,[(4,zO false,zS s)]),(3,[(1,zO true,zS s)]),(6,[(1,zO true,zS u)]),(7,[(1,zK x,zS t)]),
       (15,[(2,aK (e+1) .any fun _=>v1,[])]),(16,[(6,zO f,[])]),(17,[(4,aK (e+1) .any fun _=>v2,[])]),(22,[(1,zO false,zS t)])] func30 fun _=>?_;repeat' first|exact⟨⟩|apply mA|apply mC<;>intro)
     all_goals(try simp only[aF])
     any_goals((with_reducible first|refine nO ?_|refine sO (fun _=>?_));first|exact h1|exact h2|exact h4|exact h5|exact h6|exact h7|(simp only[hw];exact h8)|(simp only[hw];exact h9)|exact h8|exact h9)
     all_goals try exact absurd ‹False∧True› (fun g=>g.1)
     all_goals try exact absurd ‹¬x.kind=2› (fun g=>g c3)
     all_goals try exact absurd ‹¬x.scale=0∨f=true› c4
     (all_goals try first|exact eZ|(refine qC ?_;repeat' first|exact⟨⟩|apply mA))
     exact fun _=>rfl
   | false=>
    rw[show(if false=true then -x.num else x.num)=x.num from rfl];have h8:=L5 e x.num;have h9:=L6 e x.num x.scale;by_cases c4:x.scale≠0∨f=true
    ·rw[ae c4];generalize sc 2 x.num 0 ⟨#[]⟩=v1 at*;generalize sc 3 x.num x.scale ⟨#[]⟩=v2 at*
     (refine fA [.cell 2 56] nH [(1,[(4,zO false,zS s)]),(3,[(1,zO true,zS s)]),(6,[(1,zO false,zS u)]),(7,[(1,zK x,zS t)]),
       (15,[(2,aK (e+1) .any fun _=>v1,[])]),(16,[(6,zO f,[])]),(17,[(4,aK (e+1) .any fun _=>v2,[])]),(22,[(1,zO false,zS t)])] func30 fun _=>?_;repeat' first|exact⟨⟩|apply mA|apply mC<;>intro)
     all_goals(try simp only[aF])
     any_goals((with_reducible first|refine nO ?_|refine sO (fun _=>?_));first|exact h1|exact h2|exact h4|exact h5|exact h6|exact h7|(simp only[hw];exact h8)|(simp only[hw];exact h9)|exact h8|exact h9)
     all_goals try exact absurd ‹False∧True› (fun g=>g.1)
     all_goals try exact absurd ‹¬x.kind=2› (fun g=>g c3)
     all_goals try exact absurd ‹x.scale=0∧f=false› (fun g=>c4.elim (fun k=>k g.1) (fun k=>by rw[g.2]at k;cases k))
     (all_goals try first|exact eZ|(refine qC ?_;repeat' first|exact⟨⟩|apply mA))
     exact fun _=>rfl
    ·rw[aa c4];generalize sc 2 x.num 0 ⟨#[]⟩=v1 at*;generalize sc 3 x.num x.scale ⟨#[]⟩=v2 at*
     (refine fA [.cell 2 56] nH [(1,[(4,zO false,zS s)]),(3,[(1,zO true,zS s)]),(6,[(1,zO false,zS u)]),(7,[(1,zK x,zS t)]),
       (15,[(2,aK (e+1) .any fun _=>v1,[])]),(16,[(6,zO f,[])]),(17,[(4,aK (e+1) .any fun _=>v2,[])]),(22,[(1,zO false,zS t)])] func30 fun _=>?_;repeat' first|exact⟨⟩|apply mA|apply mC<;>intro)
     all_goals(try simp only[aF])
     any_goals((with_reducible first|refine nO ?_|refine sO (fun _=>?_));first|exact h1|exact h2|exact h4|exact h5|exact h6|exact h7|(simp only[hw];exact h8)|(simp only[hw];exact h9)|exact h8|exact h9)
     all_goals try exact absurd ‹False∧True› (fun g=>g.1)
     all_goals try exact absurd ‹¬x.kind=2› (fun g=>g c3)
     all_goals try exact absurd ‹¬x.scale=0∨f=true› c4
     (all_goals try first|exact eZ|(refine qC ?_;repeat' first|exact⟨⟩|apply mA))
     exact fun _=>rfl
  ·unfold gR;rw[aa c3];by_cases c4:x.kind=3
   ·rw[ae c4];dsimp only;rw[aa (fun g=>g hn0)];have h7:=Xt e x.value;generalize sc 4 0 0 x.value=v at*
    (refine fA [.cell 2 56] nH [(1,[(4,zO false,zS s)]),(3,[(1,zO true,zS s)]),(6,[(1,zO m,zS u)]),(7,[(1,zK x,zS t)]),
    (19,[(2,aK (e+1) .any fun _=>v,[])]),(22,[(1,zO false,zS t)])] func30 fun _=>?_;repeat' first|exact⟨⟩|apply mA|apply mC<;>intro)
    all_goals(try simp only[aF])
    all_goals try exact zB
    all_goals try exact absurd ‹False∧True› (fun g=>g.1)
    all_goals try exact absurd ‹x.kind=2› c3
    all_goals try exact absurd c4 ‹¬x.kind=3›
    (all_goals try first|exact eZ|(refine qC ?_;repeat' first|exact⟨⟩|apply mA))
    all_goals(try exact fun _=>rfl)
   rw[aa c4];by_cases c5:x.kind=4
   ·rw[ae c5];dsimp only;rw[aa (fun g=>g hn0)];have h7:=Xv e x.value;generalize sc 5 0 0 x.value=v at*
    (refine fA [.cell 2 56] nH [(1,[(4,zO false,zS s)]),(3,[(1,zO true,zS s)]),(6,[(1,zO m,zS u)]),(7,[(1,zK x,zS t)]),
    (21,[(2,aK (e+1) .any fun _=>v,[])]),(22,[(1,zO false,zS t)])] func30 fun _=>?_;repeat' first|exact⟨⟩|apply mA|apply mC<;>intro)
    all_goals(try simp only[aF])
    all_goals try exact zB
    all_goals try exact absurd ‹False∧True› (fun g=>g.1)
    all_goals try exact absurd ‹x.kind=2› c3
    all_goals try exact absurd ‹x.kind=3› c4
    all_goals try exact absurd c5 ‹¬x.kind=4›
    (all_goals try first|exact eZ|(refine qC ?_;repeat' first|exact⟨⟩|apply mA))
    all_goals(try exact fun _=>rfl)
   rw[aa c5];have h7:=XE e t x.text (aG hgl zd) (aG htk zd);have h6:=rC (jx x.text t).2;generalize jx x.text t=q at*;obtain⟨v,z⟩:=q;dsimp only at*;by_cases c6:z.e≠0
   ·rw[ae c6];rw[show(z.e != 0)=true by simp[c6]]at h6
    (refine fA [.cell 2 56] nH [(1,[(4,zO false,zS s)]),(3,[(1,zO true,zS s)]),(6,[(1,zO m,zS u)]),(7,[(1,zK x,zS t)]),
    (10,[(3,aK (e+1) .any fun _=>v,zS z)]),(22,[(1,zO true,zS z)])] func30 fun _=>?_;repeat' first|exact⟨⟩|apply mA|apply mC<;>intro)
    all_goals(try simp only[aF])
    all_goals try exact zB
    all_goals try exact absurd ‹False∧True› (fun g=>g.1)
    all_goals try exact absurd ‹x.kind=2› c3
    all_goals try exact absurd ‹x.kind=3› c4
    all_goals try exact absurd ‹x.kind=4› c5
    (all_goals try first|exact eZ|(refine qC ?_;repeat' first|exact⟨⟩|apply mA))
    all_goals(try exact fun _=>rfl)
   ·rw[aa c6];rw[show(z.e != 0)=false by simp[gr.1 c6]]at h6
    (refine fA [.cell 2 56] nH [(1,[(4,zO false,zS s)]),(3,[(1,zO true,zS s)]),(6,[(1,zO m,zS u)]),(7,[(1,zK x,zS t)]),
    (10,[(3,aK (e+1) .any fun _=>v,zS z)]),(22,[(1,zO false,zS z)])] func30 fun _=>?_;repeat' first|exact⟨⟩|apply mA|apply mC<;>intro)
    all_goals(try simp only[aF])
    all_goals try exact zB
    all_goals try exact absurd ‹False∧True› (fun g=>g.1)
    all_goals try exact absurd ‹x.kind=2› c3
    all_goals try exact absurd ‹x.kind=3› c4
    all_goals try exact absurd ‹x.kind=4› c5
    (all_goals try first|exact eZ|(refine qC ?_;repeat' first|exact⟨⟩|apply mA))
    all_goals(try exact fun _=>rfl)
def XL{pe:ByteArray->Int}(hpe:∀t,pe t=0->t.size<=200)(hpc:∀t,t.size<=100000000000->Asc t->Af prog 43 [.str fun _=>t] [] (.ag [.any,.int .i64 fun _=>pe t]) [])
 {e D k:Nat} (hD:65600<=D) {E:Rd->X×Rd} (hE:∀j,k=j+1->cW de e D j 67 E) (op n:Int) (hn:op=22∨op=26∨op=15∨(1<=n∧n<=3)) (r:Rd) (h:bU de k r) (hz:r.s.e=0):
 Af prog 284 [.ptr 1000 0,.int .i64 fun _=>op,.int .i64 fun _=>n] [(1000,dw r),(1001000000,am fun _=>r.s)] (aq e D .any fun _=>(kj E pe op n r).1) [(1000,dw (kj E pe op n r).2),(1001000000,am fun _=>(kj E pe op n r).2.s)]:=by
 unfold kj;by_cases c1:op=22∨op=26
 ·rw[ae c1];exact Xn (fun t ht=>ht.size) (fun t ht=>ht.uB) hpe hpc hD op n c1 r h hz
 ·rw [aa c1];by_cases c2:op=15
  ·rw[ae c2];subst c2;exact Xo hD hE n r h hz
  ·rw[aa c2];have hn2:1<=n∧n<=3:=by
    rcases hn with h|h|h|h
    ·exact absurd (.inl h) c1
    ·exact absurd (.inr h) c1
    ·exact absurd h c2
    ·exact h
   exact Xp hD hE op n c1 c2 hn2.1 hn2.2 r h hz
def fV:ByteArray:=⟨#[40]⟩
def eS(E:Rd->X×Rd)(pe:ByteArray->Int)(r:Rd):X×Rd:=
 if r.bad=true then(default,r)
 else if r.s.val=true then(.mk 1 0 ⟨#[]⟩ [(fw r.s).1] [],r.to (fw r.s).2)
 else if r.s.peek.kind=1∧(dk r.s.peek.text ba).isSome=true then kj E pe ((dk r.s.peek.text ba).getD (0,0)).1 ((dk r.s.peek.text ba).getD (0,0)).2 (r.to r.s.next)
 else if r.s.peek.kind=1∧dQ r.s.peek.text=false then(.mk 2 0 (dN pe r.s).1 [] [],r.to (dN pe r.s).2)
 else if r.s.aH fV=true then((E r.paren).1,(E r.paren).2.close)
 else(default,r.to (r.s.fail 13))
theorem L8{α:Type}{t:ByteArray}:∀{l:List (ByteArray×α)} {v:α},dk t l=some v->∃k,(k,v)∈l
 | [],v,h=>by cases h
 | (k,u)::r,v,h=>by
  unfold dk at h;split at h
  ·cases h;exact⟨k,dJ ..⟩
  ·obtain⟨k2,h2⟩:=L8 h;exact⟨k2,cH _ h2⟩
def XM{t:ByteArray}{q:Int×Int}(h:dk t ba=some q):q.1=22∨q.1=26∨q.1=15∨(1<=q.2∧q.2<=3):=by
 obtain⟨k,hk⟩:=L8 h;have key:∀p∈ba,p.2.1=22∨p.2.1=26∨p.2.1=15∨(1<=p.2.2∧p.2.2<=3):=zd
 exact key _ hk
def XN(s:St):Steps s (fw s).2:=by
 unfold fw;split
 ·exact .refl _
 split
 ·exact .fail _ _
 ·exact((Steps.accept s bP).trans (.next _)).trans (XJ _ _ _)
def XO(e:Nat)(s:St)(h:eu de s):V.le (e+1) (fw s).1:=by
 have hd:V.le (e+1) (default:V):=⟨aB _,aB _,aB _,fun x hx=>(by cases hx),fun x hx=>(by cases hx)⟩
 unfold fw;split
 ·exact hd
 split
 ·exact hd
 ·dsimp only;split
  ·exact hd
  ·exact XH _ _ _ ((h.go (Steps.accept s bP)).peek de.default).L7
def XP{e c:Nat}{v:V}(hv:V.le e v):X.le e (c+1) (.mk 1 0 ⟨#[]⟩ [v] []):=
 ⟨aB _,(zd:1<=1073741824),aB _,fun u hu=>by
  (rcases bW.1 hu with rfl|hu
   ·exact hv
   ·cases hu),fun z hz=>(by cases hz)⟩
def XQ{pe:ByteArray->Int}(hpe:∀t,pe t=0->t.size<=200){e k:Nat}{E:Rd->X×Rd}(hE:∀j,k=j+1->∀r,bU de j r->Post (e+1) r (E r))(r:Rd)(h:bU de k r):Post (e+1) r (eS E pe r):=by
 unfold eS;have hd:∀c,X.le (e+1) (1+c) (default:X):=fun c=>X.cP (LI (c:=c) _ _) zo;split
 ·exact⟨.of (.refl _) rfl,hd _⟩
 rename_i hb;have hz:r.s.e=0:=by
  unfold Rd.bad at hb;simpa using hb
 split
 ·refine⟨Go.of (r:=r) (r':=r.to (fw r.s).2) (XN _) rfl,?_⟩;exact X.cP (XP (c:=r.s.l.length-(fw r.s).2.l.length) (XO e _ h.st)) (uK (uY _ _))
 split
 ·rename_i hc;have gn:Go r (r.to r.s.next):=Go.of (r:=r) (r':=r.to r.s.next) (Steps.next _) rfl;have hl:=qu h (by rw[hc.1];decide);have hz2:(r.to r.s.next).s.e=0:=by
   show r.s.next.e=0;unfold St.next;split<;>exact hz
  obtain⟨a,b⟩:=Xm (P:=de) (fun t ht=>ht.size) hpe hE ((dk r.s.peek.text ba).getD (0,0)).1 ((dk r.s.peek.text ba).getD (0,0)).2 (h.go gn) hz2;have al:=a.s.len;have e1:(r.to r.s.next).s=r.s.next:=rfl;rw[e1]at b al;exact⟨gn.trans a,X.cP b zo⟩
 split
 ·obtain⟨a,b,_⟩:=Fa (P:=de) (fun t ht=>ht.size) hpe h.st;refine⟨Go.of (r:=r) (r':=r.to (dN pe r.s).2) a rfl,?_⟩;exact X.cP (Fc (c:=r.s.l.length-(dN pe r.s).2.l.length) _ _ b) (uK (uY _ _))
 split
 ·rename_i hp;obtain⟨g1,g2,g3,g4,j,rfl,g5⟩:=sl h hz;have p:=hE j rfl _ g5;have cl:(E r.paren).2.close.s.l.length<=(E r.paren).2.s.l.length:=(Steps.expect (E r.paren).2.s ⟨#[41]⟩).len;refine⟨EX hz g1 g2 g3 (fun z=>(g4 z).1) p.g,X.cP p.x ?_⟩;have:=g1.len;have:=p.g.s.len;dsimp only;omega
 ·exact⟨Go.of (r:=r) (r':=r.to (r.s.fail 13)) (.fail _ _) rfl,hd _⟩
end Go.Ai
