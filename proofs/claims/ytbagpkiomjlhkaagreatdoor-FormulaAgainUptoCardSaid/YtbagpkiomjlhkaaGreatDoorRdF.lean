/- Chapter 17: the reader: calls. -/
import Derived.Test.YtbagpkiomjlhkaaGreatDoorRdE
set_option linter.all false
namespace Go.Ai
open Go Go.Proofs Tryz
set_option maxRecDepth 100000
set_option maxHeartbeats 4000000
def dx:ByteArray:=⟨#[44]⟩
def k8(pe:ByteArray->Int)(op:Int)(r:Rd):X×Rd:=
 if op=26∧(dN pe r.paren.s).2.aH dx=true then(.mk op (dI (dN pe r.paren.s).2.next).1 (dN pe r.paren.s).1 [] [],(r.paren.to (dI (dN pe r.paren.s).2.next).2).close)
 else(.mk op 0 (dN pe r.paren.s).1 [] [],(r.paren.to (dN pe r.paren.s).2).close)
def dr(r:Rd):Rd:=r.to (r.s.expect dx)
def qo(E:Rd->X×Rd)(r:Rd):X×Rd:=
 (.mk 15 (dI (dr (E (dr (E r.paren).2)).2).s).1 ⟨#[]⟩ [] [(E r.paren).1,(E (dr (E r.paren).2)).1],((E (dr (E r.paren).2)).2.to (dI (dr (E (dr (E r.paren).2)).2).s).2).close)
def kj(E:Rd->X×Rd)(pe:ByteArray->Int)(op n:Int)(r:Rd):X×Rd:=
 if op=22∨op=26 then k8 pe op r else if op=15 then qo E r else(.mk op 0 ⟨#[]⟩ [] (eI E n n r).1,(eI E n n r).2)
theorem AM(s:St):Steps s (dI s).2:=by
 unfold dI;split
 ·exact .fail _ _
 split
 ·exact .fail _ _
 ·exact .next _
theorem xF(r:Rd):Go r (dr r):=Go.of (r:=r) (r':=dr r) (.expect _ _) rfl
theorem Fc{e c:Nat}{t:ByteArray}(o n:Int)(ht:t.size<=200):X.le e (c+1) (.mk o n t [] []):=
 ⟨aG ht zd,aB _,aB _,fun v hv=>(by cases hv),fun z hz=>by cases hz⟩
theorem Xk{e c:Nat}{x y:X}(o n:Int)(hx:X.le e c x)(hy:X.le e c y):X.le e (c+1) (.mk o n ⟨#[]⟩ [] [x,y]):=
 ⟨aB _,aB _,(zd:2<=1073741824),fun v hv=>(by cases hv),fun z hz=>by
  rcases bW.1 hz with rfl|hz
  ·exact hx
  ·rcases bW.1 hz with rfl|hz
   ·exact hy
   ·cases hz⟩
theorem Xl{e c:Nat}{l:List X}(o:Int)(hl:∀y∈l,X.le e c y)(hn:l.length<=65541):X.le e (c+1) (.mk o 0 ⟨#[]⟩ [] l):=
 ⟨aB _,aB _,by show l.length<=_;omega,fun v hv=>(by cases hv),hl⟩
theorem Xm{P:Tok->Prop}(hP:∀t,P t->t.text.size<=65536){pe:ByteArray->Int}(hpe:∀t,pe t=0->t.size<=200){e k:Nat}{E:Rd->X×Rd}(hE:∀j,k=j+1->∀r,bU P j r->Post e r (E r))(op n:Int){r:Rd}(h:bU P k r)(hz:r.s.e=0):
 Go r (kj E pe op n r).2∧X.le e (2+(r.s.l.length-(kj E pe op n r).2.s.l.length)) (kj E pe op n r).1:=by
 obtain⟨g1,g2,g3,g4,j,rfl,g5⟩:=sl h hz;have cg:=fun{r2:Rd} (g:Go r.paren r2)=>EX hz g1 g2 g3 (fun z=>(g4 z).1) g;have cl:∀r2:Rd,r2.close.s.l.length<=r2.s.l.length:=fun r2=>(Steps.expect r2.s ⟨#[41]⟩).len;unfold kj;split
 ·obtain⟨p1,p2,_⟩:=Fa hP hpe g5.st;unfold k8;generalize dN pe r.paren.s=q at*;split
  ·have s2:=(p1.trans (.next q.2)).trans (AM q.2.next);refine⟨cg (Go.of (r:=r.paren) (r':=r.paren.to (dI q.2.next).2) s2 rfl),?_⟩;rw[uY 2];exact Fc (c:=_+1) _ _ p2
  ·refine⟨cg (Go.of (r:=r.paren) (r':=r.paren.to q.2) p1 rfl),?_⟩;rw[uY 2];exact Fc (c:=_+1) _ _ p2
 split
 ·have a:=hE j rfl _ g5;have g6:=g5.go a.g;have g7:=g6.go (xF _);have b:=hE j rfl _ g7;unfold qo;generalize E r.paren=qa at*;generalize E (dr qa.2)=qb at*;have gb:=(a.g.trans (xF qa.2)).trans b.g;have gz:Go qb.2 (qb.2.to (dI (dr qb.2).s).2):=Go.of (r:=qb.2) (r':=qb.2.to (dI (dr qb.2).s).2) ((Steps.expect qb.2.s dx).trans (AM _)) rfl;have l1:=g1.len;have l2:=a.g.s.len;have l3:=(xF qa.2).s.len;have l4:=b.g.s.len;have l5:=gz.s.len;have l6:=cl (qb.2.to (dI (dr qb.2).s).2);refine⟨cg (gb.trans gz),?_⟩;dsimp only;refine X.cP (Xk (c:=1+(r.s.l.length-(qb.2.to (dI (dr qb.2).s).2).close.s.l.length)) _ _ (X.cP a.x zo) (X.cP b.x zo)) zo
 ·obtain⟨b1,b2,b3⟩:=AL hE n n h hz;refine⟨b1,?_⟩;dsimp only;exact X.cP (Xl op b2 b3) zo
section
variable {P:Tok->Prop}(hP:∀t,P t->t.text.size<=65536)(hA:∀t,P t->Asc t.text){pe:ByteArray->Int}(hpe:∀t,pe t=0->t.size<=200)
 (hpc:∀t,t.size<=100000000000->Asc t->Af prog 43 [.str fun _=>t] [] (.ag [.any,.int .i64 fun _=>pe t]) [])
include hP hA hpe hpc
theorem Xn{e D k:Nat}(hD:65600<=D)(op n:Int)(ho:op=22∨op=26)(r:Rd)(h:bU P k r)(hz:r.s.e=0):
 Af prog 284 [.ptr 1000 0,.int .i64 fun _=>op,.int .i64 fun _=>n] [(1000,dw r),(1001000000,am fun _=>r.s)] (aq e D .any fun _=>(k8 pe op r).1) [(1000,dw (k8 pe op r).2),(1001000000,am fun _=>(k8 pe op r).2.s)]:=by
 obtain⟨D,rfl⟩:∃d,D=d+1:=⟨D-1,zo⟩
 obtain⟨g1,g2,g3,g4,j,rfl,g5⟩:=sl h hz;have hl:=aG h.len (zd:65537<=1073741824);have h1:=zV r ⟨by have:=h.o0;omega,by have:=h.o1;omega⟩ hl;have h2:=LY hP hA hpc r.paren.s g5.st;have hs:Steps r.paren.s (dN pe r.paren.s).2:=(Fa hP hpe g5.st).1;unfold k8;generalize dN pe r.paren.s=q at*;have hlq:q.2.l.length<=1073741824:=aG hs.len (aG g5.len zd);have h3:=zQ q.2 dx hlq;have hb : -1073741824<=r.paren.o∧r.paren.o<=1073741824:=⟨by have:=g5.o0;omega,by have:=g5.o1;omega⟩
 unfold St.accept at h3;rw[aL,aL]at h1;by_cases c:op=26∧q.2.aH dx=true
 ·rw[ae c];obtain⟨rfl,c2⟩:=c;rw[c2,ae rfl]at h3;have hln:q.2.next.l.length<=1073741824:=aG (Steps.next q.2).len hlq;have h4:=LV q.2.next hln;have h5:=wU (r.paren.to (dI q.2.next).2) hb (aG (AM q.2.next).len hln);rw[aL,aL]at h5 ⊢;have e1:(r.paren.to (dI q.2.next).2).s=(dI q.2.next).2:=rfl;have e2:(r.paren.to (dI q.2.next).2).o=r.paren.o:=rfl;rw[e1,e2]at h5;dsimp only;clear e1 e2;generalize (r.paren.to (dI q.2.next).2).close.s=cs at*;generalize (r.paren.to (dI q.2.next).2).close.o=co at*;generalize (dI q.2.next).1=z1 at*;generalize (dI q.2.next).2=z2 at*;generalize q.2.next=t at*;obtain⟨x,u⟩:=q;dsimp only at h2 h3 ⊢;generalize r.paren.s=s1 at*;generalize r.paren.o=o1 at*;generalize r.s=s0 at*;generalize r.o=o0 at*
  (refine fA [.cell 6 25] xG [(6,[(1,zT,[(1000,aX o1),(1001000000,am fun _=>s1)])]),(7,[(4,zR x,zS u)]),(8,[(7,zO true,zS t)]),
    (9,[(4,zI z1,zS z2)]),(10,[(1,zT,[(1000,aX co),(1001000000,am fun _=>cs)])])] func284 fun _=>?_;repeat' first|exact⟨⟩|apply mA|apply mC<;>intro)
  all_goals try exact absurd ‹(26:Int)=22› zd
  all_goals(try simp only[show(((26:Int)==26)==true)=true from rfl,bC,aF,eq_self])
  all_goals try exact zB
  all_goals try exact absurd ‹¬True∨False› (fun g=>g.elim (fun k=>k trivial) id)
  (all_goals try first|exact eZ|(refine qC ?_;repeat' first|exact⟨⟩|apply mA))
  all_goals first
   | rfl
   | exact fun _=>trivial
 ·rw [aa c];have h5:=wU (r.paren.to q.2) hb hlq;rw[aL,aL]at h5 ⊢;have e1:(r.paren.to q.2).s=q.2:=rfl;have e2:(r.paren.to q.2).o=r.paren.o:=rfl;rw[e1,e2]at h5;dsimp only;clear e1 e2;generalize (r.paren.to q.2).close.s=cs at*;generalize (r.paren.to q.2).close.o=co at*;rcases ho with rfl|rfl
  ·clear c;generalize q.2.next=t at*;generalize q.2.aH dx=b at*;obtain⟨x,u⟩:=q;dsimp only at h2 h3 h5 ⊢;generalize r.paren.s=s1 at*;generalize r.paren.o=o1 at*;generalize r.s=s0 at*;generalize r.o=o0 at*
   (refine fA [.cell 6 25] xG [(6,[(1,zT,[(1000,aX o1),(1001000000,am fun _=>s1)])]),(7,[(4,zR x,zS u)]),(8,[(7,zO b,zS u)]),(10,[(1,zT,[(1000,aX co),(1001000000,am fun _=>cs)])])] func284 fun _=>?_;repeat' first|exact⟨⟩|apply mA|apply mC<;>intro)
   all_goals(try simp only[show(((22:Int)==26)==true)=false from rfl,aa (show¬(false=true) by simp),aF,eq_self])
   any_goals((with_reducible refine sO (fun hg=>?_));exact absurd hg zd)
   all_goals try exact zB
   all_goals try exact absurd ‹(22:Int)=26∧b=true› (fun g=>absurd g.1 zd)
   (all_goals try first|exact eZ|(refine qC ?_;repeat' first|exact⟨⟩|apply mA))
   all_goals rfl
  ·have cb:q.2.aH dx=false:=by simpa using fun k=>c ⟨rfl,k⟩
   rw[cb,aa zsi]at h3;obtain⟨x,u⟩:=q;dsimp only at h2 h3 h5 ⊢;generalize r.paren.s=s1 at*;generalize r.paren.o=o1 at*;generalize r.s=s0 at*;generalize r.o=o0 at*
   (refine fA [.cell 6 25] xG [(6,[(1,zT,[(1000,aX o1),(1001000000,am fun _=>s1)])]),(7,[(4,zR x,zS u)]),(8,[(7,zO false,zS u)]),(10,[(1,zT,[(1000,aX co),(1001000000,am fun _=>cs)])])] func284 fun _=>?_;repeat' first|exact⟨⟩|apply mA|apply mC<;>intro)
   all_goals try exact absurd ‹(26:Int)=22› zd
   all_goals(try simp only[show(((26:Int)==26)==true)=true from rfl,bC,aF,eq_self])
   all_goals try exact zB
   all_goals try exact absurd ‹True∧False› (fun g=>g.2)
   (all_goals try first|exact eZ|(refine qC ?_;repeat' first|exact⟨⟩|apply mA))
   all_goals first
    | rfl
    | exact fun _=>trivial
omit hP hA hpe hpc in
theorem Xo{e D k:Nat}(hD:65600<=D){E:Rd->X×Rd}(hE:∀j,k=j+1->cW P e D j 67 E)(n:Int)(r:Rd)(h:bU P k r)(hz:r.s.e=0):
 Af prog 284 [.ptr 1000 0,.int .i64 fun _=>15,.int .i64 fun _=>n] [(1000,dw r),(1001000000,am fun _=>r.s)] (aq e D .any fun _=>(qo E r).1) [(1000,dw (qo E r).2),(1001000000,am fun _=>(qo E r).2.s)]:=by
 obtain⟨D,rfl⟩:∃d,D=d+1:=⟨D-1,zo⟩
 obtain⟨g1,g2,g3,g4,j,rfl,g5⟩:=sl h hz;have hl:=aG h.len (zd:65537<=1073741824);have h1:=zV r ⟨by have:=h.o0;omega,by have:=h.o1;omega⟩ hl;have lens:=fun{r:Rd} (g:bU P j r)=>aG g.len (zd:65537<=1073741824);obtain⟨p2,h2⟩:=hE j rfl _ g5;have g6:=g5.go p2.g;have h3:=uf (E r.paren).2.s dx (lens g6);have g7:=g6.go (xF _);obtain⟨p4,h4⟩:=hE j rfl _ g7;have g8:=g7.go p4.g;have h5:=uf (E (dr (E r.paren).2)).2.s dx (lens g8);have g9:=g8.go (xF _);have h6:=LV (dr (E (dr (E r.paren).2)).2).s (lens g9);have gz:Go (E (dr (E r.paren).2)).2 ((E (dr (E r.paren).2)).2.to (dI (dr (E (dr (E r.paren).2)).2).s).2):=
  Go.of (r:=(E (dr (E r.paren).2)).2) (r':=(E (dr (E r.paren).2)).2.to (dI (dr (E (dr (E r.paren).2)).2).s).2) ((Steps.expect _ dx).trans (AM _)) rfl
 have g10:=g8.go gz;have h7:=wU _ ⟨by have:=g10.o0;omega,by have:=g10.o1;omega⟩ (lens g10);have e1:∀r:Rd,(dr r).s=r.s.expect dx:=fun r=>rfl;have e2:∀r:Rd,(dr r).o=r.o:=fun r=>rfl;have e3:∀(r:Rd) (s:St),(r.to s).s=s:=fun r s=>rfl;have e4:∀(r:Rd) (s:St),(r.to s).o=r.o:=fun r s=>rfl;have hxl:X.le e D (E r.paren).1:=X.cP p2.x (by have:=g5.len;omega);have hyl:X.le e D (E (dr (E r.paren).2)).1:=X.cP p4.x (by have:=g7.len;omega);unfold qo;rw[aL,aL]at h1 h2 h4 h7 ⊢;rw[e1,e2]at h4;rw[e3,e4]at h7;rw[e1]at h6;dsimp only;generalize ((E (dr (E r.paren).2)).2.to (dI (dr (E (dr (E r.paren).2)).2).s).2).close.s=cs at*;generalize ((E (dr (E r.paren).2)).2.to (dI (dr (E (dr (E r.paren).2)).2).s).2).close.o=co at*;rw[e1]at h7 ⊢;clear gz g10 g9 g8 g7 g6 p4 p2 lens;generalize (E (dr (E r.paren).2)).1=y at*;generalize (E (dr (E r.paren).2)).2.o=o3 at*;generalize (E (dr (E r.paren).2)).2.s=s3 at*;generalize (E r.paren).1=x at*;generalize (E r.paren).2.o=o2 at*;generalize (E r.paren).2.s=s2 at*;generalize (dI (s3.expect dx)).1=z1 at*;generalize (dI (s3.expect dx)).2=z2 at*;generalize s3.expect dx=t3 at*;generalize s2.expect dx=t2 at*;generalize r.paren.s=s1 at*;generalize r.paren.o=o1 at*;generalize r.s=s0 at*;generalize r.o=o0 at*
 (refine fA [.cell 6 25] xG [(12,[(1,zT,[(1000,aX o1),(1001000000,am fun _=>s1)])]),(13,[(1,aq e (D+1) .any fun _=>x,[(1000,aX o2),(1001000000,am fun _=>s2)])]),(14,[(4,zT,zS t2)]),
   (15,[(1,aq e (D+1) .any fun _=>y,[(1000,aX o3),(1001000000,am fun _=>s3)])]),(16,[(4,zT,zS t3)]),(17,[(4,zI z1,zS z2)]),(19,[(1,zT,[(1000,aX co),(1001000000,am fun _=>cs)])])] func284 fun _=>?_;repeat' first|exact⟨⟩|apply mA|apply mC<;>intro)
 all_goals try exact zB
 all_goals try exact absurd ‹(15:Int)=22› zd
 all_goals try exact absurd ‹(15:Int)=26› zd
 (all_goals try first|exact eZ|(refine qC ?_;repeat' first|exact⟨⟩|apply mA))
 all_goals first
  | rfl
  | exact ES (.mk 15 z1 ⟨#[]⟩ [] [x,y]) rfl hxl hyl
omit hP hA hpe hpc in
theorem Xp{e D k:Nat}(hD:65600<=D){E:Rd->X×Rd}(hE:∀j,k=j+1->cW P e D j 67 E)(op n:Int)(ho:¬(op=22∨op=26))(ho2:op≠15)(hn1:1<=n)(Xq:n<=3)(r:Rd)(h:bU P k r)(hz:r.s.e=0):
 Af prog 284 [.ptr 1000 0,.int .i64 fun _=>op,.int .i64 fun _=>n] [(1000,dw r),(1001000000,am fun _=>r.s)] (aq e D .any fun _=>X.mk op 0 ⟨#[]⟩ [] (eI E n n r).1) [(1000,dw (eI E n n r).2),(1001000000,am fun _=>(eI E n n r).2.s)]:=by
 have h1:=LO hD hE n n hn1 Xq r h hz;obtain⟨_,b2,b3⟩:=AL (fun j hj r hr=>(hE j hj r hr).1) n n h hz;have hlen:=h.len;obtain⟨D,rfl⟩:∃d,D=d+1:=⟨D-1,zo⟩
 have hyl:∀y∈(eI E n n r).1,X.le e D y:=fun y hy=>X.cP (b2 y hy) zo;clear b2;rw[aL,aL]at h1 ⊢;generalize (eI E n n r).1=l at*;generalize (eI E n n r).2.s=s1 at*;generalize (eI E n n r).2.o=o1 at*;generalize r.s=s0 at*;generalize r.o=o0 at*
 (refine fA [.cell 6 25] xG [(3,[(3,eP e (D+1) .any fun _=>l,[(1000,aX o1),(1001000000,am fun _=>s1)])])] func284 fun _=>?_;repeat' first|exact⟨⟩|apply mA|apply mC<;>intro)
 all_goals try exact zB
 all_goals try exact absurd ‹op=22› (fun g=>ho (.inl g))
 all_goals try exact absurd ‹op=26› (fun g=>ho (.inr g))
 all_goals try exact absurd ‹op=15› ho2
 (all_goals try first|exact eZ|(refine qC ?_;repeat' first|exact⟨⟩|apply mA))
 all_goals first
  | rfl
  | (intro i hi
     have hy:X.le e D (l.getD i default):=by
      rw[show l.getD i default=l[i] by simp[List.getD,hi]];exact hyl _ (d9 _)
     exact ry D (fun _=>l.getD i default) hy (D+1) D zo (ao _))
end
end Go.Ai
