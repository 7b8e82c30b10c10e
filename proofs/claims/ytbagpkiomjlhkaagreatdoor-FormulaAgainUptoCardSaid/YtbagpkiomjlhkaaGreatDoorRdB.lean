/- Chapter 17: the reader: operands of a binding. -/
import Derived.Test.YtbagpkiomjlhkaaGreatDoorLexA
set_option linter.all false
namespace Go.Ai
open Go Go.Proofs Tryz
set_option maxRecDepth 100000
set_option maxHeartbeats 4000000
structure bU(P:Tok->Prop)(k:Nat)(r:Rd):Prop where
 fin:∀t,r.s.l.getLast? = some t->t.kind=0
 len:r.s.l.length<=65537
 o0 : -1<=r.o
 o1:r.o<=33
 ne:r.s.e=0->r.s.l≠[]
 lv:r.s.e≠0∨(0<=r.o∧r.o<=32∧33<=(k:Int)+r.o)
 tk:∀t∈r.s.l,P t
structure Steps(s s':St):Prop where
 d:∃m,s'.l=s.l.drop m
 ne:s.l≠[]->s'.l≠[]
 er:s.e≠0->s'.e≠0
def Steps.refl(s:St):Steps s s:=⟨⟨0,rfl⟩,id,id⟩
def Steps.trans{a b c:St}(h:Steps a b)(g:Steps b c):Steps a c:=by
 obtain⟨m,hm⟩:=h.d;obtain⟨n,hn⟩:=g.d;exact⟨⟨m+n,by rw[hn,hm,uR]⟩,fun q=>g.ne (h.ne q),fun q=>g.er (h.er q)⟩
def Steps.len{s s':St}(h:Steps s s'):s'.l.length<=s.l.length:=by
 obtain⟨m,hm⟩:=h.d;rw[hm,gu];omega
theorem getLast_drop{α:Type}:∀(l:List α) (m:Nat) (t:α),(l.drop m).getLast? = some t->l.getLast? = some t
 | [],m,t,h=>by rw[List.drop_nil]at h;exact h
 | _::_,0,t,h=>h
 | x::r,m+1,t,h=>by
  have h1:=getLast_drop r m t (by simpa using h);cases r with
  | nil=>cases h1
  | cons y r=>rw[List.getLast?_cons_cons];exact h1
def bU.to{P:Tok->Prop}{k k':Nat}{r r':Rd}(h:bU P k r)(hs:Steps r.s r'.s)(o0 : -1<=r'.o)(o1:r'.o<=33)(hk:r'.s.e≠0∨(0<=r'.o∧r'.o<=32∧33<=(k':Int)+r'.o)):bU P k' r':=by
 obtain⟨m,hm⟩:=hs.d;exact⟨fun t ht=>h.fin t (getLast_drop _ m t (by rw[<- hm];exact ht)),aG hs.len h.len,o0,o1,fun z=>hs.ne (h.ne (fp fun k=>hs.er k z)),hk,fun t ht=>h.tk t (by rw[hm]at ht;exact uQ ht)⟩
structure Go(r r':Rd):Prop where
 s:Steps r.s r'.s
 oz:r'.s.e=0->r'.o=r.o
 ob:r.s.e≠0->r'.o=r.o
 ol:r.o-1<=r'.o
 oh:r'.o<=r.o
def Go.of{r r':Rd}(h:Steps r.s r'.s)(ho:r'.o=r.o):Go r r':=⟨h,fun _=>ho,fun _=>ho,zo,zo⟩
def Go.trans{a b c:Rd}(h:Go a b)(g:Go b c):Go a c:=by
 refine⟨h.s.trans g.s,fun q=>?_,fun q=>(g.ob (h.s.er q)).trans (h.ob q),?_,Int.le_trans g.oh h.oh⟩
 ·have hb:b.s.e=0:=fp fun k=>g.s.er k q;exact(g.oz q).trans (h.oz hb)
 ·have h1:=h.ol;have h2:=g.ol;by_cases hb:b.s.e=0
  ·have:=h.oz hb;omega
  ·have:=g.ob hb;omega
def bU.go{P:Tok->Prop}{k:Nat}{r r':Rd}(h:bU P k r)(g:Go r r'):bU P k r':=by
 have o0:=h.o0;have o1:=h.o1;have g1:=g.ol;have g2:=g.oh;by_cases q:r'.s.e=0
 ·have q2:r.s.e=0:=fp fun k=>g.s.er k q;have ho:=g.oz q;obtain⟨v1,v2,v3⟩:=h.lv.resolve_left (fun k=>k q2);exact h.to g.s zo zo (.inr ⟨zo,zo,zo⟩)
 ·refine h.to g.s ?_ zo (.inl q);by_cases q2:r.s.e=0
  ·obtain⟨v1,v2,v3⟩:=h.lv.resolve_left (fun k=>k q2);omega
  ·have:=g.ob q2;omega
def bU.same{P:Tok->Prop}{k:Nat}{r r':Rd}(h:bU P k r)(hs:Steps r.s r'.s)(ho:r'.o=r.o):bU P k r':=h.go (.of hs ho)
def Steps.next(s:St):Steps s s.next:=by
 unfold St.next;split
 ·rename_i q;refine⟨⟨1,rfl⟩,fun _ h=>?_,id⟩;have h:s.l.drop 1=[]:=h;have:=ak List.length h;rw[gu]at this;have q2:=q.2;simp at this;omega
 ·exact .refl s
def Wx(s:St)(e:Int)(h:s.e≠0):(s.fail e).e≠0:=by
 unfold St.fail;split
 ·rename_i q;have:=lI q.1;exact absurd this.1 h
 ·exact h
def Steps.fail(s:St)(e:Int):Steps s (s.fail e):=⟨⟨0,rz s e⟩,fun h=>by rw[rz];exact h,Wx s e⟩
def Steps.expect(s:St)(t:ByteArray):Steps s (s.expect t):=by
 unfold St.expect;split
 ·exact .next s
 ·exact .fail s _
def Steps.accept(s:St)(t:ByteArray):Steps s (s.accept t):=by
 unfold St.accept;split
 ·exact .next s
 ·exact .refl s
def qu{P:Tok->Prop}{k:Nat}{r:Rd}(h:bU P k r)(hk:r.s.peek.kind≠0):r.s.next.l.length+1=r.s.l.length:=by
 unfold St.peek at hk;split at hk
 ·rename_i q;obtain⟨_,hl⟩:=lI q;have h1:1<r.s.l.length:=by
   rcases iG 1 r.s.l.length with h1|h1
   ·exact h1
   ·exfalso;cases hq:r.s.l with
    | nil=>rw[hq]at hl;exact absurd hl zsi
    | cons x t=>
     rw[hq]at h1;have:t=[]:=by
      cases t with
      | nil=>rfl
      | cons _ _=>simp at h1
     subst this;have:=h.fin x (by rw[hq];rfl);rw[hq]at hk;exact hk this
  unfold St.next;rw[ae ⟨q,h1⟩];show(r.s.l.drop 1).length+1=_;rw[gu];omega
 ·exact absurd rfl hk
structure Post(e:Nat)(r:Rd)(q:X×Rd):Prop where
 g:Go r q.2
 x:X.le e (1+(r.s.l.length-q.2.s.l.length)) q.1
def cW(P:Tok->Prop)(e D k:Nat)(g:FuncId)(F:Rd->X×Rd):Prop:=∀r,bU P k r->Post e r (F r) ∧
 Af prog g [.ptr 1000 0] [(1000,dw r),(1001000000,am fun _=>r.s)] (aq e D .any fun _=>(F r).1) [(1000,dw (F r).2),(1001000000,am fun _=>(F r).2.s)]
def EQ{r:Rd}{b:Nat}{o:Int}(h:r.op b=some o):r.s.peek.kind≠0:=by
 unfold Rd.op at h;split at h
 ·cases h
 ·rename_i q;intro h0;rw[h0]at q;exact q ⟨zd,zd⟩
def ER{e c:Nat}{x y:X}(o:Int)(hx:X.le e c x)(hy:X.le e c y):X.le e (c+1) (bin o x y):=
 ⟨aB _,aB _,(zd:2<=1073741824),fun v hv=>(by cases hv),fun z hz=>by
  rcases bW.1 hz with rfl|hz
  ·exact hx
  ·rcases bW.1 hz with rfl|hz
   ·exact hy
   ·cases hz⟩
def LB{e D:Nat}{x:X}(z:X)(hz:z.args=[x])(hx:X.le e D x):∀i,i<1->aD (dY [cQ e (D+1) .any fun _=>x] fun _=>i) (nT e (D+1) .any (fun _=>z) fun _=>i):=by
 intro i hi;obtain rfl:i=0:=zo
 show aD (cQ e (D+1) .any fun _=>x) (cQ e D .any fun _=>z.args.getD 0 default);rw[hz];exact ry D (fun _=>x) hx (D+1) D zo (ao _)
def ES{e D:Nat}{x y:X}(z:X)(hz:z.args=[x,y])(hx:X.le e D x)(hy:X.le e D y):∀i,i<2->aD (dY [cQ e (D+1) .any fun _=>x,cQ e (D+1) .any fun _=>y] fun _=>i) (nT e (D+1) .any (fun _=>z) fun _=>i):=by
 intro i hi;obtain rfl|rfl:i=0∨i=1:=zo
 ·show aD (cQ e (D+1) .any fun _=>x) (cQ e D .any fun _=>z.args.getD 0 default);rw[hz];exact ry D (fun _=>x) hx (D+1) D zo (ao _)
 ·show aD (cQ e (D+1) .any fun _=>y) (cQ e D .any fun _=>z.args.getD 1 default);rw[hz];exact ry D (fun _=>y) hy (D+1) D zo (ao _)
def mK(r:Rd)(b:Nat):St:=if(r.op b).isSome=true then r.s.next else r.s
def ET{P:Tok->Prop}{k:Nat}{b:Nat}(hb:eX b){r:Rd}(h:bU P k r):Af prog 184 [.ptr 1000 0,.int .i64 fun _=>(b:Int)] [(1000,dw r),(1001000000,am fun _=>r.s)] (.ag [.int .i64 fun _=>(r.op b).getD 0,.bool fun _=>(r.op b).isSome]) [(1000,dw r),(1001000000,am fun _=>mK r b)]:=by
 have hl:r.s.l.length<=1073741824:=aG h.len zd;unfold mK;cases q:r.op b with
 | none=>exact SU hb hl q
 | some o=>exact ST hb hl q
abbrev LC:=Nat×X×Rd×Bool×Int×St
def xA(e D b:Nat)(g:FuncId)(q:LC):SS:=
 ⟨32,[(9,.bool fun _=>q.2.2.2.1),(8,.int .i64 fun _=>q.2.2.2.2.1),(7,.ptr 7 0),(2,.a8 g 1000),(1,.int .i64 fun _=>(b:Int)),(0,.ptr 1000 0),(6,.ptr 6 0)],
  [(1000,aX q.2.2.1.o),(1001000000,am fun _=>q.2.2.2.2.2),(6,.box [.int .i64 fun _=>0,.int .i64 fun _=>0,.str fun _=>⟨#[]⟩,.nil,.nil]),(7,.box (cQ e D .any fun _=>q.2.1))]⟩
def xB{P:Tok->Prop}{e D k:Nat}(hD:65600<=D){b:Nat}(hb:eX b){g:FuncId}{F:Rd->X×Rd}(hF:cW P e D k g F)(r0:Rd)(h0:bU P k r0):Post e r0 (cj b F r0) ∧
 Af prog 119 [.ptr 1000 0,.int .i64 fun _=>(b:Int),.a8 g 1000] [(1000,dw r0),(1001000000,am fun _=>r0.s)] (aq e D .any fun _=>(cj b F r0).1) [(1000,dw (cj b F r0).2),(1001000000,am fun _=>(cj b F r0).2.s)]:=by
 obtain⟨D,rfl⟩:∃d,D=d+1:=⟨D-1,zo⟩
 obtain⟨p1,c1⟩:=hF r0 h0;have h1:=h0.go p1.g;obtain⟨Z,hZ⟩:∃Z,Z=cj b F r0:=⟨_,rfl⟩
 rw[<- hZ];unfold cj at hZ;generalize F r0=q0 at p1 c1 h1 hZ;obtain⟨x0,r1⟩:=q0;dsimp only at p1 c1 h1 hZ;have plain:∀(n:Nat) (x:X) (r:Rd),bU P k r->r.s.l.length<=n->X.le e (1+(r0.s.l.length-r.s.l.length)) x->Go r0 r->Post e r0 (mv b F n x r):=by
  intro n
  induction n with
  | zero=>intro x r hr hn hx hg;exact⟨hg,hx⟩
  | succ n ih=>
   intro x r hr hn hx hg;simp only[mv];cases q:r.op b with
   | none=>exact⟨hg,hx⟩
   | some o=>
    have hk:=EQ q;have hnl:=qu hr hk;have hr':bU P k (r.to r.s.next):=hr.same (Steps.next _) rfl;obtain⟨p2,_⟩:=hF _ hr';have h2:=hr'.go p2.g;have hl2:=p2.g.s.len;have ZD:(F (r.to r.s.next)).2.s.l.length<=r.s.next.l.length:=hl2;have hx2:=p2.x;have Wy:X.le e (1+(r.s.next.l.length-(F (r.to r.s.next)).2.s.l.length)) (F (r.to r.s.next)).1:=hx2;have hsl:=hg.s.len;refine ih _ _ h2 zo ?_ ((hg.trans (Go.of (r:=r) (r':=r.to r.s.next) (Steps.next _) rfl)).trans p2.g);refine X.cP (ER o (X.cP hx (Nat.le_max_left _ (1+(r.s.next.l.length-(F (r.to r.s.next)).2.s.l.length)))) (X.cP Wy (Nat.le_max_right _ _))) ?_;omega
 have hP:Post e r0 Z:=by rw[hZ];exact plain _ _ _ h1 (ao _) p1.x p1.g
 refine⟨hP,?_⟩;clear plain hP;have ho1:=ET hb h1;rw[aL,aL]at c1;rw[aL]at ho1;rw[aL,aL];obtain⟨is1,LD⟩:∃i,i=(r1.op b).isSome:=⟨_,rfl⟩
 obtain⟨o1,LE⟩:∃i,i=(r1.op b).getD 0:=⟨_,rfl⟩
 obtain⟨s1,hs1⟩:∃i,i=mK r1 b:=⟨_,rfl⟩
 rw[<- LD,<- LE,<- hs1]at ho1
 (refine fA [.cell 6 25] EU [(1,[(1,aq e (D+1) .any fun _=>x0,[(1000,aX r1.o),(1001000000,am fun _=>r1.s)])]),(2,[(2,.ag [zI o1,zO is1],[(1000,aX r1.o),(1001000000,am fun _=>s1)])])] func119 fun _=>?_;repeat' first|exact⟨⟩|apply mA|apply mC<;>intro)
 all_goals try exact zB
 refine .loop (xA e (D+1) b g) (fun q=>mv b F q.1 q.2.1 q.2.2.1=Z∧bU P k q.2.2.1∧q.2.2.1.s.l.length<=q.1∧q.2.2.2.1=(q.2.2.1.op b).isSome∧q.2.2.2.2.1=(q.2.2.1.op b).getD 0∧q.2.2.2.2.2=mK q.2.2.1 b∧X.le e (1+(r0.s.l.length-q.2.2.1.s.l.length)) q.2.1∧q.2.2.1.s.l.length<=r0.s.l.length)
  (fun q=>q.1) (r1.s.l.length,x0,r1,is1,o1,s1) ⟨hZ.symm,h1,ao _,LD,LE,hs1,p1.x,p1.g.s.len⟩ ?_ fun q E hq=>?_
 ·unfold xA
  exact aZ
 obtain⟨n,x,r,is,o,s'⟩:=q;obtain⟨g1,g2,g3,g4,g5,g6,g7,g8⟩:=hq;dsimp only at g1 g2 g3 g4 g5 g6 g7 g8;unfold xA;dsimp only;have hlen:=h0.len;cases q:r.op b with
 | none=>
  rw[q]at g4 g5;have g4:is=false:=g4;have hs':s'=r.s:=by rw[g6];unfold mK;rw[q];rfl
  have hZ2:Z=(x,r):=by
   rw[<- g1];cases n with
   | zero=>rfl
   | succ n=>simp only[mv,q]
  rw[hZ2,g4,hs'];apply af.wk tF mF [] EU ?_
  (refine oB ?_;repeat' first|exact⟨⟩|apply mA|apply mC<;>intro)
 | some v=>
  rw[q]at g4 g5;have g4:is=true:=g4;have g5:o=v:=g5;have hs':s'=r.s.next:=by rw[g6];unfold mK;rw[q];rfl
  have hnl:=qu g2 (EQ q);obtain⟨n,rfl⟩:∃m,n=m+1:=⟨n-1,zo⟩
  simp only[mv,q]at g1;have hr':bU P k (r.to r.s.next):=g2.same (Steps.next _) rfl;obtain⟨p2,c2⟩:=hF _ hr';have h2:=hr'.go p2.g;have LF:=p2.g.s.len;have uA:=p2.x;have e1:(r.to r.s.next).s=r.s.next:=rfl;have e2:dw (r.to r.s.next)=aX r.o:=rfl;rw[e1]at LF uA;rw[e1,e2]at c2;generalize F (r.to r.s.next)=q2 at*;obtain⟨y,r2⟩:=q2;dsimp only at c2 h2 LF uA g1;have ho2:=ET hb h2;rw[aL]at ho2 c2;obtain⟨is2,LG⟩:∃i,i=(r2.op b).isSome:=⟨_,rfl⟩
  obtain⟨o2,LH⟩:∃i,i=(r2.op b).getD 0:=⟨_,rfl⟩
  obtain⟨s2,hs2⟩:∃i,i=mK r2 b:=⟨_,rfl⟩
  rw[<- LG,<- LH,<- hs2]at ho2;rw[g4,g5,hs'];generalize r.s.next=t1 at*;apply af.wk tF mF [(5,[(3,aq e (D+1) .any fun _=>y,[(1000,aX r2.o),(1001000000,am fun _=>r2.s)])]),(4,[(2,.ag [zI o2,zO is2],[(1000,aX r2.o),(1001000000,am fun _=>s2)])])] EU ?_
  (refine oB ?_;repeat' first|exact⟨⟩|apply mA|apply mC<;>intro)
  have hxl:X.le e D x:=X.cP g7 zo;have hyl:X.le e D y:=X.cP uA zo;refine dE (ι:=LC) (μ:=fun q=>q.1) (i:=(n+1,x,r,true,v,t1)) (I:=xA e (D+1) b g) (n,bin v x y,r2,is2,o2,s2) ?_ ?_
  ·refine⟨⟨g1,h2,?_,LG,LH,hs2,?_,?_⟩,?_⟩
   ·dsimp only;omega
   ·dsimp only;refine X.cP (ER v (X.cP g7 (Nat.le_max_left _ (1+(t1.l.length-r2.s.l.length)))) (X.cP uA (Nat.le_max_right _ _))) ?_;omega
   ·dsimp only;omega
   ·dsimp only;omega
  unfold xA
  (focus(refine aQ ?_;repeat' first|with_reducible apply ai|exact wZ|fail))
  exact ES (bin v x y) rfl hxl hyl
def Wz{P:Tok->Prop}{e D k:Nat}(hD:65600<=D){F:Rd->X×Rd}(hF:cW P e D k 282 F):cW P e D k 281 (cj 7 F):=by
 intro r hr;obtain⟨p1,c1⟩:=xB hD (b:=7) (by unfold eX;omega) hF r hr;refine⟨p1,?_⟩;obtain⟨D,rfl⟩:∃d,D=d+1:=⟨D-1,zo⟩
 generalize cj 7 F r=q at*;obtain⟨y,r2⟩:=q;dsimp only at c1 ⊢;rw[aL,aL]at c1 ⊢;generalize r.s=s at*;generalize r.o=o at*;generalize r2.s=s2 at*;generalize r2.o=o2 at*
 (refine fB [.cell 2 25] WA [(1,[(3,aq e (D+1) .any fun _=>y,[(1000,aX o2),(1001000000,am fun _=>s2)])])] func281 fun _=>?_;repeat' first|exact⟨⟩|apply mA|apply mC<;>intro)
def WB{P:Tok->Prop}{e D k:Nat}(hD:65600<=D){F:Rd->X×Rd}(hF:cW P e D k 281 F):cW P e D k 270 (cj 6 F):=by
 intro r hr;obtain⟨p1,c1⟩:=xB hD (b:=6) (by unfold eX;omega) hF r hr;refine⟨p1,?_⟩;obtain⟨D,rfl⟩:∃d,D=d+1:=⟨D-1,zo⟩
 generalize cj 6 F r=q at*;obtain⟨y,r2⟩:=q;dsimp only at c1 ⊢;rw[aL,aL]at c1 ⊢;generalize r.s=s at*;generalize r.o=o at*;generalize r2.s=s2 at*;generalize r2.o=o2 at*
 (refine fB [.cell 2 25] WC [(1,[(3,aq e (D+1) .any fun _=>y,[(1000,aX o2),(1001000000,am fun _=>s2)])])] func270 fun _=>?_;repeat' first|exact⟨⟩|apply mA|apply mC<;>intro)
def WD{P:Tok->Prop}{e D k:Nat}(hD:65600<=D){F:Rd->X×Rd}(hF:cW P e D k 270 F):cW P e D k 256 (cj 5 F):=by
 intro r hr;obtain⟨p1,c1⟩:=xB hD (b:=5) (by unfold eX;omega) hF r hr;refine⟨p1,?_⟩;obtain⟨D,rfl⟩:∃d,D=d+1:=⟨D-1,zo⟩
 generalize cj 5 F r=q at*;obtain⟨y,r2⟩:=q;dsimp only at c1 ⊢;rw[aL,aL]at c1 ⊢;generalize r.s=s at*;generalize r.o=o at*;generalize r2.s=s2 at*;generalize r2.o=o2 at*
 (refine fB [.cell 2 25] WE [(1,[(3,aq e (D+1) .any fun _=>y,[(1000,aX o2),(1001000000,am fun _=>s2)])])] func256 fun _=>?_;repeat' first|exact⟨⟩|apply mA|apply mC<;>intro)
def WF{P:Tok->Prop}{e D k:Nat}(hD:65600<=D){F:Rd->X×Rd}(hF:cW P e D k 185 F):cW P e D k 120 (cj 2 F):=by
 intro r hr;obtain⟨p1,c1⟩:=xB hD (b:=2) (by unfold eX;omega) hF r hr;refine⟨p1,?_⟩;obtain⟨D,rfl⟩:∃d,D=d+1:=⟨D-1,zo⟩
 generalize cj 2 F r=q at*;obtain⟨y,r2⟩:=q;dsimp only at c1 ⊢;rw[aL,aL]at c1 ⊢;generalize r.s=s at*;generalize r.o=o at*;generalize r2.s=s2 at*;generalize r2.o=o2 at*
 (refine fB [.cell 2 25] WG [(1,[(3,aq e (D+1) .any fun _=>y,[(1000,aX o2),(1001000000,am fun _=>s2)])])] func120 fun _=>?_;repeat' first|exact⟨⟩|apply mA|apply mC<;>intro)
def WH{P:Tok->Prop}{e D k:Nat}(hD:65600<=D){F:Rd->X×Rd}(hF:cW P e D k 120 F):cW P e D k 67 (cj 1 F):=by
 intro r hr;obtain⟨p1,c1⟩:=xB hD (b:=1) (by unfold eX;omega) hF r hr;refine⟨p1,?_⟩;obtain⟨D,rfl⟩:∃d,D=d+1:=⟨D-1,zo⟩
 generalize cj 1 F r=q at*;obtain⟨y,r2⟩:=q;dsimp only at c1 ⊢;rw[aL,aL]at c1 ⊢;generalize r.s=s at*;generalize r.o=o at*;generalize r2.s=s2 at*;generalize r2.o=o2 at*
 (refine fB [.cell 2 25] WI [(1,[(3,aq e (D+1) .any fun _=>y,[(1000,aX o2),(1001000000,am fun _=>s2)])])] func67 fun _=>?_;repeat' first|exact⟨⟩|apply mA|apply mC<;>intro)
def i7(op:Int)(t:ByteArray)(U:Rd->X×Rd)(r:Rd):X×Rd:=
 if(r.enter.to r.enter.s.next).bad=true then(.mk op 0 ⟨#[]⟩ [] [],(r.enter.to r.enter.s.next).down)
 else(.mk op 0 ⟨#[]⟩ [] [(U (r.enter.to r.enter.s.next)).1],(U (r.enter.to r.enter.s.next)).2.down)
def nC(U C:Rd->X×Rd)(r:Rd):X×Rd:=if r.s.aH ⟨#[110,111,116]⟩=true then i7 3 ⟨#[110,111,116]⟩ U r else C r
def ib(U Pm:Rd->X×Rd)(r:Rd):X×Rd:=if r.s.aH ⟨#[45]⟩=true∧r.s.neg=false then i7 16 ⟨#[45]⟩ U r else Pm r
def lN{s:St}{t:ByteArray}(h:s.aH t=true):s.ok=true∧s.peek.kind≠0:=by
 unfold St.aH at h;simp only[az,eU,cX]at h;exact⟨h.1,zo⟩
def WJ{e c:Nat}{x:X}(o:Int)(hx:X.le e c x):X.le e (c+1) (.mk o 0 ⟨#[]⟩ [] [x]):=
 ⟨aB _,aB _,(zd:1<=1073741824),fun v hv=>(by cases hv),fun z hz=>by
  rcases bW.1 hz with rfl|hz
  ·exact hx
  ·cases hz⟩
def LI{e c:Nat}(o n:Int):X.le e (c+1) (.mk o n ⟨#[]⟩ [] []):=
 ⟨aB _,aB _,aB _,fun v hv=>(by cases hv),fun z hz=>by cases hz⟩
def bU.enter{P:Tok->Prop}{k:Nat}{r:Rd}(h:bU P k r)(hk:r.s.ok=true)(h0:r.s.peek.kind≠0):∃j,k=j+1∧bU P j (r.enter.to r.enter.s.next)∧Steps r.s r.enter.s.next ∧
 r.enter.s.next.l.length<=r.s.l.length∧(r.enter.s.next.e=0->r.enter.s.next.l.length+1=r.s.l.length):=by
 have he:=(lI hk).1;obtain⟨ho0,ho,hv⟩:=h.lv.resolve_left (fun q=>q he);obtain⟨j,rfl⟩:∃j,k=j+1:=⟨k-1,zo⟩
 have hs:Steps r.s r.enter.s:=by
  show Steps r.s (if r.o=32 then r.s.fail 23 else r.s);split
  ·exact .fail _ _
  ·exact .refl _
 have hs2:=hs.trans (Steps.next _);have eo:(r.enter.to r.enter.s.next).o=r.o+1:=rfl;refine⟨j,rfl,h.to hs2 (by rw[eo];omega) (by rw[eo];omega) ?_,hs2,hs2.len,fun hz=>?_⟩
 ·rw [eo];by_cases q:r.o=32
  ·refine .inl ?_;have e1:r.enter.s=r.s.fail 23:=by show(if r.o=32 then r.s.fail 23 else r.s)=_;rw[ae q]
   have e2:r.enter.s.e≠0:=by
    rw[e1];unfold St.fail;rw[ae ⟨hk,zd⟩];exact(zd:(23:Int)≠0)
   exact(Steps.next _).er e2
  ·exact .inr ⟨zo,zo,zo⟩
 ·by_cases q:r.o=32
  ·exfalso;have e1:r.enter.s=r.s.fail 23:=by show(if r.o=32 then r.s.fail 23 else r.s)=_;rw[ae q]
   have e2:r.enter.s.e≠0:=by
    rw[e1];unfold St.fail;rw[ae ⟨hk,zd⟩];exact(zd:(23:Int)≠0)
   exact(Steps.next _).er e2 hz
  ·have e1:r.enter.s=r.s:=by show(if r.o=32 then r.s.fail 23 else r.s)=_;rw[aa q]
   rw[e1];exact qu h h0
def LJ{P:Tok->Prop}{e k:Nat}{op:Int}{t:ByteArray}{U:Rd->X×Rd}(hU:∀j,k=j+1->∀r,bU P j r->Post e r (U r)){r:Rd}(h:bU P k r)(ht:r.s.aH t=true):Post e r (i7 op t U r):=by
 obtain⟨hk,h0⟩:=lN ht;obtain⟨j,rfl,g1,g2,g3,g4⟩:=h.enter hk h0;unfold i7;split
 ·exact⟨.of g2 (by show r.o+1-1=r.o;omega),by rw[uY];exact LI _ _⟩
 ·rename_i q;have p:=hU j rfl _ g1;have hz:r.enter.s.next.e=0:=by
   have q:¬(r.enter.s.next.e != 0)=true:=q;simpa using q
  have hz0:r.s.e=0:=fp fun k=>g2.er k hz;have g5:=g4 hz;generalize U (r.enter.to r.enter.s.next)=z at p ⊢;obtain⟨p1,p3⟩:=p;have p3:X.le e (1+(r.enter.s.next.l.length-z.2.s.l.length)) z.1:=p3;have p4:z.2.s.l.length<=r.enter.s.next.l.length:=p1.s.len;have e1:z.2.down.o=z.2.o-1:=rfl;have e2:(r.enter.to r.enter.s.next).o=r.o+1:=rfl;have ol:=p1.ol;have oh:=p1.oh;rw[e2]at ol oh;refine⟨⟨g2.trans p1.s,fun q=>?_,fun q=>absurd hz0 q,by rw[e1];omega,by rw[e1];omega⟩,?_⟩
  ·rw[e1,p1.oz q,e2];omega
  ·refine X.cP (WJ op p3) ?_;show _<=1+(r.s.l.length-z.2.s.l.length)
   omega
def EV(s:St)(hl:s.l.length<=1073741824):Af prog 121 [.ptr 1000 0] [(1000,am fun _=>s)] (.bool fun _=>s.neg) [(1000,am fun _=>s)]:=by
 have h1:=lK s ⟨#[45]⟩;have h2:=kV s hl;have h3:=ju s.next;obtain⟨n,hn⟩:∃n,n=s.neg:=⟨_,rfl⟩
 rw[<- hn];unfold St.neg at hn;generalize s.next=t at*;generalize s.peek=p at*;generalize t.peek=p2 at*;cases q:s.aH ⟨#[45]⟩with
 | true=>
  rw[q]at h1 hn
  (refine fB [.tmp 2] LK [(1,[(1,zO true,zS s)]),(4,[(0,zK p,zS t)]),(5,[(0,zK p2,zS t)])] func121 fun _=>?_;repeat' first|exact⟨⟩|apply mA|apply mC<;>intro)
  rw[hn];by_cases g:p2.kind=2<;>simp[g]
 | false=>
  rw[q]at h1 hn;rw[hn]
  (refine fB [.tmp 2] LK [(1,[(1,zO false,zS s)])] func121 fun _=>?_;repeat' first|exact⟨⟩|apply mA|apply mC<;>intro)
  all_goals rfl
def WK{P:Tok->Prop}{e D k:Nat}(hD:65600<=D){U:Rd->X×Rd}(hU:∀j,k=j+1->cW P e D j 185 U)(r:Rd)(h:bU P k r)(ht:r.s.aH ⟨#[110,111,116]⟩=true):
 Af prog 185 [.ptr 1000 0] [(1000,dw r),(1001000000,am fun _=>r.s)] (aq e D .any fun _=>(i7 3 ⟨#[110,111,116]⟩ U r).1) [(1000,dw (i7 3 ⟨#[110,111,116]⟩ U r).2),(1001000000,am fun _=>(i7 3 ⟨#[110,111,116]⟩ U r).2.s)]:=by
 have hlen:r.s.l.length<=1073741824:=aG h.len zd;have h1:=lK r.s ⟨#[110,111,116]⟩;rw[ht]at h1;obtain⟨hk,h0⟩:=lN ht;obtain⟨j,rfl,g1,g2,g3,g4⟩:=h.enter hk h0;have h2:=DP r ⟨by have:=h.o0;omega,by have:=h.o1;omega⟩;have hel:r.enter.s.l.length<=1073741824:=by
  show(if r.o=32 then r.s.fail 23 else r.s).l.length<=_;split
  ·rw[rz];exact hlen
  ·exact hlen
 have h3:=kV r.enter.s hel;have h4:=uh (r.enter.to r.enter.s.next);obtain⟨D,rfl⟩:∃d,D=d+1:=⟨D-1,zo⟩
 have e1:(r.enter.to r.enter.s.next).s=r.enter.s.next:=rfl;have e2:(r.enter.to r.enter.s.next).o=r.enter.o:=rfl;obtain⟨p5,h5⟩:=hU j rfl _ g1;have o7:=p5.x;rw[e1]at o7;rw[aL,e1,e2]at h4;rw[aL,aL,e1,e2]at h5;rw[aL,aL]at h2;obtain⟨G,hG⟩:∃G,G=i7 3 ⟨#[110,111,116]⟩ U r:=⟨_,rfl⟩
 rw[<- hG,aL,aL];unfold i7 at hG;have ho1:0<=r.enter.o∧r.enter.o<=34:=⟨by show 0<=r.o+1;have:=h.o0;omega,by show r.o+1<=34;have:=h.o1;omega⟩
 have ho2 : -1<=(U (r.enter.to r.enter.s.next)).2.o∧(U (r.enter.to r.enter.s.next)).2.o<=34:=by
  have a:=p5.g.ol;have b:=p5.g.oh;rw[e2]at a b;exact⟨zo,zo⟩
 have e3:(r.enter.to r.enter.s.next).down.o=r.enter.o-1:=rfl;have e4:(r.enter.to r.enter.s.next).down.s=r.enter.s.next:=rfl;have e6:(U (r.enter.to r.enter.s.next)).2.down.s=(U (r.enter.to r.enter.s.next)).2.s:=rfl;have WL:r.enter.s.next.l.length<=65537:=g1.len;obtain⟨om,xC⟩:∃i,i=r.enter.o-1:=⟨_,rfl⟩
 obtain⟨on,hon⟩:∃i,i=(U (r.enter.to r.enter.s.next)).2.o-1:=⟨_,rfl⟩
 cases q:(r.enter.to r.enter.s.next).bad with
 | true=>
  rw[ae q]at hG;rw[q]at h4;have hG1:G.1=.mk 3 0 ⟨#[]⟩ [] []:=by rw[hG]
  have hG2:G.2.o=om:=by rw[hG,xC];rfl
  have hG3:G.2.s=r.enter.s.next:=by rw[hG];rfl
  rw[hG1,hG2,hG3];clear hG hG1 hG2 hG3 e1 e2 e3 e4 e6 o7 h5 p5;generalize r.enter.s.next=t at*;generalize r.enter.s.peek=p at*;generalize r.enter.s=u at*;generalize r.enter.o=o1 at*;generalize r.s=s at*;generalize r.o=o at*
  (refine fA [.cell 2 25] EW [(1,[(4,zO true,zS s)]),(3,[(1,zT,[(1000,aX o1),(1001000000,am fun _=>u)])]),(4,[(4,zK p,zS t)]),(6,[(1,zO true,[(1000,aX o1),(1001000000,am fun _=>t)])])] func185 fun _=>?_;repeat' first|exact⟨⟩|apply mA|apply mC<;>intro)
  all_goals(try simp only[aF])
  any_goals((with_reducible first|refine nO ?_|refine sO (fun _=>?_));first|exact h1|exact h2|exact h3|exact h4 )
  (all_goals try first|exact eZ|(refine qC ?_;repeat' first|exact⟨⟩|apply mA))
  all_goals first
   | rfl
   | (rw[ax zo zo,xC])
 | false=>
  rw[aa (by rw[q];simp)]at hG;rw[q]at h4;have hG1:G.1=.mk 3 0 ⟨#[]⟩ [] [(U (r.enter.to r.enter.s.next)).1]:=by rw[hG]
  have hG2:G.2.o=on:=by rw[hG,hon];rfl
  have hG3:G.2.s=(U (r.enter.to r.enter.s.next)).2.s:=by rw[hG];rfl
  rw[hG1,hG2,hG3];have hxl:X.le e D (U (r.enter.to r.enter.s.next)).1:=X.cP o7 zo;clear hG hG1 hG2 hG3 e1 e2 e3 e4 e6 o7 p5;generalize (U (r.enter.to r.enter.s.next)).1=y at*;generalize (U (r.enter.to r.enter.s.next)).2.s=v at*;generalize (U (r.enter.to r.enter.s.next)).2.o=o3 at*;generalize r.enter.s.next=t at*;generalize r.enter.s.peek=p at*;generalize r.enter.s=u at*;generalize r.enter.o=o1 at*;generalize r.s=s at*;generalize r.o=o at*
  (refine fA [.cell 2 25] EW [(1,[(4,zO true,zS s)]),(3,[(1,zT,[(1000,aX o1),(1001000000,am fun _=>u)])]),(4,[(4,zK p,zS t)]),(6,[(1,zO false,[(1000,aX o1),(1001000000,am fun _=>t)])]),(7,[(1,aq e (D+1) .any fun _=>y,[(1000,aX o3),(1001000000,am fun _=>v)])])] func185 fun _=>?_;repeat' first|exact⟨⟩|apply mA|apply mC<;>intro)
  all_goals(try simp only[aF])
  any_goals((with_reducible first|refine nO ?_|refine sO (fun _=>?_));first|exact h1|exact h2|exact h3|exact h4|exact h5 )
  (all_goals try first|exact eZ|(refine qC ?_;repeat' first|exact⟨⟩|apply mA))
  all_goals first
   | rfl
   | exact LB _ rfl hxl
   | (rw[ax zo zo,hon])
def WM{P:Tok->Prop}{e D k:Nat}(hD:65600<=D){U:Rd->X×Rd}(hU:∀j,k=j+1->cW P e D j 282 U)(r:Rd)(h:bU P k r)(ht:r.s.aH ⟨#[45]⟩=true)(WN:r.s.neg=false):
 Af prog 282 [.ptr 1000 0] [(1000,dw r),(1001000000,am fun _=>r.s)] (aq e D .any fun _=>(i7 16 ⟨#[45]⟩ U r).1) [(1000,dw (i7 16 ⟨#[45]⟩ U r).2),(1001000000,am fun _=>(i7 16 ⟨#[45]⟩ U r).2.s)]:=by
 have hlen:r.s.l.length<=1073741824:=aG h.len zd;have h1:=lK r.s ⟨#[45]⟩;rw[ht]at h1;have h7:=EV r.s hlen;rw[WN]at h7;obtain⟨hk,h0⟩:=lN ht;obtain⟨j,rfl,g1,g2,g3,g4⟩:=h.enter hk h0;have h2:=DP r ⟨by have:=h.o0;omega,by have:=h.o1;omega⟩;have hel:r.enter.s.l.length<=1073741824:=by
  show(if r.o=32 then r.s.fail 23 else r.s).l.length<=_;split
  ·rw[rz];exact hlen
  ·exact hlen
 have h3:=kV r.enter.s hel;have h4:=uh (r.enter.to r.enter.s.next);obtain⟨D,rfl⟩:∃d,D=d+1:=⟨D-1,zo⟩
 have e1:(r.enter.to r.enter.s.next).s=r.enter.s.next:=rfl;have e2:(r.enter.to r.enter.s.next).o=r.enter.o:=rfl;obtain⟨p5,h5⟩:=hU j rfl _ g1;have o7:=p5.x;rw[e1]at o7;rw[aL,e1,e2]at h4;rw[aL,aL,e1,e2]at h5;rw[aL,aL]at h2;obtain⟨G,hG⟩:∃G,G=i7 16 ⟨#[45]⟩ U r:=⟨_,rfl⟩
 rw[<- hG,aL,aL];unfold i7 at hG;have ho1:0<=r.enter.o∧r.enter.o<=34:=⟨by show 0<=r.o+1;have:=h.o0;omega,by show r.o+1<=34;have:=h.o1;omega⟩
 have ho2 : -1<=(U (r.enter.to r.enter.s.next)).2.o∧(U (r.enter.to r.enter.s.next)).2.o<=34:=by
  have a:=p5.g.ol;have b:=p5.g.oh;rw[e2]at a b;exact⟨zo,zo⟩
 have e3:(r.enter.to r.enter.s.next).down.o=r.enter.o-1:=rfl;have e4:(r.enter.to r.enter.s.next).down.s=r.enter.s.next:=rfl;have e6:(U (r.enter.to r.enter.s.next)).2.down.s=(U (r.enter.to r.enter.s.next)).2.s:=rfl;have WL:r.enter.s.next.l.length<=65537:=g1.len;obtain⟨om,xC⟩:∃i,i=r.enter.o-1:=⟨_,rfl⟩
 obtain⟨on,hon⟩:∃i,i=(U (r.enter.to r.enter.s.next)).2.o-1:=⟨_,rfl⟩
 cases q:(r.enter.to r.enter.s.next).bad with
 | true=>
  rw[ae q]at hG;rw[q]at h4;have hG1:G.1=.mk 16 0 ⟨#[]⟩ [] []:=by rw[hG]
  have hG2:G.2.o=om:=by rw[hG,xC];rfl
  have hG3:G.2.s=r.enter.s.next:=by rw[hG];rfl
  rw[hG1,hG2,hG3];clear hG hG1 hG2 hG3 e1 e2 e3 e4 e6 o7 h5 p5;generalize r.enter.s.next=t at*;generalize r.enter.s.peek=p at*;generalize r.enter.s=u at*;generalize r.enter.o=o1 at*;generalize r.s=s at*;generalize r.o=o at*
  (refine fA [.cell 2 25] AJ [(1,[(4,zO true,zS s),(11,zO false,zS s)]),(3,[(1,zT,[(1000,aX o1),(1001000000,am fun _=>u)])]),(4,[(4,zK p,zS t)]),(6,[(1,zO true,[(1000,aX o1),(1001000000,am fun _=>t)])])] func282 fun _=>?_;repeat' first|exact⟨⟩|apply mA|apply mC<;>intro)
  all_goals(try simp only[aF])
  all_goals try exact zB
  all_goals try exact absurd ‹False∧True› (fun q=>q.1)
  (all_goals try first|exact eZ|(refine qC ?_;repeat' first|exact⟨⟩|apply mA))
  all_goals first
   | rfl
   | (rw[ax zo zo,xC])
 | false=>
  rw[aa (by rw[q];simp)]at hG;rw[q]at h4;have hG1:G.1=.mk 16 0 ⟨#[]⟩ [] [(U (r.enter.to r.enter.s.next)).1]:=by rw[hG]
  have hG2:G.2.o=on:=by rw[hG,hon];rfl
  have hG3:G.2.s=(U (r.enter.to r.enter.s.next)).2.s:=by rw[hG];rfl
  rw[hG1,hG2,hG3];have hxl:X.le e D (U (r.enter.to r.enter.s.next)).1:=X.cP o7 zo;clear hG hG1 hG2 hG3 e1 e2 e3 e4 e6 o7 p5;generalize (U (r.enter.to r.enter.s.next)).1=y at*;generalize (U (r.enter.to r.enter.s.next)).2.s=v at*;generalize (U (r.enter.to r.enter.s.next)).2.o=o3 at*;generalize r.enter.s.next=t at*;generalize r.enter.s.peek=p at*;generalize r.enter.s=u at*;generalize r.enter.o=o1 at*;generalize r.s=s at*;generalize r.o=o at*
  (refine fA [.cell 2 25] AJ [(1,[(4,zO true,zS s),(11,zO false,zS s)]),(3,[(1,zT,[(1000,aX o1),(1001000000,am fun _=>u)])]),(4,[(4,zK p,zS t)]),(6,[(1,zO false,[(1000,aX o1),(1001000000,am fun _=>t)])]),(7,[(1,aq e (D+1) .any fun _=>y,[(1000,aX o3),(1001000000,am fun _=>v)])])] func282 fun _=>?_;repeat' first|exact⟨⟩|apply mA|apply mC<;>intro)
  all_goals(try simp only[aF])
  all_goals try exact zB
  all_goals try exact absurd ‹False∧True› (fun q=>q.1)
  (all_goals try first|exact eZ|(refine qC ?_;repeat' first|exact⟨⟩|apply mA))
  all_goals first
   | rfl
   | exact LB _ rfl hxl
   | (rw[ax zo zo,hon])
def WP{P:Tok->Prop}{e D k:Nat}(hD:65600<=D){U C:Rd->X×Rd}(hU:∀j,k=j+1->cW P e D j 185 U)(hC:cW P e D k 232 C):cW P e D k 185 (nC U C):=by
 intro r h;unfold nC;by_cases ht:r.s.aH ⟨#[110,111,116]⟩=true
 ·rw[ae ht];exact⟨LJ (fun j hj r hr=>(hU j hj r hr).1) h ht,WK hD hU r h ht⟩
 ·rw[aa ht];obtain⟨p,c⟩:=hC r h;refine⟨p,?_⟩;have h1:=lK r.s ⟨#[110,111,116]⟩;rw[show r.s.aH ⟨#[110,111,116]⟩=false by simpa using ht]at h1;obtain⟨D,rfl⟩:∃d,D=d+1:=⟨D-1,zo⟩
  rw[aL,aL]at c ⊢;generalize (C r).1=y at*;generalize (C r).2.s=v at*;generalize (C r).2.o=o2 at*;generalize r.s=s at*;generalize r.o=o at*
  (refine fB [.cell 2 25] EW [(1,[(4,zO false,zS s)]),(2,[(1,aq e (D+1) .any fun _=>y,[(1000,aX o2),(1001000000,am fun _=>v)])])] func185 fun _=>?_;repeat' first|exact⟨⟩|apply mA|apply mC<;>intro)
def WQ{P:Tok->Prop}{e D k:Nat}(hD:65600<=D){U C:Rd->X×Rd}(hU:∀j,k=j+1->cW P e D j 282 U)(hC:cW P e D k 283 C):cW P e D k 282 (ib U C):=by
 intro r h;unfold ib;have hlen:r.s.l.length<=1073741824:=aG h.len zd;by_cases hc:r.s.aH ⟨#[45]⟩=true∧r.s.neg=false
 ·rw[ae hc];exact⟨LJ (fun j hj r hr=>(hU j hj r hr).1) h hc.1,WM hD hU r h hc.1 hc.2⟩
 ·rw [aa hc];obtain⟨p,c⟩:=hC r h;refine⟨p,?_⟩;have h1:=lK r.s ⟨#[45]⟩;have h7:=EV r.s hlen;obtain⟨D,rfl⟩:∃d,D=d+1:=⟨D-1,zo⟩
  rw[aL,aL]at c ⊢;generalize (C r).1=y at*;generalize (C r).2.s=v at*;generalize (C r).2.o=o2 at*;generalize r.s.aH ⟨#[45]⟩=b1 at*;generalize r.s.neg=b2 at*;generalize r.s=s at*;generalize r.o=o at*;cases b1 with
  | false=>
   (refine fA [.cell 2 25] AJ [(1,[(4,zO false,zS s),(11,zO b2,zS s)]),(2,[(1,aq e (D+1) .any fun _=>y,[(1000,aX o2),(1001000000,am fun _=>v)])])] func282 fun _=>?_;repeat' first|exact⟨⟩|apply mA|apply mC<;>intro)
   all_goals(try simp only[aF])
   all_goals try exact zB
   all_goals try exact absurd ‹False∧b2=false› (fun q=>q.1)
   all_goals try exact absurd ‹True∧False› (fun q=>q.2)
   all_goals exact eZ
  | true=>
   have hb:b2=true:=by
    cases b2 with
    | true=>rfl
    | false=>exact absurd ⟨rfl,rfl⟩ hc
   subst hb
   (refine fA [.cell 2 25] AJ [(1,[(4,zO true,zS s),(11,zO true,zS s)]),(2,[(1,aq e (D+1) .any fun _=>y,[(1000,aX o2),(1001000000,am fun _=>v)])])] func282 fun _=>?_;repeat' first|exact⟨⟩|apply mA|apply mC<;>intro)
   all_goals(try simp only[aF])
   all_goals try exact zB
   all_goals try exact absurd ‹False∧b2=false› (fun q=>q.1)
   all_goals try exact absurd ‹True∧False› (fun q=>q.2)
   all_goals exact eZ
def kZ(least most i:Int)(r:Rd):Bool:=!r.bad&&(decide (i<least)||(decide (most<0)&&r.s.aH ⟨#[44]⟩))
def fy(i:Int)(r:Rd):Rd:=if 0<i then r.to (r.s.expect ⟨#[44]⟩)else r
def fx(E:Rd->X×Rd)(least most:Int):Nat->Int->List X->Rd->List X×Rd
 | 0,_,l,r=>(l,r)
 | n+1,i,l,r=>if kZ least most i r=true then fx E least most n (i+1) (l++[(E (fy i r)).1]) (E (fy i r)).2 else(l,r)
def eI(E:Rd->X×Rd)(least most:Int)(r:Rd):List X×Rd:=
 ((fx E least most (r.paren.s.l.length+4) 0 [] r.paren).1,(fx E least most (r.paren.s.l.length+4) 0 [] r.paren).2.close)
def LL{s:St}{t:ByteArray}(h:s.aH t=false)(hk:s.ok=true):(s.expect t).e≠0:=by
 unfold St.expect;rw[aa (by rw[h];simp)];unfold St.fail;rw[ae ⟨hk,zd⟩];exact(zd:(13:Int)≠0)
def WR{P:Tok->Prop}{k:Nat}{r:Rd}{t:ByteArray}(h:bU P k r)(hz:(r.s.expect t).e=0):(r.s.expect t).l.length+1=r.s.l.length∧r.s.e=0:=by
 have hz0:r.s.e=0:=fp fun k=>(Steps.expect r.s t).er k hz;refine⟨?_,hz0⟩;have hok:r.s.ok=true:=by
  unfold St.ok;have:=mU.2 (h.ne hz0);simp[hz0,this]
 cases q:r.s.aH t with
 | false=>exact absurd hz (LL q hok)
 | true=>
  have e1:r.s.expect t=r.s.next:=by unfold St.expect;rw[ae q]
  rw[e1];exact qu h (lN q).2
def sl{P:Tok->Prop}{k:Nat}{r:Rd}(h:bU P k r)(hg:r.s.e=0):Steps r.s r.paren.s∧r.o<=r.paren.o∧r.paren.o<=r.o+1 ∧
 (r.paren.s.e=0->r.paren.o=r.o+1∧r.paren.s.l.length+1=r.s.l.length)∧∃j,k=j+1∧bU P j r.paren:=by
 obtain⟨ho0,ho,hv⟩:=h.lv.resolve_left (fun q=>q hg);obtain⟨j,rfl⟩:∃j,k=j+1:=⟨k-1,zo⟩
 have hok:r.s.ok=true:=by
  unfold St.ok;have:=mU.2 (h.ne hg);simp[hg,this]
 cases q:r.s.aH ⟨#[40]⟩with
 | false=>
  have e1:r.paren.s=r.s.expect ⟨#[40]⟩:=by unfold Rd.paren;rw[aa (by rw[q];simp)];rfl
  have e2:r.paren.o=r.o:=by unfold Rd.paren;rw[aa (by rw[q];simp)];rfl
  have hs:Steps r.s r.paren.s:=by rw[e1];exact .expect _ _
  have hb:r.paren.s.e≠0:=by rw[e1];exact LL q hok
  exact⟨hs,zo,zo,fun z=>absurd z hb,j,rfl,h.to hs zo zo (.inl hb)⟩
 | true=>
  have e1:r.paren.s=r.enter.s.expect ⟨#[40]⟩:=by unfold Rd.paren;rw[ae q];rfl
  have e2:r.paren.o=r.o+1:=by unfold Rd.paren;rw[ae q];rfl
  by_cases q2:r.o=32
  ·have e3:r.enter.s=r.s.fail 23:=by show(if r.o=32 then r.s.fail 23 else r.s)=_;rw[ae q2]
   have hs:Steps r.s r.paren.s:=by rw[e1,e3];exact(Steps.fail _ _).trans (.expect _ _)
   have hb:r.paren.s.e≠0:=by
    rw[e1,e3];refine(Steps.expect _ _).er ?_;unfold St.fail;rw[ae ⟨hok,zd⟩];exact(zd:(23:Int)≠0)
   exact⟨hs,zo,zo,fun z=>absurd z hb,j,rfl,h.to hs zo zo (.inl hb)⟩
  ·have e3:r.enter.s=r.s:=by show(if r.o=32 then r.s.fail 23 else r.s)=_;rw[aa q2]
   have hs:Steps r.s r.paren.s:=by rw[e1,e3];exact .expect _ _
   refine⟨hs,zo,zo,fun z=>⟨e2,?_⟩,j,rfl,h.to hs zo zo (.inr ⟨zo,zo,zo⟩)⟩;rw[e1,e3]at z ⊢;exact(WR h z).1
def EX{r r1 r2:Rd}(h0:r.s.e=0)(hs:Steps r.s r1.s)(h1:r.o<=r1.o)(h2:r1.o<=r.o+1)(h3:r1.s.e=0->r1.o=r.o+1)(g:Go r1 r2):Go r r2.close:=by
 have e1:r2.close.s=r2.s.expect ⟨#[41]⟩:=rfl;have e2:r2.close.o=r2.o-1:=rfl;have hs2:Steps r.s r2.close.s:=(hs.trans g.s).trans (.expect _ _);have g1:=g.ol;have g2:=g.oh;refine⟨hs2,fun z=>?_,fun z=>absurd h0 z,?_,zo⟩
 ·have z2:r2.s.e=0:=fp fun k=>(Steps.expect _ _).er k z;have z1:r1.s.e=0:=fp fun k=>g.s.er k z2;have:=g.oz z2;have:=h3 z1;omega
 ·by_cases z1:r1.s.e=0
  ·have:=h3 z1;omega
  ·have:=g.ob z1;omega
def LM(i:Int)(r:Rd):Go r (fy i r):=by
 unfold fy;split
 ·exact Go.of (r:=r) (r':=r.to (r.s.expect ⟨#[44]⟩)) (.expect _ _) rfl
 ·exact .of (.refl _) rfl
def WS{least most i:Int}{r:Rd}(h:kZ least most i r=true):r.s.e=0:=by
 unfold kZ Rd.bad at h;simp only[az,ij,bne_eq_false_iff_eq]at h;exact h.1
theorem EY{P:Tok->Prop}{e k:Nat}{E:Rd->X×Rd}(hE:∀r,bU P k r->Post e r (E r)){least most:Int}(r0:Rd):∀(n:Nat) (i:Int) (l:List X) (r:Rd),bU P k r->Go r0 r->0<=i->(∀y∈l,X.le e (1+(r0.s.l.length-r.s.l.length)) y)->(l≠[]->r0.s.e=0) ->
 Go r0 (fx E least most n i l r).2∧(∀y∈(fx E least most n i l r).1,X.le e (1+(r0.s.l.length-(fx E least most n i l r).2.s.l.length)) y)∧((fx E least most n i l r).1≠[]->r0.s.e=0)∧(fx E least most n i l r).1.length<=l.length+n
 | 0,i,l,r,hr,hg,hi,hl,hn=>⟨hg,hl,hn,ao _⟩
 | n+1,i,l,r,hr,hg,hi,hl,hn=>by
  simp only[fx];split
  ·rename_i hm;have g1:=LM i r;have hr1:=hr.go g1;have p:=hE _ hr1;have g2:=hg.trans g1;have s1:=p.g.s.len;have s2:=g2.s.len;have s3:=g1.s.len;have s4:=hg.s.len;have z0:r0.s.e=0:=fp fun k=>hg.s.er k (WS hm);have:=EY hE r0 (least:=least) (most:=most) n (i+1) (l++[(E (fy i r)).1]) (E (fy i r)).2 (hr1.go p.g) (g2.trans p.g) zo (fun y hy=>?_) (fun _=>z0)
   ·refine⟨this.1,this.2.1,this.2.2.1,?_⟩;have h4:=this.2.2.2;rw[du]at h4;have e1:[(E (fy i r)).1].length=1:=rfl;omega
   ·rcases gB.1 hy with hy|hy
    ·exact X.cP (hl y hy) zo
    ·rcases bW.1 hy with rfl|hy
     ·exact X.cP p.x zo
     ·cases hy
  ·exact⟨hg,hl,hn,io _ _⟩
end Go.Ai
