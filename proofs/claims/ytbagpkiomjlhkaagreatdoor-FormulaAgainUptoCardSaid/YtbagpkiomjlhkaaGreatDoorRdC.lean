/- Chapter 17: the reader: arguments, the walk. -/
import Derived.Test.YtbagpkiomjlhkaaGreatDoorRdB
set_option linter.all false
namespace Go.Ai
open Go Go.Proofs Tryz
set_option maxRecDepth 100000
set_option maxHeartbeats 4000000
def EZ(e D:Nat)(l:Unit->List X):(Unit->Nat)->List AV:=fun i=>cQ e D .any fun _=>(l ()).getD (i ()) default
def LN{e D:Nat}(l:List X)(x:X)(i:Nat)(hi:i<l.length+1):aD (dO (fun _=>l.length) (EZ e D fun _=>l) (dY [cQ e D .any fun _=>x]) fun _=>i) (EZ e D (fun _=>l++[x]) fun _=>i):=by
 refine aD.of_eq ?_;have eq:∀a b:X,a=b->(cQ e D .any fun _=>a)=cQ e D .any fun _=>b:=fun a b h=>by rw[h]
 unfold dO;by_cases q:i<l.length
 ·rw[ae q];refine eq _ _ ?_;show l.getD i default=(l++[x]).getD i default;rw[cz,cz,gS q]
 ·rw[aa q];obtain rfl:i=l.length:=by omega
  have h1:(dY [cQ e D .any fun _=>x] fun _=>l.length-l.length)=cQ e D .any fun _=>x:=by rw[ku];rfl
  refine h1.trans (eq _ _ ?_);show x=(l++[x]).getD l.length default;rw[cz,jd (ao _),ku];rfl
abbrev E0:=Nat×Int×List X×Rd
def so(e D:Nat)(least most:Int)(q:E0):SS:=
 ⟨47,[(8,.int .i64 fun _=>q.2.1),(7,.aJ 43 1 fun _=>q.2.2.1.length),(2,.int .i64 fun _=>most),(1,.int .i64 fun _=>least),(0,.ptr 1000 0)],
  [(1000,aX q.2.2.2.o),(1001000000,am fun _=>q.2.2.2.s),(43,.arr false 25 5 1 (fun _=>q.2.2.1.length) (EZ e D fun _=>q.2.2.1))]⟩
def LO{P:Tok->Prop}{e D k:Nat}(hD:65600<=D){E:Rd->X×Rd}(hE:∀j,k=j+1->cW P e D j 67 E)(least most:Int)(hl1:1<=least)(hl3:least<=3)(r0:Rd)(h0:bU P k r0)(hz:r0.s.e=0):
 Af prog 257 [.ptr 1000 0,.int .i64 fun _=>least,.int .i64 fun _=>most] [(1000,dw r0),(1001000000,am fun _=>r0.s)] (eP e D .any fun _=>(eI E least most r0).1) [(1000,dw (eI E least most r0).2),(1001000000,am fun _=>(eI E least most r0).2.s)]:=by
 obtain⟨D,rfl⟩:∃d,D=d+1:=⟨D-1,zo⟩
 obtain⟨g1,g2,g3,g4,j,rfl,g5⟩:=sl h0 hz;have hE:=hE j rfl;have hp:=zV r0 ⟨by have:=h0.o0;omega,by have:=h0.o1;omega⟩ (aG h0.len zd);unfold eI;generalize r0.paren=r1 at*;obtain⟨N,hN⟩:∃N,N=r1.s.l.length+4:=⟨_,rfl⟩
 rw[<- hN];obtain⟨Z,hZ⟩:∃Z,Z=fx E least most N 0 [] r1:=⟨_,rfl⟩
 rw[<- hZ];have hgo:=EY (fun r hr=>(hE r hr).1) (least:=least) (most:=most) r1 N 0 [] r1 g5 (.of (.refl _) rfl) (fC _) (fun y hy=>by cases hy) (fun q=>absurd rfl q);rw[<- hZ]at hgo;have hZ2:=g5.go hgo.1;have hcl:=wU Z.2 ⟨by have:=hZ2.o0;omega,by have:=hZ2.o1;omega⟩ (aG hZ2.len zd);have hlen:=g5.len;dsimp only;rw[aL,aL]at hp hcl ⊢;generalize Z.2.close.o=co at*;generalize Z.2.close.s=cs at*
 (refine fA [.tmp 6] AK [(2,[(1,zT,[(1000,aX r1.o),(1001000000,am fun _=>r1.s)])]),(9,[(1,zT,[(1000,aX co),(1001000000,am fun _=>cs)])])] func257 fun _=>?_;repeat' first|exact⟨⟩|apply mA|apply mC<;>intro)
 all_goals try exact zB
 refine .loop (so e (D+1) least most) (fun q=>fx E least most q.1 q.2.1 q.2.2.1 q.2.2.2=Z∧bU P j q.2.2.2∧0<=q.2.1∧q.2.1<=70000-(q.1:Int)∧q.2.2.2.s.l.length+(least-q.2.1).toNat+1<=q.1∧q.2.2.1.length+q.1<=65541)
  (fun q=>q.1) (N,0,[],r1) ⟨hZ.symm,g5,fC _,by dsimp only;omega,by dsimp only;omega,by dsimp only;show 0+N<=65541;omega⟩ ?_ fun q E' hq=>?_
 ·unfold so
  exact aZ
 obtain⟨n,i,l,r⟩:=q;obtain⟨q1,q2,q3,q4,q5,q6⟩:=hq;dsimp only at q1 q2 q3 q4 q5 q6;unfold so;dsimp only;have hf:=uh r;have hc:=lK r.s ⟨#[44]⟩;rw[aL]at hf;cases hm:kZ least most i r with
 | false=>
  have hZ3:Z=(l,r):=by
   rw[<- q1];cases n with
   | zero=>rfl
   | succ n=>simp only[fx,hm];rfl
  have h1:Z.1=l:=by rw[hZ3]
  have h2:Z.2=r:=by rw[hZ3]
  rw[h1];rw[h2]at hcl;unfold kZ at hm;generalize r.s.aH ⟨#[44]⟩=b1 at*;generalize r.bad=b2 at*;have hm2:¬(b2=false∧(i<least∨most<0∧b1=true)):=by
   rintro⟨rfl,h|h⟩
   ·simp[h]at hm
   ·simp[h.1,h.2]at hm
  clear hm;apply af.wk tF mF [(4,[(1,zO b2,[(1000,aX r.o),(1001000000,am fun _=>r.s)]),(15,zO b1,[(1000,am fun _=>r.s)])])] AK ?_
  (refine oA ?_;repeat' first|exact⟨⟩|apply mA|apply mC<;>intro)
  all_goals(try simp only[aF])
  all_goals try exact zB
  all_goals try exact absurd ‹b2=false∧(i<least∨most<0∧b1=true)› hm2
  (all_goals try first|exact eZ|(refine qC ?_;repeat' first|exact⟨⟩|apply mA))
  all_goals first
   | (intro h1 h2;rw[h1,h2];rfl)
   | trace_state
 | true=>
  obtain⟨n,rfl⟩:∃m,n=m+1:=⟨n-1,zo⟩
  have q1:fx E least most n (i+1) (l++[(E (fy i r)).1]) (E (fy i r)).2=Z:=by
   rw[<- q1];simp only[fx,hm];rfl
  obtain⟨i1,hi1⟩:∃k,k=i+1:=⟨_,rfl⟩
  rw[<- hi1]at q1;have hsg:=LM i r;have q7:=q2.go hsg;obtain⟨p8,c8⟩:=hE _ q7;have q8:=q7.go p8.g;have hlt:(E (fy i r)).2.s.l.length+(least-i1).toNat+1<=n:=by
   have a1:=p8.g.s.len;have a2:=hsg.s.len;unfold kZ at hm;simp only[az,eU,cX]at hm;by_cases hil:i<least
   ·omega
   ·obtain⟨_,h|h⟩:=hm
    ·omega
    ·have e1:(fy i r).s=r.s.expect ⟨#[44]⟩:=by unfold fy;rw[ae zo];rfl
     have e2:r.s.expect ⟨#[44]⟩=r.s.next:=by unfold St.expect;rw[ae h.2]
     have:=qu q2 (lN h.2).2;rw[<- e2,<- e1]at this;omega
  have hxl:X.le e D (E (fy i r)).1:=X.cP p8.x (by have:=q7.len;omega);unfold kZ at hm;have hex:=uf r.s ⟨#[44]⟩ (aG q2.len zd);have e3:(fy i r).o=r.o:=by unfold fy;split<;>rfl
  have e4:(fy i r).s=if 0<i then r.s.expect ⟨#[44]⟩else r.s:=by unfold fy;split<;>rfl
  rw[aL,aL,e3,e4]at c8;generalize E (fy i r)=z at*;obtain⟨y,r2⟩:=z;dsimp only at c8 q1 hlt hxl q8;clear e4 e3 p8 q7 hsg;generalize r.s.aH ⟨#[44]⟩=b1 at*;generalize r.bad=b2 at*;have hm2:¬(b2=true∨least<=i∧(0<=most∨b1=false)):=by
   simp only[az,eU,ij,cX]at hm;obtain⟨rfl,h⟩:=hm;rintro(k|⟨k1,k2⟩)
   ·cases k
   ·rcases h with h|⟨h1,h2⟩
    ·omega
    ·rcases k2 with k2|k2
     ·omega
     ·rw[h2]at k2;cases k2
  clear hm;by_cases hi:0<i
  ·rw[ae hi]at c8;generalize r.s.expect ⟨#[44]⟩=s1 at*;apply af.wk tF mF [(4,[(1,zO b2,[(1000,aX r.o),(1001000000,am fun _=>r.s)]),(15,zO b1,[(1000,am fun _=>r.s)])]),(7,[(4,zT,zS s1)]),(8,[(2,aq e (D+1) .any fun _=>y,[(1000,aX r2.o),(1001000000,am fun _=>r2.s)])])] AK ?_
   (refine oA ?_;repeat' first|exact⟨⟩|apply mA|apply mC<;>intro)
   all_goals(try simp only[aF])
   all_goals try exact zB
   all_goals(try(rename_i hbr;exact absurd hbr hm2))
   all_goals(try(rename_i hbr;exact absurd hi (pc.2 hbr)))
   (all_goals try first|exact eZ|(refine qC ?_;repeat' first|exact⟨⟩|apply mA))
   ·intro h1 h2;rw[h1,h2];rfl
   refine dE (ι:=E0) (μ:=fun q=>q.1) (i:=(n+1,i,l,r)) (I:=so e (D+1) least most) (n,i1,l++[y],r2) ?_ ?_
   ·refine⟨⟨q1,q8,?_,?_,hlt,?_⟩,?_⟩
    ·dsimp only;omega
    ·dsimp only;omega
    ·dsimp only;rw[du];show l.length+1+n<=_;omega
    ·dsimp only;omega
   unfold so;cbv;dsimp only[nc]at*;simp only[aN,aC,ay,qA,nc]
   (repeat'(with_reducible apply ai))
   all_goals(try with_reducible rfl)
   all_goals(try omega)
   ·rw[ax zo zo,hi1]
   ·rw[du];rfl
   ·rw[du];rfl
   ·exact fun _ _=>aD.of_eq rfl
   ·rw[du];rfl
   ·exact LN l y
  ·rw[aa hi]at c8;apply af.wk tF mF [(4,[(1,zO b2,[(1000,aX r.o),(1001000000,am fun _=>r.s)]),(15,zO b1,[(1000,am fun _=>r.s)])]),(8,[(2,aq e (D+1) .any fun _=>y,[(1000,aX r2.o),(1001000000,am fun _=>r2.s)])])] AK ?_
   (refine oA ?_;repeat' first|exact⟨⟩|apply mA|apply mC<;>intro)
   all_goals(try simp only[aF])
   all_goals try exact zB
   all_goals(try(rename_i hbr;exact absurd hbr hm2))
   all_goals(try(rename_i hbr;exact absurd hbr hi))
   all_goals try exact eZ
   refine dE (ι:=E0) (μ:=fun q=>q.1) (i:=(n+1,i,l,r)) (I:=so e (D+1) least most) (n,i1,l++[y],r2) ?_ ?_
   ·refine⟨⟨q1,q8,?_,?_,hlt,?_⟩,?_⟩
    ·dsimp only;omega
    ·dsimp only;omega
    ·dsimp only;rw[du];show l.length+1+n<=_;omega
    ·dsimp only;omega
   unfold so;cbv;dsimp only[nc]at*;simp only[aN,aC,ay,qA,nc]
   (repeat'(with_reducible apply ai))
   all_goals(try with_reducible rfl)
   all_goals(try omega)
   ·rw[ax zo zo,hi1]
   ·rw[du];rfl
   ·rw[du];rfl
   ·exact fun _ _=>aD.of_eq rfl
   ·rw[du];rfl
   ·exact LN l y
def AL{P:Tok->Prop}{e k:Nat}{E:Rd->X×Rd}(hE:∀j,k=j+1->∀r,bU P j r->Post e r (E r))(least most:Int){r:Rd}(h:bU P k r)(hz:r.s.e=0):
 Go r (eI E least most r).2∧(∀y∈(eI E least most r).1,X.le e (1+(r.s.l.length-(eI E least most r).2.s.l.length)) y)∧(eI E least most r).1.length<=65541:=by
 obtain⟨g1,g2,g3,g4,j,rfl,g5⟩:=sl h hz;have hgo:=EY (hE j rfl) (least:=least) (most:=most) r.paren (r.paren.s.l.length+4) 0 [] r.paren g5 (.of (.refl _) rfl) (fC _) (fun y hy=>by cases hy) (fun q=>absurd rfl q);unfold eI;generalize fx E least most (r.paren.s.l.length+4) 0 [] r.paren=Z at*;have hlen:=g5.len;have hl:=g1.len;have hs:Steps Z.2.s Z.2.close.s:=Steps.expect Z.2.s ⟨#[41]⟩;have hl2:=hs.len;refine⟨EX hz g1 g2 g3 (fun z=>(g4 z).1) hgo.1,fun y hy=>X.cP (hgo.2.1 y hy) ?_,?_⟩
 ·dsimp only;omega
 ·have:=hgo.2.2.2;have e0:([]:List X).length=0:=rfl;dsimp only;omega
def inT:ByteArray:=⟨#[105,110]⟩
def i6(E Ch:Rd->X×Rd)(r:Rd):X×Rd:=
 match(Ch r).2.op 4 with
 | some o=>(bin o (Ch r).1 (Ch ((Ch r).2.to (Ch r).2.s.next)).1,(Ch ((Ch r).2.to (Ch r).2.s.next)).2)
 | none=>if(Ch r).2.s.aH inT=true then(.mk 25 0 ⟨#[]⟩ [] ((Ch r).1::(eI E 1 (-1) ((Ch r).2.to (Ch r).2.s.next)).1),(eI E 1 (-1) ((Ch r).2.to (Ch r).2.s.next)).2)else Ch r
def WT{e c:Nat}{x:X}{l:List X}(hx:X.le e c x)(hl:∀y∈l,X.le e c y)(hn:l.length<=65541):X.le e (c+1) (.mk 25 0 ⟨#[]⟩ [] (x::l)):=
 ⟨aB _,aB _,by show l.length+1<=_;omega,fun v hv=>(by cases hv),fun z hz=>by
  rcases bW.1 hz with rfl|hz
  ·exact hx
  ·exact hl z hz⟩
def WU{e D:Nat}{x:X}{l:List X}(hx:X.le e D x)(hl:∀y∈l,X.le e D y):∀i,i<1+l.length->aD (dO (fun _=>1) (dY [cQ e (D+1) .any fun _=>x]) (fun i=>cQ e (D+1) .any fun _=>l.getD (i ()) default) fun _=>i) (nT e (D+1) .any (fun _=>X.mk 25 0 ⟨#[]⟩ [] (x::l)) fun _=>i):=by
 intro i hi;unfold dO;by_cases q:i<1
 ·rw[ae q];obtain rfl:i=0:=by omega
  exact ry D (fun _=>x) hx (D+1) D zo (ao _)
 ·rw[aa q];obtain⟨m,rfl⟩:∃m,i=m+1:=⟨i-1,zo⟩
  have hy:X.le e D (l.getD m default):=by
   rw[show l.getD m default=l[m] by simp[List.getD,show m<l.length by omega]];exact hl _ (d9 _)
  have:=ry D (fun _=>l.getD m default) hy (D+1) D zo (ao _);exact this
def WV{P:Tok->Prop}{e k:Nat}{E Ch:Rd->X×Rd}(hE:∀j,k=j+1->∀r,bU P j r->Post e r (E r))(hC:∀r,bU P k r->Post e r (Ch r))(r:Rd)(h:bU P k r):Post e r (i6 E Ch r):=by
 have p:=hC r h;unfold i6;generalize Ch r=q at*;obtain⟨x,r1⟩:=q;dsimp only at p ⊢;have h1:bU P k r1:=h.go p.g;have a1:r1.s.l.length<=r.s.l.length:=p.g.s.len;have px:X.le e (1+(r.s.l.length-r1.s.l.length)) x:=p.x;have gn:Go r1 (r1.to r1.s.next):=Go.of (r:=r1) (r':=r1.to r1.s.next) (Steps.next _) rfl;split
 ·rename_i o ho;have hnl:=qu h1 (EQ ho);have p2:=hC _ (h1.go gn);have a2:(Ch (r1.to r1.s.next)).2.s.l.length<=r1.s.next.l.length:=p2.g.s.len;have uA:X.le e (1+(r1.s.next.l.length-(Ch (r1.to r1.s.next)).2.s.l.length)) (Ch (r1.to r1.s.next)).1:=p2.x;refine⟨(p.g.trans gn).trans p2.g,?_⟩;dsimp only;refine X.cP (ER o (X.cP px (Nat.le_max_left _ (1+(r1.s.next.l.length-(Ch (r1.to r1.s.next)).2.s.l.length)))) (X.cP uA (Nat.le_max_right _ _))) ?_;omega
 ·split
  ·rename_i ht;obtain⟨hk,h0⟩:=lN ht;have hnl:=qu h1 h0;have hz:(r1.to r1.s.next).s.e=0:=by
    show r1.s.next.e=0;unfold St.next;split
    ·exact(lI hk).1
    ·exact(lI hk).1
   obtain⟨b1,b2,b3⟩:=AL hE 1 (-1) (h1.go gn) hz;have e1:(r1.to r1.s.next).s=r1.s.next:=rfl;have WW:=b1.s.len;rw[e1]at b2 WW;refine⟨(p.g.trans gn).trans b1,?_⟩;dsimp only;refine X.cP (WT (c:=r.s.l.length-(eI E 1 (-1) (r1.to r1.s.next)).2.s.l.length) (X.cP px zo) (fun y hy=>X.cP (b2 y hy) zo) b3) zo
  ·exact p
def WX{P:Tok->Prop}{e D k:Nat}(hD:65600<=D){E Ch:Rd->X×Rd}(hE:∀j,k=j+1->cW P e D j 67 E)(hC:cW P e D k 256 Ch):cW P e D k 232 (i6 E Ch):=by
 intro r h;have hp:=WV (fun j hj r hr=>(hE j hj r hr).1) (fun r hr=>(hC r hr).1) r h;refine⟨hp,?_⟩;have hpx:=hp.x;have hl0:=h.len;clear hp;obtain⟨p,c⟩:=hC r h;have h1:=h.go p.g;obtain⟨D,rfl⟩:∃d,D=d+1:=⟨D-1,zo⟩
 unfold i6 at hpx ⊢;generalize Ch r=q at*;obtain⟨x,r1⟩:=q;dsimp only at p c h1 hpx ⊢;have hxl:X.le e D x:=X.cP p.x zo;have gn:Go r1 (r1.to r1.s.next):=Go.of (r:=r1) (r':=r1.to r1.s.next) (Steps.next _) rfl;have hop:=ET (b:=4) (by unfold eX;omega) h1;have h2:=h1.go gn;rw[aL,aL]at c;rw[aL]at hop;cases ho:r1.op 4 with
 | some o=>
  rw[ho]at hpx;dsimp only at hpx ⊢;have e1:mK r1 4=r1.s.next:=by unfold mK;rw[ho];rfl
  rw[ho,e1]at hop;obtain⟨p2,c2⟩:=hC _ h2;have hyl:X.le e D (Ch (r1.to r1.s.next)).1:=X.cP p2.x (by have:=h2.len;omega);have e2:(r1.to r1.s.next).s=r1.s.next:=rfl;have e3:(r1.to r1.s.next).o=r1.o:=rfl;rw[aL,aL,e2,e3]at c2;clear hpx p2 h2 gn e1 e2 e3;rw[aL,aL];generalize (Ch (r1.to r1.s.next)).1=y at*;generalize (Ch (r1.to r1.s.next)).2.s=s3 at*;generalize (Ch (r1.to r1.s.next)).2.o=o3 at*;generalize r1.s.next=s2 at*;generalize r1.s=s1 at*;generalize r1.o=o1 at*
  (refine fA [.cell 2 25] E4 [(1,[(1,aq e (D+1) .any fun _=>x,[(1000,aX o1),(1001000000,am fun _=>s1)])]),(2,[(1,.ag [zI o,zO true],[(1000,aX o1),(1001000000,am fun _=>s2)])]),
    (4,[(3,aq e (D+1) .any fun _=>y,[(1000,aX o3),(1001000000,am fun _=>s3)])])] func232 fun _=>?_;repeat' first|exact⟨⟩|apply mA|apply mC<;>intro)
  all_goals try exact zB
  all_goals(try(rename_i hbr;exact absurd trivial hbr))
  (all_goals try first|exact eZ|(refine qC ?_;repeat' first|exact⟨⟩|apply mA))
  all_goals first
   | rfl
   | exact ES (bin o x y) rfl hxl hyl
 | none=>
  rw[ho]at hpx;dsimp only at hpx ⊢;have e1:mK r1 4=r1.s:=by unfold mK;rw[ho];rfl
  rw[ho,e1]at hop;have ha:=zQ r1.s inT (aG h1.len zd);unfold St.accept at ha;cases ht:r1.s.aH inT with
  | false=>
   rw[ht,aa zsi]at ha;rw[aa zsi];rw[aL,aL];dsimp only;clear hpx h2 gn e1;generalize r1.s=s1 at*;generalize r1.o=o1 at*
   (refine fA [.cell 2 25] E4 [(1,[(1,aq e (D+1) .any fun _=>x,[(1000,aX o1),(1001000000,am fun _=>s1)])]),(2,[(1,.ag [zI 0,zO false],[(1000,aX o1),(1001000000,am fun _=>s1)])]),
     (5,[(4,zO false,zS s1)])] func232 fun _=>?_;repeat' first|exact⟨⟩|apply mA|apply mC<;>intro)
   all_goals try exact zB
   all_goals(try(rename_i hbr;exact absurd trivial hbr))
   all_goals(try(rename_i hbr;exact hbr.elim))
   all_goals try exact eZ
   all_goals trace_state
  | true=>
   rw[ht,ae rfl]at ha hpx;rw[ae rfl];obtain⟨hk,h0⟩:=lN ht;have hz:(r1.to r1.s.next).s.e=0:=by
    show r1.s.next.e=0;unfold St.next;split
    ·exact(lI hk).1
    ·exact(lI hk).1
   have c2:=LO hD hE 1 (-1) zd zd _ h2 hz;obtain⟨_,b2,b3⟩:=AL (fun j hj r hr=>(hE j hj r hr).1) 1 (-1) h2 hz;have wc:=h2.len;have hyl:∀y∈(eI E 1 (-1) (r1.to r1.s.next)).1,X.le e D y:=fun y hy=>X.cP (b2 y hy) zo;have e2:(r1.to r1.s.next).s=r1.s.next:=rfl;have e3:(r1.to r1.s.next).o=r1.o:=rfl;rw[aL,aL,e2,e3]at c2;clear hpx h2 gn e1 e2 e3 b2 hz wc;rw[aL,aL];dsimp only;generalize (eI E 1 (-1) (r1.to r1.s.next)).1=l at*;generalize (eI E 1 (-1) (r1.to r1.s.next)).2.s=s3 at*;generalize (eI E 1 (-1) (r1.to r1.s.next)).2.o=o3 at*;generalize r1.s.next=s2 at*;generalize r1.s=s1 at*;generalize r1.o=o1 at*
   (refine fA [.cell 2 25] E4 [(1,[(1,aq e (D+1) .any fun _=>x,[(1000,aX o1),(1001000000,am fun _=>s1)])]),(2,[(1,.ag [zI 0,zO false],[(1000,aX o1),(1001000000,am fun _=>s1)])]),
     (5,[(4,zO true,zS s2)]),(7,[(3,eP e (D+1) .any fun _=>l,[(1000,aX o3),(1001000000,am fun _=>s3)])])] func232 fun _=>?_;repeat' first|exact⟨⟩|apply mA|apply mC<;>intro)
   all_goals try exact zB
   all_goals(try(rename_i hbr;exact absurd trivial hbr))
   all_goals(try(rename_i hbr;exact hbr.elim))
   (all_goals try first|exact eZ|(refine qC ?_;repeat' first|exact⟨⟩|apply mA))
   all_goals first
    | rfl
    | exact uY _ _
    | exact WU hxl hyl
end Go.Ai
