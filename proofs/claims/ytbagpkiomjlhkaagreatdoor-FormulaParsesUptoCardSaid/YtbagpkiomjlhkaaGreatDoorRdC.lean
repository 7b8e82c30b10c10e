/- Chapter 17: the reader: arguments, the walk. -/
import Derived.Test.YtbagpkiomjlhkaaGreatDoorRdB
set_option linter.all false
namespace Go.Ai
open Go Go.Proofs
set_option maxRecDepth 100000
set_option maxHeartbeats 4000000
def aqZ(e D:Nat)(l:Unit->List X):(Unit->Nat)->List AV:=fun i=>aa8 e D .any fun _=>(l ()).getD (i ()) default
def afz{e D:Nat}(l:List X)(x:X)(i:Nat)(hi:i<l.length+1):LeL (catF (fun _=>l.length) (aqZ e D fun _=>l) (aaL [aa8 e D .any fun _=>x]) fun _=>i) (aqZ e D (fun _=>l++[x]) fun _=>i):=by
 refine LeL.of_eq ?_;have eq:∀a b:X,a=b->(aa8 e D .any fun _=>a)=aa8 e D .any fun _=>b:=fun a b h=>by rw[h]
 unfold catF;by_cases q:i<l.length
 ·rw[if_pos q];refine eq _ _ ?_;show l.getD i default=(l++[x]).getD i default;rw[List.getD_eq_getElem?_getD,List.getD_eq_getElem?_getD,List.getElem?_append_left q]
 ·rw[if_neg q];obtain rfl:i=l.length:=by omega
  have h1:(aaL [aa8 e D .any fun _=>x] fun _=>l.length-l.length)=aa8 e D .any fun _=>x:=by rw[Nat.sub_self];rfl
  refine h1.trans (eq _ _ ?_);show x=(l++[x]).getD l.length default;rw[List.getD_eq_getElem?_getD,List.getElem?_append_right (Nat.le_refl _),Nat.sub_self];rfl
abbrev ArI:=Nat×Int×List X×Rd
def ajk(e D:Nat)(least most:Int)(q:ArI):SS:=
 ⟨47,[(8,.int .i64 fun _=>q.2.1),(7,.aref 43 1 fun _=>q.2.2.1.length),(2,.int .i64 fun _=>most),(1,.int .i64 fun _=>least),(0,.ptr 1000 0)],
  [(1000,boxO q.2.2.2.o),(1001000000,boxS fun _=>q.2.2.2.s),(43,.arr false 25 5 1 (fun _=>q.2.2.1.length) (aqZ e D fun _=>q.2.2.1))]⟩
def anK{P:Tok->Prop}{e D k:Nat}(hD:65600<=D){E:Rd->X×Rd}(hE:∀j,k=j+1->Fun P e D j 67 E)(least most:Int)(hl1:1<=least)(hl3:least<=3)(r0:Rd)(h0:Okr P k r0)(hz:r0.s.e=0):
 Af Tryz.prog 257 [.ptr 1000 0,.int .i64 fun _=>least,.int .i64 fun _=>most] [(1000,boxR r0),(1001000000,boxS fun _=>r0.s)] (slcX e D .any fun _=>(abl E least most r0).1) [(1000,boxR (abl E least most r0).2),(1001000000,boxS fun _=>(abl E least most r0).2.s)]:=by
 obtain⟨D,rfl⟩:∃d,D=d+1:=⟨D-1,by omega⟩
 obtain⟨g1,g2,g3,g4,j,rfl,g5⟩:=acg h0 hz;have hE:=hE j rfl;have hp:=ael r0 ⟨by have:=h0.o0;omega,by have:=h0.o1;omega⟩ (Nat.le_trans h0.len (by decide));unfold abl;generalize r0.paren=r1 at*;obtain⟨N,hN⟩:∃N,N=r1.s.l.length+4:=⟨_,rfl⟩
 rw[<- hN];obtain⟨Z,hZ⟩:∃Z,Z=adb E least most N 0 [] r1:=⟨_,rfl⟩
 rw[<- hZ];have hgo:=agU (fun r hr=>(hE r hr).1) (least:=least) (most:=most) r1 N 0 [] r1 g5 (.of (.refl _) rfl) (Int.le_refl _) (fun y hy=>by cases hy) (fun q=>absurd rfl q);rw[<- hZ]at hgo;have hZ2:=g5.go hgo.1;have hcl:=ady Z.2 ⟨by have:=hZ2.o0;omega,by have:=hZ2.o1;omega⟩ (Nat.le_trans hZ2.len (by decide));have hlen:=g5.len;dsimp only;rw[aa0,aa0]at hp hcl ⊢;generalize Z.2.close.o=co at*;generalize Z.2.close.s=cs at*
 (refine fA [.tmp 6] kp257 [(2,[(1,zT,[(1000,boxO r1.o),(1001000000,boxS fun _=>r1.s)])]),(9,[(1,zT,[(1000,boxO co),(1001000000,boxS fun _=>cs)])])] Tryz.func257 fun _=>?_;repeat' with_reducible first|exact⟨⟩|refine mA ?_ ?_|refine mC (fun _=>?_) fun _=>?_)
 all_goals(try exact zB)
 refine .loop (ajk e (D+1) least most) (fun q=>adb E least most q.1 q.2.1 q.2.2.1 q.2.2.2=Z∧Okr P j q.2.2.2∧0<=q.2.1∧q.2.1<=70000-(q.1:Int)∧q.2.2.2.s.l.length+(least-q.2.1).toNat+1<=q.1∧q.2.2.1.length+q.1<=65541)
  (fun q=>q.1) (N,0,[],r1) ⟨hZ.symm,g5,Int.le_refl _,by dsimp only;omega,by dsimp only;omega,by dsimp only;show 0+N<=65541;omega⟩ ?_ fun q E' hq=>?_
 ·unfold ajk
  exact aZ
 obtain⟨n,i,l,r⟩:=q;obtain⟨q1,q2,q3,q4,q5,q6⟩:=hq;dsimp only at q1 q2 q3 q4 q5 q6;unfold ajk;dsimp only;have hf:=abq r;have hc:=aef r.s ⟨#[44]⟩;rw[aa0]at hf;cases hm:aiQ least most i r with
 | false=>
  have hZ3:Z=(l,r):=by
   rw[<- q1];cases n with
   | zero=>rfl
   | succ n=>simp only[adb,hm];rfl
  have h1:Z.1=l:=by rw[hZ3]
  have h2:Z.2=r:=by rw[hZ3]
  rw[h1];rw[h2]at hcl;unfold aiQ at hm;generalize r.s.isT ⟨#[44]⟩=b1 at*;generalize r.bad=b2 at*;have hm2:¬(b2=false∧(i<least∨most<0∧b1=true)):=by
   rintro⟨rfl,h|h⟩
   ·simp[h]at hm
   ·simp[h.1,h.2]at hm
  clear hm;apply AWp.wk tF mF [(4,[(1,zO b2,[(1000,boxO r.o),(1001000000,boxS fun _=>r.s)]),(15,zO b1,[(1000,boxS fun _=>r.s)])])] kp257 ?_
  (refine oA ?_;repeat' with_reducible first|exact⟨⟩|refine mA ?_ ?_|refine mC (fun _=>?_) fun _=>?_)
  all_goals(try simp only[ite_self])
  all_goals(try exact zB)
  all_goals(try(exact absurd ‹b2=false∧(i<least∨most<0∧b1=true)› hm2))
  (all_goals try first|exact eZ|(refine qC ?_;repeat' with_reducible first|exact⟨⟩|refine mA ?_ ?_))
  all_goals first
   | (intro h1 h2;rw[h1,h2];rfl)
   | trace_state
 | true=>
  obtain⟨n,rfl⟩:∃m,n=m+1:=⟨n-1,by omega⟩
  have q1:adb E least most n (i+1) (l++[(E (sepR i r)).1]) (E (sepR i r)).2=Z:=by
   rw[<- q1];simp only[adb,hm];rfl
  obtain⟨i1,hi1⟩:∃k,k=i+1:=⟨_,rfl⟩
  rw[<- hi1]at q1;have hsg:=sep_go i r;have q7:=q2.go hsg;obtain⟨p8,c8⟩:=hE _ q7;have q8:=q7.go p8.g;have hlt:(E (sepR i r)).2.s.l.length+(least-i1).toNat+1<=n:=by
   have a1:=p8.g.s.len;have a2:=hsg.s.len;unfold aiQ at hm;simp only[Bool.and_eq_true,Bool.or_eq_true,decide_eq_true_eq]at hm;by_cases hil:i<least
   ·omega
   ·obtain⟨_,h|h⟩:=hm
    ·omega
    ·have e1:(sepR i r).s=r.s.expect ⟨#[44]⟩:=by unfold sepR;rw[if_pos (by omega)];rfl
     have e2:r.s.expect ⟨#[44]⟩=r.s.next:=by unfold St.expect;rw[if_pos h.2]
     have:=abg q2 (ab7 h.2).2;rw[<- e2,<- e1]at this;omega
  have hxl:X.le e D (E (sepR i r)).1:=X.aa4 p8.x (by have:=q7.len;omega);unfold aiQ at hm;have hex:=abZ r.s ⟨#[44]⟩ (Nat.le_trans q2.len (by decide));have e3:(sepR i r).o=r.o:=by unfold sepR;split<;>rfl
  have e4:(sepR i r).s=if 0<i then r.s.expect ⟨#[44]⟩else r.s:=by unfold sepR;split<;>rfl
  rw[aa0,aa0,e3,e4]at c8;generalize E (sepR i r)=z at*;obtain⟨y,r2⟩:=z;dsimp only at c8 q1 hlt hxl q8;clear e4 e3 p8 q7 hsg;generalize r.s.isT ⟨#[44]⟩=b1 at*;generalize r.bad=b2 at*;have hm2:¬(b2=true∨least<=i∧(0<=most∨b1=false)):=by
   simp only[Bool.and_eq_true,Bool.or_eq_true,Bool.not_eq_true',decide_eq_true_eq]at hm;obtain⟨rfl,h⟩:=hm;rintro(k|⟨k1,k2⟩)
   ·cases k
   ·rcases h with h|⟨h1,h2⟩
    ·omega
    ·rcases k2 with k2|k2
     ·omega
     ·rw[h2]at k2;cases k2
  clear hm;by_cases hi:0<i
  ·rw[if_pos hi]at c8;generalize r.s.expect ⟨#[44]⟩=s1 at*;apply AWp.wk tF mF [(4,[(1,zO b2,[(1000,boxO r.o),(1001000000,boxS fun _=>r.s)]),(15,zO b1,[(1000,boxS fun _=>r.s)])]),(7,[(4,zT,zS s1)]),(8,[(2,encX e (D+1) .any fun _=>y,[(1000,boxO r2.o),(1001000000,boxS fun _=>r2.s)])])] kp257 ?_
   (refine oA ?_;repeat' with_reducible first|exact⟨⟩|refine mA ?_ ?_|refine mC (fun _=>?_) fun _=>?_)
   all_goals(try simp only[ite_self])
   all_goals(try exact zB)
   all_goals(try(rename_i hbr;exact absurd hbr hm2))
   all_goals(try(rename_i hbr;exact absurd hi (Int.not_lt.2 hbr)))
   (all_goals try first|exact eZ|(refine qC ?_;repeat' with_reducible first|exact⟨⟩|refine mA ?_ ?_))
   ·intro h1 h2;rw[h1,h2];rfl
   refine dE (ι:=ArI) (μ:=fun q=>q.1) (i:=(n+1,i,l,r)) (I:=ajk e (D+1) least most) (n,i1,l++[y],r2) ?_ ?_
   ·refine⟨⟨q1,q8,?_,?_,hlt,?_⟩,?_⟩
    ·dsimp only;omega
    ·dsimp only;omega
    ·dsimp only;rw[List.length_append];show l.length+1+n<=_;omega
    ·dsimp only;omega
   unfold ajk;cbv;dsimp only[nc]at*;simp only[aN,aC,and_true,true_and,nc]
   (repeat'(with_reducible apply And.intro))
   all_goals(try with_reducible rfl)
   all_goals(try omega)
   ·rw[w64 (by omega) (by omega),hi1]
   ·rw[List.length_append];rfl
   ·rw[List.length_append];rfl
   ·exact fun _ _=>LeL.of_eq rfl
   ·rw[List.length_append];rfl
   ·exact afz l y
  ·rw[if_neg hi]at c8;apply AWp.wk tF mF [(4,[(1,zO b2,[(1000,boxO r.o),(1001000000,boxS fun _=>r.s)]),(15,zO b1,[(1000,boxS fun _=>r.s)])]),(8,[(2,encX e (D+1) .any fun _=>y,[(1000,boxO r2.o),(1001000000,boxS fun _=>r2.s)])])] kp257 ?_
   (refine oA ?_;repeat' with_reducible first|exact⟨⟩|refine mA ?_ ?_|refine mC (fun _=>?_) fun _=>?_)
   all_goals(try simp only[ite_self])
   all_goals(try exact zB)
   all_goals(try(rename_i hbr;exact absurd hbr hm2))
   all_goals(try(rename_i hbr;exact absurd hbr hi))
   (all_goals(try exact eZ))
   refine dE (ι:=ArI) (μ:=fun q=>q.1) (i:=(n+1,i,l,r)) (I:=ajk e (D+1) least most) (n,i1,l++[y],r2) ?_ ?_
   ·refine⟨⟨q1,q8,?_,?_,hlt,?_⟩,?_⟩
    ·dsimp only;omega
    ·dsimp only;omega
    ·dsimp only;rw[List.length_append];show l.length+1+n<=_;omega
    ·dsimp only;omega
   unfold ajk;cbv;dsimp only[nc]at*;simp only[aN,aC,and_true,true_and,nc]
   (repeat'(with_reducible apply And.intro))
   all_goals(try with_reducible rfl)
   all_goals(try omega)
   ·rw[w64 (by omega) (by omega),hi1]
   ·rw[List.length_append];rfl
   ·rw[List.length_append];rfl
   ·exact fun _ _=>LeL.of_eq rfl
   ·rw[List.length_append];rfl
   ·exact afz l y
def agT{P:Tok->Prop}{e k:Nat}{E:Rd->X×Rd}(hE:∀j,k=j+1->∀r,Okr P j r->Post e r (E r))(least most:Int){r:Rd}(h:Okr P k r)(hz:r.s.e=0):
 Go r (abl E least most r).2∧(∀y∈(abl E least most r).1,X.le e (1+(r.s.l.length-(abl E least most r).2.s.l.length)) y)∧(abl E least most r).1.length<=65541:=by
 obtain⟨g1,g2,g3,g4,j,rfl,g5⟩:=acg h hz;have hgo:=agU (hE j rfl) (least:=least) (most:=most) r.paren (r.paren.s.l.length+4) 0 [] r.paren g5 (.of (.refl _) rfl) (Int.le_refl _) (fun y hy=>by cases hy) (fun q=>absurd rfl q);unfold abl;generalize adb E least most (r.paren.s.l.length+4) 0 [] r.paren=Z at*;have hlen:=g5.len;have hl:=g1.len;have hs:Steps Z.2.s Z.2.close.s:=Steps.expect Z.2.s ⟨#[41]⟩;have hl2:=hs.len;refine⟨agN hz g1 g2 g3 (fun z=>(g4 z).1) hgo.1,fun y hy=>X.aa4 (hgo.2.1 y hy) ?_,?_⟩
 ·dsimp only;omega
 ·have:=hgo.2.2.2;have e0:([]:List X).length=0:=rfl;dsimp only;omega
def inT:ByteArray:=⟨#[105,110]⟩
def cmpF(E Ch:Rd->X×Rd)(r:Rd):X×Rd:=
 match(Ch r).2.op 4 with
 | some o=>(bin o (Ch r).1 (Ch ((Ch r).2.to (Ch r).2.s.next)).1,(Ch ((Ch r).2.to (Ch r).2.s.next)).2)
 | none=>if(Ch r).2.s.isT inT=true then(.mk 25 0 ⟨#[]⟩ [] ((Ch r).1::(abl E 1 (-1) ((Ch r).2.to (Ch r).2.s.next)).1),(abl E 1 (-1) ((Ch r).2.to (Ch r).2.s.next)).2)else Ch r
def in_le{e c:Nat}{x:X}{l:List X}(hx:X.le e c x)(hl:∀y∈l,X.le e c y)(hn:l.length<=65541):X.le e (c+1) (.mk 25 0 ⟨#[]⟩ [] (x::l)):=
 ⟨Nat.zero_le _,Nat.zero_le _,by show l.length+1<=_;omega,fun v hv=>(by cases hv),fun z hz=>by
  rcases List.mem_cons.1 hz with rfl|hz
  ·exact hx
  ·exact hl z hz⟩
def in_rows{e D:Nat}{x:X}{l:List X}(hx:X.le e D x)(hl:∀y∈l,X.le e D y):∀i,i<1+l.length->LeL (catF (fun _=>1) (aaL [aa8 e (D+1) .any fun _=>x]) (fun i=>aa8 e (D+1) .any fun _=>l.getD (i ()) default) fun _=>i) (subX e (D+1) .any (fun _=>X.mk 25 0 ⟨#[]⟩ [] (x::l)) fun _=>i):=by
 intro i hi;unfold catF;by_cases q:i<1
 ·rw[if_pos q];obtain rfl:i=0:=by omega
  exact abF D (fun _=>x) hx (D+1) D (by omega) (Nat.le_refl _)
 ·rw[if_neg q];obtain⟨m,rfl⟩:∃m,i=m+1:=⟨i-1,by omega⟩
  have hy:X.le e D (l.getD m default):=by
   rw[show l.getD m default=l[m] by simp[List.getD,show m<l.length by omega]];exact hl _ (List.getElem_mem _)
  have:=abF D (fun _=>l.getD m default) hy (D+1) D (by omega) (Nat.le_refl _);exact this
def cmp_post{P:Tok->Prop}{e k:Nat}{E Ch:Rd->X×Rd}(hE:∀j,k=j+1->∀r,Okr P j r->Post e r (E r))(hC:∀r,Okr P k r->Post e r (Ch r))(r:Rd)(h:Okr P k r):Post e r (cmpF E Ch r):=by
 have p:=hC r h;unfold cmpF;generalize Ch r=q at*;obtain⟨x,r1⟩:=q;dsimp only at p ⊢;have h1:Okr P k r1:=h.go p.g;have a1:r1.s.l.length<=r.s.l.length:=p.g.s.len;have px:X.le e (1+(r.s.l.length-r1.s.l.length)) x:=p.x;have gn:Go r1 (r1.to r1.s.next):=Go.of (r:=r1) (r':=r1.to r1.s.next) (Steps.next _) rfl;split
 ·rename_i o ho;have hnl:=abg h1 (aiK ho);have p2:=hC _ (h1.go gn);have a2:(Ch (r1.to r1.s.next)).2.s.l.length<=r1.s.next.l.length:=p2.g.s.len;have p2x:X.le e (1+(r1.s.next.l.length-(Ch (r1.to r1.s.next)).2.s.l.length)) (Ch (r1.to r1.s.next)).1:=p2.x;refine⟨(p.g.trans gn).trans p2.g,?_⟩;dsimp only;refine X.aa4 (anC o (X.aa4 px (Nat.le_max_left _ (1+(r1.s.next.l.length-(Ch (r1.to r1.s.next)).2.s.l.length)))) (X.aa4 p2x (Nat.le_max_right _ _))) ?_;omega
 ·split
  ·rename_i ht;obtain⟨hk,h0⟩:=ab7 ht;have hnl:=abg h1 h0;have hz:(r1.to r1.s.next).s.e=0:=by
    show r1.s.next.e=0;unfold St.next;split
    ·exact(abk hk).1
    ·exact(abk hk).1
   obtain⟨b1,b2,b3⟩:=agT hE 1 (-1) (h1.go gn) hz;have e1:(r1.to r1.s.next).s=r1.s.next:=rfl;have b1s:=b1.s.len;rw[e1]at b2 b1s;refine⟨(p.g.trans gn).trans b1,?_⟩;dsimp only;refine X.aa4 (in_le (c:=r.s.l.length-(abl E 1 (-1) (r1.to r1.s.next)).2.s.l.length) (X.aa4 px (by omega)) (fun y hy=>X.aa4 (b2 y hy) (by omega)) b3) (by omega)
  ·exact p
def agM{P:Tok->Prop}{e D k:Nat}(hD:65600<=D){E Ch:Rd->X×Rd}(hE:∀j,k=j+1->Fun P e D j 67 E)(hC:Fun P e D k 256 Ch):Fun P e D k 232 (cmpF E Ch):=by
 intro r h;have hp:=cmp_post (fun j hj r hr=>(hE j hj r hr).1) (fun r hr=>(hC r hr).1) r h;refine⟨hp,?_⟩;have hpx:=hp.x;have hl0:=h.len;clear hp;obtain⟨p,c⟩:=hC r h;have h1:=h.go p.g;obtain⟨D,rfl⟩:∃d,D=d+1:=⟨D-1,by omega⟩
 unfold cmpF at hpx ⊢;generalize Ch r=q at*;obtain⟨x,r1⟩:=q;dsimp only at p c h1 hpx ⊢;have hxl:X.le e D x:=X.aa4 p.x (by omega);have gn:Go r1 (r1.to r1.s.next):=Go.of (r:=r1) (r':=r1.to r1.s.next) (Steps.next _) rfl;have hop:=aml (b:=4) (by unfold isB;omega) h1;have h2:=h1.go gn;rw[aa0,aa0]at c;rw[aa0]at hop;cases ho:r1.op 4 with
 | some o=>
  rw[ho]at hpx;dsimp only at hpx ⊢;have e1:opS r1 4=r1.s.next:=by unfold opS;rw[ho];rfl
  rw[ho,e1]at hop;obtain⟨p2,c2⟩:=hC _ h2;have hyl:X.le e D (Ch (r1.to r1.s.next)).1:=X.aa4 p2.x (by have:=h2.len;omega);have e2:(r1.to r1.s.next).s=r1.s.next:=rfl;have e3:(r1.to r1.s.next).o=r1.o:=rfl;rw[aa0,aa0,e2,e3]at c2;clear hpx p2 h2 gn e1 e2 e3;rw[aa0,aa0];generalize (Ch (r1.to r1.s.next)).1=y at*;generalize (Ch (r1.to r1.s.next)).2.s=s3 at*;generalize (Ch (r1.to r1.s.next)).2.o=o3 at*;generalize r1.s.next=s2 at*;generalize r1.s=s1 at*;generalize r1.o=o1 at*
  (refine fA [.cell 2 25] kp232 [(1,[(1,encX e (D+1) .any fun _=>x,[(1000,boxO o1),(1001000000,boxS fun _=>s1)])]),(2,[(1,.tup [zI o,zO true],[(1000,boxO o1),(1001000000,boxS fun _=>s2)])]),
    (4,[(3,encX e (D+1) .any fun _=>y,[(1000,boxO o3),(1001000000,boxS fun _=>s3)])])] Tryz.func232 fun _=>?_;repeat' with_reducible first|exact⟨⟩|refine mA ?_ ?_|refine mC (fun _=>?_) fun _=>?_)
  all_goals(try exact zB)
  all_goals(try(rename_i hbr;exact absurd trivial hbr))
  (all_goals try first|exact eZ|(refine qC ?_;repeat' with_reducible first|exact⟨⟩|refine mA ?_ ?_))
  all_goals first
   | rfl
   | exact agc (bin o x y) rfl hxl hyl
 | none=>
  rw[ho]at hpx;dsimp only at hpx ⊢;have e1:opS r1 4=r1.s:=by unfold opS;rw[ho];rfl
  rw[ho,e1]at hop;have ha:=adG r1.s inT (Nat.le_trans h1.len (by decide));unfold St.accept at ha;cases ht:r1.s.isT inT with
  | false=>
   rw[ht,if_neg (by simp)]at ha;rw[if_neg (by simp)];rw[aa0,aa0];dsimp only;clear hpx h2 gn e1;generalize r1.s=s1 at*;generalize r1.o=o1 at*
   (refine fA [.cell 2 25] kp232 [(1,[(1,encX e (D+1) .any fun _=>x,[(1000,boxO o1),(1001000000,boxS fun _=>s1)])]),(2,[(1,.tup [zI 0,zO false],[(1000,boxO o1),(1001000000,boxS fun _=>s1)])]),
     (5,[(4,zO false,zS s1)])] Tryz.func232 fun _=>?_;repeat' with_reducible first|exact⟨⟩|refine mA ?_ ?_|refine mC (fun _=>?_) fun _=>?_)
   all_goals(try exact zB)
   all_goals(try(rename_i hbr;exact absurd trivial hbr))
   all_goals(try(rename_i hbr;exact hbr.elim))
   (all_goals(try exact eZ))
   all_goals trace_state
  | true=>
   rw[ht,if_pos rfl]at ha hpx;rw[if_pos rfl];obtain⟨hk,h0⟩:=ab7 ht;have hz:(r1.to r1.s.next).s.e=0:=by
    show r1.s.next.e=0;unfold St.next;split
    ·exact(abk hk).1
    ·exact(abk hk).1
   have c2:=anK hD hE 1 (-1) (by decide) (by decide) _ h2 hz;obtain⟨_,b2,b3⟩:=agT (fun j hj r hr=>(hE j hj r hr).1) 1 (-1) h2 hz;have hlen2:=h2.len;have hyl:∀y∈(abl E 1 (-1) (r1.to r1.s.next)).1,X.le e D y:=fun y hy=>X.aa4 (b2 y hy) (by omega);have e2:(r1.to r1.s.next).s=r1.s.next:=rfl;have e3:(r1.to r1.s.next).o=r1.o:=rfl;rw[aa0,aa0,e2,e3]at c2;clear hpx h2 gn e1 e2 e3 b2 hz hlen2;rw[aa0,aa0];dsimp only;generalize (abl E 1 (-1) (r1.to r1.s.next)).1=l at*;generalize (abl E 1 (-1) (r1.to r1.s.next)).2.s=s3 at*;generalize (abl E 1 (-1) (r1.to r1.s.next)).2.o=o3 at*;generalize r1.s.next=s2 at*;generalize r1.s=s1 at*;generalize r1.o=o1 at*
   (refine fA [.cell 2 25] kp232 [(1,[(1,encX e (D+1) .any fun _=>x,[(1000,boxO o1),(1001000000,boxS fun _=>s1)])]),(2,[(1,.tup [zI 0,zO false],[(1000,boxO o1),(1001000000,boxS fun _=>s1)])]),
     (5,[(4,zO true,zS s2)]),(7,[(3,slcX e (D+1) .any fun _=>l,[(1000,boxO o3),(1001000000,boxS fun _=>s3)])])] Tryz.func232 fun _=>?_;repeat' with_reducible first|exact⟨⟩|refine mA ?_ ?_|refine mC (fun _=>?_) fun _=>?_)
   all_goals(try exact zB)
   all_goals(try(rename_i hbr;exact absurd trivial hbr))
   all_goals(try(rename_i hbr;exact hbr.elim))
   (all_goals try first|exact eZ|(refine qC ?_;repeat' with_reducible first|exact⟨⟩|refine mA ?_ ?_))
   all_goals first
    | rfl
    | exact Nat.add_comm _ _
    | exact in_rows hxl hyl
end Go.Ai
