/- Chapter 17: the reader: calls. -/
import Derived.Test.YtbagpkiomjlhkaaGreatDoorRdE
set_option linter.all false
namespace Go.Ai
open Go Go.Proofs
set_option maxRecDepth 100000
set_option maxHeartbeats 4000000
def cmT:ByteArray:=⟨#[44]⟩
def hasC(pe:ByteArray->Int)(op:Int)(r:Rd):X×Rd:=
 if op=26∧(abf pe r.paren.s).2.isT cmT=true then(.mk op (intF (abf pe r.paren.s).2.next).1 (abf pe r.paren.s).1 [] [],(r.paren.to (intF (abf pe r.paren.s).2.next).2).close)
 else(.mk op 0 (abf pe r.paren.s).1 [] [],(r.paren.to (abf pe r.paren.s).2).close)
def comR(r:Rd):Rd:=r.to (r.s.expect cmT)
def divF(E:Rd->X×Rd)(r:Rd):X×Rd:=
 (.mk 15 (intF (comR (E (comR (E r.paren).2)).2).s).1 ⟨#[]⟩ [] [(E r.paren).1,(E (comR (E r.paren).2)).1],((E (comR (E r.paren).2)).2.to (intF (comR (E (comR (E r.paren).2)).2).s).2).close)
def aeg(E:Rd->X×Rd)(pe:ByteArray->Int)(op n:Int)(r:Rd):X×Rd:=
 if op=22∨op=26 then hasC pe op r else if op=15 then divF E r else(.mk op 0 ⟨#[]⟩ [] (abl E n n r).1,(abl E n n r).2)
theorem agC(s:St):Steps s (intF s).2:=by
 unfold intF;split
 ·exact .fail _ _
 split
 ·exact .fail _ _
 ·exact .next _
theorem af5(r:Rd):Go r (comR r):=Go.of (r:=r) (r':=comR r) (.expect _ _) rfl
theorem aiV{e c:Nat}{t:ByteArray}(o n:Int)(ht:t.size<=200):X.le e (c+1) (.mk o n t [] []):=
 ⟨Nat.le_trans ht (by decide),Nat.zero_le _,Nat.zero_le _,fun v hv=>(by cases hv),fun z hz=>by cases hz⟩
theorem pair_le{e c:Nat}{x y:X}(o n:Int)(hx:X.le e c x)(hy:X.le e c y):X.le e (c+1) (.mk o n ⟨#[]⟩ [] [x,y]):=
 ⟨Nat.zero_le _,Nat.zero_le _,(by decide:2<=1073741824),fun v hv=>(by cases hv),fun z hz=>by
  rcases List.mem_cons.1 hz with rfl|hz
  ·exact hx
  ·rcases List.mem_cons.1 hz with rfl|hz
   ·exact hy
   ·cases hz⟩
theorem list_le{e c:Nat}{l:List X}(o:Int)(hl:∀y∈l,X.le e c y)(hn:l.length<=65541):X.le e (c+1) (.mk o 0 ⟨#[]⟩ [] l):=
 ⟨Nat.zero_le _,Nat.zero_le _,by show l.length<=_;omega,fun v hv=>(by cases hv),hl⟩
theorem call_go{P:Tok->Prop}(hP:∀t,P t->t.text.size<=65536){pe:ByteArray->Int}(hpe:∀t,pe t=0->t.size<=200){e k:Nat}{E:Rd->X×Rd}(hE:∀j,k=j+1->∀r,Okr P j r->Post e r (E r))(op n:Int){r:Rd}(h:Okr P k r)(hz:r.s.e=0):
 Go r (aeg E pe op n r).2∧X.le e (2+(r.s.l.length-(aeg E pe op n r).2.s.l.length)) (aeg E pe op n r).1:=by
 obtain⟨g1,g2,g3,g4,j,rfl,g5⟩:=acg h hz;have cg:=fun{r2:Rd} (g:Go r.paren r2)=>agN hz g1 g2 g3 (fun z=>(g4 z).1) g;have cl:∀r2:Rd,r2.close.s.l.length<=r2.s.l.length:=fun r2=>(Steps.expect r2.s ⟨#[41]⟩).len;unfold aeg;split
 ·obtain⟨p1,p2,_⟩:=agr hP hpe g5.st;unfold hasC;generalize abf pe r.paren.s=q at*;split
  ·have s2:=(p1.trans (.next q.2)).trans (agC q.2.next);refine⟨cg (Go.of (r:=r.paren) (r':=r.paren.to (intF q.2.next).2) s2 rfl),?_⟩;rw[Nat.add_comm 2];exact aiV (c:=_+1) _ _ p2
  ·refine⟨cg (Go.of (r:=r.paren) (r':=r.paren.to q.2) p1 rfl),?_⟩;rw[Nat.add_comm 2];exact aiV (c:=_+1) _ _ p2
 split
 ·have a:=hE j rfl _ g5;have g6:=g5.go a.g;have g7:=g6.go (af5 _);have b:=hE j rfl _ g7;unfold divF;generalize E r.paren=qa at*;generalize E (comR qa.2)=qb at*;have gb:=(a.g.trans (af5 qa.2)).trans b.g;have gz:Go qb.2 (qb.2.to (intF (comR qb.2).s).2):=Go.of (r:=qb.2) (r':=qb.2.to (intF (comR qb.2).s).2) ((Steps.expect qb.2.s cmT).trans (agC _)) rfl;have l1:=g1.len;have l2:=a.g.s.len;have l3:=(af5 qa.2).s.len;have l4:=b.g.s.len;have l5:=gz.s.len;have l6:=cl (qb.2.to (intF (comR qb.2).s).2);refine⟨cg (gb.trans gz),?_⟩;dsimp only;refine X.aa4 (pair_le (c:=1+(r.s.l.length-(qb.2.to (intF (comR qb.2).s).2).close.s.l.length)) _ _ (X.aa4 a.x (by omega)) (X.aa4 b.x (by omega))) (by omega)
 ·obtain⟨b1,b2,b3⟩:=agT hE n n h hz;refine⟨b1,?_⟩;dsimp only;exact X.aa4 (list_le op b2 b3) (by omega)
section
variable {P:Tok->Prop}(hP:∀t,P t->t.text.size<=65536)(hA:∀t,P t->Asc t.text){pe:ByteArray->Int}(hpe:∀t,pe t=0->t.size<=200)
 (hpc:∀t,t.size<=100000000000->Asc t->Af Tryz.prog 43 [.str fun _=>t] [] (.tup [.any,.int .i64 fun _=>pe t]) [])
include hP hA hpe hpc
theorem has_ok{e D k:Nat}(hD:65600<=D)(op n:Int)(ho:op=22∨op=26)(r:Rd)(h:Okr P k r)(hz:r.s.e=0):
 Af Tryz.prog 284 [.ptr 1000 0,.int .i64 fun _=>op,.int .i64 fun _=>n] [(1000,boxR r),(1001000000,boxS fun _=>r.s)] (encX e D .any fun _=>(hasC pe op r).1) [(1000,boxR (hasC pe op r).2),(1001000000,boxS fun _=>(hasC pe op r).2.s)]:=by
 obtain⟨D,rfl⟩:∃d,D=d+1:=⟨D-1,by omega⟩
 obtain⟨g1,g2,g3,g4,j,rfl,g5⟩:=acg h hz;have hl:=Nat.le_trans h.len (by decide:65537<=1073741824);have h1:=ael r ⟨by have:=h.o0;omega,by have:=h.o1;omega⟩ hl;have h2:=amc hP hA hpc r.paren.s g5.st;have hs:Steps r.paren.s (abf pe r.paren.s).2:=(agr hP hpe g5.st).1;unfold hasC;generalize abf pe r.paren.s=q at*;have hlq:q.2.l.length<=1073741824:=Nat.le_trans hs.len (Nat.le_trans g5.len (by decide));have h3:=adG q.2 cmT hlq;have hb : -1073741824<=r.paren.o∧r.paren.o<=1073741824:=⟨by have:=g5.o0;omega,by have:=g5.o1;omega⟩
 unfold St.accept at h3;rw[aa0,aa0]at h1;by_cases c:op=26∧q.2.isT cmT=true
 ·rw[if_pos c];obtain⟨rfl,c2⟩:=c;rw[c2,if_pos rfl]at h3;have hln:q.2.next.l.length<=1073741824:=Nat.le_trans (Steps.next q.2).len hlq;have h4:=Int_ok q.2.next hln;have h5:=ady (r.paren.to (intF q.2.next).2) hb (Nat.le_trans (agC q.2.next).len hln);rw[aa0,aa0]at h5 ⊢;have e1:(r.paren.to (intF q.2.next).2).s=(intF q.2.next).2:=rfl;have e2:(r.paren.to (intF q.2.next).2).o=r.paren.o:=rfl;rw[e1,e2]at h5;dsimp only;clear e1 e2;generalize (r.paren.to (intF q.2.next).2).close.s=cs at*;generalize (r.paren.to (intF q.2.next).2).close.o=co at*;generalize (intF q.2.next).1=z1 at*;generalize (intF q.2.next).2=z2 at*;generalize q.2.next=t at*;obtain⟨x,u⟩:=q;dsimp only at h2 h3 ⊢;generalize r.paren.s=s1 at*;generalize r.paren.o=o1 at*;generalize r.s=s0 at*;generalize r.o=o0 at*
  (refine fA [.cell 6 25] amS [(6,[(1,zT,[(1000,boxO o1),(1001000000,boxS fun _=>s1)])]),(7,[(4,zR x,zS u)]),(8,[(7,zO true,zS t)]),
    (9,[(4,zI z1,zS z2)]),(10,[(1,zT,[(1000,boxO co),(1001000000,boxS fun _=>cs)])])] Tryz.func284 fun _=>?_;repeat' with_reducible first|exact⟨⟩|refine mA ?_ ?_|refine mC (fun _=>?_) fun _=>?_)
  all_goals(try(exact absurd ‹(26:Int)=22› (by decide)))
  all_goals(try simp only[show(((26:Int)==26)==true)=true from rfl,if_true,ite_self,eq_self])
  all_goals(try exact zB)
  all_goals(try(exact absurd ‹¬True∨False› (fun g=>g.elim (fun k=>k trivial) id)))
  (all_goals try first|exact eZ|(refine qC ?_;repeat' with_reducible first|exact⟨⟩|refine mA ?_ ?_))
  all_goals first
   | rfl
   | exact fun _=>trivial
 ·rw [if_neg c];have h5:=ady (r.paren.to q.2) hb hlq;rw[aa0,aa0]at h5 ⊢;have e1:(r.paren.to q.2).s=q.2:=rfl;have e2:(r.paren.to q.2).o=r.paren.o:=rfl;rw[e1,e2]at h5;dsimp only;clear e1 e2;generalize (r.paren.to q.2).close.s=cs at*;generalize (r.paren.to q.2).close.o=co at*;rcases ho with rfl|rfl
  ·clear c;generalize q.2.next=t at*;generalize q.2.isT cmT=b at*;obtain⟨x,u⟩:=q;dsimp only at h2 h3 h5 ⊢;generalize r.paren.s=s1 at*;generalize r.paren.o=o1 at*;generalize r.s=s0 at*;generalize r.o=o0 at*
   (refine fA [.cell 6 25] amS [(6,[(1,zT,[(1000,boxO o1),(1001000000,boxS fun _=>s1)])]),(7,[(4,zR x,zS u)]),(8,[(7,zO b,zS u)]),(10,[(1,zT,[(1000,boxO co),(1001000000,boxS fun _=>cs)])])] Tryz.func284 fun _=>?_;repeat' with_reducible first|exact⟨⟩|refine mA ?_ ?_|refine mC (fun _=>?_) fun _=>?_)
   all_goals(try simp only[show(((22:Int)==26)==true)=false from rfl,if_neg (show¬(false=true) by simp),ite_self,eq_self])
   any_goals((with_reducible refine sO (fun hg=>?_));exact absurd hg (by decide))
   all_goals(try exact zB)
   all_goals(try(exact absurd ‹(22:Int)=26∧b=true› (fun g=>absurd g.1 (by decide))))
   (all_goals try first|exact eZ|(refine qC ?_;repeat' with_reducible first|exact⟨⟩|refine mA ?_ ?_))
   all_goals rfl
  ·have cb:q.2.isT cmT=false:=by simpa using fun k=>c ⟨rfl,k⟩
   rw[cb,if_neg (by simp)]at h3;obtain⟨x,u⟩:=q;dsimp only at h2 h3 h5 ⊢;generalize r.paren.s=s1 at*;generalize r.paren.o=o1 at*;generalize r.s=s0 at*;generalize r.o=o0 at*
   (refine fA [.cell 6 25] amS [(6,[(1,zT,[(1000,boxO o1),(1001000000,boxS fun _=>s1)])]),(7,[(4,zR x,zS u)]),(8,[(7,zO false,zS u)]),(10,[(1,zT,[(1000,boxO co),(1001000000,boxS fun _=>cs)])])] Tryz.func284 fun _=>?_;repeat' with_reducible first|exact⟨⟩|refine mA ?_ ?_|refine mC (fun _=>?_) fun _=>?_)
   all_goals(try(exact absurd ‹(26:Int)=22› (by decide)))
   all_goals(try simp only[show(((26:Int)==26)==true)=true from rfl,if_true,ite_self,eq_self])
   all_goals(try exact zB)
   all_goals(try(exact absurd ‹True∧False› (fun g=>g.2)))
   (all_goals try first|exact eZ|(refine qC ?_;repeat' with_reducible first|exact⟨⟩|refine mA ?_ ?_))
   all_goals first
    | rfl
    | exact fun _=>trivial
omit hP hA hpe hpc in
theorem div_ok{e D k:Nat}(hD:65600<=D){E:Rd->X×Rd}(hE:∀j,k=j+1->Fun P e D j 67 E)(n:Int)(r:Rd)(h:Okr P k r)(hz:r.s.e=0):
 Af Tryz.prog 284 [.ptr 1000 0,.int .i64 fun _=>15,.int .i64 fun _=>n] [(1000,boxR r),(1001000000,boxS fun _=>r.s)] (encX e D .any fun _=>(divF E r).1) [(1000,boxR (divF E r).2),(1001000000,boxS fun _=>(divF E r).2.s)]:=by
 obtain⟨D,rfl⟩:∃d,D=d+1:=⟨D-1,by omega⟩
 obtain⟨g1,g2,g3,g4,j,rfl,g5⟩:=acg h hz;have hl:=Nat.le_trans h.len (by decide:65537<=1073741824);have h1:=ael r ⟨by have:=h.o0;omega,by have:=h.o1;omega⟩ hl;have lens:=fun{r:Rd} (g:Okr P j r)=>Nat.le_trans g.len (by decide:65537<=1073741824);obtain⟨p2,h2⟩:=hE j rfl _ g5;have g6:=g5.go p2.g;have h3:=abZ (E r.paren).2.s cmT (lens g6);have g7:=g6.go (af5 _);obtain⟨p4,h4⟩:=hE j rfl _ g7;have g8:=g7.go p4.g;have h5:=abZ (E (comR (E r.paren).2)).2.s cmT (lens g8);have g9:=g8.go (af5 _);have h6:=Int_ok (comR (E (comR (E r.paren).2)).2).s (lens g9);have gz:Go (E (comR (E r.paren).2)).2 ((E (comR (E r.paren).2)).2.to (intF (comR (E (comR (E r.paren).2)).2).s).2):=
  Go.of (r:=(E (comR (E r.paren).2)).2) (r':=(E (comR (E r.paren).2)).2.to (intF (comR (E (comR (E r.paren).2)).2).s).2) ((Steps.expect _ cmT).trans (agC _)) rfl
 have g10:=g8.go gz;have h7:=ady _ ⟨by have:=g10.o0;omega,by have:=g10.o1;omega⟩ (lens g10);have e1:∀r:Rd,(comR r).s=r.s.expect cmT:=fun r=>rfl;have e2:∀r:Rd,(comR r).o=r.o:=fun r=>rfl;have e3:∀(r:Rd) (s:St),(r.to s).s=s:=fun r s=>rfl;have e4:∀(r:Rd) (s:St),(r.to s).o=r.o:=fun r s=>rfl;have hxl:X.le e D (E r.paren).1:=X.aa4 p2.x (by have:=g5.len;omega);have hyl:X.le e D (E (comR (E r.paren).2)).1:=X.aa4 p4.x (by have:=g7.len;omega);unfold divF;rw[aa0,aa0]at h1 h2 h4 h7 ⊢;rw[e1,e2]at h4;rw[e3,e4]at h7;rw[e1]at h6;dsimp only;generalize ((E (comR (E r.paren).2)).2.to (intF (comR (E (comR (E r.paren).2)).2).s).2).close.s=cs at*;generalize ((E (comR (E r.paren).2)).2.to (intF (comR (E (comR (E r.paren).2)).2).s).2).close.o=co at*;rw[e1]at h7 ⊢;clear gz g10 g9 g8 g7 g6 p4 p2 lens;generalize (E (comR (E r.paren).2)).1=y at*;generalize (E (comR (E r.paren).2)).2.o=o3 at*;generalize (E (comR (E r.paren).2)).2.s=s3 at*;generalize (E r.paren).1=x at*;generalize (E r.paren).2.o=o2 at*;generalize (E r.paren).2.s=s2 at*;generalize (intF (s3.expect cmT)).1=z1 at*;generalize (intF (s3.expect cmT)).2=z2 at*;generalize s3.expect cmT=t3 at*;generalize s2.expect cmT=t2 at*;generalize r.paren.s=s1 at*;generalize r.paren.o=o1 at*;generalize r.s=s0 at*;generalize r.o=o0 at*
 (refine fA [.cell 6 25] amS [(12,[(1,zT,[(1000,boxO o1),(1001000000,boxS fun _=>s1)])]),(13,[(1,encX e (D+1) .any fun _=>x,[(1000,boxO o2),(1001000000,boxS fun _=>s2)])]),(14,[(4,zT,zS t2)]),
   (15,[(1,encX e (D+1) .any fun _=>y,[(1000,boxO o3),(1001000000,boxS fun _=>s3)])]),(16,[(4,zT,zS t3)]),(17,[(4,zI z1,zS z2)]),(19,[(1,zT,[(1000,boxO co),(1001000000,boxS fun _=>cs)])])] Tryz.func284 fun _=>?_;repeat' with_reducible first|exact⟨⟩|refine mA ?_ ?_|refine mC (fun _=>?_) fun _=>?_)
 all_goals(try exact zB)
 all_goals(try(exact absurd ‹(15:Int)=22› (by decide)))
 all_goals(try(exact absurd ‹(15:Int)=26› (by decide)))
 (all_goals try first|exact eZ|(refine qC ?_;repeat' with_reducible first|exact⟨⟩|refine mA ?_ ?_))
 all_goals first
  | rfl
  | exact agc (.mk 15 z1 ⟨#[]⟩ [] [x,y]) rfl hxl hyl
omit hP hA hpe hpc in
theorem def_ok{e D k:Nat}(hD:65600<=D){E:Rd->X×Rd}(hE:∀j,k=j+1->Fun P e D j 67 E)(op n:Int)(ho:¬(op=22∨op=26))(ho2:op≠15)(hn1:1<=n)(hn3:n<=3)(r:Rd)(h:Okr P k r)(hz:r.s.e=0):
 Af Tryz.prog 284 [.ptr 1000 0,.int .i64 fun _=>op,.int .i64 fun _=>n] [(1000,boxR r),(1001000000,boxS fun _=>r.s)] (encX e D .any fun _=>X.mk op 0 ⟨#[]⟩ [] (abl E n n r).1) [(1000,boxR (abl E n n r).2),(1001000000,boxS fun _=>(abl E n n r).2.s)]:=by
 have h1:=anK hD hE n n hn1 hn3 r h hz;obtain⟨_,b2,b3⟩:=agT (fun j hj r hr=>(hE j hj r hr).1) n n h hz;have hlen:=h.len;obtain⟨D,rfl⟩:∃d,D=d+1:=⟨D-1,by omega⟩
 have hyl:∀y∈(abl E n n r).1,X.le e D y:=fun y hy=>X.aa4 (b2 y hy) (by omega);clear b2;rw[aa0,aa0]at h1 ⊢;generalize (abl E n n r).1=l at*;generalize (abl E n n r).2.s=s1 at*;generalize (abl E n n r).2.o=o1 at*;generalize r.s=s0 at*;generalize r.o=o0 at*
 (refine fA [.cell 6 25] amS [(3,[(3,slcX e (D+1) .any fun _=>l,[(1000,boxO o1),(1001000000,boxS fun _=>s1)])])] Tryz.func284 fun _=>?_;repeat' with_reducible first|exact⟨⟩|refine mA ?_ ?_|refine mC (fun _=>?_) fun _=>?_)
 all_goals(try exact zB)
 all_goals(try(exact absurd ‹op=22› (fun g=>ho (.inl g))))
 all_goals(try(exact absurd ‹op=26› (fun g=>ho (.inr g))))
 all_goals(try(exact absurd ‹op=15› ho2))
 (all_goals try first|exact eZ|(refine qC ?_;repeat' with_reducible first|exact⟨⟩|refine mA ?_ ?_))
 all_goals first
  | rfl
  | (intro i hi
     have hy:X.le e D (l.getD i default):=by
      rw[show l.getD i default=l[i] by simp[List.getD,hi]];exact hyl _ (List.getElem_mem _)
     exact abF D (fun _=>l.getD i default) hy (D+1) D (by omega) (Nat.le_refl _))
end
end Go.Ai
