/- Chapter 17: the reader: what an expression begins with: the walk. -/
import Derived.Test.YtbagpkiomjlhkaaGreatDoorRdG
set_option linter.all false
namespace Go.Ai
open Go Go.Proofs Tryz
set_option maxRecDepth 100000
set_option maxHeartbeats 4000000
def XR{pe:ByteArray->Int}(hpe:∀t,pe t=0->t.size<=200)(hpc:∀t,t.size<=100000000000->Asc t->Af prog 43 [.str fun _=>t] [] (.ag [.any,.int .i64 fun _=>pe t]) [])
 {e D k:Nat} (hD:65600<=D) {E:Rd->X×Rd} (hE:∀j,k=j+1->cW de (e+1) D j 67 E):cW de (e+1) D k 283 (eS E pe):=by
 intro r h;refine⟨XQ hpe (fun j hj r hr=>(hE j hj r hr).1) r h,?_⟩;have hl:=aG h.len (zd:65537<=1073741824);have h1:=uh r;have h2:=ju r.s;have h3:=JF;have h4:=LU r.s hl;have h5:=XK e r.s h.st;have h6:=kV r.s hl;have h7:=DE r.s.peek.text;have h8:=LY (P:=de) (fun t ht=>ht.size) (fun t ht=>ht.uB) hpc r.s h.st;have h9:=lK r.s fV;have h10:=j6 r.s 13;obtain⟨D,rfl⟩:∃d,D=d+1:=⟨D-1,zo⟩
 rw[aL]at h1 ⊢;rw[aL];unfold eS;cases c1:r.bad with
 | true=>
  rw[ae rfl];dsimp only;rw[c1]at h1;generalize r.s=s at*;generalize r.o=o at*
  (refine fB [.cell 2 25] uD [(1,[(1,zO true,[(1000,aX o),(1001000000,am fun _=>s)])])] func283 fun _=>?_;repeat' first|exact⟨⟩|apply mA|apply mC<;>intro)
  all_goals trace_state
 | false=>
  rw[aa zsi];rw[c1]at h1;have hz:r.s.e=0:=by
   unfold Rd.bad at c1;simpa using c1
  have hkk:=zW r.s.peek.text ba;cases c2:r.s.val with
  | true=>
   rw[c2]at h4;rw[ae rfl];dsimp only;rw[show(r.to (fw r.s).2).o=r.o from rfl,show(r.to (fw r.s).2).s=(fw r.s).2 from rfl];generalize (fw r.s).1=v at*;generalize (fw r.s).2=s2 at*;generalize r.s.peek=p at*;generalize r.s=s at*;generalize r.o=o at*
   (refine fB [.cell 2 25] uD [(1,[(1,zO false,[(1000,aX o),(1001000000,am fun _=>s)])]),(3,[(4,zK p,zS s)]),(4,[(0,ox ba,[])]),(5,[(4,zO true,zS s)]),
     (6,[(4,aK (e+1) .any fun _=>v,zS s2)])] func283 fun _=>?_;repeat' first|exact⟨⟩|apply mA|apply mC<;>intro)
   all_goals first
    | rfl
    | (intro i hi
       obtain rfl:i=0:=zo
       exact aD.of_eq rfl)
  | false=>
   rw[c2]at h4;rw[aa zsi];by_cases c3:r.s.peek.kind=1∧(dk r.s.peek.text ba).isSome=true
   ·rw[ae c3];obtain⟨XS,L9⟩:=c3;obtain⟨q,hq⟩:=Option.isSome_iff_exists.1 L9;rw[hq];rw[hq]at hkk;have hix:=DR r.s.peek.text ba q hq;have gn:Go r (r.to r.s.next):=Go.of (r:=r) (r':=r.to r.s.next) (Steps.next _) rfl;have hz2:(r.to r.s.next).s.e=0:=by
     show r.s.next.e=0;unfold St.next;split<;>exact hz
    have hcall:=XL hpe hpc hD hE q.1 q.2 (XM hq) _ (h.go gn) hz2;have e1:(some q).getD (0,0)=q:=rfl;rw[e1];rw[aL,aL,show(r.to r.s.next).s=r.s.next from rfl,show(r.to r.s.next).o=r.o from rfl]at hcall;generalize (kj E pe q.1 q.2 (r.to r.s.next)).1=y at*;generalize (kj E pe q.1 q.2 (r.to r.s.next)).2.s=s3 at*;generalize (kj E pe q.1 q.2 (r.to r.s.next)).2.o=o3 at*;have hk1:bI (ba.map Prod.fst) r.s.peek.text=true:=hkk;have hq1:(if bI (ba.map Prod.fst) r.s.peek.text=true then(ba.getD (eO (ba.map Prod.fst) r.s.peek.text) default).2.1 else 0)=q.1:=by rw[ae hk1,hix]
    have hq2:(if bI (ba.map Prod.fst) r.s.peek.text=true then(ba.getD (eO (ba.map Prod.fst) r.s.peek.text) default).2.2 else 0)=q.2:=by rw[ae hk1,hix]
    rw[<- hq1,<- hq2]at hcall;clear gn hz2 e1 L9 hq h5 h7 h8 h9 h10 hq1 hq2 hkk hix;generalize r.s.next=t at*;generalize r.s.peek=p at*;generalize r.s=s at*;generalize r.o=o at*
    (refine fA [.cell 2 25] uD [(1,[(1,zO false,[(1000,aX o),(1001000000,am fun _=>s)])]),(3,[(4,zK p,zS s)]),(4,[(0,ox ba,[])]),(5,[(4,zO false,zS s)]),(8,[(4,zK p,zS t)]),(9,[(5,aq (e+1) (D+1) .any fun _=>y,[(1000,aX o3),(1001000000,am fun _=>s3)])])] func283 fun _=>?_;repeat' first|exact⟨⟩|apply mA|apply mC<;>intro)
    all_goals try exact zB
    all_goals try exact zB
    all_goals(try(rename_i hbr;exact absurd hbr (fun g=>g.elim (fun k=>k XS) (fun k=>absurd (hk1.symm.trans k) zsi))))
    all_goals try exact eZ
    trace_state
   ·rw [aa c3];have hnc:¬(r.s.peek.kind=1∧bI (ba.map Prod.fst) r.s.peek.text=true):=fun g=>c3 ⟨g.1,by rw[<- hkk];exact g.2⟩;clear c3 hkk;by_cases c4:r.s.peek.kind=1∧dQ r.s.peek.text=false
    ·rw[ae c4];obtain⟨XT,Ma⟩:=c4;rw[Ma]at h7;dsimp only;rw[show(r.to (dN pe r.s).2).o=r.o from rfl,show(r.to (dN pe r.s).2).s=(dN pe r.s).2 from rfl];clear Ma;generalize (dN pe r.s).1=x at*;generalize (dN pe r.s).2=s2 at*;clear h5 h6 h9 h10;generalize r.s.peek=p at*;generalize r.s=s at*;generalize r.o=o at*
     (refine fA [.cell 2 25] uD [(1,[(1,zO false,[(1000,aX o),(1001000000,am fun _=>s)])]),(3,[(4,zK p,zS s)]),(4,[(0,ox ba,[])]),(5,[(4,zO false,zS s)]),(10,[(6,zO false,[])]),(11,[(4,zR x,zS s2)])] func283 fun _=>?_;repeat' first|exact⟨⟩|apply mA|apply mC<;>intro)
     all_goals(try simp only[aF])
     all_goals try exact zB
     all_goals(try(rename_i hbr;exact absurd hbr hnc))
     all_goals try exact absurd ‹¬p.kind=1∨False› (fun g=>g.elim (fun k=>k XT) id)
     (all_goals try first|exact eZ|(refine qC ?_;repeat' first|exact⟨⟩|apply mA))
     all_goals first
      | rfl
      | trace_state
    ·rw [aa c4];obtain⟨rv,yY⟩:∃b,b=dQ r.s.peek.text:=⟨_,rfl⟩
     rw[<- yY]at h7 c4;clear yY;cases c5:r.s.aH fV with
     | true=>
      rw[c5]at h9;rw[ae rfl];dsimp only;obtain⟨g1,g2,g3,g4,j,rfl,g5⟩:=sl h hz;have hp:=zV r ⟨by have:=h.o0;omega,by have:=h.o1;omega⟩ hl;obtain⟨nt,he⟩:=hE j rfl _ g5;have g6:=g5.go nt.g;have hc:=wU (E r.paren).2 ⟨by have:=g6.o0;omega,by have:=g6.o1;omega⟩ (aG g6.len zd);rw[aL,aL]at hp he hc;clear c5 g1 g2 g3 g4 g5 g6 nt;generalize (E r.paren).2.close.s=cs at*;generalize (E r.paren).2.close.o=co at*;generalize (E r.paren).1=y at*;generalize (E r.paren).2.s=s3 at*;generalize (E r.paren).2.o=o3 at*;generalize r.paren.s=s2 at*;generalize r.paren.o=o2 at*;clear h5 h6 h8 h10;generalize r.s.peek=p at*;generalize r.s=s at*;generalize r.o=o at*
      (refine fA [.cell 2 25] uD [(1,[(1,zO false,[(1000,aX o),(1001000000,am fun _=>s)])]),(3,[(4,zK p,zS s)]),(4,[(0,ox ba,[])]),(5,[(4,zO false,zS s)]),(10,[(6,zO rv,[])]),(12,[(4,zO true,zS s)]),(13,[(1,zT,[(1000,aX o2),(1001000000,am fun _=>s2)])]),(14,[(1,aq (e+1) (D+1) .any fun _=>y,[(1000,aX o3),(1001000000,am fun _=>s3)])]),(15,[(1,zT,[(1000,aX co),(1001000000,am fun _=>cs)])])] func283 fun _=>?_;repeat' first|exact⟨⟩|apply mA|apply mC<;>intro)
      all_goals(try simp only[aF])
      all_goals try exact zB
      all_goals(try(rename_i hbr;exact absurd hbr hnc))
      all_goals try exact absurd ‹p.kind=1∧rv=false› c4
      all_goals try exact eZ
      all_goals first
       | rfl
       | trace_state
     | false=>
      rw[c5]at h9;rw[aa zsi];dsimp only;rw[show(r.to (r.s.fail 13)).o=r.o from rfl,show(r.to (r.s.fail 13)).s=r.s.fail 13 from rfl];generalize r.s.fail 13=s2 at*;clear h5 h6 h8 c5;generalize r.s.peek=p at*;generalize r.s=s at*;generalize r.o=o at*
      (refine fA [.cell 2 25] uD [(1,[(1,zO false,[(1000,aX o),(1001000000,am fun _=>s)])]),(3,[(4,zK p,zS s)]),(4,[(0,ox ba,[])]),(5,[(4,zO false,zS s)]),(10,[(6,zO rv,[])]),(12,[(4,zO false,zS s)]),(17,[(4,zT,zS s2)])] func283 fun _=>?_;repeat' first|exact⟨⟩|apply mA|apply mC<;>intro)
      all_goals(try simp only[aF])
      all_goals try exact zB
      all_goals(try(rename_i hbr;exact absurd hbr hnc))
      all_goals try exact absurd ‹p.kind=1∧rv=false› c4
      all_goals try exact eZ
      all_goals first
       | rfl
       | trace_state
end Go.Ai
