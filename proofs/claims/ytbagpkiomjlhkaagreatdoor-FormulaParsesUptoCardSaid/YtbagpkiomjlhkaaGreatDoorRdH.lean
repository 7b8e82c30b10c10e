/- Chapter 17: the reader: what an expression begins with: the walk. -/
import Derived.Test.YtbagpkiomjlhkaaGreatDoorRdG
set_option linter.all false
namespace Go.Ai
open Go Go.Proofs
set_option maxRecDepth 100000
set_option maxHeartbeats 4000000
def akL{pe:ByteArray->Int}(hpe:∀t,pe t=0->t.size<=200)(hpc:∀t,t.size<=100000000000->Asc t->Af Tryz.prog 43 [.str fun _=>t] [] (.tup [.any,.int .i64 fun _=>pe t]) [])
 {e D k:Nat} (hD:65600<=D) {E:Rd->X×Rd} (hE:∀j,k=j+1->Fun PlTok (e+1) D j 67 E):Fun PlTok (e+1) D k 283 (ahj E pe):=by
 intro r h;refine⟨am4 hpe (fun j hj r hr=>(hE j hj r hr).1) r h,?_⟩;have hl:=Nat.le_trans h.len (by decide:65537<=1073741824);have h1:=abq r;have h2:=aal r.s;have h3:=akc;have h4:=aic r.s hl;have h5:=apj e r.s h.st;have h6:=aap r.s hl;have h7:=acX r.s.peek.text;have h8:=amc (P:=PlTok) (fun t ht=>ht.size) (fun t ht=>ht.asc) hpc r.s h.st;have h9:=aef r.s lpT;have h10:=abE r.s 13;obtain⟨D,rfl⟩:∃d,D=d+1:=⟨D-1,by omega⟩
 rw[aa0]at h1 ⊢;rw[aa0];unfold ahj;cases c1:r.bad with
 | true=>
  rw[if_pos rfl];dsimp only;rw[c1]at h1;generalize r.s=s at*;generalize r.o=o at*
  (refine fB [.cell 2 25] akV [(1,[(1,zO true,[(1000,boxO o),(1001000000,boxS fun _=>s)])])] Tryz.func283 fun _=>?_;repeat' with_reducible first|exact⟨⟩|refine mA ?_ ?_|refine mC (fun _=>?_) fun _=>?_)
  all_goals trace_state
 | false=>
  rw[if_neg (by simp)];rw[c1]at h1;have hz:r.s.e=0:=by
   unfold Rd.bad at c1;simpa using c1
  have hkk:=aat r.s.peek.text aa2;cases c2:r.s.val with
  | true=>
   rw[c2]at h4;rw[if_pos rfl];dsimp only;rw[show(r.to (valF r.s).2).o=r.o from rfl,show(r.to (valF r.s).2).s=(valF r.s).2 from rfl];generalize (valF r.s).1=v at*;generalize (valF r.s).2=s2 at*;generalize r.s.peek=p at*;generalize r.s=s at*;generalize r.o=o at*
   (refine fB [.cell 2 25] akV [(1,[(1,zO false,[(1000,boxO o),(1001000000,boxS fun _=>s)])]),(3,[(4,zK p,zS s)]),(4,[(0,cMap aa2,[])]),(5,[(4,zO true,zS s)]),
     (6,[(4,encV (e+1) .any fun _=>v,zS s2)])] Tryz.func283 fun _=>?_;repeat' with_reducible first|exact⟨⟩|refine mA ?_ ?_|refine mC (fun _=>?_) fun _=>?_)
   all_goals first
    | rfl
    | (intro i hi
       obtain rfl:i=0:=by omega
       exact LeL.of_eq rfl)
  | false=>
   rw[c2]at h4;rw[if_neg (by simp)];by_cases c3:r.s.peek.kind=1∧(ab5 r.s.peek.text aa2).isSome=true
   ·rw[if_pos c3];obtain⟨c3k,c3f⟩:=c3;obtain⟨q,hq⟩:=Option.isSome_iff_exists.1 c3f;rw[hq];rw[hq]at hkk;have hix:=abh r.s.peek.text aa2 q hq;have gn:Go r (r.to r.s.next):=Go.of (r:=r) (r':=r.to r.s.next) (Steps.next _) rfl;have hz2:(r.to r.s.next).s.e=0:=by
     show r.s.next.e=0;unfold St.next;split<;>exact hz
    have hcall:=call_ok hpe hpc hD hE q.1 q.2 (calls_n hq) _ (h.go gn) hz2;have e1:(some q).getD (0,0)=q:=rfl;rw[e1];rw[aa0,aa0,show(r.to r.s.next).s=r.s.next from rfl,show(r.to r.s.next).o=r.o from rfl]at hcall;generalize (aeg E pe q.1 q.2 (r.to r.s.next)).1=y at*;generalize (aeg E pe q.1 q.2 (r.to r.s.next)).2.s=s3 at*;generalize (aeg E pe q.1 q.2 (r.to r.s.next)).2.o=o3 at*;have hk1:kHas (aa2.map Prod.fst) r.s.peek.text=true:=hkk;have hq1:(if kHas (aa2.map Prod.fst) r.s.peek.text=true then(aa2.getD (kIdx (aa2.map Prod.fst) r.s.peek.text) default).2.1 else 0)=q.1:=by rw[if_pos hk1,hix]
    have hq2:(if kHas (aa2.map Prod.fst) r.s.peek.text=true then(aa2.getD (kIdx (aa2.map Prod.fst) r.s.peek.text) default).2.2 else 0)=q.2:=by rw[if_pos hk1,hix]
    rw[<- hq1,<- hq2]at hcall;clear gn hz2 e1 c3f hq h5 h7 h8 h9 h10 hq1 hq2 hkk hix;generalize r.s.next=t at*;generalize r.s.peek=p at*;generalize r.s=s at*;generalize r.o=o at*
    (refine fA [.cell 2 25] akV [(1,[(1,zO false,[(1000,boxO o),(1001000000,boxS fun _=>s)])]),(3,[(4,zK p,zS s)]),(4,[(0,cMap aa2,[])]),(5,[(4,zO false,zS s)]),(8,[(4,zK p,zS t)]),(9,[(5,encX (e+1) (D+1) .any fun _=>y,[(1000,boxO o3),(1001000000,boxS fun _=>s3)])])] Tryz.func283 fun _=>?_;repeat' with_reducible first|exact⟨⟩|refine mA ?_ ?_|refine mC (fun _=>?_) fun _=>?_)
    all_goals(try exact zB)
    all_goals(try exact zB)
    all_goals(try(rename_i hbr;exact absurd hbr (fun g=>g.elim (fun k=>k c3k) (fun k=>absurd (hk1.symm.trans k) (by simp)))))
    (all_goals(try exact eZ))
    trace_state
   ·rw [if_neg c3];have hnc:¬(r.s.peek.kind=1∧kHas (aa2.map Prod.fst) r.s.peek.text=true):=fun g=>c3 ⟨g.1,by rw[<- hkk];exact g.2⟩;clear c3 hkk;by_cases c4:r.s.peek.kind=1∧resB r.s.peek.text=false
    ·rw[if_pos c4];obtain⟨c4k,c4r⟩:=c4;rw[c4r]at h7;dsimp only;rw[show(r.to (abf pe r.s).2).o=r.o from rfl,show(r.to (abf pe r.s).2).s=(abf pe r.s).2 from rfl];clear c4r;generalize (abf pe r.s).1=x at*;generalize (abf pe r.s).2=s2 at*;clear h5 h6 h9 h10;generalize r.s.peek=p at*;generalize r.s=s at*;generalize r.o=o at*
     (refine fA [.cell 2 25] akV [(1,[(1,zO false,[(1000,boxO o),(1001000000,boxS fun _=>s)])]),(3,[(4,zK p,zS s)]),(4,[(0,cMap aa2,[])]),(5,[(4,zO false,zS s)]),(10,[(6,zO false,[])]),(11,[(4,zR x,zS s2)])] Tryz.func283 fun _=>?_;repeat' with_reducible first|exact⟨⟩|refine mA ?_ ?_|refine mC (fun _=>?_) fun _=>?_)
     all_goals(try simp only[ite_self])
     all_goals(try exact zB)
     all_goals(try(rename_i hbr;exact absurd hbr hnc))
     all_goals(try(exact absurd ‹¬p.kind=1∨False› (fun g=>g.elim (fun k=>k c4k) id)))
     (all_goals try first|exact eZ|(refine qC ?_;repeat' with_reducible first|exact⟨⟩|refine mA ?_ ?_))
     all_goals first
      | rfl
      | trace_state
    ·rw [if_neg c4];obtain⟨rv,hrv⟩:∃b,b=resB r.s.peek.text:=⟨_,rfl⟩
     rw[<- hrv]at h7 c4;clear hrv;cases c5:r.s.isT lpT with
     | true=>
      rw[c5]at h9;rw[if_pos rfl];dsimp only;obtain⟨g1,g2,g3,g4,j,rfl,g5⟩:=acg h hz;have hp:=ael r ⟨by have:=h.o0;omega,by have:=h.o1;omega⟩ hl;obtain⟨pe1,he⟩:=hE j rfl _ g5;have g6:=g5.go pe1.g;have hc:=ady (E r.paren).2 ⟨by have:=g6.o0;omega,by have:=g6.o1;omega⟩ (Nat.le_trans g6.len (by decide));rw[aa0,aa0]at hp he hc;clear c5 g1 g2 g3 g4 g5 g6 pe1;generalize (E r.paren).2.close.s=cs at*;generalize (E r.paren).2.close.o=co at*;generalize (E r.paren).1=y at*;generalize (E r.paren).2.s=s3 at*;generalize (E r.paren).2.o=o3 at*;generalize r.paren.s=s2 at*;generalize r.paren.o=o2 at*;clear h5 h6 h8 h10;generalize r.s.peek=p at*;generalize r.s=s at*;generalize r.o=o at*
      (refine fA [.cell 2 25] akV [(1,[(1,zO false,[(1000,boxO o),(1001000000,boxS fun _=>s)])]),(3,[(4,zK p,zS s)]),(4,[(0,cMap aa2,[])]),(5,[(4,zO false,zS s)]),(10,[(6,zO rv,[])]),(12,[(4,zO true,zS s)]),(13,[(1,zT,[(1000,boxO o2),(1001000000,boxS fun _=>s2)])]),(14,[(1,encX (e+1) (D+1) .any fun _=>y,[(1000,boxO o3),(1001000000,boxS fun _=>s3)])]),(15,[(1,zT,[(1000,boxO co),(1001000000,boxS fun _=>cs)])])] Tryz.func283 fun _=>?_;repeat' with_reducible first|exact⟨⟩|refine mA ?_ ?_|refine mC (fun _=>?_) fun _=>?_)
      all_goals(try simp only[ite_self])
      all_goals(try exact zB)
      all_goals(try(rename_i hbr;exact absurd hbr hnc))
      all_goals(try(exact absurd ‹p.kind=1∧rv=false› c4))
      (all_goals(try exact eZ))
      all_goals first
       | rfl
       | trace_state
     | false=>
      rw[c5]at h9;rw[if_neg (by simp)];dsimp only;rw[show(r.to (r.s.fail 13)).o=r.o from rfl,show(r.to (r.s.fail 13)).s=r.s.fail 13 from rfl];generalize r.s.fail 13=s2 at*;clear h5 h6 h8 c5;generalize r.s.peek=p at*;generalize r.s=s at*;generalize r.o=o at*
      (refine fA [.cell 2 25] akV [(1,[(1,zO false,[(1000,boxO o),(1001000000,boxS fun _=>s)])]),(3,[(4,zK p,zS s)]),(4,[(0,cMap aa2,[])]),(5,[(4,zO false,zS s)]),(10,[(6,zO rv,[])]),(12,[(4,zO false,zS s)]),(17,[(4,zT,zS s2)])] Tryz.func283 fun _=>?_;repeat' with_reducible first|exact⟨⟩|refine mA ?_ ?_|refine mC (fun _=>?_) fun _=>?_)
      all_goals(try simp only[ite_self])
      all_goals(try exact zB)
      all_goals(try(rename_i hbr;exact absurd hbr hnc))
      all_goals(try(exact absurd ‹p.kind=1∧rv=false› c4))
      (all_goals(try exact eZ))
      all_goals first
       | rfl
       | trace_state
end Go.Ai
