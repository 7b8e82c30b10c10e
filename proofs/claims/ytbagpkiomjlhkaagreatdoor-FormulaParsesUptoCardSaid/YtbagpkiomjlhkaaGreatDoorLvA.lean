/- Chapter 17's model: parentheses, operators, scales. -/
import Derived.Test.YtbagpkiomjlhkaaGreatDoorMdP
import Derived.Test.YtbagpkiomjlhkaaGreatDoorRdI
import Derived.Test.YtbagpkiomjlhkaaGreatDoorChkA
set_option linter.all false
namespace Go.Ai
open Go Go.Proofs
set_option maxRecDepth 100000
set_option maxHeartbeats 4000000
def Mr.op(r:Mr)(o:Int):Mr:=.mk r.l r.i o r.e r.line r.col
def Mr.expect(r:Mr)(t:ByteArray):Mr:=if r.isT t=true then r.next else r.fail 13
def Mr.beg(r:Mr)(t:ByteArray):Mr:=if r.isT t=true then(if r.o=32 then r.fail 23 else(r.op (r.o+1)).next)else r.fail 13
def Mr.end_(r:Mr):Mr:=(r.expect ⟨#[41]⟩).op ((r.expect ⟨#[41]⟩).o-1)
def Mr.down(r:Mr):Mr:=r.op (r.o-1)
def Mr.op_peek(r:Mr)(o:Int):(r.op o).peek=r.peek:=rfl
def aqB(r:Mr)(t:ByteArray)(hi:r.i<=1073741824):Af Tryz.prog 182 [.ptr 1000 0,.str fun _=>t] [(1000,boxM r)] (.tup []) [(1000,boxM (r.expect t))]:=by
 have h1:=aoE r t hi;have h2:=anX r 13;obtain⟨A,hA⟩:∃A,A=r.expect t:=⟨_,rfl⟩
 rw[<- hA];unfold Mr.expect at hA;unfold Mr.accept at h1;cases q:r.isT t with
 | true=>
  rw[q,if_pos rfl]at hA h1;rw[hA];generalize r.next=u at*
  (refine fB [] kp182 [(0,[(2,zO true,zM u)]),(1,[(1,.any,[])])] Tryz.func182 fun _=>?_;repeat' with_reducible first|exact⟨⟩|refine mA ?_ ?_|refine mC (fun _=>?_) fun _=>?_)
 | false=>
  rw[q,if_neg (by decide)]at hA h1;rw[hA];generalize r.fail 13=u at*
  (refine fB [] kp182 [(0,[(2,zO false,zM r)]),(1,[(1,zT,zM u)])] Tryz.func182 fun _=>?_;repeat' with_reducible first|exact⟨⟩|refine mA ?_ ?_|refine mC (fun _=>?_) fun _=>?_)
def aqP(r:Mr)(t:ByteArray)(hi:r.i<=1073741823)(ho : -1073741824<=r.o∧r.o<=1073741824):Af Tryz.prog 115 [.ptr 1000 0,.str fun _=>t] [(1000,boxM r)] (.tup []) [(1000,boxM (r.beg t))]:=by
 have h0:=ao5 r t;have h1:=anX r 13;have h2:=anX r 23;have h3:=anU (r.op (r.o+1)) (by show r.i<=_;omega);have hw:IntKind.i64.wrap (r.o+1)=r.o+1:=w64 (by omega) (by omega);obtain⟨A,hA⟩:∃A,A=r.beg t:=⟨_,rfl⟩
 rw[<- hA];unfold Mr.beg at hA;generalize (r.op (r.o+1)).next=u at*;generalize (r.op (r.o+1)).peek=p at*;generalize r.fail 13=f at*;generalize r.fail 23=g at*;cases q:r.isT t with
 | true=>
  rw[q]at h0;rw[q,if_pos rfl]at hA;by_cases c:r.o=32
  ·rw[if_pos c]at hA;subst hA
   (refine fA [] kp115 [(0,[(2,zO true,zM r)]),(1,[(1,.any,[])]),(3,[(1,zT,zM A)]),(5,[(1,.any,[])])] Tryz.func115 fun _=>?_;repeat' with_reducible first|exact⟨⟩|refine mA ?_ ?_|refine mC (fun _=>?_) fun _=>?_)
   all_goals(try exact zB)
   all_goals(try(exact absurd c ‹¬r.o=32›))
   all_goals exact eZ
  ·rw[if_neg c]at hA;subst hA
   (refine fA [] kp115 [(0,[(2,zO true,zM r)]),(1,[(1,.any,[])]),(3,[(1,.any,[])]),(5,[(1,zK p,zM A)])] Tryz.func115 fun _=>?_;repeat' with_reducible first|exact⟨⟩|refine mA ?_ ?_|refine mC (fun _=>?_) fun _=>?_)
   all_goals(try simp only[hw])
   all_goals(try exact zB)
   all_goals(try(exact absurd ‹r.o=32› c))
   all_goals exact eZ
 | false=>
  rw[q]at h0;rw[q,if_neg (by decide)]at hA;subst hA
  (refine fB [] kp115 [(0,[(2,zO false,zM r)]),(1,[(1,zT,zM A)]),(3,[(1,.any,[])]),(5,[(1,.any,[])])] Tryz.func115 fun _=>?_;repeat' with_reducible first|exact⟨⟩|refine mA ?_ ?_|refine mC (fun _=>?_) fun _=>?_)
def ari(r:Mr)(hi:r.i<=1073741823)(ho : -1073741823<=r.o∧r.o<=1073741824):Af Tryz.prog 117 [.ptr 1000 0] [(1000,boxM r)] (.tup []) [(1000,boxM r.end_)]:=by
 have h1:=aqB r ⟨#[41]⟩ (by omega);have h2:(r.expect ⟨#[41]⟩).o=r.o:=by
  unfold Mr.expect;split
  ·unfold Mr.next;split<;>rfl
  ·unfold Mr.fail;split<;>rfl
 have hw:IntKind.i64.wrap ((r.expect ⟨#[41]⟩).o-1)=(r.expect ⟨#[41]⟩).o-1:=by rw[h2];exact w64 (by omega) (by omega)
 unfold Mr.end_;generalize r.expect ⟨#[41]⟩=u at*
 (refine fB [] kp117 [(0,[(1,zT,zM u)])] Tryz.func117 fun _=>?_;repeat' with_reducible first|exact⟨⟩|refine mA ?_ ?_|refine mC (fun _=>?_) fun _=>?_)
 all_goals(try exact hw)
 all_goals(try rfl)
 all_goals(try exact fun _ _=>LeL.of_eq rfl)
def mscl(r:Mr):Int×Mr:=if r.peek.kind≠2 then(0,r.fail 13)else if r.peek.scale≠0∨12<r.peek.num then(0,r.fail 2)else(r.peek.num,r.next)
def as5(r:Mr)(hi:r.i<=1073741823):Af Tryz.prog 183 [.ptr 1000 0] [(1000,boxM r)] (.int .i64 fun _=>(mscl r).1) [(1000,boxM (mscl r).2)]:=by
 have h0:=anS r;have h1:=anX r 13;have h2:=anX r 2;have h3:=anU r (by omega);unfold mscl;generalize r.next=u at*;generalize r.peek=p at*;generalize r.fail 13=f at*;generalize r.fail 2=g at*;by_cases c1:p.kind≠2
 ·rw[if_pos c1]
  (refine fA [.tmp 2] kp183 [(1,[(1,zK p,zM r)]),(3,[(1,zT,zM f)])] Tryz.func183 fun _=>?_;repeat' with_reducible first|exact⟨⟩|refine mA ?_ ?_|refine mC (fun _=>?_) fun _=>?_)
  all_goals(try exact zB)
  all_goals(try(exact absurd ‹p.kind=2› c1))
  all_goals exact eZ
 rw[if_neg c1];have c1:p.kind=2:=Decidable.not_not.1 c1;by_cases c2:p.scale≠0∨12<p.num
 ·rw[if_pos c2]
  (refine fA [.tmp 2] kp183 [(1,[(1,zK p,zM r)]),(6,[(1,zT,zM g)])] Tryz.func183 fun _=>?_;repeat' with_reducible first|exact⟨⟩|refine mA ?_ ?_|refine mC (fun _=>?_) fun _=>?_)
  all_goals(try simp only[ite_self])
  all_goals(try exact zB)
  all_goals(try(exact absurd c1 ‹¬p.kind=2›))
  all_goals(try(exact absurd c2 (fun k=>by omega)))
  all_goals exact eZ
 ·rw[if_neg c2]
  (refine fA [.tmp 2] kp183 [(1,[(1,zK p,zM r)]),(8,[(1,zK p,zM u)])] Tryz.func183 fun _=>?_;repeat' with_reducible first|exact⟨⟩|refine mA ?_ ?_|refine mC (fun _=>?_) fun _=>?_)
  all_goals(try simp only[ite_self])
  all_goals(try exact zB)
  all_goals(try(exact absurd c1 ‹¬p.kind=2›))
  all_goals(try(exact absurd ‹¬p.scale=0∨12<p.num› c2))
  all_goals exact eZ
def sgnI(op:Int):ByteArray:=(sgnB op).extract 1 ((sgnB op).size-1)
def mopL(r:Mr)(n:Int):Nat->Nat->Int
 | 0,_=>0
 | f+1,k=>if sgnN k=n∧r.isT (sgnI k)=true then(k:Int)else mopL r n f (k+1)
def mop(r:Mr)(n:Int):Int:=mopL r n 28 1
def sgn_len{op:Int}(h:0<sgnN op):3<=(sgnB op).size∧(sgnB op).size<=10:=by
 unfold sgnN at h;unfold sgnB
 (repeat' split at h)<;>(try(exact absurd h (by decide)))<;>simp_all<;>decide
def ar4(r:Mr)(n:Int)(hn:1<=n):Af Tryz.prog 116 [.ptr 1000 0,.int .i64 fun _=>n] [(1000,boxM r)] (.int .i64 fun _=>mop r n) [(1000,boxM r)]:=by
 obtain⟨R,hR⟩:∃R,R=mop r n:=⟨_,rfl⟩
 rw[<- hR];unfold mop at hR
 (apply Af.of tF mF [.tmp 4] asl [] Tryz.func116 (fun _=>?_);(repeat' with_reducible first|exact nY|refine oC ?_ ?_|refine vQ ?_ ?_ ?_|refine cV (fun _=>?_) fun _=>?_|refine wQ ?_|fail))
 refine .loop (fun k:Nat=>⟨30,[(5,.int .i64 fun _=>(k:Int)),(0,.ptr 1000 0),(1,.int .i64 fun _=>n)],[(1000,boxM r)]⟩)
  (fun k=>1<=k∧k<=29∧mopL r n (29-k) k=R) (fun k=>29-k) (1:Nat) ⟨Nat.le_refl _,(by decide:1<=29),hR.symm⟩ ?_ fun k E hk=>?_
 ·exact aZ
 obtain⟨k1,k2,k3⟩:=hk;by_cases c:k<=28
 ·obtain⟨f,hf⟩:∃f,29-k=f+1:=⟨28-k,by omega⟩
  rw[hf]at k3;unfold mopL at k3;have h4:=abd (k:Int);have hl:=sgn_len (op:=(k:Int));have h5:=ao5 r (sgnI (k:Int));unfold sgnI at h5 k3;generalize sgnB (k:Int)=s at*;generalize sgnN (k:Int)=m at*;have hw:m=n->IntKind.i64.wrap ((s.size:Int)-1)=((s.size-1:Nat):Int):=fun g=>by
   have:=hl (by omega);exact(w64 (by omega) (by omega)).trans (by omega)
  by_cases c2:m=n
  ·have hw:=hw c2;have hl:=hl (by omega);obtain⟨t,ht⟩:∃t,t=s.extract 1 (s.size-1):=⟨_,rfl⟩
   rw[<- ht]at h5 k3;cases q:r.isT t with
   | true=>
    rw[q]at h5;rw[if_pos ⟨c2,q⟩]at k3;subst k3;apply AWp.wk tF mF [(4,[(1,.tup [zR s,zI m],[])]),(5,[(10,zO true,zM r)])] asl ?_
    (repeat' with_reducible first|exact nY|refine oC ?_ ?_|refine vQ ?_ ?_ ?_|refine cV (fun _=>?_) fun _=>?_|refine wQ ?_|fail)
    all_goals(try simp only[hw,ite_self,Int.toNat_natCast,show Int.toNat 1=1 from rfl,<- ht])
    all_goals(try exact zB)
    all_goals(try(exfalso;omega))
    all_goals(try(exact absurd ‹¬m=n∨¬True› (fun g=>g.elim (fun z=>z c2) (fun z=>z trivial))))
    all_goals(try(exact absurd ‹¬m=n∨False› (fun g=>g.elim (fun z=>z c2) id)))
    all_goals exact eZ
   | false=>
    rw[q]at h5;rw[if_neg (fun g=>by rw[q]at g;exact Bool.noConfusion g.2)]at k3;apply AWp.wk tF mF [(4,[(1,.tup [zR s,zI m],[])]),(5,[(10,zO false,zM r)])] asl ?_
    (repeat' with_reducible first|exact nY|refine oC ?_ ?_|refine vQ ?_ ?_ ?_|refine cV (fun _=>?_) fun _=>?_|refine wQ ?_|fail)
    all_goals(try simp only[hw,ite_self,Int.toNat_natCast,show Int.toNat 1=1 from rfl,<- ht])
    all_goals(try exact zB)
    all_goals(try(exfalso;omega))
    all_goals(try(exact absurd ‹m=n∧False› (fun g=>g.2)))
    (all_goals(try exact eZ))
    refine dE (ι:=Nat) (Inv:=fun k=>1<=k∧k<=29∧mopL r n (29-k) k=R) (μ:=fun k=>29-k) (i:=k) (k+1) ⟨⟨by omega,by omega,by rw[show 29-(k+1)=f by omega];exact k3⟩,by omega⟩ ?_
    (focus(refine aQ ?_;repeat' first|with_reducible apply And.intro|exact wZ|fail))
    exact w64n (by omega)
  ·rw[if_neg (fun g=>c2 g.1)]at k3;apply AWp.wk tF mF [(4,[(1,.tup [zR s,zI m],[])]),(5,[(10,zO false,zM r)])] asl ?_
   (repeat' with_reducible first|exact nY|refine oC ?_ ?_|refine vQ ?_ ?_ ?_|refine cV (fun _=>?_) fun _=>?_|refine wQ ?_|fail)
   all_goals(try simp only[ite_self])
   all_goals(try exact zB)
   any_goals(refine sO (fun hg=>?_);exact absurd (by simpa using hg) c2)
   all_goals(try(exfalso;omega))
   all_goals(try(exact absurd ‹m=n∧False› (fun g=>g.2)))
   (all_goals(try exact eZ))
   refine dE (ι:=Nat) (Inv:=fun k=>1<=k∧k<=29∧mopL r n (29-k) k=R) (μ:=fun k=>29-k) (i:=k) (k+1) ⟨⟨by omega,by omega,by rw[show 29-(k+1)=f by omega];exact k3⟩,by omega⟩ ?_
   (focus(refine aQ ?_;repeat' first|with_reducible apply And.intro|exact wZ|fail))
   exact w64n (by omega)
 ·obtain rfl:k=29:=by omega
  replace k3:(0:Int)=R:=k3;subst k3;apply AWp.wk tF mF [(4,[(1,.any,[])]),(5,[(10,.any,[])])] asl ?_
  (repeat' with_reducible first|exact nY|refine oC ?_ ?_|refine vQ ?_ ?_ ?_|refine cV (fun _=>?_) fun _=>?_|refine wQ ?_|fail)
  all_goals(try(exfalso;omega))
  all_goals exact eZ
abbrev MdF:=Mr->X×Mr
def md0:MdF:=fun r=>(default,r)
def notT:ByteArray:=⟨#[110,111,116]⟩
def mchL(n:Int)(f:MdF):Nat->X->Mr->X×Mr
 | 0,x,r=>(x,r)
 | k+1,x,r=>if 0<mop r n∧r.e=0 then mchL n f k (bin (mop r n) x (f r.next).1) (f r.next).2 else(x,r)
def mch(n:Int)(f:MdF)(r:Mr):X×Mr:=if r.e≠0 then(default,r)else mchL n f ((f r).2.l.length-(f r).2.i) (f r).1 (f r).2
def mpre(op:Int)(t:ByteArray)(f:MdF)(r:Mr):X×Mr:=(.mk op 0 ⟨#[]⟩ [] [(f (r.beg t)).1],(f (r.beg t)).2.down)
def mnot(f c:MdF)(r:Mr):X×Mr:=if r.e≠0 then(default,r)else if r.isT notT=true then mpre 3 notT f r else c r
def mneg(u p:MdF)(r:Mr):X×Mr:=if r.e≠0 then(default,r)else if r.isT hyT=true∧r.neg=false then mpre 16 hyT u r else p r
def mlsL(f:MdF):Nat->List X->Mr->List X×Mr
 | 0,l,r=>(l,r)
 | k+1,l,r=>if r.isT cmT=true then mlsL f k (l++[(f r.next).1]) (f r.next).2 else(l,r)
def mls(f:MdF)(l:List X)(r:Mr):List X×Mr:=mlsL f ((f r).2.l.length-(f r).2.i) (l++[(f r).1]) (f r).2
def mcmp(E C:MdF)(r:Mr):X×Mr:=
 if r.e≠0 then(default,r)
 else if 0<mop (C r).2 4 then(bin (mop (C r).2 4) (C r).1 (C (C r).2.next).1,(C (C r).2.next).2)
 else if(C r).2.isT inT=true then(.mk 25 0 ⟨#[]⟩ [] (mls E [(C r).1] ((C r).2.next.beg lpT)).1,(mls E [(C r).1] ((C r).2.next.beg lpT)).2.end_)
 else C r
def mcwL(t:ByteArray):Nat->Int
 | 0=>0
 | k+1=>if calB ((k+1:Nat):Int)=t then((k+1:Nat):Int)else mcwL t k
def mcw(p:Tok):Int:=if p.kind=1 then mcwL p.text 28 else 0
def msep(i:Nat)(r:Mr):Mr:=if 0<i then r.expect cmT else r
def aqs(f:MdF):Nat->Nat->List X->Mr->List X×Mr
 | 0,_,l,r=>(l,r)
 | k+1,i,l,r=>aqs f k (i+1) (l++[(f (msep i r)).1]) (f (msep i r)).2
def aqG(op:Int):Nat:=if op=15 then 2 else if op=21∨op=24 then 3 else 1
def mcal(pe:ByteArray->Int)(f:MdF)(op:Int)(r:Mr):X×Mr:=
 if op=22 then(.mk 22 0 (aoA pe r).1 [] [],(aoA pe r).2)
 else if op=26 then(if(aoA pe r).2.isT cmT=true then(.mk 26 (mscl (aoA pe r).2.next).1 (aoA pe r).1 [] [],(mscl (aoA pe r).2.next).2)else(.mk 26 0 (aoA pe r).1 [] [],(aoA pe r).2))
 else if op=15 then(.mk 15 (mscl ((aqs f 2 0 [] r).2.expect cmT)).1 ⟨#[]⟩ [] (aqs f 2 0 [] r).1,(mscl ((aqs f 2 0 [] r).2.expect cmT)).2)
 else(.mk op 0 ⟨#[]⟩ [] (aqs f (aqG op) 0 [] r).1,(aqs f (aqG op) 0 [] r).2)
def aqt(pe:ByteArray->Int)(E:MdF)(r:Mr):X×Mr:=
 if r.isT lpT=true then((E (r.beg lpT)).1,(E (r.beg lpT)).2.end_)
 else if r.peek.kind=1∧resB r.peek.text=false then(.mk 2 0 (aoA pe r).1 [] [],(aoA pe r).2)
 else if mcw r.peek=0 then(.mk 1 0 ⟨#[]⟩ [(mval r).1] [],(mval r).2)
 else((mcal pe E (mcw r.peek) (r.next.beg lpT)).1,(mcal pe E (mcw r.peek) (r.next.beg lpT)).2.end_)
def mL8(pe:ByteArray->Int)(E U:MdF):MdF:=mneg U (aqt pe E)
def mL5(pe:ByteArray->Int)(E U:MdF):MdF:=mch 5 (mch 6 (mch 7 (mL8 pe E U)))
def mL3(pe:ByteArray->Int)(E N U:MdF):MdF:=mnot N (mcmp E (mL5 pe E U))
def mL1(pe:ByteArray->Int)(E N U:MdF):MdF:=mch 1 (mch 2 (mL3 pe E N U))
def mrec(pe:ByteArray->Int):Nat->MdF×MdF×MdF
 | 0=>(mL1 pe md0 md0 md0,mL3 pe md0 md0 md0,mL8 pe md0 md0)
 | n+1=>(mL1 pe (mrec pe n).1 (mrec pe n).2.1 (mrec pe n).2.2,mL3 pe (mrec pe n).1 (mrec pe n).2.1 (mrec pe n).2.2,mL8 pe (mrec pe n).1 (mrec pe n).2.2)
structure OkM(k:Nat)(r:Mr):Prop where
 i:r.i<=r.l.length
 len:r.l.length<=65537
 o0 : -1<=r.o
 o1:r.o<=33
 lv:r.e≠0∨(0<=r.o∧r.o<=32∧33<=(k:Int)+r.o)
 tk:∀t∈r.l,PlTok t
 nn:∀t∈r.l,t.kind=2->0<=t.num
structure MGo(r r':Mr):Prop where
 l:r'.l=r.l
 i:r.i<=r'.i
 il:r.i<=r.l.length->r'.i<=r.l.length
 er:r.e≠0->r'.e≠0
 oz:r'.e=0->r'.o=r.o
 ob:r.e≠0->r'.o=r.o
 ol:r.o-1<=r'.o
 oh:r'.o<=r.o
def MGo.of{r r':Mr}(l:r'.l=r.l)(i:r.i<=r'.i)(il:r.i<=r.l.length->r'.i<=r.l.length)(er:r.e≠0->r'.e≠0)(o:r'.o=r.o):MGo r r':=⟨l,i,il,er,fun _=>o,fun _=>o,by omega,by omega⟩
def MGo.refl(r:Mr):MGo r r:=.of rfl (Nat.le_refl _) id id rfl
def MGo.trans{a b c:Mr}(h:MGo a b)(g:MGo b c):MGo a c:=by
 refine⟨g.l.trans h.l,Nat.le_trans h.i g.i,fun q=>?_,fun q=>g.er (h.er q),fun q=>?_,fun q=>(g.ob (h.er q)).trans (h.ob q),?_,Int.le_trans g.oh h.oh⟩
 ·have:=g.il (by rw[h.l];exact h.il q);rw[h.l]at this;exact this
 ·have hb:b.e=0:=Classical.byContradiction fun k=>g.er k q;exact(g.oz q).trans (h.oz hb)
 ·have h1:=h.ol;have h2:=g.ol;by_cases hb:b.e=0
  ·have:=h.oz hb;omega
  ·have:=g.ob hb;omega
def MGo.next(r:Mr):MGo r r.next:=by
 refine .of (Mr.anR r) ?_ Mr.aop ?_ ?_<;>(unfold Mr.next;split)
 ·exact Nat.le_succ _
 ·exact Nat.le_refl _
 ·exact id
 ·exact id
 ·rfl
 ·rfl
def MGo.fail(r:Mr)(e:Int):MGo r (r.fail e):=by
 unfold Mr.fail;split
 ·rename_i q;exact .of rfl (Nat.le_refl _) id (fun h=>absurd q.1 h) rfl
 ·exact .refl r
def MGo.expect(r:Mr)(t:ByteArray):MGo r (r.expect t):=by
 unfold Mr.expect;split
 ·exact .next r
 ·exact .fail r _
def OkM.go{k:Nat}{r r':Mr}(h:OkM k r)(g:MGo r r'):OkM k r':=by
 have o0:=h.o0;have o1:=h.o1;have g1:=g.ol;have g2:=g.oh;refine⟨by rw[g.l];exact g.il h.i,by rw[g.l];exact h.len,?_,by omega,?_,by rw[g.l];exact h.tk,by rw[g.l];exact h.nn⟩
 ·by_cases q2:r.e=0
  ·obtain⟨v1,v2,v3⟩:=h.lv.resolve_left (fun k=>k q2);omega
  ·have:=g.ob q2;omega
 ·by_cases q:r'.e=0
  ·have q2:r.e=0:=Classical.byContradiction fun k=>g.er k q;obtain⟨v1,v2,v3⟩:=h.lv.resolve_left (fun k=>k q2);have:=g.oz q;exact .inr ⟨by omega,by omega,by omega⟩
  ·exact .inl q
structure MBeg(r a:Mr):Prop where
 l:a.l=r.l
 i:r.i<=a.i
 il:r.i<=r.l.length->a.i<=r.l.length
 oz:a.e=0->a.o=r.o+1∧r.o≠32
 ob:a.e≠0->a.o=r.o
def Mr.aor{r:Mr}{e:Int}(h:r.e=0)(he:e≠0):(r.fail e).e≠0∧(r.fail e).o=r.o:=by
 unfold Mr.fail;rw[if_pos ⟨h,he⟩];exact⟨he,rfl⟩
def Mr.aoD(r:Mr):r.next.e=r.e:=by unfold Mr.next;split<;>rfl
def Mr.next_o(r:Mr):r.next.o=r.o:=by unfold Mr.next;split<;>rfl
def MBeg.of{r:Mr}(t:ByteArray)(h:r.e=0):MBeg r (r.beg t):=by
 have bad:∀e,e≠0->MBeg r (r.fail e):=fun e he=>by
  have g:=MGo.fail r e;obtain⟨h1,h2⟩:=Mr.aor h he;exact⟨g.l,g.i,g.il,fun q=>absurd q h1,fun _=>h2⟩
 unfold Mr.beg;split
 ·split
  ·exact bad 23 (by decide)
  ·rename_i q;have g:=MGo.next (r.op (r.o+1));have e1:(r.op (r.o+1)).next.e=0:=(Mr.aoD _).trans h;exact⟨g.l,g.i,g.il,fun _=>⟨Mr.next_o _,q⟩,fun z=>absurd e1 z⟩
 ·exact bad 13 (by decide)
def OkM.beg{k:Nat}{r a:Mr}(h:OkM k r)(h0:r.e=0)(g:MBeg r a):∃j,k=j+1∧OkM j a:=by
 obtain⟨v1,v2,v3⟩:=h.lv.resolve_left (fun k=>k h0);obtain⟨j,rfl⟩:∃j,k=j+1:=⟨k-1,by omega⟩
 refine⟨j,rfl,by rw[g.l];exact g.il h.i,by rw[g.l];exact h.len,?_,?_,?_,by rw[g.l];exact h.tk,by rw[g.l];exact h.nn⟩<;>by_cases q:a.e=0
 ·have:=g.oz q;omega
 ·have:=g.ob q;omega
 ·have:=g.oz q;omega
 ·have:=g.ob q;omega
 ·have:=g.oz q;exact .inr ⟨by omega,by omega,by omega⟩
 ·exact .inl q
def MGo.down{r a b:Mr}(h0:r.e=0)(g:MBeg r a)(h:MGo a b):MGo r b.down:=by
 have e1:b.down.o=b.o-1:=rfl;have e2:b.down.e=b.e:=rfl;have h1:=h.ol;have h2:=h.oh;refine⟨(show b.down.l=b.l from rfl).trans (h.l.trans g.l),Nat.le_trans g.i h.i,fun q=>?_,fun q=>absurd h0 q,fun q=>?_,fun q=>absurd h0 q,?_,?_⟩
 ·have:=h.il (by rw[g.l];exact g.il q);rw[g.l]at this;exact this
 ·rw[e2]at q;have ha:a.e=0:=Classical.byContradiction fun k=>h.er k q;have:=h.oz q;have:=(g.oz ha).1;omega
 ·by_cases ha:a.e=0
  ·have:=(g.oz ha).1;omega
  ·have:=g.ob ha;have:=h.ob ha;omega
 ·by_cases ha:a.e=0
  ·have:=(g.oz ha).1;omega
  ·have:=g.ob ha;have:=h.ob ha;omega
def MGo.end_{r a b:Mr}(h0:r.e=0)(g:MBeg r a)(h:MGo a b):MGo r b.end_:=MGo.down h0 g (h.trans (.expect b _))
def X.dep:Nat->X->Prop
 | 0,_=>False
 | d+1,x=>∀y∈x.args,X.dep d y
theorem X.dep_up:∀{d:Nat} {x:X},X.dep d x->X.dep (d+1) x
 | 0,_,h=>h.elim
 | _+1,_,h=>fun y hy=>X.dep_up (h y hy)
def X.aqo{c d:Nat}{x:X}(h:X.dep c x)(hd:c<=d):X.dep d x:=by
 induction hd with
 | refl=>exact h
 | step _ ih=>exact X.dep_up ih
def X.dep_arg{d:Nat}{x:X}(h:X.dep (d+1) x){i:Nat}(hi:i<x.args.length):X.dep d (x.args.getD i default):=by
 have:x.args.getD i default=x.args[i]:=by simp[List.getD,hi]
 rw[this];exact h _ (List.getElem_mem hi)
def aqE{e:Nat}:∀(c:Nat) (x:Unit->X),X.dep c (x ())->∀d d',c<=d->c<=d'->LeL (aa8 e d .any x) (aa8 e d' .any x):=by
 have key:∀(c:Nat) (x:Unit->X),X.dep c (x ())->∀d d',c<=d->c<=d'->∀(w:World) (D:Nat->Prop) (B j:Nat) (av av':AV) (u:Value),(aa8 e d .any x)[j]? = some av->(aa8 e d' .any x)[j]? = some av'->RD w D B av u->RD w D B av' u:=by
  intro c
  induction c with
  | zero=>intro x hx;exact hx.elim
  | succ c ih=>
   intro x hx d d' hd hd' w D B j av av' u h1 h2 h;obtain⟨d,rfl⟩:∃k,d=k+1:=⟨d-1,by omega⟩
   obtain⟨d',rfl⟩:∃k,d'=k+1:=⟨d'-1,by omega⟩
   match j with
   | 0|1|2|3=>simp[aa8,abG]at h1 h2;subst h1;subst h2;exact h
   | 4=>
    simp[aa8,abG]at h1 h2;subst h1;subst h2;exact am0 h rfl fun i hi=>⟨rfl,fun _=>rfl,fun w D B j av av' u h1 h2 h=>ih _ (X.dep_arg hx hi) d d' (by omega) (by omega) w D B j av av' u h1 h2 h⟩
   | n+5=>simp[aa8,abG]at h1
 exact fun c x hx d d' hd hd'=>⟨rfl,fun _=>rfl,fun w D B j av av' u h1 h2 h=>key c x hx d d' hd hd' w D B j av av' u h1 h2 h⟩
def aqH{e D:Nat}(z:X)(l:List X)(hz:z.args=l)(hx:∀x∈l,X.dep D x):∀i,i<l.length->LeL (aaL (l.map fun x=>aa8 e (D+1) .any fun _=>x) fun _=>i) (subX e (D+1) .any (fun _=>z) fun _=>i):=by
 intro i hi;have e1:(aaL (l.map fun x=>aa8 e (D+1) .any fun _=>x) fun _=>i)=aa8 e (D+1) .any fun _=>l.getD i default:=by
  unfold aaL;simp[List.getD,hi]
 rw[e1];show LeL _ (aa8 e D .any fun _=>z.args.getD i default);rw[hz];refine aqE D (fun _=>l.getD i default) (hx _ ?_) (D+1) D (by omega) (Nat.le_refl _);rw[show l.getD i default=l[i] by simp[List.getD,hi]];exact List.getElem_mem hi
def arl{c:Nat}{x y:X}(o:Int)(hx:X.dep c x)(hy:X.dep c y):X.dep (c+1) (bin o x y):=fun z hz=>by
 rcases List.mem_cons.1 hz with rfl|hz
 ·exact hx
 ·rcases List.mem_cons.1 hz with rfl|hz
  ·exact hy
  ·cases hz
def arj{c:Nat}{l:List X}{op n:Int}{t:ByteArray}{v:List V}(h:∀y∈l,X.dep c y):X.dep (c+1) (.mk op n t v l):=h
def arZ{c:Nat}{x:X}{op n:Int}{t:ByteArray}{v:List V}(h:X.dep c x):X.dep (c+1) (.mk op n t v [x]):=fun y hy=>by rw[List.mem_singleton.1 hy];exact h
def aqU{c:Nat}{op n:Int}{t:ByteArray}{v:List V}:X.dep (c+1) (.mk op n t v []):=fun y hy=>by cases hy
def ark{c:Nat}:X.dep (c+1) default:=aqU
structure SzX(x:X):Prop where
 t:x.text.size<=100000000000
 v:x.value.length<=1
 s:∀v∈x.value,V.le 1 v∧kz v=[]∧v.kind<=7
 a:x.args.length<=70000
def X.small(x:X):Prop:=∀k,X.all SzX k x
def X.aqS{op n:Int}{t:ByteArray}{v:List V}{l:List X}(h:SzX (.mk op n t v l))(hl:∀y∈l,X.small y):X.small (.mk op n t v l):=fun k=>by
 cases k with
 | zero=>trivial
 | succ k=>exact⟨h,fun y hy=>hl y hy k⟩
def arD{op n:Int}{l:List X}(h1:l.length<=70000)(hl:∀y∈l,X.small y):X.small (.mk op n ⟨#[]⟩ [] l):=X.aqS ⟨Nat.zero_le _,Nat.zero_le _,fun v hv=>(by cases hv),h1⟩ hl
def one_sm{op n:Int}{x:X}(hx:x.small):X.small (.mk op n ⟨#[]⟩ [] [x]):=arD (by decide:1<=70000) fun y hy=>by rw[List.mem_singleton.1 hy];exact hx
def bin_sm{x y:X}(o:Int)(hx:x.small)(hy:y.small):X.small (bin o x y):=arD (by decide:2<=70000) fun z hz=>by
 rcases List.mem_cons.1 hz with rfl|hz
 ·exact hx
 ·rw[List.mem_singleton.1 hz];exact hy
def aqY{op n:Int}{t:ByteArray}(ht:t.size<=100000000000):X.small (.mk op n t [] []):=X.aqS ⟨ht,Nat.zero_le _,fun v hv=>(by cases hv),Nat.zero_le _⟩ fun y hy=>by cases hy
def def_sm:X.small default:=aqY (Nat.zero_le _)
structure MPost(r:Mr)(q:X×Mr):Prop where
 g:MGo r q.2
 x:X.dep (2+(q.2.i-r.i)) q.1
 w:q.1.small
def MPost.bad(r:Mr):MPost r (default,r):=⟨.refl r,X.aqo (ark (c:=0)) (by omega),def_sm⟩
theorem ar5{r:Mr}{n:Int}:∀(f k:Nat),0<mopL r n f k->r.peek.kind≠0
 | 0,k,h=>absurd h (by unfold mopL;decide)
 | f+1,k,h=>by
  unfold mopL at h;split at h
  ·rename_i q;exact(Mr.ab7 q.2).1
  ·exact ar5 f (k+1) h
def MB(f:MdF):Prop:=∀m,m.e≠0->f m=(default,m)
def MB.s{f:MdF}(h:MB f){m:Mr}(he:m.e≠0):(f m).2=m:=by rw[h m he]
def aqO(n:Int)(f:MdF):MB (mch n f):=fun m h=>by unfold mch;rw[if_pos h]
def arz(f c:MdF):MB (mnot f c):=fun m h=>by unfold mnot;rw[if_pos h]
def arA(f c:MdF):MB (mneg f c):=fun m h=>by unfold mneg;rw[if_pos h]
def arC(f c:MdF):MB (mcmp f c):=fun m h=>by unfold mcmp;rw[if_pos h]
def mch_post{k:Nat}{n:Int}{f:MdF}(hf:∀r,OkM k r->MPost r (f r)){r0:Mr}(h0:OkM k r0):MPost r0 (mch n f r0):=by
 unfold mch;by_cases q:r0.e≠0
 ·rw[if_pos q];exact .bad r0
 rw[if_neg q];have key:∀(m:Nat) (x:X) (r:Mr),OkM k r->MGo r0 r->X.dep (2+(r.i-r0.i)) x->x.small->MPost r0 (mchL n f m x r):=by
  intro m
  induction m with
  | zero=>exact fun x r _ g hx hw=>⟨g,hx,hw⟩
  | succ m ih=>
   intro x r hr g hx hw;simp only[mchL];split
   ·rename_i c;have hk:=ar5 28 1 c.1;obtain⟨i1,i2⟩:=Mr.aot hk;have gn:=MGo.next r;have p:=hf _ (hr.go gn);have g2:=g.trans (gn.trans p.g);refine ih _ _ ((hr.go gn).go p.g) g2 ?_ (bin_sm _ hw p.w);have gi:=g.i;have pi:=p.g.i;refine X.aqo (arl _ (X.aqo hx (Nat.le_max_left _ (2+((f r.next).2.i-r.next.i)))) (X.aqo p.x (Nat.le_max_right _ _))) ?_;omega
   ·exact⟨g,hx,hw⟩
 have p:=hf r0 h0;exact key _ _ _ (h0.go p.g) p.g p.x p.w
end Go.Ai
