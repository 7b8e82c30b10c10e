/- Chapter 17's model: chains of operands. -/
import Derived.Test.YtbagpkiomjlhkaaGreatDoorLvA
set_option linter.all false
namespace Go.Ai
open Go Go.Proofs
set_option maxRecDepth 100000
set_option maxHeartbeats 4000000
def MLv(e D k:Nat)(n:Int)(F:MdF):Prop:=∀r,OkM k r->MPost r (F r) ∧
 Af Tryz.prog 64 [.ptr 1000 0,.int .i64 fun _=>n] [(1000,boxM r)] (encX e D .any fun _=>(F r).1) [(1000,boxM (F r).2)]
def aqI(e D:Nat)(n:Int)(r:Mr)(h:r.e≠0):Af Tryz.prog 64 [.ptr 1000 0,.int .i64 fun _=>n] [(1000,boxM r)] (encX (e+1) (D+1) .any fun _=>default) [(1000,boxM r)]:=by
 (refine fA [.cell 4 25] kp64 [] Tryz.func64 fun _=>?_;repeat' with_reducible first|exact⟨⟩|refine mA ?_ ?_|refine mC (fun _=>?_) fun _=>?_)
 all_goals(try(exact absurd ‹r.e=0› h))
 (all_goals(try exact eZ))
 all_goals trace_state
abbrev McI:=Nat×X×Mr×Int
def mchI(e D:Nat)(n:Int)(q:McI):SS:=
 ⟨141,[(12,.int .i64 fun _=>q.2.2.2),(11,.ptr 11 0),(1,.int .i64 fun _=>n),(0,.ptr 1000 0),(4,.ptr 4 0)],
  [(1000,boxM q.2.2.1),(4,.box [.int .i64 fun _=>0,.int .i64 fun _=>0,.str fun _=>⟨#[]⟩,.nil,.nil]),(11,.box (aa8 e D .any fun _=>q.2.1))]⟩
def aqr{e D k:Nat}(hD:65600<=D){n:Int}(hn:1<=n∧n<=7∧n≠3∧n≠4){f:MdF}(hf:MLv (e+1) D k (n+1) f):MLv (e+1) D k n (mch n f):=fun r h=>by
 refine⟨mch_post (fun r h=>(hf r h).1) h,?_⟩;obtain⟨D,rfl⟩:∃d,D=d+1:=⟨D-1,by omega⟩
 unfold mch;by_cases q:r.e≠0
 ·rw[if_pos q];exact aqI e D n r q
 rw[if_neg q];have q:r.e=0:=Classical.byContradiction q;obtain⟨p1,c1⟩:=hf r h;have h1:=h.go p1.g;obtain⟨Z,hZ⟩:∃Z,Z=mchL n f ((f r).2.l.length-(f r).2.i) (f r).1 (f r).2:=⟨_,rfl⟩
 rw[<- hZ];have hi0:=h.i;have hl0:=h.len;have gl:=p1.g.l;have p1i:=p1.g.i;have p1x:=p1.x;generalize f r=q0 at*;obtain⟨x0,r1⟩:=q0;dsimp only at*;have c2:=ar4 r1 n hn.1;have hw:IntKind.i64.wrap (n+1)=n+1:=w64 (by omega) (by omega);obtain⟨o1,ho1⟩:∃o,o=mop r1 n:=⟨_,rfl⟩
 rw[<- ho1]at c2
 (apply Af.of tF mF [.cell 4 25] kp64 [(34,[(3,encX (e+1) (D+1) .any fun _=>x0,zM r1)]),(35,[(2,zI o1,zM r1)]),(7,[(1,.any,[])]),(10,[(1,.any,[])]),(12,[(1,.any,[])]),(30,[(1,.any,[])]),(33,[(1,.any,[])])] Tryz.func64 (fun _=>?_);(repeat' with_reducible first|exact nY|refine oC ?_ ?_|refine vQ ?_ ?_ ?_|refine cV (fun _=>?_) fun _=>?_|refine wQ ?_|fail))
 all_goals(try simp only[hw])
 all_goals(try exact zB)
 all_goals(try(exfalso;omega))
 (all_goals(try exact eZ))
 refine .loop (mchI (e+1) (D+1) n) (fun q=>mchL n f q.1 q.2.1 q.2.2.1=Z∧OkM k q.2.2.1∧q.2.2.1.l=r.l∧q.2.2.1.l.length-q.2.2.1.i<=q.1∧q.2.2.2=mop q.2.2.1 n∧X.dep (2+(q.2.2.1.i-r.i)) q.2.1∧r.i<=q.2.2.1.i)
  (fun q=>q.1) (r1.l.length-r1.i,x0,r1,o1) ⟨hZ.symm,h1,gl,Nat.le_refl _,ho1,p1x,p1i⟩ ?_ fun q E hq=>?_
 ·unfold mchI
  exact aZ
 clear c1 c2 p1 hZ h1 ho1 p1x p1i gl;obtain⟨m,x,z,o⟩:=q;obtain⟨g1,g2,g3,g4,g5,g6,g7⟩:=hq;dsimp only at g1 g2 g3 g4 g5 g6 g7;unfold mchI;dsimp only;have zi:=g2.i;have zl:z.l.length=r.l.length:=by rw[g3]
 by_cases c:0<o∧z.e=0
 ·have hk:z.peek.kind≠0:=ar5 28 1 (by rw[g5]at c;exact c.1);obtain⟨i1,i2⟩:=Mr.aot hk;obtain⟨m,rfl⟩:∃j,m=j+1:=⟨m-1,by omega⟩
  simp only[mchL]at g1;rw[if_pos (by rw[<- g5];exact c),<- g5]at g1;have gn:=MGo.next z;have h2:=g2.go gn;obtain⟨p2,c3⟩:=hf z.next h2;have h3:=h2.go p2.g;have c4:=anU z (by omega);have p2i:=p2.g.i;have p2l:=p2.g.l.trans gn.l;have p2x:=p2.x;generalize f z.next=u at*;obtain⟨y,z2⟩:=u;dsimp only at*;have z2i:=h3.i;rw[p2l]at z2i;have c5:=ar4 z2 n hn.1;obtain⟨o2,ho2⟩:∃o2,o2=mop z2 n:=⟨_,rfl⟩
  rw[<- ho2]at c5;clear p2 gn h2 hf;generalize z.next=zn at*;generalize z.peek=pk at*;apply AWp.wk tF mF [(38,[(1,zK pk,zM zn)]),(39,[(5,encX (e+1) (D+1) .any fun _=>y,zM z2)]),(37,[(2,zI o2,zM z2)])] kp64 ?_
  (repeat' with_reducible first|exact nY|refine oC ?_ ?_|refine vQ ?_ ?_ ?_|refine cV (fun _=>?_) fun _=>?_|refine wQ ?_|fail)
  all_goals(try simp only[hw])
  all_goals(try exact zB)
  (all_goals(try exact eZ))
  all_goals(try(exact absurd c ‹_›))
  refine dE (ι:=McI) (μ:=fun q=>q.1) (i:=(m+1,x,z,o)) (I:=mchI (e+1) (D+1) n) (m,bin o x y,z2,o2) ?_ ?_
  ·refine⟨⟨g1,h3,p2l.trans g3,?_,ho2,?_,?_⟩,Nat.lt_succ_self m⟩
   ·dsimp only;rw[p2l];omega
   ·dsimp only;refine X.aqo (arl o (X.aqo g6 (Nat.le_max_left _ (2+(z2.i-zn.i)))) (X.aqo p2x (Nat.le_max_right _ _))) ?_;omega
   ·dsimp only;omega
  unfold mchI
  (focus(refine aQ ?_;repeat' first|with_reducible apply And.intro|exact wZ|fail))
  exact aqH (bin o x y) [x,y] rfl (fun v hv=>by
   rcases List.mem_cons.1 hv with rfl|hv
   ·exact X.aqo g6 (by omega)
   ·rw[List.mem_singleton.1 hv];exact X.aqo p2x (by omega))
 ·have hZ2:Z=(x,z):=by
   rw[<- g1];cases m with
   | zero=>rfl
   | succ m=>simp only[mchL];rw[if_neg (by rw[<- g5];exact c)]
  rw[hZ2];apply AWp.wk tF mF [] kp64 ?_
  (repeat' with_reducible first|exact nY|refine oC ?_ ?_|refine vQ ?_ ?_ ?_|refine cV (fun _=>?_) fun _=>?_|refine wQ ?_|fail)
  all_goals(try(exact absurd ‹0<o∧z.e=0› c))
  all_goals exact eZ
def ar2{k:Nat}{u:MdF}(hu:∀j,k=j+1->∀r,OkM j r->MPost r (u r))(ub:MB u)(op:Int)(t:ByteArray){r:Mr}(h:OkM k r)(h0:r.e=0)(ht:r.isT t=true):MPost r (mpre op t u r):=by
 have b:=MBeg.of t h0;obtain⟨j,rfl,g⟩:=h.beg h0 b;have p:=hu j rfl _ g;unfold mpre;refine⟨MGo.down h0 b p.g,?_,one_sm p.w⟩;show X.dep (2+((u (r.beg t)).2.i-r.i)) _;have i1:=b.i;have i2:=p.g.i;by_cases q:(r.beg t).e=0
 ·have i3:(r.beg t).i=r.i+1:=by
   unfold Mr.beg at q ⊢;rw[if_pos ht]at q ⊢;by_cases z:r.o=32
   ·rw[if_pos z]at q;exact absurd q (Mr.aor h0 (by decide)).1
   ·rw[if_neg z];exact(Mr.aot (r:=r.op (r.o+1)) (by rw[Mr.op_peek];exact(Mr.ab7 ht).1)).1
  exact X.aqo (arZ p.x) (by omega)
 ·have e1:(u (r.beg t)).1=default:=by rw[ub _ q]
  rw[e1];exact X.aqo (arZ (ark (c:=0))) (by omega)
def ase{j:Nat}{a r2:Mr}(g:OkM j a)(p:MGo a r2):IntKind.i64.wrap (r2.o-1)=r2.o-1:=by
 have o0:=(g.go p).o0;have o1:=(g.go p).o1;exact w64 (by omega) (by omega)
def arX{k D:Nat}{u:MdF}{op:Int}{t:ByteArray}{r:Mr}(hP:MPost r (mpre op t u r))(h:OkM k r)(hD:65600<=D+1):X.dep D (u (r.beg t)).1:=by
 have h1:=hP.x;have h2:=hP.g.il h.i;have h3:=h.len;have h4:X.dep (D+1) (mpre op t u r).1:=X.aqo h1 (by omega);exact h4 _ (List.mem_singleton.2 rfl)
def as9{e D k:Nat}(hD:65600<=D){N C:MdF}(hN:∀j,k=j+1->MLv (e+1) D j 3 N)(Nb:MB N)(hC:MLv (e+1) D k 4 C):MLv (e+1) D k 3 (mnot N C):=fun r h=>by
 obtain⟨D,rfl⟩:∃d,D=d+1:=⟨D-1,by omega⟩
 unfold mnot;by_cases q:r.e≠0
 ·rw[if_pos q];exact⟨.bad r,aqI e D 3 r q⟩
 rw[if_neg q];have q:r.e=0:=Classical.byContradiction q;have h1:=ao5 r notT;have hl:=h.len;have hi:=h.i;unfold notT at h1;by_cases c:r.isT notT=true
 ·rw[if_pos c];have hP:=ar2 (fun j hj r h=>(hN j hj r h).1) Nb 3 notT h q c;refine⟨hP,?_⟩;have b:=MBeg.of notT q;obtain⟨j,rfl,g⟩:=h.beg q b;obtain⟨p,c2⟩:=hN j rfl _ g;have h2:=aqP r notT (by omega) ⟨by have:=h.o0;omega,by have:=h.o1;omega⟩;have hw:=ase g p.g;have hx:=arX hP h hD;unfold mpre at hx ⊢;unfold notT at*;rw[c]at h1;generalize r.beg ⟨#[110,111,116]⟩=a at*;generalize N a=u at*;clear hP p b g hN hC Nb;obtain⟨x,r2⟩:=u;dsimp only at*
  (apply Af.of tF mF [.cell 4 25] kp64 [(5,[(1,zO true,zM r)]),(6,[(1,zT,zM a)]),(7,[(1,encX (e+1) (D+1) .any fun _=>x,zM r2)]),(10,[(1,.any,[])]),(12,[(1,.any,[])]),(30,[(1,.any,[])]),(33,[(1,.any,[])]),(34,[(3,.any,[])])] Tryz.func64 (fun _=>?_);(repeat' with_reducible first|exact nY|refine oC ?_ ?_|refine vQ ?_ ?_ ?_|refine cV (fun _=>?_) fun _=>?_|refine wQ ?_|fail))
  all_goals(try simp only[hw])
  all_goals(try exact zB)
  all_goals(try(exact absurd q ‹¬r.e=0›))
  (all_goals try first|exact eZ|with_reducible (refine rQ ?_;repeat' first|apply And.intro|exact wZ)|(refine sQ ?_;repeat' first|with_reducible apply And.intro|exact cZ))
  all_goals(try rfl)
  all_goals exact aqH _ [x] rfl (fun y hy=>by rw[List.mem_singleton.1 hy];exact hx)
 ·rw[if_neg c];obtain⟨p,c2⟩:=hC r h;refine⟨p,?_⟩;have c:r.isT ⟨#[110,111,116]⟩=false:=by simpa[notT]using c
  rw[c]at h1;generalize C r=u at*;obtain⟨x,r2⟩:=u;dsimp only at*
  (apply Af.of tF mF [.cell 4 25] kp64 [(5,[(1,zO false,zM r)]),(6,[(1,.any,[])]),(7,[(1,.any,[])]),(10,[(1,encX (e+1) (D+1) .any fun _=>x,zM r2)]),(12,[(1,.any,[])]),(30,[(1,.any,[])]),(33,[(1,.any,[])]),(34,[(3,.any,[])])] Tryz.func64 (fun _=>?_);(repeat' with_reducible first|exact nY|refine oC ?_ ?_|refine vQ ?_ ?_ ?_|refine cV (fun _=>?_) fun _=>?_|refine wQ ?_|fail))
  all_goals(try exact zB)
  all_goals(try(exact absurd q ‹¬r.e=0›))
  all_goals exact eZ
def MPr(e D k:Nat)(F:MdF):Prop:=∀r,OkM k r->r.e=0->MPost r (F r) ∧
 Af Tryz.prog 118 [.ptr 1000 0] [(1000,boxM r)] (encX e D .any fun _=>(F r).1) [(1000,boxM (F r).2)]
def asa{e D k:Nat}(hD:65600<=D){U Pm:MdF}(hU:∀j,k=j+1->MLv (e+1) D j 8 U)(Ub:MB U)(hP:MPr (e+1) D k Pm):MLv (e+1) D k 8 (mneg U Pm):=fun r h=>by
 obtain⟨D,rfl⟩:∃d,D=d+1:=⟨D-1,by omega⟩
 unfold mneg;by_cases q:r.e≠0
 ·rw[if_pos q];exact⟨.bad r,aqI e D 8 r q⟩
 rw[if_neg q];have q:r.e=0:=Classical.byContradiction q;have h1:=ao5 r hyT;have hl:=h.len;have hi:=h.i;have h0:=apE r (by omega);obtain⟨bb,hbb⟩:∃bb,bb=r.isT hyT:=⟨_,rfl⟩
 have hc:(r.isT hyT=true∧r.neg=false)↔(bb=true∧(¬r.behind.kind=2∨r.behind.joined=false)):=by
  rw[hbb];unfold Mr.neg;cases r.isT hyT<;>cases r.behind.joined<;>simp
 unfold hyT at h1 hbb;rw[<- hbb]at h1;by_cases c:r.isT hyT=true∧r.neg=false
 ·rw [if_pos c];have hp:=ar2 (fun j hj r h=>(hU j hj r h).1) Ub 16 hyT h q c.1;refine⟨hp,?_⟩;have b:=MBeg.of hyT q;obtain⟨j,rfl,g⟩:=h.beg q b;obtain⟨p,c2⟩:=hU j rfl _ g;have h2:=aqP r hyT (by omega) ⟨by have:=h.o0;omega,by have:=h.o1;omega⟩;have hw:=ase g p.g;have hx:=arX hp h hD;have c:=hc.1 c;clear hc hP;unfold mpre at hx ⊢;generalize r.behind=bh at*;unfold hyT at*;generalize r.beg ⟨#[45]⟩=a at*;generalize U a=u at*;clear hp p b g hU Ub;obtain⟨x,r2⟩:=u;dsimp only at*;have hcn:¬(bb=false∨bh.kind=2∧bh.joined=true):=by
   obtain⟨c1,c2⟩:=c;rw[c1];rintro(g|g)
   ·cases g
   ·rcases c2 with z|z
    ·exact z g.1
    ·rw[g.2]at z;cases z
  (apply Af.of tF mF [.cell 4 25] kp64 [(27,[(1,zK bh,zM r)]),(28,[(1,zO bb,zM r)]),(29,[(1,zT,zM a)]),(30,[(1,encX (e+1) (D+1) .any fun _=>x,zM r2)]),(5,[(1,.any,[])]),(12,[(1,.any,[])]),(33,[(1,.any,[])]),(34,[(3,.any,[])])] Tryz.func64 (fun _=>?_);(repeat' with_reducible first|exact nY|refine oC ?_ ?_|refine vQ ?_ ?_ ?_|refine cV (fun _=>?_) fun _=>?_|refine wQ ?_|fail))
  all_goals(try simp only[hw])
  all_goals(try exact zB)
  all_goals(try(exact absurd q ‹¬r.e=0›))
  all_goals(try(exfalso;omega))
  all_goals(try(exact absurd ‹bb=false∨bh.kind=2∧bh.joined=true› hcn))
  (all_goals try first|exact eZ|with_reducible (refine rQ ?_;repeat' first|apply And.intro|exact wZ)|(refine sQ ?_;repeat' first|with_reducible apply And.intro|exact cZ))
  all_goals(try rfl)
  all_goals(try exact aqH _ [x] rfl (fun y hy=>by rw[List.mem_singleton.1 hy];exact hx))
 ·rw[if_neg c];obtain⟨p,c2⟩:=hP r h q;refine⟨p,?_⟩;have c:=fun z=>c (hc.2 z);clear hc hP;generalize r.behind=bh at*;generalize Pm r=u at*;obtain⟨x,r2⟩:=u;dsimp only at*
  (apply Af.of tF mF [.cell 4 25] kp64 [(27,[(1,zK bh,zM r)]),(28,[(1,zO bb,zM r)]),(29,[(1,.any,[])]),(30,[(1,.any,[])]),(5,[(1,.any,[])]),(12,[(1,.any,[])]),(33,[(1,encX (e+1) (D+1) .any fun _=>x,zM r2)]),(34,[(3,.any,[])])] Tryz.func64 (fun _=>?_);(repeat' with_reducible first|exact nY|refine oC ?_ ?_|refine vQ ?_ ?_ ?_|refine cV (fun _=>?_) fun _=>?_|refine wQ ?_|fail))
  all_goals(try exact zB)
  all_goals(try(exact absurd q ‹¬r.e=0›))
  all_goals(try(exfalso;omega))
  all_goals(try(exact absurd ‹bb=true∧(¬bh.kind=2∨bh.joined=false)› c))
  all_goals exact eZ
theorem ar7{k:Nat}{f:MdF}(hf:∀r,OkM k r->MPost r (f r))(a:Mr):∀(n:Nat) (l:List X) (r:Mr),OkM k r->MGo a r->(∀y∈l,X.dep (2+(r.i-a.i)) y∧y.small)->l.length<=2+(r.i-a.i) ->
 MGo a (mlsL f n l r).2∧(∀y∈(mlsL f n l r).1,X.dep (2+((mlsL f n l r).2.i-a.i)) y∧y.small)∧(mlsL f n l r).1.length<=2+((mlsL f n l r).2.i-a.i)
 | 0,l,r,_,g,hl,hn=>⟨g,hl,hn⟩
 | n+1,l,r,h,g,hl,hn=>by
  simp only[mlsL];split
  ·rename_i hc;have i1:=(Mr.aot (Mr.ab7 hc).1).1;have gn:=MGo.next r;have p:=hf _ (h.go gn);have gi:=g.i;have ni:=gn.i;have pi:=p.g.i;refine ar7 hf a n _ _ ((h.go gn).go p.g) (g.trans (gn.trans p.g)) (fun y hy=>?_) (by rw[List.length_append];show l.length+1<=_;omega);rcases List.mem_append.1 hy with hy|hy
   ·exact⟨X.aqo (hl y hy).1 (by omega),(hl y hy).2⟩
   ·rw[List.mem_singleton.1 hy];exact⟨X.aqo p.x (by omega),p.w⟩
  ·exact⟨g,hl,hn⟩
def mls_post{k:Nat}{f:MdF}(hf:∀r,OkM k r->MPost r (f r))(a:Mr)(h:OkM k a):
 MGo a (mls f [] a).2∧(∀y∈(mls f [] a).1,X.dep (2+((mls f [] a).2.i-a.i)) y∧y.small)∧(mls f [] a).1.length<=2+((mls f [] a).2.i-a.i):=by
 have p:=hf a h;refine ar7 hf a _ _ _ (h.go p.g) p.g (fun y hy=>?_) (by show 1<=_;omega);rw[List.mem_singleton.1 hy];exact⟨p.x,p.w⟩
theorem arB{f:MdF}:∀(n:Nat) (x:X) (l:List X) (r:Mr),mlsL f n (x::l) r=(x::(mlsL f n l r).1,(mlsL f n l r).2)
 | 0,x,l,r=>rfl
 | n+1,x,l,r=>by
  simp only[mlsL];split
  ·rw[List.cons_append];exact arB n x _ _
  ·rfl
def mls_app{f:MdF}(x:X)(r:Mr):mls f [x] r=(x::(mls f [] r).1,(mls f [] r).2):=arB _ x _ _
def ara{k:Nat}{E C:MdF}(hE:∀j,k=j+1->∀r,OkM j r->MPost r (E r))(hC:∀r,OkM k r->MPost r (C r)){r:Mr}(h:OkM k r):MPost r (mcmp E C r):=by
 unfold mcmp;by_cases q:r.e≠0
 ·rw[if_pos q];exact .bad r
 rw[if_neg q];have p:=hC r h;have h1:=h.go p.g;have pi:=p.g.i;by_cases c:0<mop (C r).2 4
 ·rw[if_pos c];have i1:=(Mr.aot (ar5 28 1 c)).1;have gn:=MGo.next (C r).2;have p2:=hC _ (h1.go gn);have p2i:=p2.g.i;refine⟨p.g.trans (gn.trans p2.g),?_,bin_sm _ p.w p2.w⟩;refine X.aqo (arl _ (X.aqo p.x (Nat.le_max_left _ (2+((C (C r).2.next).2.i-(C r).2.next.i)))) (X.aqo p2.x (Nat.le_max_right _ _))) ?_;show _<=2+((C (C r).2.next).2.i-r.i)
  omega
 ·rw [if_neg c];by_cases d:(C r).2.isT inT=true
  ·rw[if_pos d];have i1:=(Mr.aot (Mr.ab7 d).1).1;have gn:=MGo.next (C r).2;have he:(C r).2.next.e=0:=by
    rw[Mr.aoD];refine Classical.byContradiction fun z=>?_;unfold Mr.isT Mr.peek at d;rw[if_pos (.inl z)]at d;exact absurd d (by decide)
   have b:=MBeg.of lpT he;obtain⟨j,rfl,g⟩:=(h1.go gn).beg he b;obtain⟨l1,l2,l3⟩:=mls_post (hE j rfl) _ g;rw[mls_app];have il:=l1.il g.i;have gl:=g.len;refine⟨(p.g.trans gn).trans (MGo.end_ he b l1),?_,arD (by show(mls E [] ((C r).2.next.beg lpT)).1.length+1<=_;omega) fun y hy=>?_⟩
   rotate_left
   ·rcases List.mem_cons.1 hy with rfl|hy
    ·exact p.w
    ·exact(l2 y hy).2
   have bi:=b.i;have li:=l1.i;have e1:=(MGo.end_ he b l1).i;have e2:((mls E [] ((C r).2.next.beg lpT)).2.end_).i≥(mls E [] ((C r).2.next.beg lpT)).2.i:=(MGo.expect (mls E [] ((C r).2.next.beg lpT)).2 ⟨#[41]⟩).i;refine X.aqo (arj (c:=1+(((mls E [] ((C r).2.next.beg lpT)).2.end_).i-r.i)) fun y hy=>?_) ?_
   ·rcases List.mem_cons.1 hy with rfl|hy
    ·exact X.aqo p.x (by omega)
    ·exact X.aqo (l2 y hy).1 (by omega)
   ·show _<=2+(((mls E [] ((C r).2.next.beg lpT)).2.end_).i-r.i)
    omega
  ·rw[if_neg d];exact p
def mcmp_op{e D k:Nat}(hD:65600<=D){E C:MdF}(hC:MLv (e+1) D k 5 C){r:Mr}(h:OkM k r)(q:r.e=0)(c:0<mop (C r).2 4):
 Af Tryz.prog 64 [.ptr 1000 0,.int .i64 fun _=>4] [(1000,boxM r)] (encX (e+1) D .any fun _=>(mcmp E C r).1) [(1000,boxM (mcmp E C r).2)]:=by
 obtain⟨D,rfl⟩:∃d,D=d+1:=⟨D-1,by omega⟩
 have i1:=Mr.aot (ar5 28 1 c);unfold mcmp;rw[if_neg (fun z=>z q),if_pos c];obtain⟨p,c1⟩:=hC r h;have h1:=h.go p.g;have gn:=MGo.next (C r).2;obtain⟨p2,c4⟩:=hC _ (h1.go gn);have h3:=(h1.go gn).go p2.g;have hl:=h.len;have hi:=h1.i;rw[p.g.l]at hi i1;have c2:=ar4 (C r).2 4 (by decide);have c3:=anU (C r).2 (by omega);have px:=p.x;have p2x:=p2.x;have pi:=p.g.i;have p2i:=p2.g.i;have h3i:=h3.i;rw[p2.g.l,gn.l,p.g.l]at h3i;generalize mop (C r).2 4=o at*;generalize C (C r).2.next=v at*;generalize (C r).2.next=zn at*;generalize (C r).2.peek=pk at*;generalize C r=u at*;obtain⟨x,r1⟩:=u;obtain⟨y,r2⟩:=v;dsimp only at*
 (apply Af.of tF mF [.cell 4 25] kp64 [(12,[(1,encX (e+1) (D+1) .any fun _=>x,zM r1)]),(13,[(1,zI o,zM r1)]),(15,[(1,zK pk,zM zn)]),(16,[(3,encX (e+1) (D+1) .any fun _=>y,zM r2)])] Tryz.func64 (fun _=>?_);(repeat' with_reducible first|exact nY|refine oC ?_ ?_|refine vQ ?_ ?_ ?_|refine cV (fun _=>?_) fun _=>?_|refine wQ ?_|fail))
 all_goals(try exact zB)
 all_goals(try(exact absurd q ‹¬r.e=0›))
 all_goals(try(exfalso;omega))
 (all_goals try first|exact eZ|with_reducible (refine rQ ?_;repeat' first|apply And.intro|exact wZ)|(refine sQ ?_;repeat' first|with_reducible apply And.intro|exact cZ))
 all_goals(try rfl)
 all_goals(try exact aqH (bin o x y) [x,y] rfl (fun v hv=>by
  rcases List.mem_cons.1 hv with rfl|hv
  ·exact X.aqo px (by omega)
  ·rw[List.mem_singleton.1 hv];exact X.aqo p2x (by omega)))
def mcmp_no{e D k:Nat}(hD:65600<=D){E C:MdF}(hC:MLv (e+1) D k 5 C){r:Mr}(h:OkM k r)(q:r.e=0)(c:¬0<mop (C r).2 4)(d:¬(C r).2.isT inT=true):
 Af Tryz.prog 64 [.ptr 1000 0,.int .i64 fun _=>4] [(1000,boxM r)] (encX (e+1) D .any fun _=>(mcmp E C r).1) [(1000,boxM (mcmp E C r).2)]:=by
 obtain⟨D,rfl⟩:∃d,D=d+1:=⟨D-1,by omega⟩
 unfold mcmp;rw[if_neg (fun z=>z q),if_neg c,if_neg d];obtain⟨p,c1⟩:=hC r h;have h1:=h.go p.g;have hl:=h.len;have hi:=h1.i;rw[p.g.l]at hi;have c2:=ar4 (C r).2 4 (by decide);have c3:=aoE (C r).2 inT (by omega);unfold Mr.accept at c3;rw[if_neg d,show(C r).2.isT inT=false by simpa using d]at c3;unfold inT at c3;generalize mop (C r).2 4=o at*;generalize C r=u at*;obtain⟨x,r1⟩:=u;dsimp only at*
 (refine fA [.cell 4 25] kp64 [(12,[(1,encX (e+1) (D+1) .any fun _=>x,zM r1)]),(13,[(1,zI o,zM r1)]),(17,[(1,zO false,zM r1)])] Tryz.func64 fun _=>?_;repeat' with_reducible first|exact⟨⟩|refine mA ?_ ?_|refine mC (fun _=>?_) fun _=>?_)
 all_goals(try exact zB)
 all_goals(try(exact absurd q ‹¬r.e=0›))
 all_goals(try(exfalso;omega))
 all_goals exact eZ
abbrev MiI:=Nat×List X×Mr
def mcmI(e D:Nat)(q:MiI):SS:=
 ⟨141,[(8,.aref 59 1 fun _=>q.2.1.length),(4,.ptr 4 0),(0,.ptr 1000 0)],[(1000,boxM q.2.2),(4,.box [.int .i64 fun _=>0,.int .i64 fun _=>0,.str fun _=>⟨#[]⟩,.nil,.nil]),(59,.arr false 25 5 1 (fun _=>q.2.1.length) (aqZ e D fun _=>q.2.1))]⟩
def mcmp_in{e D k:Nat}(hD:65600<=D){E C:MdF}(hE:∀j,k=j+1->MLv (e+1) D j 1 E)(hC:MLv (e+1) D k 5 C){r:Mr}(h:OkM k r)(q:r.e=0)(c:¬0<mop (C r).2 4)(d:(C r).2.isT inT=true):
 Af Tryz.prog 64 [.ptr 1000 0,.int .i64 fun _=>4] [(1000,boxM r)] (encX (e+1) D .any fun _=>(mcmp E C r).1) [(1000,boxM (mcmp E C r).2)]:=by
 obtain⟨D,rfl⟩:∃d,D=d+1:=⟨D-1,by omega⟩
 have hP:=ara (fun j hj r h=>(hE j hj r h).1) (fun r h=>(hC r h).1) h;unfold mcmp at hP ⊢;rw[if_neg (fun z=>z q),if_neg c,if_pos d]at hP ⊢;obtain⟨p,c1⟩:=hC r h;have h1:=h.go p.g;have hl:=h.len;have hi:=h1.i;rw[p.g.l]at hi;have c2:=ar4 (C r).2 4 (by decide);have c3:=aoE (C r).2 inT (by omega);unfold Mr.accept at c3;rw[if_pos d,d]at c3;have hx:=hP.x;have hz:=hP.g.il h.i;have gn:=MGo.next (C r).2;have he:(C r).2.next.e=0:=by
  rw[Mr.aoD];refine Classical.byContradiction fun z=>?_;unfold Mr.isT Mr.peek at d;rw[if_pos (.inl z)]at d;exact absurd d (by decide)
 have h2:=h1.go gn;have b:=MBeg.of lpT he;have c4:=aqP (C r).2.next lpT (by have:=gn.il h1.i;have:=gn.l;rw[p.g.l]at*;omega) ⟨by have:=h2.o0;omega,by have:=h2.o1;omega⟩;obtain⟨j,rfl,h3⟩:=h2.beg he b;obtain⟨p5,c5⟩:=hE j rfl _ h3;have h4:=h3.go p5.g;have al:((C r).2.next.beg lpT).l=r.l:=b.l.trans (gn.l.trans p.g.l);have zl:=p5.g.l.trans al;obtain⟨Z,hZ⟩:∃Z,Z=mls E [(C r).1] ((C r).2.next.beg lpT):=⟨_,rfl⟩
 rw[<- hZ]at hx hz ⊢;unfold mls at hZ;unfold inT at c3;unfold lpT at*;generalize mop (C r).2 4=o at*;generalize E ((C r).2.next.beg ⟨#[40]⟩)=v at*;generalize (C r).2.next.beg ⟨#[40]⟩=a at*;generalize (C r).2.next=n1 at*;generalize C r=u at*;obtain⟨x,r1⟩:=u;obtain⟨y,z⟩:=v;dsimp only at*;clear p b gn h1 h2 h3;obtain⟨W,hW⟩:∃W,W=Z.2.end_:=⟨_,rfl⟩
 rw[<- hW]at hx hz ⊢
 (apply Af.of tF mF [.cell 4 25] kp64 [(12,[(1,encX (e+1) (D+1) .any fun _=>x,zM r1)]),(13,[(1,zI o,zM r1)]),(17,[(1,zO true,zM n1)]),(19,[(1,zT,zM a)]),(20,[(2,encX (e+1) (D+1) .any fun _=>y,zM z)]),(23,[(1,zT,zM W)])] Tryz.func64 (fun _=>?_);(repeat' with_reducible first|exact nY|refine oC ?_ ?_|refine vQ ?_ ?_ ?_|refine cV (fun _=>?_) fun _=>?_|refine wQ ?_|fail))
 all_goals(try exact zB)
 all_goals(try(exact absurd q ‹¬r.e=0›))
 all_goals(try(exfalso;omega))
 (all_goals(try exact eZ))
 refine .loop (mcmI (e+1) (D+1)) (fun q=>mlsL E q.1 q.2.1 q.2.2=Z∧OkM j q.2.2∧q.2.2.l=r.l∧q.2.2.l.length-q.2.2.i<=q.1∧q.2.1.length<=2+q.2.2.i) (fun q=>q.1) (z.l.length-z.i,[x]++[y],z) ⟨hZ.symm,h4,zl,Nat.le_refl _,(by show 2<=_;omega)⟩ ?_ fun q E' hq=>?_
 ·unfold mcmI
  (focus(refine aQ ?_;repeat' first|with_reducible apply And.intro|exact wZ|fail))
  all_goals(try(intro i hi;obtain rfl|rfl:i=0∨i=1:=(by(have hi:i<2:=hi);omega)))
  all_goals(try exact LeL.of_eq rfl)
 clear c1 c2 c3 c4 c5 p5 hZ;obtain⟨m,l,v⟩:=q;obtain⟨g1,g2,g3,g4,g5⟩:=hq;dsimp only at g1 g2 g3 g4 g5;unfold mcmI;dsimp only;have vi:=g2.i;have vl:v.l.length=r.l.length:=by rw[g3]
 have c1:=aoE v cmT (by omega);unfold Mr.accept at c1;unfold cmT at c1;by_cases s:v.isT cmT=true
 ·have i1:=Mr.aot (Mr.ab7 s).1;obtain⟨m,rfl⟩:∃j,m=j+1:=⟨m-1,by omega⟩
  simp only[mlsL]at g1;rw[if_pos s]at g1;unfold cmT at s;rw[if_pos s,s]at c1;have gn:=MGo.next v;obtain⟨p2,c2⟩:=hE j rfl v.next (g2.go gn);have h3:=(g2.go gn).go p2.g;have p2i:=p2.g.i;have p2l:=p2.g.l.trans gn.l;generalize E v.next=u at*;obtain⟨y2,z2⟩:=u;dsimp only at*;clear gn p2;generalize v.next=vn at*;apply AWp.wk tF mF [(21,[(1,zO true,zM vn)]),(22,[(2,encX (e+1) (D+1) .any fun _=>y2,zM z2)])] kp64 ?_
  (repeat' with_reducible first|exact nY|refine oC ?_ ?_|refine vQ ?_ ?_ ?_|refine cV (fun _=>?_) fun _=>?_|refine wQ ?_|fail)
  all_goals(try exact zB)
  (all_goals(try exact eZ))
  refine dE (ι:=MiI) (μ:=fun q=>q.1) (i:=(m+1,l,v)) (I:=mcmI (e+1) (D+1)) (m,l++[y2],z2) ?_ ?_
  ·refine⟨⟨g1,h3,p2l.trans g3,?_,?_⟩,Nat.lt_succ_self m⟩
   ·dsimp only;rw[p2l];omega
   ·dsimp only;rw[List.length_append];show l.length+1<=_;omega
  unfold mcmI
  (focus(refine aQ ?_;repeat' first|with_reducible apply And.intro|exact wZ|fail))
  all_goals(try(rw[List.length_append];rfl))
  exact fun i hi=>afz l y2 i hi
 ·have s':v.isT ⟨#[44]⟩=false:=by simpa[cmT]using s
  rw[s',if_neg (by decide)]at c1;have hZ2:Z=(l,v):=by
   rw[<- g1];cases m with
   | zero=>rfl
   | succ m=>simp only[mlsL];rw[if_neg s]
  have c2:=ari v (by omega) ⟨by have:=g2.o0;omega,by have:=g2.o1;omega⟩;rw[hZ2]at hx hW ⊢;dsimp only at hx hW ⊢;rw[<- hW]at c2;apply AWp.wk tF mF [(21,[(1,zO false,zM v)])] kp64 ?_
  (repeat' with_reducible first|exact nY|refine oC ?_ ?_|refine vQ ?_ ?_ ?_|refine cV (fun _=>?_) fun _=>?_|refine wQ ?_|fail)
  all_goals(try exact zB)
  (all_goals try first|exact eZ|with_reducible (refine rQ ?_;repeat' first|apply And.intro|exact wZ)|(refine sQ ?_;repeat' first|with_reducible apply And.intro|exact cZ))
  all_goals(try rfl)
  have hd:X.dep (D+1) (X.mk 25 0 ⟨#[]⟩ [] l):=X.aqo hx (by omega);exact fun i hi=>aqE D (fun _=>l.getD i default) (by rw[show l.getD i default=l[i] by simp[List.getD,show i<l.length from hi]];exact hd _ (List.getElem_mem hi)) (D+1) D (by omega) (Nat.le_refl _)
def asf{e D k:Nat}(hD:65600<=D){E C:MdF}(hE:∀j,k=j+1->MLv (e+1) D j 1 E)(hC:MLv (e+1) D k 5 C):MLv (e+1) D k 4 (mcmp E C):=fun r h=>by
 refine⟨ara (fun j hj r h=>(hE j hj r h).1) (fun r h=>(hC r h).1) h,?_⟩;by_cases q:r.e≠0
 ·obtain⟨D,rfl⟩:∃d,D=d+1:=⟨D-1,by omega⟩
  rw[arC E C r q];exact aqI e D 4 r q
 have q:r.e=0:=Classical.byContradiction q;by_cases c:0<mop (C r).2 4
 ·exact mcmp_op hD hC h q c
 by_cases d:(C r).2.isT inT=true
 ·exact mcmp_in hD hE hC h q c d
 ·exact mcmp_no hD hC h q c d
def arv{acc:ByteArray}{r:Mr}{q:Option ByteArray×Mr}(h:aoc acc r=some q):MGo r q.2:=by
 unfold aoc at h;have n1:=MGo.next r;have n2:=n1.trans (.next r.next);have n3:=n2.trans (.next r.next.next)
 repeat' split at h
 all_goals(simp only[Option.some.injEq,reduceCtorEq]at h)
 all_goals(subst h)
 ·exact n1.trans (.fail _ _)
 ·exact n2.trans (.fail _ _)
 ·exact n3
 ·exact n1.trans (.fail _ _)
 ·exact n2
theorem ar3:∀(n:Nat) (acc:ByteArray) (r:Mr),MGo r (anZ n acc r).2
 | 0,acc,r=>.refl r
 | n+1,acc,r=>by
  simp only[anZ];split
  ·exact .refl r
  ·rename_i h;exact arv h
  ·rename_i h;exact(arv h).trans (ar3 n _ _)
def aqz(pe:ByteArray->Int)(r:Mr):MGo r (aoA pe r).2:=by
 unfold aoA;split
 ·exact .fail r 13
 ·have g:=(MGo.next r).trans (ar3 (r.l.length+1) r.peek.text r.next);split
  ·rename_i h;rw[h]at g;exact g
  ·rename_i h;rw[h]at g;exact g.trans (.fail _ _)
def as8(m:Bool)(r:Mr):MGo r (mnum m r).2:=by
 unfold mnum;split
 ·exact .fail r 13
 ·exact .next r
def as3(r:Mr):MGo r (mval r).2:=by
 have n1:=MGo.next r;have n2:=n1.trans (.next r.next);unfold mval
 repeat' split
 ·exact n1
 ·exact n1
 ·exact n1
 ·exact n1
 ·exact n1.trans (.fail _ _)
 ·exact n2.trans (.fail _ _)
 ·exact n2.trans (.fail _ _)
 ·exact n1.trans (as8 _ _)
 ·exact as8 _ _
def aqL(r:Mr):MGo r (mscl r).2:=by
 unfold mscl
 repeat' split
 ·exact .fail r 13
 ·exact .fail r 2
 ·exact .next r
def as4(i:Nat)(r:Mr):MGo r (msep i r):=by
 unfold msep;split
 ·exact .expect r _
 ·exact .refl r
theorem aqw{k:Nat}{f:MdF}(hf:∀r,OkM k r->MPost r (f r))(a:Mr):∀(n i:Nat) (l:List X) (r:Mr),OkM k r->MGo a r->(∀y∈l,X.dep (2+(r.i-a.i)) y∧y.small) ->
 MGo a (aqs f n i l r).2∧(∀y∈(aqs f n i l r).1,X.dep (2+((aqs f n i l r).2.i-a.i)) y∧y.small)∧(aqs f n i l r).1.length=l.length+n
 | 0,i,l,r,_,g,hl=>⟨g,hl,rfl⟩
 | n+1,i,l,r,h,g,hl=>by
  simp only[aqs];have gn:=as4 i r;have p:=hf _ (h.go gn);have gi:=g.i;have ni:=gn.i;have pi:=p.g.i;obtain⟨a1,a2,a3⟩:=aqw hf a n (i+1) (l++[(f (msep i r)).1]) _ ((h.go gn).go p.g) (g.trans (gn.trans p.g)) fun y hy=>by
   rcases List.mem_append.1 hy with hy|hy
   ·exact⟨X.aqo (hl y hy).1 (by omega),(hl y hy).2⟩
   ·rw[List.mem_singleton.1 hy];exact⟨X.aqo p.x (by omega),p.w⟩
  refine⟨a1,a2,?_⟩;rw[a3,List.length_append];show l.length+1+n=_;omega
theorem aqM:∀(n:Nat) (acc:ByteArray) (r:Mr),(∀t∈r.l,PlTok t)->r.i<=r.l.length->∀s,(anZ n acc r).1=some s->s.size<=acc.size+200000*(r.l.length-r.i)
 | 0,acc,r,_,_,s,h=>by
  simp only[anZ,Option.some.injEq]at h;rw[<- h];omega
 | n+1,acc,r,hP,hi,s,h=>by
  simp only[anZ]at h;split at h
  ·simp only[Option.some.injEq]at h;rw[<- h];omega
  ·cases h
  ·rename_i a r' hq;obtain⟨h1,h2,h3,h4,h5⟩:=aoK hP hi hq;have:=aqM n a r' (by rw[h1];exact hP) (by rw[h1];exact h4) s h;rw[h1]at this;omega
def aqR(pe:ByteArray->Int){k:Nat}{r:Mr}(h:OkM k r):(aoA pe r).1.size<=100000000000:=by
 have hl:=h.len;have h0:=(Mr.anY PlTok.default h.tk).size;unfold aoA;split
 ·exact Nat.zero_le _
 ·have g:=MGo.next r;have hs:=aqM (r.l.length+1) r.peek.text r.next (by rw[g.l];exact h.tk) (by rw[g.l];exact g.il h.i);rw[g.l]at hs;split
  ·exact Nat.zero_le _
  ·rename_i s r' hq;rw[hq]at hs;have:=hs s rfl;dsimp only;omega
def mval_sm{k:Nat}{r:Mr}(h:OkM k r):V.le 1 (mval r).1∧kz (mval r).1=[]∧(mval r).1.kind<=7:=by
 have hv:=(Mr.anY PlTok.default h.tk).vsize;have key:∀a n s t,t.size<=1073741824->a<=7->V.le 1 (sc a n s t)∧kz (sc a n s t)=[]∧(sc a n s t).kind<=7:=fun a n s t ht ha=>⟨arS ht,by unfold kz;(repeat' split)<;>rfl,ha⟩
 have dv:V.le 1 (default:V)∧kz (default:V)=[]∧(default:V).kind<=7:=key 0 0 0 ⟨#[]⟩ (Nat.zero_le _) (by decide);have nv:∀m z,V.le 1 (mnum m z).1∧kz (mnum m z).1=[]∧(mnum m z).1.kind<=7:=fun m z=>by
  unfold mnum apD
  repeat' split
  all_goals first|exact dv|exact key _ _ _ _ (Nat.zero_le _) (by decide)
 unfold mval
 repeat' split
 all_goals first|exact dv|exact nv _ _|exact key _ _ _ _ (Nat.zero_le _) (by decide)|exact key _ _ _ _ (by omega) (by decide)
def val_sm{v:V}(h:V.le 1 v∧kz v=[]∧v.kind<=7):X.small (.mk 1 0 ⟨#[]⟩ [v] []):=
 X.aqS ⟨Nat.zero_le _,Nat.le_refl _,fun u hu=>by rw[List.mem_singleton.1 hu];exact h,Nat.zero_le _⟩ fun y hy=>by cases hy
def arg_sm{op n:Int}{l:List X}{c:Nat}(h1:l.length=0+c)(hc:c<=3)(hl:∀y∈l,X.small y):X.small (.mk op n ⟨#[]⟩ [] l):=arD (by omega) hl
def arb{pe:ByteArray->Int}{k:Nat}{f:MdF}(hf:∀r,OkM k r->MPost r (f r))(op:Int)(a:Mr)(h:OkM k a):MGo a (mcal pe f op a).2∧X.dep (3+((mcal pe f op a).2.i-a.i)) (mcal pe f op a).1∧X.small (mcal pe f op a).1:=by
 have g1:=aqz pe a;have s1:=aqR pe h;have l2:=aqw hf a 2 0 [] a h (.refl a) (fun y hy=>by cases hy);have l3:=aqw hf a (aqG op) 0 [] a h (.refl a) (fun y hy=>by cases hy);have e:∀c,3+c=(2+c)+1:=fun c=>by omega
 have nd:∀c {op n t v},X.dep (3+c) (.mk op n t v []):=fun c=>by rw[e];exact aqU
 unfold mcal;split
 ·exact⟨g1,nd _,aqY s1⟩
 split
 ·split
  ·exact⟨g1.trans ((MGo.next _).trans (aqL _)),nd _,aqY s1⟩
  ·exact⟨g1,nd _,aqY s1⟩
 split
 ·have g:=l2.1.trans ((MGo.expect _ cmT).trans (aqL _));have gi:=((MGo.expect (aqs f 2 0 [] a).2 cmT).trans (aqL _)).i;refine⟨g,?_,arg_sm l2.2.2 (by decide) fun y hy=>(l2.2.1 y hy).2⟩;dsimp only;rw[e];exact arj fun y hy=>X.aqo (l2.2.1 y hy).1 (by omega)
 ·refine⟨l3.1,?_,arg_sm l3.2.2 (by unfold aqG;(repeat' split)<;>omega) fun y hy=>(l3.2.1 y hy).2⟩;dsimp only;rw[e];exact arj fun y hy=>(l3.2.1 y hy).1
def arL{pe:ByteArray->Int}{k:Nat}{E:MdF}(hE:∀j,k=j+1->∀r,OkM j r->MPost r (E r)){r:Mr}(h:OkM k r)(h0:r.e=0):MPost r (aqt pe E r):=by
 have e:∀c,2+c=(1+c)+1:=fun c=>by omega
 unfold aqt;split
 ·have b:=MBeg.of lpT h0;obtain⟨j,rfl,g⟩:=h.beg h0 b;have p:=hE j rfl _ g;refine⟨MGo.end_ h0 b p.g,X.aqo p.x ?_,p.w⟩;have bi:=b.i;have ei:(E (r.beg lpT)).2.i<=(E (r.beg lpT)).2.end_.i:=(MGo.expect (E (r.beg lpT)).2 ⟨#[41]⟩).i;dsimp only;omega
 split
 ·refine⟨aqz pe r,?_,aqY (aqR pe h)⟩;dsimp only;rw[e];exact aqU
 split
 ·refine⟨as3 r,?_,val_sm (mval_sm h)⟩;dsimp only;rw[e];exact aqU
 ·rename_i c;have hk:r.peek.kind≠0:=by
   unfold mcw at c;split at c
   ·omega
   ·exact absurd rfl c
  have i1:=(Mr.aot hk).1;have gn:=MGo.next r;have h1:=h.go gn;have he:r.next.e=0:=by rw[Mr.aoD];exact h0
  have b:=MBeg.of lpT he;obtain⟨j,rfl,g⟩:=h1.beg he b;obtain⟨p1,p2,p3⟩:=arb (pe:=pe) (hE j rfl) (mcw r.peek) _ g;refine⟨gn.trans (MGo.end_ he b p1),X.aqo p2 ?_,p3⟩;have bi:=b.i;have ei:(mcal pe E (mcw r.peek) (r.next.beg lpT)).2.i<=(mcal pe E (mcw r.peek) (r.next.beg lpT)).2.end_.i:=(MGo.expect (mcal pe E (mcw r.peek) (r.next.beg lpT)).2 ⟨#[41]⟩).i;have pi:=p1.i;dsimp only;omega
end Go.Ai
