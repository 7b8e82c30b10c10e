/- Chapter 17: program and model read alike: comparisons, calls. -/
import Derived.Test.YtbagpkiomjlhkaaGreatDoorSimB
import Derived.Test.YtbagpkiomjlhkaaGreatDoorLvB
import Derived.Test.YtbagpkiomjlhkaaGreatDoorLvC
import Derived.Test.YtbagpkiomjlhkaaGreatDoorRdI
set_option linter.all false
namespace Go.Ai
open Go Go.Proofs
set_option maxRecDepth 100000
set_option maxHeartbeats 4000000
section
variable {e k:Nat}{F:RdF}{f:MdF}(hF:∀r,Okr PlTok k r->Post e r (F r))(hf:∀r,OkM k r->MPost r (f r))(hs:LS k F f)(hb:MB f)
include hF hf hs hb
theorem in_sim(n:Nat)(x x':X)(r:Rd)(m:Mr)(h:SR k r m)(hx:r.s.e=0->x'=x)(hn:r.s.l.length<=n):
 (Sim (adb F 1 (-1) (n+1) 0 [] r).2.s (mls f [x'] m).2∧((adb F 1 (-1) (n+1) 0 [] r).2.s.e=0->(mls f [x'] m).2.o=(adb F 1 (-1) (n+1) 0 [] r).2.o))∧((adb F 1 (-1) (n+1) 0 [] r).2.s.e=0->(mls f [x'] m).1=x::(adb F 1 (-1) (n+1) 0 [] r).1):=by
 simp only[adb];unfold mls;by_cases he:r.s.e=0
 ·have hbd:r.bad=false:=by unfold Rd.bad;simp[he]
  rw[show aiQ 1 (-1) 0 r=true by unfold aiQ;rw[hbd];rfl,if_pos rfl];have e1:sepR 0 r=r:=by unfold sepR;rw[if_neg (by decide)]
  rw[e1];have h2:=SR.to hF hf hs h;have hp:=(hF _ h.kr).g.s.len;refine list_sim hF hf hs hb n _ (0+1) _ _ x _ _ h2 (by decide) (fun z=>?_) fun z=>⟨by omega,Nat.le_of_eq (h2.sim.len z).1⟩
  rw[hx he,(hs _ _ h).2 z];rfl
 ·have hbd:r.bad=true:=by unfold Rd.bad;simp[he]
  have hm:m.e≠0:=by rw[(h.sim.bad he).2.2.2.2.2.1];exact he
  rw[show aiQ 1 (-1) 0 r=false by unfold aiQ;rw[hbd];rfl,if_neg (by decide),hb.s hm];have e2:∀n' l',(mlsL f n' l' m).2=m:=fun n' l'=>by
   cases n' with
   | zero=>rfl
   | succ n'=>simp only[mlsL];rw[(Mr.aqp hm).2.2.2.1,if_neg (by decide)]
  rw[e2];exact⟨⟨h.sim,h.o⟩,fun z=>absurd z he⟩
end
theorem cmp_sim{e k:Nat}{E Ch:RdF}{E' C:MdF}(hEp:∀j,k=j+1->∀r,Okr PlTok j r->Post e r (E r))(hEm:∀j,k=j+1->∀r,OkM j r->MPost r (E' r))(hE:∀j,k=j+1->LS j E E')(hEb:MB E')
 (hCp:∀r,Okr PlTok k r->Post e r (Ch r)) (hCm:∀r,OkM k r->MPost r (C r)) (hC:LS k Ch C) (hCb:MB C):LS k (cmpF E Ch) (mcmp E' C):=fun r m h=>by
 have h2:=SR.to hCp hCm hC h;have hx:=(hC r m h).2;unfold cmpF mcmp;by_cases he:r.s.e=0
 ·rw [if_neg (show¬m.e≠0 from fun g=>g (h.ok he).1)];generalize Ch r=q at*;generalize C m=p at*;rcases aru h2.sim (b:=4) (.inr (.inr (.inl rfl)))with⟨q1,q2⟩|⟨o,q1,q2,q3⟩
  ·rw [q1];replace q2:mop p.2 4=0:=q2;dsimp only;rw[q2,if_neg (show¬(0:Int)<0 by decide),h2.sim.isT];by_cases z:p.2.isT inT=true
   ·rw[if_pos z,if_pos z];have he2:q.2.s.e=0:=Classical.byContradiction fun g=>by
     rw[<- h2.sim.isT,(h2.sim.aqp g).2.2.1]at z;exact Bool.noConfusion z
    have h3:=h2.next;have he3:(q.2.to q.2.s.next).s.e=0:=by show q.2.s.next.e=0;rw[Sim.aoD];exact he2
    obtain⟨j,rfl,g⟩:=aqK h3 he3;unfold abl;generalize (q.2.to q.2.s.next).paren=r1 at*;generalize p.2.next.beg lpT=m1 at*;obtain⟨⟨a,b⟩,c⟩:=in_sim (hEp j rfl) (hEm j rfl) (hE j rfl) hEb (r1.s.l.length+3) q.1 p.1 r1 m1 g (fun _=>(hx he2).symm) (by omega);have e4:r1.s.l.length+3+1=r1.s.l.length+4:=rfl;rw[e4]at a b c;generalize adb E 1 (-1) (r1.s.l.length+4) 0 [] r1=u at*;generalize mls E' [p.1] m1=v at*;obtain⟨d1,d2⟩:=arf (o:=u.2.o) a b;refine⟨⟨d1,d2⟩,fun y=>?_⟩;have y2:u.2.s.e=0:=Classical.byContradiction fun g2=>by
     have y:(u.2.s.expect ⟨#[41]⟩).e=0:=y;rw[(a.aqp g2).2.2.2]at y;exact g2 y
    rw[c y2]
   ·rw[if_neg z,if_neg z];exact⟨⟨h2.sim,h2.o⟩,hx⟩
  ·rw[q1];replace q2:mop p.2 4=o:=q2;dsimp only;rw[q2,if_pos q3];have hk:=aiK q1;have he2:q.2.s.e=0:=Classical.byContradiction fun g=>by
    rw[(h2.sim.bad g).2.1]at hk;exact hk rfl
   obtain⟨⟨a,b⟩,c⟩:=hC _ _ h2.next;exact⟨⟨a,b⟩,fun y=>by rw[hx he2,c y]⟩
 ·have hm:m.e≠0:=by rw[(h.sim.bad he).2.2.2.2.2.1];exact he
  rw[if_pos hm];have e2:(C m).2=m:=hCb.s hm;rw[e2]at h2;have hq:(Ch r).2.s.e≠0:=h2.sim.err hm;have o1:(Ch r).2.op 4=none:=by
   rcases aru h2.sim (b:=4) (.inr (.inr (.inl rfl)))with⟨q1,_⟩|⟨o,q1,_,_⟩
   ·exact q1
   ·have hk:=aiK q1;rw[(h2.sim.bad hq).2.1]at hk;exact absurd rfl hk
  rw[o1];dsimp only;rw[(h2.sim.aqp hq).2.2.1,if_neg (by decide)];exact⟨⟨h2.sim,fun z=>absurd z hq⟩,fun z=>absurd z hq⟩
theorem arR{s:St}{m:Mr}(h:Sim s m)(hn:∀t∈m.l,t.kind=2->0<=t.num):Sim (intF s).2 (mscl m).2∧((intF s).2.e=0->(intF s).1=(mscl m).1):=by
 have hp:=h.peek;have key:m.peek.kind=2->0<=m.peek.num:=Mr.anY (P:=fun t=>t.kind=2->0<=t.num) (fun g=>by cases g) hn;unfold intF mscl;by_cases he:s.e=0
 ·have ok:=(h.good he).1;rw[hp];by_cases c:m.peek.kind≠2
  ·rw[if_pos (.inr c),if_pos c];exact⟨h.fail 13,fun _=>rfl⟩
  ·rw[if_neg (fun g=>g.elim (fun z=>by rw[ok]at z;exact Bool.noConfusion z) c),if_neg c];have c':m.peek.kind=2:=Decidable.not_not.1 c;have:=key c';by_cases d:m.peek.scale≠0∨12<m.peek.num
   ·rw[if_pos (d.elim .inl (fun z=>.inr (.inr z))),if_pos d];exact⟨h.fail 2,fun _=>rfl⟩
   ·rw[if_neg (fun g=>g.elim (fun z=>d (.inl z)) (fun z=>z.elim (fun y=>absurd y (by omega)) (fun y=>d (.inr y)))),if_neg d];exact⟨h.next,fun _=>rfl⟩
 ·have hm:m.e≠0:=by rw[(h.bad he).2.2.2.2.2.1];exact he
  rw[if_pos (.inl (h.bad he).1),if_pos (by rw[(h.bad he).2.2.1];exact(by decide:(0:Int)≠2)),(h.aqp he).2.1,(Mr.aqp hm).2.2.1];exact⟨h,fun _=>rfl⟩
theorem arG:∀p∈aa2,calB p.2.1=p.1∧1<=p.2.1∧p.2.1<=28∧(p.2.1=22∨p.2.1=26∨p.2.1=15∨p.2.2=(aqG p.2.1:Int))∧(p.2.2=p.2.2.toNat):=by decide +kernel
theorem asu:∀i,i<29->∀j,j<29->calB ((i:Nat):Int)=calB ((j:Nat):Int)->0<(calB ((i:Nat):Int)).size->i=j:=by decide +kernel
theorem asv:∀j,j<29->0<(calB ((j:Nat):Int)).size->∃p∈aa2,p.1=calB ((j:Nat):Int):=by decide +kernel
theorem ar9{t:ByteArray}:∀(n:Nat),(∀j,1<=j->j<=n->calB ((j:Nat):Int)≠t)->mcwL t n=0
 | 0,_=>rfl
 | n+1,h=>by
  unfold mcwL;rw[if_neg (h (n+1) (by omega) (Nat.le_refl _))];exact ar9 n fun j h1 h2=>h j h1 (by omega)
theorem ar8{t:ByteArray}{j:Nat}(hj:calB ((j:Nat):Int)=t):∀(n:Nat),1<=j->j<=n->(∀i,j<i->i<=n->calB ((i:Nat):Int)≠t)->mcwL t n=j
 | 0,h1,h2,_=>absurd h2 (by omega)
 | n+1,h1,h2,h=>by
  unfold mcwL;by_cases e:j=n+1
  ·subst e;rw[if_pos hj]
  ·rw[if_neg (h (n+1) (by omega) (Nat.le_refl _))];exact ar8 hj n h1 (by omega) fun i a b=>h i a (by omega)
theorem arN{t:ByteArray}(ht:0<t.size):(ab5 t aa2=none∧mcwL t 28=0)∨∃q,ab5 t aa2=some q∧mcwL t 28=q.1∧q.1≠0∧(t,q)∈aa2:=by
 cases hf:ab5 t aa2 with
 | none=>
  refine .inl ⟨rfl,ar9 28 fun j j1 j2 g=>?_⟩;obtain⟨p,hp,hp1⟩:=asv j (by omega) (by rw[g];exact ht);exact aqQ hf p hp (hp1.trans g)
 | some q=>
  have hm:=aqJ hf;obtain⟨s1,s2,s3,_⟩:=arG _ hm;dsimp only at s1 s2 s3;obtain⟨j,hj⟩:∃j:Nat,q.1=j:=⟨q.1.toNat,by omega⟩
  rw[hj]at s1 s2 s3;refine .inr ⟨q,rfl,?_,by omega,hm⟩;rw[hj];refine ar8 s1 28 (by omega) (by omega) fun i i1 i2 g=>?_;have:=asu i (by omega) j (by omega) (g.trans s1.symm) (by rw[g];exact ht);omega
theorem close_e{s:St}{o:Int}(h:(Rd.mk s o).close.s.e=0):s.e=0:=Classical.byContradiction fun g=>(Steps.expect s ⟨#[41]⟩).er g h
theorem pathF_e{pe:ByteArray->Int}{s:St}(h:(abf pe s).2.e=0):s.e=0:=Classical.byContradiction fun g=>by
 unfold abf at h;rw[if_pos g]at h;exact g h
theorem intF_e{s:St}(h:(intF s).2.e=0):s.e=0:=Classical.byContradiction fun g=>(agC s).er g h
theorem Sim.oz{s:St}{m m':Mr}(h:Sim s m')(g:MGo m m')(he:s.e=0):m'.o=m.o:=g.oz (Classical.byContradiction fun z=>h.err z he)
theorem aqD{s:St}{o:Int}{m:Mr}{x y:X}(h:Sim s m)(ho:s.e=0->m.o=o)(hx:s.e=0->x=y):
 (Sim (Rd.mk s o).close.s m.end_∧((Rd.mk s o).close.s.e=0->m.end_.o=(Rd.mk s o).close.o))∧((Rd.mk s o).close.s.e=0->x=y):=
 ⟨arf h ho,fun z=>hx (close_e z)⟩
theorem val_res:∀w∈valL,resB w=true:=by decide +kernel
theorem asw:∀p∈aa2,resB p.1=true∧kHas valL p.1=false:=by decide +kernel
theorem kHas_in{t:ByteArray}:∀{l:List ByteArray},kHas l t=true->t∈l
 | l,h=>by
  unfold kHas at h;obtain⟨k,hk,e⟩:=List.any_eq_true.1 h;rw[<- of_decide_eq_true e];exact hk
theorem aro{k:Nat}{r:Rd}{m:Mr}(h:SR k r m)(he:r.s.e=0){q:X×Rd}(hq:q=if r.s.val=true then(.mk 1 0 ⟨#[]⟩ [(valF r.s).1] [],r.to (valF r.s).2)else(default,r.to (r.s.fail 13))):
 (Sim q.2.s (mval m).2∧(q.2.s.e=0->(mval m).2.o=q.2.o))∧(q.2.s.e=0->q.1=.mk 1 0 ⟨#[]⟩ [(mval m).1] []):=by
 obtain⟨v1,v2⟩:=arO h.sim h.km.tk;have vg:=as3 m;have ho:=h.o he;by_cases c:r.s.val=true
 ·rw[if_pos c]at hq;subst hq;exact⟨⟨v1,fun z=>(v1.oz vg z).trans ho⟩,fun z=>by rw[v2 z]⟩
 ·rw[if_neg c]at hq;subst hq;have e1:valF r.s=(default,r.s.fail 13):=by unfold valF;rw[if_neg (fun g=>g he),if_pos (by simpa using c)]
  rw[e1]at v1;have z:=h.sim.aor (e:=13) (by decide);exact⟨⟨v1,fun y=>absurd y z⟩,fun y=>absurd y z⟩
section
variable {pe:ByteArray->Int}{e k:Nat}{E:RdF}{E':MdF}(hEp:∀j,k=j+1->∀r,Okr PlTok j r->Post e r (E r))(hEm:∀j,k=j+1->∀r,OkM j r->MPost r (E' r))(hE:∀j,k=j+1->LS j E E')(hEb:MB E')
include hEp hEm hE hEb
theorem call_sim{r:Rd}{m:Mr}(h:SR k r m)(he:r.s.e=0){t:ByteArray}{q:Int×Int}(hq:(t,q)∈aa2):
 (Sim (aeg E pe q.1 q.2 r).2.s (mcal pe E' q.1 (m.beg lpT)).2.end_∧((aeg E pe q.1 q.2 r).2.s.e=0->(mcal pe E' q.1 (m.beg lpT)).2.end_.o=(aeg E pe q.1 q.2 r).2.o))∧((aeg E pe q.1 q.2 r).2.s.e=0->(aeg E pe q.1 q.2 r).1=(mcal pe E' q.1 (m.beg lpT)).1):=by
 obtain⟨-,-,-,s4,-⟩:=arG _ hq;dsimp only at s4;obtain⟨j,rfl,g⟩:=aqK h he;have hs:=hE j rfl;have hF:=hEp j rfl;have hf:=hEm j rfl;unfold aeg mcal;by_cases c:q.1=22∨q.1=26
 ·rw [if_pos c];unfold hasC;obtain⟨p1,p2⟩:=aqT (pe:=pe) g.sim g.km.tk g.km.i;have pg:=aqz pe (m.beg lpT);have ho:(abf pe r.paren.s).2.e=0->(aoA pe (m.beg lpT)).2.o=r.paren.o:=fun z=>(p1.oz pg z).trans (g.o (pathF_e z));generalize r.paren=p at*;generalize m.beg lpT=b at*;rw[p1.isT];by_cases d:q.1=22
  ·rw[if_neg (fun z=>by omega),if_pos d,d];exact aqD p1 ho fun z=>by rw[p2 z]
  ·have d26:q.1=26:=by omega
   rw[if_neg d,if_pos d26,d26];by_cases y:(aoA pe b).2.isT cmT=true
   ·rw[if_pos ⟨rfl,y⟩,if_pos y];have gn:=(MGo.next (aoA pe b).2)
    obtain⟨a1,a2⟩:=arR p1.next (by rw[gn.l,pg.l];exact g.km.nn);have z1:(intF (abf pe p.s).2.next).2.e=0->(abf pe p.s).2.e=0:=fun z=>by
     have:=intF_e z;rw[Sim.aoD]at this;exact this
    exact aqD a1 (fun z=>(a1.oz (gn.trans (aqL _)) z).trans (ho (z1 z))) fun z=>by rw[a2 z,p2 (z1 z)]
   ·rw[if_neg (fun z=>y z.2),if_neg y];exact aqD p1 ho fun z=>by rw[p2 z]
 ·rw [if_neg c,if_neg (fun z=>c (.inl z)),if_neg (fun z=>c (.inr z))];by_cases d:q.1=15
  ·rw[if_pos d,if_pos d];unfold divF;have e1:aqs E' 2 0 [] (m.beg lpT)=([(E' (m.beg lpT)).1,(E' ((E' (m.beg lpT)).2.expect cmT)).1],(E' ((E' (m.beg lpT)).2.expect cmT)).2):=rfl;rw[e1];have x1:=(hs _ _ g).2;have g1:=SR.to hF hf hs g;have g2:SR j (comR (E r.paren).2) ((E' (m.beg lpT)).2.expect cmT):=g1.expect cmT;have x2:=(hs _ _ g2).2;have g3:=SR.to hF hf hs g2;have g4:SR j (comR (E (comR (E r.paren).2)).2) ((E' ((E' (m.beg lpT)).2.expect cmT)).2.expect cmT):=g3.expect cmT;have p2:=hF _ g2.kr;generalize r.paren=p at*;generalize m.beg lpT=b at*;obtain⟨a1,a2⟩:=arR g4.sim g4.km.nn;show(Sim (Rd.mk (intF (comR (E (comR (E p).2)).2).s).2 (E (comR (E p).2)).2.o).close.s _∧_)∧_;have z1:(intF (comR (E (comR (E p).2)).2).s).2.e=0->(comR (E (comR (E p).2)).2).s.e=0:=fun z=>intF_e z;have z2:(comR (E (comR (E p).2)).2).s.e=0->(E (comR (E p).2)).2.s.e=0:=fun z=>Classical.byContradiction fun y=>(Steps.expect _ _).er y z;have z3:(E (comR (E p).2)).2.s.e=0->(E p).2.s.e=0:=fun z=>Classical.byContradiction fun y=>p2.g.s.er ((Steps.expect _ _).er y) z;exact aqD a1 (fun z=>(a1.oz (aqL _) z).trans (g4.o (z1 z))) fun z=>by
    rw[a2 z,x1 (z3 (z2 (z1 z))),x2 (z2 (z1 z))]
  ·rw[if_neg d,if_neg d];have s5:q.2=(aqG q.1:Int):=by
    rcases s4 with z|z|z|z
    ·exact absurd (.inl z) c
    ·exact absurd (.inr z) c
    ·exact absurd z d
    ·exact z
   have n3:aqG q.1<=3:=by unfold aqG;rw[if_neg d];split<;>omega
   rw[s5];unfold abl;obtain⟨⟨a,b⟩,x⟩:=fix_sim hF hf hs hEb (aqG q.1) (r.paren.s.l.length+4) (aqG q.1) 0 [] [] _ _ g (by omega) (by omega) (fun _=>rfl);exact aqD a b fun z=>by
    have:=x z;rw[this];rfl
theorem prim_sim{r:Rd}{m:Mr}(h:SR k r m)(he:r.s.e=0):
 (Sim (ahj E pe r).2.s (aqt pe E' m).2∧((ahj E pe r).2.s.e=0->(aqt pe E' m).2.o=(ahj E pe r).2.o))∧((ahj E pe r).2.s.e=0->(ahj E pe r).1=(aqt pe E' m).1):=by
 have hx:=Mr.anY PlTok.default h.km.tk;have hb:¬r.bad=true:=by unfold Rd.bad;simp[he]
 have isT_of:∀t,m.isT t=true->(m.peek.kind=1∨m.peek.kind=5)∧m.peek.text=t:=fun t g=>Mr.ard.1 g;unfold ahj;rw[if_neg hb,h.sim.peek,h.sim.isT];by_cases c:m.isT lpT=true
 ·obtain⟨k1,k2⟩:=isT_of _ c;have k5:m.peek.kind=5:=by
   rcases k1 with z|z
   ·exact absurd k2 (apO hx z (by decide))
   ·exact z
  have hv:r.s.val=false:=by
   unfold St.val;rw[h.sim.peek,if_neg (by omega),if_neg (by omega),h.sim.neg];unfold Mr.neg;have:m.isT hyT=false:=by
    cases y:m.isT hyT
    ·rfl
    ·have:=(isT_of _ y).2;rw[k2]at this;exact absurd this (by decide)
   rw[this];rfl
  rw[hv,if_neg (by decide),if_neg (fun z=>by omega),if_neg (fun z=>by omega),if_pos c];unfold aqt;rw[if_pos c];obtain⟨j,rfl,g⟩:=aqK h he;have g1:=SR.to (hEp j rfl) (hEm j rfl) (hE j rfl) g;have x1:=(hE j rfl _ _ g).2;exact aqD g1.sim g1.o x1
 rw[if_neg c];unfold aqt;rw[if_neg c];by_cases d:m.peek.kind=1
 ·have ht:0<m.peek.text.size:=by
   have:=hx.k1 d;refine Nat.pos_of_ne_zero fun z=>?_;have e0:m.peek.text=⟨#[]⟩:=by
    rw[aaW];exact z
   rw[e0]at this;exact absurd this (by decide)
  have hval:r.s.val=kHas valL m.peek.text:=by unfold St.val;rw[h.sim.peek,if_neg (by omega),if_pos d]
  by_cases b:resB m.peek.text=false
  ·have n1:kHas valL m.peek.text=false:=by
    cases y:kHas valL m.peek.text
    ·rfl
    ·rw[val_res _ (kHas_in y)]at b;exact Bool.noConfusion b
   have n2:ab5 m.peek.text aa2=none:=by
    cases y:ab5 m.peek.text aa2 with
    | none=>rfl
    | some q=>rw[(asw _ (aqJ y)).1]at b;exact Bool.noConfusion b
   rw[hval,n1,if_neg (by decide),n2,if_neg (fun z=>Bool.noConfusion z.2),if_pos ⟨d,b⟩,if_pos ⟨d,b⟩];obtain⟨p1,p2⟩:=aqT (pe:=pe) h.sim h.km.tk h.km.i;exact⟨⟨p1,fun z=>(p1.oz (aqz pe m) z).trans (h.o he)⟩,fun z=>by rw[p2 z]⟩
  ·have nb:¬(m.peek.kind=1∧resB m.peek.text=false):=fun z=>b z.2;rw[if_neg nb,if_neg nb];have em:mcw m.peek=mcwL m.peek.text 28:=by unfold mcw;rw[if_pos d]
   rw[em];rcases arN ht with⟨n2,n3⟩|⟨q,n2,n3,n4,n5⟩
   ·have nc:¬(m.peek.kind=1∧(none:Option (Int×Int)).isSome=true):=fun z=>Bool.noConfusion z.2;rw[n2,if_neg nc,n3,if_pos rfl];exact aro h he rfl
   ·rw[hval,(asw _ n5).2,if_neg (by decide),n2,if_pos ⟨d,rfl⟩,n3,if_neg n4];exact call_sim hEp hEm hE hEb h.next (by show r.s.next.e=0;rw[Sim.aoD];exact he) n5
 ·have em:mcw m.peek=0:=by unfold mcw;rw[if_neg d]
  have n1:¬(m.peek.kind=1∧(ab5 m.peek.text aa2).isSome=true):=fun z=>d z.1;have n2:¬(m.peek.kind=1∧resB m.peek.text=false):=fun z=>d z.1;rw[if_neg n1,if_neg n2,if_neg n2,em,if_pos rfl];exact aro h he rfl
end
theorem prim_bad(E:RdF)(pe:ByteArray->Int)(r:Rd)(h:r.s.e≠0):(ahj E pe r).2=r:=by
 unfold ahj;rw[if_pos (show r.bad=true by unfold Rd.bad;simp[h])]
section
variable {pe:ByteArray->Int}(hpe:∀t,pe t=0->t.size<=200)(hpc:∀t,t.size<=100000000000->Af Tryz.prog 43 [.str fun _=>t] [] (.tup [.any,.int .i64 fun _=>pe t]) []){e D:Nat}(hD:65600<=D)
include hpe hpc hD
theorem asj{k:Nat}{E N U:RdF}{E' N' U':MdF}(hE:∀j,k=j+1->Fun PlTok (e+1) D j 67 E∧MLv (e+1) D j 1 E'∧LS j E E')(hN:∀j,k=j+1->Fun PlTok (e+1) D j 185 N∧MLv (e+1) D j 3 N'∧LS j N N')(hU:∀j,k=j+1->Fun PlTok (e+1) D j 282 U∧MLv (e+1) D j 8 U'∧LS j U U')(Eb:MB E')(Nb:MB N')(Ub:MB U'):
 LS k (lvlE pe E N U) (mL1 pe E' N' U')∧LS k (lvlN pe E N U) (mL3 pe E' N' U')∧LS k (unF U (ahj E pe)) (mL8 pe E' U'):=by
 have f8:=arp hD (fun j hj=>(hU j hj).1) (akL hpe (fun t h _=>hpc t h) hD fun j hj=>(hE j hj).1);have f7:=akK hD f8;have f6:=sum_ok hD f7;have f5:=ank hD f6;have f3:=aiP hD (fun j hj=>(hN j hj).1) (agM hD (fun j hj=>(hE j hj).1) f5);have f2:=asq hD f3;have m8:=asa hD (fun j hj=>(hU j hj).2.1) Ub (arx hpc hD fun j hj=>(hE j hj).2.1);have m7:=aqr (n:=7) hD (by decide) m8;have m6:=aqr (n:=6) hD (by decide) m7;have m5:=aqr (n:=5) hD (by decide) m6;have m3:=as9 hD (fun j hj=>(hN j hj).2.1) Nb (asf hD (fun j hj=>(hE j hj).2.1) m5);have m2:=aqr (n:=2) hD (by decide) m3;have Ep:∀j,k=j+1->∀r,Okr PlTok j r->Post (e+1) r (E r):=fun j hj r hr=>((hE j hj).1 r hr).1;have Em:∀j,k=j+1->∀r,OkM j r->MPost r (E' r):=fun j hj r hr=>((hE j hj).2.1 r hr).1;have Es:∀j,k=j+1->LS j E E':=fun j hj=>(hE j hj).2.2;have s8:=neg_sim (fun j hj=>(hU j hj).2.2) Ub (fun r m h he=>prim_sim (pe:=pe) Ep Em Es Eb h he) (prim_bad E pe);have s7:=aqu (b:=7) (by unfold isB;omega) (fun r h=>(f8 r h).1) (fun r h=>(m8 r h).1) s8 (arA _ _);have s6:=aqu (b:=6) (by unfold isB;omega) (fun r h=>(f7 r h).1) (fun r h=>(m7 r h).1) s7 (aqO _ _);have s5:=aqu (b:=5) (by unfold isB;omega) (fun r h=>(f6 r h).1) (fun r h=>(m6 r h).1) s6 (aqO _ _);have s4:=cmp_sim Ep Em Es Eb (fun r h=>(f5 r h).1) (fun r h=>(m5 r h).1) s5 (aqO _ _);have s3:=not_sim (fun j hj=>(hN j hj).2.2) Nb s4 (arC _ _);have s2:=aqu (b:=2) (by unfold isB;omega) (fun r h=>(f3 r h).1) (fun r h=>(m3 r h).1) s3 (arz _ _);have s1:=aqu (b:=1) (by unfold isB;omega) (fun r h=>(f2 r h).1) (fun r h=>(m2 r h).1) s2 (aqO _ _);exact⟨s1,s3,s8⟩
theorem arh:∀k,LS k (recV pe k).1 (mrec pe k).1∧LS k (recV pe k).2.1 (mrec pe k).2.1∧LS k (recV pe k).2.2 (mrec pe k).2.2
 | 0=>asj (e:=0) hpe hpc hD (fun j hj=>by omega) (fun j hj=>by omega) (fun j hj=>by omega) (fun _ _=>rfl) (fun _ _=>rfl) (fun _ _=>rfl)
 | k+1=>by
  obtain⟨a1,a2,a3⟩:=arT (e:=0) hpe (fun t h _=>hpc t h) hD k;obtain⟨b1,b2,b3⟩:=aqV (e:=0) hpc hD k;obtain⟨c1,c2,c3⟩:=arh k;obtain⟨d1,d2,d3⟩:=arw pe k;have key:∀{p:Nat->Prop},p k->∀j,k+1=j+1->p j:=fun hp j hj=>by
   obtain rfl:k=j:=by omega
   exact hp
  exact asj (e:=0) hpe hpc hD (key (p:=fun j=>Fun PlTok 1 D j 67 _∧MLv 1 D j 1 _∧LS j _ _) ⟨a1,b1,c1⟩) (key (p:=fun j=>Fun PlTok 1 D j 185 _∧MLv 1 D j 3 _∧LS j _ _) ⟨a2,b2,c2⟩) (key (p:=fun j=>Fun PlTok 1 D j 282 _∧MLv 1 D j 8 _∧LS j _ _) ⟨a3,b3,c3⟩) d1 d2 d3
theorem arY{s:St}{m:Mr}(h:SR 33 (.mk s 0) m)(ck:X->Int):aqF pe ck s=aqx pe ck m:=by
 obtain⟨⟨p1,-⟩,p2⟩:=(arh hpe hpc hD 33).1 _ _ h;unfold aqF aqx agk;rw[show(recV pe 33).1 (.mk s 0)=abP pe s from rfl]at p1 p2;rw[show(mrec pe 33).1 m=aqA pe m from rfl]at p1 p2;generalize abP pe s=q at*;generalize aqA pe m=q' at*;obtain⟨x,u⟩:=q;obtain⟨x',m'⟩:=q';obtain⟨u,o⟩:=u;rw[show(Rd.mk u o).s=u from rfl]at*;dsimp only at p1 p2 ⊢;have fin:∀{u:St} {v:Mr},Sim u v->Sim (endF u) (mfin v):=fun{u v} g=>by
  unfold endF mfin;rw[g.peek];by_cases z:v.e=0
  ·by_cases y:v.peek.kind≠0
   ·rw[if_pos y,if_pos ⟨z,y⟩];exact g.fail 13
   ·rw[if_neg y,if_neg (fun w=>y w.2)];exact g
  ·have k0:¬v.peek.kind≠0:=by rw[(Mr.aqp z).1];exact fun w=>w rfl
   rw[if_neg k0,if_neg (fun w=>k0 w.2)];exact g
 by_cases c1:u.e≠0
 ·rw[if_pos c1];have hm:m'.e≠0:=by rw[(p1.bad c1).2.2.2.2.2.1];exact c1
  have f:=fin p1;have fb:(endF u).e≠0:=by
   unfold endF;split
   ·rw[(p1.aqp c1).2.1];exact c1
   ·exact c1
  rw[(Mr.aqp hm).2.2.1,f.place];dsimp only;rw[if_pos fb,if_pos fb]
 ·rw [if_neg c1];have hx:=p2 (Classical.byContradiction c1);subst hx;have f:=fin (p1.fail (ck x));by_cases c2:(u.fail (ck x)).e≠0
  ·rw[if_pos c2];have fb:(endF (u.fail (ck x))).e≠0:=by
    unfold endF;split
    ·rw[((p1.fail (ck x)).aqp c2).2.1];exact c2
    ·exact c2
   rw[f.place];dsimp only;rw[if_pos fb,if_pos fb]
  ·rw[if_neg c2,f.place]
end
end Go.Ai
