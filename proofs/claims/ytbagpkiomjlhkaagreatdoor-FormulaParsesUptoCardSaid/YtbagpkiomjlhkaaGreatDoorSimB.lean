/- Chapter 17: program and model read alike: operators, lists of operands. -/
import Derived.Test.YtbagpkiomjlhkaaGreatDoorSimA
import Derived.Test.YtbagpkiomjlhkaaGreatDoorLvA
set_option linter.all false
namespace Go.Ai
open Go Go.Proofs
set_option maxRecDepth 100000
set_option maxHeartbeats 4000000
theorem aqN{r:Mr}{n:Int}:∀(f k:Nat),(∀j,k<=j->j<k+f->¬(sgnN j=n∧r.isT (sgnI j)=true))->mopL r n f k=0
 | 0,_,_=>rfl
 | f+1,k,h=>by
  unfold mopL;rw[if_neg (h k (Nat.le_refl _) (by omega))];exact aqN f (k+1) fun j h1 h2=>h j (by omega) (by omega)
theorem ar6{r:Mr}{n:Int}{j:Nat}(h1:sgnN j=n)(h2:r.isT (sgnI j)=true):∀(f k:Nat),k<=j->j<k+f->(∀i,k<=i->i<j->¬(sgnN i=n∧r.isT (sgnI i)=true))->mopL r n f k=j
 | 0,k,h3,h4,_=>absurd h4 (by omega)
 | f+1,k,h3,h4,h=>by
  unfold mopL;by_cases e:k=j
  ·subst e;rw[if_pos ⟨h1,h2⟩]
  ·rw[if_neg (h k (Nat.le_refl _) (by omega))];exact ar6 h1 h2 f (k+1) (by omega) (by omega) fun i a b=>h i (by omega) b
theorem ops_all:∀b,b<10->∀j,j<29->1<=b->sgnN ((j:Nat):Int)=((b:Nat):Int)->∃p∈opsL b,p.1=sgnI ((j:Nat):Int):=by decide +kernel
theorem ops_of:∀b,b<10->∀p∈opsL b,sgnN p.2=((b:Nat):Int)∧sgnI p.2=p.1∧1<=p.2∧p.2<=28:=by decide +kernel
theorem ops_one:∀i,i<29->∀j,j<29->sgnN ((i:Nat):Int)=sgnN ((j:Nat):Int)->0<sgnN ((i:Nat):Int)->sgnI ((i:Nat):Int)=sgnI ((j:Nat):Int)->i=j:=by decide +kernel
theorem aqJ{α:Type}{t:ByteArray}:∀{l:List (ByteArray×α)} {v:α},ab5 t l=some v->(t,v)∈l
 | [],v,h=>by cases h
 | (k,u)::r,v,h=>by
  unfold ab5 at h;split at h
  ·rename_i e;cases h;rw[<- e];exact List.mem_cons_self ..
  ·exact List.mem_cons_of_mem _ (aqJ h)
theorem aqQ{α:Type}{t:ByteArray}:∀{l:List (ByteArray×α)},ab5 t l=none->∀p∈l,p.1≠t
 | [],_,p,h=>by cases h
 | (k,u)::r,h,p,hp=>by
  unfold ab5 at h;split at h
  ·cases h
  ·rename_i e;rcases List.mem_cons.1 hp with rfl|hp
   ·exact e
   ·exact aqQ h p hp
theorem Mr.ard{m:Mr}{t:ByteArray}:m.isT t=true↔(m.peek.kind=1∨m.peek.kind=5)∧m.peek.text=t:=by
 unfold Mr.isT;simp
theorem aru{r:Rd}{m:Mr}(h:Sim r.s m){b:Nat}(hb:isB b):(r.op b=none∧mop m b=0)∨∃o,r.op b=some o∧mop m b=o∧0<o:=by
 have b1:1<=b∧b<10:=by unfold isB at hb;omega
 unfold Rd.op mop;rw[h.peek];by_cases q:m.peek.kind≠1∧m.peek.kind≠5
 ·rw[if_pos q];refine .inl ⟨rfl,aqN _ _ fun j _ _ g=>?_⟩;have:=(Mr.ard.1 g.2).1;omega
 ·rw[if_neg q];have q':m.peek.kind=1∨m.peek.kind=5:=by omega
  cases hf:ab5 m.peek.text (opsL b)with
  | none=>
   refine .inl ⟨rfl,aqN _ _ fun j j1 j2 g=>?_⟩;obtain⟨p,p1,p2⟩:=ops_all b b1.2 j (by omega) b1.1 g.1;exact aqQ hf _ p1 (p2.trans (Mr.ard.1 g.2).2.symm)
  | some o=>
   obtain⟨s1,s2,s3,s4⟩:=ops_of b b1.2 _ (aqJ hf);dsimp only at s1 s2 s3 s4;obtain⟨j,rfl⟩:∃j:Nat,o=j:=⟨o.toNat,by omega⟩
   refine .inr ⟨j,rfl,ar6 s1 (Mr.ard.2 ⟨q',s2.symm⟩) 28 1 (by omega) (by omega) fun i i1 i2 g=>?_,by omega⟩;have:=ops_one i (by omega) j (by omega) (g.1.trans s1.symm) (by rw[g.1];omega) ((Mr.ard.1 g.2).2.symm.trans s2.symm);omega
structure SR(k:Nat)(r:Rd)(m:Mr):Prop where
 sim:Sim r.s m
 o:r.s.e=0->m.o=r.o
 kr:Okr PlTok k r
 km:OkM k m
def LS(k:Nat)(F:RdF)(f:MdF):Prop:=∀r m,SR k r m->(Sim (F r).2.s (f m).2∧((F r).2.s.e=0->(f m).2.o=(F r).2.o))∧((F r).2.s.e=0->(F r).1=(f m).1)
theorem SR.next{k:Nat}{r:Rd}{m:Mr}(h:SR k r m):SR k (r.to r.s.next) m.next:=
 ⟨h.sim.next,fun q=>by rw[Mr.next_o];exact h.o (by rw[<- Sim.aoD (s:=r.s)];exact q),h.kr.same (.next _) rfl,h.km.go (.next m)⟩
theorem SR.to{e k:Nat}{F:RdF}{f:MdF}(hF:∀r,Okr PlTok k r->Post e r (F r))(hf:∀r,OkM k r->MPost r (f r))(hs:LS k F f){r:Rd}{m:Mr}(h:SR k r m):SR k (F r).2 (f m).2:=
 ⟨(hs r m h).1.1,(hs r m h).1.2,h.kr.go (hF r h.kr).g,h.km.go (hf m h.km).g⟩
theorem Sim.len{s:St}{m:Mr}(h:Sim s m)(he:s.e=0):s.l.length=m.l.length-m.i∧0<s.l.length:=by
 obtain⟨_,_,_,_,c,d,_⟩:=h.good he;rw[c,List.length_drop];omega
theorem Sim.err{s:St}{m:Mr}(h:Sim s m)(he:m.e≠0):s.e≠0:=by
 rcases h with⟨a,_⟩|⟨_,b,_⟩
 ·exact a
 ·exact absurd b he
theorem aqu{e k b:Nat}(hb:isB b){F:RdF}{f:MdF}(hF:∀r,Okr PlTok k r->Post e r (F r))(hf:∀r,OkM k r->MPost r (f r))(hs:LS k F f)(hbd:MB f):LS k (aaT b F) (mch b f):=by
 have key:∀(n n':Nat) (x x':X) (r:Rd) (m:Mr),SR k r m->(r.s.e=0->x=x')->(r.s.e=0->r.s.l.length<=n∧r.s.l.length<=n') ->
  (Sim (af7 b F n x r).2.s (mchL b f n' x' m).2∧((af7 b F n x r).2.s.e=0->(mchL b f n' x' m).2.o=(af7 b F n x r).2.o))∧((af7 b F n x r).2.s.e=0->(af7 b F n x r).1=(mchL b f n' x' m).1):=by
  intro n
  induction n with
  | zero=>
   intro n' x x' r m h hx hn;have he:r.s.e≠0:=fun q=>by have:=(h.sim.len q).2;have:=(hn q).1;omega
   have hm:mop m b=0:=by
    rcases aru h.sim hb with⟨_,q⟩|⟨o,q1,_,_⟩
    ·exact q
    ·have:=aiK q1;rw[(h.sim.bad he).2.1]at this;exact absurd rfl this
   have e2:mchL b f n' x' m=(x',m):=by
    cases n' with
    | zero=>rfl
    | succ n'=>simp only[mchL];rw[hm,if_neg (fun g=>absurd g.1 (by decide))]
   rw[e2];exact⟨⟨h.sim,h.o⟩,hx⟩
  | succ n ih=>
   intro n' x x' r m h hx hn;simp only[af7];rcases aru h.sim hb with⟨q1,q2⟩|⟨o,q1,q2,q3⟩
   ·rw[q1];have e2:mchL b f n' x' m=(x',m):=by
     cases n' with
     | zero=>rfl
     | succ n'=>simp only[mchL];rw[q2,if_neg (fun g=>absurd g.1 (by decide))]
    rw[e2];exact⟨⟨h.sim,h.o⟩,hx⟩
   ·rw[q1];dsimp only;have hk:=aiK q1;have he:r.s.e=0:=Classical.byContradiction fun g=>by
     rw[(h.sim.bad g).2.1]at hk;exact hk rfl
    obtain⟨n1,n2⟩:=hn he;have hl:=(h.sim.len he).2;obtain⟨n',rfl⟩:∃j,n'=j+1:=⟨n'-1,by omega⟩
    simp only[mchL];rw[q2,if_pos ⟨q3,(h.sim.good he).2.1⟩];have h1:=h.next;have h2:=SR.to hF hf hs h1;have hnl:=abg h.kr hk;have hp:=(hF _ h1.kr).g.s.len;have hp:(F (r.to r.s.next)).2.s.l.length<=r.s.next.l.length:=hp;refine ih n' _ _ _ _ h2 (fun q=>?_) fun _=>⟨by omega,by omega⟩
    have e3:=(hs _ _ h1).2 q;rw[e3,hx he]
 intro r m h;have h2:=SR.to hF hf hs h;unfold aaT mch;by_cases he:r.s.e=0
 ·rw[if_neg (fun g=>g (h.sim.good he).2.1)];exact key _ _ _ _ _ _ h2 (fun q=>(hs r m h).2 q) fun q=>⟨Nat.le_refl _,Nat.le_of_eq (h2.sim.len q).1⟩
 ·have hm:m.e≠0:=by rw[(h.sim.bad he).2.2.2.2.2.1];exact he
  rw[if_pos hm];have e1:=(hF r h.kr).g.s.er he;have k1:=key (F r).2.s.l.length 0 (F r).1 (f m).1 _ _ h2 (fun q=>absurd q e1) (fun q=>absurd q e1);have k2:Sim (af7 b F (F r).2.s.l.length (F r).1 (F r).2).2.s m:=by
   have:=k1.1.1;simp only[mchL]at this;rw[hbd.s hm]at this;exact this
  have k3:=k2.err hm;exact⟨⟨k2,fun q=>absurd q k3⟩,fun q=>absurd q k3⟩
theorem Sim.op{s:St}{m:Mr}(h:Sim s m)(o:Int):Sim s (m.op o):=h
theorem Sim.expect{s:St}{m:Mr}(h:Sim s m)(t:ByteArray):Sim (s.expect t) (m.expect t):=by
 unfold St.expect Mr.expect;rw[h.isT];split
 ·exact h.next
 ·exact h.fail 13
theorem Sim.acc{s:St}{m:Mr}(h:Sim s m)(t:ByteArray):Sim (s.accept t) (m.accept t):=by
 unfold St.accept Mr.accept;rw[h.isT];split
 ·exact h.next
 ·exact h
theorem Sim.aqp{s:St}{m:Mr}(h:Sim s m)(he:s.e≠0):s.next=s∧(∀e,s.fail e=s)∧(∀t,s.isT t=false)∧∀t,s.expect t=s:=by
 obtain⟨a,_,_,b,_⟩:=h.bad he;have hf:∀e,s.fail e=s:=fun e=>by unfold St.fail;rw[if_neg (fun g=>by rw[a]at g;exact Bool.noConfusion g.1)]
 have hi:∀t,s.isT t=false:=fun t=>by unfold St.isT;rw[a];rfl
 exact⟨b,hf,hi,fun t=>by unfold St.expect;rw[hi t,if_neg (by decide),hf]⟩
theorem Mr.aqp{m:Mr}(he:m.e≠0):m.peek=default∧m.next=m∧(∀e,m.fail e=m)∧(∀t,m.isT t=false)∧(∀t,m.expect t=m)∧∀t,m.beg t=m:=by
 have hp:m.peek=default:=by unfold Mr.peek;rw[if_pos (.inl he)]
 have hn:m.next=m:=by unfold Mr.next;rw[if_neg];rw[hp];exact fun g=>g rfl
 have hf:∀e,m.fail e=m:=fun e=>by unfold Mr.fail;rw[if_neg (fun g=>he g.1)]
 have hi:∀t,m.isT t=false:=fun t=>by unfold Mr.isT;rw[hp];rfl
 exact⟨hp,hn,hf,hi,fun t=>by unfold Mr.expect;rw[hi t,if_neg (by decide),hf],fun t=>by unfold Mr.beg;rw[hi t,if_neg (by decide),hf]⟩
theorem SR.ok{k:Nat}{r:Rd}{m:Mr}(h:SR k r m)(he:r.s.e=0):m.e=0∧r.s.ok=true∧m.o=r.o:=⟨(h.sim.good he).2.1,(h.sim.good he).1,h.o he⟩
theorem pre_open{k:Nat}{r:Rd}{m:Mr}(h:SR k r m)(he:r.s.e=0){t:ByteArray}(ht:m.isT t=true):∃j,k=j+1∧SR j (r.enter.to r.enter.s.next) (m.beg t):=by
 obtain⟨me,ok,ho⟩:=h.ok he;have hk:r.s.peek.kind≠0:=by rw[h.sim.peek];exact(Mr.ab7 ht).1
 obtain⟨j,rfl,g1,_⟩:=h.kr.enter ok hk;obtain⟨j',e1,g2⟩:=h.km.beg me (MBeg.of t me);obtain rfl:j=j':=by omega
 refine⟨j,rfl,?_,?_,g1,g2⟩
 ·show Sim (if r.o=32 then r.s.fail 23 else r.s).next (m.beg t);unfold Mr.beg;rw[if_pos ht,ho];by_cases q:r.o=32
  ·rw[if_pos q,if_pos q];have hf:=h.sim.fail 23;rw[(hf.aqp (h.sim.aor (by decide))).1];exact hf
  ·rw[if_neg q,if_neg q];exact(h.sim.op _).next
 ·intro z;show(m.beg t).o=r.o+1;have hz:(m.beg t).e=0:=by
   refine Classical.byContradiction fun g=>?_;have:=Sim.err (s:=(if r.o=32 then r.s.fail 23 else r.s).next) (m:=m.beg t) ?_ g
   ·exact this z
   ·unfold Mr.beg;rw[if_pos ht,ho];by_cases q:r.o=32
    ·rw[if_pos q,if_pos q];have hf:=h.sim.fail 23;rw[(hf.aqp (h.sim.aor (by decide))).1];exact hf
    ·rw[if_neg q,if_neg q];exact(h.sim.op _).next
  rw[((MBeg.of t me).oz hz).1,ho]
theorem arW{k:Nat}{U:RdF}{u:MdF}(hs:∀j,k=j+1->LS j U u)(hb:MB u)(op:Int)(t:ByteArray){r:Rd}{m:Mr}(h:SR k r m)(he:r.s.e=0)(ht:m.isT t=true):
 (Sim (preF op t U r).2.s (mpre op t u m).2∧((preF op t U r).2.s.e=0->(mpre op t u m).2.o=(preF op t U r).2.o))∧((preF op t U r).2.s.e=0->(preF op t U r).1=(mpre op t u m).1):=by
 obtain⟨j,rfl,g⟩:=pre_open h he ht;unfold preF mpre;generalize r.enter.to r.enter.s.next=r1 at*;generalize m.beg t=m1 at*;by_cases q:r1.bad=true
 ·rw[if_pos q];have e1:r1.s.e≠0:=by unfold Rd.bad at q;simpa using q
  have e2:m1.e≠0:=by rw[(g.sim.bad e1).2.2.2.2.2.1];exact e1
  rw[hb.s e2];exact⟨⟨g.sim.op _,fun z=>absurd z e1⟩,fun z=>absurd z e1⟩
 ·rw[if_neg q];obtain⟨⟨a,b⟩,c⟩:=hs j rfl r1 m1 g;exact⟨⟨a.op _,fun z=>by show(u m1).2.o-1=(U r1).2.o-1;rw[b z]⟩,fun z=>by rw[c z]⟩
theorem not_sim{k:Nat}{N C:RdF}{n c:MdF}(hN:∀j,k=j+1->LS j N n)(hnb:MB n)(hC:LS k C c)(hcb:MB c):LS k (negF N C) (mnot n c):=fun r m h=>by
 by_cases he:r.s.e=0
 ·have e1:negF N C r=if m.isT notT=true then preF 3 notT N r else C r:=by unfold negF;rw[h.sim.isT];rfl
  rw[e1];unfold mnot;rw[if_neg (show¬m.e≠0 from fun g=>g (h.ok he).1)];by_cases q:m.isT notT=true
  ·rw[if_pos q,if_pos q];exact arW hN hnb 3 notT h he q
  ·rw[if_neg q,if_neg q];exact hC r m h
 ·have hm:m.e≠0:=by rw[(h.sim.bad he).2.2.2.2.2.1];exact he
  have e1:negF N C r=C r:=by unfold negF;rw[(h.sim.aqp he).2.2.1,if_neg (by decide)]
  unfold mnot;rw[if_pos hm,e1];have a:=(hC r m h).1.1;rw[hcb.s hm]at a;have k3:=a.err hm;exact⟨⟨a,fun z=>absurd z k3⟩,fun z=>absurd z k3⟩
theorem neg_sim{k:Nat}{U Pm:RdF}{u p:MdF}(hU:∀j,k=j+1->LS j U u)(hub:MB u)(hP:∀r m,SR k r m->r.s.e=0->(Sim (Pm r).2.s (p m).2∧((Pm r).2.s.e=0->(p m).2.o=(Pm r).2.o))∧((Pm r).2.s.e=0->(Pm r).1=(p m).1))(hPb:∀r,r.s.e≠0->(Pm r).2=r):LS k (unF U Pm) (mneg u p):=fun r m h=>by
 by_cases he:r.s.e=0
 ·have e1:unF U Pm r=if m.isT hyT=true∧m.neg=false then preF 16 hyT U r else Pm r:=by unfold unF;rw[h.sim.neg,h.sim.isT];rfl
  rw[e1];unfold mneg;rw[if_neg (show¬m.e≠0 from fun g=>g (h.ok he).1)];by_cases q:m.isT hyT=true∧m.neg=false
  ·rw[if_pos q,if_pos q];exact arW hU hub 16 hyT h he q.1
  ·rw[if_neg q,if_neg q];exact hP r m h he
 ·have hm:m.e≠0:=by rw[(h.sim.bad he).2.2.2.2.2.1];exact he
  have e1:unF U Pm r=Pm r:=by unfold unF;rw[(h.sim.aqp he).2.2.1,if_neg (fun g=>Bool.noConfusion g.1)]
  unfold mneg;rw[if_pos hm,e1,hPb r he];exact⟨⟨h.sim,fun z=>absurd z he⟩,fun z=>absurd z he⟩
theorem aqK{k:Nat}{r:Rd}{m:Mr}(h:SR k r m)(he:r.s.e=0):∃j,k=j+1∧SR j r.paren (m.beg lpT):=by
 obtain⟨me,ok,ho⟩:=h.ok he;obtain⟨_,_,_,g4,j,rfl,g5⟩:=acg h.kr he;obtain⟨j',e1,g2⟩:=h.km.beg me (MBeg.of lpT me);obtain rfl:j=j':=by omega
 have hs:Sim r.paren.s (m.beg lpT):=by
  unfold Rd.paren Mr.beg;rw[h.sim.isT];show Sim (if m.isT lpT=true then Rd.mk (r.enter.s.expect lpT) r.enter.o else Rd.mk (r.s.expect lpT) r.o).s _;by_cases q:m.isT lpT=true
  ·rw[if_pos q,if_pos q,ho];show Sim ((if r.o=32 then r.s.fail 23 else r.s).expect lpT) _;by_cases z:r.o=32
   ·rw[if_pos z,if_pos z];have hf:=h.sim.fail 23;rw[(hf.aqp (h.sim.aor (by decide))).2.2.2];exact hf
   ·rw[if_neg z,if_neg z];unfold St.expect;rw[h.sim.isT,if_pos q];exact(h.sim.op _).next
  ·rw[if_neg q,if_neg q];show Sim (r.s.expect lpT) _;unfold St.expect;rw[h.sim.isT,if_neg q];exact h.sim.fail 13
 refine⟨j,rfl,hs,fun z=>?_,g5,g2⟩;have hz:(m.beg lpT).e=0:=Classical.byContradiction fun g=>hs.err g z;rw[((MBeg.of lpT me).oz hz).1,ho,(g4 z).1]
theorem arf{s:St}{o:Int}{m:Mr}(h:Sim s m)(ho:s.e=0->m.o=o):Sim (Rd.mk s o).close.s m.end_∧((Rd.mk s o).close.s.e=0->m.end_.o=(Rd.mk s o).close.o):=by
 have hs:=h.expect ⟨#[41]⟩;refine⟨hs.op _,fun z=>?_⟩;have z2:s.e=0:=Classical.byContradiction fun g=>by
  rw[show(Rd.mk s o).close.s=s.expect ⟨#[41]⟩from rfl,(h.aqp g).2.2.2]at z;exact g z
 show(m.expect ⟨#[41]⟩).o-1=o-1;have:(m.expect ⟨#[41]⟩).o=m.o:=by
  have g:=MGo.expect m ⟨#[41]⟩;refine g.oz (Classical.byContradiction fun q=>?_);exact hs.err q z
 rw[this,ho z2]
theorem SR.expect{k:Nat}{r:Rd}{m:Mr}(h:SR k r m)(t:ByteArray):SR k (r.to (r.s.expect t)) (m.expect t):=by
 have hs:=h.sim.expect t;refine⟨hs,fun z=>?_,h.kr.same (.expect _ _) rfl,h.km.go (.expect m t)⟩;have z2:r.s.e=0:=Classical.byContradiction fun g=>(Steps.expect r.s t).er g z;have hz:(m.expect t).e=0:=Classical.byContradiction fun g=>hs.err g z;rw[(MGo.expect m t).oz hz];exact h.o z2
section
variable {e k:Nat}{F:RdF}{f:MdF}(hF:∀r,Okr PlTok k r->Post e r (F r))(hf:∀r,OkM k r->MPost r (f r))(hs:LS k F f)(hb:MB f)
include hF hf hs hb
theorem list_sim:∀(n n':Nat) (i:Int) (l l':List X) (x:X) (r:Rd) (m:Mr),SR k r m->1<=i->(r.s.e=0->l'=x::l)->(r.s.e=0->r.s.l.length<=n∧r.s.l.length<=n') ->
 (Sim (adb F 1 (-1) n i l r).2.s (mlsL f n' l' m).2∧((adb F 1 (-1) n i l r).2.s.e=0->(mlsL f n' l' m).2.o=(adb F 1 (-1) n i l r).2.o))∧((adb F 1 (-1) n i l r).2.s.e=0->(mlsL f n' l' m).1=x::(adb F 1 (-1) n i l r).1):=by
 intro n
 induction n with
 | zero=>
  intro n' i l l' x r m h hi hl hn;have he:r.s.e≠0:=fun q=>by have:=(h.sim.len q).2;have:=(hn q).1;omega
  have hm:m.e≠0:=by rw[(h.sim.bad he).2.2.2.2.2.1];exact he
  have e2:mlsL f n' l' m=(l',m):=by
   cases n' with
   | zero=>rfl
   | succ n'=>simp only[mlsL];rw[(Mr.aqp hm).2.2.2.1,if_neg (by decide)]
  rw[e2];exact⟨⟨h.sim,h.o⟩,fun z=>absurd z he⟩
 | succ n ih=>
  intro n' i l l' x r m h hi hl hn;simp only[adb];have hmo:aiQ 1 (-1) i r=(!r.bad&&r.s.isT cmT):=by
   unfold aiQ;rw[decide_eq_false (show¬i<1 by omega)];rfl
  rw[hmo];by_cases he:r.s.e=0
  ·have hbd:r.bad=false:=by unfold Rd.bad;simp[he]
   rw[hbd,h.sim.isT];by_cases q:m.isT cmT=true
   ·rw[q,if_pos (by decide)];obtain⟨n1,n2⟩:=hn he;have hlen:=(h.sim.len he).2;obtain⟨n',rfl⟩:∃j,n'=j+1:=⟨n'-1,by omega⟩
    simp only[mlsL];rw[if_pos q];have e1:sepR i r=r.to r.s.next:=by
     unfold sepR;rw[if_pos (by omega)];unfold St.expect;rw[h.sim.isT];show r.to (if m.isT cmT=true then r.s.next else r.s.fail 13)=_;rw[if_pos q]
    rw[e1];have h1:=h.next;have h2:=SR.to hF hf hs h1;have hk:r.s.peek.kind≠0:=by rw[h.sim.peek];exact(Mr.ab7 q).1
    have hnl:=abg h.kr hk;have hp:=(hF _ h1.kr).g.s.len;have hp:(F (r.to r.s.next)).2.s.l.length<=r.s.next.l.length:=hp;refine ih n' _ _ _ x _ _ h2 (by omega) (fun z=>?_) fun _=>⟨by omega,by omega⟩
    rw[hl he,(hs _ _ h1).2 z];rfl
   ·have q':m.isT cmT=false:=by simpa using q
    rw[q',if_neg (by decide)];have e2:mlsL f n' l' m=(l',m):=by
     cases n' with
     | zero=>rfl
     | succ n'=>simp only[mlsL];rw[if_neg q]
    rw[e2];exact⟨⟨h.sim,h.o⟩,fun z=>hl he⟩
  ·have hbd:r.bad=true:=by unfold Rd.bad;simp[he]
   have hm:m.e≠0:=by rw[(h.sim.bad he).2.2.2.2.2.1];exact he
   rw[hbd,if_neg (by simp)];have e2:mlsL f n' l' m=(l',m):=by
    cases n' with
    | zero=>rfl
    | succ n'=>simp only[mlsL];rw[(Mr.aqp hm).2.2.2.1,if_neg (by decide)]
   rw[e2];exact⟨⟨h.sim,h.o⟩,fun z=>absurd z he⟩
theorem fix_sim(c:Nat):∀(n n':Nat) (i:Nat) (l l':List X) (r:Rd) (m:Mr),SR k r m->i+n'=c->n'<=n->(r.s.e=0->l'=l) ->
 (Sim (adb F c c n i l r).2.s (aqs f n' i l' m).2∧((adb F c c n i l r).2.s.e=0->(aqs f n' i l' m).2.o=(adb F c c n i l r).2.o))∧((adb F c c n i l r).2.s.e=0->(aqs f n' i l' m).1=(adb F c c n i l r).1):=by
 have badM:∀(n' i:Nat) (l':List X) (m:Mr),m.e≠0->(aqs f n' i l' m).2=m:=by
  intro n'
  induction n' with
  | zero=>exact fun i l' m _=>rfl
  | succ n' ih=>
   intro i l' m hm;simp only[aqs];have e1:msep i m=m:=by unfold msep;rw[(Mr.aqp hm).2.2.2.2.1];split<;>rfl
   rw[e1,hb.s hm];exact ih _ _ m hm
 intro n
 induction n with
 | zero=>
  intro n' i l l' r m h hc hn hl;obtain rfl:n'=0:=by omega
  exact⟨⟨h.sim,h.o⟩,hl⟩
 | succ n ih=>
  intro n' i l l' r m h hc hn hl;simp only[adb];have hmo:aiQ c c i r=(!r.bad&&decide ((i:Int)<(c:Int))):=by
   unfold aiQ;rw[decide_eq_false (show¬(c:Int)<0 by omega)];simp
  rw[hmo];by_cases he:r.s.e=0
  ·have hbd:r.bad=false:=by unfold Rd.bad;simp[he]
   rw[hbd];cases n' with
   | zero=>
    rw[if_neg (by simp;omega)];exact⟨⟨h.sim,h.o⟩,hl⟩
   | succ n'=>
    rw[if_pos (by simp;omega)];simp only[aqs];have h1:SR k (sepR i r) (msep i m):=by
     unfold sepR msep;by_cases z:0<i
     ·rw[if_pos (by omega),if_pos z];exact h.expect cmT
     ·rw[if_neg (by omega),if_neg z];exact h
    have h2:=SR.to hF hf hs h1;have:=ih n' (i+1) (l++[(F (sepR i r)).1]) (l'++[(f (msep i m)).1]) _ _ h2 (by omega) (by omega) (fun z=>?_)
    ·exact this
    ·rw[hl he,(hs _ _ h1).2 z]
  ·have hbd:r.bad=true:=by unfold Rd.bad;simp[he]
   have hm:m.e≠0:=by rw[(h.sim.bad he).2.2.2.2.2.1];exact he
   rw[hbd,if_neg (by simp),badM n' i l' m hm];exact⟨⟨h.sim,h.o⟩,fun z=>absurd z he⟩
end
end Go.Ai
