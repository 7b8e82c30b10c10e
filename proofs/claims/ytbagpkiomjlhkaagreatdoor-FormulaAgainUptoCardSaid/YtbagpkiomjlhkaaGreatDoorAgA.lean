/- Formulas read again: a text's tokens weigh no more than its bytes. -/
import Derived.Test.YtbagpkiomjlhkaaGreatDoorSimA
import Derived.Test.YtbagpkiomjlhkaaGreatDoorPrD
set_option linter.all false
namespace Go.Ai
open Go Go.Proofs Tryz
set_option maxRecDepth 100000
set_option maxHeartbeats 4000000
def tlT(t:Tok):Nat:=if t.kind=0 then 0 else if t.kind=3∨t.kind=4 then t.value.size+1 else t.text.size
def WdT(t:Tok):Prop:=t.kind=1->∀m,m<t.text.size->cx (ad t.text m)=true
def methR_len{s:ByteArray}(hs:s.size<=65536){i:Nat}(hi:i<s.size){l c:Int}{j:Bool}(h1:(cS s i (.mk 0 l c ⟨#[]⟩ ⟨#[]⟩ 0 0 j)).1=true)(h0:(cS s i (.mk 0 l c ⟨#[]⟩ ⟨#[]⟩ 0 0 j)).2.2.2.1=0):
 (1<=tlT (cS s i (.mk 0 l c ⟨#[]⟩ ⟨#[]⟩ 0 0 j)).2.2.2.2∧i+tlT (cS s i (.mk 0 l c ⟨#[]⟩ ⟨#[]⟩ 0 0 j)).2.2.2.2<=(cS s i (.mk 0 l c ⟨#[]⟩ ⟨#[]⟩ 0 0 j)).2.1)∧WdT (cS s i (.mk 0 l c ⟨#[]⟩ ⟨#[]⟩ 0 0 j)).2.2.2.2:=by
 have ez:∀k,k<=s.size->(s.extract i k).size=k-i:=fun k hk=>by rw[dh];omega
 unfold cS at*;by_cases c0:ad s i=120∧ad s (i+1)=34
 ·rw[ae c0]at h0 ⊢;have hi2:i+2<=s.size:=by have:=iu (s:=s) (i:=i+1) (by rw[c0.2];decide);omega
  have hjl:=jv (s:=s) (p:=eF) hi2;unfold mz at*;by_cases c1:s.size<=bn s eF (i+2)
  ·rw[ae c1]at h0;exact absurd h0 (by show¬((29:Int)=0);decide)
  rw[aa c1]at h0 ⊢;by_cases c2:ad s (bn s eF (i+2))≠34∨(bn s eF (i+2)-(i+2))%2≠0
  ·rw[ae c2]at h0;exact absurd h0 (by show¬((13:Int)=0);decide)
  rw[aa c2];refine⟨?_,fun q=>absurd q (by show¬((4:Int)=1);decide)⟩;show 1<=(eQ _ _).size+1∧i+((eQ _ _).size+1)<=_+1;rw[Ah];omega
 rw[aa c0]at h0 h1 ⊢;by_cases c1:bJ (ad s i)=true
 ·rw[ae c1];have hw:=jv (s:=s) (p:=cx) (i:=i) zo;have hg:i<bn s cx i:=by
   rw[qf ⟨hi,by unfold cx;rw[c1];rfl⟩];have:=jv (s:=s) (p:=cx) (i:=i+1) zo;omega
  refine⟨?_,fun _ m hm=>?_⟩
  ·show 1<=(s.extract i _).size∧i+(s.extract i _).size<=_;rw[ez _ hw.2];dsimp only;omega
  ·have hm:m<(s.extract i (bn s cx i)).size:=hm;rw[ez _ hw.2]at hm;show cx (ad (s.extract i (bn s cx i)) m)=true;rw[qh hm hw.2];exact D8 (io _ _) zo
 rw[aa c1]at h0 h1 ⊢;by_cases c2:bD (ad s i)=true
 ·rw[ae c2]at h0 ⊢;have hq:=Ae hi c2;unfold nR at*;by_cases c3:1<aY s i-i∧ad s i=48
  ·rw[ae c3]at h0;exact absurd h0 (by show¬((3:Int)=0);decide)
  rw[aa c3];refine⟨?_,fun q=>absurd q (by show¬((2:Int)=1);decide)⟩;show 1<=(s.extract i _).size∧i+(s.extract i _).size<=_;rw[ez _ zo];dsimp only;omega
 rw[aa c2]at h0 h1 ⊢;by_cases c3:ad s i=34
 ·rw[ae c3]at h0 ⊢;have h2:=xc (s:=s) (s.size+1) (i+1) ⟨#[]⟩ hi;unfold mB at*;cases hq:eG s (s.size+1) (i+1) ⟨#[]⟩with
  | inl v=>
   obtain⟨k,v⟩:=v;rw[hq]at h2;have h2:i+1<k∧k<=s.size∧v.size<=0+(k-(i+1)):=h2;refine⟨?_,fun q=>absurd q (by show¬((3:Int)=1);decide)⟩;show 1<=v.size+1∧i+(v.size+1)<=k;omega
  | inr v=>
   obtain⟨k,w,e⟩:=v;rw[hq]at h0 h2;dsimp only at h0 h2;exact absurd h0 h2.2.2
 rw[aa c3]at h0 h1 ⊢;by_cases c4:gM s i=true
 ·rw [ae c4];have hi2:i+2<=s.size:=by
   have:ad s (i+1)≠0:=by
    intro q;unfold gM at c4;rw[q]at c4;simp at c4
   have:=iu this;omega
  refine⟨?_,fun q=>absurd q (by show¬((5:Int)=1);decide)⟩;show 1<=(s.extract i _).size∧i+(s.extract i _).size<=_;rw[ez _ hi2];dsimp only;omega
 rw[aa c4]at h0 h1 ⊢;by_cases c5:iY (ad s i)=true
 ·rw[ae c5];refine⟨?_,fun q=>absurd q (by show¬((5:Int)=1);decide)⟩;show 1<=(s.extract i _).size∧i+(s.extract i _).size<=_;rw[ez _ zo];dsimp only;omega
 rw[aa c5]at h1;exact absurd h1 (by show¬(false=true);decide)
def sum_app{α:Type}{f:α->Nat}(l:List α)(a:α):((l++[a]).map f).sum=(l.map f).sum+f a:=zsi
theorem scanF_len{s:ByteArray}(hs:s.size<=65536):∀(n:Nat) (l:List Tok) (f i:Nat) (p:Int×Int) (last:Int),(∀u∈l,WdT u∧(u.kind≠0->1<=tlT u))->i<=s.size->s.size-i<n ->
 ((ny s n l f i p last).1.map tlT).sum<=(l.map tlT).sum+(s.size-i)∧∀u∈(ny s n l f i p last).1,WdT u∧(u.kind≠0->1<=tlT u)
 | 0,l,f,i,p,last,_,_,h=>absurd h zo
 | n+1,l,f,i,p,last,hl,hi,h=>by
  have nil:∀k:Nat,(([]:List Tok).map tlT).sum<=k∧∀u∈([]:List Tok),WdT u∧(u.kind≠0->1<=tlT u):=fun k=>⟨aB _,fun u q=>by cases q⟩
  simp only[ny];obtain⟨b1,b2⟩:=zZ (s:=s) (s.size-i) i hi;replace b1:i<=dR s i:=b1;replace b2:dR s i<=s.size:=b2;generalize dR s i=j at*;by_cases c1:s.size<=j
  ·rw [ae c1];refine⟨?_,fun u hu=>?_⟩
   ·show((l++[_]).map tlT).sum<=_;rw[sum_app];show _+0<=_;omega
   ·rcases gB.1 hu with g|g
    ·exact hl u g
    ·rw[dD.1 g];exact⟨fun q=>absurd q (by show¬((0:Int)=1);decide),fun q=>absurd rfl q⟩
  rw[aa c1];by_cases c2:l.length=16384
  ·rw[ae c2];exact nil _
  rw[aa c2];have ht:=methR_len hs (mS c1) (l:=(bT s f j p).1) (c:=(bT s f j p).2) (j:=decide ((j:Int)=last));have hm:=J9 (mS c1) (.mk 0 (bT s f j p).1 (bT s f j p).2 ⟨#[]⟩ ⟨#[]⟩ 0 0 (decide ((j:Int)=last)));generalize cS s j (.mk 0 (bT s f j p).1 (bT s f j p).2 ⟨#[]⟩ ⟨#[]⟩ 0 0 (decide ((j:Int)=last)))=r at*;by_cases c3:r.1=false
  ·rw[ae c3];exact nil _
  rw[aa c3];have c3:r.1=true:=by simpa using c3
  by_cases c4:r.2.2.2.1≠0
  ·rw[ae c4];exact nil _
  rw[aa c4];have c4:r.2.2.2.1=0:=gr.1 c4;have hm:=hm.1 c4 c3;obtain⟨t1,t2⟩:=ht c3 c4
  obtain⟨q1,q2⟩:=scanF_len hs n (l++[r.2.2.2.2]) j r.2.1 (bT s f j p) r.2.1 (fun u hu=>by
   rcases gB.1 hu with g|g
   ·exact hl u g
   ·rw[dD.1 g];exact⟨t2,fun _=>t1.1⟩) hm.2 zo
  refine⟨aG q1 ?_,q2⟩;rw[sum_app];omega
def scanA_len(s:ByteArray):((eY s).1.map tlT).sum<=s.size∧∀u∈(eY s).1,WdT u∧(u.kind≠0->1<=tlT u):=by
 unfold eY;split
 ·exact⟨aB _,fun u q=>by cases q⟩
 ·obtain⟨a,b⟩:=scanF_len (s:=s) zo (s.size+1) [] 0 0 (1,1) (-1) (fun u hu=>by cases hu) (aB _) zo;exact⟨by simpa using a,b⟩
def decT_le(n:Int×Int):(ej n).1.size<=23:=by
 unfold ej;split
 ·exact aB _
 ·rename_i h;have h:gI n=0:=gr.1 h;unfold gI at h;split at h
  ·rename_i q;have ha:(cE (ei n.1)).size<=21:=qL _ (by unfold ei;split<;>omega) (by unfold ei;split<;>omega);have hS:(eN n).size<=22:=by
    unfold eN;split
    ·have hp:(mc n).size<=21:=by
      unfold mc;rw[aj,Bv,show(ByteArray.mk #[48]).size=1 from rfl];omega
     simp only[aj,dh];rw[show(ByteArray.mk #[46]).size=1 from rfl];omega
    ·omega
   dsimp only;split
   ·rw[aj,show(ByteArray.mk #[45]).size=1 from rfl];omega
   ·omega
  ·exact absurd h zd
def day_size{n:Int}{t:ByteArray}(h:vg n t):t.size=10:=by
 obtain⟨y,m,d,h1,h2,h3,rfl,h4⟩:=Ln h;have e:(10:Nat)^4=10000:=zd
 have e2:(10:Nat)^2=100:=zd
 unfold ld;simp only[aj];rw[mH zo zd,mH zo zd,mH zo zd];rfl
def pad_size{x:Int}{w:Nat}(h0:0<=x)(h1:x<(10:Nat)^w)(hw:0<w):(gV x (w:Int)).size=w:=by
 obtain⟨u,rfl⟩:∃u:Nat,x=(u:Int):=⟨x.toNat,zo⟩
 rw[xx];exact mH zo hw
def tim_size{n:Int}{t:ByteArray}(h:Bw n t):t.size<=24:=by
 obtain⟨u,b,hu,hb,rfl⟩:=h;have hz:=day_size hu;have e2:((10:Nat)^2:Nat)=100:=zd
 have e3:((10:Nat)^3:Nat)=1000:=zd
 have a1:(gV (b/1000/3600) 2).size=2:=pad_size (w:=2) zo zo zd;have a2:(gV (b/1000/60%60) 2).size=2:=pad_size (w:=2) zo zo zd;have a3:(gV (b/1000%60) 2).size=2:=pad_size (w:=2) zo zo zd;have a4:(gV (b%1000) 3).size=3:=pad_size (w:=3) zo zo zd;have k1:(⟨#[84]⟩:ByteArray).size=1:=rfl;have k2:(⟨#[58]⟩:ByteArray).size=1:=rfl;have k3:(⟨#[46]⟩:ByteArray).size=1:=rfl;have k4:(⟨#[90]⟩:ByteArray).size=1:=rfl;split<;>simp only[aj,hz,a1,a2,a3,a4,k1,k2,k3,k4]<;>omega
def vSz(v:V):Nat:=if v.kind=4 then 6*v.text.size+2 else if v.kind=5 then 2*v.text.size+3 else if v.kind=6∨v.kind=7 then 151 else 24
def litF_size{v:V}{t:ByteArray}(h:iz vsB v=0)(hk:1<=v.kind∧v.kind<=7)(hn : -9223372036854775808<v.int∧v.int<=9223372036854775807)(ht:Lo v t):t.size<=vSz v:=by
 unfold iz at h;split at h
 ·exact absurd h zd
 split at h
 ·exact absurd h zd
 split at h
 ·exact absurd h zd
 obtain⟨r1,r2,r3,r4,r5,r6,r7⟩:=V4 h;clear h;obtain⟨a1,a2,a3,a4,a5,a6,a7⟩:=ht;have e24:v.kind<=3->24<=vSz v:=fun q=>by unfold vSz;rw[aa zo,aa zo,aa zo];exact ao _
 have e4:v.kind=4->vSz v=6*v.text.size+2:=fun q=>ae q;have e5:v.kind=5->vSz v=2*v.text.size+3:=fun q=>by unfold vSz;rw[aa zo,ae q]
 have e6:v.kind=6∨v.kind=7->vSz v=151:=fun q=>by unfold vSz;rw[aa zo,aa zo,ae q]
 rcases(zo:v.kind=1∨v.kind=2∨v.kind=3∨v.kind=4∨v.kind=5∨v.kind=6∨v.kind=7)with k|k|k|k|k|k|k
 ·refine aG ?_ (e24 zo);rw[a1 k];cases v.int==1<;>decide
 ·refine aG ?_ (e24 zo);rw[a2 k];exact aG (qL _ zo zo) zd
 ·refine aG ?_ (e24 zo);rw[a3 k];have:=decT_le (v.int,v.scale);split
  ·rw[aj];exact Nat.add_le_add_right this 1
  ·exact aG this zd
 ·rw[a4 k,e4 k];exact EK v.text
 ·rw[a5 k,e5 k];have:=EM v.text v.text.size;simp only[aj];rw[show(ByteArray.mk #[120,34]).size=2 from rfl,show(ByteArray.mk #[34]).size=1 from rfl];omega
 ·obtain⟨u,h1,h2⟩:=a6 k (r6 k);rw[h2,e6 zo,aj,show(ByteArray.mk #[100,97,116,101,32]).size=5 from rfl];have:=EK u;have:=day_size h1;omega
 ·obtain⟨u,h1,h2⟩:=a7 k (r7 k);rw[h2,e6 zo,aj,show(ByteArray.mk #[116,105,109,101,32]).size=5 from rfl];have:=EK u;have:=tim_size h1;omega
def val_lit3(e:Nat)(he:e+1<=1073741824)(v:V)(hv:V.le (e+1) v)(hk:l8 v.kind=true)(hc:iW e v=0):
 ∃t:ByteArray,t.size<=65536∧t.size<=vSz v∧(∃er,Af prog 48 [aK (e+1) .any fun _=>v] [] (.ag [.str fun _=>t,.int .i64 fun _=>er]) [])∧Lit v t:=by
 have h0:iz vsB v=0:=by
  unfold iW ru at hc;have:=Lq (k:=0) (by show 0<(fa (e+1) 1 v).length;rw[fa,bp];omega) hc;exact this
 have hk:=il hk;obtain⟨g1,g2,g3⟩:=TW h0 hk.2;obtain⟨t,h1,h2,h3⟩:=V9 e v ⟨zo,hk.2⟩ g2 g3;have h4:=I8 e v _ t (Ju e he v hv) hc h2;rw[ae h1]at h4;exact⟨t,h1,litF_size h0 ⟨zo,hk.2⟩ g2 h3,⟨_,h4⟩,V5 (vs:=vsB) (fun _ q=>q) h0 ⟨zo,hk.2⟩ h3⟩
def lit_all3(e:Nat)(he:e+1<=1073741824):∃lit:V->ByteArray,(∀v,(lit v).size<=65536)∧(∀v,V.le (e+1) v->l8 v.kind=true->iW e v=0->(∃er,Af prog 48 [aK (e+1) .any fun _=>v] [] (.ag [.str fun _=>lit v,.int .i64 fun _=>er]) [])∧Lit v (lit v)) ∧
 ∀v,V.le (e+1) v->l8 v.kind=true->iW e v=0->(lit v).size<=vSz v:=by
 have h:∀v:V,∃t:ByteArray,t.size<=65536∧(V.le (e+1) v->l8 v.kind=true->iW e v=0->t.size<=vSz v∧(∃er,Af prog 48 [aK (e+1) .any fun _=>v] [] (.ag [.str fun _=>t,.int .i64 fun _=>er]) [])∧Lit v t):=fun v=>by
  by_cases c:V.le (e+1) v∧l8 v.kind=true∧iW e v=0
  ·obtain⟨t,h1,h2⟩:=val_lit3 e he v c.1 c.2.1 c.2.2;exact⟨t,h1,fun _ _ _=>h2⟩
  ·exact⟨⟨#[]⟩,aB _,fun h1 h2 h3=>absurd ⟨h1,h2,h3⟩ c⟩
 exact⟨fun v=>Classical.choose (h v),fun v=>(Classical.choose_spec (h v)).1,fun v a b c=>((Classical.choose_spec (h v)).2 a b c).2,fun v a b c=>((Classical.choose_spec (h v)).2 a b c).1⟩
def nCo(op:Int):Nat:=if aE op<9∨op=1∨op=2 then 16 else 40
def bXs:Nat->X->Nat
 | 0,_=>2
 | k+1,x=>nCo x.op+x.text.size+(if x.op=1 then vSz (x.value.getD 0 default)else 0)+(x.args.map fun y=>bXs k y+2).sum
theorem txtB_bX{lit:V->ByteArray}:∀(k:Nat) (x:X),X.all lH k x->X.all (fun y=>y.op=1->(lit (y.value.getD 0 default)).size<=vSz (y.value.getD 0 default)) k x->(fz lit k x).size+2<=bXs k x
 | 0,_,_,_=>ao _
 | k+1,x,h,hl=>by
  have hT:∀y∈x.args,∀n,(aP lit k y n).size<=bXs k y:=fun y hy n=>
   aG (D5 (lit:=lit) (k:=k) (y:=y) n) (txtB_bX k y (h.2 y hy) (hl.2 y hy))
  obtain⟨q1,q2,q3,q4,q5⟩:=h.1;have hi:=qL x.int zo zo;have hj:=Ab (fun y=>aP lit k y 0) x.args;have hj1:=Ab (fun y=>aP lit k y 0) (x.args.drop 1);have hs:=xa (l:=x.args) (f:=fun y=>(aP lit k y 0).size+2) (g:=fun y=>bXs k y+2) (fun y hy=>Nat.add_le_add_right (hT y hy 0) 2);have hs2:2<=x.args.length->bXs k (x.args.getD 0 default)+2+(bXs k (x.args.getD 1 default)+2)<=_:=fun q=>Yn (f:=fun y=>bXs k y+2) q;have hs3:1<=x.args.length->bXs k (x.args.getD 0 default)+2<=_:=fun q=>rJ (f:=fun y=>bXs k y+2) (i:=0) (l:=x.args) q;have hn:=Yp x.op;have hy:∀b,b<10->(gU x.op b).size<=4:=fun b hb=>Mm x.op b hb;have h0:1<=x.args.length->∀n,(aP lit k (x.args.getD 0 default) n).size<=bXs k (x.args.getD 0 default):=fun q n=>hT _ (by simp only[List.getD,bf (show 0<x.args.length by omega)];exact d9 _) n;have h1:2<=x.args.length->∀n,(aP lit k (x.args.getD 1 default) n).size<=bXs k (x.args.getD 1 default):=fun q n=>hT _ (by simp only[List.getD,bf (show 1<x.args.length by omega)];exact d9 _) n;have low:aE x.op<9∨x.op=1∨x.op=2->nCo x.op=16:=fun q=>ae q;have hl1:=hl.1;show(bh lit (aP lit k) x).size+2<=nCo x.op+x.text.size+(if x.op=1 then vSz (x.value.getD 0 default)else 0)+(x.args.map fun y=>bXs k y+2).sum;unfold bh;by_cases o3:x.op=3
  ·rw[ae o3];have a:=h0 (q1 (.inl o3)) (aE x.op);have b:=hs3 (q1 (.inl o3));have c:=low (.inl (by rw[o3];decide));simp only[aj,oE,dX,bp,bV];omega
  rw[aa o3];by_cases o16:x.op=16
  ·rw[ae o16];have a:=h0 (q1 (.inr (.inl o16))) 9;have b:=hs3 (q1 (.inr (.inl o16)));have c:=low (.inl (by rw[o16];decide));split
   ·simp only[aj,qv,dX,bp,bV];omega
   ·simp only[aj,dX,bp,bV];omega
  rw[aa o16];by_cases ct:x.op=25
  ·rw[ae ct];have a:=h0 (q1 (.inr (.inr ct))) 5;have c:=low (.inl (by rw[ct];decide));have e:(x.args.map fun y=>bXs k y+2).sum=bXs k (x.args.getD 0 default)+2+((x.args.drop 1).map fun y=>bXs k y+2).sum:=by
    have:=q1 (.inr (.inr ct));cases hx:x.args with
    | nil=>rw[hx]at this;simp at this
    | cons y l=>simp
   have f:=xa (l:=x.args.drop 1) (f:=fun y=>(aP lit k y 0).size+2) (g:=fun y=>bXs k y+2) (fun y hy=>Nat.add_le_add_right (hT y (uQ hy) 0) 2);simp only[aj,uj,dX,bp,bV];omega
  rw[aa ct];by_cases hb:aE x.op<9
  ·have l2:=q2 o3 o16 ct hb;have a:=h0 zo;have b:=h1 l2;have c:=hs2 l2;have g:=low (.inl hb);by_cases b4:aE x.op=4
   ·rw[ae b4];have a:=a 5;have b:=b 5;have d:=hy 4 zd;simp only[aj,dX,bp,bV];omega
   ·rw[aa b4,ae hb];have a:=a (aE x.op);have b:=b (aE x.op+1);have d:=hy (aE x.op).toNat zo
    simp only[aj,dX,bp,bV];omega
  ·rw[aa zo,aa hb];by_cases o1:x.op=1
   ·rw[ae o1,ae o1,low (.inr (.inl o1))];have:=hl1 o1;omega
   rw[aa o1,aa o1];by_cases o2:x.op=2
   ·rw[ae o2,low (.inr (.inr o2))];omega
   rw[aa o2,show nCo x.op=40 from aa zo];unfold w9 iZ;cases hc:ba.find? fun p=>p.2.1==x.op with
   | none=>simp only[Option.elim];show 0+2<=_;omega
   | some p=>
    rw[hc]at hn;simp only[Option.elim]at hn ⊢
    repeat' split
    all_goals(simp only[aj,dX,bp,bV];omega)
def TkG(t:Tok):Prop:=WdT t∧(t.kind≠0->1<=tlT t)
def GTk(s:St):Prop:=∀u∈s.l,TkG u
def wLs(s:St):Nat:=(s.l.map tlT).sum
theorem sum_dropN{α:Type}(f:α->Nat):∀(m:Nat) (l:List α),((l.drop m).map f).sum<=(l.map f).sum
 | 0,l=>zsi
 | _+1,[]=>zsi
 | m+1,x::l=>by
  have:=sum_dropN f m l;simp only[List.drop_succ_cons,fZ,sH];omega
def GTk.go{s s':St}(h:GTk s)(g:Steps s s'):GTk s':=by
 obtain⟨m,hm⟩:=g.d;intro u hu;rw[hm]at hu;exact h u (uQ hu)
def wL_go{s s':St}(g:Steps s s'):wLs s'<=wLs s:=by
 obtain⟨m,hm⟩:=g.d;unfold wLs;rw[hm];exact sum_dropN tlT m s.l
def take_w{s:St}(h:eu de s)(g:GTk s)(hk:s.peek.kind≠0):wLs s.next+tlT s.peek=wLs s∧1<=tlT s.peek∧TkG s.peek:=by
 have hl:=h.less hk;have hok:s.ok=true:=by
  unfold St.peek at hk;split at hk
  ·assumption
  ·exact absurd rfl hk
 obtain⟨_,h0⟩:=lI hok;cases hq:s.l with
 | nil=>rw[hq]at h0;simp at h0
 | cons x l=>
  have hp:s.peek=x:=by unfold St.peek;rw[ae hok,hq];rfl
  have hn:s.next.l=l:=by
   unfold St.next at hl ⊢;split
   ·show s.l.drop 1=l;rw[hq];rfl
   ·rename_i q;rw[aa q]at hl;omega
  have hx:=g x (by rw[hq];exact dJ ..);rw[hp]at hk ⊢;refine⟨?_,hx.2 hk,hx⟩;unfold wLs;rw[hn,hq];simp[uY]
def zp{s:St}(h:eu de s)(hz:s.e=0):s.ok=true:=by
 unfold St.ok;have:=mU.2 (h.ne hz);simp[hz,this]
def expect_w{s:St}{t:ByteArray}(h:eu de s)(g:GTk s)(hz:(s.expect t).e=0):wLs (s.expect t)+1<=wLs s∧s.e=0∧s.aH t=true:=by
 have hz0:s.e=0:=fp fun k=>(Steps.expect s t).er k hz;cases q:s.aH t with
 | false=>exact absurd hz (LL q (zp h hz0))
 | true=>
  have e1:s.expect t=s.next:=by unfold St.expect;rw[ae q]
  rw[e1];obtain⟨a,b,_⟩:=take_w h g (lN q).2;exact⟨zo,hz0,rfl⟩
def GXb(n:Nat)(x:X):Prop:=∀k,bXs k x<=34*n+14∧gL k x=false
def LXb(n:Nat)(l:List X):Prop:=∀k,(l.map fun y=>bXs k y+2).sum<=34*n+16∧l.any (gL k)=false
def GXb.mono{n m:Nat}{x:X}(h:GXb n x)(hm:n<=m):GXb m x:=fun k=>⟨by have:=(h k).1;omega,(h k).2⟩
def res_emp:dQ (iV ⟨#[]⟩)=false:=zd
def gx_node{op int:Int}{text:ByteArray}{vals:List V}{args:List X}{n:Nat}(ht:dQ (iV text)=false)
 (ha:∀k,(args.map fun y=>bXs k y+2).sum+(nCo op+text.size+(if op=1 then vSz (vals.getD 0 default)else 0))<=34*n+14∧args.any (gL k)=false):GXb n (.mk op int text vals args):=by
 intro k;cases k with
 | zero=>exact⟨by show 2<=_;omega,rfl⟩
 | succ k=>
  obtain⟨a,b⟩:=ha k;refine⟨?_,?_⟩
  ·show nCo op+text.size+(if op=1 then vSz (vals.getD 0 default)else 0)+(args.map fun y=>bXs k y+2).sum<=_;omega
  ·show(dQ (iV text)||args.any (gL k))=false;rw[ht,b];rfl
def gx_one{op int:Int}{n m:Nat}{x:X}(ho:nCo op=16∧op≠1)(h:GXb n x)(hm:n+1<=m):GXb m (.mk op int ⟨#[]⟩ [] [x]):=by
 refine gx_node res_emp fun k=>?_;obtain⟨a,b⟩:=h k;have e:(ByteArray.mk #[]).size=0:=rfl;refine⟨?_,by simp[b]⟩;rw[aa ho.2,ho.1,e];simp only[fZ,List.map_nil,sH,List.sum_nil];omega
def gx_bin{op:Int}{n1 n2 m:Nat}{x y:X}(ho:nCo op=16∧op≠1)(h:GXb n1 x)(g:GXb n2 y)(hm:n1+n2+1<=m):GXb m (bin op x y):=by
 refine gx_node res_emp fun k=>?_;obtain⟨a,b⟩:=h k;obtain⟨c,d⟩:=g k;have e:(ByteArray.mk #[]).size=0:=rfl;refine⟨?_,by simp[b,d]⟩;rw[aa ho.2,ho.1,e];simp only[fZ,List.map_nil,sH,List.sum_nil];omega
def PFb(k:Nat)(F:Rd->X×Rd):Prop:=∀r,bU de k r->Post 1 r (F r)
def RFb(k:Nat)(F:Rd->X×Rd):Prop:=∀r,bU de k r->GTk r.s->(F r).2.s.e=0->∃n,wLs (F r).2.s+n<=wLs r.s∧GXb n (F r).1
def ops_16:∀b,b<10->∀p∈opsL b,nCo p.2=16∧p.2≠1:=zd
def op_16{r:Rd}{b:Nat}{o:Int}(hb:b<10)(h:r.op b=some o):nCo o=16∧o≠1:=by
 unfold Rd.op at h;split at h
 ·cases h
 ·obtain⟨k,hk⟩:=L8 h;exact ops_16 b hb _ hk
theorem chainV_go{k b:Nat}{F:Rd->X×Rd}(hP:PFb k F):∀(m:Nat) (x:X) (r:Rd),bU de k r->Go r (mv b F m x r).2
 | 0,x,r,_=>Go.of (.refl _) rfl
 | m+1,x,r,h=>by
  unfold mv;split
  ·rename_i o ho;have g1:Go r (r.to r.s.next):=Go.of (Steps.next _) rfl;have h1:=h.go g1;have g2:=(hP _ h1).g;exact(g1.trans g2).trans (chainV_go hP m _ _ (h1.go g2))
  ·exact Go.of (.refl _) rfl
theorem chainV_rf{k b:Nat}{F:Rd->X×Rd}(hb:b<10)(hP:PFb k F)(hF:RFb k F):∀(m:Nat) (x:X) (r:Rd) (n W:Nat),bU de k r->GTk r.s->wLs r.s+n<=W->GXb n x->(mv b F m x r).2.s.e=0->∃n',wLs (mv b F m x r).2.s+n'<=W∧GXb n' (mv b F m x r).1
 | 0,x,r,n,W,_,_,hw,hx,_=>⟨n,hw,hx⟩
 | m+1,x,r,n,W,h,g,hw,hx,hz=>by
  unfold mv at hz ⊢;cases ho:r.op b with
  | none=>exact⟨n,hw,hx⟩
  | some o=>
   rw[ho]at hz;dsimp only at hz ⊢;have g1:Go r (r.to r.s.next):=Go.of (Steps.next _) rfl;have h1:=h.go g1;have g2:=(hP _ h1).g;have hz1:(F (r.to r.s.next)).2.s.e=0:=fp fun q=>(chainV_go hP m _ _ (h1.go g2)).s.er q hz;obtain⟨a,b1,_⟩:=take_w h.st g (EQ ho);obtain⟨n2,c1,c2⟩:=hF _ h1 (g.go g1.s) hz1;have c1:wLs (F (r.to r.s.next)).2.s+n2<=wLs r.s.next:=c1;exact chainV_rf hb hP hF m _ _ (n+n2+1) W (h1.go g2) ((g.go g1.s).go g2.s) zo (gx_bin (op_16 hb ho) hx c2 (ao _)) hz
def chain_rf{k b:Nat}{F:Rd->X×Rd}(hb:b<10)(hP:PFb k F)(hF:RFb k F):RFb k (cj b F):=fun r h g hz=>by
 have g2:=(hP r h).g;have hz1:(F r).2.s.e=0:=fp fun q=>(chainV_go hP _ _ _ (h.go g2)).s.er q hz;obtain⟨n,c1,c2⟩:=hF r h g hz1;exact chainV_rf hb hP hF _ _ _ n _ (h.go g2) (g.go g2.s) c1 c2 hz
def enter_s{r:Rd}(h:r.s.ok=true)(hz:r.enter.s.e=0):r.enter.s=r.s:=by
 have e:r.enter.s=if r.o=32 then r.s.fail 23 else r.s:=rfl;rw[e]at hz ⊢;by_cases c:r.o=32
 ·rw[ae c]at hz;unfold St.fail at hz;rw[ae ⟨h,zd⟩]at hz;exact absurd hz (by show¬(23:Int)=0;decide)
 ·rw[aa c]
def pre_rf{k:Nat}{op:Int}{t:ByteArray}{U:Rd->X×Rd}(ho:nCo op=16∧op≠1)(hU:∀j,k=j+1->RFb j U){r:Rd}(h:bU de k r)(g:GTk r.s)(ht:r.s.aH t=true)(hz:(i7 op t U r).2.s.e=0):
 ∃n,wLs (i7 op t U r).2.s+n<=wLs r.s∧GXb n (i7 op t U r).1:=by
 obtain⟨hok,hk⟩:=lN ht;obtain⟨j,hj,h1,hs,_⟩:=h.enter hok hk;unfold i7 at hz ⊢;by_cases hb:(r.enter.to r.enter.s.next).bad=true
 ·rw[ae hb]at hz;unfold Rd.bad at hb;have hb:(r.enter.to r.enter.s.next).s.e≠0:=by simpa using hb
  exact absurd hz hb
 ·rw[aa hb]at hz ⊢;dsimp only at hz ⊢;unfold Rd.bad at hb;have hb:(r.enter.to r.enter.s.next).s.e=0:=by simpa using hb
  have hb:r.enter.s.next.e=0:=hb;have he:=enter_s hok (fp fun q=>(Steps.next _).er q hb);have hg1:GTk (r.enter.to r.enter.s.next).s:=g.go hs;obtain⟨n,c1,c2⟩:=hU j hj _ h1 hg1 hz;obtain⟨a,b,_⟩:=take_w h.st g hk;have c1:wLs (U (r.enter.to r.enter.s.next)).2.s+n<=wLs r.enter.s.next:=c1;rw[he]at c1;rw[he]at c2 ⊢;exact⟨n+1,by show wLs (U (r.enter.to r.s.next)).2.s+(n+1)<=_;omega,gx_one ho c2 (ao _)⟩
def neg_rf{k:Nat}{U C:Rd->X×Rd}(hU:∀j,k=j+1->RFb j U)(hC:RFb k C):RFb k (nC U C):=fun r h g hz=>by
 unfold nC at hz ⊢;by_cases c:r.s.aH ⟨#[110,111,116]⟩=true
 ·rw[ae c]at hz ⊢;exact pre_rf zd hU h g c hz
 ·rw[aa c]at hz ⊢;exact hC r h g hz
def un_rf{k:Nat}{U C:Rd->X×Rd}(hU:∀j,k=j+1->RFb j U)(hC:RFb k C):RFb k (ib U C):=fun r h g hz=>by
 unfold ib at hz ⊢;by_cases c:r.s.aH ⟨#[45]⟩=true∧r.s.neg=false
 ·rw[ae c]at hz ⊢;exact pre_rf zd hU h g c.1 hz
 ·rw[aa c]at hz ⊢;exact hC r h g hz
def SepS(r:ByteArray):Prop:=r=⟨#[]⟩∨(0<r.size∧(ad r 0=46∨ad r 0=63∨ad r 0=91))
def first_gen{w r:ByteArray}(hw:∀j,j<w.size->cx (ad w j)=true)(hr:SepS r):iV (w++r)=w:=by
 have hno:∀b∈w.data.toList,fR.data.toList.contains b=false:=fun b hb=>by
  obtain⟨j,hj⟩:=List.mem_iff_getElem?.1 hb;have hj2:j<w.size:=by obtain⟨k,_⟩:=bX.1 hj;rwa [fY]at k
  have hp:=hw j hj2;have e:ad w j=b.toNat:=by
   unfold ad;rw[qw]at hj;rw[hj];rfl
  rw[e]at hp;cases q:fR.data.toList.contains b with
  | false=>rfl
  | true=>
   have:b=46∨b=91∨b=63:=by simpa[fR]using q
   rcases this with rfl|rfl|rfl<;>exact absurd hp zd
 have key:∀(l m:List UInt8),(∀b∈l,fR.data.toList.contains b=false)->Lib.indexAny (l++m) fR.data.toList=if Lib.indexAny m fR.data.toList = -1 then -1 else Lib.indexAny m fR.data.toList+l.length:=by
  intro l
  induction l with
  | nil=>intro m _;split<;>simp_all
  | cons b l ih=>
   intro m h;have h1:=ih m (fun c hc=>h c (cH _ hc));have hge:=Lib.indexAny_ge fR.data.toList m;simp only[pg,Lib.indexAny];rw[h b dJ,h1];by_cases q:Lib.indexAny m fR.data.toList = -1
   ·rw[ae q];simp[q]
   ·rw[aa q];have:(Lib.indexAny m fR.data.toList+(l.length:Int) == -1)=false:=by rw[uT];omega
    simp only[jc,dg,this,q,bp];omega
 have hk:=key w.data.toList r.data.toList hno;have hx:iw (w++r)=if Lib.indexAny r.data.toList fR.data.toList = -1 then -1 else Lib.indexAny r.data.toList fR.data.toList+(w.size:Int):=by
  unfold iw;rw[iF,ph,hk,fY];rfl
 unfold iV;rcases hr with rfl|⟨h0,hb⟩
 ·have e:iw (w++⟨#[]⟩) = -1:=hx.trans (ae zd);rw[e];refine(aa zd).trans (oW w)
 ·have h1:Lib.indexAny r.data.toList fR.data.toList=0:=by
   obtain⟨b,hd,hbb⟩:=qg h0;rw[xO]at hd;rw[hd];simp only[Lib.indexAny];have:fR.data.toList.contains b=true:=by
    have:b=46∨b=63∨b=91:=by
     rcases hb with q|q|q
     ·exact .inl (ji.1 (by show b.toNat=46;omega))
     ·exact .inr (.inl (ji.1 (by show b.toNat=63;omega)))
     ·exact .inr (.inr (ji.1 (by show b.toNat=91;omega)))
    rcases this with rfl|rfl|rfl<;>decide
   rw[this];rfl
  have e:iw (w++r)=(w.size:Int):=by rw[hx,h1];exact(aa zd).trans zo
  rw[e,ae zo,bu,K0]
def fail_bad{s:St}{e:Int}(h:eu de s)(he:e≠0)(hz:(s.fail e).e=0):False:=by
 have h0:s.e=0:=fp fun q=>Wx s e q hz;unfold St.fail at hz;rw[ae ⟨zp h h0,he⟩]at hz;exact he hz
def wL_fail(s:St)(e:Int):wLs (s.fail e)=wLs s:=by unfold wLs;rw[rz]
def tl_text{t:Tok}(h:t.kind=1∨t.kind=2∨t.kind=5):tlT t=t.text.size:=by
 unfold tlT;rw[aa zo,aa zo]
def jF_w{p:Tok->Bool}(hp:∀t,p t=true->t.kind=1∨t.kind=2∨t.kind=5){s:St}(h:eu de s)(g:GTk s)(hz:(jF p s).2.e=0):wLs (jF p s).2+(jF p s).1.size<=wLs s:=by
 unfold jF at hz ⊢;split
 ·rename_i c;rw[ae c]at hz;exact(fail_bad h zd hz).elim
 ·rename_i c;have hk:=hp s.peek (by cases q:p s.peek with|true=>rfl|false=>exact absurd (.inr q) c);obtain⟨a,_,_⟩:=take_w h g zo;rw[tl_text hk]at a;exact uK a
def isW_k(t:Tok)(h:lf t=true):t.kind=1∨t.kind=2∨t.kind=5:=.inl (by simpa[lf]using h)
def isI_k(t:Tok)(h:fo t=true):t.kind=1∨t.kind=2∨t.kind=5:=by
 unfold fo at h;simp only[eU,az,dv]at h;rcases h with h|h
 ·exact .inr (.inl h)
 ·exact .inr (.inr h.1)
def isC_k(t:Tok)(h:iD t=true):t.kind=1∨t.kind=2∨t.kind=5:=by
 unfold iD at h;simp only[az,dv]at h;exact .inr (.inr h.1)
def isT_text{s:St}{t:ByteArray}(h:s.aH t=true):(s.peek.kind=1∨s.peek.kind=5)∧s.peek.text=t:=by
 unfold St.aH at h;simp only[az,eU,cX]at h;exact h.2
def partP_w{acc:ByteArray}{s:St}{q:ByteArray×St}(h:eu de s)(g:GTk s)(hq:iC acc s=some q)(hz:q.2.e=0):∃r,q.1=acc++r∧wLs q.2+r.size<=wLs s∧(0<r.size∧(ad r 0=46∨ad r 0=63∨ad r 0=91)):=by
 unfold iC at hq;split at hq
 ·cases hq
 split at hq
 ·rename_i c;cases hq;have ht:∃t,s.aH t=true∧(t=oH∨t=nB):=c.elim (fun c=>⟨_,c,.inl rfl⟩) fun c=>⟨_,c,.inr rfl⟩
  obtain⟨t,ht,hd⟩:=ht;obtain⟨k1,k2⟩:=isT_text ht;obtain⟨a,_,_⟩:=take_w h g zo;rw[tl_text zo,k2]at a;have j:=jF_w isW_k (h.go (.next s)) (g.go (.next s)) hz;refine⟨_,rfl,?_,?_⟩
  ·show wLs (jF lf s.next).2+(s.peek.text++(jF lf s.next).1).size<=wLs s;rw[aj,k2];omega
  ·rw[k2,aj];rcases hd with rfl|rfl
   ·exact⟨cf (zd:0<oH.size) (io _ _),.inl ((eB (a:=oH) zd).trans zd)⟩
   ·exact⟨cf (zd:0<nB.size) (io _ _),.inr (.inl ((eB (a:=nB) zd).trans zd))⟩
 split at hq
 ·rename_i c;cases hq;obtain⟨k1,k2⟩:=isT_text c;obtain⟨a,_,_⟩:=take_w h g zo;rw[tl_text zo,k2]at a;have h1:=h.go (.next s);have g1:=g.go (.next s);have hz1:(jF fo s.next).2.e=0:=fp fun q=>(xD iD _).er q hz;have j1:=jF_w isI_k h1 g1 hz1;have j2:=jF_w isC_k (h1.go (xD fo _)) (g1.go (xD fo _)) hz;refine⟨s.peek.text++(jF fo s.next).1++(jF iD (jF fo s.next).2).1,by simp only[ee],?_,?_⟩
  ·show wLs (jF iD (jF fo s.next).2).2+_<=_;simp only[aj];rw[k2];omega
  ·rw[k2,ee,aj];exact⟨cf (zd:0<kf.size) (io _ _),.inr (.inr ((eB (a:=kf) zd).trans zd))⟩
 ·cases hq
theorem pathL_w:∀(n:Nat) (acc:ByteArray) (s:St),eu de s->GTk s->(eK n acc s).2.e=0->∃r,(eK n acc s).1=acc++r∧wLs (eK n acc s).2+r.size<=wLs s∧SepS r
 | 0,acc,s,_,_,_=>⟨⟨#[]⟩,(oW acc).symm,ao _,.inl rfl⟩
 | n+1,acc,s,h,g,hz=>by
  unfold eK at hz ⊢;cases hq:iC acc s with
  | none=>exact⟨⟨#[]⟩,(oW acc).symm,ao _,.inl rfl⟩
  | some q=>
   rw[hq]at hz;dsimp only at hz ⊢;have hs:=(E8 (P:=de) (fun t ht=>ht.size) h hq).1;have hz1:q.2.e=0:=fp fun k=>(E9 (P:=de) (fun t ht=>ht.size) n q.1 q.2 (h.go hs)).1.er k hz;obtain⟨r1,a1,a2,a3⟩:=partP_w h g hq hz1;obtain⟨r2,b1,b2,b3⟩:=pathL_w n q.1 q.2 (h.go hs) (g.go hs) hz;refine⟨r1++r2,by rw[b1,a1,ee],by rw[aj];omega,.inr ⟨by rw[aj];omega,?_⟩⟩;rw[eB a3.1];exact a3.2
def pathF_w{pe:ByteArray->Int}{s:St}(h:eu de s)(g:GTk s)(hz:(dN pe s).2.e=0):wLs (dN pe s).2+(dN pe s).1.size<=wLs s∧dQ (iV (dN pe s).1)=false∧1<=(dN pe s).1.size:=by
 unfold dN at hz ⊢;by_cases c1:s.e≠0
 ·rw[ae c1]at hz;exact absurd hz c1
 rw[aa c1]at hz ⊢;by_cases c2:s.peek.kind≠1∨dQ s.peek.text=true
 ·rw[ae c2]at hz;exact(fail_bad h zd hz).elim
 rw[aa c2]at hz ⊢;by_cases c3:(eK s.l.length s.peek.text s.next).2.e≠0
 ·rw[ae c3]at hz;exact absurd hz c3
 rw[aa c3]at hz ⊢;by_cases c4:((eK s.l.length s.peek.text s.next).2.fail (pe (eK s.l.length s.peek.text s.next).1)).e≠0
 ·rw[ae c4]at hz;exact absurd hz c4
 rw[aa c4];have c3:(eK s.l.length s.peek.text s.next).2.e=0:=gr.1 c3;have hk:s.peek.kind=1:=fp fun q=>c2 (.inl q);obtain⟨a,a1,hw⟩:=take_w h g zo;rw[tl_text (.inl hk)]at a a1;obtain⟨r,b1,b2,b3⟩:=pathL_w _ s.peek.text s.next (h.go (.next s)) (g.go (.next s)) c3;refine⟨?_,?_,by dsimp only;rw[b1,aj];omega⟩
 ·dsimp only;rw[wL_fail,b1,aj];omega
 ·show dQ (iV (eK s.l.length s.peek.text s.next).1)=false;rw[b1,first_gen (hw.1 hk) b3];cases q:dQ s.peek.text with
  | false=>rfl
  | true=>exact absurd (.inr q) c2
def paren_w{k:Nat}{r:Rd}(h:bU de k r)(g:GTk r.s)(hz:r.paren.s.e=0):wLs r.paren.s+1<=wLs r.s:=by
 unfold Rd.paren at hz ⊢;by_cases c:r.s.aH ⟨#[40]⟩=true
 ·rw[ae c]at hz ⊢;have hz:(r.enter.s.expect ⟨#[40]⟩).e=0:=hz;have he:=enter_s (lN c).1 (fp fun q=>(Steps.expect _ _).er q hz);rw[he]at hz;show wLs (r.enter.s.expect ⟨#[40]⟩)+1<=_;rw[he];exact(expect_w h.st g hz).1
 ·rw[aa c]at hz ⊢;exact(expect_w h.st g hz).1
theorem argsL_st{k:Nat}{E:Rd->X×Rd}{least most:Int}(hP:PFb k E):∀(m:Nat) (i:Int) (l:List X) (r:Rd),bU de k r->Go r (fx E least most m i l r).2
 | 0,i,l,r,_=>.of (.refl _) rfl
 | m+1,i,l,r,h=>by
  unfold fx;split
  ·have g1:=LM i r;have h1:=h.go g1;have g2:=(hP _ h1).g;exact(g1.trans g2).trans (argsL_st hP m _ _ _ (h1.go g2))
  ·exact .of (.refl _) rfl
theorem argsL_rf{k:Nat}{E:Rd->X×Rd}{least most:Int}(hP:PFb k E)(hE:RFb k E):∀(m:Nat) (i:Int) (l:List X) (r:Rd) (n W:Nat),bU de k r->GTk r.s->0<=i->(i=0->l=[])->wLs r.s+n<=W->LXb n l->(fx E least most m i l r).2.s.e=0 ->
 ∃n',wLs (fx E least most m i l r).2.s+n'<=W∧LXb n' (fx E least most m i l r).1
 | 0,i,l,r,n,W,_,_,_,_,hw,hx,_=>⟨n,hw,hx⟩
 | m+1,i,l,r,n,W,h,g,hi,hi0,hw,hx,hz=>by
  unfold fx at hz ⊢;by_cases c:kZ least most i r=true
  ·rw [ae c]at hz ⊢;have g1:=LM i r;have h1:=h.go g1;have g2:=(hP _ h1).g;have z1:(E (fy i r)).2.s.e=0:=fp fun q=>(argsL_st hP m _ _ _ (h1.go g2)).s.er q hz;have z0:(fy i r).s.e=0:=fp fun q=>g2.s.er q z1;obtain⟨n2,c1,c2⟩:=hE _ h1 (g.go g1.s) z1;refine argsL_rf hP hE m (i+1) _ _ (if i=0 then n2 else n+n2+1) W (h1.go g2) ((g.go g1.s).go g2.s) zo zo ?_ ?_ hz
   ·by_cases q:i=0
    ·rw[ae q];have:=wL_go g1.s;omega
    ·rw[aa q];have e:fy i r=r.to (r.s.expect ⟨#[44]⟩):=ae zo;rw[e]at z0 c1 ⊢;have z0:(r.s.expect ⟨#[44]⟩).e=0:=z0;have:=(expect_w h.st g z0).1;have c1:wLs (E (r.to (r.s.expect ⟨#[44]⟩))).2.s+n2<=wLs (r.s.expect ⟨#[44]⟩):=c1;omega
   ·intro k;obtain⟨a,b⟩:=hx k;obtain⟨c,d⟩:=c2 k;refine⟨?_,by simp[b,d]⟩;by_cases q:i=0
    ·rw[ae q,hi0 q];simp only[AZ,fZ,List.map_nil,sH,List.sum_nil];omega
    ·rw[aa q,Bh,List.sum_append];simp only[fZ,List.map_nil,sH,List.sum_nil];omega
  ·rw[aa c];exact⟨n,hw,hx⟩
def args_rf{k:Nat}{E:Rd->X×Rd}{least most:Int}(hP:∀j,k=j+1->PFb j E)(hE:∀j,k=j+1->RFb j E){r:Rd}(h:bU de k r)(g:GTk r.s)(hz0:r.s.e=0)(hz:(eI E least most r).2.s.e=0):
 ∃n,wLs (eI E least most r).2.s+(n+2)<=wLs r.s∧LXb n (eI E least most r).1:=by
 obtain⟨g1,_,_,_,j,hj,g5⟩:=sl h hz0;unfold eI at hz ⊢;have st:=argsL_st (hP j hj) (least:=least) (most:=most) (r.paren.s.l.length+4) 0 [] r.paren g5;have hrf:=fun W hw=>argsL_rf (hP j hj) (hE j hj) (least:=least) (most:=most) (r.paren.s.l.length+4) 0 [] r.paren 0 W g5 (g.go g1) (fC _) (fun _=>rfl) hw (fun k=>⟨aB _,rfl⟩);generalize fx E least most (r.paren.s.l.length+4) 0 [] r.paren=Z at*;have hz:(Z.2.s.expect ⟨#[41]⟩).e=0:=hz;obtain⟨a,b,_⟩:=expect_w (g5.go st).st ((g.go g1).go st.s) hz;have z2:r.paren.s.e=0:=fp fun q=>st.s.er q b;have p:=paren_w h g z2;obtain⟨n,c1,c2⟩:=hrf (wLs r.paren.s) (ao _) b;refine⟨n,?_,c2⟩;show wLs (Z.2.s.expect ⟨#[41]⟩)+(n+2)<=_;omega
def nC_le(op:Int):nCo op<=40:=by unfold nCo;split<;>omega
def close_w{r r2:Rd}(h:eu de r2.s)(g:GTk r2.s)(hz:r2.close.s.e=0):wLs r2.close.s+1<=wLs r2.s∧r2.s.e=0:=by
 obtain⟨a,b,_⟩:=expect_w (s:=r2.s) (t:=⟨#[41]⟩) h g hz;exact⟨a,b⟩
def gx_leaf{op int:Int}{text:ByteArray}{n:Nat}(ho:op≠1)(ht:dQ (iV text)=false)(h40:op=2∧text.size<=n∧1<=n∨text.size+2<=n):GXb n (.mk op int text [] []):=by
 refine gx_node ht fun k=>⟨?_,rfl⟩
 rw[aa ho];simp only[List.map_nil,List.sum_nil];have:=nC_le op;rcases h40 with⟨rfl,_,_⟩|h
 ·have:nCo 2=16:=by decide
  omega
 ·omega
def has_rf{pe:ByteArray->Int}{k:Nat}{op:Int}(ho:op≠1){r:Rd}(h:bU de k r)(g:GTk r.s)(hz0:r.s.e=0)(hz:(k8 pe op r).2.s.e=0):∃n,wLs (k8 pe op r).2.s+n<=wLs r.s∧GXb n (k8 pe op r).1:=by
 obtain⟨g1,_,_,_,j,hj,g5⟩:=sl h hz0;have gp:=g.go g1;have hp:=Fa (P:=de) (fun t ht=>ht.size) (pe:=fun t=>if t.size<=200 then pe t else 1) (fun t q=>by by_cases c:t.size<=200;exact c;rw[aa c]at q;exact absurd q zd) g5.st;unfold k8 at hz ⊢;have key:∀(n:Int) (r3:Rd),Steps (dN pe r.paren.s).2 r3.s->r3.close.s.e=0->Steps r.paren.s (dN pe r.paren.s).2->∃m,wLs r3.close.s+m<=wLs r.s∧GXb m (.mk op n (dN pe r.paren.s).1 [] []):=fun n r3 s3 hz3 sp=>by
  have ok3:=g5.st.go (sp.trans s3);obtain⟨a,b⟩:=close_w (r:=r) ok3 (gp.go (sp.trans s3)) hz3;have z1:(dN pe r.paren.s).2.e=0:=fp fun q=>s3.er q b;obtain⟨c,d,_⟩:=pathF_w g5.st gp z1;have z0:r.paren.s.e=0:=fp fun q=>sp.er q z1;have p:=paren_w h g z0;have w3:=wL_go s3;exact⟨(dN pe r.paren.s).1.size+2,zo,gx_leaf ho d (.inr (ao _))⟩
 have sp:Steps r.paren.s (dN pe r.paren.s).2:=by
  unfold dN;split
  ·exact .refl _
  split
  ·exact .fail _ _
  have s2:=(Steps.next r.paren.s).trans (E9 (P:=de) (fun t ht=>ht.size) r.paren.s.l.length r.paren.s.peek.text r.paren.s.next (g5.st.go (.next _))).1;split
  ·exact s2
  split
  ·exact s2.trans (.fail _ _)
  ·exact s2.trans (.fail _ _)
 split
 ·rename_i c;rw[ae c]at hz;exact key _ (r.paren.to (dI (dN pe r.paren.s).2.next).2) ((Steps.next _).trans (AM _)) hz sp
 ·rename_i c;rw[aa c]at hz;exact key _ (r.paren.to (dN pe r.paren.s).2) (.refl _) hz sp
def com_w{k:Nat}{r:Rd}(h:bU de k r)(g:GTk r.s)(hz:(dr r).s.e=0):wLs (dr r).s+1<=wLs r.s∧r.s.e=0:=by
 obtain⟨a,b,_⟩:=expect_w (s:=r.s) (t:=dx) h.st g hz;exact⟨a,b⟩
def div_rf{k:Nat}{E:Rd->X×Rd}(hP:∀j,k=j+1->PFb j E)(hE:∀j,k=j+1->RFb j E){r:Rd}(h:bU de k r)(g:GTk r.s)(hz0:r.s.e=0)(hz:(qo E r).2.s.e=0):
 ∃n,wLs (qo E r).2.s+n<=wLs r.s∧GXb n (qo E r).1:=by
 obtain⟨g1,_,_,_,j,hj,g5⟩:=sl h hz0;have gp:=g.go g1;have pa:=(hP j hj _ g5).g;have o1:=g5.go pa;have t1:=gp.go pa.s;have pc:=xF (E r.paren).2;have o2:=o1.go pc;have t2:=t1.go pc.s;have pb:=(hP j hj _ o2).g;have o3:=o2.go pb;have t3:=t2.go pb.s;have pd:=xF (E (dr (E r.paren).2)).2;have o4:=o3.go pd;have t4:=t3.go pd.s;have pe:=AM (dr (E (dr (E r.paren).2)).2).s;unfold qo at hz ⊢;obtain⟨a1,z5⟩:=close_w (r:=r) (r2:=(E (dr (E r.paren).2)).2.to (dI (dr (E (dr (E r.paren).2)).2).s).2) (o4.st.go pe) (t4.go pe) hz;have z4:(dr (E (dr (E r.paren).2)).2).s.e=0:=fp fun q=>pe.er q z5;obtain⟨a2,z3⟩:=com_w o3 t3 z4;obtain⟨n2,b1,b2⟩:=hE j hj _ o2 t2 z3;have z2:(dr (E r.paren).2).s.e=0:=fp fun q=>pb.s.er q z3;obtain⟨a3,z1⟩:=com_w o1 t1 z2;obtain⟨n1,c1,c2⟩:=hE j hj _ g5 gp z1;have z0:r.paren.s.e=0:=fp fun q=>pa.s.er q z1;have p:=paren_w h g z0;have w5:=wL_go pe;have a1:wLs ((E (dr (E r.paren).2)).2.to (dI (dr (E (dr (E r.paren).2)).2).s).2).close.s+1<=wLs (dI (dr (E (dr (E r.paren).2)).2).s).2:=a1;refine⟨n1+n2+3,by dsimp only;omega,gx_node res_emp fun k=>?_⟩;obtain⟨d1,d2⟩:=c2 k;obtain⟨e1,e2⟩:=b2 k;refine⟨?_,by simp[d2,e2]⟩;have e:(ByteArray.mk #[]).size=0:=rfl;have:=nC_le 15;rw[aa zd,e];simp only[fZ,List.map_nil,sH,List.sum_nil];omega
def call_rf{pe:ByteArray->Int}{k:Nat}{E:Rd->X×Rd}{op n:Int}(ho:op≠1)(hP:∀j,k=j+1->PFb j E)(hE:∀j,k=j+1->RFb j E){r:Rd}(h:bU de k r)(g:GTk r.s)(hz0:r.s.e=0)(hz:(kj E pe op n r).2.s.e=0):
 ∃m,wLs (kj E pe op n r).2.s+m<=wLs r.s∧GXb m (kj E pe op n r).1:=by
 unfold kj at hz ⊢;by_cases c1:op=22∨op=26
 ·rw[ae c1]at hz ⊢;exact has_rf ho h g hz0 hz
 rw[aa c1]at hz ⊢;by_cases c2:op=15
 ·rw[ae c2]at hz ⊢;exact div_rf hP hE h g hz0 hz
 rw[aa c2]at hz ⊢;obtain⟨m,a,b⟩:=args_rf hP hE h g hz0 hz;refine⟨m+2,a,gx_node res_emp fun k=>?_⟩;obtain⟨d1,d2⟩:=b k;have e:(ByteArray.mk #[]).size=0:=rfl;have:=nC_le op;refine⟨?_,d2⟩;rw[aa ho,e];omega
def cmp_rf{k:Nat}{E Ch:Rd->X×Rd}(hP:∀j,k=j+1->PFb j E)(hE:∀j,k=j+1->RFb j E)(hQ:PFb k Ch)(hC:RFb k Ch):RFb k (i6 E Ch):=fun r h g hz=>by
 have p:=(hQ r h).g;have h1:=h.go p;have g1:=g.go p.s;have gn:Go (Ch r).2 ((Ch r).2.to (Ch r).2.s.next):=Go.of (Steps.next _) rfl;unfold i6 at hz ⊢;cases ho:(Ch r).2.op 4 with
 | some o=>
  rw[ho]at hz;dsimp only at hz ⊢;have p2:=(hQ _ (h1.go gn)).g;have z1:((Ch r).2.to (Ch r).2.s.next).s.e=0:=fp fun q=>p2.s.er q hz;have z0:(Ch r).2.s.e=0:=fp fun q=>gn.s.er q z1;obtain⟨n1,a1,a2⟩:=hC r h g z0;obtain⟨n2,b1,b2⟩:=hC _ (h1.go gn) (g1.go gn.s) hz;obtain⟨c,d,_⟩:=take_w h1.st g1 (EQ ho);have b1:wLs (Ch ((Ch r).2.to (Ch r).2.s.next)).2.s+n2<=wLs (Ch r).2.s.next:=b1;exact⟨n1+n2+1,zo,gx_bin (op_16 zd ho) a2 b2 (ao _)⟩
 | none=>
  rw[ho]at hz;dsimp only at hz ⊢;by_cases c:(Ch r).2.s.aH inT=true
  ·rw[ae c]at hz ⊢;have z0:=(lI (lN c).1).1;have zn:((Ch r).2.to (Ch r).2.s.next).s.e=0:=by
    show(Ch r).2.s.next.e=0;unfold St.next;split<;>exact z0
   obtain⟨n1,a1,a2⟩:=hC r h g z0;obtain⟨n2,b1,b2⟩:=args_rf hP hE (h1.go gn) (g1.go gn.s) zn hz;obtain⟨d1,d2,_⟩:=take_w h1.st g1 (lN c).2;have b1:wLs (eI E 1 (-1) ((Ch r).2.to (Ch r).2.s.next)).2.s+(n2+2)<=wLs (Ch r).2.s.next:=b1;refine⟨n1+n2+3,by dsimp only;omega,gx_node res_emp fun k=>?_⟩;obtain⟨u1,u2⟩:=a2 k;obtain⟨v1,v2⟩:=b2 k;have e:(ByteArray.mk #[]).size=0:=rfl;have e25:nCo 25=16:=zd
   refine⟨?_,by simp only[FK,u2,v2,Bool.or_self]⟩;rw[aa zd,e,e25];simp only[fZ,sH];omega
  ·rw[aa c]at hz ⊢;exact hC r h g hz
def gx_val{v:V}{n:Nat}(h:16+vSz v<=34*n+14):GXb n (.mk 1 0 ⟨#[]⟩ [v] []):=by
 refine gx_node res_emp fun k=>⟨?_,rfl⟩
 have e:(ByteArray.mk #[]).size=0:=rfl;have e1:nCo 1=16:=zd
 rw[ae rfl,e,e1];show 0+(16+0+vSz v)<=_;omega
def val_w{s:St}(h:eu de s)(g:GTk s)(hv:s.val=true)(hz:(fw s).2.e=0):∃n,wLs (fw s).2+n<=wLs s∧16+vSz (fw s).1<=34*n+14:=by
 unfold fw at hz ⊢;by_cases c1:s.e≠0
 ·rw[ae c1]at hz;exact absurd hz c1
 rw[aa c1]at hz ⊢;rw[aa (by rw[hv];simp)]at hz ⊢;have hk:(s.accept bP).peek.kind≠0:=by
  unfold St.accept;by_cases q:s.aH bP=true
  ·rw[ae q];obtain⟨k1,k2⟩:=isT_text q;unfold St.val at hv;by_cases q2:s.peek.kind=2∨s.peek.kind=3∨s.peek.kind=4
   ·omega
   rw[aa q2]at hv;by_cases q3:s.peek.kind=1
   ·rw[ae q3,k2]at hv;exact absurd hv zd
   ·rw[aa q3]at hv;unfold St.neg at hv;simp only[az,cX]at hv;rw[hv.2.1];decide
  ·rw[aa q];unfold St.val at hv;split at hv
   ·omega
   split at hv
   ·omega
   ·unfold St.neg at hv;have q2:s.aH bP=false:=by simpa using q
    rw[show s.aH ⟨#[45]⟩=false from q2]at hv;cases hv
 have sa:=Steps.accept s bP;have h1:=h.go sa;have g1:=g.go sa;obtain⟨t1,t2,t3⟩:=take_w h1 g1 hk;have w1:=wL_go sa;have h2:=h1.go (.next _);have g2:=g1.go (.next _);generalize s.aH bP=m at*;generalize (s.accept bP).peek=x at*;generalize (s.accept bP).next=s2 at*;dsimp only at hz ⊢;rw[aa (by rw[hz];simp)];unfold gR at hz ⊢;by_cases k2:x.kind=2
 ·rw[ae k2]at hz ⊢;refine⟨tlT x,by dsimp only;omega,?_⟩;have:vSz (i8 m x)=24:=by unfold i8;split<;>rfl
  dsimp only;omega
 rw[aa k2]at hz ⊢;by_cases k3:x.kind=3
 ·rw[ae k3]at hz ⊢;refine⟨tlT x,by dsimp only;omega,?_⟩;have e1:tlT x=x.value.size+1:=by unfold tlT;rw[aa zo,ae zo]
  have e2:vSz (sc 4 0 0 x.value)=6*x.value.size+2:=rfl;dsimp only;omega
 rw[aa k3]at hz ⊢;by_cases k4:x.kind=4
 ·rw[ae k4]at hz ⊢;refine⟨tlT x,by dsimp only;omega,?_⟩;have e1:tlT x=x.value.size+1:=by unfold tlT;rw[aa zo,ae zo]
  have e2:vSz (sc 5 0 0 x.value)=2*x.value.size+3:=rfl;dsimp only;omega
 rw[aa k4]at hz ⊢;have e1:tlT x=x.text.size:=by unfold tlT;rw[aa hk,aa zo]
 have take:∀e:Int,((s2.take 3).fail e).e=0->wLs ((s2.take 3).fail e)+1<=wLs s2:=fun e hz=>by
  have z:(s2.take 3).e=0:=fp fun q=>Wx _ _ q hz;rw[wL_fail];unfold St.take at z ⊢;by_cases q:s2.takes 3=true
  ·rw[ae q]at z ⊢;unfold St.takes at q;simp only[az,cX]at q;obtain⟨u1,u2,_⟩:=take_w h2 g2 zo;omega
  ·rw[aa q]at z;exact(fail_bad h2 zd z).elim
 unfold jx at hz ⊢;by_cases c1:x.text=qr
 ·rw[ae c1]at hz ⊢;have:=take _ hz;refine⟨tlT x+1,by dsimp only;omega,?_⟩;have e2:vSz (sc 6 (lZ (s2.fS 3).value).1 0 ⟨#[]⟩)=151:=rfl;rw[e1,c1,show qr.size=4 from rfl];dsimp only;omega
 rw[aa c1]at hz ⊢;by_cases c2:x.text=oR
 ·rw[ae c2]at hz ⊢;have:=take _ hz;refine⟨tlT x+1,by dsimp only;omega,?_⟩;have e2:vSz (sc 7 (l7 (s2.fS 3).value).1 0 ⟨#[]⟩)=151:=rfl;rw[e1,c2,show oR.size=4 from rfl];dsimp only;omega
 rw[aa c2];refine⟨tlT x,by dsimp only;omega,?_⟩;have:vSz (qq (decide (x.text=uw)))=24:=rfl;dsimp only;omega
def calls_1:∀p∈ba,p.2.1≠1:=zd
def prim_rf{pe:ByteArray->Int}{k:Nat}{E:Rd->X×Rd}(hP:∀j,k=j+1->PFb j E)(hE:∀j,k=j+1->RFb j E):RFb k (eS E pe):=fun r h g hz=>by
 unfold eS at hz ⊢;by_cases c0:r.bad=true
 ·rw[ae c0]at hz;unfold Rd.bad at c0;exact absurd hz (by simpa using c0)
 rw[aa c0]at hz ⊢;have hz0:r.s.e=0:=by
  unfold Rd.bad at c0;simpa using c0
 by_cases c1:r.s.val=true
 ·rw[ae c1]at hz ⊢;obtain⟨n,a,b⟩:=val_w h.st g c1 hz;exact⟨n,a,gx_val b⟩
 rw[aa c1]at hz ⊢;by_cases c2:r.s.peek.kind=1∧(dk r.s.peek.text ba).isSome=true
 ·rw[ae c2]at hz ⊢;have gn:Go r (r.to r.s.next):=Go.of (Steps.next _) rfl;have hz2:(r.to r.s.next).s.e=0:=by
   show r.s.next.e=0;unfold St.next;split<;>exact hz0
  obtain⟨t1,t2,_⟩:=take_w h.st g zo;obtain⟨q,hq⟩:=Option.isSome_iff_exists.1 c2.2;rw[hq]at hz ⊢;obtain⟨kk,hk⟩:=L8 hq;obtain⟨m,a,b⟩:=call_rf (pe:=pe) (n:=q.2) (calls_1 _ hk) hP hE (h.go gn) (g.go gn.s) hz2 hz;have a:wLs (kj E pe q.1 q.2 (r.to r.s.next)).2.s+m<=wLs r.s.next:=a;exact⟨m,aG a zo,b⟩
 rw[aa c2]at hz ⊢;by_cases c3:r.s.peek.kind=1∧dQ r.s.peek.text=false
 ·rw[ae c3]at hz ⊢;obtain⟨a,b,c⟩:=pathF_w (pe:=pe) h.st g hz;exact⟨(dN pe r.s).1.size,a,gx_leaf zd b (.inl ⟨rfl,ao _,c⟩)⟩
 rw[aa c3]at hz ⊢;by_cases c4:r.s.aH fV=true
 ·rw[ae c4]at hz ⊢;obtain⟨g1,_,_,_,j,hj,g5⟩:=sl h hz0;have p:=(hP j hj _ g5).g;obtain⟨a,z⟩:=close_w (r:=r) (g5.go p).st ((g.go g1).go p.s) hz;obtain⟨n,b1,b2⟩:=hE j hj _ g5 (g.go g1) z;have w:=wL_go g1;exact⟨n,by dsimp only;omega,b2⟩
 ·rw[aa c4]at hz;exact(fail_bad h.st zd hz).elim
def pf_of{D k:Nat}{g:FuncId}{F:Rd->X×Rd}(h:cW de (0+1) D k g F):PFb k F:=fun r hr=>(h r hr).1
def rec_rf:∀k,RFb k (ff jt k).1∧RFb k (ff jt k).2.1∧RFb k (ff jt k).2.2:=by
 have hpe:∀t,jt t=0->t.size<=200:=fun t h=>Jq h;have hpc:∀t:ByteArray,t.size<=100000000000->Asc t->Af prog 43 [.str fun _=>t] [] (.ag [.any,.int .i64 fun _=>jt t]) []:=fun t ht _=>Si t ht;have hD:65600<=65600:=ao _;have lvl:∀{k:Nat} {E N U:Rd->X×Rd},(∀j,k=j+1->cW de (0+1) 65600 j 67 E)->(∀j,k=j+1->cW de (0+1) 65600 j 185 N)->(∀j,k=j+1->cW de (0+1) 65600 j 282 U)->(∀j,k=j+1->RFb j E)->(∀j,k=j+1->RFb j N)->(∀j,k=j+1->RFb j U) ->
  RFb k (Fe jt E N U)∧RFb k (AP jt E N U)∧RFb k (ib U (eS E jt)):=fun{k E N U} hE hN hU hrE hrN hrU=>by
  have hfu:=WQ hD hU (XR hpe hpc hD hE);have f7:=Wz hD hfu;have f6:=WB hD f7;have f5:=WD hD f6;have fn:=WP hD hN (WX hD hE f5);have f2:=WF hD fn;have hpE:∀j,k=j+1->PFb j E:=fun j hj=>pf_of (hE j hj);have u:=un_rf hrU (prim_rf (pe:=jt) hpE hrE);have c:=chain_rf (zd:5<10) (pf_of f6) (chain_rf (zd:6<10) (pf_of f7) (chain_rf (zd:7<10) (pf_of hfu) u));have n:=neg_rf hrN (cmp_rf hpE hrE (pf_of f5) c);exact⟨chain_rf (zd:1<10) (pf_of f2) (chain_rf (zd:2<10) (pf_of fn) n),n,u⟩
 intro k
 induction k with
 | zero=>exact lvl (fun j hj=>zo) (fun j hj=>zo) (fun j hj=>zo) (fun j hj=>zo) (fun j hj=>zo) (fun j hj=>zo)
 | succ k ih=>
  obtain⟨a,b,c⟩:=Mc (e:=0) hpe hpc hD k;obtain⟨x,y,z⟩:=ih;have key:∀{p:Nat->Prop},p k->∀j,k+1=j+1->p j:=fun hp j hj=>by
   obtain rfl:k=j:=zo
   exact hp
  exact lvl (key (p:=fun j=>cW de (0+1) 65600 j 67 _) a) (key (p:=fun j=>cW de (0+1) 65600 j 185 _) b) (key (p:=fun j=>cW de (0+1) 65600 j 282 _) c) (key (p:=fun j=>RFb j _) x) (key (p:=fun j=>RFb j _) y) (key (p:=fun j=>RFb j _) z)
def expr_le(s:ByteArray):X.le 1 65600 (ep jt (newS s)).1:=by
 have h:=Sh s;have hr:bU de 33 (.mk (newS s) 0):=⟨h.fin,h.len,(zd:(-1:Int)<=0),(zd:(0:Int)<=33),h.ne,.inr ⟨(zd:(0:Int)<=0),(zd:(0:Int)<=32),(zd:(33:Int)<=((33:Nat):Int)+0)⟩,h.tk⟩
 have p:=pf_of (Mc (e:=0) (D:=65600) (fun t h=>Jq h) (fun t ht _=>Si t ht) (ao _) 33).1 _ hr;have hl:=h.len;refine X.cP p.x ?_;show 1+((newS s).l.length-_)<=_;omega
def expr_gx(s:ByteArray)(hz:(ep jt (newS s)).2.s.e=0):GXb s.size (ep jt (newS s)).1:=by
 have h:=Sh s;have hr:bU de 33 (.mk (newS s) 0):=⟨h.fin,h.len,(zd:(-1:Int)<=0),(zd:(0:Int)<=33),h.ne,.inr ⟨(zd:(0:Int)<=0),(zd:(0:Int)<=32),(zd:(33:Int)<=((33:Nat):Int)+0)⟩,h.tk⟩
 obtain⟨n,a,b⟩:=(rec_rf 33).1 _ hr (scanA_len s).2 hz;have hw:wLs (newS s)<=s.size:=(scanA_len s).1;have a:wLs ((ff jt 33).1 (.mk (newS s) 0)).2.s+n<=wLs (newS s):=a;exact b.mono zo
def parse_facts(s:ByteArray){ck:X->Int}(hz:(oY jt ck (newS s)).2.2.2=0):GXb s.size (oY jt ck (newS s)).1∧ck (oY jt ck (newS s)).1=0:=by
 have es:∀t:St,t.e≠0->(oZ t).e≠0:=fun t h=>by unfold oZ;split;exact Wx _ _ h;exact h
 unfold oY at hz ⊢;by_cases c1:(oZ (mJ jt ck (newS s)).2).e≠0
 ·rw[ae c1]at hz;exact absurd hz c1
 rw[aa c1];unfold mJ at c1 ⊢;by_cases c2:(ep jt (newS s)).2.s.e≠0
 ·rw[ae c2]at c1;exact absurd (es _ c2) c1
 rw[aa c2]at c1 ⊢;by_cases c3:((ep jt (newS s)).2.s.fail (ck (ep jt (newS s)).1)).e≠0
 ·rw[ae c3]at c1;exact absurd (es _ c3) c1
 rw[aa c3];have z2:(ep jt (newS s)).2.s.e=0:=gr.1 c2;refine⟨expr_gx s z2,?_⟩;refine sI fun q=>?_;have h:=Sh s;have hr:bU de 33 (.mk (newS s) 0):=⟨h.fin,h.len,(zd:(-1:Int)<=0),(zd:(0:Int)<=33),h.ne,.inr ⟨(zd:(0:Int)<=0),(zd:(0:Int)<=32),(zd:(33:Int)<=((33:Nat):Int)+0)⟩,h.tk⟩
 have p:=pf_of (Mc (e:=0) (D:=65600) (fun t h=>Jq h) (fun t ht _=>Si t ht) (ao _) 33).1 _ hr;exact fail_bad (hr.go p.g).st q (gr.1 c3)
def parse_ckd(s:ByteArray)(ck:X->Int)(h:∀x,X.le 1 65600 x->Af prog 15 [aq 1 65600 .any fun _=>x] [] (.int .i64 fun _=>ck x) [])(hs:s.size<=1073741824):
 Af prog 24 [.str fun _=>s] [] (.ag [aq 1 65600 .any fun _=>(oY jt ck (newS s)).1,.int .i64 fun _=>(oY jt ck (newS s)).2.1,.int .i64 fun _=>(oY jt ck (newS s)).2.2.1,.int .i64 fun _=>(oY jt ck (newS s)).2.2.2]) []:=
 Jw (pe:=jt) (fun t h=>Jq h) (fun t ht _=>Si t ht) (e:=0) (D:=65600) zd (ck:=ck) (newS s) (Ja _ hs) (Sh s) fun _=>h _ (expr_le s)
end Go.Ai
