/- Chapter 17's model: its reader of tokens. -/
import Derived.Test.YtbagpkiomjlhkaaGreatDoorLexA
import Derived.Test.YtbagpkiomjlhkaaGreatDoorScn
import Derived.Test.YtbagpkiomjlhkaaGreatDoorRdG
set_option linter.all false
namespace Go.Ai
open Go Go.Proofs
set_option maxRecDepth 100000
set_option maxHeartbeats 4000000
inductive Mr where
 | mk (l:List Tok) (i:Nat) (o e line col:Int)
namespace Mr
def l:Mr->List Tok|mk l _ _ _ _ _=>l
def i:Mr->Nat|mk _ i _ _ _ _=>i
def o:Mr->Int|mk _ _ o _ _ _=>o
def e:Mr->Int|mk _ _ _ e _ _=>e
def line:Mr->Int|mk _ _ _ _ n _=>n
def col:Mr->Int|mk _ _ _ _ _ n=>n
def peek(r:Mr):Tok:=if r.e≠0∨r.l.length<=r.i then default else r.l.getD r.i default
def behind(r:Mr):Tok:=if r.e≠0∨r.l.length<=r.i+1 then default else r.l.getD (r.i+1) default
def next(r:Mr):Mr:=if r.peek.kind≠0 then mk r.l (r.i+1) r.o r.e r.line r.col else r
def fail(r:Mr)(e:Int):Mr:=if r.e=0∧e≠0 then mk r.l r.i r.o e r.peek.line r.peek.col else r
def aH(r:Mr)(t:ByteArray):Bool:=(decide (r.peek.kind=1)||decide (r.peek.kind=5))&&decide (r.peek.text=t)
def accept(r:Mr)(t:ByteArray):Mr:=if r.aH t=true then r.next else r
end Mr
def Mr.place(r:Mr):Int×Int×Int:=if r.e=0 then(0,0,0)else(r.line,r.col,r.e)
def Ad{s:ByteArray}{a b:Nat}(hb:b<=s.size)(h:∀m,a<=m->m<b->ad s m<128):Asc (s.extract a b):=by
 intro x hx;obtain⟨k,hk,hkx⟩:=sD hx;have hl:(s.extract a b).data.toList.length=b-a:=by
  rw[fY];show(s.extract a b).size=_;rw[dh];omega
 rw[hl]at hk;have h1:=qh (s:=s) (i:=a) (j:=b) (k:=k) hk hb;have h2:=h (a+k) zo zo;have h3:ad (s.extract a b) k=(x.toNat:Int):=by
  unfold ad;rw[<- qw,bf (by rw[hl];exact hk),hkx];rfl
 omega
def TY{c:Int}(h:cx c=true):c<128:=by
 unfold cx bJ bD at h;simp only[eU,cX]at h;omega
def J6{c:Int}(h:bD c=true):c<128:=by
 unfold bD at h;simp only[cX]at h;omega
def D8{s:ByteArray}{p:Int->Bool}{i m:Nat}(h:i<=m)(g:m<bn s p i):p (ad s m)=true:=D9 _ _ m h g
def TZ{s:ByteArray}{i:Nat}(hi:i<s.size)(hl:bD (ad s i)=true):∀m,i<=m->m<gN s i->ad s m<128:=by
 have h1:=Ae hi hl;have hJ:∀m,i<=m->m<aY s i->ad s m<128:=fun m a b=>J6 (D8 a b);have hK:∀m,i<=m->m<cy s i->ad s m<128:=by
  intro m a b;by_cases g:m<aY s i
  ·exact hJ m a g
  ·unfold cy at b;split at b
   ·rename_i c;by_cases e:m=aY s i
    ·rw[e,c.1];decide
    ·exact J6 (D8 (i:=aY s i+1) zo b)
   ·omega
 intro m a b;by_cases g:m<cy s i
 ·exact hK m a g
 ·unfold gN at b;split at b
  ·rename_i c;have:m=aY s i:=by omega
   rw[this,c.2.1];decide
  ·omega
def T1{s:ByteArray}{i:Nat}(h:gM s i=true):bJ (ad s i)=false∧ad s i<128∧ad s (i+1)<128:=by
 unfold gM at h;simp only[eU,az,dv]at h;have k:∀c:Int,c=45∨c=33∨c=60∨c=62∨c=46->bJ c=false:=by
  rintro c (rfl|rfl|rfl|rfl|rfl)<;>rfl
 exact⟨k _ zo,zo,zo⟩
def T2{c:Int}(h:iY c=true):bJ c=false∧c<128:=by
 unfold iY at h;rw[List.contains_iff_mem]at h;have k:∀c∈([40,41,123,125,91,93,60,62,61,58,59,44,46,63,43,45,42,38,64,124]:List Int),bJ c=false∧c<128:=zd
 exact k c h
def Ag{s:ByteArray}{i j:Nat}(h:i<j)(hj:j<=s.size):ad (s.extract i j) 0=ad s i:=by
 have:=qh (s:=s) (i:=i) (j:=j) (k:=0) zo hj;simpa using this
def T3{x:ByteArray}(h:(dV x).2.2=0):(-1000000000000000<=(dV x).1∧(dV x).1<=1000000000000000)∧0<=(dV x).2.1∧(ad x 0≠45->0<=(dV x).1):=by
 unfold dV decP at*;split at h
 ·exact absurd h (by show¬((4:Int)=0);decide)
 split at h
 ·exact absurd h (by show¬((5:Int)=0);decide)
 split at h
 ·exact absurd h (by show¬((13:Int)=0);decide)
 rename_i c1 c2 c3;rw[aa c1,aa c2,aa c3];have hn:(ej (jH x)).2=0:=gr.1 fun g=>c3 (.inr (.inl g));unfold ej at hn;have he:gI (jH x)=0:=by
  by_cases g:gI (jH x)≠0
  ·rw[ae g]at hn;exact hn
  ·exact gr.1 g
 unfold gI at he;split at he
 ·rename_i g;dsimp only;refine⟨zo,zo,fun hb=>?_⟩;have ht:(ej (jH x)).1=x:=gr.1 fun g=>c3 (.inr (.inr (.inl g)));unfold ej at ht;rw[aa (show¬gI (jH x)≠0 from fun g=>g (by unfold gI;rw[ae ‹_›]))]at ht;dsimp only at ht;refine pc.1 fun hn=>hb ?_;rw[ae hn]at ht;rw[<- ht];unfold ad;rw[iF,mO zd];rfl
 ·exact absurd he zd
def T5{s:ByteArray}(hs:s.size<=65536){i:Nat}(hi:i<s.size){l c:Int}{j:Bool}(h1:(cS s i (.mk 0 l c ⟨#[]⟩ ⟨#[]⟩ 0 0 j)).1=true)(h0:(cS s i (.mk 0 l c ⟨#[]⟩ ⟨#[]⟩ 0 0 j)).2.2.2.1=0):
 de (cS s i (.mk 0 l c ⟨#[]⟩ ⟨#[]⟩ 0 0 j)).2.2.2.2∧(cS s i (.mk 0 l c ⟨#[]⟩ ⟨#[]⟩ 0 0 j)).2.2.2.2.kind≠0:=by
 have ez:∀k,k<=s.size->(s.extract i k).size=k-i:=fun k hk=>by rw[dh];omega
 have z0:(0:Nat)<=65536:=zd
 have zn:(-1000000000000000:Int)<=0∧(0:Int)<=1000000000000000:=zd
 unfold cS at*;by_cases c0:ad s i=120∧ad s (i+1)=34
 ·rw[ae c0]at h0 ⊢;unfold mz at*;by_cases c1:s.size<=bn s eF (i+2)
  ·rw[ae c1]at h0;exact absurd h0 (by show¬((29:Int)=0);decide)
  rw[aa c1]at h0 ⊢;by_cases c2:ad s (bn s eF (i+2))≠34∨(bn s eF (i+2)-(i+2))%2≠0
  ·rw[ae c2]at h0;exact absurd h0 (by show¬((13:Int)=0);decide)
  rw[aa c2]at h0 ⊢;dsimp only at h0 ⊢;split at h0
  ·exact absurd h0 zd
  rename_i g;refine⟨⟨z0,?_,zn,fC _,fun q=>absurd q (by show¬((4:Int)=1);decide),fun q=>absurd q (by show¬((4:Int)=2);decide),fun q=>absurd q (by show¬((4:Int)=5);decide),Asc.nil⟩,by show(4:Int)≠0;decide⟩;show(eQ _ _).size<=_;rw[Ah];omega
 rw[aa c0]at h0 h1 ⊢;by_cases c1:bJ (ad s i)=true
 ·rw [ae c1];have hw:=jv (s:=s) (p:=cx) (i:=i) zo;refine⟨⟨?_,z0,zn,fC _,fun _=>?_,fun q=>absurd q (by show¬((1:Int)=2);decide),fun q=>absurd q (by show¬((1:Int)=5);decide),Ad hw.2 fun m a b=>TY (D8 a b)⟩,by show(1:Int)≠0;decide⟩
  ·show(s.extract i _).size<=_;rw[ez _ hw.2];omega
  ·show bJ (ad (s.extract i _) 0)=true;have:i<bn s cx i:=by
    rw[qf ⟨hi,by unfold cx;rw[c1];rfl⟩];have:=jv (s:=s) (p:=cx) (i:=i+1) zo;omega
   rw[Ag this hw.2];exact c1
 rw[aa c1]at h0 h1 ⊢;by_cases c2:bD (ad s i)=true
 ·rw[ae c2]at h0 ⊢;have hq:=Ae hi c2;unfold nR at*;by_cases c3:1<aY s i-i∧ad s i=48
  ·rw[ae c3]at h0;exact absurd h0 (by show¬((3:Int)=0);decide)
  rw[aa c3]at h0 ⊢;have hd:=T3 h0;refine⟨⟨?_,z0,hd.1,hd.2.1,fun q=>absurd q (by show¬((2:Int)=1);decide),fun _=>⟨?_,?_⟩,fun q=>absurd q (by show¬((2:Int)=5);decide),Ad zo (TZ hi c2)⟩,by show(2:Int)≠0;decide⟩
  ·show(s.extract i _).size<=_;rw[ez _ zo];omega
  ·show 0<(s.extract i _).size;rw[ez _ zo];omega
  ·refine hd.2.2 ?_;rw[Ag zo zo];intro q;rw[q]at c2;exact absurd c2 zd
 rw[aa c2]at h0 h1 ⊢;by_cases c3:ad s i=34
 ·rw[ae c3]at h0 ⊢;have h2:=xc (s:=s) (s.size+1) (i+1) ⟨#[]⟩ hi;unfold mB at*;cases hq:eG s (s.size+1) (i+1) ⟨#[]⟩with
  | inl v=>
   obtain⟨k,v⟩:=v;rw[hq]at h0;dsimp only at h0 ⊢;split at h0
   ·exact absurd h0 zd
   rename_i g;refine⟨⟨z0,?_,zn,fC _,fun q=>absurd q (by show¬((3:Int)=1);decide),fun q=>absurd q (by show¬((3:Int)=2);decide),fun q=>absurd q (by show¬((3:Int)=5);decide),Asc.nil⟩,by show(3:Int)≠0;decide⟩;show v.size<=_;omega
  | inr v=>
   obtain⟨k,w,e⟩:=v;rw[hq]at h0 h2;dsimp only at h0 h2;exact absurd h0 h2.2.2
 rw[aa c3]at h0 h1 ⊢;by_cases c4:gM s i=true
 ·rw [ae c4];have hp:=T1 c4;have hi2:i+2<=s.size:=by
   have:ad s (i+1)≠0:=by
    intro q;unfold gM at c4;rw[q]at c4;simp at c4
   have:=iu this;omega
  refine⟨⟨?_,z0,zn,fC _,fun q=>absurd q (by show¬((5:Int)=1);decide),fun q=>absurd q (by show¬((5:Int)=2);decide),fun _=>?_,Ad hi2 fun m a b=>?_⟩,by show(5:Int)≠0;decide⟩
  ·show(s.extract i _).size<=_;rw[ez _ hi2];omega
  ·show bJ (ad (s.extract i (i+2)) 0)=false;rw[Ag zo hi2];exact hp.1
  ·rcases(zo:m=i∨m=i+1)with rfl|rfl
   ·exact hp.2.1
   ·exact hp.2.2
 rw[aa c4]at h0 h1 ⊢;by_cases c5:iY (ad s i)=true
 ·rw[ae c5];have hp:=T2 c5;refine⟨⟨?_,z0,zn,fC _,fun q=>absurd q (by show¬((5:Int)=1);decide),fun q=>absurd q (by show¬((5:Int)=2);decide),fun _=>?_,Ad zo fun m a b=>?_⟩,by show(5:Int)≠0;decide⟩
  ·show(s.extract i _).size<=_;rw[ez _ zo];omega
  ·show bJ (ad (s.extract i (i+1)) 0)=false;rw[Ag zo zo];exact hp.1
  ·obtain rfl:m=i:=by omega
   exact hp.2
 rw[aa c5]at h1;exact absurd h1 (by show¬(false=true);decide)
def J7(R:List Tok×Int×Int×Int):Prop:=(R.2.2.2≠0∧R.1=[])∨(R.2=(0,0,0)∧∃L t,R.1=L++[t]∧(∀u∈L,de u∧u.kind≠0)∧de t∧t.kind=0∧L.length<=16384)
theorem J8{s:ByteArray}(hs:s.size<=65536):∀(n:Nat) (l:List Tok) (f i:Nat) (p:Int×Int) (last:Int),(∀u∈l,de u∧u.kind≠0)->l.length<=16384->i<=s.size->s.size-i<n->J7 (ny s n l f i p last)
 | 0,l,f,i,p,last,_,_,_,h=>absurd h zo
 | n+1,l,f,i,p,last,hl,hn,hi,h=>by
  simp only[ny];obtain⟨b1,b2⟩:=zZ (s:=s) (s.size-i) i hi;replace b1:i<=dR s i:=b1;replace b2:dR s i<=s.size:=b2;generalize dR s i=j at*;by_cases c1:s.size<=j
  ·rw[ae c1];exact .inr ⟨rfl,l,_,rfl,hl,⟨aB _,aB _,⟨by show(-1000000000000000:Int)<=0;decide,by show(0:Int)<=1000000000000000;decide⟩,fC _,fun q=>absurd q (by show¬((0:Int)=1);decide),fun q=>absurd q (by show¬((0:Int)=2);decide),fun q=>absurd q (by show¬((0:Int)=5);decide),Asc.nil⟩,rfl,hn⟩
  rw[aa c1];by_cases c2:l.length=16384
  ·rw[ae c2];exact .inl ⟨by show(9:Int)≠0;decide,rfl⟩
  rw[aa c2];have ht:=T5 hs (mS c1) (l:=(bT s f j p).1) (c:=(bT s f j p).2) (j:=decide ((j:Int)=last));have hm:=J9 (mS c1) (.mk 0 (bT s f j p).1 (bT s f j p).2 ⟨#[]⟩ ⟨#[]⟩ 0 0 (decide ((j:Int)=last)));generalize cS s j (.mk 0 (bT s f j p).1 (bT s f j p).2 ⟨#[]⟩ ⟨#[]⟩ 0 0 (decide ((j:Int)=last)))=r at*;by_cases c3:r.1=false
  ·rw[ae c3];exact .inl ⟨by show(6:Int)≠0;decide,rfl⟩
  rw[aa c3];have c3:r.1=true:=by simpa using c3
  by_cases c4:r.2.2.2.1≠0
  ·rw[ae c4];exact .inl ⟨c4,rfl⟩
  rw[aa c4];have c4:r.2.2.2.1=0:=gr.1 c4;have hm:=hm.1 c4 c3;refine J8 hs n _ _ _ _ _ (fun u hu=>?_) (by rw[du];show l.length+1<=_;omega) hm.2 zo;rcases gB.1 hu with g|g
  ·exact hl u g
  ·rw[dD.1 g];exact ht c3 c4
def T6(s:ByteArray):J7 (eY s):=by
 unfold eY;split
 ·exact .inl ⟨by show(5:Int)≠0;decide,rfl⟩
 ·exact J8 zo _ _ _ _ _ _ (fun u hu=>by cases hu) zd (aB _) zo
def newS(s:ByteArray):St:=.mk (eY s).1 (eY s).2.1 (eY s).2.2.1 (eY s).2.2.2
def Ja(s:ByteArray)(hs:s.size<=1073741824):Af Tryz.prog 20 [.str fun _=>s] [] (.ptr 19 0) [(19,am fun _=>newS s)]:=by
 have h1:=T7 s hs;unfold newS;generalize eY s=R at*;obtain⟨L,a,b,e⟩:=R;dsimp only at*
 (refine fB [.tmp 2] T8 [(1,[(1,.ag [DN fun _=>L,zI a,zI b,zI e],[])])] Tryz.func20 fun _=>?_;repeat' first|exact⟨⟩|apply mA|apply mC<;>intro)
 all_goals rfl
def Mr.rz(r:Mr)(e:Int):(r.fail e).l=r.l:=by unfold Mr.fail;split<;>rfl
def Mr.neg(r:Mr):Bool:=r.aH bP&&(decide (r.behind.kind=2)&&r.behind.joined)
end Go.Ai
