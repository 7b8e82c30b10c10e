/- Chapter 17: the printer: the text of an expression, whole. -/
import Derived.Test.YtbagpkiomjlhkaaGreatDoorTxB
set_option linter.all false
namespace Go.Ai
open Go Go.Proofs Tryz
set_option maxRecDepth 100000
set_option maxHeartbeats 4000000
def Ym(e D:Nat)(x:X)(need:Int)(t:ByteArray)(h:Af prog 40 [aq (e+1) (D+1) .any fun _=>x,.int .i64 fun _=>0] [] (.str fun _=>t) [])(hb:aE x.op<need)(ht:t.size<=1152921504606846976):
 Af prog 40 [aq (e+1) (D+1) .any fun _=>x,.int .i64 fun _=>need] [] (.str fun _=>dq t) []:=by
 have h1:=nN x e (D+1);unfold dq;generalize aE x.op=b at*
 (refine fA [.tmp 4] mM [(1,[(1,zI b,[])]),(3,[(1,zR t,[])]),(5,[(5,.any,[])]),(7,[(4,.any,[])]),(13,[(4,.any,[]),(9,.any,[])]),(15,[(4,.any,[]),(9,.any,[]),(16,.any,[])]),(17,[(5,.any,[]),(10,.any,[]),(19,.any,[])]),(19,[(4,.any,[])]),(25,[(2,.any,[])]),(27,[(3,.any,[])]),(28,[(0,.any,[])])] func40 fun _=>?_;repeat' first|exact⟨⟩|apply mA|apply mC<;>intro)
 all_goals try exact absurd hb (pc.2 ‹_›)
 all_goals try exact zB
 (all_goals try first|exact eZ|(refine qC ?_;repeat' first|exact⟨⟩|apply mA))
 all_goals(first|(simp only[aj,dX,bp,bV];omega)|rfl)
def rG(t u:ByteArray)(ts:List ByteArray)(s:ByteArray):bO (t::u::ts) s=t++s++bO (u::ts) s:=by
 unfold bO;apply gp;simp[Lib.join,iF]
def rH(t s:ByteArray):bO [t] s=t:=by
 unfold bO;apply gp;simp[Lib.join]
theorem wW(s:ByteArray):∀(ts:List ByteArray) (t:ByteArray),t∈ts->t.size<=(bO ts s).size
 | [u],t,h=>by rw[dD.1 h,rH];exact ao _
 | u::v::ts,t,h=>by
  rw[rG,aj,aj];rcases bW.1 h with rfl|h
  ·omega
  ·have:=wW s (v::ts) t h;omega
theorem Mk(s:ByteArray):∀(ts:List ByteArray),(bO ts s).size<=(ts.map fun t=>t.size+s.size).sum
 | []=>by show(⟨#[]⟩:ByteArray).size<=_;exact aB _
 | [u]=>by rw[rH];simp
 | u::v::ts=>by
  have:=Mk s (v::ts);rw[rG,aj,aj,fZ,sH];omega
def Ml{op:Int}(o3:¬op=3)(o16:¬op=16)(ct:¬op=25):aE op=1∨aE op=2∨aE op=4∨aE op=5∨aE op=6∨aE op=7∨aE op=9:=by
 unfold aE;rw[aa o3,aa ct,aa o16];simp only[lY];by_cases h0:(opsL 0).any (fun p=>p.2==op)=true
 ·simp[opsL]at h0
 by_cases h3:(opsL 3).any (fun p=>p.2==op)=true
 ·simp[opsL]at h3
 by_cases h8:(opsL 8).any (fun p=>p.2==op)=true
 ·simp[opsL]at h8
 by_cases h9:(opsL 9).any (fun p=>p.2==op)=true
 ·simp[opsL]at h9
 rw[aa h0]
 repeat' split
 all_goals first|omega|(exact absurd ‹_› h3)|(exact absurd ‹_› h8)|(exact absurd ‹_› h9)
def wX(lit:V->ByteArray):Nat->X->Nat
 | 0,_=>0
 | k+1,x=>100+x.text.size+(lit (x.value.getD 0 default)).size+(x.args.map fun y=>wX lit k y+6).sum
theorem rJ{f:X->Nat}:∀{l:List X} {i:Nat},i<l.length->f (l.getD i default)<=(l.map f).sum
 | y::l,0,_=>zsi
 | y::l,i+1,h=>by
  have:=rJ (f:=f) (l:=l) (i:=i) (by simpa using h);simp only[fZ,sH];show f (l.getD i default)<=_;omega
theorem Yn{f:X->Nat}:∀{l:List X},2<=l.length->f (l.getD 0 default)+f (l.getD 1 default)<=(l.map f).sum
 | y::z::l,_=>by simp only[fZ,sH];show f y+f z<=_;omega
theorem xa{f g:X->Nat}:∀{l:List X},(∀y∈l,f y<=g y)->(l.map f).sum<=(l.map g).sum
 | [],_=>ao _
 | y::l,h=>by
  have h1:=h y dJ;have h2:=xa (l:=l) fun z hz=>h z (cH _ hz);simp only[fZ,sH];omega
def Yo{f:X->Nat}(l:List X):((l.drop 1).map f).sum<=(l.map f).sum:=by
 cases l with
 | nil=>exact ao _
 | cons y l=>simp
def qv(t:ByteArray):(dq t).size=t.size+2:=by
 unfold dq;simp only[aj,dX,bp,bV];omega
def D5{lit:V->ByteArray}{k:Nat}{y:X}(n:Int):(aP lit k y n).size<=(fz lit k y).size+2:=by
 unfold aP;split
 ·rw[qv];exact ao _
 ·omega
def Mm(op:Int)(b:Nat)(hb:b<10):(gU op b).size<=4:=by
 unfold gU;have key:∀b,b<10->∀p∈opsL b,p.1.size<=4:=zd
 cases h:(opsL b).find? fun p=>p.2==op with
 | none=>exact aB _
 | some p=>exact key b hb p (List.mem_of_find?_eq_some h)
def Yp(op:Int):((ba.find? fun p=>p.2.1==op).elim 0 fun p=>p.1.size)<=10:=by
 have key:∀p∈ba,p.1.size<=10:=zd
 cases h:ba.find? fun p=>p.2.1==op with
 | none=>exact aB _
 | some p=>exact key p (List.mem_of_find?_eq_some h)
def Ab(T:X->ByteArray)(l:List X):(bO (l.map T) cR).size<=(l.map fun y=>(T y).size+2).sum:=by
 have:=Mk cR (l.map T);rw[xR]at this;exact this
def lH(x:X):Prop:=(x.op=3∨x.op=16∨x.op=25->1<=x.args.length)∧(¬x.op=3->¬x.op=16->¬x.op=25->aE x.op<9->2<=x.args.length)∧0<=x.int∧x.int<=1000∧(x.op=1->1<=x.value.length)
theorem uk(lit:V->ByteArray):∀(k:Nat) (x:X),X.all lH k x->(fz lit k x).size<=wX lit k x
 | 0,_,_=>ao _
 | k+1,x,h=>by
  have hT:∀y∈x.args,∀n,(aP lit k y n).size+4<=wX lit k y+6:=fun y hy n=>by
   have:=D5 (lit:=lit) (k:=k) (y:=y) n;have:=uk lit k y (h.2 y hy);omega
  obtain⟨q1,q2,q3,q4,q5⟩:=h.1;have hi:=qL x.int zo zo;have hj:=Ab (fun y=>aP lit k y 0) x.args;have hj1:=Ab (fun y=>aP lit k y 0) (x.args.drop 1);have hs:=xa (l:=x.args) (f:=fun y=>(aP lit k y 0).size+2) (g:=fun y=>wX lit k y+6) (fun y hy=>by have:=hT y hy 0;omega);have hs1:=Yo (f:=fun y=>(aP lit k y 0).size+2) x.args;have hs2:2<=x.args.length->wX lit k (x.args.getD 0 default)+6+(wX lit k (x.args.getD 1 default)+6)<=_:=fun q=>Yn (f:=fun y=>wX lit k y+6) q;have hs3:1<=x.args.length->wX lit k (x.args.getD 0 default)+6<=_:=fun q=>rJ (f:=fun y=>wX lit k y+6) (i:=0) (l:=x.args) q;have hn:=Yp x.op;have hy:∀b,b<10->(gU x.op b).size<=4:=fun b hb=>Mm x.op b hb;have h0:1<=x.args.length->∀n,(aP lit k (x.args.getD 0 default) n).size+4<=wX lit k (x.args.getD 0 default)+6:=fun q n=>hT _ (by simp only[List.getD,bf (show 0<x.args.length by omega)];exact d9 _) n;have h1:2<=x.args.length->∀n,(aP lit k (x.args.getD 1 default) n).size+4<=wX lit k (x.args.getD 1 default)+6:=fun q n=>hT _ (by simp only[List.getD,bf (show 1<x.args.length by omega)];exact d9 _) n;show(bh lit (aP lit k) x).size<=100+x.text.size+(lit (x.value.getD 0 default)).size+(x.args.map fun y=>wX lit k y+6).sum;unfold bh;by_cases o3:x.op=3
  ·rw[ae o3];have a:=h0 (q1 (.inl o3)) (aE x.op);have b:=hs3 (q1 (.inl o3));simp only[aj,oE,dX,bp,bV];omega
  rw[aa o3];by_cases o16:x.op=16
  ·rw[ae o16];have a:=h0 (q1 (.inr (.inl o16))) 9;have b:=hs3 (q1 (.inr (.inl o16)));split
   ·simp only[aj,qv,dX,bp,bV];omega
   ·simp only[aj,dX,bp,bV];omega
  rw[aa o16];by_cases ct:x.op=25
  ·rw[ae ct];have a:=h0 (q1 (.inr (.inr ct))) 5;have b:=hs3 (q1 (.inr (.inr ct)));have e:(x.args.map fun y=>wX lit k y+6).sum=wX lit k (x.args.getD 0 default)+6+((x.args.drop 1).map fun y=>wX lit k y+6).sum:=by
    have:=q1 (.inr (.inr ct));cases hx:x.args with
    | nil=>rw[hx]at this;simp at this
    | cons y l=>simp
   have f:=xa (l:=x.args.drop 1) (f:=fun y=>(aP lit k y 0).size+2) (g:=fun y=>wX lit k y+6) (fun y hy=>by have:=hT y (uQ hy) 0;omega);simp only[aj,uj,dX,bp,bV];omega
  rw[aa ct];by_cases hb:aE x.op<9
  ·have l2:=q2 o3 o16 ct hb;have a:=h0 zo;have b:=h1 l2;have c:=hs2 l2;by_cases b4:aE x.op=4
   ·rw[ae b4];have a:=a 5;have b:=b 5;have d:=hy 4 zd;simp only[aj,dX,bp,bV];omega
   ·rw[aa b4,ae hb];have a:=a (aE x.op);have b:=b (aE x.op+1);have d:=hy (aE x.op).toNat zo
    simp only[aj,dX,bp,bV];omega
  ·rw[aa zo,aa hb];split
   ·omega
   split
   ·omega
   unfold w9 iZ;cases hc:ba.find? fun p=>p.2.1==x.op with
   | none=>simp only[Option.elim];exact aG (aB _) (aB _)
   | some p=>
    rw[hc]at hn;simp only[Option.elim]at hn ⊢
    repeat' split
    all_goals(simp only[aj,dX,bp,bV];omega)
def wR(lit:V->ByteArray)(e:Nat)(x:X):Prop:=x.op=1->∃er,Af prog 48 [aK (e+1) .any fun _=>x.value.getD 0 default] [] (.ag [.str fun _=>lit (x.value.getD 0 default),.int .i64 fun _=>er]) []
theorem X.mt{P Q:X->Prop}(h:∀x,P x->Q x):∀{k:Nat} {x:X},X.all P k x->X.all Q k x
 | 0,_,_=>trivial
 | _+1,_,hx=>⟨h _ hx.1,fun y hy=>X.mt h (hx.2 y hy)⟩
theorem DL(lit:V->ByteArray)(e:Nat):∀(k D:Nat) (x:X) (need:Int),X.le (e+1) (D+1) x->X.le (e+1) k x->X.all (fun x=>lH x∧wR lit e x) k x->wX lit k x<=549755813888->0<=need->need<=9 ->
 Af prog 40 [aq (e+1) (D+1) .any fun _=>x,.int .i64 fun _=>need] [] (.str fun _=>aP lit k x need) []
 | 0,_,_,_,_,h,_,_,_,_=>h.elim
 | k+1,D,x,need,hx,hk,ha,hw,hn0,TR=>by
  have hz:=uk lit (k+1) x (X.mt (fun _ h=>h.1) ha);have hT:∀i,i<x.args.length->ss (aP lit k) e D (x.args.getD i default):=fun i hi n h1 h2 _=>by
   have hy:=X.gg hx hi;obtain⟨c,rfl⟩:=X.lP hy;have e1:x.args.getD i default=x.args[i]:=by simp[List.getD,hi]
   have hs:=rJ (f:=fun y=>wX lit k y+6) hi;have hw':100+x.text.size+(lit (x.value.getD 0 default)).size+(x.args.map fun y=>wX lit k y+6).sum<=549755813888:=hw;refine DL lit e k c _ n hy (X.gg hk hi) (ha.2 _ ?_) zo h1 h2;rw[e1];exact d9 hi
  have key:∀need,need<=aE x.op->Af prog 40 [aq (e+1) (D+1) .any fun _=>x,.int .i64 fun _=>need] [] (.str fun _=>bh lit (aP lit k) x) []:=fun need hb=>by
   obtain⟨⟨q1,q2,q3,q4,q5⟩,q6⟩:=ha.1;have hz':(bh lit (aP lit k) x).size<=549755813888:=aG hz hw;have hm:=hk.2.2.1;by_cases o3:x.op=3
   ·exact Yc lit _ e D x need hT (q1 (.inl o3)) zo hb o3
   by_cases o16:x.op=16
   ·have l1:=q1 (.inr (.inl o16));have e1:x.args.getD 0 default=x.args[0]:=by simp[List.getD,show 0<x.args.length by omega]
    refine Yd lit _ e D x need hT l1 (fun h=>?_) zo hb o16;obtain⟨c,rfl⟩:=X.lP (X.gg hk (show 0<x.args.length by omega));exact(ha.2 (x.args.getD 0 default) (by rw[e1];exact d9 _)).1.1.2.2.2.2 h
   by_cases ct:x.op=25
   ·exact Yh lit _ e D x need hT (q1 (.inr (.inr ct))) hm zo hb ct fun ts t h=>wW _ ts t h
   have l2:=q2 o3 o16 ct;rcases Ml o3 o16 ct with b|b|b|b|b|b|b
   ·exact xI lit _ e D x need hT (l2 zo) zo hb 1 zd zd zd b o3 o16 ct
   ·exact xI lit _ e D x need hT (l2 zo) zo hb 2 zd zd zd b o3 o16 ct
   ·exact Ye lit _ e D x need hT (l2 zo) zo hb b o3 o16 ct
   ·exact xI lit _ e D x need hT (l2 zo) zo hb 5 zd zd zd b o3 o16 ct
   ·exact xI lit _ e D x need hT (l2 zo) zo hb 6 zd zd zd b o3 o16 ct
   ·exact xI lit _ e D x need hT (l2 zo) zo hb 7 zd zd zd b o3 o16 ct
   by_cases o1:x.op=1
   ·obtain⟨er,h3⟩:=q6 o1;exact Yf lit er _ e D x need (q5 o1) h3 hb o1
   by_cases o2:x.op=2
   ·exact Yg lit _ e D x need hb o2
   refine Yl lit _ e D x need hT hm (by have:=hk.1;omega) hb b o1 o2 o3 o16 ct ⟨q3,q4⟩ ?_ fun ts t h=>wW _ ts t h;have h5:=Ab (fun y=>aP lit k y 0) x.args
   have hs:=xa (l:=x.args) (f:=fun y=>(aP lit k y 0).size+2) (g:=fun y=>wX lit k y+6) (fun y hy=>by
    have:=D5 (lit:=lit) (k:=k) (y:=y) 0;have:=uk lit k y (X.mt (fun _ h=>h.1) (ha.2 y hy));omega)
   have hw':100+x.text.size+(lit (x.value.getD 0 default)).size+(x.args.map fun y=>wX lit k y+6).sum<=549755813888:=hw;omega
  unfold aP;by_cases hb:aE x.op<need
  ·rw[ae hb];refine Ym e D x need _ (key 0 ?_) hb zo;by_cases o3:x.op=3
   ·rw[o3];decide
   by_cases o16:x.op=16
   ·rw[o16];decide
   by_cases ct:x.op=25
   ·rw[ct];decide
   have:=Ml o3 o16 ct;omega
  ·rw[aa hb];exact key need zo
def Jl(e D:Nat)(x:X)(ck:Int)(hd:Bool)(t:ByteArray)(h1:Af prog 15 [aq (e+1) (D+1) .any fun _=>x] [] (.int .i64 fun _=>ck) [])
 (h2:ck=0->Af prog 39 [aq (e+1) (D+1) .any fun _=>x] [] (.bool fun _=>hd) [])
 (h3:ck=0->hd=false->Af prog 40 [aq (e+1) (D+1) .any fun _=>x,.int .i64 fun _=>0] [] (.str fun _=>t) []):
 Af prog 14 [aq (e+1) (D+1) .any fun _=>x] [] (.ag [.str fun _=>if ck=0∧hd=false then t else⟨#[]⟩,.int .i64 fun _=>if ck=0 then(if hd=true then 12 else 0)else ck]) []:=by
 (refine fA [.tmp 2,.tmp 3] Yq [(1,[(1,zI ck,[])]),(4,[(1,zO hd,[])]),(6,[(1,zR t,[])])] func14 fun _=>?_;repeat' first|exact⟨⟩|apply mA|apply mC<;>intro)
 any_goals((with_reducible refine nO ?_);first|exact h1|exact h2 (by assumption)|exact h3 (by assumption) (by assumption))
 (all_goals try first|exact eZ|(refine qC ?_;repeat' first|exact⟨⟩|apply mA))
 all_goals simp_all
end Go.Ai
