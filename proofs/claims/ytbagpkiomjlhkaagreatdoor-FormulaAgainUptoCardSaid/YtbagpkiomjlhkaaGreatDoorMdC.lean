/- Chapter 17: the law's model of the printer: text at right expressions; paths that begin with a reserved word; sizes. -/
import Derived.Test.YtbagpkiomjlhkaaGreatDoorMdA
set_option linter.all false
namespace Go.Ai
open Go Go.Proofs
set_option maxRecDepth 100000
set_option maxHeartbeats 4000000
def zM(x:X):Prop:=(1<=x.op∧x.op<=28)∧(0<=x.int∧x.int<=12)∧(x.op=22∨x.op=26->x.args.length=0)∧(aE x.op=9->¬x.op=1->¬x.op=2->¬x.op=22->¬x.op=26->0<x.args.length)
def zN(op:Int):1<=aE op:=by
 rcases qi op with⟨h,e,_⟩|⟨_,e⟩
 ·omega
 ·rw[e];repeat' split
  all_goals omega
theorem DM(lit:V->ByteArray)(e:Nat):∀(k D:Nat) (x:X) (need:Int),X.le (e+1) (D+1) x->X.le (e+1) k x->X.all (fun x=>(lH x∧wR lit e x)∧zM x) k x->wX lit k x<=549755813888->1<=need->need<=9 ->
 Af Tryz.prog 17 [aq (e+1) (D+1) .any fun _=>x,.int .i64 fun _=>need] [] (.str fun _=>aP lit k x need) []
 | 0,_,_,_,_,h,_,_,_,_=>h.elim
 | k+1,D,x,need,hx,hk,ha,hw,hn0,TR=>by
  have hsz:X.all lH (k+1) x:=X.mt (fun _ h=>h.1.1) ha;have hz:=uk lit (k+1) x hsz;have h01:∀y,aP lit k y 1=aP lit k y 0:=fun y=>by
   have:=zN y.op;unfold aP;rw[aa zo,aa zo]
  have hT:∀i,i<x.args.length->ui (aP lit k) e D (x.args.getD i default):=fun i hi n h1 h2 _=>by
   have hy:=X.gg hx hi;obtain⟨c,rfl⟩:=X.lP hy;have e1:x.args.getD i default=x.args[i]:=by simp[List.getD,hi]
   have hs:=rJ (f:=fun y=>wX lit k y+6) hi;have hw':100+x.text.size+(lit (x.value.getD 0 default)).size+(x.args.map fun y=>wX lit k y+6).sum<=549755813888:=hw;refine DM lit e k c _ n hy (X.gg hk hi) (ha.2 _ ?_) zo h1 h2;rw[e1];exact d9 hi
  have key:∀need,need<=aE x.op->Af Tryz.prog 17 [aq (e+1) (D+1) .any fun _=>x,.int .i64 fun _=>need] [] (.str fun _=>bh lit (aP lit k) x) []:=fun need hb=>by
   obtain⟨⟨⟨q1,q2,q3,q4,q5⟩,q6⟩,r1,r2,r3,r4⟩:=ha.1;have hz':(bh lit (aP lit k) x).size<=549755813888:=aG hz hw;have hm:=hk.2.2.1;by_cases o3:x.op=3
   ·exact TJ lit _ e D x need hT (q1 (.inl o3)) zo hb o3
   by_cases o16:x.op=16
   ·have l1:=q1 (.inr (.inl o16));have e1:x.args.getD 0 default=x.args[0]:=by simp[List.getD,show 0<x.args.length by omega]
    refine TL lit _ e D x need hT l1 (fun h=>?_) (fun h=>?_) zo hb o16
    ·obtain⟨c,rfl⟩:=X.lP (X.gg hk (show 0<x.args.length by omega));exact(ha.2 (x.args.getD 0 default) (by rw[e1];exact d9 _)).1.1.1.2.2.2.2 h
    ·unfold aP;rw[h];rfl
   by_cases ct:x.op=25
   ·exact TM lit _ e D x need hT h01 (q1 (.inr (.inr ct))) hm zo hb ct
   have l2:=q2 o3 o16 ct;by_cases hp:0<eE x.op
   ·refine TH lit _ e D x need hT (l2 ?_) zo hb hp;obtain⟨_,_,_,q,_⟩:=(qi x.op).resolve_right fun q=>by have:=q.1;omega
    omega
   have b:aE x.op=9:=by
    obtain⟨_,q⟩:=(qi x.op).resolve_left fun q=>by have:=q.1;omega
    rw[q,aa o3,aa ct,aa o16]
   by_cases o1:x.op=1
   ·obtain⟨er,h3⟩:=q6 o1;exact TN lit er _ e D x need (q5 o1) h3 hb o1
   by_cases o2:x.op=2
   ·exact TO lit _ e D x need hb o2
   refine TQ lit _ e D x need hT h01 hm (by have:=hk.1;omega) hb b o1 o2 r1 r2 r3 (r4 b o1 o2) ?_;have h5:=Ab (fun y=>aP lit k y 0) x.args
   have hs:=xa (l:=x.args) (f:=fun y=>(aP lit k y 0).size+2) (g:=fun y=>wX lit k y+6) (fun y hy=>by
    have:=D5 (lit:=lit) (k:=k) (y:=y) 0;have:=uk lit k y (hsz.2 y hy);omega)
   have hw':100+x.text.size+(lit (x.value.getD 0 default)).size+(x.args.map fun y=>wX lit k y+6).sum<=549755813888:=hw;omega
  unfold aP;by_cases hb:aE x.op<need
  ·rw[ae hb];exact TG e D x need _ (key 1 (zN _)) hb zo
  ·rw[aa hb];exact key need zo
def jr:Nat->X->Bool
 | 0,_=>false
 | k+1,x=>if dP x.op=true then(decide (0<(cr x.text).1.length)&&dQ ((cr x.text).1.getD 0 (0,0,⟨#[]⟩)).2.2)else x.args.any (jr k)
end Go.Ai
