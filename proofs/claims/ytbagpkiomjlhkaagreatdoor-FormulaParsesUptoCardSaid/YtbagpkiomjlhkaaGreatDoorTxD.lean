/- Chapter 17: the printer: the text of an expression, whole. -/
import Derived.Test.YtbagpkiomjlhkaaGreatDoorTxB
set_option linter.all false
namespace Go.Ai
open Go Go.Proofs
set_option maxRecDepth 100000
set_option maxHeartbeats 4000000
def text_par(e D:Nat)(x:X)(need:Int)(t:ByteArray)(h:Af Tryz.prog 40 [encX (e+1) (D+1) .any fun _=>x,.int .i64 fun _=>0] [] (.str fun _=>t) [])(hb:aa1 x.op<need)(ht:t.size<=1152921504606846976):
 Af Tryz.prog 40 [encX (e+1) (D+1) .any fun _=>x,.int .i64 fun _=>need] [] (.str fun _=>parB t) []:=by
 have h1:=aan x e (D+1);unfold parB;generalize aa1 x.op=b at*
 (refine fA [.tmp 4] kp40 [(1,[(1,zI b,[])]),(3,[(1,zR t,[])]),(5,[(5,.any,[])]),(7,[(4,.any,[])]),(13,[(4,.any,[]),(9,.any,[])]),(15,[(4,.any,[]),(9,.any,[]),(16,.any,[])]),(17,[(5,.any,[]),(10,.any,[]),(19,.any,[])]),(19,[(4,.any,[])]),(25,[(2,.any,[])]),(27,[(3,.any,[])]),(28,[(0,.any,[])])] Tryz.func40 fun _=>?_;repeat' with_reducible first|exact⟨⟩|refine mA ?_ ?_|refine mC (fun _=>?_) fun _=>?_)
 all_goals(try(exact absurd hb (Int.not_lt.2 ‹_›)))
 all_goals(try exact zB)
 (all_goals try first|exact eZ|(refine qC ?_;repeat' with_reducible first|exact⟨⟩|refine mA ?_ ?_))
 all_goals(first|(simp only[ByteArray.size_append,bszL,List.length_cons,List.length_nil];omega)|rfl)
def abV(t u:ByteArray)(ts:List ByteArray)(s:ByteArray):aax (t::u::ts) s=t++s++aax (u::ts) s:=by
 unfold aax;apply ByteArray.ext;simp[Lib.join,ByteArray.data_append]
def acu(t s:ByteArray):aax [t] s=t:=by
 unfold aax;apply ByteArray.ext;simp[Lib.join]
theorem acv(s:ByteArray):∀(ts:List ByteArray) (t:ByteArray),t∈ts->t.size<=(aax ts s).size
 | [u],t,h=>by rw[List.mem_singleton.1 h,acu];exact Nat.le_refl _
 | u::v::ts,t,h=>by
  rw[abV,ByteArray.size_append,ByteArray.size_append];rcases List.mem_cons.1 h with rfl|h
  ·omega
  ·have:=acv s (v::ts) t h;omega
theorem afQ(s:ByteArray):∀(ts:List ByteArray),(aax ts s).size<=(ts.map fun t=>t.size+s.size).sum
 | []=>by show(⟨#[]⟩:ByteArray).size<=_;exact Nat.zero_le _
 | [u]=>by rw[acu];simp
 | u::v::ts=>by
  have:=afQ s (v::ts);rw[abV,ByteArray.size_append,ByteArray.size_append,List.map_cons,List.sum_cons];omega
def akd{op:Int}(o3:¬op=3)(o16:¬op=16)(o25:¬op=25):aa1 op=1∨aa1 op=2∨aa1 op=4∨aa1 op=5∨aa1 op=6∨aa1 op=7∨aa1 op=9:=by
 unfold aa1;rw[if_neg o3,if_neg o25,if_neg o16];simp only[afg];by_cases h0:(opsL 0).any (fun p=>p.2==op)=true
 ·simp[opsL]at h0
 by_cases h3:(opsL 3).any (fun p=>p.2==op)=true
 ·simp[opsL]at h3
 by_cases h8:(opsL 8).any (fun p=>p.2==op)=true
 ·simp[opsL]at h8
 by_cases h9:(opsL 9).any (fun p=>p.2==op)=true
 ·simp[opsL]at h9
 rw[if_neg h0]
 repeat' split
 all_goals first|omega|(exact absurd ‹_› h3)|(exact absurd ‹_› h8)|(exact absurd ‹_› h9)
def wX(lit:V->ByteArray):Nat->X->Nat
 | 0,_=>0
 | k+1,x=>100+x.text.size+(lit (x.value.getD 0 default)).size+(x.args.map fun y=>wX lit k y+6).sum
theorem ajt{f:X->Nat}:∀{l:List X} {i:Nat},i<l.length->f (l.getD i default)<=(l.map f).sum
 | y::l,0,_=>by simp
 | y::l,i+1,h=>by
  have:=ajt (f:=f) (l:=l) (i:=i) (by simpa using h);simp only[List.map_cons,List.sum_cons];show f (l.getD i default)<=_;omega
theorem sum_at2{f:X->Nat}:∀{l:List X},2<=l.length->f (l.getD 0 default)+f (l.getD 1 default)<=(l.map f).sum
 | y::z::l,_=>by simp only[List.map_cons,List.sum_cons];show f y+f z<=_;omega
theorem ah6{f g:X->Nat}:∀{l:List X},(∀y∈l,f y<=g y)->(l.map f).sum<=(l.map g).sum
 | [],_=>Nat.le_refl _
 | y::l,h=>by
  have h1:=h y List.mem_cons_self;have h2:=ah6 (l:=l) fun z hz=>h z (List.mem_cons_of_mem _ hz);simp only[List.map_cons,List.sum_cons];omega
def sum_drop{f:X->Nat}(l:List X):((l.drop 1).map f).sum<=(l.map f).sum:=by
 cases l with
 | nil=>exact Nat.le_refl _
 | cons y l=>simp
def aht(t:ByteArray):(parB t).size=t.size+2:=by
 unfold parB;simp only[ByteArray.size_append,bszL,List.length_cons,List.length_nil];omega
def aeB{lit:V->ByteArray}{k:Nat}{y:X}(n:Int):(txtN lit k y n).size<=(txtB lit k y).size+2:=by
 unfold txtN;split
 ·rw[aht];exact Nat.le_refl _
 ·omega
def alK(op:Int)(b:Nat)(hb:b<10):(symV op b).size<=4:=by
 unfold symV;have key:∀b,b<10->∀p∈opsL b,p.1.size<=4:=by decide
 cases h:(opsL b).find? fun p=>p.2==op with
 | none=>exact Nat.zero_le _
 | some p=>exact key b hb p (List.mem_of_find?_eq_some h)
def anr(op:Int):((aa2.find? fun p=>p.2.1==op).elim 0 fun p=>p.1.size)<=10:=by
 have key:∀p∈aa2,p.1.size<=10:=by decide
 cases h:aa2.find? fun p=>p.2.1==op with
 | none=>exact Nat.zero_le _
 | some p=>exact key p (List.mem_of_find?_eq_some h)
def acG(T:X->ByteArray)(l:List X):(aax (l.map T) aam).size<=(l.map fun y=>(T y).size+2).sum:=by
 have:=afQ aam (l.map T);rw[List.map_map]at this;exact this
def shpX(x:X):Prop:=(x.op=3∨x.op=16∨x.op=25->1<=x.args.length)∧(¬x.op=3->¬x.op=16->¬x.op=25->aa1 x.op<9->2<=x.args.length)∧0<=x.int∧x.int<=1000∧(x.op=1->1<=x.value.length)
theorem acr(lit:V->ByteArray):∀(k:Nat) (x:X),X.all shpX k x->(txtB lit k x).size<=wX lit k x
 | 0,_,_=>Nat.le_refl _
 | k+1,x,h=>by
  have hT:∀y∈x.args,∀n,(txtN lit k y n).size+4<=wX lit k y+6:=fun y hy n=>by
   have:=aeB (lit:=lit) (k:=k) (y:=y) n;have:=acr lit k y (h.2 y hy);omega
  obtain⟨q1,q2,q3,q4,q5⟩:=h.1;have hi:=abu x.int (by omega) (by omega);have hj:=acG (fun y=>txtN lit k y 0) x.args;have hj1:=acG (fun y=>txtN lit k y 0) (x.args.drop 1);have hs:=ah6 (l:=x.args) (f:=fun y=>(txtN lit k y 0).size+2) (g:=fun y=>wX lit k y+6) (fun y hy=>by have:=hT y hy 0;omega);have hs1:=sum_drop (f:=fun y=>(txtN lit k y 0).size+2) x.args;have hs2:2<=x.args.length->wX lit k (x.args.getD 0 default)+6+(wX lit k (x.args.getD 1 default)+6)<=_:=fun q=>sum_at2 (f:=fun y=>wX lit k y+6) q;have hs3:1<=x.args.length->wX lit k (x.args.getD 0 default)+6<=_:=fun q=>ajt (f:=fun y=>wX lit k y+6) (i:=0) (l:=x.args) q;have hn:=anr x.op;have hy:∀b,b<10->(symV x.op b).size<=4:=fun b hb=>alK x.op b hb;have h0:1<=x.args.length->∀n,(txtN lit k (x.args.getD 0 default) n).size+4<=wX lit k (x.args.getD 0 default)+6:=fun q n=>hT _ (by simp only[List.getD,List.getElem?_eq_getElem (show 0<x.args.length by omega)];exact List.getElem_mem _) n;have h1:2<=x.args.length->∀n,(txtN lit k (x.args.getD 1 default) n).size+4<=wX lit k (x.args.getD 1 default)+6:=fun q n=>hT _ (by simp only[List.getD,List.getElem?_eq_getElem (show 1<x.args.length by omega)];exact List.getElem_mem _) n;show(aad lit (txtN lit k) x).size<=100+x.text.size+(lit (x.value.getD 0 default)).size+(x.args.map fun y=>wX lit k y+6).sum;unfold aad;by_cases o3:x.op=3
  ·rw[if_pos o3];have a:=h0 (q1 (.inl o3)) (aa1 x.op);have b:=hs3 (q1 (.inl o3));simp only[ByteArray.size_append,notB,bszL,List.length_cons,List.length_nil];omega
  rw[if_neg o3];by_cases o16:x.op=16
  ·rw[if_pos o16];have a:=h0 (q1 (.inr (.inl o16))) 9;have b:=hs3 (q1 (.inr (.inl o16)));split
   ·simp only[ByteArray.size_append,aht,bszL,List.length_cons,List.length_nil];omega
   ·simp only[ByteArray.size_append,bszL,List.length_cons,List.length_nil];omega
  rw[if_neg o16];by_cases o25:x.op=25
  ·rw[if_pos o25];have a:=h0 (q1 (.inr (.inr o25))) 5;have b:=hs3 (q1 (.inr (.inr o25)));have e:(x.args.map fun y=>wX lit k y+6).sum=wX lit k (x.args.getD 0 default)+6+((x.args.drop 1).map fun y=>wX lit k y+6).sum:=by
    have:=q1 (.inr (.inr o25));cases hx:x.args with
    | nil=>rw[hx]at this;simp at this
    | cons y l=>simp
   have f:=ah6 (l:=x.args.drop 1) (f:=fun y=>(txtN lit k y 0).size+2) (g:=fun y=>wX lit k y+6) (fun y hy=>by have:=hT y (List.mem_of_mem_drop hy) 0;omega);simp only[ByteArray.size_append,inB,bszL,List.length_cons,List.length_nil];omega
  rw[if_neg o25];by_cases hb:aa1 x.op<9
  ·have l2:=q2 o3 o16 o25 hb;have a:=h0 (by omega);have b:=h1 l2;have c:=hs2 l2;by_cases b4:aa1 x.op=4
   ·rw[if_pos b4];have a:=a 5;have b:=b 5;have d:=hy 4 (by decide);simp only[ByteArray.size_append,bszL,List.length_cons,List.length_nil];omega
   ·rw[if_neg b4,if_pos hb];have a:=a (aa1 x.op);have b:=b (aa1 x.op+1);have d:=hy (aa1 x.op).toNat (by omega)
    simp only[ByteArray.size_append,bszL,List.length_cons,List.length_nil];omega
  ·rw[if_neg (by omega),if_neg hb];split
   ·omega
   split
   ·omega
   unfold callB ajX;cases hc:aa2.find? fun p=>p.2.1==x.op with
   | none=>simp only[Option.elim];exact Nat.le_trans (Nat.zero_le _) (Nat.zero_le _)
   | some p=>
    rw[hc]at hn;simp only[Option.elim]at hn ⊢
    repeat' split
    all_goals(simp only[ByteArray.size_append,bszL,List.length_cons,List.length_nil];omega)
def litX(lit:V->ByteArray)(e:Nat)(x:X):Prop:=x.op=1->∃er,Af Tryz.prog 48 [encV (e+1) .any fun _=>x.value.getD 0 default] [] (.tup [.str fun _=>lit (x.value.getD 0 default),.int .i64 fun _=>er]) []
theorem X.acA{P Q:X->Prop}(h:∀x,P x->Q x):∀{k:Nat} {x:X},X.all P k x->X.all Q k x
 | 0,_,_=>trivial
 | _+1,_,hx=>⟨h _ hx.1,fun y hy=>X.acA h (hx.2 y hy)⟩
theorem air(lit:V->ByteArray)(e:Nat):∀(k D:Nat) (x:X) (need:Int),X.le (e+1) (D+1) x->X.le (e+1) k x->X.all (fun x=>shpX x∧litX lit e x) k x->wX lit k x<=549755813888->0<=need->need<=9 ->
 Af Tryz.prog 40 [encX (e+1) (D+1) .any fun _=>x,.int .i64 fun _=>need] [] (.str fun _=>txtN lit k x need) []
 | 0,_,_,_,_,h,_,_,_,_=>h.elim
 | k+1,D,x,need,hx,hk,ha,hw,hn0,hn9=>by
  have hz:=acr lit (k+1) x (X.acA (fun _ h=>h.1) ha);have hT:∀i,i<x.args.length->ArgT (txtN lit k) e D (x.args.getD i default):=fun i hi n h1 h2 _=>by
   have hy:=X.abm hx hi;obtain⟨c,rfl⟩:=X.lP hy;have e1:x.args.getD i default=x.args[i]:=by simp[List.getD,hi]
   have hs:=ajt (f:=fun y=>wX lit k y+6) hi;have hw':100+x.text.size+(lit (x.value.getD 0 default)).size+(x.args.map fun y=>wX lit k y+6).sum<=549755813888:=hw;refine air lit e k c _ n hy (X.abm hk hi) (ha.2 _ ?_) (by omega) h1 h2;rw[e1];exact List.getElem_mem hi
  have key:∀need,need<=aa1 x.op->Af Tryz.prog 40 [encX (e+1) (D+1) .any fun _=>x,.int .i64 fun _=>need] [] (.str fun _=>aad lit (txtN lit k) x) []:=fun need hb=>by
   obtain⟨⟨q1,q2,q3,q4,q5⟩,q6⟩:=ha.1;have hz':(aad lit (txtN lit k) x).size<=549755813888:=Nat.le_trans hz hw;have hm:=hk.2.2.1;by_cases o3:x.op=3
   ·exact text_not lit _ e D x need hT (q1 (.inl o3)) (by omega) hb o3
   by_cases o16:x.op=16
   ·have l1:=q1 (.inr (.inl o16));have e1:x.args.getD 0 default=x.args[0]:=by simp[List.getD,show 0<x.args.length by omega]
    refine text_neg lit _ e D x need hT l1 (fun h=>?_) (by omega) hb o16;obtain⟨c,rfl⟩:=X.lP (X.abm hk (show 0<x.args.length by omega));exact(ha.2 (x.args.getD 0 default) (by rw[e1];exact List.getElem_mem _)).1.1.2.2.2.2 h
   by_cases o25:x.op=25
   ·exact text_in lit _ e D x need hT (q1 (.inr (.inr o25))) hm (by omega) hb o25 fun ts t h=>acv _ ts t h
   have l2:=q2 o3 o16 o25;rcases akd o3 o16 o25 with b|b|b|b|b|b|b
   ·exact aqy lit _ e D x need hT (l2 (by omega)) (by omega) hb 1 (by decide) (by decide) (by decide) b o3 o16 o25
   ·exact aqy lit _ e D x need hT (l2 (by omega)) (by omega) hb 2 (by decide) (by decide) (by decide) b o3 o16 o25
   ·exact alF lit _ e D x need hT (l2 (by omega)) (by omega) hb b o3 o16 o25
   ·exact aqy lit _ e D x need hT (l2 (by omega)) (by omega) hb 5 (by decide) (by decide) (by decide) b o3 o16 o25
   ·exact aqy lit _ e D x need hT (l2 (by omega)) (by omega) hb 6 (by decide) (by decide) (by decide) b o3 o16 o25
   ·exact aqy lit _ e D x need hT (l2 (by omega)) (by omega) hb 7 (by decide) (by decide) (by decide) b o3 o16 o25
   by_cases o1:x.op=1
   ·obtain⟨er,h3⟩:=q6 o1;exact text_val lit er _ e D x need (q5 o1) h3 hb o1
   by_cases o2:x.op=2
   ·exact alA lit _ e D x need hb o2
   refine alB lit _ e D x need hT hm (by have:=hk.1;omega) hb b o1 o2 o3 o16 o25 ⟨q3,q4⟩ ?_ fun ts t h=>acv _ ts t h;have h5:=acG (fun y=>txtN lit k y 0) x.args
   have hs:=ah6 (l:=x.args) (f:=fun y=>(txtN lit k y 0).size+2) (g:=fun y=>wX lit k y+6) (fun y hy=>by
    have:=aeB (lit:=lit) (k:=k) (y:=y) 0;have:=acr lit k y (X.acA (fun _ h=>h.1) (ha.2 y hy));omega)
   have hw':100+x.text.size+(lit (x.value.getD 0 default)).size+(x.args.map fun y=>wX lit k y+6).sum<=549755813888:=hw;omega
  unfold txtN;by_cases hb:aa1 x.op<need
  ·rw[if_pos hb];refine text_par e D x need _ (key 0 ?_) hb (by omega);by_cases o3:x.op=3
   ·rw[o3];decide
   by_cases o16:x.op=16
   ·rw[o16];decide
   by_cases o25:x.op=25
   ·rw[o25];decide
   have:=akd o3 o16 o25;omega
  ·rw[if_neg hb];exact key need (by omega)
def agp(e D:Nat)(x:X)(ck:Int)(hd:Bool)(t:ByteArray)(h1:Af Tryz.prog 15 [encX (e+1) (D+1) .any fun _=>x] [] (.int .i64 fun _=>ck) [])
 (h2:ck=0->Af Tryz.prog 39 [encX (e+1) (D+1) .any fun _=>x] [] (.bool fun _=>hd) [])
 (h3:ck=0->hd=false->Af Tryz.prog 40 [encX (e+1) (D+1) .any fun _=>x,.int .i64 fun _=>0] [] (.str fun _=>t) []):
 Af Tryz.prog 14 [encX (e+1) (D+1) .any fun _=>x] [] (.tup [.str fun _=>if ck=0∧hd=false then t else⟨#[]⟩,.int .i64 fun _=>if ck=0 then(if hd=true then 12 else 0)else ck]) []:=by
 (refine fA [.tmp 2,.tmp 3] kp14 [(1,[(1,zI ck,[])]),(4,[(1,zO hd,[])]),(6,[(1,zR t,[])])] Tryz.func14 fun _=>?_;repeat' with_reducible first|exact⟨⟩|refine mA ?_ ?_|refine mC (fun _=>?_) fun _=>?_)
 any_goals((with_reducible refine nO ?_);first|exact h1|exact h2 (by assumption)|exact h3 (by assumption) (by assumption))
 (all_goals try first|exact eZ|(refine qC ?_;repeat' with_reducible first|exact⟨⟩|refine mA ?_ ?_))
 all_goals simp_all
end Go.Ai
