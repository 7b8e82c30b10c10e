/- Chapter 17: the reader: words, tokens that are joined, integers. -/
import Derived.Test.YtbagpkiomjlhkaaGreatDoorRdC
import Derived.Test.YtbagpkiomjlhkaaGreatDoorFnD
set_option linter.all false
namespace Go.Ai
open Go Go.Proofs Tryz
set_option maxRecDepth 100000
set_option maxHeartbeats 4000000
def sS(l:List ByteArray):AV:=.slc .any 1 (fun _=>l.length) fun i=>[.str fun _=>l.getD (i ()) ⟨#[]⟩]
def lh(t:ByteArray):List ByteArray->Nat->Int
 | [],_ => -1
 | x::r,i=>if t=x then i else lh t r (i+1)
theorem LP(t:ByteArray):∀(l:List ByteArray) (i:Nat),lh t l i = -1∨(0<=lh t l i∧t∈l)
 | [],_=>.inl rfl
 | x::r,i=>by
  unfold lh;split
  ·rename_i q;exact .inr ⟨zo,by rw[q];exact dJ ..⟩
  ·rcases LP t r (i+1)with h|⟨h1,h2⟩
   ·exact .inl h
   ·exact .inr ⟨h1,cH _ h2⟩
theorem LQ{t:ByteArray}:∀{l:List ByteArray} {i:Nat},lh t l i = -1->t∉l
 | [],_,_=>fun h=>by cases h
 | x::r,i,h=>by
  unfold lh at h;split at h
  ·omega
  ·rename_i q;intro hm;rcases bW.1 hm with hm|hm
   ·exact q hm
   ·exact LQ h hm
def WY(l:List ByteArray)(t:ByteArray)(hl:l.length<=1000):Af prog 175 [sS l,.str fun _=>t] [] (.int .i64 fun _=>lh t l 0) []:=by
 obtain⟨Z,hZ⟩:∃Z,Z=lh t l 0:=⟨_,rfl⟩
 rw[<- hZ];unfold sS
 (refine fA [.tmp 4] LR [] func175 fun _=>?_;repeat' first|exact⟨⟩|apply mA|apply mC<;>intro)
 refine .loop (fun i:Nat=>⟨19,[(8,.int .i64 fun _=>(i:Int)),(7,.int .i64 fun _=>(l.length:Int)),(0,.slc .any 1 (fun _=>l.length) fun i=>[.str fun _=>l.getD (i ()) ⟨#[]⟩]),(1,.str fun _=>t)],[]⟩)
  (fun i=>i<=l.length∧lh t (l.drop i) i=Z) (fun i=>l.length-i) 0 ⟨aB _,hZ.symm⟩ ?_ fun i E hi=>?_
 ·exact aZ
 obtain⟨h1,h2⟩:=hi;apply af.wk tF mF [] LR ?_
 (refine oB ?_;repeat' first|exact⟨⟩|apply mA|apply mC<;>intro)
 ·rename_i q g;have hi:i<l.length:=by omega
  rw[iH hi]at h2;unfold lh at h2;have e1:l.getD i ⟨#[]⟩=l[i]:=by simp[List.getD,hi]
  rw[ae (g.trans e1)]at h2;exact h2
 ·rename_i q g;have hi:i<l.length:=by omega
  rw[iH hi]at h2;unfold lh at h2;have e1:l.getD i ⟨#[]⟩=l[i]:=by simp[List.getD,hi]
  rw[aa (fun k=>g (k.trans e1.symm))]at h2;refine dE (i+1) ⟨⟨zo,h2⟩,zo⟩ ?_
  (focus(refine aQ ?_;repeat' first|with_reducible apply ai|exact wZ|fail))
  exact aS zo
 ·rename_i q;rw[qB zo]at h2;exact h2
def LT(l:List ByteArray)(t:ByteArray)(hl:l.length<=1000):Af prog 113 [sS l,.str fun _=>t] [] (.bool fun _=>bI l t) []:=by
 have h1:=WY l t hl;obtain⟨c,hc⟩:∃c,c=bI l t:=⟨_,rfl⟩
 have hc2:c=decide (0<=lh t l 0):=by
  rw[hc];rcases LP t l 0 with h|⟨h2,h3⟩
  ·have:=LQ h;rw[h];have e1:bI l t=false:=by
    cases q:bI l t with
    | false=>rfl
    | true=>
     unfold bI at q;obtain⟨x,hx,hxt⟩:=o9.1 q;rw[il hxt]at hx;exact absurd hx this
   rw[e1];rfl
  ·have e1:bI l t=true:=o9.2 ⟨t,h3,zsi⟩;rw[e1];simp[h2]
 rw[<- hc,hc2];clear hc hc2;generalize lh t l 0=z at*;unfold sS at*
 (refine fA [.tmp 4] WZ [(1,[(2,zI z,[])])] func113 fun _=>?_;repeat' first|exact⟨⟩|apply mA|apply mC<;>intro)
 all_goals try exact zB
 all_goals exact eZ
def D3(l:List ByteArray):∀i,i<l.length->aD (dY (l.map fun t=>[AV.str fun _=>t]) fun _=>i) [.str fun _=>l.getD i ⟨#[]⟩]:=by
 intro i hi;refine aD.of_eq ?_;show(l.map fun t=>[AV.str fun _=>t]).getD i []=_;simp[List.getD,hi]
def W8:Af prog 18 [] [] (sS mu) []:=by
 (refine fB [.tmp 0] W9 [] func18 fun _=>?_;repeat' first|exact⟨⟩|apply mA|apply mC<;>intro)
 exact D3 mu
def DE(t:ByteArray):Af prog 54 [.str fun _=>t] [] (.bool fun _=>dQ t) []:=by
 have h1:=W8;have h2:=LT mu t zd;unfold dQ;generalize mu=l at*;generalize bI l t=b at*;unfold sS at*
 (refine fA [.tmp 2] Xa [(1,[(0,.slc .any 1 (fun _=>l.length) fun i=>[.str fun _=>l.getD (i ()) ⟨#[]⟩],[]),(2,zO b,[])])] func54 fun _=>?_;repeat' first|exact⟨⟩|apply mA|apply mC<;>intro)
 all_goals try exact zB
 all_goals exact eZ
def Xb(l:List ByteArray)(t:ByteArray)(hl:l.length<=1000):Af prog 113 [.aJ 1000 0 fun _=>l.length,.str fun _=>t] [(1000,.arr false 9 1 0 (fun _=>l.length) (dY (l.map fun t=>[AV.str fun _=>t])))] (.bool fun _=>bI l t)
 [(1000,.arr false 9 1 0 (fun _=>l.length) (dY (l.map fun t=>[AV.str fun _=>t])))]:=by
 refine(LT l t hl).borrow ?_ (by simp[sS,AV.bx]) (fun av h=>?_) (by simp[AV.bx]) (.bool _)
 ·have hr:=D3 l;unfold sS;generalize bI l t=b at*;generalize dY (l.map fun t=>[AV.str fun _=>t])=A at*
  (focus(refine aQ ?_;repeat' first|with_reducible apply ai|exact wZ|fail))
  all_goals exact hr
 ·simp only[bW,sK,ii]at h;rcases h with rfl|rfl
  ·intro w D B B' v h;unfold sS at h ⊢;cases h with
   | empty _ _ _ _ p cap h0 hc=>exact .empty _ _ _ _ p cap h0 hc
   | slc _ _ _ _ b o cap c h1 hc hD hB hcell hlen hone hel=>
    refine .slc _ _ _ _ b o cap c h1 hc hD trivial hcell hlen hone (fun i j av hi hj=>?_);have:=hel i j av hi hj;rcases j with _|j
    ·simp only[pd,cB]at hj;subst hj;generalize c (i*1+0)=u at*;cases this;exact .str _
    ·simp at hj
  ·intro w D B B' v h;cases h;exact .str _
def LU(s:St)(hl:s.l.length<=1073741824):Af prog 70 [.ptr 1000 0] [(1000,am fun _=>s)] (.bool fun _=>s.val) [(1000,am fun _=>s)]:=by
 have h1:=ju s;have h2:=EV s hl;have h3:=Xb kW s.peek.text zd;obtain⟨v,hv⟩:∃v,v=s.val:=⟨_,rfl⟩
 rw[<- hv];unfold St.val at hv;generalize s.peek=p at*;generalize s.neg=n at*;obtain⟨c,hc⟩:∃c,c=bI kW p.text:=⟨_,rfl⟩
 rw[<- hc]at hv h3;clear hc
 (apply Af.of tF mF [.tmp 2] Xc [(1,[(1,ow fun _=>p,[(1000,am fun _=>s)])]),(8,[(3,.bool fun _=>c,[(1000,.arr false 9 1 0 (fun _=>kW.length) (dY (kW.map fun t=>[AV.str fun _=>t])))])]),(9,[(1,.bool fun _=>n,[(1000,am fun _=>s)])])] func70 (fun _=>?_);(any_goals((with_reducible refine wI ?_);cbv;(try dsimp only[nc]at*);(repeat'(with_reducible first|exact‹False›.elim|exact nZ|refine oC ?_ ?_|refine VC.mk rfl ?_ ?_ ?_|(apply Ca.mk<;>intro _)|refine cV (fun _=>?_) fun _=>?_|((first|apply xE|apply uE);cbv;(try dsimp only[nc]at*)))))))
 any_goals((with_reducible refine nO ?_);first|exact h1|exact h2|exact h3)
 all_goals try exact absurd ‹p.kind=2› ‹¬p.kind=2›
 all_goals try exact absurd ‹p.kind=3› ‹¬p.kind=3›
 (all_goals try first|exact eZ|with_reducible (refine rQ ?_;repeat' first|apply ai|exact wZ)|(refine sQ ?_;repeat' first|with_reducible apply ai|exact cZ))
 all_goals(clear h1 h2 h3;rw[hv];simp[*])
def dI(s:St):Int×St:=
 if s.ok=false∨s.peek.kind≠2 then(0,s.fail 13)else if s.peek.scale≠0∨s.peek.num<0∨12<s.peek.num then(0,s.fail 2)else(s.peek.num,s.next)
def LV(s:St)(hl:s.l.length<=1073741824):Af prog 285 [.ptr 1000 0,.int .i64 fun _=>0,.int .i64 fun _=>12] [(1000,am fun _=>s)] (.int .i64 fun _=>(dI s).1) [(1000,am fun _=>(dI s).2)]:=by
 have h1:=ju s;have h2:=ue s;have h3:=j6 s 13;have h4:=j6 s 2;have h5:=kV s hl;unfold dI;generalize s.fail 13=f13 at*;generalize s.fail 2=f2 at*;generalize s.next=t at*;generalize s.peek=p at*;generalize s.ok=b at*;by_cases q1:b=false∨p.kind≠2
 ·rw[ae q1];dsimp only
  (refine fA [.tmp 6] E5 [(1,[(4,zO false,zS s)]),(2,[(1,zK p,zS s)]),(3,[(1,zO b,zS s)]),(4,[(1,zT,zS f13)]),(10,[(1,zT,zS f2)]),(12,[(1,zK p,zS t)])] func285 fun _=>?_;repeat' first|exact⟨⟩|apply mA|apply mC<;>intro)
  all_goals(try simp only[aF])
  any_goals((with_reducible refine sO (fun hg=>?_));exact absurd hg zd)
  all_goals try exact zB
  all_goals try exact absurd ‹(0:Int)<0∧False› (fun h=>h.2)
  all_goals try exact absurd ‹b=true∧p.kind=2› (fun h=>q1.elim (fun k=>by rw[h.1]at k;cases k) (fun k=>k h.2))
  all_goals exact eZ
 ·rw[aa q1];have q1':b=true∧p.kind=2:=by
   cases b with
   | false=>exact absurd (.inl rfl) q1
   | true=>exact⟨rfl,fp fun h=>q1 (.inr h)⟩
  by_cases q2:p.scale≠0∨p.num<0∨12<p.num
  ·rw[ae q2];dsimp only
   (refine fA [.tmp 6] E5 [(1,[(4,zO false,zS s)]),(2,[(1,zK p,zS s)]),(3,[(1,zO b,zS s)]),(4,[(1,zT,zS f13)]),(10,[(1,zT,zS f2)]),(12,[(1,zK p,zS t)])] func285 fun _=>?_;repeat' first|exact⟨⟩|apply mA|apply mC<;>intro)
   all_goals(try simp only[aF])
   any_goals((with_reducible refine sO (fun hg=>?_));exact absurd hg zd)
   all_goals try exact zB
   all_goals try exact absurd ‹(0:Int)<0∧False› (fun h=>h.2)
   all_goals try exact absurd ‹b=false∨¬p.kind=2› q1
   all_goals try exact absurd ‹(p.scale=0∧0<=p.num)∧p.num<=12› (fun h=>zo)
   all_goals exact eZ
  ·rw[aa q2];dsimp only
   (refine fA [.tmp 6] E5 [(1,[(4,zO false,zS s)]),(2,[(1,zK p,zS s)]),(3,[(1,zO b,zS s)]),(4,[(1,zT,zS f13)]),(10,[(1,zT,zS f2)]),(12,[(1,zK p,zS t)])] func285 fun _=>?_;repeat' first|exact⟨⟩|apply mA|apply mC<;>intro)
   all_goals(try simp only[aF])
   any_goals((with_reducible refine sO (fun hg=>?_));exact absurd hg zd)
   all_goals try exact zB
   all_goals try exact absurd ‹(0:Int)<0∧False› (fun h=>h.2)
   all_goals try exact absurd ‹b=false∨¬p.kind=2› q1
   all_goals try exact absurd ‹(¬p.scale=0∨p.num<0)∨12<p.num› (fun h=>q2 zo)
   all_goals exact eZ
def lf(t:Tok):Bool:=t.kind==1
def fo(t:Tok):Bool:=t.kind==2||(t.kind==5&&decide (t.text=⟨#[42]⟩))
def iD(t:Tok):Bool:=t.kind==5&&decide (t.text=⟨#[93]⟩)
def Xd(t:Tok):Af prog 56 [ow fun _=>t] [] (.bool fun _=>lf t) []:=by
 obtain⟨b,hb⟩:∃b,b=lf t:=⟨_,rfl⟩
 rw[<- hb]
 (refine fB [.tmp 2] Xe [] func56 fun _=>?_;repeat' first|exact⟨⟩|apply mA|apply mC<;>intro)
 rw[hb];rfl
def Xf(t:Tok):Af prog 59 [ow fun _=>t] [] (.bool fun _=>fo t) []:=by
 obtain⟨b,hb⟩:∃b,b=fo t:=⟨_,rfl⟩
 rw[<- hb]
 (refine fB [.tmp 2] Xg [] func59 fun _=>?_;repeat' first|exact⟨⟩|apply mA|apply mC<;>intro)
 rw[hb];unfold fo;by_cases h:t.kind=2<;>by_cases h5:t.kind=5<;>simp[h,h5]
def Xh(t:Tok):Af prog 60 [ow fun _=>t] [] (.bool fun _=>iD t) []:=by
 obtain⟨b,hb⟩:∃b,b=iD t:=⟨_,rfl⟩
 rw[<- hb]
 (refine fB [.tmp 2] Xi [] func60 fun _=>?_;repeat' first|exact⟨⟩|apply mA|apply mC<;>intro)
 rw[hb];unfold iD;by_cases h5:t.kind=5<;>simp[h5]
def jF(p:Tok->Bool)(s:St):ByteArray×St:=if s.peek.joined=false∨p s.peek=false then(⟨#[]⟩,s.fail 13)else(s.peek.text,s.next)
def E6{f:FuncId}{p:Tok->Bool}(hf:∀t,Af prog f [ow fun _=>t] [] (.bool fun _=>p t) [])(s:St)(hl:s.l.length<=1073741824):
 Af prog 58 [.ptr 1000 0,.func f []] [(1000,am fun _=>s)] (.str fun _=>(jF p s).1) [(1000,am fun _=>(jF p s).2)]:=by
 have h1:=ju s;have h2:=hf s.peek;have h3:=j6 s 13;have h4:=kV s hl;unfold jF;generalize p s.peek=b at*;generalize s.fail 13=u at*;generalize s.next=t at*;generalize s.peek=k at*;by_cases q:k.joined=false∨b=false
 ·rw[ae q];dsimp only
  (refine fA [.tmp 4] LW [(1,[(1,zK k,zS s)]),(2,[(6,zO b,[])]),(3,[(1,zT,zS u)])] func58 fun _=>?_;repeat' first|exact⟨⟩|apply mA|apply mC<;>intro)
  all_goals(try simp only[aF])
  all_goals try exact zB
  all_goals try exact absurd ‹k.joined=true∧b=true› (fun h=>q.elim (fun g=>by rw[h.1]at g;cases g) (fun g=>by rw[h.2]at g;cases g))
  all_goals exact eZ
 ·rw[aa q];dsimp only
  (refine fA [.tmp 4] LW [(1,[(1,zK k,zS s)]),(2,[(6,zO b,[])]),(5,[(1,zK k,zS t)])] func58 fun _=>?_;repeat' first|exact⟨⟩|apply mA|apply mC<;>intro)
  all_goals(try simp only[aF])
  all_goals try exact zB
  all_goals try exact absurd ‹k.joined=false∨b=false› q
  all_goals try exact eZ
  all_goals trace_state
end Go.Ai
