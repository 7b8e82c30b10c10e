/- Chapter 17: the reader: words, tokens that are joined, integers. -/
import Derived.Test.YtbagpkiomjlhkaaGreatDoorRdC
import Derived.Test.YtbagpkiomjlhkaaGreatDoorFnD
set_option linter.all false
namespace Go.Ai
open Go Go.Proofs
set_option maxRecDepth 100000
set_option maxHeartbeats 4000000
def sS(l:List ByteArray):AV:=.slc .any 1 (fun _=>l.length) fun i=>[.str fun _=>l.getD (i ()) ⟨#[]⟩]
def idxS(t:ByteArray):List ByteArray->Nat->Int
 | [],_ => -1
 | x::r,i=>if t=x then i else idxS t r (i+1)
theorem an2(t:ByteArray):∀(l:List ByteArray) (i:Nat),idxS t l i = -1∨(0<=idxS t l i∧t∈l)
 | [],_=>.inl rfl
 | x::r,i=>by
  unfold idxS;split
  ·rename_i q;exact .inr ⟨by omega,by rw[q];exact List.mem_cons_self ..⟩
  ·rcases an2 t r (i+1)with h|⟨h1,h2⟩
   ·exact .inl h
   ·exact .inr ⟨h1,List.mem_cons_of_mem _ h2⟩
theorem an1{t:ByteArray}:∀{l:List ByteArray} {i:Nat},idxS t l i = -1->t∉l
 | [],_,_=>fun h=>by cases h
 | x::r,i,h=>by
  unfold idxS at h;split at h
  ·omega
  ·rename_i q;intro hm;rcases List.mem_cons.1 hm with hm|hm
   ·exact q hm
   ·exact an1 h hm
def Index_ok(l:List ByteArray)(t:ByteArray)(hl:l.length<=1000):Af Tryz.prog 175 [sS l,.str fun _=>t] [] (.int .i64 fun _=>idxS t l 0) []:=by
 obtain⟨Z,hZ⟩:∃Z,Z=idxS t l 0:=⟨_,rfl⟩
 rw[<- hZ];unfold sS
 (refine fA [.tmp 4] kp175 [] Tryz.func175 fun _=>?_;repeat' with_reducible first|exact⟨⟩|refine mA ?_ ?_|refine mC (fun _=>?_) fun _=>?_)
 refine .loop (fun i:Nat=>⟨19,[(8,.int .i64 fun _=>(i:Int)),(7,.int .i64 fun _=>(l.length:Int)),(0,.slc .any 1 (fun _=>l.length) fun i=>[.str fun _=>l.getD (i ()) ⟨#[]⟩]),(1,.str fun _=>t)],[]⟩)
  (fun i=>i<=l.length∧idxS t (l.drop i) i=Z) (fun i=>l.length-i) 0 ⟨Nat.zero_le _,hZ.symm⟩ ?_ fun i E hi=>?_
 ·exact aZ
 obtain⟨h1,h2⟩:=hi;apply AWp.wk tF mF [] kp175 ?_
 (refine oB ?_;repeat' with_reducible first|exact⟨⟩|refine mA ?_ ?_|refine mC (fun _=>?_) fun _=>?_)
 ·rename_i q g;have hi:i<l.length:=by omega
  rw[List.drop_eq_getElem_cons hi]at h2;unfold idxS at h2;have e1:l.getD i ⟨#[]⟩=l[i]:=by simp[List.getD,hi]
  rw[if_pos (g.trans e1)]at h2;exact h2
 ·rename_i q g;have hi:i<l.length:=by omega
  rw[List.drop_eq_getElem_cons hi]at h2;unfold idxS at h2;have e1:l.getD i ⟨#[]⟩=l[i]:=by simp[List.getD,hi]
  rw[if_neg (fun k=>g (k.trans e1.symm))]at h2;refine dE (i+1) ⟨⟨by omega,h2⟩,by omega⟩ ?_
  (focus(refine aQ ?_;repeat' first|with_reducible apply And.intro|exact wZ|fail))
  exact w64n (by omega)
 ·rename_i q;rw[List.drop_eq_nil_of_le (by omega)]at h2;exact h2
def afo(l:List ByteArray)(t:ByteArray)(hl:l.length<=1000):Af Tryz.prog 113 [sS l,.str fun _=>t] [] (.bool fun _=>kHas l t) []:=by
 have h1:=Index_ok l t hl;obtain⟨c,hc⟩:∃c,c=kHas l t:=⟨_,rfl⟩
 have hc2:c=decide (0<=idxS t l 0):=by
  rw[hc];rcases an2 t l 0 with h|⟨h2,h3⟩
  ·have:=an1 h;rw[h];have e1:kHas l t=false:=by
    cases q:kHas l t with
    | false=>rfl
    | true=>
     unfold kHas at q;obtain⟨x,hx,hxt⟩:=List.any_eq_true.1 q;rw[of_decide_eq_true hxt]at hx;exact absurd hx this
   rw[e1];rfl
  ·have e1:kHas l t=true:=List.any_eq_true.2 ⟨t,h3,by simp⟩;rw[e1];simp[h2]
 rw[<- hc,hc2];clear hc hc2;generalize idxS t l 0=z at*;unfold sS at*
 (refine fA [.tmp 4] kp113 [(1,[(2,zI z,[])])] Tryz.func113 fun _=>?_;repeat' with_reducible first|exact⟨⟩|refine mA ?_ ?_|refine mC (fun _=>?_) fun _=>?_)
 all_goals(try exact zB)
 all_goals exact eZ
def aiU(l:List ByteArray):∀i,i<l.length->LeL (aaL (l.map fun t=>[AV.str fun _=>t]) fun _=>i) [.str fun _=>l.getD i ⟨#[]⟩]:=by
 intro i hi;refine LeL.of_eq ?_;show(l.map fun t=>[AV.str fun _=>t]).getD i []=_;simp[List.getD,hi]
def ajn:Af Tryz.prog 18 [] [] (sS rwL) []:=by
 (refine fB [.tmp 0] kp18 [] Tryz.func18 fun _=>?_;repeat' with_reducible first|exact⟨⟩|refine mA ?_ ?_|refine mC (fun _=>?_) fun _=>?_)
 exact aiU rwL
def acX(t:ByteArray):Af Tryz.prog 54 [.str fun _=>t] [] (.bool fun _=>resB t) []:=by
 have h1:=ajn;have h2:=afo rwL t (by decide);unfold resB;generalize rwL=l at*;generalize kHas l t=b at*;unfold sS at*
 (refine fA [.tmp 2] kp54 [(1,[(0,.slc .any 1 (fun _=>l.length) fun i=>[.str fun _=>l.getD (i ()) ⟨#[]⟩],[]),(2,zO b,[])])] Tryz.func54 fun _=>?_;repeat' with_reducible first|exact⟨⟩|refine mA ?_ ?_|refine mC (fun _=>?_) fun _=>?_)
 all_goals(try exact zB)
 all_goals exact eZ
def anP(l:List ByteArray)(t:ByteArray)(hl:l.length<=1000):Af Tryz.prog 113 [.aref 1000 0 fun _=>l.length,.str fun _=>t] [(1000,.arr false 9 1 0 (fun _=>l.length) (aaL (l.map fun t=>[AV.str fun _=>t])))] (.bool fun _=>kHas l t)
 [(1000,.arr false 9 1 0 (fun _=>l.length) (aaL (l.map fun t=>[AV.str fun _=>t])))]:=by
 refine(afo l t hl).borrow ?_ (by simp[sS,AV.aae]) (fun av h=>?_) (by simp[AV.aae]) (.bool _)
 ·have hr:=aiU l;unfold sS;generalize kHas l t=b at*;generalize aaL (l.map fun t=>[AV.str fun _=>t])=A at*
  (focus(refine aQ ?_;repeat' first|with_reducible apply And.intro|exact wZ|fail))
  all_goals exact hr
 ·simp only[List.mem_cons,List.not_mem_nil,or_false]at h;rcases h with rfl|rfl
  ·intro w D B B' v h;unfold sS at h ⊢;cases h with
   | empty _ _ _ _ p cap h0 hc=>exact .empty _ _ _ _ p cap h0 hc
   | slc _ _ _ _ b o cap c h1 hc hD hB hcell hlen hone hel=>
    refine .slc _ _ _ _ b o cap c h1 hc hD trivial hcell hlen hone (fun i j av hi hj=>?_);have:=hel i j av hi hj;rcases j with _|j
    ·simp only[List.getElem?_cons_zero,Option.some.injEq]at hj;subst hj;generalize c (i*1+0)=u at*;cases this;exact .str _
    ·simp at hj
  ·intro w D B B' v h;cases h;exact .str _
def aic(s:St)(hl:s.l.length<=1073741824):Af Tryz.prog 70 [.ptr 1000 0] [(1000,boxS fun _=>s)] (.bool fun _=>s.val) [(1000,boxS fun _=>s)]:=by
 have h1:=aal s;have h2:=amE s hl;have h3:=anP valL s.peek.text (by decide);obtain⟨v,hv⟩:∃v,v=s.val:=⟨_,rfl⟩
 rw[<- hv];unfold St.val at hv;generalize s.peek=p at*;generalize s.neg=n at*;obtain⟨c,hc⟩:∃c,c=kHas valL p.text:=⟨_,rfl⟩
 rw[<- hc]at hv h3;clear hc
 (apply Af.of tF mF [.tmp 2] kp70 [(1,[(1,encK fun _=>p,[(1000,boxS fun _=>s)])]),(8,[(3,.bool fun _=>c,[(1000,.arr false 9 1 0 (fun _=>valL.length) (aaL (valL.map fun t=>[AV.str fun _=>t])))])]),(9,[(1,.bool fun _=>n,[(1000,boxS fun _=>s)])])] Tryz.func70 (fun _=>?_);(any_goals((with_reducible refine wI ?_);cbv;(try dsimp only[nc]at*);(repeat'(with_reducible first|exact‹False›.elim|exact nZ|refine oC ?_ ?_|refine VC.mk rfl ?_ ?_ ?_|(apply Ca.mk<;>intro _)|refine cV (fun _=>?_) fun _=>?_|((first|apply xE|apply uE);cbv;(try dsimp only[nc]at*)))))))
 any_goals((with_reducible refine nO ?_);first|exact h1|exact h2|exact h3)
 all_goals(try(exact absurd ‹p.kind=2› ‹¬p.kind=2›))
 all_goals(try(exact absurd ‹p.kind=3› ‹¬p.kind=3›))
 (all_goals try first|exact eZ|with_reducible (refine rQ ?_;repeat' first|apply And.intro|exact wZ)|(refine sQ ?_;repeat' first|with_reducible apply And.intro|exact cZ))
 all_goals(clear h1 h2 h3;rw[hv];simp[*])
def intF(s:St):Int×St:=
 if s.ok=false∨s.peek.kind≠2 then(0,s.fail 13)else if s.peek.scale≠0∨s.peek.num<0∨12<s.peek.num then(0,s.fail 2)else(s.peek.num,s.next)
def Int_ok(s:St)(hl:s.l.length<=1073741824):Af Tryz.prog 285 [.ptr 1000 0,.int .i64 fun _=>0,.int .i64 fun _=>12] [(1000,boxS fun _=>s)] (.int .i64 fun _=>(intF s).1) [(1000,boxS fun _=>(intF s).2)]:=by
 have h1:=aal s;have h2:=ah7 s;have h3:=abE s 13;have h4:=abE s 2;have h5:=aap s hl;unfold intF;generalize s.fail 13=f13 at*;generalize s.fail 2=f2 at*;generalize s.next=t at*;generalize s.peek=p at*;generalize s.ok=b at*;by_cases q1:b=false∨p.kind≠2
 ·rw[if_pos q1];dsimp only
  (refine fA [.tmp 6] kp285 [(1,[(4,zO false,zS s)]),(2,[(1,zK p,zS s)]),(3,[(1,zO b,zS s)]),(4,[(1,zT,zS f13)]),(10,[(1,zT,zS f2)]),(12,[(1,zK p,zS t)])] Tryz.func285 fun _=>?_;repeat' with_reducible first|exact⟨⟩|refine mA ?_ ?_|refine mC (fun _=>?_) fun _=>?_)
  all_goals(try simp only[ite_self])
  any_goals((with_reducible refine sO (fun hg=>?_));exact absurd hg (by decide))
  all_goals(try exact zB)
  all_goals(try(exact absurd ‹(0:Int)<0∧False› (fun h=>h.2)))
  all_goals(try(exact absurd ‹b=true∧p.kind=2› (fun h=>q1.elim (fun k=>by rw[h.1]at k;cases k) (fun k=>k h.2))))
  all_goals exact eZ
 ·rw[if_neg q1];have q1':b=true∧p.kind=2:=by
   cases b with
   | false=>exact absurd (.inl rfl) q1
   | true=>exact⟨rfl,Classical.byContradiction fun h=>q1 (.inr h)⟩
  by_cases q2:p.scale≠0∨p.num<0∨12<p.num
  ·rw[if_pos q2];dsimp only
   (refine fA [.tmp 6] kp285 [(1,[(4,zO false,zS s)]),(2,[(1,zK p,zS s)]),(3,[(1,zO b,zS s)]),(4,[(1,zT,zS f13)]),(10,[(1,zT,zS f2)]),(12,[(1,zK p,zS t)])] Tryz.func285 fun _=>?_;repeat' with_reducible first|exact⟨⟩|refine mA ?_ ?_|refine mC (fun _=>?_) fun _=>?_)
   all_goals(try simp only[ite_self])
   any_goals((with_reducible refine sO (fun hg=>?_));exact absurd hg (by decide))
   all_goals(try exact zB)
   all_goals(try(exact absurd ‹(0:Int)<0∧False› (fun h=>h.2)))
   all_goals(try(exact absurd ‹b=false∨¬p.kind=2› q1))
   all_goals(try(exact absurd ‹(p.scale=0∧0<=p.num)∧p.num<=12› (fun h=>by omega)))
   all_goals exact eZ
  ·rw[if_neg q2];dsimp only
   (refine fA [.tmp 6] kp285 [(1,[(4,zO false,zS s)]),(2,[(1,zK p,zS s)]),(3,[(1,zO b,zS s)]),(4,[(1,zT,zS f13)]),(10,[(1,zT,zS f2)]),(12,[(1,zK p,zS t)])] Tryz.func285 fun _=>?_;repeat' with_reducible first|exact⟨⟩|refine mA ?_ ?_|refine mC (fun _=>?_) fun _=>?_)
   all_goals(try simp only[ite_self])
   any_goals((with_reducible refine sO (fun hg=>?_));exact absurd hg (by decide))
   all_goals(try exact zB)
   all_goals(try(exact absurd ‹(0:Int)<0∧False› (fun h=>h.2)))
   all_goals(try(exact absurd ‹b=false∨¬p.kind=2› q1))
   all_goals(try(exact absurd ‹(¬p.scale=0∨p.num<0)∨12<p.num› (fun h=>q2 (by omega))))
   all_goals exact eZ
def isW(t:Tok):Bool:=t.kind==1
def isI(t:Tok):Bool:=t.kind==2||(t.kind==5&&decide (t.text=⟨#[42]⟩))
def isC(t:Tok):Bool:=t.kind==5&&decide (t.text=⟨#[93]⟩)
def isW_ok(t:Tok):Af Tryz.prog 56 [encK fun _=>t] [] (.bool fun _=>isW t) []:=by
 obtain⟨b,hb⟩:∃b,b=isW t:=⟨_,rfl⟩
 rw[<- hb]
 (refine fB [.tmp 2] kp56 [] Tryz.func56 fun _=>?_;repeat' with_reducible first|exact⟨⟩|refine mA ?_ ?_|refine mC (fun _=>?_) fun _=>?_)
 rw[hb];rfl
def isI_ok(t:Tok):Af Tryz.prog 59 [encK fun _=>t] [] (.bool fun _=>isI t) []:=by
 obtain⟨b,hb⟩:∃b,b=isI t:=⟨_,rfl⟩
 rw[<- hb]
 (refine fB [.tmp 2] kp59 [] Tryz.func59 fun _=>?_;repeat' with_reducible first|exact⟨⟩|refine mA ?_ ?_|refine mC (fun _=>?_) fun _=>?_)
 rw[hb];unfold isI;by_cases h:t.kind=2<;>by_cases h5:t.kind=5<;>simp[h,h5]
def isC_ok(t:Tok):Af Tryz.prog 60 [encK fun _=>t] [] (.bool fun _=>isC t) []:=by
 obtain⟨b,hb⟩:∃b,b=isC t:=⟨_,rfl⟩
 rw[<- hb]
 (refine fB [.tmp 2] kp60 [] Tryz.func60 fun _=>?_;repeat' with_reducible first|exact⟨⟩|refine mA ?_ ?_|refine mC (fun _=>?_) fun _=>?_)
 rw[hb];unfold isC;by_cases h5:t.kind=5<;>simp[h5]
def jF(p:Tok->Bool)(s:St):ByteArray×St:=if s.peek.joined=false∨p s.peek=false then(⟨#[]⟩,s.fail 13)else(s.peek.text,s.next)
def aeR{f:FuncId}{p:Tok->Bool}(hf:∀t,Af Tryz.prog f [encK fun _=>t] [] (.bool fun _=>p t) [])(s:St)(hl:s.l.length<=1073741824):
 Af Tryz.prog 58 [.ptr 1000 0,.func f []] [(1000,boxS fun _=>s)] (.str fun _=>(jF p s).1) [(1000,boxS fun _=>(jF p s).2)]:=by
 have h1:=aal s;have h2:=hf s.peek;have h3:=abE s 13;have h4:=aap s hl;unfold jF;generalize p s.peek=b at*;generalize s.fail 13=u at*;generalize s.next=t at*;generalize s.peek=k at*;by_cases q:k.joined=false∨b=false
 ·rw[if_pos q];dsimp only
  (refine fA [.tmp 4] kp58 [(1,[(1,zK k,zS s)]),(2,[(6,zO b,[])]),(3,[(1,zT,zS u)])] Tryz.func58 fun _=>?_;repeat' with_reducible first|exact⟨⟩|refine mA ?_ ?_|refine mC (fun _=>?_) fun _=>?_)
  all_goals(try simp only[ite_self])
  all_goals(try exact zB)
  all_goals(try(exact absurd ‹k.joined=true∧b=true› (fun h=>q.elim (fun g=>by rw[h.1]at g;cases g) (fun g=>by rw[h.2]at g;cases g))))
  all_goals exact eZ
 ·rw[if_neg q];dsimp only
  (refine fA [.tmp 4] kp58 [(1,[(1,zK k,zS s)]),(2,[(6,zO b,[])]),(5,[(1,zK k,zS t)])] Tryz.func58 fun _=>?_;repeat' with_reducible first|exact⟨⟩|refine mA ?_ ?_|refine mC (fun _=>?_) fun _=>?_)
  all_goals(try simp only[ite_self])
  all_goals(try exact zB)
  all_goals(try(exact absurd ‹k.joined=false∨b=false› q))
  (all_goals(try exact eZ))
  all_goals trace_state
end Go.Ai
