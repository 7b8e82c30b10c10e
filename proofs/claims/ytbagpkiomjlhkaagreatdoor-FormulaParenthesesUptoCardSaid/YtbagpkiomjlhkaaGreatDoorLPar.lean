/- Chapter 17: the law FormulaParentheses. -/
import Derived.Test.YtbagpkiomjlhkaaGreatDoorPrD
import Derived.Test.YtbagpkiomjlhkaaGreatDoorPrE
import Derived.Test.YtbagpkiomjlhkaaGreatDoorOpX
set_option linter.all false
namespace Go.Ai
open Go Go.Proofs Tryz
set_option maxRecDepth 100000
set_option maxHeartbeats 4000000
theorem parN_size(t:ByteArray):∀n,(EN n t).size=t.size+2*n
 | 0=>rfl
 | n+1=>by
  have h:=parN_size t n;rw[show EN (n+1) t=dq (EN n t)from rfl,qv,h];omega
def law_par(e D:Nat)(he:e+1<=1073741824)(x:X)(hx:X.le (e+1) (D+1) x)(n:Int)(hn:0<=n∧n<256):Af Tryz.prog 8 [aq (e+1) (D+1) .any fun _=>x,.int .u8 fun _=>n] [] (.bool fun _=>true) []:=by
 have h1:=Jt e he D x hx;have h0:=R9;obtain⟨b,h2⟩:=Sf e (D+1) D x hx hx;obtain⟨m,hm⟩:∃m:Nat,n.tmod 10=(m:Int):=⟨(n.tmod 10).toNat,by rw[mP hn.1];omega⟩
 have hm10:m<10:=by rw[mP hn.1]at hm;omega
 have hwm:IntKind.i64.wrap (m:Int)=m:=ax zo zo;by_cases hc:kB (iL (iW e) cr) x=0
 ·obtain⟨lit,c3,cg,hh,hz,_,_,c5,hw⟩:=Sa e D he x hx hc;have h6:=Jv e 9 D x hx c3;have h7:=Zd lit e 9 D x hx c3 c5 hw;have hsz:(iE lit 9 x).size<=549755813888:=aG (xK lit 9 x (X.mt (fun _ h=>h.1.1) c5)) hw;have h8:jr 9 x=false->(EN m (iE lit 9 x)).size<=16384->Af Tryz.prog 24 [.str fun _=>EN m (iE lit 9 x)] [] (.ag [aq (e+1) 65600 .any fun _=>x,.int .i64 fun _=>0,.int .i64 fun _=>0,.int .i64 fun _=>0]) []:=fun hr hs=>by
   obtain⟨L,hL⟩:=Wc (wrap_ok c3 cg (hh.trans hr)) m false;have q:=V0 (ck:=kB (iL (iW e) cr)) hL zo hs hc
   have:=Jw (pe:=jt) (fun t h=>Jq h) (fun t ht _=>Si t ht) (e:=e) (D:=65600) zd (ck:=kB (iL (iW e) cr)) (newS (EN m (iE lit 9 x))) (Ja _ zo) (Sh _) (fun he0=>by
    rw[V1 hL zo hs];exact Jt e he 65599 x (X.cP c3 zd))
   rw[q]at this;exact this
  have h9:Af Tryz.prog 25 [aq (e+1) (D+1) .any fun _=>x,aq (e+1) 65600 .any fun _=>x] [] (.bool fun _=>true) []:=by
   have:=IN (IK (e+1)) e e (fun v w hv hw=>QO (e+1) v w hv hw) 9 D 65599 x x hx (X.cP c3 zd) c3
   rwa [Jn (fun v=>by unfold IK;rw[Do];rfl) _ c3]at this
  rw[hc]at h1;clear hc c3 cg hh hz c5 hw;generalize iE lit 9 x=t at*;cases hr:jr 9 x with
  | true=>
   rw[hr]at h6;clear h7 h8 h9
   (apply Af.of tF mF [.tmp 4] kp8 [(1,[(0,.bool fun _=>true,[]),(4,.bool fun _=>b,[]),(9,.int .i64 fun _=>0,[]),(14,.bool fun _=>true,[])]),(2,[(0,.bool fun _=>true,[])]),(3,[(1,.str fun _=>t,[])]),(10,[(1,.ag [aq (e+1) 65600 .any fun _=>x,.int .i64 fun _=>0,.int .i64 fun _=>0,.int .i64 fun _=>0],[])]),(11,[(5,.bool fun _=>true,[])])] func8 (fun _=>?_);(any_goals((with_reducible refine wI ?_);cbv;(try dsimp only[nc]at*);(repeat'(with_reducible first|exact‹False›.elim|exact nZ|refine oC ?_ ?_|refine VC.mk rfl ?_ ?_ ?_|(apply Ca.mk<;>intro _)|refine cV (fun _=>?_) fun _=>?_|((first|apply xE|apply uE);cbv;(try dsimp only[nc]at*)))))))
   all_goals(try simp only[aF])
   all_goals try exact absurd ‹((True∧b=true)∧True)∧False› (fun q=>q.2)
   any_goals((with_reducible first|refine nO ?_|refine sO (fun _=>?_));first|exact h0|exact h1|exact h2|exact h6)
   all_goals exact eZ
  | false=>
   rw[hr]at h6;have h8:=h8 hr;have hps:=parN_size t
   (apply Af.of tF mF [.tmp 4] kp8 [(1,[(0,.bool fun _=>true,[]),(4,.bool fun _=>b,[]),(9,.int .i64 fun _=>0,[]),(14,.bool fun _=>false,[])]),(2,[(0,.bool fun _=>true,[])]),(3,[(1,.str fun _=>t,[])]),(10,[(1,.ag [aq (e+1) 65600 .any fun _=>x,.int .i64 fun _=>0,.int .i64 fun _=>0,.int .i64 fun _=>0],[])]),(11,[(5,.bool fun _=>true,[])])] func8 (fun _=>?_);(any_goals((with_reducible refine wI ?_);cbv;(try dsimp only[nc]at*);(repeat'(with_reducible first|exact‹False›.elim|exact nZ|refine oC ?_ ?_|refine VC.mk rfl ?_ ?_ ?_|(apply Ca.mk<;>intro _)|refine cV (fun _=>?_) fun _=>?_|((first|apply xE|apply uE);cbv;(try dsimp only[nc]at*)))))))
   all_goals(try simp only[aF])
   any_goals((with_reducible first|refine nO ?_|refine sO (fun _=>?_));first|exact h0|exact h1|exact h2|exact h6|exact h7)
   (all_goals try first|exact eZ|with_reducible (refine rQ ?_;repeat' first|apply ai|exact wZ)|(refine sQ ?_;repeat' first|with_reducible apply ai|exact cZ))
   refine .loop (fun i:Nat=>⟨57,[(6,.int .i64 fun _=>(i:Int)),(5,.str fun _=>EN i t),(2,.ptr 2 0),(1,.int .u8 fun _=>n)],[(2,.box (cQ (e+1) (D+1) .any fun _=>x))]⟩)
    (fun i=>i<=m) (fun i=>m-i) 0 (aB _) ?_ fun i E hi=>?_
   ·exact aZ
   have hs:=hps i;by_cases hik:i<m
   ·have e1:EN (i+1) t=⟨#[40]⟩++EN i t++⟨#[41]⟩:=rfl;generalize EN i t=u at*;apply af.wk tF mF [] kp8 ?_
    (any_goals((with_reducible refine wI ?_);cbv;(try dsimp only[nc]at*);(repeat'(with_reducible first|exact‹False›.elim|exact nZ|refine oC ?_ ?_|refine VC.mk rfl ?_ ?_ ?_|(apply Ca.mk<;>intro _)|refine cV (fun _=>?_) fun _=>?_|((first|apply xE|apply uE);cbv;(try dsimp only[nc]at*))))))
    all_goals try exact absurd ‹IntKind.i64.wrap (n.tmod 10)<=(i:Int)› (by rw[hm,hwm];omega)
    (all_goals try first|exact eZ|with_reducible (refine rQ ?_;repeat' first|apply ai|exact wZ)|(refine sQ ?_;repeat' first|with_reducible apply ai|exact cZ))
    all_goals(try(simp only[aj,dX,bp,bV];omega))
    refine dE (i+1) ⟨zo,zo⟩ ?_
    (focus(refine aQ ?_;repeat' first|with_reducible apply ai|exact wZ|fail))
    all_goals(first|exact aS zo|exact e1.symm)
   ·obtain rfl:i=m:=by omega
    apply af.wk tF mF [] kp8 ?_
    (any_goals((with_reducible refine wI ?_);cbv;(try dsimp only[nc]at*);(repeat'(with_reducible first|exact‹False›.elim|exact nZ|refine oC ?_ ?_|refine VC.mk rfl ?_ ?_ ?_|(apply Ca.mk<;>intro _)|refine cV (fun _=>?_) fun _=>?_|((first|apply xE|apply uE);cbv;(try dsimp only[nc]at*))))))
    all_goals try exact absurd ‹(i:Int)<IntKind.i64.wrap (n.tmod 10)› (by rw[hm,hwm];omega)
    any_goals((with_reducible first|refine nO ?_|refine sO (fun _=>?_));first|exact h9|exact h8 zo)
    all_goals exact eZ
 ·generalize kB (iL (iW e) cr) x=c at*;have go:∀b,Af Tryz.prog 13 [aq (e+1) (D+1) .any fun _=>x] [] (.bool fun _=>b) []->Af Tryz.prog 8 [aq (e+1) (D+1) .any fun _=>x,.int .u8 fun _=>n] [] (.bool fun _=>true) []:=fun b h2=>by
   cases b with
   | false=>
    (apply Af.of tF mF [.tmp 4] kp8 [(1,[(0,.bool fun _=>true,[]),(4,.bool fun _=>false,[]),(9,.int .i64 fun _=>c,[]),(14,.bool fun _=>false,[])]),(2,[(0,.bool fun _=>true,[])]),(3,[(1,.str fun _=>⟨#[]⟩,[])]),(10,[(1,.ag [aq (e+1) 65600 .any fun _=>x,.int .i64 fun _=>0,.int .i64 fun _=>0,.int .i64 fun _=>0],[])]),(11,[(5,.bool fun _=>true,[])])] func8 (fun _=>?_);(any_goals((with_reducible refine wI ?_);cbv;(try dsimp only[nc]at*);(repeat'(with_reducible first|exact‹False›.elim|exact nZ|refine oC ?_ ?_|refine VC.mk rfl ?_ ?_ ?_|(apply Ca.mk<;>intro _)|refine cV (fun _=>?_) fun _=>?_|((first|apply xE|apply uE);cbv;(try dsimp only[nc]at*)))))))
    all_goals(try simp only[aF])
    all_goals try exact absurd ‹(True∧False)∧c=0∨False› (fun q=>q.elim (fun q=>hc q.2) id)
    all_goals try exact absurd ‹c=0› hc
    any_goals((with_reducible refine nO ?_);first|exact h0|exact h1|exact h2)
    any_goals((with_reducible refine sO (fun hg=>?_));first|exact h1|exact h2|exact absurd (show c=0 by simpa using hg) hc)
    (all_goals try first|exact eZ|with_reducible (refine rQ ?_;repeat' first|apply ai|exact wZ)|(refine sQ ?_;repeat' first|with_reducible apply ai|exact cZ))
    | true=>
    (apply Af.of tF mF [.tmp 4] kp8 [(1,[(0,.bool fun _=>true,[]),(4,.bool fun _=>true,[]),(9,.int .i64 fun _=>c,[]),(14,.bool fun _=>false,[])]),(2,[(0,.bool fun _=>true,[])]),(3,[(1,.str fun _=>⟨#[]⟩,[])]),(10,[(1,.ag [aq (e+1) 65600 .any fun _=>x,.int .i64 fun _=>0,.int .i64 fun _=>0,.int .i64 fun _=>0],[])]),(11,[(5,.bool fun _=>true,[])])] func8 (fun _=>?_);(any_goals((with_reducible refine wI ?_);cbv;(try dsimp only[nc]at*);(repeat'(with_reducible first|exact‹False›.elim|exact nZ|refine oC ?_ ?_|refine VC.mk rfl ?_ ?_ ?_|(apply Ca.mk<;>intro _)|refine cV (fun _=>?_) fun _=>?_|((first|apply xE|apply uE);cbv;(try dsimp only[nc]at*)))))))
    all_goals(try simp only[aF])
    all_goals try exact absurd ‹(True∧True)∧c=0∨False› (fun q=>q.elim (fun q=>hc q.2) id)
    all_goals try exact absurd ‹c=0› hc
    any_goals((with_reducible refine nO ?_);first|exact h0|exact h1|exact h2)
    any_goals((with_reducible refine sO (fun hg=>?_));first|exact h1|exact h2|exact absurd (show c=0 by simpa using hg) hc)
    all_goals exact eZ
  exact go b h2
end Go.Ai

set_option maxRecDepth 100000
namespace Go.Proofs.YtbagpkiomjlhkaaGreatDoor
open Go Go.Ai Go.RowKit Go.ChangeShapes Go.WideShapes Go.ChangeAt
set_option maxRecDepth 100000
set_option maxHeartbeats 4000000
def par_contract(H:Type)(enc:TypeId×Value->H)(W:World)(base:Nat)(args:Array Value)(ds gs:List (DataW H))(before:List MemPlace)
 (hval:∀(j:Nat) t v,Tryz.f8.params[j]? = some t->args[j]? = some v->Value.okWide Tryz.prog W .any base t v)
 (hW:DataW.Whole enc Tryz.prog Tryz.f8.params.toList Rows.formulaParenthesesSpec.vars false W args.toList ds gs before) (hk:Rows.uptoSmall H (ds++gs)=true) (hL:laidMetH Tryz.prog Rows.formulaParenthesesUptoRow.laid W) (hS:W.ShapedOpen Tryz.prog):
 Calls Tryz.prog 8 args W fun e W'=>∃v,e=.returned v∧Rows.formulaParenthesesSpec.post enc Tryz.prog Tryz.f8 false true false false W args v W':=by
 have hW':=hW;obtain⟨p,q,hA,hV,rfl,_,_⟩:=hW;obtain rfl:=Sl hV;rw[Tryz.params8]at hA hval;obtain⟨v0,Zu,d0,ds0,Zv,Zw,hargs,rfl,rfl,t0,r0⟩:=trodAll_cons hA;obtain⟨v1,vs1,d1,ds1,pa1,pb1,rfl,rfl,rfl,t1,r1⟩:=trodAll_cons r0;obtain⟨rfl,rfl,rfl⟩:=trodAll_nil r1;obtain rfl:args=#[v0,v1]:=by cases args;simp_all
 have hb:Rows.uptoBulkAll ([d0,d1]++[])<=1048576:=il hk;simp only[uS,Rows.uptoBulkAll]at hb;obtain⟨x0,h0,a0⟩:=Sm t0 zo;obtain⟨x1,rfl,rfl,_,h1⟩:=open_int Tryz.underlying5 (hval 1 5 v1 rfl rfl) t1;have a1:RD W (fun b=>b<W.heap.size) W.heap.size (.int .u8 fun _=>x1) (.int .u8 x1):=.int _ _;refine(Sn (law_par 1048575 1048575 zd x0 h0 x1 (u8_rg h1)) rfl (So hL hS) fun i av hi=>?_).mono fun e W' ⟨he,hbel⟩=>⟨_,he,?_⟩
 ·match i with
  | 0=>simp only[pd,cB]at hi;subst hi;exact a0
  | 1=>simp only[pd,xP,cB]at hi;subst hi;exact a1
  | i+2=>simp at hi
 ·refine Sp (s:=Rows.formulaParenthesesSpec) rfl zk rfl ?_ hW' hbel;rw[Tryz.params8];intro t ht;have:t=25∨t=5:=by simp at ht;grind
  rcases this with rfl|rfl
  ·exact⟨zk,il zk⟩
  ·exact⟨zk,il zk⟩
def par_reads(os:Os){H:Type}(enc:TypeId×Value->H):∃places,DataW.whole enc Tryz.prog ((lW os).forCall (fun _ _=>0) ⟨#[],#[.agg #[.int .i64 0,.int .i64 0,.string ⟨#[]⟩,.slice none 0 0,.slice none 0 0],.int .u8 0],[]⟩).memory Tryz.f8.params.toList Rows.formulaParenthesesSpec.vars false (#[.agg #[.int .i64 0,.int .i64 0,.string ⟨#[]⟩,.slice none 0 0,.slice none 0 0],.int .u8 0]:Array Value).toList 8=some ([.agg [.lit (.int .i64 0),.lit (.int .i64 0),.lit (.string []),.nil,.nil],.lit (.int .u8 0)],[],places):=
 ⟨[],zk⟩
def par_laid(os:Os):laidMet Tryz.prog Rows.formulaParenthesesUptoRow.laid ((lW os).forCall (fun _ _=>0) ⟨#[],#[.agg #[.int .i64 0,.int .i64 0,.string ⟨#[]⟩,.slice none 0 0,.slice none 0 0],.int .u8 0],[]⟩).memory:=
 Ss os _
def par_lifted(os:Os)(started:os.Started)(H:Type)(enc:TypeId×Value->H)(F:Stop.Interp):
 ReturnsInHanded {} Tryz.checked os 8 .any ((Rows.OpenSpec.upto Rows.formulaParenthesesSpec).preRow enc Tryz.prog Tryz.f8 Rows.formulaParenthesesUptoRow.domain false Rows.formulaParenthesesUptoRow.laid) (((Rows.OpenSpec.upto Rows.formulaParenthesesSpec).at F).post enc Tryz.prog Tryz.f8 false true false false):=by
 obtain⟨places,hx⟩:=par_reads os enc;refine returnsInHanded_of_row (C:=Tryz.checked) (s:=Rows.OpenSpec.upto Rows.formulaParenthesesSpec) Sv started zk Tryz.func8
  (witness_row_at (enc:=enc) (C:=Tryz.checked) false (lW os) #[.agg #[.int .i64 0,.int .i64 0,.string ⟨#[]⟩,.slice none 0 0,.slice none 0 0],.int .u8 0] rfl zk zk zk
    (OpenSpec.preRow_of_cond 8 hx zk (fun k hk=>by cases hk;kernel_rfl) zk (par_laid os))) ?_
 intro W base args ds gs before hval hW _ hcond _ hL hS _;exact par_contract H enc W base args ds gs before hval hW (hcond _ rfl) hL hS
def par_closed:joinedFacts Tryz.pinned.checked.prog 8 Tryz.f8 (Rows.OpenSpec.upto Rows.formulaParenthesesSpec).bare Rows.formulaParenthesesUptoRow=true:=by
 unfold joinedFacts;simp only[az]
 repeat'(with_reducible apply ai)
 all_goals(as_aux_lemma=>kernel_rfl)
def par_said:Rows.FormulaParenthesesUptoSaid:=
 OpenClaim.holds_of_cond 8 Tryz.f8 rfl rfl rfl rfl rfl rfl rfl ⟨rfl,rfl,rfl,rfl,rfl⟩ rfl rfl rfl rfl rfl zk Tryz.func8 par_closed
  (il zk) (by unfold Func.isWrapper;first|(rw[ae (by decide +kernel)];kernel_rfl)|(rw[aa (by decide +kernel)];exact⟨rfl,rfl⟩))
  (fun os started H enc _ F=>by rw[OpenClaim.pre_eq_preRow];exact par_lifted os started H enc F)
def par_plain(f:FuncId)(fn:Func)(hf:Tryz.pinned.checked.prog.funcNamed Rows.formulaParenthesesUptoRow.func=some f)(hfn:Tryz.pinned.checked.prog.funcs[f]? = some fn):
 true=Tryz.pinned.checked.prog.looks []∧∀(j:Nat) t,fn.params[j]? = some t->Tryz.pinned.checked.prog.wantsStandIn t=false:=by
 obtain rfl:f=8:=jg ((show Tryz.prog.funcNamed Rows.formulaParenthesesUptoRow.func=some 8 by kernel_rfl).symm.trans hf) |>.symm;obtain rfl:fn=Tryz.f8:=(jg (Tryz.func8.symm.trans hfn)).symm;refine⟨zk,fun j t ht=>?_⟩;rw[Tryz.params8]at ht;have hm:=Array.mem_of_getElem? ht;have:t=25∨t=5:=by simp at hm;grind
 rcases this with rfl|rfl
 ·exact(show Tryz.prog.wantsStandIn 25=false by kernel_rfl)
 ·exact(show Tryz.prog.wantsStandIn 5=false by kernel_rfl)
theorem formulaParentheses_holds:Rows.FormulaParenthesesUptoCardSaid:=
 Claim7.holds_tied_plain_at .later [] _ _ _ _ par_said (fun _ h=>by cases h) zk (fun _ h=>by cases h) formulaParenthesesUpto_row_tie rfl ⟨rfl,rfl⟩ zk rfl par_plain zk
#print axioms formulaParentheses_holds
end Go.Proofs.YtbagpkiomjlhkaaGreatDoor
