/- Chapter 17: the law FormulaReads. -/
import Derived.Test.YtbagpkiomjlhkaaGreatDoorPrD
import Derived.Test.YtbagpkiomjlhkaaGreatDoorOpX
set_option linter.all false
namespace Go.Ai
open Go Go.Proofs Tryz
set_option maxRecDepth 100000
set_option maxHeartbeats 4000000
def Se(e D:Nat)(he:e+1<=1073741824)(x:X)(hx:X.le (e+1) (D+1) x):Af Tryz.prog 5 [aq (e+1) (D+1) .any fun _=>x] [] (.bool fun _=>true) []:=by
 have h1:=Jt e he D x hx;have h0:=R9;obtain⟨b,h2⟩:=Sf e (D+1) D x hx hx;by_cases hc:kB (iL (iW e) cr) x=0
 ·obtain⟨lit,c3,cg,hh,hz,h3,_,_,_⟩:=Sa e D he x hx hc;have h5:=DD e 9 D x hx c3 hz;have h6:=Jv e 9 D x hx c3;rw[hh]at h5;have h7:=Jl e D x 0 (jr 9 x) (aP lit 9 x 0) (by rw[<- hc];exact h1) (fun _=>h5) (fun _ _=>h3);have hp:=fun hr hs=>Sg (ck:=kB (iL (iW e) cr)) c3 cg (hh.trans hr) hc hs;have hs0:=Sh (aP lit 9 x 0);have h8:(aP lit 9 x 0).size<=16384->jr 9 x=false->Af Tryz.prog 24 [.str fun _=>aP lit 9 x 0] [] (.ag [aq (e+1) 65600 .any fun _=>x,.int .i64 fun _=>0,.int .i64 fun _=>0,.int .i64 fun _=>0]) []:=fun hs hr=>by
   have q:=hp hr hs
   have:=Jw (pe:=jt) (fun t h=>Jq h) (fun t ht _=>Si t ht) (e:=e) (D:=65600) zd (ck:=kB (iL (iW e) cr)) (newS (aP lit 9 x 0)) (Ja _ zo) hs0 (fun he0=>by
    rw[Sj c3 cg (hh.trans hr) hs];exact Jt e he 65599 x (X.cP c3 zd))
   rw[q]at this;exact this
  have h9:Af Tryz.prog 25 [aq (e+1) (D+1) .any fun _=>x,aq (e+1) 65600 .any fun _=>x] [] (.bool fun _=>true) []:=by
   have:=IN (IK (e+1)) e e (fun v w hv hw=>QO (e+1) v w hv hw) 9 D 65599 x x hx (X.cP c3 zd) c3
   rwa [Jn (fun v=>by unfold IK;rw[Do];rfl) _ c3]at this
  rw[hc]at h1;clear hp hs0 hc c3 cg hh h3 h5 hz;generalize aP lit 9 x 0=t at*;cases hr:jr 9 x with
  | true=>
   rw[hr]at h6;clear h7 h8 h9
   (apply Af.of tF mF [.tmp 2] zP [(1,[(0,zO true,[]),(4,zO b,[]),(9,zI 0,[]),(14,zO true,[])]),(2,[(0,zO true,[])]),(3,[(1,.ag [zR t,zI 0],[])]),(6,[(1,.ag [aq (e+1) 65600 .any fun _=>x,zI 0,zI 0,zI 0],[])]),(7,[(17,zO true,[])])] func5 (fun _=>?_);(repeat' with_reducible first|exact nY|refine oC ?_ ?_|refine vQ ?_ ?_ ?_|refine cV (fun _=>?_) fun _=>?_|refine wQ ?_|fail))
   all_goals(try simp only[aF])
   all_goals(try(exact absurd ‹((True∧b=true)∧True)∧False› (fun q=>q.2)))
   all_goals(try exact zB)
   all_goals exact eZ
  | false=>
   rw[hr]at h6 h7;rw[ae ⟨rfl,rfl⟩,ae rfl,aa zsi]at h7
   (apply Af.of tF mF [.tmp 2] zP [(1,[(0,zO true,[]),(4,zO b,[]),(9,zI 0,[]),(14,zO false,[])]),(2,[(0,zO true,[])]),(3,[(1,.ag [zR t,zI 0],[])]),(6,[(1,.ag [aq (e+1) 65600 .any fun _=>x,zI 0,zI 0,zI 0],[])]),(7,[(17,zO true,[])])] func5 (fun _=>?_);(repeat' with_reducible first|exact nY|refine oC ?_ ?_|refine vQ ?_ ?_ ?_|refine cV (fun _=>?_) fun _=>?_|refine wQ ?_|fail))
   all_goals(try simp only[aF])
   any_goals((with_reducible first|refine nO ?_|refine sO (fun _=>?_));first|exact h0|exact h1|exact h2|exact h6|exact h7|exact h9|exact h8 zo hr)
   all_goals exact eZ
 ·generalize kB (iL (iW e) cr) x=c at*;cases b with
  | false=>
   (apply Af.of tF mF [.tmp 2] zP [(1,[(0,zO true,[]),(4,zO false,[]),(9,zI c,[]),(14,zO false,[])]),(2,[(0,zO true,[])]),(3,[(1,.ag [.str fun _=>⟨#[]⟩,zI 0],[])]),(6,[(1,.ag [aq (e+1) 65600 .any fun _=>x,zI 0,zI 0,zI 0],[])]),(7,[(17,zO true,[])])] func5 (fun _=>?_);(repeat' with_reducible first|exact nY|refine oC ?_ ?_|refine vQ ?_ ?_ ?_|refine cV (fun _=>?_) fun _=>?_|refine wQ ?_|fail))
   all_goals(try simp only[aF])
   all_goals(try(exact absurd ‹(True∧False)∧c=0∨False› (fun q=>q.elim (fun q=>hc q.2) id)))
   all_goals(try(exact absurd ‹c=0› hc))
   all_goals(try exact zB)
   any_goals((with_reducible refine sO (fun hg=>?_));first|exact h1|exact h2|exact absurd (show c=0 by simpa using hg) hc)
   all_goals exact eZ
  | true=>
   (apply Af.of tF mF [.tmp 2] zP [(1,[(0,zO true,[]),(4,zO true,[]),(9,zI c,[]),(14,zO false,[])]),(2,[(0,zO true,[])]),(3,[(1,.ag [.str fun _=>⟨#[]⟩,zI 0],[])]),(6,[(1,.ag [aq (e+1) 65600 .any fun _=>x,zI 0,zI 0,zI 0],[])]),(7,[(17,zO true,[])])] func5 (fun _=>?_);(repeat' with_reducible first|exact nY|refine oC ?_ ?_|refine vQ ?_ ?_ ?_|refine cV (fun _=>?_) fun _=>?_|refine wQ ?_|fail))
   all_goals(try simp only[aF])
   all_goals(try(exact absurd ‹(True∧True)∧c=0∨False› (fun q=>q.elim (fun q=>hc q.2) id)))
   all_goals(try(exact absurd ‹c=0› hc))
   all_goals(try exact zB)
   any_goals((with_reducible refine sO (fun hg=>?_));first|exact h1|exact h2|exact absurd (show c=0 by simpa using hg) hc)
   all_goals exact eZ
end Go.Ai

set_option maxRecDepth 100000
namespace Go.Proofs.YtbagpkiomjlhkaaGreatDoor
open Go Go.Ai Go.RowKit Go.ChangeShapes Go.WideShapes Go.ChangeAt
set_option maxRecDepth 100000
set_option maxHeartbeats 4000000
def Sk(H:Type)(enc:TypeId×Value->H)(W:World)(base:Nat)(args:Array Value)(ds gs:List (DataW H))(before:List MemPlace)
 (hval:∀(j:Nat) t v,Tryz.f5.params[j]? = some t->args[j]? = some v->Value.okWide Tryz.prog W .any base t v)
 (hW:DataW.Whole enc Tryz.prog Tryz.f5.params.toList Rows.formulaReadsSpec.vars false W args.toList ds gs before) (hk:Rows.uptoSmall H (ds++gs)=true) (hL:laidMetH Tryz.prog Rows.formulaReadsUptoRow.laid W) (hS:W.ShapedOpen Tryz.prog):
 Calls Tryz.prog 5 args W fun e W'=>∃v,e=.returned v∧Rows.formulaReadsSpec.post enc Tryz.prog Tryz.f5 false true false false W args v W':=by
 have hW':=hW;obtain⟨p,q,hA,hV,rfl,_,_⟩:=hW;obtain rfl:=Sl hV;rw[Tryz.params5]at hA hval;obtain⟨v0,Zu,d0,ds0,Zv,Zw,hargs,rfl,rfl,t0,r0⟩:=trodAll_cons hA;obtain⟨rfl,rfl,rfl⟩:=trodAll_nil r0;obtain rfl:args=#[v0]:=by cases args;simp_all
 have hb:Rows.uptoBulkAll ([d0]++[])<=1048576:=il hk;simp only[uS,Rows.uptoBulkAll]at hb;obtain⟨x0,h0,a0⟩:=Sm t0 zo;refine(Sn (Se 1048575 1048575 zd x0 h0) rfl (So hL hS) fun i av hi=>?_).mono fun e W' ⟨he,hbel⟩=>⟨_,he,?_⟩
 ·match i with
  | 0=>simp only[pd,cB]at hi;subst hi;exact a0
  | i+1=>simp at hi
 ·refine Sp (s:=Rows.formulaReadsSpec) rfl zk rfl ?_ hW' hbel;rw[Tryz.params5];intro t ht;obtain rfl:t=25:=by simpa using ht
  exact⟨zk,il zk⟩
def Sq(os:Os){H:Type}(enc:TypeId×Value->H):∃places,DataW.whole enc Tryz.prog ((lW os).forCall (fun _ _=>0) ⟨#[],#[.agg #[.int .i64 0,.int .i64 0,.string ⟨#[]⟩,.slice none 0 0,.slice none 0 0]],[]⟩).memory Tryz.f5.params.toList Rows.formulaReadsSpec.vars false (#[.agg #[.int .i64 0,.int .i64 0,.string ⟨#[]⟩,.slice none 0 0,.slice none 0 0]]:Array Value).toList 8=some ([.agg [.lit (.int .i64 0),.lit (.int .i64 0),.lit (.string []),.nil,.nil]],[],places):=
 ⟨[],zk⟩
def Sr(os:Os):laidMet Tryz.prog Rows.formulaReadsUptoRow.laid ((lW os).forCall (fun _ _=>0) ⟨#[],#[.agg #[.int .i64 0,.int .i64 0,.string ⟨#[]⟩,.slice none 0 0,.slice none 0 0]],[]⟩).memory:=
 Ss os _
def Su(os:Os)(started:os.Started)(H:Type)(enc:TypeId×Value->H)(F:Stop.Interp):
 ReturnsInHanded {} Tryz.checked os 5 .any ((Rows.OpenSpec.upto Rows.formulaReadsSpec).preRow enc Tryz.prog Tryz.f5 Rows.formulaReadsUptoRow.domain false Rows.formulaReadsUptoRow.laid) (((Rows.OpenSpec.upto Rows.formulaReadsSpec).at F).post enc Tryz.prog Tryz.f5 false true false false):=by
 obtain⟨places,hx⟩:=Sq os enc;refine returnsInHanded_of_row (C:=Tryz.checked) (s:=Rows.OpenSpec.upto Rows.formulaReadsSpec) Sv started zk Tryz.func5
  (witness_row_at (enc:=enc) (C:=Tryz.checked) false (lW os) #[.agg #[.int .i64 0,.int .i64 0,.string ⟨#[]⟩,.slice none 0 0,.slice none 0 0]] rfl zk zk zk
    (OpenSpec.preRow_of_cond 8 hx zk (fun k hk=>by cases hk;kernel_rfl) zk (Sr os))) ?_
 intro W base args ds gs before hval hW _ hcond _ hL hS _;exact Sk H enc W base args ds gs before hval hW (hcond _ rfl) hL hS
def Sw:joinedFacts Tryz.pinned.checked.prog 5 Tryz.f5 (Rows.OpenSpec.upto Rows.formulaReadsSpec).bare Rows.formulaReadsUptoRow=true:=by
 unfold joinedFacts;simp only[az]
 repeat'(with_reducible apply ai)
 all_goals(as_aux_lemma=>kernel_rfl)
def Sx:Rows.FormulaReadsUptoSaid:=
 OpenClaim.holds_of_cond 5 Tryz.f5 rfl rfl rfl rfl rfl rfl rfl ⟨rfl,rfl,rfl,rfl,rfl⟩ rfl rfl rfl rfl rfl zk Tryz.func5 Sw
  (il zk) (by unfold Func.isWrapper;first|(rw[ae (by decide +kernel)];kernel_rfl)|(rw[aa (by decide +kernel)];exact⟨rfl,rfl⟩))
  (fun os started H enc _ F=>by rw[OpenClaim.pre_eq_preRow];exact Su os started H enc F)
def Sy(f:FuncId)(fn:Func)(hf:Tryz.pinned.checked.prog.funcNamed Rows.formulaReadsUptoRow.func=some f)(hfn:Tryz.pinned.checked.prog.funcs[f]? = some fn):
 true=Tryz.pinned.checked.prog.looks []∧∀(j:Nat) t,fn.params[j]? = some t->Tryz.pinned.checked.prog.wantsStandIn t=false:=by
 obtain rfl:f=5:=jg ((show Tryz.prog.funcNamed Rows.formulaReadsUptoRow.func=some 5 by kernel_rfl).symm.trans hf) |>.symm;obtain rfl:fn=Tryz.f5:=(jg (Tryz.func5.symm.trans hfn)).symm;refine⟨zk,fun j t ht=>?_⟩;rw[Tryz.params5]at ht;have hm:=Array.mem_of_getElem? ht;obtain rfl:t=25:=by simpa using hm
 exact(show Tryz.prog.wantsStandIn 25=false by kernel_rfl)
theorem formulaReads_holds:Rows.FormulaReadsUptoCardSaid:=
 Claim7.holds_tied_plain_at .later [] _ _ _ _ Sx (fun _ h=>by cases h) zk (fun _ h=>by cases h) formulaReadsUpto_row_tie rfl ⟨rfl,rfl⟩ zk rfl Sy zk
#print axioms formulaReads_holds
end Go.Proofs.YtbagpkiomjlhkaaGreatDoor
