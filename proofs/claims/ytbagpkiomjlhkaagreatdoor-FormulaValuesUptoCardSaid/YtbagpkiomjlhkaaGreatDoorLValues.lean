/- Chapter 17: the law FormulaValues. -/
import Derived.Test.YtbagpkiomjlhkaaGreatDoorSimA
import Derived.Test.YtbagpkiomjlhkaaGreatDoorEqV
import Derived.Test.YtbagpkiomjlhkaaGreatDoorKnA
import Derived.Test.YtbagpkiomjlhkaaGreatDoorTabs
set_option linter.all false
namespace Go.Ai
open Go Go.Proofs
set_option maxRecDepth 100000
set_option maxHeartbeats 4000000
def law_val(s0:ByteArray)(hs0:s0.size<=1048576):Af Tryz.prog 10 [.str fun _=>s0] [] (.bool fun _=>true) []:=by
 obtain⟨X,hX⟩:∃X,X=s0.extract (Int.toNat 0) (if false=true then if(s0.size:Int)<100 then 100 else(s0.size:Int)else if 100<(s0.size:Int)then 100 else(s0.size:Int)).toNat:=⟨_,rfl⟩
 have hE:0<=(if false=true then if(s0.size:Int)<100 then 100 else(s0.size:Int)else if 100<(s0.size:Int)then 100 else(s0.size:Int))∧(if false=true then if(s0.size:Int)<100 then 100 else(s0.size:Int)else if 100<(s0.size:Int)then 100 else(s0.size:Int))<=(s0.size:Int):=by
  simp only[Bool.false_eq_true,if_false];split<;>omega
 have hXs:X.size<=1048576:=by rw[hX,ByteArray.size_extract];omega
 have h1:=aqn X (by omega);have h2:=as1 X (by omega);have h3:=apS 0 X;have h4:=path_new (pe:=peV) amd X;obtain⟨sim,hP,hl,hi⟩:=as0 X;have h5:=as2 0 (newM X) (by omega) hP;have h6:=aqW (pe:=peV) apB (newM X) hl hi hP;obtain⟨v1,v2⟩:=arO sim hP;obtain⟨p1,p2⟩:=aqT (pe:=peV) sim hP hi;have hle:=value_le X;have h7:=ana (valF (newS X)).2;have h8:=ana (abf peV (newS X)).2;have h9:=aoY (mval (newM X)).2;have h10:=aoY (aoA peV (newM X)).2;rw[v1.place]at h9;rw[p1.place]at h10;have hk:=akX;clear v1 p1 hP hl hi sim;generalize (valF (newS X)).1=V1 at*;generalize (valF (newS X)).2=N1 at*;generalize (abf peV (newS X)).1=P1 at*;generalize (abf peV (newS X)).2=N2 at*;generalize (mval (newM X)).1=W at*;generalize (mval (newM X)).2=M1 at*;generalize (aoA peV (newM X)).1=Q at*;generalize (aoA peV (newM X)).2=M2 at*;generalize newS X=N at*;generalize newM X=M at*;dsimp only at h9 h10;by_cases c:N1.e=0
 ·obtain rfl:=v2 c;have h11:=aq9 0 V1 hle
  (apply Af.of tF mF [.tmp 2] kp10 [(2,[(1,.ptr 19 0,[(19,boxS fun _=>N)]),(3,.ptr 19 0,[(19,boxS fun _=>N)])]),(3,[(1,encV 1 .any fun _=>V1,zS N1),(3,zR P1,zS N2)]),(4,[(1,.tup [.int .i64 fun _=>N1.line,.int .i64 fun _=>N1.col,.int .i64 fun _=>N1.e],zS N1)]),(5,[(1,.tup [.int .i64 fun _=>N2.line,.int .i64 fun _=>N2.col,.int .i64 fun _=>N2.e],zS N2)]),(6,[(0,zO true,[])]),(8,[(1,.ptr 19 0,[(19,boxM M)])]),(9,[(1,encV 1 .any fun _=>V1,zM M1)]),(10,[(1,.ptr 19 0,[(19,boxM M)])]),(11,[(1,zR Q,zM M2)]),(12,[(1,.tup [.int .i64 fun _=>N1.line,.int .i64 fun _=>N1.col,.int .i64 fun _=>N1.e],zM M1)]),(13,[(18,.nil,[]),(21,.nil,[]),(23,zO true,[])]),(15,[(1,.tup [.int .i64 fun _=>N2.line,.int .i64 fun _=>N2.col,.int .i64 fun _=>N2.e],zM M2)])] Tryz.func10 (fun _=>?_);(repeat' with_reducible first|exact nY|refine oC ?_ ?_|refine vQ ?_ ?_ ?_|refine cV (fun _=>?_) fun _=>?_|refine wQ ?_|fail))
  all_goals(try simp only[<- hX])
  all_goals(try exact zB)
  (any_goals((with_reducible refine bZ ?_);(try dsimp only);(have q:=h11;refine Af.wN q ?_;clear q);(focus(refine aQ ?_;repeat' first|with_reducible apply And.intro|exact wZ|fail))))
  all_goals(try(intro (i:Nat) (hi:i<1);(have h0:i=0:=by omega);subst h0;exact LeL.of_eq rfl))
  all_goals(try(intro c hc;simp only[List.mem_singleton]at hc;subst hc;exact⟨Int.le_refl _,hE.1,hE.2⟩))
  (all_goals try first|exact eZ|with_reducible (refine rQ ?_;repeat' first|apply And.intro|exact wZ)|(refine sQ ?_;repeat' first|with_reducible apply And.intro|exact cZ))
  all_goals(try(exact absurd ‹((¬True∨¬True)∨¬True)∨N1.e=0∧False› (by simp)))
  all_goals(try(by_cases z:N2.e=0<;>simp[z,p2]))
 ·clear v2 hle
  (apply Af.of tF mF [.tmp 2] kp10 [(2,[(1,.ptr 19 0,[(19,boxS fun _=>N)]),(3,.ptr 19 0,[(19,boxS fun _=>N)])]),(3,[(1,encV 1 .any fun _=>V1,zS N1),(3,zR P1,zS N2)]),(4,[(1,.tup [.int .i64 fun _=>N1.line,.int .i64 fun _=>N1.col,.int .i64 fun _=>N1.e],zS N1)]),(5,[(1,.tup [.int .i64 fun _=>N2.line,.int .i64 fun _=>N2.col,.int .i64 fun _=>N2.e],zS N2)]),(6,[(0,zO true,[])]),(8,[(1,.ptr 19 0,[(19,boxM M)])]),(9,[(1,encV 1 .any fun _=>W,zM M1)]),(10,[(1,.ptr 19 0,[(19,boxM M)])]),(11,[(1,zR Q,zM M2)]),(12,[(1,.tup [.int .i64 fun _=>N1.line,.int .i64 fun _=>N1.col,.int .i64 fun _=>N1.e],zM M1)]),(13,[(18,.nil,[]),(21,.nil,[]),(23,zO true,[])]),(15,[(1,.tup [.int .i64 fun _=>N2.line,.int .i64 fun _=>N2.col,.int .i64 fun _=>N2.e],zM M2)])] Tryz.func10 (fun _=>?_);(repeat' with_reducible first|exact nY|refine oC ?_ ?_|refine vQ ?_ ?_ ?_|refine cV (fun _=>?_) fun _=>?_|refine wQ ?_|fail))
  all_goals(try simp only[<- hX])
  all_goals(try exact zB)
  any_goals(refine sO (fun hg=>?_);exact absurd hg (by simp[c]))
  all_goals(try(intro c hc;simp only[List.mem_singleton]at hc;subst hc;exact⟨Int.le_refl _,hE.1,hE.2⟩))
  (all_goals try first|exact eZ|with_reducible (refine rQ ?_;repeat' first|apply And.intro|exact wZ)|(refine sQ ?_;repeat' first|with_reducible apply And.intro|exact cZ))
  all_goals(try(exact absurd ‹((¬True∨¬True)∨¬True)∨N1.e=0∧False› (by simp)))
  all_goals(try(by_cases z:N2.e=0<;>simp[z,p2]))
end Go.Ai

namespace Go.Proofs.YtbagpkiomjlhkaaGreatDoor
open Go Go.Ai Go.RowKit Go.ChangeShapes Go.WideShapes Go.ChangeAt
set_option maxRecDepth 100000
set_option maxHeartbeats 4000000
def aoT(H:Type)(enc:TypeId×Value->H)(W:World)(base:Nat)(args:Array Value)(ds gs:List (DataW H))(before:List MemPlace)
 (hval:∀(j:Nat) t v,Tryz.f10.params[j]? = some t->args[j]? = some v->Value.okWide Tryz.prog W .any base t v)
 (hW:DataW.Whole enc Tryz.prog Tryz.f10.params.toList Rows.formulaValuesSpec.vars false W args.toList ds gs before) (hk:Rows.uptoSmall H (ds++gs)=true) (hL:laidMetH Tryz.prog Rows.formulaValuesUptoRow.laid W) (hS:W.ShapedOpen Tryz.prog):
 Calls Tryz.prog 10 args W fun e W'=>∃v,e=.returned v∧Rows.formulaValuesSpec.post enc Tryz.prog Tryz.f10 false true false false W args v W':=by
 have hW':=hW;obtain⟨p,q,hA,hV,rfl,_,_⟩:=hW;obtain rfl:=arn hV;rw[Tryz.params10]at hA hval;obtain⟨v0,vs0,d0,ds0,pa0,pb0,hargs,rfl,rfl,t0,r0⟩:=trodAll_cons hA;obtain⟨rfl,rfl,rfl⟩:=trodAll_nil r0;obtain rfl:args=#[v0]:=by cases args;simp_all
 have hb:Rows.uptoBulkAll ([d0]++[])<=1048576:=of_decide_eq_true hk;simp only[List.append_nil,Rows.uptoBulkAll]at hb;obtain⟨x0,rfl,rfl,_,_⟩:=Go.ChangeMaps.open_string Tryz.underlying9 (hval 0 9 v0 rfl rfl) t0;have h0:x0.size<=1048576:=by simp only[Rows.uptoBulk,aeN]at hb;omega
 have a0:RD W (fun b=>b<W.heap.size) W.heap.size (.str fun _=>x0) (.string x0):=.str _;refine(anp (law_val x0 (by omega)) rfl (arP hL hS) fun i av hi=>?_).mono fun e W' ⟨he,hbel⟩=>⟨_,he,?_⟩
 ·match i with
  | 0=>simp only[List.getElem?_cons_zero,Option.some.injEq]at hi;subst hi;exact a0
  | i+1=>simp at hi
 ·refine ars (s:=Rows.formulaValuesSpec) rfl (by kernel_rfl) rfl ?_ hW' hbel;rw[Tryz.params10];intro t ht;obtain rfl:t=9:=by simpa using ht
  exact⟨by kernel_rfl,of_decide_eq_true (by kernel_rfl)⟩
def apQ(os:Os){H:Type}(enc:TypeId×Value->H):∃places,DataW.whole enc Tryz.prog ((lW os).forCall (fun _ _=>0) ⟨#[],#[.string ⟨#[]⟩],[]⟩).memory Tryz.f10.params.toList Rows.formulaValuesSpec.vars false (#[.string ⟨#[]⟩]:Array Value).toList 8=some ([.lit (.string [])],[],places):=
 ⟨[],by kernel_rfl⟩
def vls_laid(os:Os):laidMet Tryz.prog Rows.formulaValuesUptoRow.laid ((lW os).forCall (fun _ _=>0) ⟨#[],#[.string ⟨#[]⟩],[]⟩).memory:=
 akU os _
def apx(os:Os)(started:os.Started)(H:Type)(enc:TypeId×Value->H)(F:Stop.Interp):
 ReturnsInHanded {} Tryz.checked os 10 .any ((Rows.OpenSpec.upto Rows.formulaValuesSpec).preRow enc Tryz.prog Tryz.f10 Rows.formulaValuesUptoRow.domain false Rows.formulaValuesUptoRow.laid) (((Rows.OpenSpec.upto Rows.formulaValuesSpec).at F).post enc Tryz.prog Tryz.f10 false true false false):=by
 obtain⟨places,hx⟩:=apQ os enc;refine returnsInHanded_of_row (C:=Tryz.checked) (s:=Rows.OpenSpec.upto Rows.formulaValuesSpec) own4 started (by kernel_rfl) Tryz.func10
  (witness_row_at (enc:=enc) (C:=Tryz.checked) false (lW os) #[.string ⟨#[]⟩] rfl (by kernel_rfl) (by kernel_rfl) (by kernel_rfl)
    (OpenSpec.preRow_of_cond 8 hx (by kernel_rfl) (fun k hk=>by cases hk;kernel_rfl) (by kernel_rfl) (vls_laid os))) ?_
 intro W base args ds gs before hval hW _ hcond _ hL hS _;exact aoT H enc W base args ds gs before hval hW (hcond _ rfl) hL hS
def apy:joinedFacts Tryz.pinned.checked.prog 10 Tryz.f10 (Rows.OpenSpec.upto Rows.formulaValuesSpec).bare Rows.formulaValuesUptoRow=true:=by
 unfold joinedFacts;simp only[Bool.and_eq_true]
 repeat'(with_reducible apply And.intro)
 all_goals(as_aux_lemma=>kernel_rfl)
def vls_said:Rows.FormulaValuesUptoSaid:=
 OpenClaim.holds_of_cond 10 Tryz.f10 rfl rfl rfl rfl rfl rfl rfl ⟨rfl,rfl,rfl,rfl,rfl⟩ rfl rfl rfl rfl rfl (by kernel_rfl) Tryz.func10 apy
  (of_decide_eq_true (by kernel_rfl)) (by unfold Func.isWrapper;first|(rw[if_pos (by decide +kernel)];kernel_rfl)|(rw[if_neg (by decide +kernel)];exact⟨rfl,rfl⟩))
  (fun os started H enc _ F=>by rw[OpenClaim.pre_eq_preRow];exact apx os started H enc F)
def apR(f:FuncId)(fn:Func)(hf:Tryz.pinned.checked.prog.funcNamed Rows.formulaValuesUptoRow.func=some f)(hfn:Tryz.pinned.checked.prog.funcs[f]? = some fn):
 true=Tryz.pinned.checked.prog.looks []∧∀(j:Nat) t,fn.params[j]? = some t->Tryz.pinned.checked.prog.wantsStandIn t=false:=by
 obtain rfl:f=10:=Option.some.inj ((show Tryz.prog.funcNamed Rows.formulaValuesUptoRow.func=some 10 by kernel_rfl).symm.trans hf) |>.symm;obtain rfl:fn=Tryz.f10:=(Option.some.inj (Tryz.func10.symm.trans hfn)).symm;refine⟨by kernel_rfl,fun j t ht=>?_⟩;rw[Tryz.params10]at ht;have hm:=Array.mem_of_getElem? ht;obtain rfl:t=9:=by simpa using hm
 exact(show Tryz.prog.wantsStandIn 9=false by kernel_rfl)
theorem formulaValues_holds:Rows.FormulaValuesUptoCardSaid:=
 Claim7.holds_tied_plain_at .later [] _ _ _ _ vls_said (fun _ h=>by cases h) (by kernel_rfl) (fun _ h=>by cases h) formulaValuesUpto_row_tie rfl ⟨rfl,rfl⟩ (by kernel_rfl) rfl apR (by kernel_rfl)
#print axioms formulaValues_holds
end Go.Proofs.YtbagpkiomjlhkaaGreatDoor
