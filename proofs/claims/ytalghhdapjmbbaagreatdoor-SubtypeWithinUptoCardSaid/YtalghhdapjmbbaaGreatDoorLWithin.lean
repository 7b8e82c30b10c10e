/- SubtypeWithin. -/
import Derived.Test.YtalghhdapjmbbaaGreatDoorSubL
import Derived.Test.YtalghhdapjmbbaaGreatDoorSubF
import Derived.Test.YtalghhdapjmbbaaGreatDoorReadT
set_option linter.all false
namespace Go.Ai
open Go Go.Proofs
set_option maxRecDepth 100000
set_option maxHeartbeats 4000000
theorem LWithin_ok (e d:Nat) (s t:Ty) (he:e+1≤1073741824) (hs:Ty.le (e+1) d s) (ht:Ty.le (e+1) d t) (zs:Ty.sz (e+1) d s) (zt:Ty.sz (e+1) d t) :
    Af Tryz.prog 8 [encT (e+1) d .any fun _=>s,encT (e+1) d .any fun _=>t] [] (.bool fun _=>true) []:=by
  have h1:=Within_ok e d s t he hs ht
  have h2:=Same_ok e d s t he hs ht
  have h3:=wrongC_ok e d s t he hs ht zs zt
  have h4:=fun z:chk2 (e+1) d s t=0=>refWithin_ok (e+1) d s t hs ht (chkT_ok hs (chk2_zero.1 z).1) (chkT_ok ht (chk2_zero.1 z).2)
  have h5:=fun z:chk2 (e+1) d s t=0=>refWithin_ok (e+1) d t s ht hs (chkT_ok ht (chk2_zero.1 z).2) (chkT_ok hs (chk2_zero.1 z).1)
  generalize chk2 (e+1) d s t=K at h1 h2 h3 h4 h5
  generalize withinB d s t=a at h1 h2 h4
  generalize withinB d t s=b at h2 h5
  obtain ⟨d,rfl⟩:=Ty.lP hs
  (apply Af.of tF mF [.tmp 4] kp8 [(1,[(2,.tup [.bool fun _=>decide (K=0) && a,.int .i64 fun _=>K],[])]),(2,[(2,.tup [.bool fun _=>decide (K=0) && (a && b),.int .i64 fun _=>K],[])]),
    (3,[(0,.bool fun _=>true,[])]),(5,[(2,.int .i64 fun _=>K,[])]),(8,[(10,.bool fun _=>a,[]),(17,.bool fun _=>a,[]),(21,.bool fun _=>b,[])])] Tryz.func8 (fun _=>?_);(any_goals ((with_reducible refine wI ?_);cbv;(try dsimp only [nc] at *);(repeat' (with_reducible first|exact aO|exact oN|refine oC ?_ ?_|refine VC.mk rfl ?_ ?_ ?_|(apply Ca.mk<;>intro _)|(apply Cv.mk<;>intro zq<;>(try simp only [nc,cl] at zq)<;>(try simp only [bl,dl] at zq)<;>(revert zq;intro _))|((first|apply xE|apply uE);cbv;(try dsimp only [nc] at *)))))))
  (any_goals ((with_reducible refine bZ ?_);(try dsimp only);(have q:=h1;refine Af.wN q ?_;clear q);(focus (cbv;(try dsimp only [nc] at *);(try simp only [wl,nc]);(repeat' (with_reducible apply And.intro));all_goals (try exact wZ)))))
  (any_goals ((with_reducible refine bZ ?_);(try dsimp only);(have q:=h2;refine Af.wN q ?_;clear q);(focus (cbv;(try dsimp only [nc] at *);(try simp only [wl,nc]);(repeat' (with_reducible apply And.intro));all_goals (try exact wZ)))))
  (any_goals ((with_reducible refine bZ ?_);(try dsimp only);(have q:=h3;refine Af.wN q ?_;clear q);(focus (cbv;(try dsimp only [nc] at *);(try simp only [wl,nc]);(repeat' (with_reducible apply And.intro));all_goals (try exact wZ)))))
  any_goals (refine nO ?_;exact known_ok)
  any_goals ((with_reducible refine sO (fun _=>?_));first|exact h4 (by omega)|exact h5 (by omega))
  ((all_goals (try (with_reducible ((first|refine rE ?_|refine nE ?_);(focus (cbv;(try dsimp only [nc] at *);(try simp only [wl,nc]);(repeat' (with_reducible apply And.intro));all_goals (try exact wZ)))))));(all_goals (try ((with_reducible rw [aC]);(try simp only [wl,nc]);(repeat' (with_reducible apply And.intro));(all_goals (try exact cZ))))))
  · rw [decide_eq_false ‹¬K=0›];simp
  · intro p q;rw [p,q];rfl
  · rename_i h
    rw [h]
    cases a<;>cases b<;>simp
end Go.Ai

namespace Go.Proofs.YtalghhdapjmbbaaGreatDoor
open Go Go.Ai Go.RowKit Go.ChangeShapes Go.WideShapes Go.ChangeAt
set_option maxRecDepth 100000
theorem wits_contract (H:Type) (enc:TypeId×Value→H) (W:World) (base:Nat) (args:Array Value) (ds gs:List (DataW H)) (before:List MemPlace)
    (hval:∀ (j:Nat) t v,Tryz.f8.params[j]? = some t→args[j]? = some v→Value.okWide Tryz.prog W .any base t v)
    (hW:DataW.Whole enc Tryz.prog Tryz.f8.params.toList Rows.subtypeWithinSpec.vars false W args.toList ds gs before) (hk:Rows.uptoSmall H (ds++gs)=true) (hL:laidMetH Tryz.prog Rows.subtypeWithinUptoRow.laid W) :
    Calls Tryz.prog 8 args W fun e W'=>∃ v,e=.returned v∧Rows.subtypeWithinSpec.post enc Tryz.prog Tryz.f8 false true false false W args v W':=by
  have hW':=hW
  obtain ⟨p,q,hA,hV,rfl,_,_⟩:=hW
  obtain rfl:=vars_nil hV
  rw [Tryz.params8] at hA hval
  obtain ⟨v0,vs0,d0,ds0,pa0,pb0,hargs,rfl,rfl,t0,r0⟩:=trodAll_cons hA
  obtain ⟨v1,vs1,d1,ds1,pa1,pb1,rfl,rfl,rfl,t1,r1⟩:=trodAll_cons r0
  obtain ⟨rfl,rfl,rfl⟩:=trodAll_nil r1
  obtain rfl:args=#[v0,v1]:=by cases args;simp_all
  have hb:Rows.uptoBulkAll ([d0,d1]++[])≤1048576:=of_decide_eq_true hk
  simp only [List.append_nil,Rows.uptoBulkAll] at hb
  obtain ⟨x0,h0,z0,a0⟩:=open_type t0 (by omega)
  obtain ⟨x1,h1,z1,a1⟩:=open_type t1 (by omega)
  refine (calls_law (LWithin_ok 1048575 1048576 x0 x1 (by decide) h0 h1 z0 z1) rfl (tabs_of hL) fun i av hi=>?_).mono fun e W' ⟨he,hbel⟩=>⟨_,he,?_⟩
  · match i with
    | 0=>simp only [List.getElem?_cons_zero,Option.some.injEq] at hi;subst hi;exact a0
    | 1=>simp only [List.getElem?_cons_zero,List.getElem?_cons_succ,Option.some.injEq] at hi;subst hi;exact a1
    | i+2=>simp at hi
  · refine post_law (s:=Rows.subtypeWithinSpec) rfl (by kernel_rfl) rfl ?_ hW' hbel
    rw [Tryz.params8]
    intro t ht
    obtain rfl:t=26:=by simpa using ht
    exact ⟨by kernel_rfl,of_decide_eq_true (by kernel_rfl)⟩
theorem wits_reads (os:Os) {H:Type} (enc:TypeId×Value→H):∃ places,DataW.whole enc Tryz.prog ((lW os).forCall (fun _ _=>0) ⟨#[],#[.agg #[.int .i64 0,.int .i64 0,.int .i64 0,.int .i64 0,.slice none 0 0,.slice none 0 0,.slice none 0 0],.agg #[.int .i64 0,.int .i64 0,.int .i64 0,.int .i64 0,.slice none 0 0,.slice none 0 0,.slice none 0 0]],[]⟩).memory Tryz.f8.params.toList Rows.subtypeWithinSpec.vars false (#[.agg #[.int .i64 0,.int .i64 0,.int .i64 0,.int .i64 0,.slice none 0 0,.slice none 0 0,.slice none 0 0],.agg #[.int .i64 0,.int .i64 0,.int .i64 0,.int .i64 0,.slice none 0 0,.slice none 0 0,.slice none 0 0]]:Array Value).toList 8=some ([.agg [.lit (.int .i64 0),.lit (.int .i64 0),.lit (.int .i64 0),.lit (.int .i64 0),.nil,.nil,.nil],.agg [.lit (.int .i64 0),.lit (.int .i64 0),.lit (.int .i64 0),.lit (.int .i64 0),.nil,.nil,.nil]],[],places) :=
  ⟨[],by kernel_rfl⟩
theorem wits_laid (os:Os):laidMet Tryz.prog Rows.subtypeWithinUptoRow.laid ((lW os).forCall (fun _ _=>0) ⟨#[],#[.agg #[.int .i64 0,.int .i64 0,.int .i64 0,.int .i64 0,.slice none 0 0,.slice none 0 0,.slice none 0 0],.agg #[.int .i64 0,.int .i64 0,.int .i64 0,.int .i64 0,.slice none 0 0,.slice none 0 0,.slice none 0 0]],[]⟩).memory :=
  laidMet_of_run' 8 (by kernel_rfl) (by kernel_rfl)
theorem wits_lifted (os:Os) (started:os.Started) (H:Type) (enc:TypeId×Value→H) (F:Stop.Interp) :
    ReturnsInHanded {} Tryz.checked os 8 .any ((Rows.OpenSpec.upto Rows.subtypeWithinSpec).preRow enc Tryz.prog Tryz.f8 Rows.subtypeWithinUptoRow.domain false Rows.subtypeWithinUptoRow.laid) (((Rows.OpenSpec.upto Rows.subtypeWithinSpec).at F).post enc Tryz.prog Tryz.f8 false true false false):=by
  obtain ⟨places,hx⟩:=wits_reads os enc
  refine returnsInHanded_of_row (C:=Tryz.checked) (s:=Rows.OpenSpec.upto Rows.subtypeWithinSpec) own4 started (by kernel_rfl) Tryz.func8
    (witness_row_at (enc:=enc) (C:=Tryz.checked) false (lW os) #[.agg #[.int .i64 0,.int .i64 0,.int .i64 0,.int .i64 0,.slice none 0 0,.slice none 0 0,.slice none 0 0],.agg #[.int .i64 0,.int .i64 0,.int .i64 0,.int .i64 0,.slice none 0 0,.slice none 0 0,.slice none 0 0]] rfl (by kernel_rfl) (by kernel_rfl) (by kernel_rfl)
      (OpenSpec.preRow_of_cond 8 hx (by kernel_rfl) (fun k hk=>by cases hk;kernel_rfl) (by kernel_rfl) (wits_laid os))) ?_
  intro W base args ds gs before hval hW _ hcond _ hL _ _
  exact wits_contract H enc W base args ds gs before hval hW (hcond _ rfl) hL
theorem wits_said:Rows.SubtypeWithinUptoSaid :=
  OpenClaim.holds_of_cond 8 Tryz.f8 rfl rfl rfl rfl rfl rfl rfl ⟨rfl,rfl,rfl,rfl,rfl⟩ rfl rfl rfl rfl rfl (by kernel_rfl) Tryz.func8 (by kernel_rfl)
    (of_decide_eq_true (by kernel_rfl)) (by unfold Func.isWrapper;first|(rw [if_pos (by decide +kernel)];kernel_rfl)|(rw [if_neg (by decide +kernel)];exact ⟨rfl,rfl⟩))
    (fun os started H enc _ F=>by rw [OpenClaim.pre_eq_preRow];exact wits_lifted os started H enc F)
theorem wits_plain (f:FuncId) (fn:Func) (hf:Tryz.pinned.checked.prog.funcNamed Rows.subtypeWithinUptoRow.func=some f) (hfn:Tryz.pinned.checked.prog.funcs[f]? = some fn) :
    false=Tryz.pinned.checked.prog.looks []∧∀ (j:Nat) t,fn.params[j]? = some t→Tryz.pinned.checked.prog.wantsStandIn t=false:=by
  obtain rfl:f=8:=Option.some.inj ((show Tryz.prog.funcNamed Rows.subtypeWithinUptoRow.func=some 8 by kernel_rfl).symm.trans hf) |>.symm
  obtain rfl:fn=Tryz.f8:=(Option.some.inj (Tryz.func8.symm.trans hfn)).symm
  refine ⟨by kernel_rfl,fun j t ht=>?_⟩
  rw [Tryz.params8] at ht
  have hm:=Array.mem_of_getElem? ht
  obtain rfl:t=26:=by simpa using hm
  exact (show Tryz.prog.wantsStandIn 26=false by kernel_rfl)
theorem subtypeWithin_holds:Rows.SubtypeWithinUptoCardSaid :=
  Claim7.holds_tied_plain_at .later [] _ _ _ _ wits_said (fun _ h=>by cases h) (by kernel_rfl) (fun _ h=>by cases h) subtypeWithinUpto_row_tie rfl ⟨rfl,rfl⟩ (by kernel_rfl) rfl wits_plain (by kernel_rfl)
#print axioms subtypeWithin_holds
end Go.Proofs.YtalghhdapjmbbaaGreatDoor
