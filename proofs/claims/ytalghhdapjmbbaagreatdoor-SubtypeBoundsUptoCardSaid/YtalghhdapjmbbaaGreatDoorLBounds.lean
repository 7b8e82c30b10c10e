/- SubtypeBounds. -/
import Derived.Test.YtalghhdapjmbbaaGreatDoorSubL
import Derived.Test.YtalghhdapjmbbaaGreatDoorSubB
import Derived.Test.YtalghhdapjmbbaaGreatDoorReadT
import Derived.Test.YtalghhdapjmbbaaGreatDoorOpenN
set_option linter.all false
namespace Go.Ai
open Go Go.Proofs
set_option maxRecDepth 100000
set_option maxHeartbeats 4000000
theorem chk2_two (e d:Nat) (a b x y:Int):chk2 (e+1) (d+1) (numT a b) (numT x y)=0∨chk2 (e+1) (d+1) (numT a b) (numT x y)=2:=by
  have h:chkT (e+1) (d+1) (numT a b)=0∨chkT (e+1) (d+1) (numT a b)=2:=by
    rw [chkT_num];split
    · exact .inl rfl
    · exact .inr rfl
  have k:chkT (e+1) (d+1) (numT x y)=0∨chkT (e+1) (d+1) (numT x y)=2:=by
    rw [chkT_num];split
    · exact .inl rfl
    · exact .inr rfl
  unfold chk2
  split<;>omega
theorem wit_num (a b x y:Int) (z:chk2 1 1 (numT a b) (numT x y)=0):witE 1 1 1 (numT a b) (numT x y) (numW (numT a b) (numT x y)) true=if x≤a∧b≤y then (default,8) else (numV (if a<x then a else b),0):=by
  unfold witE
  rw [if_neg (by omega),within_num,bnd_num]
  by_cases h:x≤a∧b≤y
  · rw [if_pos h,if_pos (decide_eq_true h)]
  · rw [if_neg h,if_neg (by simpa using h),if_neg (by simp),if_neg (by rw [show cntV 1 (numW (numT a b) (numT x y)) 0=1 from rfl];omega)]
    rfl
theorem LBounds_bad (a b x y:Int) (z:chk2 1 1 (numT a b) (numT x y)≠0) :
    Af Tryz.prog 7 [.agg [.int .i64 fun _=>a,.int .i64 fun _=>b],.agg [.int .i64 fun _=>x,.int .i64 fun _=>y]] [] (.bool fun _=>true) []:=by
  have z2:chk2 1 1 (numT a b) (numT x y)=2:=(chk2_two 0 0 a b x y).resolve_left z
  have w1:=Within_ok 0 1 (numT a b) (numT x y) (by omega) (numT_le _ _ _ _) (numT_le _ _ _ _)
  have w3:=Witness_of 0 1 1 (numT a b) (numT x y) (numW (numT a b) (numT x y)) true (by omega) (numT_le _ _ _ _) (numT_le _ _ _ _) (by exact numV_le 0 _) fun _ _=>witness2_ok 1 1 0 _ _ rfl rfl
  have hw3:witE 1 1 1 (numT a b) (numT x y) (numW (numT a b) (numT x y)) true=(default,2):=by
    unfold witE;rw [if_pos z,z2]
  have w4:=wrongC_ok 0 1 (numT a b) (numT x y) (by omega) (numT_le _ _ _ _) (numT_le _ _ _ _) (sz_mk _ _ _ _ _ _ _ _ fun _ h=>by cases h) (sz_mk _ _ _ _ _ _ _ _ fun _ h=>by cases h)
  rw [hw3] at w3
  rw [z2] at w1 w4
  (apply Af.of tF mF [.tmp 4] kp7 [(1,[(4,encT 1 1 .any fun _=>numT a b,[]),(9,encT 1 1 .any fun _=>numT x y,[])]),(2,[(2,.tup [.bool fun _=>false,.int .i64 fun _=>2],[])]),(3,[(2,.tup [encV 1 .any fun _=>default,.int .i64 fun _=>2],[])]),
    (4,[(0,.bool fun _=>true,[])]),(6,[(2,.int .i64 fun _=>2,[])])] Tryz.func7 (fun _=>?_);(any_goals ((with_reducible refine wI ?_);cbv;(try dsimp only [nc] at *);(repeat' (with_reducible first|exact aO|exact oN|refine oC ?_ ?_|refine VC.mk rfl ?_ ?_ ?_|(apply Ca.mk<;>intro _)|(apply Cv.mk<;>intro zq<;>(try simp only [nc,cl] at zq)<;>(try simp only [bl,dl] at zq)<;>(revert zq;intro _))|((first|apply xE|apply uE);cbv;(try dsimp only [nc] at *)))))))
  any_goals (refine nO ?_;first|exact number_ok 1 0 _ _|exact w1|exact w3|exact w4|exact known_ok)
  ((all_goals (try (with_reducible ((first|refine rE ?_|refine nE ?_);(focus (cbv;(try dsimp only [nc] at *);(try simp only [wl,nc]);(repeat' (with_reducible apply And.intro));all_goals (try exact wZ)))))));(all_goals (try ((with_reducible rw [aC]);(try simp only [wl,nc]);(repeat' (with_reducible apply And.intro));(all_goals (try exact cZ))))))
theorem LBounds_good (a b x y:Int) (z:chk2 1 1 (numT a b) (numT x y)=0) :
    Af Tryz.prog 7 [.agg [.int .i64 fun _=>a,.int .i64 fun _=>b],.agg [.int .i64 fun _=>x,.int .i64 fun _=>y]] [] (.bool fun _=>true) []:=by
  have w1:=Within_ok 0 1 (numT a b) (numT x y) (by omega) (numT_le _ _ _ _) (numT_le _ _ _ _)
  have w3:=Witness_of 0 1 1 (numT a b) (numT x y) (numW (numT a b) (numT x y)) true (by omega) (numT_le _ _ _ _) (numT_le _ _ _ _) (by exact numV_le 0 _) fun _ _=>witness2_ok 1 1 0 _ _ rfl rfl
  have w4:=wrongC_ok 0 1 (numT a b) (numT x y) (by omega) (numT_le _ _ _ _) (numT_le _ _ _ _) (sz_mk _ _ _ _ _ _ _ _ fun _ h=>by cases h) (sz_mk _ _ _ _ _ _ _ _ fun _ h=>by cases h)
  rw [wit_num a b x y z] at w3
  rw [z,within_num,bnd_num,show (decide ((0:Int)=0) && decide (x≤a∧b≤y))=decide (x≤a∧b≤y) from by simp] at w1
  rw [z] at w4
  by_cases h:x≤a∧b≤y
  · rw [if_pos h] at w3
    rw [decide_eq_true h] at w1
    have hd:(decide (x≤a) && decide (b≤y))=true:=by simp [h.1,h.2]
    (apply Af.of tF mF [.tmp 4] kp7 [(1,[(4,encT 1 1 .any fun _=>numT a b,[]),(9,encT 1 1 .any fun _=>numT x y,[])]),(2,[(2,.tup [.bool fun _=>true,.int .i64 fun _=>0],[])]),(3,[(2,.tup [encV 1 .any fun _=>default,.int .i64 fun _=>8],[])]),
      (4,[(0,.bool fun _=>true,[])]),(6,[(2,.int .i64 fun _=>0,[])])] Tryz.func7 (fun _=>?_);(any_goals ((with_reducible refine wI ?_);cbv;(try dsimp only [nc] at *);(repeat' (with_reducible first|exact aO|exact oN|refine oC ?_ ?_|refine VC.mk rfl ?_ ?_ ?_|(apply Ca.mk<;>intro _)|(apply Cv.mk<;>intro zq<;>(try simp only [nc,cl] at zq)<;>(try simp only [bl,dl] at zq)<;>(revert zq;intro _))|((first|apply xE|apply uE);cbv;(try dsimp only [nc] at *)))))))
    any_goals (refine nO ?_;first|exact number_ok 1 0 _ _|exact w1|exact w3|exact w4|exact known_ok)
    ((all_goals (try (with_reducible ((first|refine rE ?_|refine nE ?_);(focus (cbv;(try dsimp only [nc] at *);(try simp only [wl,nc]);(repeat' (with_reducible apply And.intro));all_goals (try exact wZ)))))));(all_goals (try ((with_reducible rw [aC]);(try simp only [wl,nc]);(repeat' (with_reducible apply And.intro));(all_goals (try exact cZ))))))
    all_goals (try simp only [hd] at *)
    all_goals (try (exact fun _=>rfl))
    all_goals (try (exact absurd trivial (or_self_iff.1 ‹¬True∨¬True›)))
    simp
  · rw [if_neg h] at w3
    rw [decide_eq_false h] at w1
    have hd:(decide (x≤a) && decide (b≤y))=false:=by
      by_cases p:x≤a<;>by_cases q:b≤y<;>simp [p,q]
      exact h ⟨p,q⟩
    obtain ⟨v,hv⟩:∃ v,v=if a<x then a else b:=⟨_,rfl⟩
    rw [← hv] at w3
    (apply Af.of tF mF [.tmp 4] kp7 [(1,[(4,encT 1 1 .any fun _=>numT a b,[]),(9,encT 1 1 .any fun _=>numT x y,[])]),(2,[(2,.tup [.bool fun _=>false,.int .i64 fun _=>0],[])]),(3,[(2,.tup [encV 1 .any fun _=>numV v,.int .i64 fun _=>0],[])]),
      (4,[(0,.bool fun _=>true,[])]),(6,[(2,.int .i64 fun _=>0,[])])] Tryz.func7 (fun _=>?_);(any_goals ((with_reducible refine wI ?_);cbv;(try dsimp only [nc] at *);(repeat' (with_reducible first|exact aO|exact oN|refine oC ?_ ?_|refine VC.mk rfl ?_ ?_ ?_|(apply Ca.mk<;>intro _)|(apply Cv.mk<;>intro zq<;>(try simp only [nc,cl] at zq)<;>(try simp only [bl,dl] at zq)<;>(revert zq;intro _))|((first|apply xE|apply uE);cbv;(try dsimp only [nc] at *)))))))
    any_goals (refine nO ?_;first|exact number_ok 1 0 _ _|exact w1|exact w3|exact w4|exact known_ok)
    ((all_goals (try (with_reducible ((first|refine rE ?_|refine nE ?_);(focus (cbv;(try dsimp only [nc] at *);(try simp only [wl,nc]);(repeat' (with_reducible apply And.intro));all_goals (try exact wZ)))))));(all_goals (try ((with_reducible rw [aC]);(try simp only [wl,nc]);(repeat' (with_reducible apply And.intro));(all_goals (try exact cZ))))))
    all_goals (try simp only [hd] at *)
    all_goals (try (exact fun _=>rfl))
    all_goals (try (exact absurd trivial (or_self_iff.1 ‹¬True∨¬True›)))
    rw [show (numV v).int=v from rfl]
    by_cases q:a<x
    · rw [if_pos q] at hv
      simp [hv,q]
    · rw [if_neg q] at hv
      simp [hv,show y<b by omega]
theorem LBounds_ok (a b x y:Int):Af Tryz.prog 7 [.agg [.int .i64 fun _=>a,.int .i64 fun _=>b],.agg [.int .i64 fun _=>x,.int .i64 fun _=>y]] [] (.bool fun _=>true) []:=by
  by_cases z:chk2 1 1 (numT a b) (numT x y)=0
  · exact LBounds_good a b x y z
  · exact LBounds_bad a b x y z
end Go.Ai

namespace Go.Proofs.YtalghhdapjmbbaaGreatDoor
open Go Go.Ai Go.RowKit Go.ChangeShapes Go.WideShapes Go.ChangeAt
set_option maxRecDepth 100000
theorem bous_contract (H:Type) (enc:TypeId×Value→H) (W:World) (base:Nat) (args:Array Value) (ds gs:List (DataW H)) (before:List MemPlace)
    (hval:∀ (j:Nat) t v,Tryz.f7.params[j]? = some t→args[j]? = some v→Value.okWide Tryz.prog W .any base t v)
    (hW:DataW.Whole enc Tryz.prog Tryz.f7.params.toList Rows.subtypeBoundsSpec.vars false W args.toList ds gs before) (hk:Rows.uptoSmall H (ds++gs)=true) (hL:laidMetH Tryz.prog Rows.subtypeBoundsUptoRow.laid W) :
    Calls Tryz.prog 7 args W fun e W'=>∃ v,e=.returned v∧Rows.subtypeBoundsSpec.post enc Tryz.prog Tryz.f7 false true false false W args v W':=by
  have hW':=hW
  obtain ⟨p,q,hA,hV,rfl,_,_⟩:=hW
  obtain rfl:=vars_nil hV
  rw [Tryz.params7] at hA hval
  obtain ⟨v0,vs0,d0,ds0,pa0,pb0,hargs,rfl,rfl,t0,r0⟩:=trodAll_cons hA
  obtain ⟨v1,vs1,d1,ds1,pa1,pb1,rfl,rfl,rfl,t1,r1⟩:=trodAll_cons r0
  obtain ⟨rfl,rfl,rfl⟩:=trodAll_nil r1
  obtain rfl:args=#[v0,v1]:=by cases args;simp_all
  have hb:Rows.uptoBulkAll ([d0,d1]++[])≤1048576:=of_decide_eq_true hk
  simp only [List.append_nil,Rows.uptoBulkAll] at hb
  obtain ⟨x0,y0,a0⟩:=open_pair t0
  obtain ⟨x1,y1,a1⟩:=open_pair t1
  refine (calls_law (LBounds_ok x0 y0 x1 y1) rfl (tabs_of hL) fun i av hi=>?_).mono fun e W' ⟨he,hbel⟩=>⟨_,he,?_⟩
  · match i with
    | 0=>simp only [List.getElem?_cons_zero,Option.some.injEq] at hi;subst hi;exact a0
    | 1=>simp only [List.getElem?_cons_zero,List.getElem?_cons_succ,Option.some.injEq] at hi;subst hi;exact a1
    | i+2=>simp at hi
  · refine post_law (s:=Rows.subtypeBoundsSpec) rfl (by kernel_rfl) rfl ?_ hW' hbel
    rw [Tryz.params7]
    intro t ht
    obtain rfl:t=43:=by simpa using ht
    exact ⟨by kernel_rfl,of_decide_eq_true (by kernel_rfl)⟩
theorem bous_reads (os:Os) {H:Type} (enc:TypeId×Value→H):∃ places,DataW.whole enc Tryz.prog ((lW os).forCall (fun _ _=>0) ⟨#[],#[.agg #[.int .i64 0,.int .i64 0],.agg #[.int .i64 0,.int .i64 0]],[]⟩).memory Tryz.f7.params.toList Rows.subtypeBoundsSpec.vars false (#[.agg #[.int .i64 0,.int .i64 0],.agg #[.int .i64 0,.int .i64 0]]:Array Value).toList 8=some ([.agg [.lit (.int .i64 0),.lit (.int .i64 0)],.agg [.lit (.int .i64 0),.lit (.int .i64 0)]],[],places) :=
  ⟨[],by kernel_rfl⟩
theorem bous_laid (os:Os):laidMet Tryz.prog Rows.subtypeBoundsUptoRow.laid ((lW os).forCall (fun _ _=>0) ⟨#[],#[.agg #[.int .i64 0,.int .i64 0],.agg #[.int .i64 0,.int .i64 0]],[]⟩).memory :=
  laidMet_of_run' 8 (by kernel_rfl) (by kernel_rfl)
theorem bous_lifted (os:Os) (started:os.Started) (H:Type) (enc:TypeId×Value→H) (F:Stop.Interp) :
    ReturnsInHanded {} Tryz.checked os 7 .any ((Rows.OpenSpec.upto Rows.subtypeBoundsSpec).preRow enc Tryz.prog Tryz.f7 Rows.subtypeBoundsUptoRow.domain false Rows.subtypeBoundsUptoRow.laid) (((Rows.OpenSpec.upto Rows.subtypeBoundsSpec).at F).post enc Tryz.prog Tryz.f7 false true false false):=by
  obtain ⟨places,hx⟩:=bous_reads os enc
  refine returnsInHanded_of_row (C:=Tryz.checked) (s:=Rows.OpenSpec.upto Rows.subtypeBoundsSpec) own4 started (by kernel_rfl) Tryz.func7
    (witness_row_at (enc:=enc) (C:=Tryz.checked) false (lW os) #[.agg #[.int .i64 0,.int .i64 0],.agg #[.int .i64 0,.int .i64 0]] rfl (by kernel_rfl) (by kernel_rfl) (by kernel_rfl)
      (OpenSpec.preRow_of_cond 8 hx (by kernel_rfl) (fun k hk=>by cases hk;kernel_rfl) (by kernel_rfl) (bous_laid os))) ?_
  intro W base args ds gs before hval hW _ hcond _ hL _ _
  exact bous_contract H enc W base args ds gs before hval hW (hcond _ rfl) hL
theorem bous_said:Rows.SubtypeBoundsUptoSaid :=
  OpenClaim.holds_of_cond 7 Tryz.f7 rfl rfl rfl rfl rfl rfl rfl ⟨rfl,rfl,rfl,rfl,rfl⟩ rfl rfl rfl rfl rfl (by kernel_rfl) Tryz.func7 (by kernel_rfl)
    (of_decide_eq_true (by kernel_rfl)) (by unfold Func.isWrapper;first|(rw [if_pos (by decide +kernel)];kernel_rfl)|(rw [if_neg (by decide +kernel)];exact ⟨rfl,rfl⟩))
    (fun os started H enc _ F=>by rw [OpenClaim.pre_eq_preRow];exact bous_lifted os started H enc F)
theorem bous_plain (f:FuncId) (fn:Func) (hf:Tryz.pinned.checked.prog.funcNamed Rows.subtypeBoundsUptoRow.func=some f) (hfn:Tryz.pinned.checked.prog.funcs[f]? = some fn) :
    false=Tryz.pinned.checked.prog.looks []∧∀ (j:Nat) t,fn.params[j]? = some t→Tryz.pinned.checked.prog.wantsStandIn t=false:=by
  obtain rfl:f=7:=Option.some.inj ((show Tryz.prog.funcNamed Rows.subtypeBoundsUptoRow.func=some 7 by kernel_rfl).symm.trans hf) |>.symm
  obtain rfl:fn=Tryz.f7:=(Option.some.inj (Tryz.func7.symm.trans hfn)).symm
  refine ⟨by kernel_rfl,fun j t ht=>?_⟩
  rw [Tryz.params7] at ht
  have hm:=Array.mem_of_getElem? ht
  obtain rfl:t=43:=by simpa using hm
  exact (show Tryz.prog.wantsStandIn 43=false by kernel_rfl)
theorem subtypeBounds_holds:Rows.SubtypeBoundsUptoCardSaid :=
  Claim7.holds_tied_plain_at .later [] _ _ _ _ bous_said (fun _ h=>by cases h) (by kernel_rfl) (fun _ h=>by cases h) subtypeBoundsUpto_row_tie rfl ⟨rfl,rfl⟩ (by kernel_rfl) rfl bous_plain (by kernel_rfl)
#print axioms subtypeBounds_holds
end Go.Proofs.YtalghhdapjmbbaaGreatDoor
