/- SubtypeDecides. -/
import Derived.Test.YtalghhdapjmbbaaGreatDoorWitF
import Derived.Test.YtalghhdapjmbbaaGreatDoorSubL
import Derived.Test.YtalghhdapjmbbaaGreatDoorReadT
set_option linter.all false
namespace Go.Ai
open Go Go.Proofs
set_option maxRecDepth 100000
set_option maxHeartbeats 4000000
theorem LDecides_ok (e d:Nat) (s t:Ty) (he:e+1≤1073741824) (hd:d+(e+1)≤1073741824) (hs:Ty.le (e+1) d s) (ht:Ty.le (e+1) d t) :
    Af Tryz.prog 3 [encT (e+1) d .any fun _=>s,encT (e+1) d .any fun _=>t] [] (.bool fun _=>true) []:=by
  have h1:=Within_ok e d s t he hs ht
  have hrefl:=fun z:chk2 (e+1) d s t=0=>withinB_refl (e+1) d s (chkT_ok hs (chk2_zero.1 z).1)
  obtain ⟨v,b,hv,hw⟩:∃ v b,V.le (d+(e+1)) v∧(chk2 (e+1) d s t=0→withinB d s t=false→Af Tryz.prog 23 [encT (e+1) d .any fun _=>s,encT (e+1) d .any fun _=>t] [] (.tup [encV (d+(e+1)) .any fun _=>v,.bool fun _=>b]) []):=by
    by_cases z:chk2 (e+1) d s t=0∧withinB d s t=false
    · obtain ⟨v,b,hv,hw⟩:=wit_ex e he d s t hd hs ht (chkT_ok hs (chk2_zero.1 z.1).1) (chkT_ok ht (chk2_zero.1 z.1).2) z.2
      exact ⟨v,b,hv,fun _ _=>hw⟩
    · exact ⟨default,true,by rw [show d+(e+1)=d+e+1 by omega];exact default_leV _,fun a b=>absurd ⟨a,b⟩ z⟩
  have h2:=Witness_of e d (d+(e+1)) s t v b he hs ht hv hw
  have h3:=refEqualT_ok (e+1) d s t hs ht
  have hX1:chk2 (e+1) d s t≠0→(witE (e+1) d (d+(e+1)) s t v b).2=chk2 (e+1) d s t:=fun q=>by unfold witE;rw [if_pos q]
  have hX2:chk2 (e+1) d s t=0→withinB d s t=true→(witE (e+1) d (d+(e+1)) s t v b).2=8:=fun q r=>by unfold witE;rw [if_neg (by omega),if_pos r]
  have hX3:chk2 (e+1) d s t=0→withinB d s t=false→(witE (e+1) d (d+(e+1)) s t v b).2≠8:=fun q r=>by
    unfold witE
    rw [if_neg (by omega),if_neg (by rw [r];simp)]
    split
    · simp
    split<;>simp
  have hE:s=t→chk2 (e+1) d s t=0→withinB d s t=true:=fun q z=>by
    subst q;exact hrefl z
  generalize (witE (e+1) d (d+(e+1)) s t v b).1=U at *
  generalize (witE (e+1) d (d+(e+1)) s t v b).2=X at *
  generalize chk2 (e+1) d s t=K at *
  generalize withinB d s t=a at *
  clear hw hrefl
  obtain ⟨q,hq⟩:∃ q:Bool,q=decide (s=t):=⟨_,rfl⟩
  rw [← hq] at h3
  have hE':q=true→K=0→a=true:=fun h=>hE (of_decide_eq_true (by rw [← hq];exact h))
  clear hE hq hv
  obtain ⟨c,hc⟩:∃ c,d+(e+1)=c:=⟨_,rfl⟩
  rw [hc] at h2
  obtain ⟨d,rfl⟩:=Ty.lP hs
  obtain ⟨c,rfl⟩:∃ k,c=k+1:=⟨c - 1,by omega⟩
  (apply Af.of tF mF [.tmp 4] kp3 [(1,[(2,.tup [.bool fun _=>decide (K=0) && a,.int .i64 fun _=>K],[])]),(2,[(2,.tup [encV (c+1) .any fun _=>U,.int .i64 fun _=>X],[])]),(3,[(0,.bool fun _=>true,[])]),(4,[(0,.bool fun _=>true,[])]),(5,[(9,.bool fun _=>q,[])])] Tryz.func3 (fun _=>?_);(any_goals ((with_reducible refine wI ?_);cbv;(try dsimp only [nc] at *);(repeat' (with_reducible first|exact aO|exact oN|refine oC ?_ ?_|refine VC.mk rfl ?_ ?_ ?_|(apply Ca.mk<;>intro _)|(apply Cv.mk<;>intro zq<;>(try simp only [nc,cl] at zq)<;>(try simp only [bl,dl] at zq)<;>(revert zq;intro _))|((first|apply xE|apply uE);cbv;(try dsimp only [nc] at *)))))))
  (any_goals ((with_reducible refine bZ ?_);(try dsimp only);(have q:=h1;refine Af.wN q ?_;clear q);(focus (cbv;(try dsimp only [nc] at *);(try simp only [wl,nc]);(repeat' (with_reducible apply And.intro));all_goals (try exact wZ)))))
  (any_goals ((with_reducible refine bZ ?_);(try dsimp only);(have q:=h2;refine Af.wN q ?_;clear q);(focus (cbv;(try dsimp only [nc] at *);(try simp only [wl,nc]);(repeat' (with_reducible apply And.intro));all_goals (try exact wZ)))))
  any_goals (refine nO ?_;exact known_ok)
  any_goals ((with_reducible refine sO (fun _=>?_));exact h3)
  ((all_goals (try (with_reducible ((first|refine rE ?_|refine nE ?_);(focus (cbv;(try dsimp only [nc] at *);(try simp only [wl,nc]);(repeat' (with_reducible apply And.intro));all_goals (try exact wZ)))))));(all_goals (try ((with_reducible rw [aC]);(try simp only [wl,nc]);(repeat' (with_reducible apply And.intro));(all_goals (try exact cZ))))))
  · exact fun _=>rfl
  · have z:=(‹False∨¬K=0›).resolve_left id
    rw [if_pos trivial,hX1 z];simp
  · have z:=‹True∧K=0›.2
    subst z
    cases a with
    | true=>rw [hX2 rfl rfl];simp
    | false =>
      have h8:=hX3 rfl rfl
      have hq:q=false:=by
        cases q with
        | false=>rfl
        | true=>exact absurd (hE' rfl rfl) (by simp)
      rw [hq];simp [h8]
end Go.Ai

namespace Go.Proofs.YtalghhdapjmbbaaGreatDoor
open Go Go.Ai Go.RowKit Go.ChangeShapes Go.WideShapes Go.ChangeAt
set_option maxRecDepth 100000
theorem dcds_contract (H:Type) (enc:TypeId×Value→H) (W:World) (base:Nat) (args:Array Value) (ds gs:List (DataW H)) (before:List MemPlace)
    (hval:∀ (j:Nat) t v,Tryz.f3.params[j]? = some t→args[j]? = some v→Value.okWide Tryz.prog W .any base t v)
    (hW:DataW.Whole enc Tryz.prog Tryz.f3.params.toList Rows.subtypeDecidesSpec.vars false W args.toList ds gs before) (hk:Rows.uptoSmall H (ds++gs)=true) (hL:laidMetH Tryz.prog Rows.subtypeDecidesUptoRow.laid W) :
    Calls Tryz.prog 3 args W fun e W'=>∃ v,e=.returned v∧Rows.subtypeDecidesSpec.post enc Tryz.prog Tryz.f3 false true false false W args v W':=by
  have hW':=hW
  obtain ⟨p,q,hA,hV,rfl,_,_⟩:=hW
  obtain rfl:=vars_nil hV
  rw [Tryz.params3] at hA hval
  obtain ⟨v0,vs0,d0,ds0,pa0,pb0,hargs,rfl,rfl,t0,r0⟩:=trodAll_cons hA
  obtain ⟨v1,vs1,d1,ds1,pa1,pb1,rfl,rfl,rfl,t1,r1⟩:=trodAll_cons r0
  obtain ⟨rfl,rfl,rfl⟩:=trodAll_nil r1
  obtain rfl:args=#[v0,v1]:=by cases args;simp_all
  have hb:Rows.uptoBulkAll ([d0,d1]++[])≤1048576:=of_decide_eq_true hk
  simp only [List.append_nil,Rows.uptoBulkAll] at hb
  obtain ⟨x0,h0,z0,a0⟩:=open_type t0 (by omega)
  obtain ⟨x1,h1,z1,a1⟩:=open_type t1 (by omega)
  refine (calls_law (LDecides_ok 1048575 1048576 x0 x1 (by decide) (by decide) h0 h1) rfl (tabs_of hL) fun i av hi=>?_).mono fun e W' ⟨he,hbel⟩=>⟨_,he,?_⟩
  · match i with
    | 0=>simp only [List.getElem?_cons_zero,Option.some.injEq] at hi;subst hi;exact a0
    | 1=>simp only [List.getElem?_cons_zero,List.getElem?_cons_succ,Option.some.injEq] at hi;subst hi;exact a1
    | i+2=>simp at hi
  · refine post_law (s:=Rows.subtypeDecidesSpec) rfl (by kernel_rfl) rfl ?_ hW' hbel
    rw [Tryz.params3]
    intro t ht
    obtain rfl:t=26:=by simpa using ht
    exact ⟨by kernel_rfl,of_decide_eq_true (by kernel_rfl)⟩
theorem dcds_reads (os:Os) {H:Type} (enc:TypeId×Value→H):∃ places,DataW.whole enc Tryz.prog ((lW os).forCall (fun _ _=>0) ⟨#[],#[.agg #[.int .i64 0,.int .i64 0,.int .i64 0,.int .i64 0,.slice none 0 0,.slice none 0 0,.slice none 0 0],.agg #[.int .i64 0,.int .i64 0,.int .i64 0,.int .i64 0,.slice none 0 0,.slice none 0 0,.slice none 0 0]],[]⟩).memory Tryz.f3.params.toList Rows.subtypeDecidesSpec.vars false (#[.agg #[.int .i64 0,.int .i64 0,.int .i64 0,.int .i64 0,.slice none 0 0,.slice none 0 0,.slice none 0 0],.agg #[.int .i64 0,.int .i64 0,.int .i64 0,.int .i64 0,.slice none 0 0,.slice none 0 0,.slice none 0 0]]:Array Value).toList 8=some ([.agg [.lit (.int .i64 0),.lit (.int .i64 0),.lit (.int .i64 0),.lit (.int .i64 0),.nil,.nil,.nil],.agg [.lit (.int .i64 0),.lit (.int .i64 0),.lit (.int .i64 0),.lit (.int .i64 0),.nil,.nil,.nil]],[],places) :=
  ⟨[],by kernel_rfl⟩
theorem dcds_laid (os:Os):laidMet Tryz.prog Rows.subtypeDecidesUptoRow.laid ((lW os).forCall (fun _ _=>0) ⟨#[],#[.agg #[.int .i64 0,.int .i64 0,.int .i64 0,.int .i64 0,.slice none 0 0,.slice none 0 0,.slice none 0 0],.agg #[.int .i64 0,.int .i64 0,.int .i64 0,.int .i64 0,.slice none 0 0,.slice none 0 0,.slice none 0 0]],[]⟩).memory :=
  laidMet_of_run' 8 (by kernel_rfl) (by kernel_rfl)
theorem dcds_lifted (os:Os) (started:os.Started) (H:Type) (enc:TypeId×Value→H) (F:Stop.Interp) :
    ReturnsInHanded {} Tryz.checked os 3 .any ((Rows.OpenSpec.upto Rows.subtypeDecidesSpec).preRow enc Tryz.prog Tryz.f3 Rows.subtypeDecidesUptoRow.domain false Rows.subtypeDecidesUptoRow.laid) (((Rows.OpenSpec.upto Rows.subtypeDecidesSpec).at F).post enc Tryz.prog Tryz.f3 false true false false):=by
  obtain ⟨places,hx⟩:=dcds_reads os enc
  refine returnsInHanded_of_row (C:=Tryz.checked) (s:=Rows.OpenSpec.upto Rows.subtypeDecidesSpec) own4 started (by kernel_rfl) Tryz.func3
    (witness_row_at (enc:=enc) (C:=Tryz.checked) false (lW os) #[.agg #[.int .i64 0,.int .i64 0,.int .i64 0,.int .i64 0,.slice none 0 0,.slice none 0 0,.slice none 0 0],.agg #[.int .i64 0,.int .i64 0,.int .i64 0,.int .i64 0,.slice none 0 0,.slice none 0 0,.slice none 0 0]] rfl (by kernel_rfl) (by kernel_rfl) (by kernel_rfl)
      (OpenSpec.preRow_of_cond 8 hx (by kernel_rfl) (fun k hk=>by cases hk;kernel_rfl) (by kernel_rfl) (dcds_laid os))) ?_
  intro W base args ds gs before hval hW _ hcond _ hL _ _
  exact dcds_contract H enc W base args ds gs before hval hW (hcond _ rfl) hL
theorem dcds_said:Rows.SubtypeDecidesUptoSaid :=
  OpenClaim.holds_of_cond 3 Tryz.f3 rfl rfl rfl rfl rfl rfl rfl ⟨rfl,rfl,rfl,rfl,rfl⟩ rfl rfl rfl rfl rfl (by kernel_rfl) Tryz.func3 (by kernel_rfl)
    (of_decide_eq_true (by kernel_rfl)) (by unfold Func.isWrapper;first|(rw [if_pos (by decide +kernel)];kernel_rfl)|(rw [if_neg (by decide +kernel)];exact ⟨rfl,rfl⟩))
    (fun os started H enc _ F=>by rw [OpenClaim.pre_eq_preRow];exact dcds_lifted os started H enc F)
theorem dcds_plain (f:FuncId) (fn:Func) (hf:Tryz.pinned.checked.prog.funcNamed Rows.subtypeDecidesUptoRow.func=some f) (hfn:Tryz.pinned.checked.prog.funcs[f]? = some fn) :
    false=Tryz.pinned.checked.prog.looks []∧∀ (j:Nat) t,fn.params[j]? = some t→Tryz.pinned.checked.prog.wantsStandIn t=false:=by
  obtain rfl:f=3:=Option.some.inj ((show Tryz.prog.funcNamed Rows.subtypeDecidesUptoRow.func=some 3 by kernel_rfl).symm.trans hf) |>.symm
  obtain rfl:fn=Tryz.f3:=(Option.some.inj (Tryz.func3.symm.trans hfn)).symm
  refine ⟨by kernel_rfl,fun j t ht=>?_⟩
  rw [Tryz.params3] at ht
  have hm:=Array.mem_of_getElem? ht
  obtain rfl:t=26:=by simpa using hm
  exact (show Tryz.prog.wantsStandIn 26=false by kernel_rfl)
theorem subtypeDecides_holds:Rows.SubtypeDecidesUptoCardSaid :=
  Claim7.holds_tied_plain_at .later [] _ _ _ _ dcds_said (fun _ h=>by cases h) (by kernel_rfl) (fun _ h=>by cases h) subtypeDecidesUpto_row_tie rfl ⟨rfl,rfl⟩ (by kernel_rfl) rfl dcds_plain (by kernel_rfl)
#print axioms subtypeDecides_holds
end Go.Proofs.YtalghhdapjmbbaaGreatDoor
