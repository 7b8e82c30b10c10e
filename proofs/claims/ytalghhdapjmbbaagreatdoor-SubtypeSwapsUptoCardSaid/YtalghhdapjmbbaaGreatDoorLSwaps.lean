/- SubtypeSwaps. -/
import Derived.Test.YtalghhdapjmbbaaGreatDoorSubL
import Derived.Test.YtalghhdapjmbbaaGreatDoorSubI
import Derived.Test.YtalghhdapjmbbaaGreatDoorSubB
import Derived.Test.YtalghhdapjmbbaaGreatDoorReadT
set_option linter.all false
namespace Go.Ai
open Go Go.Proofs
set_option maxRecDepth 100000
set_option maxHeartbeats 4000000
theorem chk2_swap {e d:Nat} {s t:Ty}:chk2 e d s t=0↔chk2 e d t s=0:=by rw [chk2_zero,chk2_zero];exact And.comm
theorem LSwaps_bad (e d:Nat) (s t:Ty) (he:e+1≤1073741824) (hs:Ty.le (e+1) d s) (ht:Ty.le (e+1) d t) (zs:Ty.sz (e+1) d s) (zt:Ty.sz (e+1) d t) (z:chk2 (e+1) d s t≠0) :
    Af Tryz.prog 9 [encT (e+1) d .any fun _=>s,encT (e+1) d .any fun _=>t] [] (.bool fun _=>true) []:=by
  have h1:=Join_ok e d s t he hs ht
  have h2:=Join_ok e d t s he ht hs
  have h3:=wrongC_ok e d s t he hs ht zs zt
  generalize chk2 (e+1) d s t=K at h3 z
  generalize joinE (e+1) d s t=I at h1
  generalize joinE (e+1) d t s=J at h2
  obtain ⟨d,rfl⟩:=Ty.lP hs
  (apply Af.of tF mF [.tmp 4] kp9 [(1,[(2,.tup [encT (e+1) (d+1) .any fun _=>I.1,.int .i64 fun _=>I.2],[])]),(2,[(2,.tup [encT (e+1) (d+1) .any fun _=>J.1,.int .i64 fun _=>J.2],[])]),(3,[(0,.bool fun _=>true,[]),(5,.int .i64 fun _=>K,[])]),(4,[(0,.bool fun _=>true,[])]),
    (7,[(2,.tup [.bool fun _=>true,.int .i64 fun _=>0],[])])] Tryz.func9 (fun _=>?_);(any_goals ((with_reducible refine wI ?_);cbv;(try dsimp only [nc] at *);(repeat' (with_reducible first|exact aO|exact oN|refine oC ?_ ?_|refine VC.mk rfl ?_ ?_ ?_|(apply Ca.mk<;>intro _)|(apply Cv.mk<;>intro zq<;>(try simp only [nc,cl] at zq)<;>(try simp only [bl,dl] at zq)<;>(revert zq;intro _))|((first|apply xE|apply uE);cbv;(try dsimp only [nc] at *)))))))
  any_goals (refine nO ?_;first|exact known_ok|exact h1|exact h2)
  any_goals ((with_reducible refine sO (fun q=>?_));exact h3)
  all_goals (try (exact absurd ‹True∧K=0›.2 z))
  ((all_goals (try (with_reducible ((first|refine rE ?_|refine nE ?_);(focus (cbv;(try dsimp only [nc] at *);(try simp only [wl,nc]);(repeat' (with_reducible apply And.intro));all_goals (try exact wZ)))))));(all_goals (try ((with_reducible rw [aC]);(try simp only [wl,nc]);(repeat' (with_reducible apply And.intro));(all_goals (try exact cZ))))))
theorem LSwaps_good (e d:Nat) (s t:Ty) (he:e+1≤1073741824) (hs:Ty.le (e+1) d s) (ht:Ty.le (e+1) d t) (zs:Ty.sz (e+1) d s) (zt:Ty.sz (e+1) d t) (z:chk2 (e+1) d s t=0) :
    Af Tryz.prog 9 [encT (e+1) d .any fun _=>s,encT (e+1) d .any fun _=>t] [] (.bool fun _=>true) []:=by
  obtain ⟨z1,z2⟩:=chk2_zero.1 z
  have o1:=chkT_ok hs z1
  have o2:=chkT_ok ht z2
  have h1:=Join_ok e d s t he hs ht
  have h2:=Join_ok e d t s he ht hs
  have h3:=wrongC_ok e d s t he hs ht zs zt
  have hJ:joinE (e+1) d s t=joinT d s t:=by unfold joinE;rw [if_neg (by omega)]
  have hJ2:joinE (e+1) d t s=joinT d t s:=by unfold joinE;rw [if_neg (by have:=chk2_swap.1 z;omega)]
  rw [hJ] at h1
  rw [hJ2] at h2
  rw [z] at h3
  clear hJ hJ2
  have hsw:=joinT_swap d s t
  obtain ⟨l1,l2⟩:=joinT_le (e+1) d s t o1 o2 hs ht zs zt
  obtain ⟨l3,l4⟩:=joinT_le (e+1) d t s o2 o1 ht hs zt zs
  have hg1:=fun q:(joinT d s t).2=0=>joinT_chk o1 o2 z1 z2 q
  have hg2:=fun q:(joinT d t s).2=0=>joinT_chk o2 o1 z2 z1 q
  have hS:=Same_ok e d (joinT d s t).1 (joinT d t s).1 he l1 l3
  have hS':(joinT d s t).2=0→Af Tryz.prog 20 [encT (e+1) d .any fun _=>(joinT d s t).1,encT (e+1) d .any fun _=>(joinT d t s).1] [] (.tup [.bool fun _=>true,.int .i64 fun _=>0]) []:=fun q=>by
    have q2:(joinT d t s).2=0:=by rw [← hsw];exact q
    have p1:=chkT_ok l1 (hg1 q)
    have p2:=chkT_ok l3 (hg2 q2)
    have u1:=joinT_up (e+1) d s t o1 o2 q
    have u2:=joinT_up (e+1) d t s o2 o1 q2
    have m1:=joinT_min (e+1) d s t _ o1 o2 p2 u2.2 u2.1 q
    have m2:=joinT_min (e+1) d t s _ o2 o1 p1 u1.2 u1.1 q2
    have:=hS
    rw [chk2_zero.2 ⟨hg1 q,hg2 q2⟩,m1,m2] at this
    exact this
  clear hS hg1 hg2
  generalize (joinT d s t).1=I at *
  generalize (joinT d t s).1=J at *
  generalize (joinT d t s).2=Y at *
  generalize (joinT d s t).2=X at *
  subst hsw
  obtain ⟨d,rfl⟩:=Ty.lP hs
  (apply Af.of tF mF [.tmp 4] kp9 [(1,[(2,.tup [encT (e+1) (d+1) .any fun _=>I,.int .i64 fun _=>X],[])]),(2,[(2,.tup [encT (e+1) (d+1) .any fun _=>J,.int .i64 fun _=>X],[])]),(3,[(0,.bool fun _=>true,[]),(5,.int .i64 fun _=>0,[])]),(4,[(0,.bool fun _=>true,[])]),
    (7,[(2,.tup [.bool fun _=>true,.int .i64 fun _=>0],[])])] Tryz.func9 (fun _=>?_);(any_goals ((with_reducible refine wI ?_);cbv;(try dsimp only [nc] at *);(repeat' (with_reducible first|exact aO|exact oN|refine oC ?_ ?_|refine VC.mk rfl ?_ ?_ ?_|(apply Ca.mk<;>intro _)|(apply Cv.mk<;>intro zq<;>(try simp only [nc,cl] at zq)<;>(try simp only [bl,dl] at zq)<;>(revert zq;intro _))|((first|apply xE|apply uE);cbv;(try dsimp only [nc] at *)))))))
  any_goals (refine nO ?_;first|exact known_ok|exact h1|exact h2|exact hS' (by omega))
  any_goals ((with_reducible refine sO (fun q=>?_));exact h3)
  ((all_goals (try (with_reducible ((first|refine rE ?_|refine nE ?_);(focus (cbv;(try dsimp only [nc] at *);(try simp only [wl,nc]);(repeat' (with_reducible apply And.intro));all_goals (try exact wZ)))))));(all_goals (try ((with_reducible rw [aC]);(try simp only [wl,nc]);(repeat' (with_reducible apply And.intro));(all_goals (try exact cZ))))))
  all_goals simp
theorem LSwaps_ok (e d:Nat) (s t:Ty) (he:e+1≤1073741824) (hs:Ty.le (e+1) d s) (ht:Ty.le (e+1) d t) (zs:Ty.sz (e+1) d s) (zt:Ty.sz (e+1) d t) :
    Af Tryz.prog 9 [encT (e+1) d .any fun _=>s,encT (e+1) d .any fun _=>t] [] (.bool fun _=>true) []:=by
  by_cases z:chk2 (e+1) d s t=0
  · exact LSwaps_good e d s t he hs ht zs zt z
  · exact LSwaps_bad e d s t he hs ht zs zt z
end Go.Ai

namespace Go.Proofs.YtalghhdapjmbbaaGreatDoor
open Go Go.Ai Go.RowKit Go.ChangeShapes Go.WideShapes Go.ChangeAt
set_option maxRecDepth 100000
theorem swas_contract (H:Type) (enc:TypeId×Value→H) (W:World) (base:Nat) (args:Array Value) (ds gs:List (DataW H)) (before:List MemPlace)
    (hval:∀ (j:Nat) t v,Tryz.f9.params[j]? = some t→args[j]? = some v→Value.okWide Tryz.prog W .any base t v)
    (hW:DataW.Whole enc Tryz.prog Tryz.f9.params.toList Rows.subtypeSwapsSpec.vars false W args.toList ds gs before) (hk:Rows.uptoSmall H (ds++gs)=true) (hL:laidMetH Tryz.prog Rows.subtypeSwapsUptoRow.laid W) :
    Calls Tryz.prog 9 args W fun e W'=>∃ v,e=.returned v∧Rows.subtypeSwapsSpec.post enc Tryz.prog Tryz.f9 false true false false W args v W':=by
  have hW':=hW
  obtain ⟨p,q,hA,hV,rfl,_,_⟩:=hW
  obtain rfl:=vars_nil hV
  rw [Tryz.params9] at hA hval
  obtain ⟨v0,vs0,d0,ds0,pa0,pb0,hargs,rfl,rfl,t0,r0⟩:=trodAll_cons hA
  obtain ⟨v1,vs1,d1,ds1,pa1,pb1,rfl,rfl,rfl,t1,r1⟩:=trodAll_cons r0
  obtain ⟨rfl,rfl,rfl⟩:=trodAll_nil r1
  obtain rfl:args=#[v0,v1]:=by cases args;simp_all
  have hb:Rows.uptoBulkAll ([d0,d1]++[])≤1048576:=of_decide_eq_true hk
  simp only [List.append_nil,Rows.uptoBulkAll] at hb
  obtain ⟨x0,h0,z0,a0⟩:=open_type t0 (by omega)
  obtain ⟨x1,h1,z1,a1⟩:=open_type t1 (by omega)
  refine (calls_law (LSwaps_ok 1048575 1048576 x0 x1 (by decide) h0 h1 z0 z1) rfl (tabs_of hL) fun i av hi=>?_).mono fun e W' ⟨he,hbel⟩=>⟨_,he,?_⟩
  · match i with
    | 0=>simp only [List.getElem?_cons_zero,Option.some.injEq] at hi;subst hi;exact a0
    | 1=>simp only [List.getElem?_cons_zero,List.getElem?_cons_succ,Option.some.injEq] at hi;subst hi;exact a1
    | i+2=>simp at hi
  · refine post_law (s:=Rows.subtypeSwapsSpec) rfl (by kernel_rfl) rfl ?_ hW' hbel
    rw [Tryz.params9]
    intro t ht
    obtain rfl:t=26:=by simpa using ht
    exact ⟨by kernel_rfl,of_decide_eq_true (by kernel_rfl)⟩
theorem swas_reads (os:Os) {H:Type} (enc:TypeId×Value→H):∃ places,DataW.whole enc Tryz.prog ((lW os).forCall (fun _ _=>0) ⟨#[],#[.agg #[.int .i64 0,.int .i64 0,.int .i64 0,.int .i64 0,.slice none 0 0,.slice none 0 0,.slice none 0 0],.agg #[.int .i64 0,.int .i64 0,.int .i64 0,.int .i64 0,.slice none 0 0,.slice none 0 0,.slice none 0 0]],[]⟩).memory Tryz.f9.params.toList Rows.subtypeSwapsSpec.vars false (#[.agg #[.int .i64 0,.int .i64 0,.int .i64 0,.int .i64 0,.slice none 0 0,.slice none 0 0,.slice none 0 0],.agg #[.int .i64 0,.int .i64 0,.int .i64 0,.int .i64 0,.slice none 0 0,.slice none 0 0,.slice none 0 0]]:Array Value).toList 8=some ([.agg [.lit (.int .i64 0),.lit (.int .i64 0),.lit (.int .i64 0),.lit (.int .i64 0),.nil,.nil,.nil],.agg [.lit (.int .i64 0),.lit (.int .i64 0),.lit (.int .i64 0),.lit (.int .i64 0),.nil,.nil,.nil]],[],places) :=
  ⟨[],by kernel_rfl⟩
theorem swas_laid (os:Os):laidMet Tryz.prog Rows.subtypeSwapsUptoRow.laid ((lW os).forCall (fun _ _=>0) ⟨#[],#[.agg #[.int .i64 0,.int .i64 0,.int .i64 0,.int .i64 0,.slice none 0 0,.slice none 0 0,.slice none 0 0],.agg #[.int .i64 0,.int .i64 0,.int .i64 0,.int .i64 0,.slice none 0 0,.slice none 0 0,.slice none 0 0]],[]⟩).memory :=
  laidMet_of_run' 8 (by kernel_rfl) (by kernel_rfl)
theorem swas_lifted (os:Os) (started:os.Started) (H:Type) (enc:TypeId×Value→H) (F:Stop.Interp) :
    ReturnsInHanded {} Tryz.checked os 9 .any ((Rows.OpenSpec.upto Rows.subtypeSwapsSpec).preRow enc Tryz.prog Tryz.f9 Rows.subtypeSwapsUptoRow.domain false Rows.subtypeSwapsUptoRow.laid) (((Rows.OpenSpec.upto Rows.subtypeSwapsSpec).at F).post enc Tryz.prog Tryz.f9 false true false false):=by
  obtain ⟨places,hx⟩:=swas_reads os enc
  refine returnsInHanded_of_row (C:=Tryz.checked) (s:=Rows.OpenSpec.upto Rows.subtypeSwapsSpec) own4 started (by kernel_rfl) Tryz.func9
    (witness_row_at (enc:=enc) (C:=Tryz.checked) false (lW os) #[.agg #[.int .i64 0,.int .i64 0,.int .i64 0,.int .i64 0,.slice none 0 0,.slice none 0 0,.slice none 0 0],.agg #[.int .i64 0,.int .i64 0,.int .i64 0,.int .i64 0,.slice none 0 0,.slice none 0 0,.slice none 0 0]] rfl (by kernel_rfl) (by kernel_rfl) (by kernel_rfl)
      (OpenSpec.preRow_of_cond 8 hx (by kernel_rfl) (fun k hk=>by cases hk;kernel_rfl) (by kernel_rfl) (swas_laid os))) ?_
  intro W base args ds gs before hval hW _ hcond _ hL _ _
  exact swas_contract H enc W base args ds gs before hval hW (hcond _ rfl) hL
theorem swas_said:Rows.SubtypeSwapsUptoSaid :=
  OpenClaim.holds_of_cond 9 Tryz.f9 rfl rfl rfl rfl rfl rfl rfl ⟨rfl,rfl,rfl,rfl,rfl⟩ rfl rfl rfl rfl rfl (by kernel_rfl) Tryz.func9 (by kernel_rfl)
    (of_decide_eq_true (by kernel_rfl)) (by unfold Func.isWrapper;first|(rw [if_pos (by decide +kernel)];kernel_rfl)|(rw [if_neg (by decide +kernel)];exact ⟨rfl,rfl⟩))
    (fun os started H enc _ F=>by rw [OpenClaim.pre_eq_preRow];exact swas_lifted os started H enc F)
theorem swas_plain (f:FuncId) (fn:Func) (hf:Tryz.pinned.checked.prog.funcNamed Rows.subtypeSwapsUptoRow.func=some f) (hfn:Tryz.pinned.checked.prog.funcs[f]? = some fn) :
    false=Tryz.pinned.checked.prog.looks []∧∀ (j:Nat) t,fn.params[j]? = some t→Tryz.pinned.checked.prog.wantsStandIn t=false:=by
  obtain rfl:f=9:=Option.some.inj ((show Tryz.prog.funcNamed Rows.subtypeSwapsUptoRow.func=some 9 by kernel_rfl).symm.trans hf) |>.symm
  obtain rfl:fn=Tryz.f9:=(Option.some.inj (Tryz.func9.symm.trans hfn)).symm
  refine ⟨by kernel_rfl,fun j t ht=>?_⟩
  rw [Tryz.params9] at ht
  have hm:=Array.mem_of_getElem? ht
  obtain rfl:t=26:=by simpa using hm
  exact (show Tryz.prog.wantsStandIn 26=false by kernel_rfl)
theorem subtypeSwaps_holds:Rows.SubtypeSwapsUptoCardSaid :=
  Claim7.holds_tied_plain_at .later [] _ _ _ _ swas_said (fun _ h=>by cases h) (by kernel_rfl) (fun _ h=>by cases h) subtypeSwapsUpto_row_tie rfl ⟨rfl,rfl⟩ (by kernel_rfl) rfl swas_plain (by kernel_rfl)
#print axioms subtypeSwaps_holds
end Go.Proofs.YtalghhdapjmbbaaGreatDoor
