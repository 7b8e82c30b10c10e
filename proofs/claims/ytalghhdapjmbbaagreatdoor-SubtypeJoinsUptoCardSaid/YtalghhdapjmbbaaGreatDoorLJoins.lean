/- SubtypeJoins. -/
import Derived.Test.YtalghhdapjmbbaaGreatDoorSubL
import Derived.Test.YtalghhdapjmbbaaGreatDoorSubF
import Derived.Test.YtalghhdapjmbbaaGreatDoorSubI
import Derived.Test.YtalghhdapjmbbaaGreatDoorSubB
import Derived.Test.YtalghhdapjmbbaaGreatDoorReadT
set_option linter.all false
namespace Go.Ai
open Go Go.Proofs
set_option maxRecDepth 100000
set_option maxHeartbeats 4000000
theorem LJoins_bad (e d:Nat) (s t:Ty) (he:e+1≤1073741824) (hs:Ty.le (e+1) d s) (ht:Ty.le (e+1) d t) (zs:Ty.sz (e+1) d s) (zt:Ty.sz (e+1) d t) (z:chk2 (e+1) d s t≠0) :
    Af Tryz.prog 5 [encT (e+1) d .any fun _=>s,encT (e+1) d .any fun _=>t] [] (.bool fun _=>true) []:=by
  have h1:=Join_ok e d s t he hs ht
  have h3:=wrongC_ok e d s t he hs ht zs zt
  have hJ:joinE (e+1) d s t=(default,chk2 (e+1) d s t):=by unfold joinE;rw [if_pos z]
  rw [hJ] at h1
  clear hJ
  generalize chk2 (e+1) d s t=K at h1 h3 z
  obtain ⟨d,rfl⟩:=Ty.lP hs
  have h4:=refEqualT_ok (e+1) (d+1) default default (le_default _ _) (le_default _ _)
  rw [decide_eq_true rfl] at h4
  (apply Af.of tF mF [.tmp 4] kp5 [(1,[(2,.tup [encT (e+1) (d+1) .any fun _=>default,.int .i64 fun _=>K],[])]),(2,[(0,.bool fun _=>true,[])]),(4,[(2,.int .i64 fun _=>K,[])]),(6,[(6,.bool fun _=>true,[])]),
    (7,[(2,.tup [encT (e+1) (d+1) .any fun _=>default,.int .i64 fun _=>K],[])]),(8,[(6,.bool fun _=>true,[])]),(10,[(2,.tup [encT (e+1) (d+1) .any fun _=>default,.int .i64 fun _=>K],[])]),(11,[(4,.int .i64 fun _=>0,[]),(9,.bool fun _=>true,[]),(14,.bool fun _=>true,[]),(24,.bool fun _=>true,[])])] Tryz.func5 (fun _=>?_);(any_goals ((with_reducible refine wI ?_);cbv;(try dsimp only [nc] at *);(repeat' (with_reducible first|exact aO|exact oN|refine oC ?_ ?_|refine VC.mk rfl ?_ ?_ ?_|(apply Ca.mk<;>intro _)|(apply Cv.mk<;>intro zq<;>(try simp only [nc,cl] at zq)<;>(try simp only [bl,dl] at zq)<;>(revert zq;intro _))|((first|apply xE|apply uE);cbv;(try dsimp only [nc] at *)))))))
  all_goals (try (exact absurd ‹K=0› z))
  (any_goals ((with_reducible refine bZ ?_);(try dsimp only);(have q:=h1;refine Af.wN q ?_;clear q);(focus (cbv;(try dsimp only [nc] at *);(try simp only [wl,nc]);(repeat' (with_reducible apply And.intro));all_goals (try exact wZ)))))
  (any_goals ((with_reducible refine bZ ?_);(try dsimp only);(have q:=h3;refine Af.wN q ?_;clear q);(focus (cbv;(try dsimp only [nc] at *);(try simp only [wl,nc]);(repeat' (with_reducible apply And.intro));all_goals (try exact wZ)))))
  (any_goals ((with_reducible refine bZ ?_);(try dsimp only);(have q:=h4;refine Af.wN q ?_;clear q);(focus (cbv;(try dsimp only [nc] at *);(try simp only [wl,nc]);(repeat' (with_reducible apply And.intro));all_goals (try exact wZ)))))
  any_goals (refine nO ?_;exact known_ok)
  ((all_goals (try (with_reducible ((first|refine rE ?_|refine nE ?_);(focus (cbv;(try dsimp only [nc] at *);(try simp only [wl,nc]);(repeat' (with_reducible apply And.intro));all_goals (try exact wZ)))))));(all_goals (try ((with_reducible rw [aC]);(try simp only [wl,nc]);(repeat' (with_reducible apply And.intro));(all_goals (try exact cZ))))))
  simp
theorem LJoins_good (e d:Nat) (s t:Ty) (he:e+1≤1073741824) (hs:Ty.le (e+1) d s) (ht:Ty.le (e+1) d t) (zs:Ty.sz (e+1) d s) (zt:Ty.sz (e+1) d t) (z:chk2 (e+1) d s t=0) :
    Af Tryz.prog 5 [encT (e+1) d .any fun _=>s,encT (e+1) d .any fun _=>t] [] (.bool fun _=>true) []:=by
  obtain ⟨z1,z2⟩:=chk2_zero.1 z
  have o1:=chkT_ok hs z1
  have o2:=chkT_ok ht z2
  have h1:=Join_ok e d s t he hs ht
  have h3:=wrongC_ok e d s t he hs ht zs zt
  have h5:=Join_ok e d s s he hs hs
  have h6:=refJoin_ok (e+1) d s t hs ht o1 o2
  have hJ:joinE (e+1) d s t=joinT d s t:=by unfold joinE;rw [if_neg (by omega)]
  have hJ2:joinE (e+1) d s s=(s,0):=by
    obtain ⟨d,rfl⟩:=Ty.lP hs
    unfold joinE;rw [if_neg (fun q=>q (chk2_zero.2 ⟨z1,z1⟩)),joinT_self]
  rw [hJ] at h1
  rw [hJ2] at h5
  rw [z] at h3
  clear hJ hJ2
  obtain ⟨l1,l2⟩:=joinT_le (e+1) d s t o1 o2 hs ht zs zt
  have h4:=refEqualT_ok (e+1) d (joinT d s t).1 (joinT d s t).1 l1 l1
  rw [decide_eq_true rfl] at h4
  have h7:=refEqualT_ok (e+1) d s s hs hs
  rw [decide_eq_true rfl] at h7
  have h8:=refCheckT_ok e d (joinT d s t).1 he l1 l2
  have hg:=fun q:(joinT d s t).2=0=>joinT_chk o1 o2 z1 z2 q
  have hup:=fun q:(joinT d s t).2=0=>joinT_up (e+1) d s t o1 o2 q
  have h9:=fun q:(joinT d s t).2=0=>refWithin_ok (e+1) d s _ hs l1 o1 (chkT_ok l1 (hg q))
  have h10:=fun q:(joinT d s t).2=0=>refWithin_ok (e+1) d t _ ht l1 o2 (chkT_ok l1 (hg q))
  have h8':(joinT d s t).2=0→Af Tryz.prog 17 [encT (e+1) d .any fun _=>(joinT d s t).1] [] (.int .i64 fun _=>0) []:=fun q=>by have:=h8;rw [hg q] at this;exact this
  have h9':(joinT d s t).2=0→Af Tryz.prog 18 [encT (e+1) d .any fun _=>s,encT (e+1) d .any fun _=>(joinT d s t).1] [] (.bool fun _=>true) []:=fun q=>by have:=h9 q;rw [(hup q).1] at this;exact this
  have h10':(joinT d s t).2=0→Af Tryz.prog 18 [encT (e+1) d .any fun _=>t,encT (e+1) d .any fun _=>(joinT d s t).1] [] (.bool fun _=>true) []:=fun q=>by have:=h10 q;rw [(hup q).2] at this;exact this
  clear h8 h9 h10 hg hup
  generalize (joinT d s t).1=J at *
  generalize (joinT d s t).2=X at *
  obtain ⟨d,rfl⟩:=Ty.lP hs
  (apply Af.of tF mF [.tmp 4] kp5 [(1,[(2,.tup [encT (e+1) (d+1) .any fun _=>J,.int .i64 fun _=>X],[])]),(2,[(0,.bool fun _=>true,[])]),(4,[(2,.int .i64 fun _=>0,[])]),(6,[(6,.bool fun _=>true,[])]),
    (7,[(2,.tup [encT (e+1) (d+1) .any fun _=>J,.int .i64 fun _=>X],[])]),(8,[(6,.bool fun _=>true,[])]),(10,[(2,.tup [encT (e+1) (d+1) .any fun _=>s,.int .i64 fun _=>0],[])]),(11,[(4,.int .i64 fun _=>0,[]),(9,.bool fun _=>true,[]),(14,.bool fun _=>true,[]),(24,.bool fun _=>true,[])])] Tryz.func5 (fun _=>?_);(any_goals ((with_reducible refine wI ?_);cbv;(try dsimp only [nc] at *);(repeat' (with_reducible first|exact aO|exact oN|refine oC ?_ ?_|refine VC.mk rfl ?_ ?_ ?_|(apply Ca.mk<;>intro _)|(apply Cv.mk<;>intro zq<;>(try simp only [nc,cl] at zq)<;>(try simp only [bl,dl] at zq)<;>(revert zq;intro _))|((first|apply xE|apply uE);cbv;(try dsimp only [nc] at *)))))))
  all_goals (try (exact absurd trivial ‹¬True›))
  any_goals (refine nO ?_;first|exact known_ok|exact h1|exact h3|exact h4|exact h5|exact h6|exact h7)
  any_goals ((with_reducible refine sO (fun q=>?_));first|exact h4|exact h7|exact h8' (by simpa using q)|exact h9' (by simpa using q)|exact h10' (by simpa using q))
  ((all_goals (try (with_reducible ((first|refine rE ?_|refine nE ?_);(focus (cbv;(try dsimp only [nc] at *);(try simp only [wl,nc]);(repeat' (with_reducible apply And.intro));all_goals (try exact wZ)))))));(all_goals (try ((with_reducible rw [aC]);(try simp only [wl,nc]);(repeat' (with_reducible apply And.intro));(all_goals (try exact cZ))))))
  all_goals (by_cases q:X=0<;>simp [q])
theorem LJoins_ok (e d:Nat) (s t:Ty) (he:e+1≤1073741824) (hs:Ty.le (e+1) d s) (ht:Ty.le (e+1) d t) (zs:Ty.sz (e+1) d s) (zt:Ty.sz (e+1) d t) :
    Af Tryz.prog 5 [encT (e+1) d .any fun _=>s,encT (e+1) d .any fun _=>t] [] (.bool fun _=>true) []:=by
  by_cases z:chk2 (e+1) d s t=0
  · exact LJoins_good e d s t he hs ht zs zt z
  · exact LJoins_bad e d s t he hs ht zs zt z
end Go.Ai

namespace Go.Proofs.YtalghhdapjmbbaaGreatDoor
open Go Go.Ai Go.RowKit Go.ChangeShapes Go.WideShapes Go.ChangeAt
set_option maxRecDepth 100000
theorem jois_contract (H:Type) (enc:TypeId×Value→H) (W:World) (base:Nat) (args:Array Value) (ds gs:List (DataW H)) (before:List MemPlace)
    (hval:∀ (j:Nat) t v,Tryz.f5.params[j]? = some t→args[j]? = some v→Value.okWide Tryz.prog W .any base t v)
    (hW:DataW.Whole enc Tryz.prog Tryz.f5.params.toList Rows.subtypeJoinsSpec.vars false W args.toList ds gs before) (hk:Rows.uptoSmall H (ds++gs)=true) (hL:laidMetH Tryz.prog Rows.subtypeJoinsUptoRow.laid W) :
    Calls Tryz.prog 5 args W fun e W'=>∃ v,e=.returned v∧Rows.subtypeJoinsSpec.post enc Tryz.prog Tryz.f5 false true false false W args v W':=by
  have hW':=hW
  obtain ⟨p,q,hA,hV,rfl,_,_⟩:=hW
  obtain rfl:=vars_nil hV
  rw [Tryz.params5] at hA hval
  obtain ⟨v0,vs0,d0,ds0,pa0,pb0,hargs,rfl,rfl,t0,r0⟩:=trodAll_cons hA
  obtain ⟨v1,vs1,d1,ds1,pa1,pb1,rfl,rfl,rfl,t1,r1⟩:=trodAll_cons r0
  obtain ⟨rfl,rfl,rfl⟩:=trodAll_nil r1
  obtain rfl:args=#[v0,v1]:=by cases args;simp_all
  have hb:Rows.uptoBulkAll ([d0,d1]++[])≤1048576:=of_decide_eq_true hk
  simp only [List.append_nil,Rows.uptoBulkAll] at hb
  obtain ⟨x0,h0,z0,a0⟩:=open_type t0 (by omega)
  obtain ⟨x1,h1,z1,a1⟩:=open_type t1 (by omega)
  refine (calls_law (LJoins_ok 1048575 1048576 x0 x1 (by decide) h0 h1 z0 z1) rfl (tabs_of hL) fun i av hi=>?_).mono fun e W' ⟨he,hbel⟩=>⟨_,he,?_⟩
  · match i with
    | 0=>simp only [List.getElem?_cons_zero,Option.some.injEq] at hi;subst hi;exact a0
    | 1=>simp only [List.getElem?_cons_zero,List.getElem?_cons_succ,Option.some.injEq] at hi;subst hi;exact a1
    | i+2=>simp at hi
  · refine post_law (s:=Rows.subtypeJoinsSpec) rfl (by kernel_rfl) rfl ?_ hW' hbel
    rw [Tryz.params5]
    intro t ht
    obtain rfl:t=26:=by simpa using ht
    exact ⟨by kernel_rfl,of_decide_eq_true (by kernel_rfl)⟩
theorem jois_reads (os:Os) {H:Type} (enc:TypeId×Value→H):∃ places,DataW.whole enc Tryz.prog ((lW os).forCall (fun _ _=>0) ⟨#[],#[.agg #[.int .i64 0,.int .i64 0,.int .i64 0,.int .i64 0,.slice none 0 0,.slice none 0 0,.slice none 0 0],.agg #[.int .i64 0,.int .i64 0,.int .i64 0,.int .i64 0,.slice none 0 0,.slice none 0 0,.slice none 0 0]],[]⟩).memory Tryz.f5.params.toList Rows.subtypeJoinsSpec.vars false (#[.agg #[.int .i64 0,.int .i64 0,.int .i64 0,.int .i64 0,.slice none 0 0,.slice none 0 0,.slice none 0 0],.agg #[.int .i64 0,.int .i64 0,.int .i64 0,.int .i64 0,.slice none 0 0,.slice none 0 0,.slice none 0 0]]:Array Value).toList 8=some ([.agg [.lit (.int .i64 0),.lit (.int .i64 0),.lit (.int .i64 0),.lit (.int .i64 0),.nil,.nil,.nil],.agg [.lit (.int .i64 0),.lit (.int .i64 0),.lit (.int .i64 0),.lit (.int .i64 0),.nil,.nil,.nil]],[],places) :=
  ⟨[],by kernel_rfl⟩
theorem jois_laid (os:Os):laidMet Tryz.prog Rows.subtypeJoinsUptoRow.laid ((lW os).forCall (fun _ _=>0) ⟨#[],#[.agg #[.int .i64 0,.int .i64 0,.int .i64 0,.int .i64 0,.slice none 0 0,.slice none 0 0,.slice none 0 0],.agg #[.int .i64 0,.int .i64 0,.int .i64 0,.int .i64 0,.slice none 0 0,.slice none 0 0,.slice none 0 0]],[]⟩).memory :=
  laidMet_of_run' 8 (by kernel_rfl) (by kernel_rfl)
theorem jois_lifted (os:Os) (started:os.Started) (H:Type) (enc:TypeId×Value→H) (F:Stop.Interp) :
    ReturnsInHanded {} Tryz.checked os 5 .any ((Rows.OpenSpec.upto Rows.subtypeJoinsSpec).preRow enc Tryz.prog Tryz.f5 Rows.subtypeJoinsUptoRow.domain false Rows.subtypeJoinsUptoRow.laid) (((Rows.OpenSpec.upto Rows.subtypeJoinsSpec).at F).post enc Tryz.prog Tryz.f5 false true false false):=by
  obtain ⟨places,hx⟩:=jois_reads os enc
  refine returnsInHanded_of_row (C:=Tryz.checked) (s:=Rows.OpenSpec.upto Rows.subtypeJoinsSpec) own4 started (by kernel_rfl) Tryz.func5
    (witness_row_at (enc:=enc) (C:=Tryz.checked) false (lW os) #[.agg #[.int .i64 0,.int .i64 0,.int .i64 0,.int .i64 0,.slice none 0 0,.slice none 0 0,.slice none 0 0],.agg #[.int .i64 0,.int .i64 0,.int .i64 0,.int .i64 0,.slice none 0 0,.slice none 0 0,.slice none 0 0]] rfl (by kernel_rfl) (by kernel_rfl) (by kernel_rfl)
      (OpenSpec.preRow_of_cond 8 hx (by kernel_rfl) (fun k hk=>by cases hk;kernel_rfl) (by kernel_rfl) (jois_laid os))) ?_
  intro W base args ds gs before hval hW _ hcond _ hL _ _
  exact jois_contract H enc W base args ds gs before hval hW (hcond _ rfl) hL
theorem jois_said:Rows.SubtypeJoinsUptoSaid :=
  OpenClaim.holds_of_cond 5 Tryz.f5 rfl rfl rfl rfl rfl rfl rfl ⟨rfl,rfl,rfl,rfl,rfl⟩ rfl rfl rfl rfl rfl (by kernel_rfl) Tryz.func5 (by kernel_rfl)
    (of_decide_eq_true (by kernel_rfl)) (by unfold Func.isWrapper;first|(rw [if_pos (by decide +kernel)];kernel_rfl)|(rw [if_neg (by decide +kernel)];exact ⟨rfl,rfl⟩))
    (fun os started H enc _ F=>by rw [OpenClaim.pre_eq_preRow];exact jois_lifted os started H enc F)
theorem jois_plain (f:FuncId) (fn:Func) (hf:Tryz.pinned.checked.prog.funcNamed Rows.subtypeJoinsUptoRow.func=some f) (hfn:Tryz.pinned.checked.prog.funcs[f]? = some fn) :
    false=Tryz.pinned.checked.prog.looks []∧∀ (j:Nat) t,fn.params[j]? = some t→Tryz.pinned.checked.prog.wantsStandIn t=false:=by
  obtain rfl:f=5:=Option.some.inj ((show Tryz.prog.funcNamed Rows.subtypeJoinsUptoRow.func=some 5 by kernel_rfl).symm.trans hf) |>.symm
  obtain rfl:fn=Tryz.f5:=(Option.some.inj (Tryz.func5.symm.trans hfn)).symm
  refine ⟨by kernel_rfl,fun j t ht=>?_⟩
  rw [Tryz.params5] at ht
  have hm:=Array.mem_of_getElem? ht
  obtain rfl:t=26:=by simpa using hm
  exact (show Tryz.prog.wantsStandIn 26=false by kernel_rfl)
theorem subtypeJoins_holds:Rows.SubtypeJoinsUptoCardSaid :=
  Claim7.holds_tied_plain_at .later [] _ _ _ _ jois_said (fun _ h=>by cases h) (by kernel_rfl) (fun _ h=>by cases h) subtypeJoinsUpto_row_tie rfl ⟨rfl,rfl⟩ (by kernel_rfl) rfl jois_plain (by kernel_rfl)
#print axioms subtypeJoins_holds
end Go.Proofs.YtalghhdapjmbbaaGreatDoor
