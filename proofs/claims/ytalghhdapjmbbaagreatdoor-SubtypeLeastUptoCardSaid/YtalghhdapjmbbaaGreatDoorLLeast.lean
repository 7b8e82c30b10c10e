/- SubtypeLeast. -/
import Derived.Test.YtalghhdapjmbbaaGreatDoorSubL
import Derived.Test.YtalghhdapjmbbaaGreatDoorSubF
import Derived.Test.YtalghhdapjmbbaaGreatDoorSubI
import Derived.Test.YtalghhdapjmbbaaGreatDoorSubB
import Derived.Test.YtalghhdapjmbbaaGreatDoorReadT
set_option linter.all false
namespace Go.Ai
open Go Go.Proofs
set_option maxRecDepth 100000
set_option maxHeartbeats 4000000
theorem LLeast_bad (e d:Nat) (s t u:Ty) (he:e+1≤1073741824) (hs:Ty.le (e+1) d s) (ht:Ty.le (e+1) d t) (hu:Ty.le (e+1) d u) (zs:Ty.sz (e+1) d s) (zt:Ty.sz (e+1) d t) (zu:Ty.sz (e+1) d u)
    (z:chk2 (e+1) d s t≠0):Af Tryz.prog 6 [encT (e+1) d .any fun _=>s,encT (e+1) d .any fun _=>t,encT (e+1) d .any fun _=>u] [] (.bool fun _=>true) []:=by
  have h3:=wrongC_ok e d s t he hs ht zs zt
  generalize chk2 (e+1) d s t=K at h3 z
  obtain ⟨d,rfl⟩:=Ty.lP hs
  (apply Af.of tF mF [.tmp 6] kp6 [(1,[(0,.bool fun _=>true,[]),(5,.int .i64 fun _=>K,[]),(10,.int .i64 fun _=>0,[]),(16,.bool fun _=>true,[]),(22,.bool fun _=>true,[])]),(2,[(0,.bool fun _=>true,[])]),
    (3,[(2,.tup [encT (e+1) (d+1) .any fun _=>default,.int .i64 fun _=>0],[])]),(6,[(2,.tup [.bool fun _=>true,.int .i64 fun _=>0],[])])] Tryz.func6 (fun _=>?_);(any_goals ((with_reducible refine wI ?_);cbv;(try dsimp only [nc] at *);(repeat' (with_reducible first|exact aO|exact oN|refine oC ?_ ?_|refine VC.mk rfl ?_ ?_ ?_|(apply Ca.mk<;>intro _)|(apply Cv.mk<;>intro zq<;>(try simp only [nc,cl] at zq)<;>(try simp only [bl,dl] at zq)<;>(revert zq;intro _))|((first|apply xE|apply uE);cbv;(try dsimp only [nc] at *)))))))
  any_goals (refine nO ?_;first|exact known_ok)
  any_goals ((with_reducible refine sO (fun q=>?_));first|exact h3|(exfalso;simp [z] at q;done))
  ((all_goals (try (with_reducible ((first|refine rE ?_|refine nE ?_);(focus (cbv;(try dsimp only [nc] at *);(try simp only [wl,nc]);(repeat' (with_reducible apply And.intro));all_goals (try exact wZ)))))));(all_goals (try ((with_reducible rw [aC]);(try simp only [wl,nc]);(repeat' (with_reducible apply And.intro));(all_goals (try exact cZ))))))
  all_goals (try (simp [z];done))
  all_goals (exfalso;simp_all;done)
theorem LLeast_badu (e d:Nat) (s t u:Ty) (he:e+1≤1073741824) (hs:Ty.le (e+1) d s) (ht:Ty.le (e+1) d t) (hu:Ty.le (e+1) d u) (zs:Ty.sz (e+1) d s) (zt:Ty.sz (e+1) d t) (zu:Ty.sz (e+1) d u)
    (z:chk2 (e+1) d s t=0) (w:chkT (e+1) d u≠0):Af Tryz.prog 6 [encT (e+1) d .any fun _=>s,encT (e+1) d .any fun _=>t,encT (e+1) d .any fun _=>u] [] (.bool fun _=>true) []:=by
  have h3:=wrongC_ok e d s t he hs ht zs zt
  have h4:=refCheckT_ok e d u he hu zu
  rw [z] at h3
  generalize chkT (e+1) d u=K at h4 w
  obtain ⟨d,rfl⟩:=Ty.lP hs
  (apply Af.of tF mF [.tmp 6] kp6 [(1,[(0,.bool fun _=>true,[]),(5,.int .i64 fun _=>0,[]),(10,.int .i64 fun _=>K,[]),(16,.bool fun _=>true,[]),(22,.bool fun _=>true,[])]),(2,[(0,.bool fun _=>true,[])]),
    (3,[(2,.tup [encT (e+1) (d+1) .any fun _=>default,.int .i64 fun _=>0],[])]),(6,[(2,.tup [.bool fun _=>true,.int .i64 fun _=>0],[])])] Tryz.func6 (fun _=>?_);(any_goals ((with_reducible refine wI ?_);cbv;(try dsimp only [nc] at *);(repeat' (with_reducible first|exact aO|exact oN|refine oC ?_ ?_|refine VC.mk rfl ?_ ?_ ?_|(apply Ca.mk<;>intro _)|(apply Cv.mk<;>intro zq<;>(try simp only [nc,cl] at zq)<;>(try simp only [bl,dl] at zq)<;>(revert zq;intro _))|((first|apply xE|apply uE);cbv;(try dsimp only [nc] at *)))))))
  any_goals (refine nO ?_;first|exact known_ok)
  any_goals ((with_reducible refine sO (fun q=>?_));first|exact h3|exact h4|(exfalso;simp [w] at q;done))
  ((all_goals (try (with_reducible ((first|refine rE ?_|refine nE ?_);(focus (cbv;(try dsimp only [nc] at *);(try simp only [wl,nc]);(repeat' (with_reducible apply And.intro));all_goals (try exact wZ)))))));(all_goals (try ((with_reducible rw [aC]);(try simp only [wl,nc]);(repeat' (with_reducible apply And.intro));(all_goals (try exact cZ))))))
  all_goals (try (simp [w];done))
  all_goals (exfalso;simp_all;done)
theorem LLeast_good (e d:Nat) (s t u:Ty) (he:e+1≤1073741824) (hs:Ty.le (e+1) d s) (ht:Ty.le (e+1) d t) (hu:Ty.le (e+1) d u) (zs:Ty.sz (e+1) d s) (zt:Ty.sz (e+1) d t) (zu:Ty.sz (e+1) d u)
    (z:chk2 (e+1) d s t=0) (w:chkT (e+1) d u=0):Af Tryz.prog 6 [encT (e+1) d .any fun _=>s,encT (e+1) d .any fun _=>t,encT (e+1) d .any fun _=>u] [] (.bool fun _=>true) []:=by
  obtain ⟨z1,z2⟩:=chk2_zero.1 z
  have o1:=chkT_ok hs z1
  have o2:=chkT_ok ht z2
  have o3:=chkT_ok hu w
  have h1:=Join_ok e d s t he hs ht
  have h3:=wrongC_ok e d s t he hs ht zs zt
  have h4:=refCheckT_ok e d u he hu zu
  have h5:=refWithin_ok (e+1) d s u hs hu o1 o3
  have h6:=refWithin_ok (e+1) d t u ht hu o2 o3
  have hJ:joinE (e+1) d s t=joinT d s t:=by unfold joinE;rw [if_neg (by omega)]
  rw [hJ] at h1
  rw [z] at h3
  rw [w] at h4
  clear hJ
  obtain ⟨l1,l2⟩:=joinT_le (e+1) d s t o1 o2 hs ht zs zt
  have hX:=joinT_err d s t
  have hS:=Within_ok e d (joinT d s t).1 u he l1 hu
  have hS':(joinT d s t).2=0→withinB d s u=true→withinB d t u=true→Af Tryz.prog 10 [encT (e+1) d .any fun _=>(joinT d s t).1,encT (e+1) d .any fun _=>u] [] (.tup [.bool fun _=>true,.int .i64 fun _=>0]) []:=fun q a b=>by
    have hg:=joinT_chk o1 o2 z1 z2 q
    have m:=joinT_min (e+1) d s t u o1 o2 o3 a b q
    have:=hS
    rw [chk2_zero.2 ⟨hg,w⟩,m] at this
    exact this
  clear hS
  generalize (joinT d s t).1=J at *
  generalize (joinT d s t).2=X at *
  generalize withinB d s u=a at *
  generalize withinB d t u=b at *
  obtain ⟨d,rfl⟩:=Ty.lP hs
  (apply Af.of tF mF [.tmp 6] kp6 [(1,[(0,.bool fun _=>true,[]),(5,.int .i64 fun _=>0,[]),(10,.int .i64 fun _=>0,[]),(16,.bool fun _=>a,[]),(22,.bool fun _=>b,[])]),(2,[(0,.bool fun _=>true,[])]),
    (3,[(2,.tup [encT (e+1) (d+1) .any fun _=>J,.int .i64 fun _=>X],[])]),(6,[(2,.tup [.bool fun _=>true,.int .i64 fun _=>0],[])])] Tryz.func6 (fun _=>?_);(any_goals ((with_reducible refine wI ?_);cbv;(try dsimp only [nc] at *);(repeat' (with_reducible first|exact aO|exact oN|refine oC ?_ ?_|refine VC.mk rfl ?_ ?_ ?_|(apply Ca.mk<;>intro _)|(apply Cv.mk<;>intro zq<;>(try simp only [nc,cl] at zq)<;>(try simp only [bl,dl] at zq)<;>(revert zq;intro _))|((first|apply xE|apply uE);cbv;(try dsimp only [nc] at *)))))))
  any_goals (refine nO ?_;first|exact known_ok|exact h1|(refine hS' ?_ ?_ ?_<;>(try omega)<;>cases a<;>cases b<;>simp_all;done))
  any_goals ((with_reducible refine sO (fun q=>?_));first|exact h3|exact h4|exact h5|exact h6)
  ((all_goals (try (with_reducible ((first|refine rE ?_|refine nE ?_);(focus (cbv;(try dsimp only [nc] at *);(try simp only [wl,nc]);(repeat' (with_reducible apply And.intro));all_goals (try exact wZ)))))));(all_goals (try ((with_reducible rw [aC]);(try simp only [wl,nc]);(repeat' (with_reducible apply And.intro));(all_goals (try exact cZ))))))
  all_goals (try (rcases hX with hX|hX<;>simp_all;done))
theorem LLeast_ok (e d:Nat) (s t u:Ty) (he:e+1≤1073741824) (hs:Ty.le (e+1) d s) (ht:Ty.le (e+1) d t) (hu:Ty.le (e+1) d u) (zs:Ty.sz (e+1) d s) (zt:Ty.sz (e+1) d t) (zu:Ty.sz (e+1) d u) :
    Af Tryz.prog 6 [encT (e+1) d .any fun _=>s,encT (e+1) d .any fun _=>t,encT (e+1) d .any fun _=>u] [] (.bool fun _=>true) []:=by
  by_cases z:chk2 (e+1) d s t=0
  · by_cases w:chkT (e+1) d u=0
    · exact LLeast_good e d s t u he hs ht hu zs zt zu z w
    · exact LLeast_badu e d s t u he hs ht hu zs zt zu z w
  · exact LLeast_bad e d s t u he hs ht hu zs zt zu z
end Go.Ai

namespace Go.Proofs.YtalghhdapjmbbaaGreatDoor
open Go Go.Ai Go.RowKit Go.ChangeShapes Go.WideShapes Go.ChangeAt
set_option maxRecDepth 100000
theorem leas_contract (H:Type) (enc:TypeId×Value→H) (W:World) (base:Nat) (args:Array Value) (ds gs:List (DataW H)) (before:List MemPlace)
    (hval:∀ (j:Nat) t v,Tryz.f6.params[j]? = some t→args[j]? = some v→Value.okWide Tryz.prog W .any base t v)
    (hW:DataW.Whole enc Tryz.prog Tryz.f6.params.toList Rows.subtypeLeastSpec.vars false W args.toList ds gs before) (hk:Rows.uptoSmall H (ds++gs)=true) (hL:laidMetH Tryz.prog Rows.subtypeLeastUptoRow.laid W) :
    Calls Tryz.prog 6 args W fun e W'=>∃ v,e=.returned v∧Rows.subtypeLeastSpec.post enc Tryz.prog Tryz.f6 false true false false W args v W':=by
  have hW':=hW
  obtain ⟨p,q,hA,hV,rfl,_,_⟩:=hW
  obtain rfl:=vars_nil hV
  rw [Tryz.params6] at hA hval
  obtain ⟨v0,vs0,d0,ds0,pa0,pb0,hargs,rfl,rfl,t0,r0⟩:=trodAll_cons hA
  obtain ⟨v1,vs1,d1,ds1,pa1,pb1,rfl,rfl,rfl,t1,r1⟩:=trodAll_cons r0
  obtain ⟨v2,vs2,d2,ds2,pa2,pb2,rfl,rfl,rfl,t2,r2⟩:=trodAll_cons r1
  obtain ⟨rfl,rfl,rfl⟩:=trodAll_nil r2
  obtain rfl:args=#[v0,v1,v2]:=by cases args;simp_all
  have hb:Rows.uptoBulkAll ([d0,d1,d2]++[])≤1048576:=of_decide_eq_true hk
  simp only [List.append_nil,Rows.uptoBulkAll] at hb
  obtain ⟨x0,h0,z0,a0⟩:=open_type t0 (by omega)
  obtain ⟨x1,h1,z1,a1⟩:=open_type t1 (by omega)
  obtain ⟨x2,h2,z2,a2⟩:=open_type t2 (by omega)
  refine (calls_law (LLeast_ok 1048575 1048576 x0 x1 x2 (by decide) h0 h1 h2 z0 z1 z2) rfl (tabs_of hL) fun i av hi=>?_).mono fun e W' ⟨he,hbel⟩=>⟨_,he,?_⟩
  · match i with
    | 0=>simp only [List.getElem?_cons_zero,Option.some.injEq] at hi;subst hi;exact a0
    | 1=>simp only [List.getElem?_cons_zero,List.getElem?_cons_succ,Option.some.injEq] at hi;subst hi;exact a1
    | 2=>simp only [List.getElem?_cons_zero,List.getElem?_cons_succ,Option.some.injEq] at hi;subst hi;exact a2
    | i+3=>simp at hi
  · refine post_law (s:=Rows.subtypeLeastSpec) rfl (by kernel_rfl) rfl ?_ hW' hbel
    rw [Tryz.params6]
    intro t ht
    obtain rfl:t=26:=by simpa using ht
    exact ⟨by kernel_rfl,of_decide_eq_true (by kernel_rfl)⟩
theorem leas_reads (os:Os) {H:Type} (enc:TypeId×Value→H):∃ places,DataW.whole enc Tryz.prog ((lW os).forCall (fun _ _=>0) ⟨#[],#[.agg #[.int .i64 0,.int .i64 0,.int .i64 0,.int .i64 0,.slice none 0 0,.slice none 0 0,.slice none 0 0],.agg #[.int .i64 0,.int .i64 0,.int .i64 0,.int .i64 0,.slice none 0 0,.slice none 0 0,.slice none 0 0],.agg #[.int .i64 0,.int .i64 0,.int .i64 0,.int .i64 0,.slice none 0 0,.slice none 0 0,.slice none 0 0]],[]⟩).memory Tryz.f6.params.toList Rows.subtypeLeastSpec.vars false (#[.agg #[.int .i64 0,.int .i64 0,.int .i64 0,.int .i64 0,.slice none 0 0,.slice none 0 0,.slice none 0 0],.agg #[.int .i64 0,.int .i64 0,.int .i64 0,.int .i64 0,.slice none 0 0,.slice none 0 0,.slice none 0 0],.agg #[.int .i64 0,.int .i64 0,.int .i64 0,.int .i64 0,.slice none 0 0,.slice none 0 0,.slice none 0 0]]:Array Value).toList 8=some ([.agg [.lit (.int .i64 0),.lit (.int .i64 0),.lit (.int .i64 0),.lit (.int .i64 0),.nil,.nil,.nil],.agg [.lit (.int .i64 0),.lit (.int .i64 0),.lit (.int .i64 0),.lit (.int .i64 0),.nil,.nil,.nil],.agg [.lit (.int .i64 0),.lit (.int .i64 0),.lit (.int .i64 0),.lit (.int .i64 0),.nil,.nil,.nil]],[],places) :=
  ⟨[],by kernel_rfl⟩
theorem leas_laid (os:Os):laidMet Tryz.prog Rows.subtypeLeastUptoRow.laid ((lW os).forCall (fun _ _=>0) ⟨#[],#[.agg #[.int .i64 0,.int .i64 0,.int .i64 0,.int .i64 0,.slice none 0 0,.slice none 0 0,.slice none 0 0],.agg #[.int .i64 0,.int .i64 0,.int .i64 0,.int .i64 0,.slice none 0 0,.slice none 0 0,.slice none 0 0],.agg #[.int .i64 0,.int .i64 0,.int .i64 0,.int .i64 0,.slice none 0 0,.slice none 0 0,.slice none 0 0]],[]⟩).memory :=
  laidMet_of_run' 8 (by kernel_rfl) (by kernel_rfl)
theorem leas_lifted (os:Os) (started:os.Started) (H:Type) (enc:TypeId×Value→H) (F:Stop.Interp) :
    ReturnsInHanded {} Tryz.checked os 6 .any ((Rows.OpenSpec.upto Rows.subtypeLeastSpec).preRow enc Tryz.prog Tryz.f6 Rows.subtypeLeastUptoRow.domain false Rows.subtypeLeastUptoRow.laid) (((Rows.OpenSpec.upto Rows.subtypeLeastSpec).at F).post enc Tryz.prog Tryz.f6 false true false false):=by
  obtain ⟨places,hx⟩:=leas_reads os enc
  refine returnsInHanded_of_row (C:=Tryz.checked) (s:=Rows.OpenSpec.upto Rows.subtypeLeastSpec) own4 started (by kernel_rfl) Tryz.func6
    (witness_row_at (enc:=enc) (C:=Tryz.checked) false (lW os) #[.agg #[.int .i64 0,.int .i64 0,.int .i64 0,.int .i64 0,.slice none 0 0,.slice none 0 0,.slice none 0 0],.agg #[.int .i64 0,.int .i64 0,.int .i64 0,.int .i64 0,.slice none 0 0,.slice none 0 0,.slice none 0 0],.agg #[.int .i64 0,.int .i64 0,.int .i64 0,.int .i64 0,.slice none 0 0,.slice none 0 0,.slice none 0 0]] rfl (by kernel_rfl) (by kernel_rfl) (by kernel_rfl)
      (OpenSpec.preRow_of_cond 8 hx (by kernel_rfl) (fun k hk=>by cases hk;kernel_rfl) (by kernel_rfl) (leas_laid os))) ?_
  intro W base args ds gs before hval hW _ hcond _ hL _ _
  exact leas_contract H enc W base args ds gs before hval hW (hcond _ rfl) hL
theorem leas_said:Rows.SubtypeLeastUptoSaid :=
  OpenClaim.holds_of_cond 6 Tryz.f6 rfl rfl rfl rfl rfl rfl rfl ⟨rfl,rfl,rfl,rfl,rfl⟩ rfl rfl rfl rfl rfl (by kernel_rfl) Tryz.func6 (by kernel_rfl)
    (of_decide_eq_true (by kernel_rfl)) (by unfold Func.isWrapper;first|(rw [if_pos (by decide +kernel)];kernel_rfl)|(rw [if_neg (by decide +kernel)];exact ⟨rfl,rfl⟩))
    (fun os started H enc _ F=>by rw [OpenClaim.pre_eq_preRow];exact leas_lifted os started H enc F)
theorem leas_plain (f:FuncId) (fn:Func) (hf:Tryz.pinned.checked.prog.funcNamed Rows.subtypeLeastUptoRow.func=some f) (hfn:Tryz.pinned.checked.prog.funcs[f]? = some fn) :
    false=Tryz.pinned.checked.prog.looks []∧∀ (j:Nat) t,fn.params[j]? = some t→Tryz.pinned.checked.prog.wantsStandIn t=false:=by
  obtain rfl:f=6:=Option.some.inj ((show Tryz.prog.funcNamed Rows.subtypeLeastUptoRow.func=some 6 by kernel_rfl).symm.trans hf) |>.symm
  obtain rfl:fn=Tryz.f6:=(Option.some.inj (Tryz.func6.symm.trans hfn)).symm
  refine ⟨by kernel_rfl,fun j t ht=>?_⟩
  rw [Tryz.params6] at ht
  have hm:=Array.mem_of_getElem? ht
  obtain rfl:t=26:=by simpa using hm
  exact (show Tryz.prog.wantsStandIn 26=false by kernel_rfl)
theorem subtypeLeast_holds:Rows.SubtypeLeastUptoCardSaid :=
  Claim7.holds_tied_plain_at .later [] _ _ _ _ leas_said (fun _ h=>by cases h) (by kernel_rfl) (fun _ h=>by cases h) subtypeLeastUpto_row_tie rfl ⟨rfl,rfl⟩ (by kernel_rfl) rfl leas_plain (by kernel_rfl)
#print axioms subtypeLeast_holds
end Go.Proofs.YtalghhdapjmbbaaGreatDoor
