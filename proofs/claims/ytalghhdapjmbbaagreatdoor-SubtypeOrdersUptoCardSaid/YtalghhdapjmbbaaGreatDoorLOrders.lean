/- SubtypeOrders. -/
import Derived.Test.YtalghhdapjmbbaaGreatDoorSubL
import Derived.Test.YtalghhdapjmbbaaGreatDoorReadT
set_option linter.all false
namespace Go.Ai
open Go Go.Proofs
set_option maxRecDepth 100000
set_option maxHeartbeats 4000000
theorem Orders_ok (e d:Nat) (s t u:Ty) (he:e+1≤1073741824) (hs:Ty.le (e+1) d s) (ht:Ty.le (e+1) d t) (hu:Ty.le (e+1) d u) :
    Af Tryz.prog 4 [encT (e+1) d .any fun _=>s,encT (e+1) d .any fun _=>t,encT (e+1) d .any fun _=>u] [] (.bool fun _=>true) []:=by
  have h1:=Within_ok e d s t he hs ht
  have h2:=Within_ok e d t u he ht hu
  have h3:=Within_ok e d s u he hs hu
  have h4:=Within_ok e d s s he hs hs
  have hall:chk2 (e+1) d s t=0→chk2 (e+1) d t u=0→chk2 (e+1) d s u=0∧chk2 (e+1) d s s=0∧withinB d s s=true∧(withinB d s t=true→withinB d t u=true→withinB d s u=true):=fun z1 z2=>by
    have c1:=chk2_zero.1 z1
    have c2:=chk2_zero.1 z2
    exact ⟨chk2_zero.2 ⟨c1.1,c2.2⟩,chk2_zero.2 ⟨c1.1,c1.1⟩,withinB_refl _ _ _ (chkT_ok hs c1.1),withinB_trans _ _ _ _ _ (chkT_ok hs c1.1) (chkT_ok ht c1.2) (chkT_ok hu c2.2)⟩
  generalize chk2 (e+1) d s t=K1 at h1 hall
  generalize chk2 (e+1) d t u=K2 at h2 hall
  generalize chk2 (e+1) d s u=K3 at h3 hall
  generalize chk2 (e+1) d s s=K4 at h4 hall
  generalize withinB d s t=a at h1 hall
  generalize withinB d t u=b at h2 hall
  generalize withinB d s u=c at h3 hall
  generalize withinB d s s=g at h4 hall
  obtain ⟨d,rfl⟩:=Ty.lP hs
  (apply Af.of tF mF [.tmp 6] kp4 [(1,[(2,.tup [.bool fun _=>decide (K1=0) && a,.int .i64 fun _=>K1],[])]),(2,[(2,.tup [.bool fun _=>decide (K2=0) && b,.int .i64 fun _=>K2],[])]),(3,[(2,.tup [.bool fun _=>decide (K3=0) && c,.int .i64 fun _=>K3],[])]),
    (4,[(0,.bool fun _=>true,[])]),(5,[(0,.bool fun _=>true,[])]),(6,[(2,.tup [.bool fun _=>decide (K4=0) && g,.int .i64 fun _=>K4],[])])] Tryz.func4 (fun _=>?_);(any_goals ((with_reducible refine wI ?_);cbv;(try dsimp only [nc] at *);(repeat' (with_reducible first|exact aO|exact oN|refine oC ?_ ?_|refine VC.mk rfl ?_ ?_ ?_|(apply Ca.mk<;>intro _)|(apply Cv.mk<;>intro zq<;>(try simp only [nc,cl] at zq)<;>(try simp only [bl,dl] at zq)<;>(revert zq;intro _))|((first|apply xE|apply uE);cbv;(try dsimp only [nc] at *)))))))
  (any_goals ((with_reducible refine bZ ?_);(try dsimp only);(have q:=h1;refine Af.wN q ?_;clear q);(focus (cbv;(try dsimp only [nc] at *);(try simp only [wl,nc]);(repeat' (with_reducible apply And.intro));all_goals (try exact wZ)))))
  (any_goals ((with_reducible refine bZ ?_);(try dsimp only);(have q:=h2;refine Af.wN q ?_;clear q);(focus (cbv;(try dsimp only [nc] at *);(try simp only [wl,nc]);(repeat' (with_reducible apply And.intro));all_goals (try exact wZ)))))
  (any_goals ((with_reducible refine bZ ?_);(try dsimp only);(have q:=h3;refine Af.wN q ?_;clear q);(focus (cbv;(try dsimp only [nc] at *);(try simp only [wl,nc]);(repeat' (with_reducible apply And.intro));all_goals (try exact wZ)))))
  (any_goals ((with_reducible refine bZ ?_);(try dsimp only);(have q:=h4;refine Af.wN q ?_;clear q);(focus (cbv;(try dsimp only [nc] at *);(try simp only [wl,nc]);(repeat' (with_reducible apply And.intro));all_goals (try exact wZ)))))
  (any_goals ((with_reducible refine bZ ?_)<;>exact known_ok))
  ((all_goals (try (with_reducible ((first|refine rE ?_|refine nE ?_);(focus (cbv;(try dsimp only [nc] at *);(try simp only [wl,nc]);(repeat' (with_reducible apply And.intro));all_goals (try exact wZ)))))));(all_goals (try ((with_reducible rw [aC]);(try simp only [wl,nc]);(repeat' (with_reducible apply And.intro));(all_goals (try exact cZ))))))
  · intro p q;rw [p,q];rfl
  · intro p q;rw [p,q];rfl
  · rename_i h
    obtain ⟨k3,k4,rfl,hc⟩:=hall h.1.2 h.2
    rw [k3,k4,h.1.2,h.2]
    cases a<;>cases b<;>cases c<;>simp_all
end Go.Ai

namespace Go.Proofs.YtalghhdapjmbbaaGreatDoor
open Go Go.Ai Go.RowKit Go.ChangeShapes Go.WideShapes Go.ChangeAt
set_option maxRecDepth 100000
theorem ords_contract (H:Type) (enc:TypeId×Value→H) (W:World) (base:Nat) (args:Array Value) (ds gs:List (DataW H)) (before:List MemPlace)
    (hval:∀ (j:Nat) t v,Tryz.f4.params[j]? = some t→args[j]? = some v→Value.okWide Tryz.prog W .any base t v)
    (hW:DataW.Whole enc Tryz.prog Tryz.f4.params.toList Rows.subtypeOrdersSpec.vars false W args.toList ds gs before) (hk:Rows.uptoSmall H (ds++gs)=true) (hL:laidMetH Tryz.prog Rows.subtypeOrdersUptoRow.laid W) :
    Calls Tryz.prog 4 args W fun e W'=>∃ v,e=.returned v∧Rows.subtypeOrdersSpec.post enc Tryz.prog Tryz.f4 false true false false W args v W':=by
  have hW':=hW
  obtain ⟨p,q,hA,hV,rfl,_,_⟩:=hW
  obtain rfl:=vars_nil hV
  rw [Tryz.params4] at hA hval
  obtain ⟨v0,vs0,d0,ds0,pa0,pb0,hargs,rfl,rfl,t0,r0⟩:=trodAll_cons hA
  obtain ⟨v1,vs1,d1,ds1,pa1,pb1,rfl,rfl,rfl,t1,r1⟩:=trodAll_cons r0
  obtain ⟨v2,vs2,d2,ds2,pa2,pb2,rfl,rfl,rfl,t2,r2⟩:=trodAll_cons r1
  obtain ⟨rfl,rfl,rfl⟩:=trodAll_nil r2
  obtain rfl:args=#[v0,v1,v2]:=by cases args;simp_all
  have hb:Rows.uptoBulkAll ([d0,d1,d2]++[])≤1048576:=of_decide_eq_true hk
  simp only [List.append_nil,Rows.uptoBulkAll] at hb
  obtain ⟨x0,h0,z0,a0⟩:=open_type t0 (by omega)
  obtain ⟨x1,h1,z1,a1⟩:=open_type t1 (by omega)
  obtain ⟨x2,h2,z2,a2⟩:=open_type t2 (by omega)
  refine (calls_law (Orders_ok 1048575 1048576 x0 x1 x2 (by decide) h0 h1 h2) rfl (tabs_of hL) fun i av hi=>?_).mono fun e W' ⟨he,hbel⟩=>⟨_,he,?_⟩
  · match i with
    | 0=>simp only [List.getElem?_cons_zero,Option.some.injEq] at hi;subst hi;exact a0
    | 1=>simp only [List.getElem?_cons_zero,List.getElem?_cons_succ,Option.some.injEq] at hi;subst hi;exact a1
    | 2=>simp only [List.getElem?_cons_zero,List.getElem?_cons_succ,Option.some.injEq] at hi;subst hi;exact a2
    | i+3=>simp at hi
  · refine post_law (s:=Rows.subtypeOrdersSpec) rfl (by kernel_rfl) rfl ?_ hW' hbel
    rw [Tryz.params4]
    intro t ht
    obtain rfl:t=26:=by simpa using ht
    exact ⟨by kernel_rfl,of_decide_eq_true (by kernel_rfl)⟩
theorem ords_reads (os:Os) {H:Type} (enc:TypeId×Value→H):∃ places,DataW.whole enc Tryz.prog ((lW os).forCall (fun _ _=>0) ⟨#[],#[.agg #[.int .i64 0,.int .i64 0,.int .i64 0,.int .i64 0,.slice none 0 0,.slice none 0 0,.slice none 0 0],.agg #[.int .i64 0,.int .i64 0,.int .i64 0,.int .i64 0,.slice none 0 0,.slice none 0 0,.slice none 0 0],.agg #[.int .i64 0,.int .i64 0,.int .i64 0,.int .i64 0,.slice none 0 0,.slice none 0 0,.slice none 0 0]],[]⟩).memory Tryz.f4.params.toList Rows.subtypeOrdersSpec.vars false (#[.agg #[.int .i64 0,.int .i64 0,.int .i64 0,.int .i64 0,.slice none 0 0,.slice none 0 0,.slice none 0 0],.agg #[.int .i64 0,.int .i64 0,.int .i64 0,.int .i64 0,.slice none 0 0,.slice none 0 0,.slice none 0 0],.agg #[.int .i64 0,.int .i64 0,.int .i64 0,.int .i64 0,.slice none 0 0,.slice none 0 0,.slice none 0 0]]:Array Value).toList 8=some ([.agg [.lit (.int .i64 0),.lit (.int .i64 0),.lit (.int .i64 0),.lit (.int .i64 0),.nil,.nil,.nil],.agg [.lit (.int .i64 0),.lit (.int .i64 0),.lit (.int .i64 0),.lit (.int .i64 0),.nil,.nil,.nil],.agg [.lit (.int .i64 0),.lit (.int .i64 0),.lit (.int .i64 0),.lit (.int .i64 0),.nil,.nil,.nil]],[],places) :=
  ⟨[],by kernel_rfl⟩
theorem ords_laid (os:Os):laidMet Tryz.prog Rows.subtypeOrdersUptoRow.laid ((lW os).forCall (fun _ _=>0) ⟨#[],#[.agg #[.int .i64 0,.int .i64 0,.int .i64 0,.int .i64 0,.slice none 0 0,.slice none 0 0,.slice none 0 0],.agg #[.int .i64 0,.int .i64 0,.int .i64 0,.int .i64 0,.slice none 0 0,.slice none 0 0,.slice none 0 0],.agg #[.int .i64 0,.int .i64 0,.int .i64 0,.int .i64 0,.slice none 0 0,.slice none 0 0,.slice none 0 0]],[]⟩).memory :=
  laidMet_of_run' 8 (by kernel_rfl) (by kernel_rfl)
theorem ords_lifted (os:Os) (started:os.Started) (H:Type) (enc:TypeId×Value→H) (F:Stop.Interp) :
    ReturnsInHanded {} Tryz.checked os 4 .any ((Rows.OpenSpec.upto Rows.subtypeOrdersSpec).preRow enc Tryz.prog Tryz.f4 Rows.subtypeOrdersUptoRow.domain false Rows.subtypeOrdersUptoRow.laid) (((Rows.OpenSpec.upto Rows.subtypeOrdersSpec).at F).post enc Tryz.prog Tryz.f4 false true false false):=by
  obtain ⟨places,hx⟩:=ords_reads os enc
  refine returnsInHanded_of_row (C:=Tryz.checked) (s:=Rows.OpenSpec.upto Rows.subtypeOrdersSpec) own4 started (by kernel_rfl) Tryz.func4
    (witness_row_at (enc:=enc) (C:=Tryz.checked) false (lW os) #[.agg #[.int .i64 0,.int .i64 0,.int .i64 0,.int .i64 0,.slice none 0 0,.slice none 0 0,.slice none 0 0],.agg #[.int .i64 0,.int .i64 0,.int .i64 0,.int .i64 0,.slice none 0 0,.slice none 0 0,.slice none 0 0],.agg #[.int .i64 0,.int .i64 0,.int .i64 0,.int .i64 0,.slice none 0 0,.slice none 0 0,.slice none 0 0]] rfl (by kernel_rfl) (by kernel_rfl) (by kernel_rfl)
      (OpenSpec.preRow_of_cond 8 hx (by kernel_rfl) (fun k hk=>by cases hk;kernel_rfl) (by kernel_rfl) (ords_laid os))) ?_
  intro W base args ds gs before hval hW _ hcond _ hL _ _
  exact ords_contract H enc W base args ds gs before hval hW (hcond _ rfl) hL
theorem ords_said:Rows.SubtypeOrdersUptoSaid :=
  OpenClaim.holds_of_cond 4 Tryz.f4 rfl rfl rfl rfl rfl rfl rfl ⟨rfl,rfl,rfl,rfl,rfl⟩ rfl rfl rfl rfl rfl (by kernel_rfl) Tryz.func4 (by kernel_rfl)
    (of_decide_eq_true (by kernel_rfl)) (by unfold Func.isWrapper;first|(rw [if_pos (by decide +kernel)];kernel_rfl)|(rw [if_neg (by decide +kernel)];exact ⟨rfl,rfl⟩))
    (fun os started H enc _ F=>by rw [OpenClaim.pre_eq_preRow];exact ords_lifted os started H enc F)
theorem ords_plain (f:FuncId) (fn:Func) (hf:Tryz.pinned.checked.prog.funcNamed Rows.subtypeOrdersUptoRow.func=some f) (hfn:Tryz.pinned.checked.prog.funcs[f]? = some fn) :
    false=Tryz.pinned.checked.prog.looks []∧∀ (j:Nat) t,fn.params[j]? = some t→Tryz.pinned.checked.prog.wantsStandIn t=false:=by
  obtain rfl:f=4:=Option.some.inj ((show Tryz.prog.funcNamed Rows.subtypeOrdersUptoRow.func=some 4 by kernel_rfl).symm.trans hf) |>.symm
  obtain rfl:fn=Tryz.f4:=(Option.some.inj (Tryz.func4.symm.trans hfn)).symm
  refine ⟨by kernel_rfl,fun j t ht=>?_⟩
  rw [Tryz.params4] at ht
  have hm:=Array.mem_of_getElem? ht
  obtain rfl:t=26:=by simpa using hm
  exact (show Tryz.prog.wantsStandIn 26=false by kernel_rfl)
theorem subtypeOrders_holds:Rows.SubtypeOrdersUptoCardSaid :=
  Claim7.holds_tied_plain_at .later [] _ _ _ _ ords_said (fun _ h=>by cases h) (by kernel_rfl) (fun _ h=>by cases h) subtypeOrdersUpto_row_tie rfl ⟨rfl,rfl⟩ (by kernel_rfl) rfl ords_plain (by kernel_rfl)
#print axioms subtypeOrders_holds
end Go.Proofs.YtalghhdapjmbbaaGreatDoor
