/- Chapter 17: the law FormulaPrints. -/
import Derived.Test.YtbagpkiomjlhkaaGreatDoorMdD
import Derived.Test.YtbagpkiomjlhkaaGreatDoorKnA
import Derived.Test.YtbagpkiomjlhkaaGreatDoorOpX
set_option linter.all false
namespace Go.Ai
open Go Go.Proofs
set_option maxRecDepth 100000
set_option maxHeartbeats 4000000
theorem pv_size {s:ByteArray} (h:(abo s).2=0):s.size≤200:=ajK s h
theorem X.aaR {P Q:X→Prop}:∀ {k:Nat} {x:X},X.all P k x→X.all Q k x→X.all (fun x=>P x∧Q x) k x
 | 0,_,_,_=>trivial
 | _+1,_,h,g=>⟨⟨h.1,g.1⟩,fun y hy=>X.aaR (h.2 y hy) (g.2 y hy)⟩
theorem X.all_le {e:Nat}:∀ {k:Nat} {x:X},X.le e k x→X.all (fun x=>∀ v ∈ x.value,V.le e v) k x
 | 0,_,h=>h.elim
 | _+1,_,h=>⟨h.2.2.2.1,fun y hy=>X.all_le (h.2.2.2.2 y hy)⟩
theorem law_prt (e D:Nat) (he:e+1≤1073741824) (x:X) (hx:X.le (e+1) (D+1) x):Af Tryz.prog 3 [encX (e+1) (D+1) .any fun _=>x] [] (.bool fun _=>true) []:=by
 obtain ⟨one,hone⟩:∃ one:X→Int,one=oneX (ckV e) abo:=⟨_,rfl⟩
 have hP:∀ D x,X.le (e+1) (D+1) x→True→Af Tryz.prog 42 [encX (e+1) (D+1) .any fun _=>x] [] (.int .i64 fun _=>one x) []:=fun D x hx _=>by
  rw [hone]
  refine one_ok (ckV e) abo e (D+1) x ⟨hx.2.1,hx.2.2.1⟩ (fun _=>⟨adL x.text (Nat.le_trans hx.1 (by decide)),Nat.le_trans (ahn _) (by decide)⟩) (fun h1 h2=>ckV_ok e he _ ?_)
  refine hx.2.2.2.1 _ ?_
  simp only [List.getD,List.getElem?_eq_getElem (show 0<x.value.length by omega)]
  exact List.getElem_mem _
 have hT:∀ (k:Nat) (x:X),X.all (fun _=>True) k x:=by
  intro k
  induction k with
  | zero=>intro _;trivial
  | succ k ih=>intro x;exact ⟨trivial,fun y _=>ih y⟩
 have h1:=ae9 one e (fun _=>True) hP D x hx (hT 9 x)
 have h0:=akX
 obtain ⟨b,h2⟩:=aky e (D+1) D x hx hx
 by_cases hc:ckX one x=0
 ·obtain ⟨c1,c2,c3⟩:=ck_zero hx hc
  obtain ⟨lit,l1,l2⟩:=lit_all e he
  rw [hone] at c2
  have c4:X.all (fun x=>OneF (ckV e) abo x) 9 x:=X.acA (fun _ h=>amn h) c2
  have c5:X.all (fun x=>(shpX x∧litX lit e x)∧modX x) 9 x:=X.acA (fun y h=>by
   obtain ⟨f,hv⟩:=h
   obtain ⟨s1,s2⟩:=one_shp f
   refine ⟨⟨s1,fun ho=>?_⟩,s2⟩
   obtain ⟨v1,v2,v3⟩:=af6 (f.val ho)
   refine l2 _ (hv _ ?_) v3 v2
   simp only [List.getD,List.getElem?_eq_getElem (show 0<y.value.length by omega)]
   exact List.getElem_mem _) (X.aaR c4 (X.all_le c3))
  have c6:X.all (fun x=>x.text.size≤200) 9 x:=X.acA (fun y f=>by
   by_cases q:abJ y.op=true
   ·exact pv_size (f.path (fun k=>by rw [k] at q;exact absurd q (by decide)) q)
   ·rw [f.text (by simpa using q)];exact Nat.zero_le _) c4
  have hw:=wX_le l1 c3 c6
  have h3:=air lit e 9 D x 0 hx c3 (X.acA (fun _ h=>h.1) c5) (by omega) (by decide) (by decide)
  have h4:=ajR lit e 9 D x 1 hx c3 c5 (by omega) (by decide) (by decide)
  have h5:=aeU e 9 D x hx c3
  have h6:=ajz e 9 D x hx c3
  rw [an5 c3 c4] at h5
  have h01:txtN lit 9 x 1=txtN lit 9 x 0:=by
   have:=agR x.op
   unfold txtN
   rw [if_neg (by omega),if_neg (by omega)]
  rw [h01] at h4
  rw [hc] at h1
  have h7:=agp e D x 0 (rsvX 9 x) (txtN lit 9 x 0) h1 (fun _=>h5) (fun _ _=>h3)
  clear hP hT hone c1 c2 c4 c5 c6 hw h01 h3 h5 l1 l2 hc
  generalize txtN lit 9 x 0=t at *
  cases hr:rsvX 9 x with
  | true =>
   rw [hr] at h6 h7
   rw [if_neg (by simp),if_pos rfl,if_pos rfl] at h7
   (apply Af.of tF mF [.tmp 2] kp3 [(1,[(0,.bool fun _=>true,[]),(4,.bool fun _=>b,[])]),(2,[(0,.bool fun _=>true,[])]),(3,[(1,.tup [.str fun _=>⟨#[]⟩,.int .i64 fun _=>12],[])]),(4,[(1,.int .i64 fun _=>0,[])]),(5,[(4,.bool fun _=>true,[])]),(9,[(2,.str fun _=>t,[])])] Tryz.func3 (fun _=>?_);(any_goals ((with_reducible refine wI ?_);cbv;(try dsimp only [nc] at *);(repeat' (with_reducible first|exact ‹False›.elim|exact nZ|refine oC ?_ ?_|refine VC.mk rfl ?_ ?_ ?_|(apply Ca.mk<;>intro _)|refine cV (fun _=>?_) fun _=>?_|((first|apply xE|apply uE);cbv;(try dsimp only [nc] at *)))))))
   all_goals (try simp only [ite_self])
   any_goals ((with_reducible first|refine nO ?_|refine sO (fun _=>?_));first|exact h0|exact h1|exact h2|exact h4|exact h6|exact h7)
   (all_goals exact eZ)
  | false =>
   rw [hr] at h6 h7
   rw [if_pos ⟨rfl,rfl⟩,if_pos rfl,if_neg (by simp)] at h7
   (apply Af.of tF mF [.tmp 2] kp3 [(1,[(0,.bool fun _=>true,[]),(4,.bool fun _=>b,[])]),(2,[(0,.bool fun _=>true,[])]),(3,[(1,.tup [.str fun _=>t,.int .i64 fun _=>0],[])]),(4,[(1,.int .i64 fun _=>0,[])]),(5,[(4,.bool fun _=>false,[])]),(9,[(2,.str fun _=>t,[])])] Tryz.func3 (fun _=>?_);(any_goals ((with_reducible refine wI ?_);cbv;(try dsimp only [nc] at *);(repeat' (with_reducible first|exact ‹False›.elim|exact nZ|refine oC ?_ ?_|refine VC.mk rfl ?_ ?_ ?_|(apply Ca.mk<;>intro _)|refine cV (fun _=>?_) fun _=>?_|((first|apply xE|apply uE);cbv;(try dsimp only [nc] at *)))))))
   all_goals (try simp only [ite_self])
   any_goals ((with_reducible first|refine nO ?_|refine sO (fun _=>?_));first|exact h0|exact h1|exact h2|exact h4|exact h6|exact h7)
   (all_goals exact eZ)
 ·have h3:=agp e D x (ckX one x) true ⟨#[]⟩ h1 (fun q=>absurd q hc) (fun q=>absurd q hc)
  rw [if_neg (fun q=>hc q.1),if_neg hc] at h3
  generalize ckX one x=c at *
  clear hP hT hone
  (apply Af.of tF mF [.tmp 2] kp3 [(1,[(0,.bool fun _=>true,[]),(4,.bool fun _=>b,[])]),(2,[(0,.bool fun _=>true,[])]),(3,[(1,.tup [.str fun _=>⟨#[]⟩,.int .i64 fun _=>c],[])]),(4,[(1,.int .i64 fun _=>c,[])]),(5,[(4,.bool fun _=>true,[])]),(9,[(2,.str fun _=>⟨#[]⟩,[])])] Tryz.func3 (fun _=>?_);(any_goals ((with_reducible refine wI ?_);cbv;(try dsimp only [nc] at *);(repeat' (with_reducible first|exact ‹False›.elim|exact nZ|refine oC ?_ ?_|refine VC.mk rfl ?_ ?_ ?_|(apply Ca.mk<;>intro _)|refine cV (fun _=>?_) fun _=>?_|((first|apply xE|apply uE);cbv;(try dsimp only [nc] at *)))))))
  all_goals (try simp only [ite_self])
  all_goals (try (exact absurd (‹c=0∧True›).1 hc))
  all_goals (try (exact absurd ‹c=0› hc))
  any_goals ((with_reducible refine nO ?_);first|exact h0|exact h1|exact h2|exact h3)
  any_goals ((with_reducible refine sO (fun hg=>?_));first|exact h2|exact absurd (show c=0 by simpa using hg) hc)
  ((all_goals (try (with_reducible ((first|refine rE ?_|refine nE ?_);cbv;(try dsimp only [nc] at *);(try simp only [wl,nc]);(repeat' apply And.intro);all_goals (try exact wZ)))));(all_goals (try ((with_reducible rw [aC]);(try simp only [wl,nc]);(repeat' (with_reducible apply And.intro));(all_goals (try exact cZ))))))
  all_goals simp
end Go.Ai

set_option maxRecDepth 100000
namespace Go.Proofs.YtbagpkiomjlhkaaGreatDoor
open Go Go.Ai Go.RowKit Go.ChangeShapes Go.WideShapes Go.ChangeAt
set_option maxRecDepth 100000
set_option maxHeartbeats 4000000
theorem ahO (H:Type) (enc:TypeId×Value→H) (W:World) (base:Nat) (args:Array Value) (ds gs:List (DataW H)) (before:List MemPlace)
 (hval:∀ (j:Nat) t v,Tryz.f3.params[j]? = some t→args[j]? = some v→Value.okWide Tryz.prog W .any base t v)
 (hW:DataW.Whole enc Tryz.prog Tryz.f3.params.toList Rows.formulaPrintsSpec.vars false W args.toList ds gs before) (hk:Rows.uptoSmall H (ds++gs)=true) (hL:laidMetH Tryz.prog Rows.formulaPrintsUptoRow.laid W) (hS:W.ShapedOpen Tryz.prog) :
 Calls Tryz.prog 3 args W fun e W'=>∃ v,e=.returned v∧Rows.formulaPrintsSpec.post enc Tryz.prog Tryz.f3 false true false false W args v W':=by
 have hW':=hW
 obtain ⟨p,q,hA,hV,rfl,_,_⟩:=hW
 obtain rfl:=vars_nil hV
 rw [Tryz.params3] at hA hval
 obtain ⟨v0,vs0,d0,ds0,pa0,pb0,hargs,rfl,rfl,t0,r0⟩:=trodAll_cons hA
 obtain ⟨rfl,rfl,rfl⟩:=trodAll_nil r0
 obtain rfl:args=#[v0]:=by cases args;simp_all
 have hb:Rows.uptoBulkAll ([d0]++[])≤1048576:=of_decide_eq_true hk
 simp only [List.append_nil,Rows.uptoBulkAll] at hb
 obtain ⟨x0,h0,a0⟩:=amk t0 (by omega)
 refine (anp (law_prt 1048575 1048575 (by decide) x0 h0) rfl (tabs_of hL hS) fun i av hi=>?_).mono fun e W' ⟨he,hbel⟩=>⟨_,he,?_⟩
 ·match i with
  | 0=>simp only [List.getElem?_cons_zero,Option.some.injEq] at hi;subst hi;exact a0
  | i+1=>simp at hi
 ·refine post_law (s:=Rows.formulaPrintsSpec) rfl (by kernel_rfl) rfl ?_ hW' hbel
  rw [Tryz.params3]
  intro t ht
  obtain rfl:t=25:=by simpa using ht
  exact ⟨by kernel_rfl,of_decide_eq_true (by kernel_rfl)⟩
theorem an6 (os:Os) {H:Type} (enc:TypeId×Value→H):∃ places,DataW.whole enc Tryz.prog ((lW os).forCall (fun _ _=>0) ⟨#[],#[.agg #[.int .i64 0,.int .i64 0,.string ⟨#[]⟩,.slice none 0 0,.slice none 0 0]],[]⟩).memory Tryz.f3.params.toList Rows.formulaPrintsSpec.vars false (#[.agg #[.int .i64 0,.int .i64 0,.string ⟨#[]⟩,.slice none 0 0,.slice none 0 0]]:Array Value).toList 8=some ([.agg [.lit (.int .i64 0),.lit (.int .i64 0),.lit (.string []),.nil,.nil]],[],places) :=
 ⟨[],by kernel_rfl⟩
theorem fpr_laid (os:Os):laidMet Tryz.prog Rows.formulaPrintsUptoRow.laid ((lW os).forCall (fun _ _=>0) ⟨#[],#[.agg #[.int .i64 0,.int .i64 0,.string ⟨#[]⟩,.slice none 0 0,.slice none 0 0]],[]⟩).memory :=
 akU os _
theorem al0 (os:Os) (started:os.Started) (H:Type) (enc:TypeId×Value→H) (F:Stop.Interp) :
 ReturnsInHanded {} Tryz.checked os 3 .any ((Rows.OpenSpec.upto Rows.formulaPrintsSpec).preRow enc Tryz.prog Tryz.f3 Rows.formulaPrintsUptoRow.domain false Rows.formulaPrintsUptoRow.laid) (((Rows.OpenSpec.upto Rows.formulaPrintsSpec).at F).post enc Tryz.prog Tryz.f3 false true false false):=by
 obtain ⟨places,hx⟩:=an6 os enc
 refine returnsInHanded_of_row (C:=Tryz.checked) (s:=Rows.OpenSpec.upto Rows.formulaPrintsSpec) own4 started (by kernel_rfl) Tryz.func3
  (witness_row_at (enc:=enc) (C:=Tryz.checked) false (lW os) #[.agg #[.int .i64 0,.int .i64 0,.string ⟨#[]⟩,.slice none 0 0,.slice none 0 0]] rfl (by kernel_rfl) (by kernel_rfl) (by kernel_rfl)
    (OpenSpec.preRow_of_cond 8 hx (by kernel_rfl) (fun k hk=>by cases hk;kernel_rfl) (by kernel_rfl) (fpr_laid os))) ?_
 intro W base args ds gs before hval hW _ hcond _ hL hS _
 exact ahO H enc W base args ds gs before hval hW (hcond _ rfl) hL hS
theorem al1:joinedFacts Tryz.pinned.checked.prog 3 Tryz.f3 (Rows.OpenSpec.upto Rows.formulaPrintsSpec).bare Rows.formulaPrintsUptoRow=true:=by
 unfold joinedFacts
 simp only [Bool.and_eq_true]
 repeat' (with_reducible apply And.intro)
 all_goals (as_aux_lemma=>kernel_rfl)
theorem fpr_said:Rows.FormulaPrintsUptoSaid :=
 OpenClaim.holds_of_cond 3 Tryz.f3 rfl rfl rfl rfl rfl rfl rfl ⟨rfl,rfl,rfl,rfl,rfl⟩ rfl rfl rfl rfl rfl (by kernel_rfl) Tryz.func3 al1
  (of_decide_eq_true (by kernel_rfl)) (by unfold Func.isWrapper;first|(rw [if_pos (by decide +kernel)];kernel_rfl)|(rw [if_neg (by decide +kernel)];exact ⟨rfl,rfl⟩))
  (fun os started H enc _ F=>by rw [OpenClaim.pre_eq_preRow];exact al0 os started H enc F)
theorem an7 (f:FuncId) (fn:Func) (hf:Tryz.pinned.checked.prog.funcNamed Rows.formulaPrintsUptoRow.func=some f) (hfn:Tryz.pinned.checked.prog.funcs[f]? = some fn) :
 true=Tryz.pinned.checked.prog.looks []∧∀ (j:Nat) t,fn.params[j]? = some t→Tryz.pinned.checked.prog.wantsStandIn t=false:=by
 obtain rfl:f=3:=Option.some.inj ((show Tryz.prog.funcNamed Rows.formulaPrintsUptoRow.func=some 3 by kernel_rfl).symm.trans hf) |>.symm
 obtain rfl:fn=Tryz.f3:=(Option.some.inj (Tryz.func3.symm.trans hfn)).symm
 refine ⟨by kernel_rfl,fun j t ht=>?_⟩
 rw [Tryz.params3] at ht
 have hm:=Array.mem_of_getElem? ht
 obtain rfl:t=25:=by simpa using hm
 exact (show Tryz.prog.wantsStandIn 25=false by kernel_rfl)
theorem formulaPrints_holds:Rows.FormulaPrintsUptoCardSaid :=
 Claim7.holds_tied_plain_at .later [] _ _ _ _ fpr_said (fun _ h=>by cases h) (by kernel_rfl) (fun _ h=>by cases h) formulaPrintsUpto_row_tie rfl ⟨rfl,rfl⟩ (by kernel_rfl) rfl an7 (by kernel_rfl)
#print axioms formulaPrints_holds
end Go.Proofs.YtbagpkiomjlhkaaGreatDoor
