/- Chapter 17: the law FormulaReserved. -/
import Derived.Test.YtbagpkiomjlhkaaGreatDoorKnB
import Derived.Test.YtbagpkiomjlhkaaGreatDoorJoin
set_option linter.all false
namespace Go.Ai
open Go Go.Proofs
set_option maxRecDepth 100000
set_option maxHeartbeats 4000000
theorem words19_ok:Af Tryz.prog 19 [] [] (sS rwL) []:=by
  (apply Af.of tF mF [.tmp 0] kp19 [] Tryz.func19 (fun _=>?_);(any_goals ((with_reducible refine wI ?_);cbv;(try dsimp only [nc] at *);(repeat' (with_reducible first|exact aO|exact oN|refine oC ?_ ?_|refine VC.mk rfl ?_ ?_ ?_|(apply Ca.mk<;>intro _)|(apply Cv.mk<;>intro zq<;>(try simp only [nc,cl] at zq)<;>(try simp only [bl,dl] at zq)<;>(revert zq;intro _))|((first|apply xE|apply uE);cbv;(try dsimp only [nc] at *)))))))
  ((all_goals (try (with_reducible ((first|refine rE ?_|refine nE ?_);(focus (cbv;(try dsimp only [nc] at *);(try simp only [wl,nc]);(repeat' (with_reducible apply And.intro));all_goals (try exact wZ)))))));(all_goals (try ((with_reducible rw [aC]);(try simp only [wl,nc]);(repeat' (with_reducible apply And.intro));(all_goals (try exact cZ))))))
  exact lit_str rwL
def dotA:ByteArray:=⟨#[46,97]⟩
def rsvB (w:ByteArray):Bool :=
  match scanV dec1 (w++dotA) with
  | none=>false
  | some L=>decide ((w++dotA).size≤65536) && ((List.range ((w++dotA).size+1)).all (fun i=>byt (w++dotA) i != 34 && (!digB (byt (w++dotA) i) || (!digB (byt (w++dotA) (i+1)) && byt (w++dotA) (i+1) != 46 && byt (w++dotA) (i+1) != 100))) &&
    (L.all (fun t=>decide (t.text.size≤65536) && t.text.data.toList.all (fun b=>decide (b.toNat<128))) && (decide (L.getLast?.map (·.kind)=some 0) && (decide (L.length≤65537) &&
    (decide ((pathF pe1 (.mk L 0 0 0)).1=⟨#[]⟩) && (decide ((pathF pe1 (.mk L 0 0 0)).2.e=13) && (plB 9 (xPath (w++dotA)) && (leB 1 (xPath (w++dotA)) && (decide (ckX (oneP 0) (xPath (w++dotA))=0) && hidV 1 (xPath (w++dotA)))))))))))
theorem rsv_all:rwL.all rsvB=true:=by kernel_rfl
theorem rsv_facts {w:ByteArray} (h:rsvB w=true) (D:Nat):∃ s s':St,(w++dotA).size≤65536∧Af Tryz.prog 20 [.str fun _=>w++dotA] [] (.ptr 19 0) [(19,boxS fun _=>s)]∧Af Tryz.prog 21 [.ptr 1000 0] [(1000,boxS fun _=>s)] (.str fun _=>⟨#[]⟩) [(1000,boxS fun _=>s')]∧s'.e=13 ∧
    Af Tryz.prog 14 [encX 1 (D+1) .any fun _=>xPath (w++dotA)] [] (.tup [.str fun _=>⟨#[]⟩,.int .i64 fun _=>12]) []:=by
  unfold rsvB at h
  obtain ⟨L,hL⟩:∃ L,scanV dec1 (w++dotA)=some L:=by
    cases hL:scanV dec1 (w++dotA) with
    | none=>rw [hL] at h;exact Bool.noConfusion h
    | some L=>exact ⟨L,rfl⟩
  rw [hL] at h
  dsimp only at h
  simp only [Bool.and_eq_true,decide_eq_true_eq] at h
  obtain ⟨a1,a2,a3,a4,a5,a6,a7,a8,a9,b1,b2⟩:=h
  have hp:PlainT dec1 (w++dotA):=plain_of a1 a2
  have hs:OkS (fun t=>t.text.size≤65536∧Asc t.text) (.mk L 0 0 0):=by
    refine ⟨fun t ht=>?_,a5,fun hn=>?_,fun t ht=>?_⟩
    · have ht:L.getLast? = some t:=ht
      rw [ht] at a4
      exact Option.some.inj a4
    · have hn:L=[]:=hn
      rw [hn] at a4;cases a4
    · have:=List.all_eq_true.1 a3 t ht
      simp only [Bool.and_eq_true,List.all_eq_true,decide_eq_true_eq] at this
      exact this
  have h1:=path_ok (P:=fun t=>t.text.size≤65536∧Asc t.text) (fun t h=>h.1) (fun t h=>h.2) (pe:=pe1) (fun t h1 h2=>by rw [← pe1_eq];exact path43_ok t h1 h2) _ hs
  rw [a6] at h1
  have hx:=leB_ok (e:=0) a9
  have hx2:X.le 1 (D+1) (xPath (w++dotA)):=X.le_mono hx (by omega)
  have h2:=checkP_ok 0 (by decide) D _ hx2 (plB_ok a8)
  rw [b1] at h2
  have h3:=hidden_ok 0 1 D _ hx2 hx (plB_asc (k:=1) (x:=xPath (w++dotA)) (by
    simp only [plB,Bool.and_eq_true] at a8 ⊢
    exact ⟨a8.1,a8.2.1,by rfl⟩))
  rw [b2] at h3
  exact ⟨_,_,a1,new_ok hp L hL,h1,a7,print_ok 0 D _ 0 true ⟨#[]⟩ h2 (fun _=>h3) (fun _ q=>by cases q)⟩
theorem u8_rng {n:Int} (h:(Lit.int .u8 n).wf=true):0≤n∧n<256:=by
  simp only [Lit.wf,Bool.and_eq_true,decide_eq_true_eq] at h
  have h1:IntKind.u8.min=0:=by decide
  have h2:IntKind.u8.max=255:=by decide
  omega
theorem law_rsv (n:Int) (hn:0≤n∧n<256):Af Tryz.prog 4 [.int .u8 fun _=>n] [] (.bool fun _=>true) []:=by
  have h1:=Reserved_ok
  have h2:=words19_ok
  have h3:=known12_ok
  have hall:=List.all_eq_true.1 rsv_all
  have hlen:rwL.length=19:=rfl
  generalize rwL=R at *
  obtain ⟨W,hW⟩:∃ W,W=R.getD (n.tmod 19).toNat ⟨#[]⟩:=⟨_,rfl⟩
  have hm:0≤n.tmod 19∧n.tmod 19<19:=by rw [Int.tmod_eq_emod_of_nonneg hn.1];omega
  have hWm:W ∈ R:=by
    rw [hW]
    simp only [List.getD,List.getElem?_eq_getElem (show (n.tmod 19).toNat<R.length by omega)]
    exact List.getElem_mem _
  obtain ⟨s,s',f0,f1,f2,f3,f4⟩:=rsv_facts (hall W hWm) 0
  have f5:=err_ok s'
  have f6:=path23_ok (W++dotA) 0
  rw [f3] at f5
  clear hall hWm
  rw [ByteArray.size_append] at f0
  have hw:IntKind.i64.wrap n=n:=w64 (by omega) (by omega)
  unfold sS at h1 h2
  (apply Af.of tF mF [.tmp 2] kp4 [(1,[(0,sS R,[])]),(2,[(0,.bool fun _=>true,[]),(5,sS R,[])]),(10,[(2,.ptr 19 0,[(19,boxS fun _=>s)])]),(11,[(1,.str fun _=>⟨#[]⟩,[(1000,boxS fun _=>s')])]),(12,[(1,.tup [.int .i64 fun _=>s'.line,.int .i64 fun _=>s'.col,.int .i64 fun _=>13],[(1000,boxS fun _=>s')])]),(13,[(2,encX 1 1 .any fun _=>xPath (W++dotA),[]),(3,.tup [.str fun _=>⟨#[]⟩,.int .i64 fun _=>12],[])])] Tryz.func4 (fun _=>?_);(any_goals ((with_reducible refine wI ?_);cbv;(try dsimp only [nc] at *);(repeat' (with_reducible first|exact aO|exact oN|refine oC ?_ ?_|refine VC.mk rfl ?_ ?_ ?_|(apply Ca.mk<;>intro _)|(apply Cv.mk<;>intro zq<;>(try simp only [nc,cl] at zq)<;>(try simp only [bl,dl] at zq)<;>(revert zq;intro _))|((first|apply xE|apply uE);cbv;(try dsimp only [nc] at *)))))))
  any_goals ((with_reducible refine nO ?_);first|exact h1|exact h2|exact h3)
  any_goals ((with_reducible refine sO (fun _=>?_));exact h2)
  ((all_goals (try (with_reducible ((first|refine rE ?_|refine nE ?_);(focus (cbv;(try dsimp only [nc] at *);(try simp only [wl,nc]);(repeat' (with_reducible apply And.intro));all_goals (try exact wZ)))))));(all_goals (try ((with_reducible rw [aC]);(try simp only [wl,nc]);(repeat' (with_reducible apply And.intro));(all_goals (try exact cZ))))))
  refine .loop (fun i:Nat=>⟨78,[(4,.int .i64 fun _=>(i:Int)),(3,sS R),(0,.int .u8 fun _=>n)],[]⟩) (fun i=>i≤19) (fun i=>19 - i) 0 (Nat.zero_le _) ?_ fun i E hi=>?_
  · (focus (cbv;(try dsimp only [nc] at *);(try simp only [wl,nc]);(repeat' (with_reducible apply And.intro));all_goals (try exact wZ)))
  apply AWp.wk tF mF [(7,[(4,sS R,[])])] kp4 ?_
  (any_goals ((with_reducible refine wI ?_);cbv;(try dsimp only [nc] at *);(repeat' (with_reducible first|exact aO|exact oN|refine oC ?_ ?_|refine VC.mk rfl ?_ ?_ ?_|(apply Ca.mk<;>intro _)|(apply Cv.mk<;>intro zq<;>(try simp only [nc,cl] at zq)<;>(try simp only [bl,dl] at zq)<;>(revert zq;intro _))|((first|apply xE|apply uE);cbv;(try dsimp only [nc] at *))))))
  all_goals (try simp only [Int.toNat_natCast])
  any_goals ((with_reducible refine nO ?_);first|exact h1|exact h2|exact h3|exact f1|exact f2|exact f4|exact f5|exact f6)
  all_goals (try simp only [hw,hlen,show ((19:Nat):Int)=19 from rfl,← hW])
  any_goals ((with_reducible refine nO ?_);first|exact f1|exact f6)
  ((all_goals (try (with_reducible ((first|refine rE ?_|refine nE ?_);(focus (cbv;(try dsimp only [nc] at *);(try simp only [wl,nc]);(repeat' (with_reducible apply And.intro));all_goals (try exact wZ)))))));(all_goals (try ((with_reducible rw [aC]);(try simp only [wl,nc]);(repeat' (with_reducible apply And.intro));(all_goals (try exact cZ))))))
  any_goals (first|exact hm.1|exact hm.2|exact Nat.le_trans f0 (by decide))
  refine dE (i+1) ⟨by omega,by omega⟩ ?_
  (focus (cbv;(try dsimp only [nc] at *);(try simp only [wl,nc]);(repeat' (with_reducible apply And.intro));all_goals (try exact wZ)))
  · exact w64n (by omega)
end Go.Ai

set_option maxRecDepth 100000
namespace Go.Proofs.YtbagpkiomjlhkaaGreatDoor
open Go Go.Ai Go.RowKit Go.ChangeShapes Go.WideShapes Go.ChangeAt
set_option maxRecDepth 100000
set_option maxHeartbeats 4000000
theorem frs_contract (H:Type) (enc:TypeId×Value→H) (W:World) (base:Nat) (args:Array Value) (ds gs:List (DataW H)) (before:List MemPlace)
    (hval:∀ (j:Nat) t v,Tryz.f4.params[j]? = some t→args[j]? = some v→Value.okWide Tryz.prog W .any base t v)
    (hW:DataW.Whole enc Tryz.prog Tryz.f4.params.toList Rows.formulaReservedSpec.vars false W args.toList ds gs before) (hk:Rows.uptoSmall H (ds++gs)=true) (hL:laidMetH Tryz.prog Rows.formulaReservedUptoRow.laid W) (hS:W.ShapedOpen Tryz.prog) :
    Calls Tryz.prog 4 args W fun e W'=>∃ v,e=.returned v∧Rows.formulaReservedSpec.post enc Tryz.prog Tryz.f4 false true false false W args v W':=by
  have hW':=hW
  obtain ⟨p,q,hA,hV,rfl,_,_⟩:=hW
  obtain rfl:=vars_nil hV
  rw [Tryz.params4] at hA hval
  obtain ⟨v0,vs0,d0,ds0,pa0,pb0,hargs,rfl,rfl,t0,r0⟩:=trodAll_cons hA
  obtain ⟨rfl,rfl,rfl⟩:=trodAll_nil r0
  obtain rfl:args=#[v0]:=by cases args;simp_all
  have hb:Rows.uptoBulkAll ([d0]++[])≤1048576:=of_decide_eq_true hk
  simp only [List.append_nil,Rows.uptoBulkAll] at hb
  obtain ⟨x0,rfl,rfl,_,h0⟩:=open_int Tryz.underlying5 (hval 0 5 v0 rfl rfl) t0
  have a0:RD W (fun b=>b<W.heap.size) W.heap.size (.int .u8 fun _=>x0) (.int .u8 x0):=.int _ _
  refine (calls_law (law_rsv x0 (u8_rng h0)) rfl (tabs_of hL hS) fun i av hi=>?_).mono fun e W' ⟨he,hbel⟩=>⟨_,he,?_⟩
  · match i with
    | 0=>simp only [List.getElem?_cons_zero,Option.some.injEq] at hi;subst hi;exact a0
    | i+1=>simp at hi
  · refine post_law (s:=Rows.formulaReservedSpec) rfl (by kernel_rfl) rfl ?_ hW' hbel
    rw [Tryz.params4]
    intro t ht
    obtain rfl:t=5:=by simpa using ht
    exact ⟨by kernel_rfl,of_decide_eq_true (by kernel_rfl)⟩
theorem frs_reads (os:Os) {H:Type} (enc:TypeId×Value→H):∃ places,DataW.whole enc Tryz.prog ((lW os).forCall (fun _ _=>0) ⟨#[],#[.int .u8 0],[]⟩).memory Tryz.f4.params.toList Rows.formulaReservedSpec.vars false (#[.int .u8 0]:Array Value).toList 8=some ([.lit (.int .u8 0)],[],places) :=
  ⟨[],by kernel_rfl⟩
theorem frs_laid (os:Os):laidMet Tryz.prog Rows.formulaReservedUptoRow.laid ((lW os).forCall (fun _ _=>0) ⟨#[],#[.int .u8 0],[]⟩).memory :=
  laid_world os _
theorem frs_lifted (os:Os) (started:os.Started) (H:Type) (enc:TypeId×Value→H) (F:Stop.Interp) :
    ReturnsInHanded {} Tryz.checked os 4 .any ((Rows.OpenSpec.upto Rows.formulaReservedSpec).preRow enc Tryz.prog Tryz.f4 Rows.formulaReservedUptoRow.domain false Rows.formulaReservedUptoRow.laid) (((Rows.OpenSpec.upto Rows.formulaReservedSpec).at F).post enc Tryz.prog Tryz.f4 false true false false):=by
  obtain ⟨places,hx⟩:=frs_reads os enc
  refine returnsInHanded_of_row (C:=Tryz.checked) (s:=Rows.OpenSpec.upto Rows.formulaReservedSpec) own4 started (by kernel_rfl) Tryz.func4
    (witness_row_at (enc:=enc) (C:=Tryz.checked) false (lW os) #[.int .u8 0] rfl (by kernel_rfl) (by kernel_rfl) (by kernel_rfl)
      (OpenSpec.preRow_of_cond 8 hx (by kernel_rfl) (fun k hk=>by cases hk;kernel_rfl) (by kernel_rfl) (frs_laid os))) ?_
  intro W base args ds gs before hval hW _ hcond _ hL hS _
  exact frs_contract H enc W base args ds gs before hval hW (hcond _ rfl) hL hS
theorem frs_closed:joinedFacts Tryz.pinned.checked.prog 4 Tryz.f4 (Rows.OpenSpec.upto Rows.formulaReservedSpec).bare Rows.formulaReservedUptoRow=true:=by
  unfold joinedFacts
  simp only [Bool.and_eq_true]
  repeat' (with_reducible apply And.intro)
  all_goals (as_aux_lemma=>kernel_rfl)
theorem frs_said:Rows.FormulaReservedUptoSaid :=
  OpenClaim.holds_of_cond 4 Tryz.f4 rfl rfl rfl rfl rfl rfl rfl ⟨rfl,rfl,rfl,rfl,rfl⟩ rfl rfl rfl rfl rfl (by kernel_rfl) Tryz.func4 frs_closed
    (of_decide_eq_true (by kernel_rfl)) (by unfold Func.isWrapper;first|(rw [if_pos (by decide +kernel)];kernel_rfl)|(rw [if_neg (by decide +kernel)];exact ⟨rfl,rfl⟩))
    (fun os started H enc _ F=>by rw [OpenClaim.pre_eq_preRow];exact frs_lifted os started H enc F)
theorem frs_plain (f:FuncId) (fn:Func) (hf:Tryz.pinned.checked.prog.funcNamed Rows.formulaReservedUptoRow.func=some f) (hfn:Tryz.pinned.checked.prog.funcs[f]? = some fn) :
    true=Tryz.pinned.checked.prog.looks []∧∀ (j:Nat) t,fn.params[j]? = some t→Tryz.pinned.checked.prog.wantsStandIn t=false:=by
  obtain rfl:f=4:=Option.some.inj ((show Tryz.prog.funcNamed Rows.formulaReservedUptoRow.func=some 4 by kernel_rfl).symm.trans hf) |>.symm
  obtain rfl:fn=Tryz.f4:=(Option.some.inj (Tryz.func4.symm.trans hfn)).symm
  refine ⟨by kernel_rfl,fun j t ht=>?_⟩
  rw [Tryz.params4] at ht
  have hm:=Array.mem_of_getElem? ht
  obtain rfl:t=5:=by simpa using hm
  exact (show Tryz.prog.wantsStandIn 5=false by kernel_rfl)
theorem formulaReserved_holds:Rows.FormulaReservedUptoCardSaid :=
  Claim7.holds_tied_plain_at .later [] _ _ _ _ frs_said (fun _ h=>by cases h) (by kernel_rfl) (fun _ h=>by cases h) formulaReservedUpto_row_tie rfl ⟨rfl,rfl⟩ (by kernel_rfl) rfl frs_plain (by kernel_rfl)
#print axioms formulaReserved_holds
end Go.Proofs.YtbagpkiomjlhkaaGreatDoor
