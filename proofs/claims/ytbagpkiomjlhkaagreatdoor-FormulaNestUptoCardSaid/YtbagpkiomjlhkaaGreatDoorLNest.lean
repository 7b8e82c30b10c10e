/- Chapter 17: the law FormulaNest. -/
import Derived.Test.YtbagpkiomjlhkaaGreatDoorNestA
import Derived.Test.YtbagpkiomjlhkaaGreatDoorLReserved
import Derived.Test.YtbagpkiomjlhkaaGreatDoorJoin
set_option linter.all false
namespace Go.Ai
open Go Go.Proofs
set_option maxRecDepth 100000
set_option maxHeartbeats 4000000
def kq11:List Nat:=[3,34,482,994,33555426,994,994,137438954466,994,15650,2251799813700898,16,9007199254756642,16,590295810358705667360,16,302231454903657293692192,16,16]
theorem nest_all {c k:Nat} (hc:c<3) (h1:1≤k) (h2:k≤50):nestOk c k=true:=by
  have h:nestR c ((k - 1) / 5)=true:=by
    rcases c with _|_|_|c
    · exact nestA0 _ (by omega)
    · exact nestA1 _ (by omega)
    · exact nestA2 _ (by omega)
    · omega
  have:=List.all_eq_true.1 h ((k - 1) % 5) (List.mem_range.2 (by omega))
  rw [show 5 * ((k - 1) / 5)+(k - 1) % 5+1=k by omega] at this
  exact this
theorem nest_facts {c k:Nat} (h:nestOk c k=true) (D:Nat) (hD:65599≤D):∃ r:X×Int×Int×Int,(nestT c k).size≤65536∧nestV c k r=true∧X.le 1 60 r.1 ∧
    Af Tryz.prog 24 [.str fun _=>nestT c k] [] (.tup [encX 1 (D+1) .any fun _=>r.1,.int .i64 fun _=>r.2.1,.int .i64 fun _=>r.2.2.1,.int .i64 fun _=>r.2.2.2]) []:=by
  unfold nestOk at h
  obtain ⟨L,hL⟩:∃ L,scanV dec1 (nestT c k)=some L:=by
    cases hL:scanV dec1 (nestT c k) with
    | none=>rw [hL] at h;exact Bool.noConfusion h
    | some L=>exact ⟨L,rfl⟩
  rw [hL] at h
  dsimp only at h
  simp only [Bool.and_eq_true,decide_eq_true_eq] at h
  obtain ⟨a1,a2,a3,a4,a5,a6,a7,a8,a9⟩:=h
  have hs:OkS PlTok (.mk L 0 0 0):=by
    refine ⟨fun t ht=>?_,a5,fun hn=>?_,fun t ht=>tokB_ok (List.all_eq_true.1 a3 t ht)⟩
    · have ht:L.getLast? = some t:=ht
      rw [ht] at a4
      exact Option.some.inj a4
    · have hn:L=[]:=hn
      rw [hn] at a4;cases a4
  refine ⟨parsN L,a1,a9,leB_ok a8,?_⟩
  exact parse_ok (pe:=pe1) (fun t ht=>by rw [← pe1_eq] at ht;exact peV_size t ht) (fun t h1 h2=>by rw [← pe1_eq];exact path43_ok t h1 h2) (e:=0) (D:=D+1) (by omega) (ck:=ckX (oneP 0)) (plain_of a1 a2) L hL hs (fun _ =>
    checkP_ok 0 (by decide) D _ (X.le_mono (leB_ok a6) (by omega)) (plB_ok a7))
theorem pick_wide {c:Nat} (h:c<3):pickI [.int .i64 fun _=>1,.int .i64 fun _=>4,.int .i64 fun _=>2] c=wideN c:=by
  rcases c with _|_|_|c
  · rfl
  · rfl
  · rfl
  · omega
theorem pick_pre {c:Nat} (h:c<3):pickS [.str fun _=>⟨#[40]⟩,.str fun _=>⟨#[110,111,116,32]⟩,.str fun _=>⟨#[45,32]⟩] c=preN c:=by
  rcases c with _|_|_|c
  · rfl
  · rfl
  · rfl
  · omega
theorem preN_size (c:Nat):(preN c).size≤4:=by
  rcases c with _|_|_|c
  · decide
  · decide
  · decide
  · exact Nat.zero_le _
theorem nest_size (c:Nat):∀ i,(nestS c i).size≤4 * i∧(nestE c i).size≤i
  | 0=>⟨Nat.zero_le _,Nat.zero_le _⟩
  | i + 1=>by
    have h:=nest_size c i
    have h2:=preN_size c
    refine ⟨?_,?_⟩
    · rw [nestS,ByteArray.size_append];omega
    · rw [nestE];split
      · rw [ByteArray.size_append];show _+1≤_;omega
      · omega
theorem law_nest (n q:Int) (hn:0≤n∧n<256) (hq:0≤q∧q<256):Af Tryz.prog 11 [.int .u8 fun _=>n,.int .u8 fun _=>q] [] (.bool fun _=>true) []:=by
  obtain ⟨c,hc⟩:∃ c:Nat,q.tmod 3=(c:Int):=⟨(q.tmod 3).toNat,by rw [Int.tmod_eq_emod_of_nonneg hq.1];omega⟩
  obtain ⟨m,hm⟩:∃ m:Nat,n.tmod 50=(m:Int):=⟨(n.tmod 50).toNat,by rw [Int.tmod_eq_emod_of_nonneg hn.1];omega⟩
  have hc3:c<3:=by rw [Int.tmod_eq_emod_of_nonneg hq.1] at hc;omega
  have hm50:m<50:=by rw [Int.tmod_eq_emod_of_nonneg hn.1] at hm;omega
  obtain ⟨k,hk⟩:∃ k,k=m+1:=⟨_,rfl⟩
  obtain ⟨D,hD⟩:∃ D,65599≤D:=⟨_,Nat.le_refl _⟩
  obtain ⟨r,f0,f1,f2,f3⟩:=nest_facts (nest_all hc3 (k:=k) (by omega) (by omega)) D hD
  have h1:=known12_ok
  have h2:=path23_ok bA D
  have h3:=equalP_ok (fun _ _=>true) 0 0 D D r.1 (xPath bA) (X.le_mono f2 (by omega)) rfl rfl
  have h4:=size35_ok 0 60 D r.1 (X.le_mono f2 (by omega)) f2
  have hw1:IntKind.i64.wrap (m:Int)=m:=w64 (by omega) (by omega)
  have hw2:IntKind.i64.wrap (1+(m:Int))=(k:Int):=(w64 (by omega) (by omega)).trans (by omega)
  have hI:=pick_wide hc3
  have hS:=pick_pre hc3
  have hN:=nest_size c
  have hp:=preN_size c
  have hwd:0≤wideN c∧wideN c≤4:=by
    rcases c with _|_|_|c
    · decide
    · decide
    · decide
    · omega
  have hcz:(c:Int)=0↔c=0:=by omega
  unfold nestV at f1
  unfold nestT at f0 f3
  clear f2 hD
  obtain ⟨x,ln,cl,er⟩:=r
  dsimp only at f1 f3 h3 h4
  generalize szX 60 x=sz at *
  generalize eqX (fun _ _=>true) 1 x (xPath bA)=eq at *
  generalize wideN c=wd at *
  obtain ⟨pr,hpr⟩:∃ pr,pr=preN c:=⟨_,rfl⟩
  rw [← hpr] at hS hp
  (apply Af.of tF mF [.tmp 4] kq11 [(2,[(0,.nilf,[])]),(9,[(4,.tup [encX 1 (D+1) .any fun _=>x,.int .i64 fun _=>ln,.int .i64 fun _=>cl,.int .i64 fun _=>er],[])]),(10,[(0,.bool fun _=>true,[])]),(15,[(4,encX 1 (D+1) .any fun _=>xPath bA,[]),(5,.bool fun _=>eq,[])]),(18,[(4,.int .i64 fun _=>sz,[])])] Tryz.func11 (fun _=>?_);(any_goals ((with_reducible refine wI ?_);cbv;(try dsimp only [nc] at *);(repeat' (with_reducible first|exact aO|exact oN|refine oC ?_ ?_|refine VC.mk rfl ?_ ?_ ?_|(apply Ca.mk<;>intro _)|(apply Cv.mk<;>intro zq<;>(try simp only [nc,cl] at zq)<;>(try simp only [bl,dl] at zq)<;>(revert zq;intro _))|((first|apply xE|apply uE);cbv;(try dsimp only [nc] at *)))))))
  all_goals (try simp only [hc,hm,hw1,hw2,Int.toNat_natCast])
  ((all_goals (try (with_reducible ((first|refine rE ?_|refine nE ?_);(focus (cbv;(try dsimp only [nc] at *);(try simp only [wl,nc]);(repeat' (with_reducible apply And.intro));all_goals (try exact wZ)))))));(all_goals (try ((with_reducible rw [aC]);(try simp only [wl,nc]);(repeat' (with_reducible apply And.intro));(all_goals (try exact cZ))))))
  refine .loop (fun i:Nat=>⟨103,[(9,.int .i64 fun _=>(i:Int)),(8,.int .i64 fun _=>wd),(7,.str fun _=>nestE c i),(6,.str fun _=>nestS c i),(5,.int .i64 fun _=>(k:Int)),(1,.int .u8 fun _=>q)],[]⟩)
    (fun i=>i≤k) (fun i=>k - i) 0 (Nat.zero_le _) ?_ fun i E hi=>?_
  · (focus (cbv;(try dsimp only [nc] at *);(try simp only [wl,nc]);(repeat' (with_reducible apply And.intro));all_goals (try exact wZ)))
  by_cases hik:i<k
  · have hs:=hN i
    have e1:nestS c (i+1)=nestS c i++pr:=by rw [hpr];rfl
    have e2:nestE c (i+1)=if c=0 then nestE c i++⟨#[41]⟩ else nestE c i:=rfl
    generalize nestS c i=s0 at *
    generalize nestE c i=b0 at *
    apply AWp.wk tF mF [(6,[(1,.nilf,[])])] kq11 ?_
    (any_goals ((with_reducible refine wI ?_);cbv;(try dsimp only [nc] at *);(repeat' (with_reducible first|exact aO|exact oN|refine oC ?_ ?_|refine VC.mk rfl ?_ ?_ ?_|(apply Ca.mk<;>intro _)|(apply Cv.mk<;>intro zq<;>(try simp only [nc,cl] at zq)<;>(try simp only [bl,dl] at zq)<;>(revert zq;intro _))|((first|apply xE|apply uE);cbv;(try dsimp only [nc] at *))))))
    all_goals (try simp only [hc,Int.toNat_natCast,hS])
    all_goals (try (exact absurd hik (Nat.not_lt.2 ‹_›)))
    ((all_goals (try (with_reducible ((first|refine rE ?_|refine nE ?_);(focus (cbv;(try dsimp only [nc] at *);(try simp only [wl,nc]);(repeat' (with_reducible apply And.intro));all_goals (try exact wZ)))))));(all_goals (try ((with_reducible rw [aC]);(try simp only [wl,nc]);(repeat' (with_reducible apply And.intro));(all_goals (try exact cZ))))))
    all_goals (try (focus (show b0.size+1≤_;omega)))
    · refine dE (i+1) ⟨by omega,by omega⟩ ?_
      (focus (cbv;(try dsimp only [nc] at *);(try simp only [wl,nc]);(repeat' (with_reducible apply And.intro));all_goals (try exact wZ)))
      · exact w64n (by omega)
      · rw [e2,if_pos (by omega)]
      · exact e1.symm
    · refine dE (i+1) ⟨by omega,by omega⟩ ?_
      (focus (cbv;(try dsimp only [nc] at *);(try simp only [wl,nc]);(repeat' (with_reducible apply And.intro));all_goals (try exact wZ)))
      · exact w64n (by omega)
      · rw [e2,if_neg (by omega)]
      · exact e1.symm
  · obtain rfl:i=k:=by omega
    have hs:=hN i
    apply AWp.wk tF mF [(6,[(1,.nilf,[])])] kq11 ?_
    (any_goals ((with_reducible refine wI ?_);cbv;(try dsimp only [nc] at *);(repeat' (with_reducible first|exact aO|exact oN|refine oC ?_ ?_|refine VC.mk rfl ?_ ?_ ?_|(apply Ca.mk<;>intro _)|(apply Cv.mk<;>intro zq<;>(try simp only [nc,cl] at zq)<;>(try simp only [bl,dl] at zq)<;>(revert zq;intro _))|((first|apply xE|apply uE);cbv;(try dsimp only [nc] at *))))))
    all_goals (try (exact absurd ‹i<i› hik))
    any_goals ((with_reducible first|refine nO ?_|refine sO (fun _=>?_));first|exact f3|exact h1|exact h2|exact h3|exact h4)
    ((all_goals (try (with_reducible ((first|refine rE ?_|refine nE ?_);(focus (cbv;(try dsimp only [nc] at *);(try simp only [wl,nc]);(repeat' (with_reducible apply And.intro));all_goals (try exact wZ)))))));(all_goals (try ((with_reducible rw [aC]);(try simp only [wl,nc]);(repeat' (with_reducible apply And.intro));(all_goals (try exact cZ))))))
    · show _+1≤_;omega
    · rw [ByteArray.size_append];show _+1+_≤_;omega
    · rename_i q1
      rw [if_pos (by omega)] at f1
      simp only [Bool.and_eq_true,beq_iff_eq] at f1
      obtain ⟨g1,g2,g3⟩:=f1
      have e1:IntKind.i64.wrap (wd * 32)=wd * 32:=w64 (by omega) (by omega)
      have e2:IntKind.i64.wrap (1+wd * 32)=1+wd * 32:=w64 (by omega) (by omega)
      rw [e1,e2,g1,g2,g3];simp
    · rw [if_neg (by omega),if_pos (by omega)] at f1
      simp only [Bool.and_eq_true,beq_iff_eq] at f1
      rw [f1.1,f1.2];rfl
    · rw [if_neg (by omega),if_neg (by omega),if_pos (by omega)] at f1
      simp only [Bool.and_eq_true,beq_iff_eq] at f1
      obtain ⟨g1,g2,g3⟩:=f1
      have e0:0≤wd * (i:Int)∧wd * (i:Int)≤4 * 60:=⟨Int.mul_nonneg hwd.1 (by omega),Int.mul_le_mul hwd.2 (by omega) (by omega) (by omega)⟩
      have e1:IntKind.i64.wrap (wd * i)=wd * i:=w64 (by omega) (by omega)
      have e2:IntKind.i64.wrap (1+wd * i)=1+wd * i:=w64 (by omega) (by omega)
      have e3:IntKind.i64.wrap (1+wd * i+1)=1+wd * i+1:=w64 (by omega) (by omega)
      rw [e1,e2,e3,g1,g2,g3];simp
    · rw [if_neg (by omega),if_neg (by omega),if_neg (by omega)] at f1
      simp only [Bool.and_eq_true,beq_iff_eq] at f1
      have e1:IntKind.i64.wrap ((i:Int)+1)=i+1:=w64 (by omega) (by omega)
      rw [f1.1,f1.2,e1];simp
end Go.Ai

set_option maxRecDepth 100000
namespace Go.Proofs.YtbagpkiomjlhkaaGreatDoor
open Go Go.Ai Go.RowKit Go.ChangeShapes Go.WideShapes Go.ChangeAt
set_option maxRecDepth 100000
set_option maxHeartbeats 4000000
theorem fne_contract (H:Type) (enc:TypeId×Value→H) (W:World) (base:Nat) (args:Array Value) (ds gs:List (DataW H)) (before:List MemPlace)
    (hval:∀ (j:Nat) t v,Tryz.f11.params[j]? = some t→args[j]? = some v→Value.okWide Tryz.prog W .any base t v)
    (hW:DataW.Whole enc Tryz.prog Tryz.f11.params.toList Rows.formulaNestSpec.vars false W args.toList ds gs before) (hk:Rows.uptoSmall H (ds++gs)=true) (hL:laidMetH Tryz.prog Rows.formulaNestUptoRow.laid W) (hS:W.ShapedOpen Tryz.prog) :
    Calls Tryz.prog 11 args W fun e W'=>∃ v,e=.returned v∧Rows.formulaNestSpec.post enc Tryz.prog Tryz.f11 false true false false W args v W':=by
  have hW':=hW
  obtain ⟨p,q,hA,hV,rfl,_,_⟩:=hW
  obtain rfl:=vars_nil hV
  rw [Tryz.params11] at hA hval
  obtain ⟨v0,vs0,d0,ds0,pa0,pb0,hargs,rfl,rfl,t0,r0⟩:=trodAll_cons hA
  obtain ⟨v1,vs1,d1,ds1,pa1,pb1,rfl,rfl,rfl,t1,r1⟩:=trodAll_cons r0
  obtain ⟨rfl,rfl,rfl⟩:=trodAll_nil r1
  obtain rfl:args=#[v0,v1]:=by cases args;simp_all
  have hb:Rows.uptoBulkAll ([d0,d1]++[])≤1048576:=of_decide_eq_true hk
  simp only [List.append_nil,Rows.uptoBulkAll] at hb
  obtain ⟨x0,rfl,rfl,_,h0⟩:=open_int Tryz.underlying5 (hval 0 5 v0 rfl rfl) t0
  have a0:RD W (fun b=>b<W.heap.size) W.heap.size (.int .u8 fun _=>x0) (.int .u8 x0):=.int _ _
  obtain ⟨x1,rfl,rfl,_,h1⟩:=open_int Tryz.underlying5 (hval 1 5 v1 rfl rfl) t1
  have a1:RD W (fun b=>b<W.heap.size) W.heap.size (.int .u8 fun _=>x1) (.int .u8 x1):=.int _ _
  refine (calls_law (law_nest x0 x1 (u8_rng h0) (u8_rng h1)) rfl (tabs_of hL hS) fun i av hi=>?_).mono fun e W' ⟨he,hbel⟩=>⟨_,he,?_⟩
  · match i with
    | 0=>simp only [List.getElem?_cons_zero,Option.some.injEq] at hi;subst hi;exact a0
    | 1=>simp only [List.getElem?_cons_zero,List.getElem?_cons_succ,Option.some.injEq] at hi;subst hi;exact a1
    | i+2=>simp at hi
  · refine post_law (s:=Rows.formulaNestSpec) rfl (by kernel_rfl) rfl ?_ hW' hbel
    rw [Tryz.params11]
    intro t ht
    obtain rfl:t=5:=by simpa using ht
    exact ⟨by kernel_rfl,of_decide_eq_true (by kernel_rfl)⟩
theorem fne_reads (os:Os) {H:Type} (enc:TypeId×Value→H):∃ places,DataW.whole enc Tryz.prog ((lW os).forCall (fun _ _=>0) ⟨#[],#[.int .u8 0,.int .u8 0],[]⟩).memory Tryz.f11.params.toList Rows.formulaNestSpec.vars false (#[.int .u8 0,.int .u8 0]:Array Value).toList 8=some ([.lit (.int .u8 0),.lit (.int .u8 0)],[],places) :=
  ⟨[],by kernel_rfl⟩
theorem fne_laid (os:Os):laidMet Tryz.prog Rows.formulaNestUptoRow.laid ((lW os).forCall (fun _ _=>0) ⟨#[],#[.int .u8 0,.int .u8 0],[]⟩).memory :=
  laid_world os _
theorem fne_lifted (os:Os) (started:os.Started) (H:Type) (enc:TypeId×Value→H) (F:Stop.Interp) :
    ReturnsInHanded {} Tryz.checked os 11 .any ((Rows.OpenSpec.upto Rows.formulaNestSpec).preRow enc Tryz.prog Tryz.f11 Rows.formulaNestUptoRow.domain false Rows.formulaNestUptoRow.laid) (((Rows.OpenSpec.upto Rows.formulaNestSpec).at F).post enc Tryz.prog Tryz.f11 false true false false):=by
  obtain ⟨places,hx⟩:=fne_reads os enc
  refine returnsInHanded_of_row (C:=Tryz.checked) (s:=Rows.OpenSpec.upto Rows.formulaNestSpec) own4 started (by kernel_rfl) Tryz.func11
    (witness_row_at (enc:=enc) (C:=Tryz.checked) false (lW os) #[.int .u8 0,.int .u8 0] rfl (by kernel_rfl) (by kernel_rfl) (by kernel_rfl)
      (OpenSpec.preRow_of_cond 8 hx (by kernel_rfl) (fun k hk=>by cases hk;kernel_rfl) (by kernel_rfl) (fne_laid os))) ?_
  intro W base args ds gs before hval hW _ hcond _ hL hS _
  exact fne_contract H enc W base args ds gs before hval hW (hcond _ rfl) hL hS
theorem fne_closed:joinedFacts Tryz.pinned.checked.prog 11 Tryz.f11 (Rows.OpenSpec.upto Rows.formulaNestSpec).bare Rows.formulaNestUptoRow=true:=by
  unfold joinedFacts
  simp only [Bool.and_eq_true]
  repeat' (with_reducible apply And.intro)
  all_goals (as_aux_lemma=>kernel_rfl)
theorem fne_said:Rows.FormulaNestUptoSaid :=
  OpenClaim.holds_of_cond 11 Tryz.f11 rfl rfl rfl rfl rfl rfl rfl ⟨rfl,rfl,rfl,rfl,rfl⟩ rfl rfl rfl rfl rfl (by kernel_rfl) Tryz.func11 fne_closed
    (of_decide_eq_true (by kernel_rfl)) (by unfold Func.isWrapper;first|(rw [if_pos (by decide +kernel)];kernel_rfl)|(rw [if_neg (by decide +kernel)];exact ⟨rfl,rfl⟩))
    (fun os started H enc _ F=>by rw [OpenClaim.pre_eq_preRow];exact fne_lifted os started H enc F)
theorem fne_plain (f:FuncId) (fn:Func) (hf:Tryz.pinned.checked.prog.funcNamed Rows.formulaNestUptoRow.func=some f) (hfn:Tryz.pinned.checked.prog.funcs[f]? = some fn) :
    true=Tryz.pinned.checked.prog.looks []∧∀ (j:Nat) t,fn.params[j]? = some t→Tryz.pinned.checked.prog.wantsStandIn t=false:=by
  obtain rfl:f=11:=Option.some.inj ((show Tryz.prog.funcNamed Rows.formulaNestUptoRow.func=some 11 by kernel_rfl).symm.trans hf) |>.symm
  obtain rfl:fn=Tryz.f11:=(Option.some.inj (Tryz.func11.symm.trans hfn)).symm
  refine ⟨by kernel_rfl,fun j t ht=>?_⟩
  rw [Tryz.params11] at ht
  have hm:=Array.mem_of_getElem? ht
  obtain rfl:t=5:=by simpa using hm
  exact (show Tryz.prog.wantsStandIn 5=false by kernel_rfl)
theorem formulaNest_holds:Rows.FormulaNestUptoCardSaid :=
  Claim7.holds_tied_plain_at .later [] _ _ _ _ fne_said (fun _ h=>by cases h) (by kernel_rfl) (fun _ h=>by cases h) formulaNestUpto_row_tie rfl ⟨rfl,rfl⟩ (by kernel_rfl) rfl fne_plain (by kernel_rfl)
#print axioms formulaNest_holds
end Go.Proofs.YtbagpkiomjlhkaaGreatDoor
