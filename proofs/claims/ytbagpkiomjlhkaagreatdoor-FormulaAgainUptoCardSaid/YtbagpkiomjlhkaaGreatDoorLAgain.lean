/- Chapter 17: the law FormulaAgain. -/
import Derived.Test.YtbagpkiomjlhkaaGreatDoorAgA
import Derived.Test.YtbagpkiomjlhkaaGreatDoorTabs
set_option linter.all false
namespace Go.Ai
open Go Go.Proofs
set_option maxRecDepth 100000
set_option maxHeartbeats 4000000
def law_agn(s0:ByteArray)(hs0:s0.size<=1048576):Af Tryz.prog 7 [.str fun _=>s0] [] (.bool fun _=>true) []:=by
 obtain⟨Y,hX⟩:∃Y,Y=s0.extract (Int.toNat 0) (if false=true then if(s0.size:Int)<400 then 400 else(s0.size:Int)else if 400<(s0.size:Int)then 400 else(s0.size:Int)).toNat:=⟨_,rfl⟩
 have hE:0<=(if false=true then if(s0.size:Int)<400 then 400 else(s0.size:Int)else if 400<(s0.size:Int)then 400 else(s0.size:Int))∧(if false=true then if(s0.size:Int)<400 then 400 else(s0.size:Int)else if 400<(s0.size:Int)then 400 else(s0.size:Int))<=(s0.size:Int):=by
  simp only[jc,dg];split<;>omega
 have hXs:Y.size<=400:=by
  rw[hX,dh];simp only[jc,dg];split<;>omega
 have he:0+1<=1073741824:=zd
 have hck:∀x,X.le 1 65600 x->Af Tryz.prog 15 [aq 1 65600 .any fun _=>x] [] (.int .i64 fun _=>kB (iL (iW 0) cr) x) []:=fun x hx=>Jt 0 he 65599 x hx;have h1:=parse_ckd Y (kB (iL (iW 0) cr)) hck zo;have hf:=parse_facts Y (ck:=kB (iL (iW 0) cr));have hle:X.le 1 65600 (oY jt (kB (iL (iW 0) cr)) (newS Y)).1:=by
  unfold oY;split
  ·exact X.cP (LI (c:=0) _ _) zd
  ·unfold mJ;split
   ·exact X.cP (LI (c:=0) _ _) zd
   split
   ·exact X.cP (LI (c:=0) _ _) zd
   ·exact expr_le Y
 have h0:=R9;generalize oY jt (kB (iL (iW 0) cr)) (newS Y)=R at*;obtain⟨x,ln,cl,er⟩:=R;dsimp only at h1 hf hle;by_cases c:er=0
 ·subst c;obtain⟨hg,hc⟩:=hf rfl;obtain⟨lit,l1,l2,l3⟩:=lit_all3 0 he;obtain⟨⟨c3,cg,hh,hz,h3,_,c5,_⟩,cv⟩:=print_of 0 65599 x hle hc l1 l2;have hid:gL 9 x=false:=(hg 9).2;have hr:jr 9 x=false:=hh.symm.trans hid;have hT:(aP lit 9 x 0).size<=16384:=by
   have q:=txtB_bX (lit:=lit) 9 x (X.mt (fun _ h=>h.1.1) c5) (X.mt (fun y h ho=>(l3 _ (h ho).1 (h ho).2.1 (h ho).2.2)) cv);have:=(hg 9).1;have:=D5 (lit:=lit) (k:=9) (y:=x) 0;omega
  have h5:=DD 0 9 65599 x hle c3 hz;rw[hid]at h5;have h7:=Jl 0 65599 x 0 false (aP lit 9 x 0) (by rw[<- hc];exact hck x hle) (fun _=>h5) (fun _ _=>h3);rw[ae ⟨rfl,rfl⟩,ae rfl,aa zsi]at h7;have h8:Af Tryz.prog 24 [.str fun _=>aP lit 9 x 0] [] (.ag [aq 1 65600 .any fun _=>x,.int .i64 fun _=>0,.int .i64 fun _=>0,.int .i64 fun _=>0]) []:=by
   have q:=parse_ckd (aP lit 9 x 0) (kB (iL (iW 0) cr)) hck zo;rw[Sg (ck:=kB (iL (iW 0) cr)) c3 cg hid hc hT]at q;exact q
  have h9:Af Tryz.prog 25 [aq 1 65600 .any fun _=>x,aq 1 65600 .any fun _=>x] [] (.bool fun _=>true) []:=by
   have:=IN (IK 1) 0 0 (fun v w hv hw=>QO 1 v w hv hw) 9 65599 65599 x x hle hle c3
   rwa [Jn (fun v=>by unfold IK;rw[Do];rfl) _ c3]at this
  clear hck hf hg hc l1 l2 l3 c3 cg hh hz h3 c5 cv hid hr h5 hT;generalize aP lit 9 x 0=t at*
  (apply Af.of tF mF [.tmp 2] kp7 [(2,[(1,.ag [aq 1 65600 .any fun _=>x,.int .i64 fun _=>ln,.int .i64 fun _=>cl,.int .i64 fun _=>0],[])]),(3,[(0,.bool fun _=>true,[])]),(4,[(0,.bool fun _=>true,[])]),(5,[(1,.ag [.str fun _=>t,.int .i64 fun _=>0],[])]),(6,[(1,.ag [aq 1 65600 .any fun _=>x,.int .i64 fun _=>0,.int .i64 fun _=>0,.int .i64 fun _=>0],[])]),(7,[(1,.ag [.str fun _=>t,.int .i64 fun _=>0],[])]),(8,[(13,.bool fun _=>true,[])])] Tryz.func7 (fun _=>?_);(any_goals((with_reducible refine wI ?_);cbv;(try dsimp only[nc]at*);(repeat'(with_reducible first|exact‹False›.elim|exact nZ|refine oC ?_ ?_|refine VC.mk rfl ?_ ?_ ?_|(apply Ca.mk<;>intro _)|refine cV (fun _=>?_) fun _=>?_|((first|apply xE|apply uE);cbv;(try dsimp only[nc]at*)))))))
  all_goals(try simp only[<- hX])
  any_goals((with_reducible first|refine nO ?_|refine sO (fun _=>?_));first|exact h0|exact h1|exact h7|exact h8|exact h9)
  all_goals(try(intro c hc;simp only[dD]at hc;subst hc;exact⟨fC _,hE.1,hE.2⟩))
  all_goals exact eZ
 ·clear hf
  (apply Af.of tF mF [.tmp 2] kp7 [(2,[(1,.ag [aq 1 65600 .any fun _=>x,.int .i64 fun _=>ln,.int .i64 fun _=>cl,.int .i64 fun _=>er],[])]),(3,[(0,.bool fun _=>true,[])]),(4,[(0,.bool fun _=>true,[])]),(5,[(1,.ag [.str fun _=>⟨#[]⟩,.int .i64 fun _=>0],[])]),(6,[(1,.ag [aq 1 65600 .any fun _=>x,.int .i64 fun _=>0,.int .i64 fun _=>0,.int .i64 fun _=>0],[])]),(7,[(1,.ag [.str fun _=>⟨#[]⟩,.int .i64 fun _=>0],[])]),(8,[(13,.bool fun _=>true,[])])] Tryz.func7 (fun _=>?_);(any_goals((with_reducible refine wI ?_);cbv;(try dsimp only[nc]at*);(repeat'(with_reducible first|exact‹False›.elim|exact nZ|refine oC ?_ ?_|refine VC.mk rfl ?_ ?_ ?_|(apply Ca.mk<;>intro _)|refine cV (fun _=>?_) fun _=>?_|((first|apply xE|apply uE);cbv;(try dsimp only[nc]at*)))))))
  all_goals(try simp only[<- hX])
  all_goals try exact absurd ‹True∧er=0› (fun q=>c q.2)
  all_goals try exact absurd ‹(if False then true else er != 0)=false› (by simpa using c)
  all_goals(try(rename_i hq;exact absurd hq (by simpa using c)))
  any_goals((with_reducible first|refine nO ?_|refine sO (fun _=>?_));first|exact h0|exact h1)
  all_goals(try(intro c hc;simp only[dD]at hc;subst hc;exact⟨fC _,hE.1,hE.2⟩))
  all_goals exact eZ
end Go.Ai

set_option maxRecDepth 100000
namespace Go.Proofs.YtbagpkiomjlhkaaGreatDoor
open Go Go.Ai Go.RowKit Go.ChangeShapes Go.WideShapes Go.ChangeAt
set_option maxRecDepth 100000
set_option maxHeartbeats 4000000
def agn_contract(H:Type)(enc:TypeId×Value->H)(W:World)(base:Nat)(args:Array Value)(ds gs:List (DataW H))(before:List MemPlace)
 (hval:∀(j:Nat) t v,Tryz.f7.params[j]? = some t->args[j]? = some v->Value.okWide Tryz.prog W .any base t v)
 (hW:DataW.Whole enc Tryz.prog Tryz.f7.params.toList Rows.formulaAgainSpec.vars false W args.toList ds gs before) (hk:Rows.uptoSmall H (ds++gs)=true) (hL:laidMetH Tryz.prog Rows.formulaAgainUptoRow.laid W) (hS:W.ShapedOpen Tryz.prog):
 Calls Tryz.prog 7 args W fun e W'=>∃v,e=.returned v∧Rows.formulaAgainSpec.post enc Tryz.prog Tryz.f7 false true false false W args v W':=by
 have hW':=hW;obtain⟨p,q,hA,hV,rfl,_,_⟩:=hW;obtain rfl:=Sl hV;rw[Tryz.params7]at hA hval;obtain⟨v0,Zu,d0,ds0,Zv,Zw,hargs,rfl,rfl,t0,r0⟩:=trodAll_cons hA;obtain⟨rfl,rfl,rfl⟩:=trodAll_nil r0;obtain rfl:args=#[v0]:=by cases args;simp_all
 have hb:Rows.uptoBulkAll ([d0]++[])<=1048576:=il hk;simp only[uS,Rows.uptoBulkAll]at hb;obtain⟨x0,rfl,rfl,_,_⟩:=Go.ChangeMaps.open_string Tryz.underlying9 (hval 0 9 v0 rfl rfl) t0;have h0:x0.size<=1048576:=by simp only[Rows.uptoBulk,Dx]at hb;omega
 have a0:RD W (fun b=>b<W.heap.size) W.heap.size (.str fun _=>x0) (.string x0):=.str _;refine(Sn (law_agn x0 zo) rfl (So hL hS) fun i av hi=>?_).mono fun e W' ⟨he,hbel⟩=>⟨_,he,?_⟩
 ·match i with
  | 0=>simp only[pd,cB]at hi;subst hi;exact a0
  | i+1=>simp at hi
 ·refine Sp (s:=Rows.formulaAgainSpec) rfl zk rfl ?_ hW' hbel;rw[Tryz.params7];intro t ht;obtain rfl:t=9:=by simpa using ht
  exact⟨zk,il zk⟩
def agn_reads(os:Os){H:Type}(enc:TypeId×Value->H):∃places,DataW.whole enc Tryz.prog ((lW os).forCall (fun _ _=>0) ⟨#[],#[.string ⟨#[]⟩],[]⟩).memory Tryz.f7.params.toList Rows.formulaAgainSpec.vars false (#[.string ⟨#[]⟩]:Array Value).toList 8=some ([.lit (.string [])],[],places):=
 ⟨[],zk⟩
def agn_laid(os:Os):laidMet Tryz.prog Rows.formulaAgainUptoRow.laid ((lW os).forCall (fun _ _=>0) ⟨#[],#[.string ⟨#[]⟩],[]⟩).memory:=
 Ss os _
def agn_lifted(os:Os)(started:os.Started)(H:Type)(enc:TypeId×Value->H)(F:Stop.Interp):
 ReturnsInHanded {} Tryz.checked os 7 .any ((Rows.OpenSpec.upto Rows.formulaAgainSpec).preRow enc Tryz.prog Tryz.f7 Rows.formulaAgainUptoRow.domain false Rows.formulaAgainUptoRow.laid) (((Rows.OpenSpec.upto Rows.formulaAgainSpec).at F).post enc Tryz.prog Tryz.f7 false true false false):=by
 obtain⟨places,hx⟩:=agn_reads os enc;refine returnsInHanded_of_row (C:=Tryz.checked) (s:=Rows.OpenSpec.upto Rows.formulaAgainSpec) Sv started zk Tryz.func7
  (witness_row_at (enc:=enc) (C:=Tryz.checked) false (lW os) #[.string ⟨#[]⟩] rfl zk zk zk
    (OpenSpec.preRow_of_cond 8 hx zk (fun k hk=>by cases hk;kernel_rfl) zk (agn_laid os))) ?_
 intro W base args ds gs before hval hW _ hcond _ hL hS _;exact agn_contract H enc W base args ds gs before hval hW (hcond _ rfl) hL hS
def agn_closed:joinedFacts Tryz.pinned.checked.prog 7 Tryz.f7 (Rows.OpenSpec.upto Rows.formulaAgainSpec).bare Rows.formulaAgainUptoRow=true:=by
 unfold joinedFacts;simp only[az]
 repeat'(with_reducible apply ai)
 all_goals(as_aux_lemma=>kernel_rfl)
def agn_said:Rows.FormulaAgainUptoSaid:=
 OpenClaim.holds_of_cond 7 Tryz.f7 rfl rfl rfl rfl rfl rfl rfl ⟨rfl,rfl,rfl,rfl,rfl⟩ rfl rfl rfl rfl rfl zk Tryz.func7 agn_closed
  (il zk) (by unfold Func.isWrapper;first|(rw[ae (by decide +kernel)];kernel_rfl)|(rw[aa (by decide +kernel)];exact⟨rfl,rfl⟩))
  (fun os started H enc _ F=>by rw[OpenClaim.pre_eq_preRow];exact agn_lifted os started H enc F)
def agn_plain(f:FuncId)(fn:Func)(hf:Tryz.pinned.checked.prog.funcNamed Rows.formulaAgainUptoRow.func=some f)(hfn:Tryz.pinned.checked.prog.funcs[f]? = some fn):
 true=Tryz.pinned.checked.prog.looks []∧∀(j:Nat) t,fn.params[j]? = some t->Tryz.pinned.checked.prog.wantsStandIn t=false:=by
 obtain rfl:f=7:=jg ((show Tryz.prog.funcNamed Rows.formulaAgainUptoRow.func=some 7 by kernel_rfl).symm.trans hf) |>.symm;obtain rfl:fn=Tryz.f7:=(jg (Tryz.func7.symm.trans hfn)).symm;refine⟨zk,fun j t ht=>?_⟩;rw[Tryz.params7]at ht;have hm:=Array.mem_of_getElem? ht;obtain rfl:t=9:=by simpa using hm
 exact(show Tryz.prog.wantsStandIn 9=false by kernel_rfl)
theorem formulaAgain_holds:Rows.FormulaAgainUptoCardSaid:=
 Claim7.holds_tied_plain_at .later [] _ _ _ _ agn_said (fun _ h=>by cases h) zk (fun _ h=>by cases h) formulaAgainUpto_row_tie rfl ⟨rfl,rfl⟩ zk rfl agn_plain zk
#print axioms formulaAgain_holds
end Go.Proofs.YtbagpkiomjlhkaaGreatDoor
