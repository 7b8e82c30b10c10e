/- Chapter 17: the law FormulaParses. -/
import Derived.Test.YtbagpkiomjlhkaaGreatDoorSimC
import Derived.Test.YtbagpkiomjlhkaaGreatDoorSimA
import Derived.Test.YtbagpkiomjlhkaaGreatDoorEqV
import Derived.Test.YtbagpkiomjlhkaaGreatDoorKnA
import Derived.Test.YtbagpkiomjlhkaaGreatDoorTabs
set_option linter.all false
namespace Go.Ai
open Go Go.Proofs
set_option maxRecDepth 100000
set_option maxHeartbeats 4000000
def arF{α:Type}[Inhabited α]{f:α->α->Bool}{l:List α}(h:∀x∈l,f x x=true):eqL f l l=true:=by
 unfold eqL;rw[Bool.and_eq_true];refine⟨decide_eq_true rfl,List.all_eq_true.2 fun j hj=>h _ ?_⟩;have hj:=List.mem_range.1 hj;rw[show l.getD j default=l[j] by simp[List.getD,hj]];exact List.getElem_mem hj
theorem arE{eqv:V->V->Bool}(hv:∀v,eqv v v=true){e:Nat}:∀(k:Nat) {x:X},X.le e k x->eqX eqv k x x=true
 | 0,_,h=>h.elim
 | k+1,x,h=>by
  unfold eqX;rw[arF fun v _=>hv v,arF fun y hy=>arE hv k (h.2.2.2.2 y hy)];simp
theorem aso:∀{c:Nat} {x:X},X.dep c x->x.small->X.le 1 c x
 | 0,_,h,_=>h.elim
 | c+1,x,h,w=>⟨(w 1).1.t,Nat.le_trans (w 1).1.v (by decide),Nat.le_trans (w 1).1.a (by decide),fun v hv=>((w 1).1.s v hv).1,fun y hy=>aso (h y hy) fun k=>(w (k+1)).2 y hy⟩
theorem arq:∀(k:Nat) {x:X},X.all SzX k x->X.all (PlX 0) k x
 | 0,_,_=>trivial
 | k+1,x,h=>⟨⟨fun _ hl=>by
  obtain⟨v,hv⟩:=List.length_eq_one_iff.1 hl;rw[hv];exact h.1.s v (by rw[hv];exact List.mem_singleton.2 rfl)⟩,fun y hy=>arq k (h.2 y hy)⟩
def law_prs(s0:ByteArray)(hs0:s0.size<=1048576):Af Tryz.prog 6 [.str fun _=>s0] [] (.bool fun _=>true) []:=by
 obtain⟨X0,hX⟩:∃X0,X0=s0.extract (Int.toNat 0) (if false=true then if(s0.size:Int)<400 then 400 else(s0.size:Int)else if 400<(s0.size:Int)then 400 else(s0.size:Int)).toNat:=⟨_,rfl⟩
 have hE:0<=(if false=true then if(s0.size:Int)<400 then 400 else(s0.size:Int)else if 400<(s0.size:Int)then 400 else(s0.size:Int))∧(if false=true then if(s0.size:Int)<400 then 400 else(s0.size:Int)else if 400<(s0.size:Int)then 400 else(s0.size:Int))<=(s0.size:Int):=by
  simp only[Bool.false_eq_true,if_false];split<;>omega
 have hXs:X0.size<=1048576:=by rw[hX,ByteArray.size_extract];omega
 have h1:=aqn X0 (by omega);have h2:=as1 X0 (by omega);obtain⟨sim,hP,hl,hi⟩:=as0 X0;have hs:=aoJ X0;have hm:OkM 33 (newM X0):=⟨hi,hl,(by decide:(-1:Int)<=0),(by decide:(0:Int)<=33),.inr ⟨(by decide:(0:Int)<=0),(by decide:(0:Int)<=32),(by decide:(33:Int)<=((33:Nat):Int)+0)⟩,hP,fun t ht hk=>((hP t ht).k2 hk).2⟩
 have hr:SR 33 (.mk (newS X0) 0) (newM X0):=⟨sim,fun _=>rfl,⟨hs.fin,hs.len,(by decide:(-1:Int)<=0),(by decide:(0:Int)<=33),hs.ne,.inr ⟨(by decide:(0:Int)<=0),(by decide:(0:Int)<=32),(by decide:(33:Int)<=((33:Nat):Int)+0)⟩,hs.tk⟩,hm⟩
 obtain⟨D,hD⟩:∃D,65600<=D+1:=⟨65600,by decide⟩
 have ps:=arY (pe:=peV) ajK apB (D:=D+1) hD hr (ckX (oneP 0));have q:=((arh (pe:=peV) ajK apB (D:=D+1) hD 33).1 _ _ hr).2;obtain⟨p1,-⟩:=(aqV (pe:=peV) (e:=0) apB hD 33).1 (newM X0) hm;have hx:X.le 1 (D+1) (aqA peV (newM X0)).1:=aso (X.aqo p1.x (by have:=p1.g.il hi;omega)) p1.w;have hck:=ai3 0 (by decide) D _ hx (arq 9 (p1.w 9));have c2:=as7 apB hD h2 hm hck
 have c1:=ar1 ajK (fun t h _=>apB t h) hD (newS X0) h1 hs (fun he=>by
  rw[show(abP peV (newS X0)).1=(aqA peV (newM X0)).1 from q he];exact hck)
 rw[ps]at c1;have hx2:X.le 1 (D+1) (aqx peV (ckX (oneP 0)) (newM X0)).1:=by
  unfold aqx;split
  ·exact aso (X.aqo (ark (c:=0)) (by omega)) def_sm
  ·exact hx
 have h5:=apt (eqvV 1) 0 0 (fun v w hv hw=>arH 1 v w hv hw) (D+1) D D _ _ hx2 hx2 hx2;rw[arE (fun v=>by unfold eqvV;rw[aox];rfl) _ hx2]at h5;have hk:=akX;clear ps q p1 hx hck hr hm hs sim hP hl hi h1 h2 hx2 hD;generalize aqx peV (ckX (oneP 0)) (newM X0)=R at*;obtain⟨x,l,c,e⟩:=R;dsimp only at c1 c2 h5
 (refine fA [.tmp 2] kp6 [(2,[(1,.tup [encX 1 (D+1) .any fun _=>x,zI l,zI c,zI e],[])]),(3,[(1,.tup [encX 1 (D+1) .any fun _=>x,zI l,zI c,zI e],[])]),(4,[(0,zO true,[]),(19,zO true,[])])] Tryz.func6 fun _=>?_;repeat' with_reducible first|exact⟨⟩|refine mA ?_ ?_|refine mC (fun _=>?_) fun _=>?_)
 all_goals(try simp only[<- hX])
 all_goals(try exact zB)
 try(any_goals((with_reducible refine bZ ?_);(try dsimp only);(have q:=h5;refine Af.wN q ?_;clear q);(focus(refine aQ ?_;repeat' first|with_reducible apply And.intro|exact wZ|fail))))
 all_goals(try(intro c hc;simp only[List.mem_singleton]at hc;subst hc;exact⟨Int.le_refl _,hE.1,hE.2⟩))
 (all_goals try first|exact eZ|(refine qC ?_;repeat' with_reducible first|exact⟨⟩|refine mA ?_ ?_))
 all_goals simp
end Go.Ai

namespace Go.Proofs.YtbagpkiomjlhkaaGreatDoor
open Go Go.Ai Go.RowKit Go.ChangeShapes Go.WideShapes Go.ChangeAt
set_option maxRecDepth 100000
set_option maxHeartbeats 4000000
def ar0(H:Type)(enc:TypeId×Value->H)(W:World)(base:Nat)(args:Array Value)(ds gs:List (DataW H))(before:List MemPlace)
 (hval:∀(j:Nat) t v,Tryz.f6.params[j]? = some t->args[j]? = some v->Value.okWide Tryz.prog W .any base t v)
 (hW:DataW.Whole enc Tryz.prog Tryz.f6.params.toList Rows.formulaParsesSpec.vars false W args.toList ds gs before) (hk:Rows.uptoSmall H (ds++gs)=true) (hL:laidMetH Tryz.prog Rows.formulaParsesUptoRow.laid W) (hS:W.ShapedOpen Tryz.prog):
 Calls Tryz.prog 6 args W fun e W'=>∃v,e=.returned v∧Rows.formulaParsesSpec.post enc Tryz.prog Tryz.f6 false true false false W args v W':=by
 have hW':=hW;obtain⟨p,q,hA,hV,rfl,_,_⟩:=hW;obtain rfl:=arn hV;rw[Tryz.params6]at hA hval;obtain⟨v0,vs0,d0,ds0,pa0,pb0,hargs,rfl,rfl,t0,r0⟩:=trodAll_cons hA;obtain⟨rfl,rfl,rfl⟩:=trodAll_nil r0;obtain rfl:args=#[v0]:=by cases args;simp_all
 have hb:Rows.uptoBulkAll ([d0]++[])<=1048576:=of_decide_eq_true hk;simp only[List.append_nil,Rows.uptoBulkAll]at hb;obtain⟨x0,rfl,rfl,_,_⟩:=Go.ChangeMaps.open_string Tryz.underlying9 (hval 0 9 v0 rfl rfl) t0;have h0:x0.size<=1048576:=by simp only[Rows.uptoBulk,aeN]at hb;omega
 have a0:RD W (fun b=>b<W.heap.size) W.heap.size (.str fun _=>x0) (.string x0):=.str _;refine(anp (law_prs x0 (by omega)) rfl (arP hL hS) fun i av hi=>?_).mono fun e W' ⟨he,hbel⟩=>⟨_,he,?_⟩
 ·match i with
  | 0=>simp only[List.getElem?_cons_zero,Option.some.injEq]at hi;subst hi;exact a0
  | i+1=>simp at hi
 ·refine ars (s:=Rows.formulaParsesSpec) rfl (by kernel_rfl) rfl ?_ hW' hbel;rw[Tryz.params6];intro t ht;obtain rfl:t=9:=by simpa using ht
  exact⟨by kernel_rfl,of_decide_eq_true (by kernel_rfl)⟩
def arU(os:Os){H:Type}(enc:TypeId×Value->H):∃places,DataW.whole enc Tryz.prog ((lW os).forCall (fun _ _=>0) ⟨#[],#[.string ⟨#[]⟩],[]⟩).memory Tryz.f6.params.toList Rows.formulaParsesSpec.vars false (#[.string ⟨#[]⟩]:Array Value).toList 8=some ([.lit (.string [])],[],places):=
 ⟨[],by kernel_rfl⟩
def prs_laid(os:Os):laidMet Tryz.prog Rows.formulaParsesUptoRow.laid ((lW os).forCall (fun _ _=>0) ⟨#[],#[.string ⟨#[]⟩],[]⟩).memory:=
 akU os _
def arI(os:Os)(started:os.Started)(H:Type)(enc:TypeId×Value->H)(F:Stop.Interp):
 ReturnsInHanded {} Tryz.checked os 6 .any ((Rows.OpenSpec.upto Rows.formulaParsesSpec).preRow enc Tryz.prog Tryz.f6 Rows.formulaParsesUptoRow.domain false Rows.formulaParsesUptoRow.laid) (((Rows.OpenSpec.upto Rows.formulaParsesSpec).at F).post enc Tryz.prog Tryz.f6 false true false false):=by
 obtain⟨places,hx⟩:=arU os enc;refine returnsInHanded_of_row (C:=Tryz.checked) (s:=Rows.OpenSpec.upto Rows.formulaParsesSpec) own4 started (by kernel_rfl) Tryz.func6
  (witness_row_at (enc:=enc) (C:=Tryz.checked) false (lW os) #[.string ⟨#[]⟩] rfl (by kernel_rfl) (by kernel_rfl) (by kernel_rfl)
    (OpenSpec.preRow_of_cond 8 hx (by kernel_rfl) (fun k hk=>by cases hk;kernel_rfl) (by kernel_rfl) (prs_laid os))) ?_
 intro W base args ds gs before hval hW _ hcond _ hL hS _;exact ar0 H enc W base args ds gs before hval hW (hcond _ rfl) hL hS
def arJ:joinedFacts Tryz.pinned.checked.prog 6 Tryz.f6 (Rows.OpenSpec.upto Rows.formulaParsesSpec).bare Rows.formulaParsesUptoRow=true:=by
 unfold joinedFacts;simp only[Bool.and_eq_true]
 repeat'(with_reducible apply And.intro)
 all_goals(as_aux_lemma=>kernel_rfl)
def prs_said:Rows.FormulaParsesUptoSaid:=
 OpenClaim.holds_of_cond 6 Tryz.f6 rfl rfl rfl rfl rfl rfl rfl ⟨rfl,rfl,rfl,rfl,rfl⟩ rfl rfl rfl rfl rfl (by kernel_rfl) Tryz.func6 arJ
  (of_decide_eq_true (by kernel_rfl)) (by unfold Func.isWrapper;first|(rw[if_pos (by decide +kernel)];kernel_rfl)|(rw[if_neg (by decide +kernel)];exact⟨rfl,rfl⟩))
  (fun os started H enc _ F=>by rw[OpenClaim.pre_eq_preRow];exact arI os started H enc F)
def arV(f:FuncId)(fn:Func)(hf:Tryz.pinned.checked.prog.funcNamed Rows.formulaParsesUptoRow.func=some f)(hfn:Tryz.pinned.checked.prog.funcs[f]? = some fn):
 true=Tryz.pinned.checked.prog.looks []∧∀(j:Nat) t,fn.params[j]? = some t->Tryz.pinned.checked.prog.wantsStandIn t=false:=by
 obtain rfl:f=6:=Option.some.inj ((show Tryz.prog.funcNamed Rows.formulaParsesUptoRow.func=some 6 by kernel_rfl).symm.trans hf) |>.symm;obtain rfl:fn=Tryz.f6:=(Option.some.inj (Tryz.func6.symm.trans hfn)).symm;refine⟨by kernel_rfl,fun j t ht=>?_⟩;rw[Tryz.params6]at ht;have hm:=Array.mem_of_getElem? ht;obtain rfl:t=9:=by simpa using hm
 exact(show Tryz.prog.wantsStandIn 9=false by kernel_rfl)
theorem formulaParses_holds:Rows.FormulaParsesUptoCardSaid:=
 Claim7.holds_tied_plain_at .later [] _ _ _ _ prs_said (fun _ h=>by cases h) (by kernel_rfl) (fun _ h=>by cases h) formulaParsesUpto_row_tie rfl ⟨rfl,rfl⟩ (by kernel_rfl) rfl arV (by kernel_rfl)
#print axioms formulaParses_holds
end Go.Proofs.YtbagpkiomjlhkaaGreatDoor
