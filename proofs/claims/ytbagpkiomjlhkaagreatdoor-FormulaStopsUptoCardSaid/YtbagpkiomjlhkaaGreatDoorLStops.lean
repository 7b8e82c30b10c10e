/- Chapter 17: the law FormulaStops. -/
import Derived.Test.YtbagpkiomjlhkaaGreatDoorPrD
import Derived.Test.YtbagpkiomjlhkaaGreatDoorPrE
import Derived.Test.YtbagpkiomjlhkaaGreatDoorOpX
set_option linter.all false
namespace Go.Ai
open Go Go.Proofs Tryz
set_option maxRecDepth 100000
set_option maxHeartbeats 4000000
def stopT(c:Nat):ByteArray:=(stopL.getD c (⟨#[]⟩,default)).1
def pick_stop{c:Nat}(h:c<8):vu [.str fun _=>⟨#[59]⟩,.str fun _=>⟨#[125]⟩,.str fun _=>⟨#[41]⟩,.str fun _=>⟨#[44]⟩,.str fun _=>⟨#[119,111,114,100]⟩,.str fun _=>⟨#[45,62]⟩,.str fun _=>⟨#[123]⟩,.str fun _=>⟨#[55]⟩] c=stopT c:=by
 rcases c with _|_|_|_|_|_|_|_|c<;>first|rfl|omega
def stopT_size(c:Nat):(stopT c).size<=4:=by
 rcases c with _|_|_|_|_|_|_|_|c<;>first|decide|exact aB _
def stop_facts{lit:V->ByteArray}{e:Nat}{ck:X->Int}{x:X}(hx:X.le e 9 x)(hg:X.all (ud lit) 9 x)(hh:gL 9 x=false)(hc:ck x=0){c:Nat}(h8:c<8)(hs:(aP lit 9 x 0++fg++stopT c).size<=16384):
 ∃a E,(ep jt (newS (aP lit 9 x 0++fg++stopT c))).1=x∧mJ jt ck (newS (aP lit 9 x 0++fg++stopT c))=(x,ar [a,E] 0 0)∧a.text=stopT c∧E.kind=0:=by
 obtain⟨d,h⟩:=Lk hx hg hh;obtain⟨L,hL⟩:=h.arg 0 zd false
 obtain⟨k1,k2,k3,k4⟩:=stop_all (stopL.getD c (⟨#[]⟩,default)) (by
  simp only[List.getD,bf (show c<stopL.length from h8)];exact d9 _)
 obtain⟨a,E,g1,g2,g3⟩:=stop_read hL zd k1 k2 k3 hs;refine⟨a,E,ak Prod.fst g1,?_,((ak Tok.text g2:a.z.text=_)).trans k4,gx g3⟩;unfold mJ;have g1:ep jt (newS (aP lit 9 x 0++fg++stopT c))=(x,aT [a,E] 0 0 0):=g1;rw[g1];show(if(ar [a,E] 0 0).e≠0 then _ else if((ar [a,E] 0 0).fail (ck x)).e≠0 then _ else(x,(ar [a,E] 0 0).fail (ck x)))=_;rw[hc,lc];exact(aa (by show¬(0:Int)≠0;simp)).trans (aa (by show¬(0:Int)≠0;simp))
def dum9(e:Nat)(x:X)(d:Int)(b:Bool):List (Nat×cL):=[(1,[(0,.bool fun _=>true,[]),(4,.bool fun _=>b,[]),(9,.int .i64 fun _=>d,[]),(14,.bool fun _=>false,[])]),(2,[(0,.bool fun _=>true,[])]),(3,[(0,.bt,[])]),(4,[(1,.str fun _=>⟨#[]⟩,[])]),(6,[(1,.str fun _=>⟨#[]⟩,[]),(5,.ptr 19 0,[(19,am fun _=>.mk [] 0 0 0)])]),(7,[(1,aq (e+1) 65600 .any fun _=>x,[(1000,am fun _=>.mk [] 0 0 0)])]),
 (8,[(1,.ag [zI 0,zI 0,zI 0],[(1000,am fun _=>.mk [] 0 0 0)])]),(9,[(5,zO true,[]),(9,zK default,[(1000,am fun _=>.mk [] 0 0 0)]),(16,zK default,[(1000,am fun _=>.mk [] 0 0 0)])])]
def law_stp(e D:Nat)(he:e+1<=1073741824)(x:X)(hx:X.le (e+1) (D+1) x)(n:Int)(hn:0<=n∧n<256):Af Tryz.prog 9 [aq (e+1) (D+1) .any fun _=>x,.int .u8 fun _=>n] [] (.bool fun _=>true) []:=by
 have h1:=Jt e he D x hx;have h0:=R9;obtain⟨b,h2⟩:=Sf e (D+1) D x hx hx;obtain⟨c,hcn⟩:∃c:Nat,n.tmod 8=(c:Int):=⟨(n.tmod 8).toNat,by rw[mP hn.1];omega⟩
 have hc8:c<8:=by rw[mP hn.1]at hcn;omega
 have hP:=pick_stop hc8;by_cases hc:kB (iL (iW e) cr) x=0
 ·obtain⟨lit,c3,cg,hh,hz,_,h4,_,hw⟩:=Sa e D he x hx hc;have h6:=Jv e 9 D x hx c3;have hq:=stopT_size c;have h9:Af Tryz.prog 25 [aq (e+1) (D+1) .any fun _=>x,aq (e+1) 65600 .any fun _=>x] [] (.bool fun _=>true) []:=by
   have:=IN (IK (e+1)) e e (fun v w hv hw=>QO (e+1) v w hv hw) 9 D 65599 x x hx (X.cP c3 zd) c3
   rwa [Jn (fun v=>by unfold IK;rw[Do];rfl) _ c3]at this
  have hS:∃a E:Tok,jr 9 x=false->(aP lit 9 x 0).size<=16000->a.text=stopT c∧E.kind=0 ∧
   Af Tryz.prog 28 [.ptr 1000 0] [(1000,am fun _=>newS (aP lit 9 x 0++fg++stopT c))] (aq (e+1) 65600 .any fun _=>x) [(1000,am fun _=>ar [a,E] 0 0)]:=by
   by_cases hr:jr 9 x=false∧(aP lit 9 x 0).size<=16000
   ·have hs:(aP lit 9 x 0++fg++stopT c).size<=16384:=by
     rw[aj,aj,show fg.size=1 from rfl];omega
    obtain⟨a,E,q1,q2,q3,q4⟩:=stop_facts (ck:=kB (iL (iW e) cr)) c3 cg (hh.trans hr.1) hc hc8 hs;refine⟨a,E,fun _ _=>⟨q3,q4,?_⟩⟩
    have:=XV (pe:=jt) (fun t h=>Jq h) (fun t ht _=>Si t ht) (e:=e) (D:=65600) zd (ck:=kB (iL (iW e) cr)) (newS (aP lit 9 x 0++fg++stopT c)) (Sh _) (fun _=>by
     rw[q1];exact Jt e he 65599 x (X.cP c3 zd))
    rw[q2]at this;exact this
   ·exact⟨default,default,fun a b=>absurd ⟨a,b⟩ hr⟩
  obtain⟨a,E,hS⟩:=hS;have hN:(aP lit 9 x 0).size<=16000->Af Tryz.prog 20 [.str fun _=>aP lit 9 x 0++fg++stopT c] [] (.ptr 19 0) [(19,am fun _=>newS (aP lit 9 x 0++fg++stopT c))]:=fun hs=>Ja _ (by rw[aj,aj,show fg.size=1 from rfl];omega);have h22:Af Tryz.prog 22 [.ptr 1000 0] [(1000,am fun _=>ar [a,E] 0 0)] (.ag [.int .i64 fun _=>0,.int .i64 fun _=>0,.int .i64 fun _=>0]) [(1000,am fun _=>ar [a,E] 0 0)]:=DO (ar [a,E] 0 0);have h29:=kV (ar [a,E] 0 0) (by show 2<=_;decide);rw[eR,iA zsi]at h29;have h30:=kV (ar [E] 0 0) (by show 1<=_;decide);rw[eR]at h30;rw[hc]at h1;generalize (ar [E] 0 0).next=s3 at*;generalize ar [E] 0 0=s2 at*;generalize ar [a,E] 0 0=s1 at*;clear hc c3 cg hh hz hw;generalize stopT c=S at*;generalize aP lit 9 x 0=t at*;cases hr:jr 9 x with
  | true=>
   rw[hr]at h6;clear hS hN h22 h29 h30 h9;generalize newS (t++fg++S)=N at*
   (apply Af.of tF mF [.tmp 4] kp9 [(1,[(0,.bool fun _=>true,[]),(4,.bool fun _=>b,[]),(9,.int .i64 fun _=>0,[]),(14,.bool fun _=>true,[])]),(2,[(0,.bool fun _=>true,[])]),(3,[(0,.bt,[])]),(4,[(1,.str fun _=>t,[])]),(6,[(1,.str fun _=>t,[]),(5,.ptr 19 0,[(19,am fun _=>N)])]),(7,[(1,aq (e+1) 65600 .any fun _=>x,[(1000,am fun _=>s1)])]),
     (8,[(1,.ag [.int .i64 fun _=>0,.int .i64 fun _=>0,.int .i64 fun _=>0],[(1000,am fun _=>s1)])]),(9,[(5,.bool fun _=>true,[]),(9,ow fun _=>a,[(1000,am fun _=>s2)]),(16,ow fun _=>E,[(1000,am fun _=>s3)])])] func9 (fun _=>?_);(any_goals((with_reducible refine wI ?_);cbv;(try dsimp only[nc]at*);(repeat'(with_reducible first|exact‹False›.elim|exact nZ|refine oC ?_ ?_|refine VC.mk rfl ?_ ?_ ?_|(apply Ca.mk<;>intro _)|refine cV (fun _=>?_) fun _=>?_|((first|apply xE|apply uE);cbv;(try dsimp only[nc]at*)))))))
   all_goals(try simp only[aF])
   all_goals try exact absurd ‹((True∧b=true)∧True)∧False› (fun q=>q.2)
   any_goals((with_reducible first|refine nO ?_|refine sO (fun _=>?_));first|exact h0|exact h1|exact h2|exact h6)
   all_goals exact eZ
  | false=>
   rw[hr]at h6;have hS:=hS hr;generalize hNe:newS (t++fg++S)=N at*
   (apply Af.of tF mF [.tmp 4] kp9 [(1,[(0,.bool fun _=>true,[]),(4,.bool fun _=>b,[]),(9,.int .i64 fun _=>0,[]),(14,.bool fun _=>false,[])]),(2,[(0,.bool fun _=>true,[])]),(3,[(0,.bt,[])]),(4,[(1,.str fun _=>t,[])]),(6,[(1,.str fun _=>t,[]),(5,.ptr 19 0,[(19,am fun _=>N)])]),(7,[(1,aq (e+1) 65600 .any fun _=>x,[(1000,am fun _=>s1)])]),
     (8,[(1,.ag [.int .i64 fun _=>0,.int .i64 fun _=>0,.int .i64 fun _=>0],[(1000,am fun _=>s1)])]),(9,[(5,.bool fun _=>true,[]),(9,ow fun _=>a,[(1000,am fun _=>s2)]),(16,ow fun _=>E,[(1000,am fun _=>s3)])])] func9 (fun _=>?_);(any_goals((with_reducible refine wI ?_);cbv;(try dsimp only[nc]at*);(repeat'(with_reducible first|exact‹False›.elim|exact nZ|refine oC ?_ ?_|refine VC.mk rfl ?_ ?_ ?_|(apply Ca.mk<;>intro _)|refine cV (fun _=>?_) fun _=>?_|((first|apply xE|apply uE);cbv;(try dsimp only[nc]at*)))))))
   all_goals(try simp only[aF])
   all_goals(try simp only[hcn,bu,hP])
   any_goals((with_reducible first|refine nO ?_|refine sO (fun _=>?_));first|exact h0|exact h1|exact h2|exact h4|exact h6|exact h9|exact h22|exact h29|exact h30|exact hN zo|exact(hS zo).2.2)
   (all_goals try first|exact eZ|with_reducible (refine rQ ?_;repeat' first|apply ai|exact wZ)|(refine sQ ?_;repeat' first|with_reducible apply ai|exact cZ))
   ·show _+1<=_;omega
   ·rw[aj];show _+1+_<=_;omega
   ·obtain⟨q1,q2,_⟩:=hS zo;rw[q1,q2];simp
 ·generalize kB (iL (iW e) cr) x=d at*;cases b with
  | false=>
   (apply Af.of tF mF [.tmp 4] kp9 (dum9 e x d false) func9 (fun _=>?_);(any_goals((with_reducible refine wI ?_);cbv;(try dsimp only[nc]at*);(repeat'(with_reducible first|exact‹False›.elim|exact nZ|refine oC ?_ ?_|refine VC.mk rfl ?_ ?_ ?_|(apply Ca.mk<;>intro _)|refine cV (fun _=>?_) fun _=>?_|((first|apply xE|apply uE);cbv;(try dsimp only[nc]at*)))))))
   all_goals(try simp only[aF])
   all_goals try exact absurd ‹(True∧False)∧d=0∨False› (fun q=>q.elim (fun q=>hc q.2) id)
   all_goals try exact absurd ‹d=0› hc
   any_goals((with_reducible refine nO ?_);first|exact h0|exact h1|exact h2)
   any_goals((with_reducible refine sO (fun hg=>?_));first|exact h1|exact h2|exact absurd (show d=0 by simpa using hg) hc)
   all_goals exact eZ
  | true=>
   (apply Af.of tF mF [.tmp 4] kp9 (dum9 e x d true) func9 (fun _=>?_);(any_goals((with_reducible refine wI ?_);cbv;(try dsimp only[nc]at*);(repeat'(with_reducible first|exact‹False›.elim|exact nZ|refine oC ?_ ?_|refine VC.mk rfl ?_ ?_ ?_|(apply Ca.mk<;>intro _)|refine cV (fun _=>?_) fun _=>?_|((first|apply xE|apply uE);cbv;(try dsimp only[nc]at*)))))))
   all_goals(try simp only[aF])
   all_goals try exact absurd ‹(True∧True)∧d=0∨False› (fun q=>q.elim (fun q=>hc q.2) id)
   all_goals try exact absurd ‹d=0› hc
   any_goals((with_reducible refine nO ?_);first|exact h0|exact h1|exact h2)
   any_goals((with_reducible refine sO (fun hg=>?_));first|exact h1|exact h2|exact absurd (show d=0 by simpa using hg) hc)
   all_goals exact eZ
end Go.Ai

set_option maxRecDepth 100000
namespace Go.Proofs.YtbagpkiomjlhkaaGreatDoor
open Go Go.Ai Go.RowKit Go.ChangeShapes Go.WideShapes Go.ChangeAt
set_option maxRecDepth 100000
set_option maxHeartbeats 4000000
def stp_contract(H:Type)(enc:TypeId×Value->H)(W:World)(base:Nat)(args:Array Value)(ds gs:List (DataW H))(before:List MemPlace)
 (hval:∀(j:Nat) t v,Tryz.f9.params[j]? = some t->args[j]? = some v->Value.okWide Tryz.prog W .any base t v)
 (hW:DataW.Whole enc Tryz.prog Tryz.f9.params.toList Rows.formulaStopsSpec.vars false W args.toList ds gs before) (hk:Rows.uptoSmall H (ds++gs)=true) (hL:laidMetH Tryz.prog Rows.formulaStopsUptoRow.laid W) (hS:W.ShapedOpen Tryz.prog):
 Calls Tryz.prog 9 args W fun e W'=>∃v,e=.returned v∧Rows.formulaStopsSpec.post enc Tryz.prog Tryz.f9 false true false false W args v W':=by
 have hW':=hW;obtain⟨p,q,hA,hV,rfl,_,_⟩:=hW;obtain rfl:=Sl hV;rw[Tryz.params9]at hA hval;obtain⟨v0,Zu,d0,ds0,Zv,Zw,hargs,rfl,rfl,t0,r0⟩:=trodAll_cons hA;obtain⟨v1,vs1,d1,ds1,pa1,pb1,rfl,rfl,rfl,t1,r1⟩:=trodAll_cons r0;obtain⟨rfl,rfl,rfl⟩:=trodAll_nil r1;obtain rfl:args=#[v0,v1]:=by cases args;simp_all
 have hb:Rows.uptoBulkAll ([d0,d1]++[])<=1048576:=il hk;simp only[uS,Rows.uptoBulkAll]at hb;obtain⟨x0,h0,a0⟩:=Sm t0 zo;obtain⟨x1,rfl,rfl,_,h1⟩:=open_int Tryz.underlying5 (hval 1 5 v1 rfl rfl) t1;have a1:RD W (fun b=>b<W.heap.size) W.heap.size (.int .u8 fun _=>x1) (.int .u8 x1):=.int _ _;refine(Sn (law_stp 1048575 1048575 zd x0 h0 x1 (u8_rg h1)) rfl (So hL hS) fun i av hi=>?_).mono fun e W' ⟨he,hbel⟩=>⟨_,he,?_⟩
 ·match i with
  | 0=>simp only[pd,cB]at hi;subst hi;exact a0
  | 1=>simp only[pd,xP,cB]at hi;subst hi;exact a1
  | i+2=>simp at hi
 ·refine Sp (s:=Rows.formulaStopsSpec) rfl zk rfl ?_ hW' hbel;rw[Tryz.params9];intro t ht;have:t=25∨t=5:=by simp at ht;grind
  rcases this with rfl|rfl
  ·exact⟨zk,il zk⟩
  ·exact⟨zk,il zk⟩
def stp_reads(os:Os){H:Type}(enc:TypeId×Value->H):∃places,DataW.whole enc Tryz.prog ((lW os).forCall (fun _ _=>0) ⟨#[],#[.agg #[.int .i64 0,.int .i64 0,.string ⟨#[]⟩,.slice none 0 0,.slice none 0 0],.int .u8 0],[]⟩).memory Tryz.f9.params.toList Rows.formulaStopsSpec.vars false (#[.agg #[.int .i64 0,.int .i64 0,.string ⟨#[]⟩,.slice none 0 0,.slice none 0 0],.int .u8 0]:Array Value).toList 8=some ([.agg [.lit (.int .i64 0),.lit (.int .i64 0),.lit (.string []),.nil,.nil],.lit (.int .u8 0)],[],places):=
 ⟨[],zk⟩
def stp_laid(os:Os):laidMet Tryz.prog Rows.formulaStopsUptoRow.laid ((lW os).forCall (fun _ _=>0) ⟨#[],#[.agg #[.int .i64 0,.int .i64 0,.string ⟨#[]⟩,.slice none 0 0,.slice none 0 0],.int .u8 0],[]⟩).memory:=
 Ss os _
def stp_lifted(os:Os)(started:os.Started)(H:Type)(enc:TypeId×Value->H)(F:Stop.Interp):
 ReturnsInHanded {} Tryz.checked os 9 .any ((Rows.OpenSpec.upto Rows.formulaStopsSpec).preRow enc Tryz.prog Tryz.f9 Rows.formulaStopsUptoRow.domain false Rows.formulaStopsUptoRow.laid) (((Rows.OpenSpec.upto Rows.formulaStopsSpec).at F).post enc Tryz.prog Tryz.f9 false true false false):=by
 obtain⟨places,hx⟩:=stp_reads os enc;refine returnsInHanded_of_row (C:=Tryz.checked) (s:=Rows.OpenSpec.upto Rows.formulaStopsSpec) Sv started zk Tryz.func9
  (witness_row_at (enc:=enc) (C:=Tryz.checked) false (lW os) #[.agg #[.int .i64 0,.int .i64 0,.string ⟨#[]⟩,.slice none 0 0,.slice none 0 0],.int .u8 0] rfl zk zk zk
    (OpenSpec.preRow_of_cond 8 hx zk (fun k hk=>by cases hk;kernel_rfl) zk (stp_laid os))) ?_
 intro W base args ds gs before hval hW _ hcond _ hL hS _;exact stp_contract H enc W base args ds gs before hval hW (hcond _ rfl) hL hS
def stp_closed:joinedFacts Tryz.pinned.checked.prog 9 Tryz.f9 (Rows.OpenSpec.upto Rows.formulaStopsSpec).bare Rows.formulaStopsUptoRow=true:=by
 unfold joinedFacts;simp only[az]
 repeat'(with_reducible apply ai)
 all_goals(as_aux_lemma=>kernel_rfl)
def stp_said:Rows.FormulaStopsUptoSaid:=
 OpenClaim.holds_of_cond 9 Tryz.f9 rfl rfl rfl rfl rfl rfl rfl ⟨rfl,rfl,rfl,rfl,rfl⟩ rfl rfl rfl rfl rfl zk Tryz.func9 stp_closed
  (il zk) (by unfold Func.isWrapper;first|(rw[ae (by decide +kernel)];kernel_rfl)|(rw[aa (by decide +kernel)];exact⟨rfl,rfl⟩))
  (fun os started H enc _ F=>by rw[OpenClaim.pre_eq_preRow];exact stp_lifted os started H enc F)
def stp_plain(f:FuncId)(fn:Func)(hf:Tryz.pinned.checked.prog.funcNamed Rows.formulaStopsUptoRow.func=some f)(hfn:Tryz.pinned.checked.prog.funcs[f]? = some fn):
 true=Tryz.pinned.checked.prog.looks []∧∀(j:Nat) t,fn.params[j]? = some t->Tryz.pinned.checked.prog.wantsStandIn t=false:=by
 obtain rfl:f=9:=jg ((show Tryz.prog.funcNamed Rows.formulaStopsUptoRow.func=some 9 by kernel_rfl).symm.trans hf) |>.symm;obtain rfl:fn=Tryz.f9:=(jg (Tryz.func9.symm.trans hfn)).symm;refine⟨zk,fun j t ht=>?_⟩;rw[Tryz.params9]at ht;have hm:=Array.mem_of_getElem? ht;have:t=25∨t=5:=by simp at hm;grind
 rcases this with rfl|rfl
 ·exact(show Tryz.prog.wantsStandIn 25=false by kernel_rfl)
 ·exact(show Tryz.prog.wantsStandIn 5=false by kernel_rfl)
theorem formulaStops_holds:Rows.FormulaStopsUptoCardSaid:=
 Claim7.holds_tied_plain_at .later [] _ _ _ _ stp_said (fun _ h=>by cases h) zk (fun _ h=>by cases h) formulaStopsUpto_row_tie rfl ⟨rfl,rfl⟩ zk rfl stp_plain zk
#print axioms formulaStops_holds
end Go.Proofs.YtbagpkiomjlhkaaGreatDoor
