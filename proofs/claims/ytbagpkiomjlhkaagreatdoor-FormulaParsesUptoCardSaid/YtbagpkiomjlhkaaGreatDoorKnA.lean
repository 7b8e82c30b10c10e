/- Chapter 17: literals: integers, Text. -/
import Derived.Test.YtbagpkiomjlhkaaGreatDoorValB
import Derived.Test.YtbagpkiomjlhkaaGreatDoorWide
import Derived.Test.YtbagpkiomjlhkaaGreatDoorDec
import Derived.Test.YtbagpkiomjlhkaaGreatDoorRdI
import Derived.Test.YtbagpkiomjlhkaaGreatDoorChkA
import Derived.Test.YtbagpkiomjlhkaaGreatDoorMdR
import Derived.KernelRfl
import Derived.Test.YtbagpkiomjlhkaaGreatDoorTxD
import Derived.Test.YtbagpkiomjlhkaaGreatDoorPthA
set_option linter.all false
namespace Go.Ai
open Go Go.Proofs
set_option maxRecDepth 100000
set_option maxHeartbeats 4000000
def akS(t:ByteArray):Af Tryz.prog 101 [.str fun _=>t] [] (.tup [.str fun _=>if t.size<=65536 then t else⟨#[]⟩,.int .i64 fun _=>if t.size<=65536 then 0 else 5]) []:=by
 (refine fB [.tmp 2,.tmp 3] kp101 [] Tryz.func101 fun _=>?_;repeat' with_reducible first|exact⟨⟩|refine mA ?_ ?_|refine mC (fun _=>?_) fun _=>?_)
 all_goals(try(rw[if_neg (by omega)]))
 all_goals(try(rw[if_pos (by omega)]))
def afP(e:Nat)(v:V)(ck:Int)(t:ByteArray)(h1:Af Tryz.prog 99 [encV (e+1) .any fun _=>v] [] (.int .i64 fun _=>ck) [])(hc:ck=0)(h2:Af Tryz.prog 102 [encV (e+1) .any fun _=>v] [] (.str fun _=>t) []):
 Af Tryz.prog 48 [encV (e+1) .any fun _=>v] [] (.tup [.str fun _=>if t.size<=65536 then t else⟨#[]⟩,.int .i64 fun _=>if t.size<=65536 then 0 else 5]) []:=by
 have h3:=akS t;obtain⟨r,hr⟩:∃r:ByteArray,r=if t.size<=65536 then t else⟨#[]⟩:=⟨_,rfl⟩
 obtain⟨n,hn⟩:∃n:Int,n=if t.size<=65536 then 0 else 5:=⟨_,rfl⟩
 rw[<- hr,<- hn]at h3 ⊢;subst hc
 (refine fA [.tmp 2,.tmp 3] kp48 [(1,[(1,zI 0,[])]),(2,[(4,zO true,[])]),(4,[(1,zR t,[]),(2,.tup [zR r,zI n],[])])] Tryz.func48 fun _=>?_;repeat' with_reducible first|exact⟨⟩|refine mA ?_ ?_|refine mC (fun _=>?_) fun _=>?_)
 all_goals(try exact zB)
 any_goals(with_reducible refine sO (fun hg=>?_);exact absurd hg (by decide))
 (all_goals(try exact eZ))
 all_goals trace_state
def amJ(e:Nat)(v:V)(hk:v.kind=2)(hn : -9223372036854775808<=v.int∧v.int<=9223372036854775807):Af Tryz.prog 102 [encV (e+1) .any fun _=>v] [] (.str fun _=>abD v.int) []:=by
 have h1:=afl v.int hn.1 hn.2;generalize abD v.int=t at*
 (refine fA [.tmp 2] ahL [(6,[(3,.any,[])]),(8,[(2,zR t,[])]),(10,[(4,.any,[])]),(15,[(2,.any,[])]),(17,[(2,.any,[])]),(19,[(2,.any,[])]),(20,[(1,.any,[])]),(22,[(2,.any,[])]),(23,[(1,.any,[])]),(38,[(7,.any,[])])] Tryz.func102 fun _=>?_;repeat' with_reducible first|exact⟨⟩|refine mA ?_ ?_|refine mC (fun _=>?_) fun _=>?_)
 all_goals(try(exfalso;omega))
 all_goals(try exact zB)
 (all_goals(try exact eZ))
 all_goals trace_state
def exT:ByteArray:=⟨#[110,111,116,32,97,32,61,32,49,32,111,114,32,98,32,105,110,32,40,50,44,32,51,41,32,97,110,100,32,104,97,115,40,99,46,100,41]⟩
def exL:List Tok:=[
 .mk 1 1 1 ⟨#[110,111,116]⟩ ⟨#[]⟩ 0 0 false,
 .mk 1 1 5 ⟨#[97]⟩ ⟨#[]⟩ 0 0 false,
 .mk 5 1 7 ⟨#[61]⟩ ⟨#[]⟩ 0 0 false,
 .mk 2 1 9 ⟨#[49]⟩ ⟨#[]⟩ 1 0 false,
 .mk 1 1 11 ⟨#[111,114]⟩ ⟨#[]⟩ 0 0 false,
 .mk 1 1 14 ⟨#[98]⟩ ⟨#[]⟩ 0 0 false,
 .mk 1 1 16 ⟨#[105,110]⟩ ⟨#[]⟩ 0 0 false,
 .mk 5 1 19 ⟨#[40]⟩ ⟨#[]⟩ 0 0 false,
 .mk 2 1 20 ⟨#[50]⟩ ⟨#[]⟩ 2 0 true,
 .mk 5 1 21 ⟨#[44]⟩ ⟨#[]⟩ 0 0 true,
 .mk 2 1 23 ⟨#[51]⟩ ⟨#[]⟩ 3 0 false,
 .mk 5 1 24 ⟨#[41]⟩ ⟨#[]⟩ 0 0 true,
 .mk 1 1 26 ⟨#[97,110,100]⟩ ⟨#[]⟩ 0 0 false,
 .mk 1 1 30 ⟨#[104,97,115]⟩ ⟨#[]⟩ 0 0 false,
 .mk 5 1 33 ⟨#[40]⟩ ⟨#[]⟩ 0 0 true,
 .mk 1 1 34 ⟨#[99]⟩ ⟨#[]⟩ 0 0 true,
 .mk 5 1 35 ⟨#[46]⟩ ⟨#[]⟩ 0 0 true,
 .mk 1 1 36 ⟨#[100]⟩ ⟨#[]⟩ 0 0 true,
 .mk 5 1 37 ⟨#[41]⟩ ⟨#[]⟩ 0 0 true,
 .mk 0 1 38 ⟨#[]⟩ ⟨#[]⟩ 0 0 false]
def exA:ao0 exT=(exL,0,0,0):=by cbv
def ex_new:Af Tryz.prog 20 [.str fun _=>exT] [] (.ptr 19 0) [(19,boxS fun _=>.mk exL 0 0 0)]:=by
 have h:=aqn exT (by decide);unfold newS at h;rw[exA]at h;exact h
def bA:ByteArray:=⟨#[97]⟩
def bB:ByteArray:=⟨#[98]⟩
def bCD:ByteArray:=⟨#[99,46,100]⟩
def peA:peV bA=0:=by kernel_rfl
def peB:peV bB=0:=by kernel_rfl
def peCD:peV bCD=0:=by kernel_rfl
def pe1(t:ByteArray):Int:=if t=bA∨t=bB∨t=bCD then 0 else peV t
def pe1_eq:peV=pe1:=by
 funext t;unfold pe1;split
 ·rename_i h;rcases h with rfl|rfl|rfl
  ·exact peA
  ·exact peB
  ·exact peCD
 ·rfl
def ag9(t:ByteArray):X:=.mk 2 0 t [] []
def xInt(n:Int):X:=.mk 1 0 ⟨#[]⟩ [sc 2 n 0 ⟨#[]⟩] []
def exX:X:=.mk 5 0 ⟨#[]⟩ [] [.mk 3 0 ⟨#[]⟩ [] [.mk 6 0 ⟨#[]⟩ [] [ag9 bA,xInt 1]],.mk 4 0 ⟨#[]⟩ [] [.mk 25 0 ⟨#[]⟩ [] [ag9 bB,xInt 2,xInt 3],.mk 22 0 bCD [] []]]
def ex_read:(abP pe1 (.mk exL 0 0 0)).1=exX∧(abP pe1 (.mk exL 0 0 0)).2.s.e=0∧(abP pe1 (.mk exL 0 0 0)).2.s.peek.kind=0:=by
 refine⟨by kernel_rfl,by kernel_rfl,by kernel_rfl⟩
def ahn(s:ByteArray):(abo s).1.length<=16:=by
 unfold abo
 repeat' split
 all_goals(dsimp only;(try simp only[List.length_nil]);first|omega|exact Nat.zero_le _)
def vsB(s:ByteArray):Bool:=Lib.validD s.data.toList
def ckPl(e:Nat)(v:V):Int:=ag1 vsB (preV (e+1) 1 v)
def asr(e:Nat)(he:e+1<=1073741824){v:V}(h:V.le (e+1) v∧kz v=[]∧v.kind<=7):Af Tryz.prog 99 [encV (e+1) .any fun _=>v] [] (.int .i64 fun _=>ckPl e v) []:=
 agY vsB e v h.1 he h.2.1 h.2.2 fun p hp _=>valid_ok _ (by
  have:=aiH (e+1) 1 v h.1 p hp;unfold V.le at this;omega)
def oneP(e:Nat):X->Int:=oneX (ckPl e) abo
structure PlX(e:Nat)(x:X):Prop where
 val:x.op=1->x.value.length=1->V.le (e+1) (x.value.getD 0 default)∧kz (x.value.getD 0 default)=[]∧(x.value.getD 0 default).kind<=7
def oneP_ok(e:Nat)(he:e+1<=1073741824)(D:Nat)(x:X)(hx:X.le (e+1) (D+1) x)(hp:PlX e x):Af Tryz.prog 42 [encX (e+1) (D+1) .any fun _=>x] [] (.int .i64 fun _=>oneP e x) []:=by
 exact one_ok (ckPl e) abo e (D+1) x ⟨hx.2.1,hx.2.2.1⟩ (fun _=>⟨adL x.text hx.1,Nat.le_trans (ahn _) (by decide)⟩) fun h1 h2=>asr e he (hp.val h1 h2)
def ai3(e:Nat)(he:e+1<=1073741824)(D:Nat)(x:X)(hx:X.le (e+1) (D+1) x)(hp:X.all (PlX e) 9 x):Af Tryz.prog 15 [encX (e+1) (D+1) .any fun _=>x] [] (.int .i64 fun _=>ckX (oneP e) x) []:=
 ae9 (oneP e) e (PlX e) (fun D x h1 h2=>oneP_ok e he D x h1 h2) D x hx hp
def plB:Nat->X->Bool
 | 0,_=>true
 | k+1,x=>x.text.data.toList.all (fun b=>decide (b.toNat<128))&&(x.value.all (fun v=>v.list.isEmpty&&v.fields.isEmpty&&decide (v.text.size<=1000)&&decide (v.kind=2))&&x.args.all (plB k))
theorem am7{e:Nat}:∀{k:Nat} {x:X},plB k x=true->X.all (PlX e) k x
 | 0,_,_=>trivial
 | k+1,x,h=>by
  simp only[plB,Bool.and_eq_true,List.all_eq_true]at h;obtain⟨h1,h2,h3⟩:=h;refine⟨⟨fun _ hl=>?_⟩,fun y hy=>am7 (h3 y hy)⟩;obtain⟨v,hv⟩:∃v,x.value=[v]:=List.length_eq_one_iff.1 hl;have q:=h2 v (by rw[hv];exact List.mem_singleton.2 rfl);obtain⟨⟨⟨q1,q2⟩,q3⟩,q4⟩:=q;rw[hv];have l1:v.list=[]:=List.isEmpty_iff.1 q1;have l2:v.fields=[]:=List.isEmpty_iff.1 q2;have q3:=of_decide_eq_true q3;have q4:=of_decide_eq_true q4;refine⟨?_,?_,by rw[show([v]:List V).getD 0 default=v from rfl,q4];decide⟩
  ·show V.le (e+1) v;unfold V.le;rw[l1,l2];exact⟨Nat.zero_le _,Nat.zero_le _,Nat.le_trans q3 (by decide),fun x hx=>(by cases hx),fun x hx=>(by cases hx)⟩
  ·show kz v=[]
   unfold kz;rw[l1,l2];simp
def ex_plx:X.all (PlX 0) 9 exX:=am7 (by kernel_rfl)
def leB:Nat->X->Bool
 | 0,_=>false
 | d+1,x=>decide (x.text.size<=1000)&&(decide (x.value.length<=1000)&&(decide (x.args.length<=1000)&&(x.value.all (fun v=>v.list.isEmpty&&v.fields.isEmpty&&decide (v.text.size<=1000))&&x.args.all (leB d))))
theorem ajV{e:Nat}:∀{d:Nat} {x:X},leB d x=true->X.le (e+1) d x
 | 0,_,h=>by cases h
 | d+1,x,h=>by
  simp only[leB,Bool.and_eq_true,List.all_eq_true]at h;obtain⟨h1,h2,h3,h4,h5⟩:=h;have h1:=of_decide_eq_true h1;have h2:=of_decide_eq_true h2;have h3:=of_decide_eq_true h3;refine⟨by omega,by omega,by omega,fun v hv=>?_,fun y hy=>ajV (h5 y hy)⟩;obtain⟨⟨q1,q2⟩,q3⟩:=h4 v hv;have l1:v.list=[]:=List.isEmpty_iff.1 q1;have l2:v.fields=[]:=List.isEmpty_iff.1 q2;have q3:=of_decide_eq_true q3;unfold V.le;rw[l1,l2];exact⟨Nat.zero_le _,Nat.zero_le _,Nat.le_trans q3 (by decide),fun x hx=>(by cases hx),fun x hx=>(by cases hx)⟩
def ex_parse:afD pe1 (ckX (oneP 0)) exL=(exX,0,0,0):=by kernel_rfl
def tokB(t:Tok):Bool:=decide (t.text.size<=65536)&&(decide (t.value.size<=65536)&&(decide (-1000000000000000<=t.num∧t.num<=1000000000000000)&&(decide (0<=t.scale)&&(decide (t.kind=1->letB (byt t.text 0)=true)&&(decide (t.kind=2->0<t.text.size∧0<=t.num)&&(decide (t.kind=5->letB (byt t.text 0)=false)&&t.text.data.toList.all (fun b=>decide (b.toNat<128))))))))
def tokB_ok{t:Tok}(h:tokB t=true):PlTok t:=by
 simp only[tokB,Bool.and_eq_true,List.all_eq_true,decide_eq_true_eq]at h;obtain⟨h1,h2,h3,h4,h5,h6,h7,h8⟩:=h;exact⟨h1,h2,h3,h4,h5,h6,h7,h8⟩
def ex_oks:OkS PlTok (.mk exL 0 0 0):=by
 have hl:exL.getLast?.map (·.kind)=some 0:=by kernel_rfl
 refine⟨fun t ht=>?_,?_,?_,fun t ht=>tokB_ok ?_⟩
 ·have ht:exL.getLast? = some t:=ht;rw[ht]at hl;exact Option.some.inj hl
 ·exact of_decide_eq_true (by kernel_rfl)
 ·intro _ h;have h:exL=[]:=h;rw[h]at hl;cases hl
 ·have:exL.all tokB=true:=by kernel_rfl
  exact List.all_eq_true.1 this t ht
def al4(D:Nat)(hD:65599<=D):Af Tryz.prog 24 [.str fun _=>exT] [] (.tup [encX 1 (D+1) .any fun _=>exX,.int .i64 fun _=>0,.int .i64 fun _=>0,.int .i64 fun _=>0]) []:=by
 have h:=parse_ok (pe:=pe1) (fun t ht=>by rw[<- pe1_eq]at ht;exact ajK t ht) (fun t h1 h2=>by rw[<- pe1_eq];exact amd t h1 h2) (e:=0) (D:=D+1) (by omega) (ck:=ckX (oneP 0)) exL ex_new ex_oks (fun _=>by
  rw[ex_read.1];exact ai3 0 (by decide) D exX (X.aa4 (c:=5) (ajV (by kernel_rfl)) (by omega)) ex_plx)
 rw[ex_parse]at h;exact h
def LeC(a a':AV):Prop:=(a.cell=true->a'.cell=true)∧∀(w:World) (D:Nat->Prop) (B:Nat) (v:Value),RD w D B a v->RD w D B a' v
def LeC.rfl{a:AV}:LeC a a:=⟨id,fun _ _ _ _ h=>h⟩
def LeC.nil{fr:FB}{sz:Nat}{n:Unit->Nat}{f:(Unit->Nat)->List AV}(h:n ()=0):LeC .nil (.slc fr sz n f):=⟨fun _=>by cbv,fun w D B v hv=>by cases hv;exact .empty _ _ _ _ none 0 h (Nat.zero_le _)⟩
def LeC.slc{fr:FB}{sz:Nat}{n n':Unit->Nat}{f f':(Unit->Nat)->List AV}(hn:n ()=n' ())(hl:∀i,i<n ()->LeL (f fun _=>i) (f' fun _=>i)):LeC (.slc fr sz n f) (.slc .any sz n' f'):=
 ⟨fun _=>by cbv,fun w D B v h=>by
  cases h with
  | empty _ _ _ _ p cap h0 hc=>exact .empty _ _ _ _ p cap (by omega) hc
  | slc _ _ _ _ b o cap c h1 hc hD hB hcell hlen hone hel=>exact am0 (.slc .any sz n f b o cap c h1 hc hD trivial hcell hlen hone hel) hn hl⟩
def LeL.nil:LeL [] []:=.of_eq (Eq.refl _)
def LeL.cons{a a':AV}{l l':List AV}(h:LeC a a')(hl:LeL l l'):LeL (a::l) (a'::l'):=by
 refine⟨by simp[hl.1],fun q=>?_,fun w D B j av av' v h1 h2 h3=>?_⟩
 ·simp only[List.all_cons,Bool.and_eq_true]at q ⊢;exact⟨h.1 q.1,hl.2.1 q.2⟩
 ·cases j with
  | zero=>simp at h1 h2;subst h1;subst h2;exact h.2 w D B v h3
  | succ j=>exact hl.2.2 w D B j av av' v (by simpa using h1) (by simpa using h2) h3
def ahp(t:ByteArray)(D:Nat):Af Tryz.prog 23 [.str fun _=>t] [] (encX 1 (D+1) .any fun _=>ag9 t) []:=by
 (refine fB [.cell 2 25] kp23 [] Tryz.func23 fun _=>?_;repeat' with_reducible first|exact⟨⟩|refine mA ?_ ?_|refine mC (fun _=>?_) fun _=>?_)
 all_goals rfl
def sc_cells(n:Int):LeL [.int .i64 fun _=>2,.int .i64 fun _=>n,.int .i64 fun _=>0,.str fun _=>⟨#[]⟩,.nil,.nil] (cells 1 .any fun _=>sc 2 n 0 ⟨#[]⟩):=
 .cons .rfl (.cons .rfl (.cons .rfl (.cons .rfl (.cons (.nil (Eq.refl _)) (.cons (.nil (Eq.refl _)) .nil)))))
def aiL(n:Int)(D:Nat):Af Tryz.prog 36 [.int .i64 fun _=>n] [] (encX 1 (D+1) .any fun _=>xInt n) []:=by
 (refine fB [.cell 2 25] kp36 [] Tryz.func36 fun _=>?_;repeat' with_reducible first|exact⟨⟩|refine mA ?_ ?_|refine mC (fun _=>?_) fun _=>?_)
 any_goals(first|rfl|skip)
 intro i hi;obtain rfl:i=0:=by omega
 exact sc_cells n
def exY:X:=.mk 13 0 ⟨#[]⟩ [] [ag9 bA,.mk 13 0 ⟨#[]⟩ [] [ag9 bB,.mk 16 0 ⟨#[]⟩ [] [xInt 5]]]
def exTx:ByteArray:=⟨#[97,32,45,32,40,98,32,45,32,45,40,53,41,41]⟩
def known_ok(hp:∀D,10<=D->Af Tryz.prog 14 [encX 1 (D+1) .any fun _=>exY] [] (.tup [.str fun _=>exTx,.int .i64 fun _=>0]) []):Af Tryz.prog 12 [] [] (.bool fun _=>true) []:=by
 obtain⟨D,hD⟩:∃D,65599<=D:=⟨_,Nat.le_refl _⟩
 have h1:=al4 (D+2) (by omega);have h2:=ahp bA (D+2);have h3:=ahp bB (D+2);have h4:=aiL 5 (D+2);have hD1:10<=D:=by omega
 clear hD
 (apply Af.of tF mF [.tmp 0] kp12 [(1,[(0,.tup [encX 1 (D+3) .any fun _=>exX,zI 0,zI 0,zI 0],[])]),(2,[(0,encX 1 (D+3) .any fun _=>ag9 bA,[]),(1,encX 1 (D+3) .any fun _=>ag9 bB,[]),(2,encX 1 (D+3) .any fun _=>xInt 5,[]),(3,.nil,[]),(5,.nil,[]),(7,.nil,[])]),(3,[(1,.tup [zR exTx,zI 0],[])])] Tryz.func12 (fun _=>?_);(repeat' with_reducible first|exact nY|refine oC ?_ ?_|refine vQ ?_ ?_ ?_|refine cV (fun _=>?_) fun _=>?_|refine wQ ?_|fail))
 any_goals((with_reducible refine nO ?_);first|exact h1|exact h2|exact h3|exact h4 )
 any_goals((with_reducible refine nO ?_);(refine Af.wN (hp (D+2) (by omega)) ?_);(focus(refine aQ ?_;repeat' first|with_reducible apply And.intro|exact wZ|fail)))
 (all_goals try first|exact eZ|with_reducible (refine rQ ?_;repeat' first|apply And.intro|exact wZ)|(refine sQ ?_;repeat' first|with_reducible apply And.intro|exact cZ))
 have la:∀(y:X) (d d':Nat),leB 1 y=true->1<=d->1<=d'->LeL (aa8 1 d .any fun _=>y) (aa8 1 d' .any fun _=>y):=fun y d d' h h1 h2=>abF 1 (fun _=>y) (ajV h) d d' h1 h2;intro i hi;rcases i with _|_|i
 ·exact la (ag9 bA) (D+3) (D+2) (by kernel_rfl) (by omega) (by omega)
 ·refine .cons .rfl (.cons .rfl (.cons .rfl (.cons (.nil (Eq.refl _)) (.cons (.slc (Eq.refl _) fun i hi=>?_) .nil))));rcases i with _|_|i
  ·exact la (ag9 bB) (D+3) (D+1) (by kernel_rfl) (by omega) (by omega)
  ·refine .cons .rfl (.cons .rfl (.cons .rfl (.cons (.nil (Eq.refl _)) (.cons (.slc (Eq.refl _) fun i hi=>?_) .nil))));obtain rfl:i=0:=by omega
   exact la (xInt 5) (D+3) D (by kernel_rfl) (by omega) (by omega)
  ·omega
 ·omega
def litI(v:V):ByteArray:=if(abD v.int).size<=65536 then abD v.int else⟨#[]⟩
def intB(v:V):Bool:=v.list.isEmpty&&(v.fields.isEmpty&&(decide (v.text.size<=1000)&&decide (v.kind=2∧v.scale=0∧v.text.size=0 ∧ -999999999999999<=v.int∧v.int<=999999999999999)))
def intB_lit{e:Nat}(he:e+1<=1073741824){v:V}(h:intB v=true)(hck:ckPl e v=0):Af Tryz.prog 48 [encV (e+1) .any fun _=>v] [] (.tup [.str fun _=>litI v,.int .i64 fun _=>if(abD v.int).size<=65536 then 0 else 5]) []:=by
 simp only[intB,Bool.and_eq_true]at h;obtain⟨q1,q2,q3,q4⟩:=h;have l1:v.list=[]:=List.isEmpty_iff.1 q1;have l2:v.fields=[]:=List.isEmpty_iff.1 q2;have q3:=of_decide_eq_true q3;obtain⟨k1,k2,k3,k4,k5⟩:=of_decide_eq_true q4;have hle:V.le (e+1) v:=by
  unfold V.le;rw[l1,l2];exact⟨Nat.zero_le _,Nat.zero_le _,Nat.le_trans q3 (by decide),fun x hx=>(by cases hx),fun x hx=>(by cases hx)⟩
 have h1:=asr e he ⟨hle,(by unfold kz;rw[l1,l2];simp),(by omega)⟩;exact afP e v (ckPl e v) (abD v.int) h1 hck (amJ e v k1 ⟨by omega,by omega⟩)
instance (x:X):Decidable (shpX x):=by unfold shpX;infer_instance
def shpB:Nat->X->Bool
 | 0,_=>true
 | k+1,x=>decide (shpX x)&&((x.op != 1||(intB (x.value.getD 0 default)&&ckPl 0 (x.value.getD 0 default)==0))&&x.args.all (shpB k))
theorem alM:∀{k:Nat} {x:X},shpB k x=true->X.all (fun x=>shpX x∧litX litI 0 x) k x
 | 0,_,_=>trivial
 | k+1,x,h=>by
  simp only[shpB,Bool.and_eq_true,List.all_eq_true]at h;obtain⟨h1,h2,h3⟩:=h;refine⟨⟨of_decide_eq_true h1,fun ho=>?_⟩,fun y hy=>alM (h3 y hy)⟩;rw[ho]at h2;simp only[bne_self_eq_false,Bool.false_or,Bool.and_eq_true,beq_iff_eq]at h2;exact⟨_,intB_lit (by decide) h2.1 h2.2⟩
theorem leB_sz:∀{d:Nat} {x:X},leB d x=true->X.all (fun y=>y.text.size<=1073741824) d x
 | 0,_,h=>by cases h
 | d+1,x,h=>by
  simp only[leB,Bool.and_eq_true,List.all_eq_true]at h;obtain⟨h1,_,_,_,h5⟩:=h;exact⟨Nat.le_trans (of_decide_eq_true h1) (by decide),fun y hy=>leB_sz (h5 y hy)⟩
def exY_txt:txtN litI 5 exY 0=exTx:=by cbv
def exY_w:wX litI 5 exY<=549755813888:=by cbv
def an9(D:Nat)(hD:10<=D):Af Tryz.prog 14 [encX 1 (D+1) .any fun _=>exY] [] (.tup [.str fun _=>exTx,.int .i64 fun _=>0]) []:=by
 have hx:X.le 1 5 exY:=ajV (by kernel_rfl);have hx2:X.le 1 (D+1) exY:=X.aa4 hx (by omega);have h1:=ai3 0 (by decide) D exY hx2 (am7 (by kernel_rfl));have e1:ckX (oneP 0) exY=0:=by kernel_rfl
 rw[e1]at h1;have h2:=an4 0 5 D exY hx2 hx (leB_sz (by kernel_rfl));have e2:hidV 5 exY=false:=by kernel_rfl
 rw[e2]at h2;have h3:=air litI 0 5 D exY 0 hx2 hx (alM (by kernel_rfl)) exY_w (by decide) (by decide);rw[exY_txt]at h3;exact agp 0 D exY 0 false exTx h1 (fun _=>h2) (fun _ _=>h3)
def akX:Af Tryz.prog 12 [] [] (.bool fun _=>true) []:=known_ok an9
end Go.Ai
