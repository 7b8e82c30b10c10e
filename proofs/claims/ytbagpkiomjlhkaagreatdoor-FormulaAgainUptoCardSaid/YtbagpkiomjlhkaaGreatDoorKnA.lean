/- Chapter 17: literals: integers, Text. -/
import Derived.Test.YtbagpkiomjlhkaaGreatDoorValB
import Derived.Test.YtbagpkiomjlhkaaGreatDoorWide
import Derived.Test.YtbagpkiomjlhkaaGreatDoorDec
import Derived.Test.YtbagpkiomjlhkaaGreatDoorRdI
import Derived.Test.YtbagpkiomjlhkaaGreatDoorChkA
import Derived.Test.YtbagpkiomjlhkaaGreatDoorMdR
import Derived.KernelRfl
import Derived.Test.YtbagpkiomjlhkaaGreatDoorTxD
import Derived.Test.YtbagpkiomjlhkaaGreatDoorPthA
set_option linter.all false
namespace Go.Ai
open Go Go.Proofs Tryz
set_option maxRecDepth 100000
set_option maxHeartbeats 4000000
def RG(t:ByteArray):Af prog 101 [.str fun _=>t] [] (.ag [.str fun _=>if t.size<=65536 then t else⟨#[]⟩,.int .i64 fun _=>if t.size<=65536 then 0 else 5]) []:=by
 (refine fB [.tmp 2,.tmp 3] RH [] func101 fun _=>?_;repeat' first|exact⟨⟩|apply mA|apply mC<;>intro)
 all_goals try rw[aa zo]
 all_goals try rw[ae zo]
def I8(e:Nat)(v:V)(ck:Int)(t:ByteArray)(h1:Af prog 99 [aK (e+1) .any fun _=>v] [] (.int .i64 fun _=>ck) [])(hc:ck=0)(h2:Af prog 102 [aK (e+1) .any fun _=>v] [] (.str fun _=>t) []):
 Af prog 48 [aK (e+1) .any fun _=>v] [] (.ag [.str fun _=>if t.size<=65536 then t else⟨#[]⟩,.int .i64 fun _=>if t.size<=65536 then 0 else 5]) []:=by
 have h3:=RG t;obtain⟨r,hr⟩:∃r:ByteArray,r=if t.size<=65536 then t else⟨#[]⟩:=⟨_,rfl⟩
 obtain⟨n,hn⟩:∃n:Int,n=if t.size<=65536 then 0 else 5:=⟨_,rfl⟩
 rw[<- hr,<- hn]at h3 ⊢;subst hc
 (refine fA [.tmp 2,.tmp 3] RI [(1,[(1,zI 0,[])]),(2,[(4,zO true,[])]),(4,[(1,zR t,[]),(2,.ag [zR r,zI n],[])])] func48 fun _=>?_;repeat' first|exact⟨⟩|apply mA|apply mC<;>intro)
 all_goals try exact zB
 any_goals(with_reducible refine sO (fun hg=>?_);exact absurd hg zd)
 all_goals try exact eZ
 all_goals trace_state
def I9(e:Nat)(v:V)(hk:v.kind=2)(hn : -9223372036854775808<=v.int∧v.int<=9223372036854775807):Af prog 102 [aK (e+1) .any fun _=>v] [] (.str fun _=>cE v.int) []:=by
 have h1:=ve v.int hn.1 hn.2;generalize cE v.int=t at*
 (refine fA [.tmp 2] rq [(6,[(3,.any,[])]),(8,[(2,zR t,[])]),(10,[(4,.any,[])]),(15,[(2,.any,[])]),(17,[(2,.any,[])]),(19,[(2,.any,[])]),(20,[(1,.any,[])]),(22,[(2,.any,[])]),(23,[(1,.any,[])]),(38,[(7,.any,[])])] func102 fun _=>?_;repeat' first|exact⟨⟩|apply mA|apply mC<;>intro)
 all_goals(try(exfalso;omega))
 all_goals try exact zB
 all_goals try exact eZ
 all_goals trace_state
def zH:ByteArray:=⟨#[110,111,116,32,97,32,61,32,49,32,111,114,32,98,32,105,110,32,40,50,44,32,51,41,32,97,110,100,32,104,97,115,40,99,46,100,41]⟩
def lF:List Tok:=[
 .mk 1 1 1 ⟨#[110,111,116]⟩ ⟨#[]⟩ 0 0 false,
 .mk 1 1 5 ⟨#[97]⟩ ⟨#[]⟩ 0 0 false,
 .mk 5 1 7 ⟨#[61]⟩ ⟨#[]⟩ 0 0 false,
 .mk 2 1 9 ⟨#[49]⟩ ⟨#[]⟩ 1 0 false,
 .mk 1 1 11 ⟨#[111,114]⟩ ⟨#[]⟩ 0 0 false,
 .mk 1 1 14 ⟨#[98]⟩ ⟨#[]⟩ 0 0 false,
 .mk 1 1 16 ⟨#[105,110]⟩ ⟨#[]⟩ 0 0 false,
 .mk 5 1 19 ⟨#[40]⟩ ⟨#[]⟩ 0 0 false,
 .mk 2 1 20 ⟨#[50]⟩ ⟨#[]⟩ 2 0 true,
 .mk 5 1 21 ⟨#[44]⟩ ⟨#[]⟩ 0 0 true,
 .mk 2 1 23 ⟨#[51]⟩ ⟨#[]⟩ 3 0 false,
 .mk 5 1 24 ⟨#[41]⟩ ⟨#[]⟩ 0 0 true,
 .mk 1 1 26 ⟨#[97,110,100]⟩ ⟨#[]⟩ 0 0 false,
 .mk 1 1 30 ⟨#[104,97,115]⟩ ⟨#[]⟩ 0 0 false,
 .mk 5 1 33 ⟨#[40]⟩ ⟨#[]⟩ 0 0 true,
 .mk 1 1 34 ⟨#[99]⟩ ⟨#[]⟩ 0 0 true,
 .mk 5 1 35 ⟨#[46]⟩ ⟨#[]⟩ 0 0 true,
 .mk 1 1 36 ⟨#[100]⟩ ⟨#[]⟩ 0 0 true,
 .mk 5 1 37 ⟨#[41]⟩ ⟨#[]⟩ 0 0 true,
 .mk 0 1 38 ⟨#[]⟩ ⟨#[]⟩ 0 0 false]
def RJ:eY zH=(lF,0,0,0):=by cbv
def RK:Af prog 20 [.str fun _=>zH] [] (.ptr 19 0) [(19,am fun _=>.mk lF 0 0 0)]:=by
 have h:=Ja zH zd;unfold newS at h;rw[RJ]at h;exact h
def bA:ByteArray:=⟨#[97]⟩
def bB:ByteArray:=⟨#[98]⟩
def DF:ByteArray:=⟨#[99,46,100]⟩
def RL:mr bA=0:=zk
def RM:mr bB=0:=zk
def RN:mr DF=0:=zk
def nt(t:ByteArray):Int:=if t=bA∨t=bB∨t=DF then 0 else mr t
def Jb:mr=nt:=by
 funext t;unfold nt;split
 ·rename_i h;rcases h with rfl|rfl|rfl
  ·exact RL
  ·exact RM
  ·exact RN
 ·rfl
def ov(t:ByteArray):X:=.mk 2 0 t [] []
def rr(n:Int):X:=.mk 1 0 ⟨#[]⟩ [sc 2 n 0 ⟨#[]⟩] []
def ua:X:=.mk 5 0 ⟨#[]⟩ [] [.mk 3 0 ⟨#[]⟩ [] [.mk 6 0 ⟨#[]⟩ [] [ov bA,rr 1]],.mk 4 0 ⟨#[]⟩ [] [.mk 25 0 ⟨#[]⟩ [] [ov bB,rr 2,rr 3],.mk 22 0 DF [] []]]
def RO:(ep nt (.mk lF 0 0 0)).1=ua∧(ep nt (.mk lF 0 0 0)).2.s.e=0∧(ep nt (.mk lF 0 0 0)).2.s.peek.kind=0:=by
 refine⟨zk,zk,zk⟩
def Jc(s:ByteArray):(cr s).1.length<=16:=by
 unfold cr
 repeat' split
 all_goals(dsimp only;(try simp only[bV]);first|omega|exact aB _)
def vsB(s:ByteArray):Bool:=Lib.validD s.data.toList
def ub(e:Nat)(v:V):Int:=ru vsB (fa (e+1) 1 v)
def Jd(e:Nat)(he:e+1<=1073741824){v:V}(h:V.le (e+1) v∧kz v=[]∧v.kind<=7):Af prog 99 [aK (e+1) .any fun _=>v] [] (.int .i64 fun _=>ub e v) []:=
 RP vsB e v h.1 he h.2.1 h.2.2 fun p hp _=>Je _ (by
  have:=zJ (e+1) 1 v h.1 p hp;unfold V.le at this;omega)
def uc(e:Nat):X->Int:=iL (ub e) cr
structure wK(e:Nat)(x:X):Prop where
 val:x.op=1->x.value.length=1->V.le (e+1) (x.value.getD 0 default)∧kz (x.value.getD 0 default)=[]∧(x.value.getD 0 default).kind<=7
def RQ(e:Nat)(he:e+1<=1073741824)(D:Nat)(x:X)(hx:X.le (e+1) (D+1) x)(hp:wK e x):Af prog 42 [aq (e+1) (D+1) .any fun _=>x] [] (.int .i64 fun _=>uc e x) []:=by
 exact Gj (ub e) cr e (D+1) x ⟨hx.2.1,hx.2.2.1⟩ (fun _=>⟨wL x.text hx.1,aG (Jc _) zd⟩) fun h1 h2=>Jd e he (hp.val h1 h2)
def Jf(e:Nat)(he:e+1<=1073741824)(D:Nat)(x:X)(hx:X.le (e+1) (D+1) x)(hp:X.all (wK e) 9 x):Af prog 15 [aq (e+1) (D+1) .any fun _=>x] [] (.int .i64 fun _=>kB (uc e) x) []:=
 Gm (uc e) e (wK e) (fun D x h1 h2=>RQ e he D x h1 h2) D x hx hp
def DG:Nat->X->Bool
 | 0,_=>true
 | k+1,x=>x.text.data.toList.all (fun b=>decide (b.toNat<128))&&(x.value.all (fun v=>v.list.isEmpty&&v.fields.isEmpty&&decide (v.text.size<=1000)&&decide (v.kind=2))&&x.args.all (DG k))
theorem DH{e:Nat}:∀{k:Nat} {x:X},DG k x=true->X.all (wK e) k x
 | 0,_,_=>trivial
 | k+1,x,h=>by
  simp only[DG,az,cI]at h;obtain⟨h1,h2,h3⟩:=h;refine⟨⟨fun _ hl=>?_⟩,fun y hy=>DH (h3 y hy)⟩;obtain⟨v,hv⟩:∃v,x.value=[v]:=Bb.1 hl;have q:=h2 v (by rw[hv];exact dD.2 rfl);obtain⟨⟨⟨q1,q2⟩,q3⟩,q4⟩:=q;rw[hv];have l1:v.list=[]:=xY.1 q1;have l2:v.fields=[]:=xY.1 q2;have q3:=il q3;have q4:=il q4;refine⟨?_,?_,by rw[show([v]:List V).getD 0 default=v from rfl,q4];decide⟩
  ·show V.le (e+1) v;unfold V.le;rw[l1,l2];exact⟨aB _,aB _,aG q3 zd,fun x hx=>(by cases hx),fun x hx=>(by cases hx)⟩
  ·show kz v=[]
   unfold kz;rw[l1,l2];simp
def RR:X.all (wK 0) 9 ua:=DH zk
def leB:Nat->X->Bool
 | 0,_=>false
 | d+1,x=>decide (x.text.size<=1000)&&(decide (x.value.length<=1000)&&(decide (x.args.length<=1000)&&(x.value.all (fun v=>v.list.isEmpty&&v.fields.isEmpty&&decide (v.text.size<=1000))&&x.args.all (leB d))))
theorem zL{e:Nat}:∀{d:Nat} {x:X},leB d x=true->X.le (e+1) d x
 | 0,_,h=>by cases h
 | d+1,x,h=>by
  simp only[leB,az,cI]at h;obtain⟨h1,h2,h3,h4,h5⟩:=h;have h1:=il h1;have h2:=il h2;have h3:=il h3;refine⟨zo,zo,zo,fun v hv=>?_,fun y hy=>zL (h5 y hy)⟩;obtain⟨⟨q1,q2⟩,q3⟩:=h4 v hv;have l1:v.list=[]:=xY.1 q1;have l2:v.fields=[]:=xY.1 q2;have q3:=il q3;unfold V.le;rw[l1,l2];exact⟨aB _,aB _,aG q3 zd,fun x hx=>(by cases hx),fun x hx=>(by cases hx)⟩
def RS:wM nt (kB (uc 0)) lF=(ua,0,0,0):=zk
def DI(t:Tok):Bool:=decide (t.text.size<=65536)&&(decide (t.value.size<=65536)&&(decide (-1000000000000000<=t.num∧t.num<=1000000000000000)&&(decide (0<=t.scale)&&(decide (t.kind=1->bJ (ad t.text 0)=true)&&(decide (t.kind=2->0<t.text.size∧0<=t.num)&&(decide (t.kind=5->bJ (ad t.text 0)=false)&&t.text.data.toList.all (fun b=>decide (b.toNat<128))))))))
def RT{t:Tok}(h:DI t=true):de t:=by
 simp only[DI,az,cI,cX]at h;obtain⟨h1,h2,h3,h4,h5,h6,h7,h8⟩:=h;exact⟨h1,h2,h3,h4,h5,h6,h7,h8⟩
def RU:eu de (.mk lF 0 0 0):=by
 have hl:lF.getLast?.map (·.kind)=some 0:=zk
 refine⟨fun t ht=>?_,?_,?_,fun t ht=>RT ?_⟩
 ·have ht:lF.getLast? = some t:=ht;rw[ht]at hl;exact jg hl
 ·exact il zk
 ·intro _ h;have h:lF=[]:=h;rw[h]at hl;cases hl
 ·have:lF.all DI=true:=by kernel_rfl
  exact cI.1 this t ht
def RV(D:Nat)(hD:65599<=D):Af prog 24 [.str fun _=>zH] [] (.ag [aq 1 (D+1) .any fun _=>ua,.int .i64 fun _=>0,.int .i64 fun _=>0,.int .i64 fun _=>0]) []:=by
 have h:=RW (pe:=nt) (fun t ht=>by rw[<- Jb]at ht;exact Jg t ht) (fun t h1 h2=>by rw[<- Jb];exact RY t h1 h2) (e:=0) (D:=D+1) zo (ck:=kB (uc 0)) lF RK RU (fun _=>by
  rw[RO.1];exact Jf 0 zd D ua (X.cP (c:=5) (zL zk) zo) RR)
 rw[RS]at h;exact h
def rx(a a':AV):Prop:=(a.cell=true->a'.cell=true)∧∀(w:World) (D:Nat->Prop) (B:Nat) (v:Value),RD w D B a v->RD w D B a' v
def rx.rfl{a:AV}:rx a a:=⟨id,fun _ _ _ _ h=>h⟩
def rx.nil{fr:FB}{sz:Nat}{n:Unit->Nat}{f:(Unit->Nat)->List AV}(h:n ()=0):rx .nil (.slc fr sz n f):=⟨fun _=>by cbv,fun w D B v hv=>by cases hv;exact .empty _ _ _ _ none 0 h (aB _)⟩
def rx.slc{fr:FB}{sz:Nat}{n n':Unit->Nat}{f f':(Unit->Nat)->List AV}(hn:n ()=n' ())(hl:∀i,i<n ()->aD (f fun _=>i) (f' fun _=>i)):rx (.slc fr sz n f) (.slc .any sz n' f'):=
 ⟨fun _=>by cbv,fun w D B v h=>by
  cases h with
  | empty _ _ _ _ p cap h0 hc=>exact .empty _ _ _ _ p cap zo hc
  | slc _ _ _ _ b o cap c h1 hc hD hB hcell hlen hone hel=>exact Jh (.slc .any sz n f b o cap c h1 hc hD trivial hcell hlen hone hel) hn hl⟩
def aD.nil:aD [] []:=.of_eq (Eq.refl _)
def aD.cons{a a':AV}{l l':List AV}(h:rx a a')(hl:aD l l'):aD (a::l) (a'::l'):=by
 refine⟨by simp[hl.1],fun q=>?_,fun w D B j av bw v h1 h2 h3=>?_⟩
 ·simp only[qD,az]at q ⊢;exact⟨h.1 q.1,hl.2.1 q.2⟩
 ·cases j with
  | zero=>simp at h1 h2;subst h1;subst h2;exact h.2 w D B v h3
  | succ j=>exact hl.2.2 w D B j av bw v (by simpa using h1) (by simpa using h2) h3
def Ji(t:ByteArray)(D:Nat):Af prog 23 [.str fun _=>t] [] (aq 1 (D+1) .any fun _=>ov t) []:=by
 (refine fB [.cell 2 25] RZ [] func23 fun _=>?_;repeat' first|exact⟨⟩|apply mA|apply mC<;>intro)
 all_goals rfl
def R0(n:Int):aD [.int .i64 fun _=>2,.int .i64 fun _=>n,.int .i64 fun _=>0,.str fun _=>⟨#[]⟩,.nil,.nil] (cells 1 .any fun _=>sc 2 n 0 ⟨#[]⟩):=
 .cons .rfl (.cons .rfl (.cons .rfl (.cons .rfl (.cons (.nil (Eq.refl _)) (.cons (.nil (Eq.refl _)) .nil)))))
def R1(n:Int)(D:Nat):Af prog 36 [.int .i64 fun _=>n] [] (aq 1 (D+1) .any fun _=>rr n) []:=by
 (refine fB [.cell 2 25] R2 [] func36 fun _=>?_;repeat' first|exact⟨⟩|apply mA|apply mC<;>intro)
 any_goals(first|rfl|skip)
 intro i hi;obtain rfl:i=0:=zo
 exact R0 n
def lG:X:=.mk 13 0 ⟨#[]⟩ [] [ov bA,.mk 13 0 ⟨#[]⟩ [] [ov bB,.mk 16 0 ⟨#[]⟩ [] [rr 5]]]
def wO:ByteArray:=⟨#[97,32,45,32,40,98,32,45,32,45,40,53,41,41]⟩
def R3(hp:∀D,10<=D->Af prog 14 [aq 1 (D+1) .any fun _=>lG] [] (.ag [.str fun _=>wO,.int .i64 fun _=>0]) []):Af prog 12 [] [] (.bool fun _=>true) []:=by
 obtain⟨D,hD⟩:∃D,65599<=D:=⟨_,ao _⟩
 have h1:=RV (D+2) zo;have h2:=Ji bA (D+2);have h3:=Ji bB (D+2);have h4:=R1 5 (D+2);have hD1:10<=D:=zo
 clear hD
 (apply Af.of tF mF [.tmp 0] R4 [(1,[(0,.ag [aq 1 (D+3) .any fun _=>ua,zI 0,zI 0,zI 0],[])]),(2,[(0,aq 1 (D+3) .any fun _=>ov bA,[]),(1,aq 1 (D+3) .any fun _=>ov bB,[]),(2,aq 1 (D+3) .any fun _=>rr 5,[]),(3,.nil,[]),(5,.nil,[]),(7,.nil,[])]),(3,[(1,.ag [zR wO,zI 0],[])])] func12 (fun _=>?_);(repeat' with_reducible first|exact nY|refine oC ?_ ?_|refine vQ ?_ ?_ ?_|refine cV (fun _=>?_) fun _=>?_|refine wQ ?_|fail))
 any_goals((with_reducible refine nO ?_);first|exact h1|exact h2|exact h3|exact h4 )
 any_goals((with_reducible refine nO ?_);(refine Af.wN (hp (D+2) zo) ?_);(focus(refine aQ ?_;repeat' first|with_reducible apply ai|exact wZ|fail)))
 (all_goals try first|exact eZ|with_reducible (refine rQ ?_;repeat' first|apply ai|exact wZ)|(refine sQ ?_;repeat' first|with_reducible apply ai|exact cZ))
 have la:∀(y:X) (d d':Nat),leB 1 y=true->1<=d->1<=d'->aD (cQ 1 d .any fun _=>y) (cQ 1 d' .any fun _=>y):=fun y d d' h h1 h2=>ry 1 (fun _=>y) (zL h) d d' h1 h2;intro i hi;rcases i with _|_|i
 ·exact la (ov bA) (D+3) (D+2) zk zo zo
 ·refine .cons .rfl (.cons .rfl (.cons .rfl (.cons (.nil (Eq.refl _)) (.cons (.slc (Eq.refl _) fun i hi=>?_) .nil))));rcases i with _|_|i
  ·exact la (ov bB) (D+3) (D+1) zk zo zo
  ·refine .cons .rfl (.cons .rfl (.cons .rfl (.cons (.nil (Eq.refl _)) (.cons (.slc (Eq.refl _) fun i hi=>?_) .nil))));obtain rfl:i=0:=by omega
   exact la (rr 5) (D+3) D zk zo zo
  ·omega
 ·omega
def wP(v:V):ByteArray:=if(cE v.int).size<=65536 then cE v.int else⟨#[]⟩
def DJ(v:V):Bool:=v.list.isEmpty&&(v.fields.isEmpty&&(decide (v.text.size<=1000)&&decide (v.kind=2∧v.scale=0∧v.text.size=0 ∧ -999999999999999<=v.int∧v.int<=999999999999999)))
def R5{e:Nat}(he:e+1<=1073741824){v:V}(h:DJ v=true)(hck:ub e v=0):Af prog 48 [aK (e+1) .any fun _=>v] [] (.ag [.str fun _=>wP v,.int .i64 fun _=>if(cE v.int).size<=65536 then 0 else 5]) []:=by
 simp only[DJ,az]at h;obtain⟨q1,q2,q3,q4⟩:=h;have l1:v.list=[]:=xY.1 q1;have l2:v.fields=[]:=xY.1 q2;have q3:=il q3;obtain⟨k1,k2,k3,k4,k5⟩:=il q4;have hle:V.le (e+1) v:=by
  unfold V.le;rw[l1,l2];exact⟨aB _,aB _,aG q3 zd,fun x hx=>(by cases hx),fun x hx=>(by cases hx)⟩
 have h1:=Jd e he ⟨hle,(by unfold kz;rw[l1,l2];simp),zo⟩;exact I8 e v (ub e v) (cE v.int) h1 hck (I9 e v k1 ⟨zo,zo⟩)
instance (x:X):Decidable (lH x):=by unfold lH;infer_instance
def DK:Nat->X->Bool
 | 0,_=>true
 | k+1,x=>decide (lH x)&&((x.op != 1||(DJ (x.value.getD 0 default)&&ub 0 (x.value.getD 0 default)==0))&&x.args.all (DK k))
theorem Jj:∀{k:Nat} {x:X},DK k x=true->X.all (fun x=>lH x∧wR wP 0 x) k x
 | 0,_,_=>trivial
 | k+1,x,h=>by
  simp only[DK,az,cI]at h;obtain⟨h1,h2,h3⟩:=h;refine⟨⟨il h1,fun ho=>?_⟩,fun y hy=>Jj (h3 y hy)⟩;rw[ho]at h2;simp only[bne_self_eq_false,Bc,az,dv]at h2;exact⟨_,R5 zd h2.1 h2.2⟩
theorem Jk:∀{d:Nat} {x:X},leB d x=true->X.all (fun y=>y.text.size<=1073741824) d x
 | 0,_,h=>by cases h
 | d+1,x,h=>by
  simp only[leB,az,cI]at h;obtain⟨h1,_,_,_,h5⟩:=h;exact⟨aG (il h1) zd,fun y hy=>Jk (h5 y hy)⟩
def R6:aP wP 5 lG 0=wO:=by cbv
def R7:wX wP 5 lG<=549755813888:=by cbv
def R8(D:Nat)(hD:10<=D):Af prog 14 [aq 1 (D+1) .any fun _=>lG] [] (.ag [.str fun _=>wO,.int .i64 fun _=>0]) []:=by
 have hx:X.le 1 5 lG:=zL zk;have hx2:X.le 1 (D+1) lG:=X.cP hx zo;have h1:=Jf 0 zd D lG hx2 (DH zk);have e1:kB (uc 0) lG=0:=zk
 rw[e1]at h1;have h2:=RC 0 5 D lG hx2 hx (Jk zk);have e2:gL 5 lG=false:=zk
 rw[e2]at h2;have h3:=DL wP 0 5 D lG 0 hx2 hx (Jj zk) R7 zd zd;rw[R6]at h3;exact Jl 0 D lG 0 false wO h1 (fun _=>h2) (fun _ _=>h3)
def R9:Af prog 12 [] [] (.bool fun _=>true) []:=R3 R8
end Go.Ai
