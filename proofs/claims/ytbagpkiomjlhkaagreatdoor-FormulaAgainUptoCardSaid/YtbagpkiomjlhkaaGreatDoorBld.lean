/- The library's contracts at this dump, in plain words, as the kit's tool writes them. -/
import Derived.Shelf.Strings.OnBuilder
import Derived.Ground.NamesProg
import Derived.Test.YtbagpkiomjlhkaaGreatDoorProg
import Derived.Test.YtbagpkiomjlhkaaGreatDoorShB
import Derived.Test.YtbagpkiomjlhkaaGreatDoorV
import Derived.Test.YtbagpkiomjlhkaaGreatDoorEngC
import Derived.Shelf.Strings.Builder1
set_option linter.all false
namespace Go.Proofs
open Go.Shelf
def Tryz.lk:Go.Shelf.Ren:=⟨fun|169=>162|n=>n,fun|70=>177|9=>9|0=>0|72=>179|37=>120|127=>214|3=>3|5=>5|n=>n,fun|n=>n⟩
def Tryz.lays169:Go.Proofs.Lays.n169 Tryz.prog Tryz.lk:={
 mixed:=by kernel_rfl
 f169:=Tryz.func162.trans (congrArg some (by kernel_rfl))
 t0:=Tryz.underlying0
 a0:=Tryz.isAgg0
 z0:=Tryz.sizeOf0
 v0:=Tryz.zeroValue0
 t3:=Tryz.underlying3
 a3:=Tryz.isAgg3
 z3:=Tryz.sizeOf3
 v3:=Tryz.zeroValue3
 t9:=Tryz.underlying9
 a9:=Tryz.isAgg9
 z9:=Tryz.sizeOf9
 v9:=Tryz.zeroValue9
 t37:=Tryz.underlying120
 a37:=Tryz.isAgg120
 z37:=Tryz.sizeOf120
 v37:=Tryz.zeroValue120
 t70:=Tryz.underlying177
 a70:=Tryz.isAgg177
 z70:=Tryz.sizeOf177
 v70:=Tryz.zeroValue177
 t72:=Tryz.underlying179
 a72:=Tryz.isAgg179
 z72:=Tryz.sizeOf179
 v72:=Tryz.zeroValue179
 t127:=Tryz.underlying214
 a127:=Tryz.isAgg214
 z127:=Tryz.sizeOf214
 v127:=Tryz.zeroValue214 }
def Tryz.FO:Builder.Extra Tryz.prog Tryz.lk:={
 sizeBuilder:=by kernel_rfl
 liesBuilder:=by kernel_rfl
 t5:=Tryz.underlying5
 a5:=Tryz.isAgg5
 z5:=Tryz.sizeOf5
 v5:=Tryz.zeroValue5
 infoByte:=by kernel_rfl
 cellsByte:=by kernel_rfl
 sizeByte:=by kernel_rfl
 neB5:=by decide }
end Go.Proofs

namespace Go.Ai
open Go Go.Proofs Go.RowKit Tryz
set_option maxRecDepth 100000
set_option maxHeartbeats 4000000
def RelB.res{E:Env}{tmps:List AV}{H:Nat->AO}{a:Act}{w:World}{β:Nat->Value}(h:RelB E tmps H a w β)(hdf:E.df=[]){av:AV}{v:Value}(hv:RX w (E.D w β H) E.B β H av v):RelB E [av] H ⟨#[v],[]⟩ w β:=by
 refine⟨hdf.symm,rfl,fun t bw ht=>?_,h.objs,h.apart,h.frame,h.pin⟩;cases t with
 | zero=>simp at ht;subst ht;exact hv
 | succ t=>simp at ht
def Link.same{H:Nat->AO}{β:Nat->Value}:Link H β H β:=fun o ho=>⟨ho,fun cs h=>⟨⟨cs,h⟩,rfl⟩,fun x t sz ver n f h=>⟨ver,n,f,h,.inl ⟨rfl,rfl,rfl⟩⟩⟩
def x8{us:Array Value}(h:us.size=2):∃u0 u1,us=#[u0,u1]:=
 ⟨us[0]' zo,us[1]' zo,sB h fun i h1 h2=>by
  have:i<2:=h2
  match i with
  | 0=>rfl
  | 1=>rfl⟩
def x9{E:Env}{H:Nat->AO}{vs:Array Value}{w:World}{β:Nat->Value}{b:Nat}(h0:RelB E [.ptr 1000 0] H ⟨vs,[]⟩ w β)(q1:β 1000=.pointer (some ⟨b,0,none⟩)):vs=#[.pointer (some ⟨b,0,none⟩)]:=by
 have hp:=h0.tmps 0 _ rfl;obtain⟨b',g1,g2⟩:=hp.dF;rw[q1]at g1;cases g1;have hz:vs.size=1:=h0.size;refine sB hz fun i h1 h2=>?_;have:i<1:=h2;obtain rfl:i=0:=zo
 have e:(#[Value.pointer (some ⟨b,0,none⟩)]:Array Value)[0]=.pointer (some ⟨b,0,none⟩):=rfl;rw[e,<- g2];simp[Array.getD,h1]
def FP:Lays.n240 prog sL:={ lays105 with }
def FQ:Builder.X72 prog sL:={ FR with }
def FT:Af prog 222 [.ptr 1000 0] [(1000,.box [.bj 179,.nil])] (.ag []) [(1000,.box [.ptr 1000 0,.nil])]:=by
 refine⟨lm func222 rfl rfl,fun E β vs cC hdf hY h0=>?_⟩;have ho:=h0.objs 1000;obtain⟨b,us,ty,q1,q2,q3,q4,q5,q6⟩:=ho;obtain rfl:ty=179:=q6 179 rfl;have hs:us.size=2:=q4.symm;obtain⟨u0,u1,rfl⟩:=x8 hs;have e0:=q5 0 _ _ rfl rfl;have e1:=q5 1 _ _ rfl rfl;obtain rfl:u0=.pointer none:=by cases e0 with|d h=>cases h;rfl
 obtain rfl:=x9 h0 q1;refine(Any.Builder_copyCheck_fresh (ρ:=sL) FP FQ b E.w0 (by simp[World.cell?,q2]) (by simp[World.shape?,q2];rfl) (by simp[World.frozen?,q2])).mono fun e w' ⟨he,hw⟩=>?_;subst hw;have hH:upd (oL [(1000,AO.box [.bj 179,.nil])]) 1000 (.box [.ptr 1000 0,.nil])=oL [(1000,.box [.ptr 1000 0,.nil])]:=by
  funext o;unfold upd;by_cases e:o=1000
  ·subst e;rfl
  ·simp only[oL,aa e,aa (fun q=>e (Eq.symm q))]
 have hβ:upd β 1000 (β 1000)=β:=by funext o;unfold upd;split<;>simp_all
 have hlt:b<E.w0.heap.size:=(d8.1 q2).1;have hset:(E.w0.setCell ⟨b,0,none⟩ (.pointer (some ⟨b,0,none⟩))).heap[b]? = some (.cells #[.pointer (some ⟨b,0,none⟩),u1] 179 (0,0)):=by
  have h':E.w0.heap[b]=.cells #[.pointer none,u1] 179 (0,0):=by simpa[dC hlt]using q2
  show(E.w0.heap.modify b _)[b]? = _;rw[dC (by simpa using hlt),Array.getElem_modify_self,h'];rfl
 obtain⟨g1,g2⟩:=RelB.turn (S:=⟨[.ptr 1000 0],[(1000,.box [.bj 179,.nil])]⟩) h0 (o:=1000) trivial (w':=E.w0.setCell ⟨b,0,none⟩ (.pointer (some ⟨b,0,none⟩))) rfl rfl rfl zsi (fun k _ hk=>Below.heap_setCell _ _ _ _ fun q=>hk (by rw[q1];exact ak some q.symm)) (ob:=.box [.ptr 1000 0,.nil]) trivial (v:=β 1000) (fun b hb=>.inl hb) (fun _ _=>rfl) (fun x t sz ver n f hf=>by cases hf) (fun cs hcs=>⟨_,rfl⟩)
  (fun hrx hrd=>⟨b,_,179,by rw[hβ];exact q1,hset,q3,rfl,fun i av v h1 h2=>by
    match i with
    | 0=>
     simp at h1 h2;subst h1;subst h2;exact .ptr 1000 0 b (by rw[hβ];exact q1)
    | 1=>
     simp at h1 h2;subst h1;subst h2;exact hrx _ _ e1
    | i+2=>simp at h1,fun t ht=>by cases ht⟩) (fun ks f s p q=>by cases q)
 ·have g3:RelB E [.ptr 1000 0] (oL [(1000,.box [.ptr 1000 0,.nil])]) ⟨#[.pointer (some ⟨b,0,none⟩)],[]⟩ (E.w0.setCell ⟨b,0,none⟩ (.pointer (some ⟨b,0,none⟩))) β:=by
   rw[<- hH];have:=g1;rw[hβ]at this;exact this
  refine⟨_,β,he,g3.res hdf (.d (.ag [] #[] rfl fun i av v h=>by simp at h)),fun o ho=>?_⟩;by_cases e:o=1000
  ·subst e;exact⟨trivial,fun cs _=>⟨⟨_,rfl⟩,rfl⟩,fun x t sz ver n f hf=>by cases hf⟩
  ·simp only[oL,aa (fun q=>e (Eq.symm q))]at ho;exact ho.elim
def Af.same{P:Program}{f:FuncId}{args:List AV}{objs:List (Nat×AO)}{res:AV}(he:u7 P f)
 (h:∀(E:Env) (β:Nat->Value) (vs:Array Value),RelB E args (oL objs) ⟨vs,[]⟩ E.w0 β->Calls P f vs E.w0 fun e w'=>∃v,e=.returned v∧w'=E.w0∧RX E.w0 (E.D E.w0 β (oL objs)) E.B β (oL objs) res v):Af P f args objs res objs:=
 ⟨he,fun E β vs cC hdf hY h0=>(h E β vs h0).mono fun e w' ⟨v,h1,h2,h3⟩=>⟨v,β,h1,by rw[h2];exact h0.res hdf h3,Link.same⟩⟩
def FU(n:Unit->Nat)(f:(Unit->Nat)->List AV):Af prog 222 [.ptr 1000 0] [(1000,.box [.ptr 1000 0,.aJ 1001000001 0 n]),(1001000001,.arr false 5 1 0 n f)] (.ag []) [(1000,.box [.ptr 1000 0,.aJ 1001000001 0 n]),(1001000001,.arr false 5 1 0 n f)]:=by
 refine Af.same (lm func222 rfl rfl) fun E β vs h0=>?_;obtain⟨b,us,ty,q1,q2,q3,q4,q5,q6⟩:=h0.objs 1000;obtain rfl:=x9 h0 q1;obtain⟨u0,u1,rfl⟩:=x8 (us:=us) q4.symm;obtain⟨b',g1,g2⟩:=(q5 0 _ _ rfl rfl).dF;rw[q1]at g1;cases g1;obtain rfl:u0=.pointer (some ⟨b,0,none⟩):=g2;refine(Any.Builder_copyCheck_used (ρ:=sL) FP FQ b E.w0 (by simp[World.cell?,q2])).mono fun e w' ⟨h1,h2⟩=>⟨_,h1,h2,?_⟩
 exact .d (.ag [] #[] rfl fun i av v h=>by simp at h)
end Go.Ai

namespace Go.Ai
open Go Go.Proofs Tryz
set_option maxRecDepth 100000
set_option maxHeartbeats 4000000
def mV(s:Unit->ByteArray):(Unit->Nat)->List AV:=fun i=>[.int .u8 fun _=>ad (s ()) (i ())]
def lV(a b:ByteArray)(i:Nat):ad (a++b) i=if i<a.size then ad a i else ad b (i-a.size):=by
 unfold ad;have e:(a++b).data=a.data++b.data:=iF;rw[e];have es:a.size=a.data.size:=rfl;rw[es];split
 ·rw[mO ‹_›]
 ·rw[Fr zo]
def FV{s t:ByteArray}{g:(Unit->Nat)->List AV}(hg:∀i,i<t.size->g (fun _=>i)=[.int .u8 fun _=>ad t i]){i:Nat}(hi:i<s.size+t.size):aD (dO (fun _=>s.size) (mV fun _=>s) g fun _=>i) (mV (fun _=>s++t) fun _=>i):=by
 refine aD.of_eq ?_;unfold dO mV;rw[lV];dsimp only;by_cases q:i<s.size
 ·simp only[ae q]
 ·simp only[aa q];exact hg (i-s.size) zo
abbrev bc(o r v:Nat)(s:ByteArray):AO:=.box [.ptr o 0,.aJ r v fun _=>s.size]
abbrev br(v:Nat)(s:ByteArray):AO:=.arr false 5 1 v (fun _=>s.size) (mV fun _=>s)
def Bm(c:UInt8):Af prog 161 [.ptr 1000 0,.int .u8 fun _=>c.toNat] [(1000,.box [.bj 179,.nil])] (.bz fun _=>true) [(1000,bc 1000 14 1 ⟨#[c]⟩),(14,br 1 ⟨#[c]⟩)]:=by
 (refine fA [.tmp 4] FX [(1,[(1,zT,[(1000,.box [.ptr 1000 0,.nil])])])] func161 fun _=>?_;repeat' first|exact⟨⟩|apply mA|apply mC<;>intro)
 any_goals((with_reducible refine nO ?_);exact FT)
 (all_goals try first|exact eZ|(refine qC ?_;repeat' first|exact⟨⟩|apply mA))
 ·rfl
 ·rfl
 ·rfl
 intro i hi;obtain rfl:i=0:=zo
 exact aD.of_eq rfl
def sM(c:UInt8)(s:ByteArray)(hn:s.size<=1073741824):Af prog 161 [.ptr 1000 0,.int .u8 fun _=>c.toNat] [(1000,bc 1000 1001000001 0 s),(1001000001,br 0 s)] (.bz fun _=>true)
 [(1000,bc 1000 1001000001 1 (s++⟨#[c]⟩)),(1001000001,br 1 (s++⟨#[c]⟩))]:=by
 have h1:=FU (fun _=>s.size) (mV fun _=>s)
 (refine fB [.tmp 4] FX [(1,[(1,zT,[(1000,bc 1000 1001000001 0 s),(1001000001,br 0 s)])])] func161 fun _=>?_;repeat' first|exact⟨⟩|apply mA|apply mC<;>intro)
 ·rw[aj];rfl
 ·rw[aj];rfl
 ·rw[aj];rfl
 exact fun i hi=>FV (t:=⟨#[c]⟩) (fun j hj=>by
  have hj:j<1:=hj;obtain rfl:j=0:=zo
  rfl) hi
def FY(t:ByteArray)(ht:t.size<=1073741824):Af prog 170 [.ptr 1000 0,.str fun _=>t] [(1000,.box [.bj 179,.nil])] (.ag [.int .i64 fun _=>t.size,.bz fun _=>true]) [(1000,bc 1000 14 1 t),(14,br 1 t)]:=by
 (refine fA [.tmp 4,.tmp 5] FZ [(1,[(1,zT,[(1000,.box [.ptr 1000 0,.nil])])])] func170 fun _=>?_;repeat' first|exact⟨⟩|apply mA|apply mC<;>intro)
 any_goals((with_reducible refine nO ?_);exact FT)
 all_goals exact eZ
def sP(t:ByteArray)(s:ByteArray)(hn:s.size<=1073741824)(ht:t.size<=1073741824):Af prog 170 [.ptr 1000 0,.str fun _=>t] [(1000,bc 1000 1001000001 0 s),(1001000001,br 0 s)] (.ag [.int .i64 fun _=>t.size,.bz fun _=>true])
 [(1000,bc 1000 1001000001 1 (s++t)),(1001000001,br 1 (s++t))]:=by
 have h1:=FU (fun _=>s.size) (mV fun _=>s)
 (refine fB [.tmp 4,.tmp 5] FZ [(1,[(1,zT,[(1000,bc 1000 1001000001 0 s),(1001000001,br 0 s)])])] func170 fun _=>?_;repeat' first|exact⟨⟩|apply mA|apply mC<;>intro)
 ·rw[aj]
 ·rw[aj]
 ·rw[aj]
 exact fun i hi=>FV (fun j hj=>rfl) hi
end Go.Ai

namespace Go.Ai
open Go Go.Proofs Go.RowKit Go.Shelf Tryz
set_option maxRecDepth 100000
set_option maxHeartbeats 4000000
def vc(b:Nat)(w w1 w2:World)(a:Option Addr)(n c:Nat)(q:Option Addr)(r:ByteArray)(c1:w.drew.cell? ⟨b,1,none⟩=some (.slice a n c))
 (hSD:(Builtin.unsafeSliceData_ #[lk.t 37] (lk.t 127) #[.slice a n c]).run prog w.drew=.ok (.pointer q) w1) (c2:w1.cell? ⟨b,1,none⟩=some (.slice a n c))
 (hUS:(Builtin.unsafeString_ #[lk.t 127,lk.t 3] (lk.t 9) #[.pointer q,.int .i64 n]).run prog w1=.ok (.string r) w2):
 Calls prog 162 #[.pointer (some ⟨b,0,none⟩)] w fun e w'=>e=.returned (.string r)∧w'=w2:=by
 have L:=lays169;have X:=FO;have mixed:=L.mixed;have t72:=L.t72;have a72:=L.a72;have z72:=L.z72;have v72:=L.v72;have u72:=bF L.t72;have t70:=L.t70;have a70:=L.a70;have z70:=L.z70;have v70:=L.v70;have u70:=bF L.t70;have t37:=L.t37;have a37:=L.a37;have z37:=L.z37;have v37:=L.v37;have u37:=bF L.t37;have t127:=L.t127;have a127:=L.a127;have z127:=L.z127;have v127:=L.v127;have u127:=bF L.t127;have t3:=L.t3;have a3:=L.a3;have z3:=L.z3;have v3:=L.v3;have u3:=bF L.t3;have t9:=L.t9;have a9:=L.a9;have z9:=L.z9;have v9:=L.v9;have u9:=bF L.t9;have c0:w.cell? ⟨b,1,none⟩=some (.slice a n c):=c1;show Calls prog (lk.f 169) _ _ _
 go_enter L.f169,Body.n169_ntmps lk
 go_wp2
 go_region_o
 all_goals(go_wp2;go_ret;exact⟨rfl,rfl⟩)
def MI{w:World}{g cap:Nat}{cur:Array Value}{s:ByteArray}{E:Env}{β:Nat->Value}{H:Nat->AO}(hg:w.heap[g]? = some (.cells cur 5 (0,0)))(hn:s.size<=cap)(hs:cur.size=cap*1)
 (h:∀i,i<s.size->(mV (fun _=>s) fun _=>i).length=1∧(mV (fun _=>s) fun _=>i).all AV.cell=true∧∀(j:Nat) (av:AV) (v:Value),(mV (fun _=>s) fun _=>i)[j]? = some av->cur[i*1+j]? = some v->RD w (E.D w β H) E.B av v):
 ∀(j:Nat) (x:UInt8),s.data.toList[j]? = some x->w.drew.cell? ((⟨g,0,none⟩:Addr).add j)=some (.int .u8 x.toNat):=by
 intro j x hx;have hj:j<s.size:=by
  have:=(bX.1 hx).1;rw[fY]at this;exact this
 have hjc:j<cur.size:=zo
 obtain⟨_,_,h3⟩:=h j hj;have h4:=h3 0 _ cur[j] rfl zsi;have hb:ad s j=(x.toNat:Int):=by
  unfold ad;rw[<- qw,hx];rfl
 have h5:cur[j]=.int .u8 (ad s j):=(RX.d (β:=fun _=>undef) (H:=fun _=>.none) h4).fG;rw[hb]at h5;have hg':w.drew.heap[g]? = some (.cells cur 5 (0,0)):=hg;rw[show((⟨g,0,none⟩:Addr).add j)=⟨g,j,none⟩ by simp[li]];simp[World.cell?,hg',hjc,h5]
abbrev lX(s:ByteArray):AO:=.arr false 5 1 1 (fun _=>0) (mV fun _=>s)
def ya{E:Env}{β:Nat->Value}{vs:Array Value}{s:ByteArray}{w':World}(hdf:E.df=[])(h0:RelB E [.ptr 1000 0] (oL [(1000,bc 1000 1001000001 0 s),(1001000001,br 0 s)]) ⟨vs,[]⟩ E.w0 β)
 (hos:w'.os=E.w0.os) (Bn:w'.tape=E.w0.tape) (hout:w'.output=E.w0.output) (hsize:E.w0.heap.size<=w'.heap.size) (hheap:∀b,b<E.w0.heap.size->bi (β 1001000001)≠some b->w'.heap[b]? = E.w0.heap[b]?)
 (hp:∀b,β 1001000001≠.pointer (some ⟨b,0,none⟩)):
 ∃v β',Ending.returned (Value.string s)=.returned v∧RelB E [.str fun _=>s] (oL [(1000,bc 1000 1001000001 0 s),(1001000001,lX s)]) ⟨#[v],[]⟩ w' β'∧Link (oL [(1000,bc 1000 1001000001 0 s),(1001000001,br 0 s)]) β (oL [(1000,bc 1000 1001000001 0 s),(1001000001,lX s)]) β':=by
 have hH:upd (oL [(1000,bc 1000 1001000001 0 s),(1001000001,br 0 s)]) 1001000001 (lX s)=oL [(1000,bc 1000 1001000001 0 s),(1001000001,lX s)]:=by
  funext o;unfold upd;by_cases e:o=1001000001
  ·subst e;rfl
  ·simp only[oL,aa e,aa (fun q=>e (Eq.symm q))]
 obtain⟨g1,_⟩:=RelB.turn (S:=⟨[.ptr 1000 0],[(1000,bc 1000 1001000001 0 s),(1001000001,br 0 s)]⟩) h0 (o:=1001000001) trivial (w':=w') hos Bn hout hsize hheap (ob:=lX s) trivial (v:=.slice none 0 0)
  (fun b hb=>by cases hb) (fun b hb=>absurd hb (hp b)) (fun x t sz ver n f hf=>by cases hf;exact⟨_,_,_,rfl,.inr zd⟩) (fun cs hcs=>by cases hcs) (fun _ _=>.inl ⟨by simp[upd],rfl⟩) (fun ks f s p q=>by cases q)
 have g3:RelB E [.ptr 1000 0] (oL [(1000,bc 1000 1001000001 0 s),(1001000001,lX s)]) ⟨vs,[]⟩ w' (upd β 1001000001 (.slice none 0 0)):=by rw[<- hH];exact g1
 refine⟨_,_,rfl,g3.res hdf (.d (.str _)),fun o ho=>?_⟩;by_cases e:o=1001000001
 ·subst e;exact⟨trivial,(fun cs h=>(by cases h)),(fun x t sz ver n f hf=>(by cases hf;exact⟨_,_,_,rfl,.inr zd⟩))⟩
 by_cases e2:o=1000
 ·subst e2;exact⟨trivial,(fun cs h=>⟨⟨_,rfl⟩,(by simp[upd])⟩),(fun x t sz ver n f hf=>(by cases hf))⟩
 ·simp only[oL,aa (fun q=>e (Eq.symm q)),aa (fun q=>e2 (Eq.symm q))]at ho;exact ho.elim
def yb(s:ByteArray)(hs:s.size<=1073741824):Af prog 162 [.ptr 1000 0] [(1000,bc 1000 1001000001 0 s),(1001000001,br 0 s)] (.str fun _=>s) [(1000,bc 1000 1001000001 0 s),(1001000001,lX s)]:=by
 refine⟨lm func162 rfl rfl,fun E β vs cC hdf hY h0=>?_⟩;obtain⟨b,us,ty,q1,q2,q3,q4,q5,q6⟩:=h0.objs 1000;obtain rfl:=x9 h0 q1;obtain⟨u0,u1,rfl⟩:=x8 (us:=us) q4.symm;obtain⟨_,e1⟩:=(q5 1 _ _ rfl rfl).aI;obtain⟨_,e1⟩:=e1 _ _ _ _ _ _ (rfl:oL [(1000,bc 1000 1001000001 0 s),(1001000001,br 0 s)] 1001000001=_);obtain⟨_,e1⟩:=e1 rfl;have e1:u1=β 1001000001:=e1;subst e1;have hb:b<E.w0.heap.size:=(d8.1 q2).1;have c1:E.w0.drew.cell? ⟨b,1,none⟩=some (β 1001000001):=by
  have:E.w0.drew.heap[b]? = some (.cells #[u0,β 1001000001] ty (0,0)):=q2;simp[World.cell?,this]
 have se:s.size=0->(ByteArray.empty:ByteArray)=s:=fun h=>(gp (sC h)).symm;rcases h0.objs 1001000001 with⟨r1,r2⟩|⟨g,cap,cur,r1,r2,r3,r4,r5,r6,r7,r8⟩
 ·have r2:s.size=0:=r2;rw[r1]at c1;refine(vc b E.w0 _ _ none 0 0 none _ c1 (Lib.run_unsafeSliceData_nil _ _ _ _ _) c1 (Fs _ _ _ _ _)).mono fun e w' ⟨he,hw⟩=>?_;subst hw;rw[he,se r2];exact ya hdf h0 rfl rfl rfl (ao _) (fun _ _ _=>rfl) (fun b q=>by rw[r1]at q;cases q)
 ·have r1:β 1001000001=.slice (some ⟨g,0,none⟩) s.size cap:=r1;rw[r1]at c1;have hno:∀b,β 1001000001≠.pointer (some ⟨b,0,none⟩):=fun b q=>by rw[r1]at q;cases q
  by_cases hz:s.size=0
  ·rw [hz]at c1;by_cases hc:cap=0
   ·subst hc;have hsh:E.w0.drew.shape? g=some (5,cur.size):=by
     have:E.w0.drew.heap[g]? = some (.cells cur 5 (0,0)):=r2;simp[World.shape?,this]
    refine(vc b E.w0 _ _ _ 0 0 _ _ c1 (Lib.run_unsafeSliceData_zero _ _ _ 5 lays169.t127 ⟨g,0,none⟩ 0 _ hsh) ?_ (Fs _ _ _ _ _)).mono fun e w' ⟨he,hw⟩=>?_
    ·have:(E.w0.drew.alloc (.view ⟨g,0,none⟩ 5)).heap[b]? = _:=(Lib.alloc_old E.w0.drew _ b hb).trans q2;rw[Lib.cell_of_heap this,r1,hz];rfl
    ·subst hw;rw[he,se hz];exact ya hdf h0 rfl rfl rfl zsi (fun k hk _=>Lib.alloc_old E.w0.drew _ k hk) hno
   ·refine(vc b E.w0 _ _ _ 0 cap _ _ c1 (Lib.run_unsafeSliceData_row _ _ _ _ _ _ hc) c1 (Fs _ _ _ _ _)).mono fun e w' ⟨he,hw⟩=>?_;subst hw;rw[he,se hz];exact ya hdf h0 rfl rfl rfl (ao _) (fun _ _ _=>rfl) hno
  ·have r3:s.size<=cap:=r3;have hl:s.data.toList.length=s.size:=fY;have hcells:=MI (E:=E) (β:=β) r2 r3 r5 r8;have hsh:E.w0.drew.shape? g=some (5,cur.size):=by
    have:E.w0.drew.heap[g]? = some (.cells cur 5 (0,0)):=r2;simp[World.shape?,this]
   have jE:=Lib.run_unsafeString_row (P:=prog) E.w0.drew (lk.t 127) (lk.t 3) (lk.t 9) 5 lays169.t127 FO.cellsByte g cur.size hsh s.data.toList (fun q=>hz (by rw[<- hl,q];rfl)) zo zo hcells;rw[hl]at jE;refine(vc b E.w0 _ _ _ s.size cap _ _ c1 (Lib.run_unsafeSliceData_row _ _ _ _ _ _ zo) c1 jE).mono fun e w' ⟨he,hw⟩=>?_;subst hw;rw[he];obtain⟨k1,k2,k3,k4,k5⟩:(E.w0.drew.freeze ⟨g,0,none⟩ s.size).os=E.w0.os∧(E.w0.drew.freeze ⟨g,0,none⟩ s.size).tape=E.w0.tape∧(E.w0.drew.freeze ⟨g,0,none⟩ s.size).output=E.w0.output∧E.w0.heap.size<=(E.w0.drew.freeze ⟨g,0,none⟩ s.size).heap.size∧∀k,k≠g->(E.w0.drew.freeze ⟨g,0,none⟩ s.size).heap[k]? = E.w0.heap[k]? := by
    unfold World.freeze;split
    ·exact⟨rfl,rfl,rfl,ao _,fun _ _=>rfl⟩
    ·exact⟨rfl,rfl,rfl,zsi,fun k hk=>by
      simp only[Array.getElem?_modify];rw[aa (fun q=>hk q.symm)];rfl⟩
   exact ya hdf h0 k1 k2 k3 k4 (fun k _ hk=>k5 k fun q=>hk (by rw[r1,q];rfl)) hno
end Go.Ai
