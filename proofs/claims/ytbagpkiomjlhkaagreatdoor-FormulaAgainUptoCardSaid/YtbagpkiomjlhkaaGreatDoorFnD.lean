/- Functions of plain numbers, Booleans and strings: contracts of the kit's, as contracts of the abstract machine. -/
import Derived.Test.YtbagpkiomjlhkaaGreatDoorEngC
set_option linter.all false
namespace Go.Ai
open Go
def mq:AV->Option Value
 | .int k n=>some (.int k (n ()))
 | .bool b=>some (.bool (b ()))
 | .str s=>some (.string (s ()))
 | _=>none
def Dw{w:World}{D:Nat->Prop}{B:Nat}{β:Nat->Value}{H:Nat->AO}{av:AV}{v u:Value}(h:mq av=some v)(hx:RX w D B β H av u):u=v:=by
 cases av<;>simp[mq]at h
 ·rw[hx.fG,h]
 ·rw[hx.gW,h]
 ·rw[hx.gX,h]
def IY{w:World}{D:Nat->Prop}{B:Nat}{av:AV}{v:Value}(h:mq av=some v):RD w D B av v:=by
 cases av<;>simp[mq]at h<;>subst h
 ·exact .int _ _
 ·exact .bool _
 ·exact .str _
def Af.pure{P:Program}{f:FuncId}{args:List AV}{vals:Array Value}{res:AV}{v:Value}{fn:Func}{c:Code}(hf:P.funcs[f]? = some fn)(ha:args.map mq=vals.toList.map some)(hr:mq res=some v)
 (h : ∀ w, Calls P f vals w fun e w' => e = .returned v ∧ w' = w) (hname : (fn.name == "runtime.NumGoroutine") = false := by rfl) (hb : fn.body = some c := by rfl) : Af P f args [] res [] := by
 refine⟨lm hf hname hb,fun E β vs cC hdf hY h0=>?_⟩;have hlen:args.length=vals.size:=by simpa using ak List.length ha
 have hvs:vs=vals:=by
  refine sB ?_ fun i h1 h2=>?_
  ·have:=h0.size;simp only at this;omega
  ·have hi:i<args.length:=by omega
   have h3:=h0.tmps i args[i] (bf hi);have h4:=ak (fun l=>l[i]?) ha;simp only[gC,bf hi,eM]at h4;have h5:vals.toList[i]? = some vals[i]:=by simp[h2]
   rw[h5]at h4;simp only[eM,cB]at h4;have:=Dw h4 h3;simpa[Array.getD,h1]using this
 subst hvs;refine(h E.w0).mono fun e w' ⟨he,hw⟩=>⟨v,β,he,?_,fun o hi=>hi.elim⟩
 subst hw;refine⟨hdf.symm,rfl,fun t av ht=>?_,fun o=>trivial,fun o o' b _ hi=>hi.elim,h0.frame,fun o u n0 hp=>by rw[cC o]at hp;cases hp⟩;cases t with
 | zero=>simp at ht;subst ht;exact .d (IY hr)
 | succ t=>simp at ht
def NF(av:AV):Prop:=∀(w:World) (D:Nat->Prop) (B B':Nat) (v:Value),RD w D B av v->RD w D B' av v
def iU(av:AV):Prop:=∀(w:World) (D:Nat->Prop) (B:Nat) (v:Value),RD w D B av v->RD w (fun b=>D b∧B<=b) B av v
def Link.refl(H:Nat->AO)(β:Nat->Value):Link H β H β:=fun o hi=>
 ⟨hi,fun cs h=>⟨⟨cs,h⟩,rfl⟩,fun x t sz ver n f h=>⟨ver,n,f,h,.inl ⟨rfl,rfl,rfl⟩⟩⟩
def Af.borrow{P:Program}{f:FuncId}{args args':List AV}{objs:List (Nat×AO)}{res:AV}(h:Af P f args' [] res [])(hw:mg ⟨args,objs⟩ ⟨args',[]⟩)
 (hp:AV.bx args'=true) (hnf:∀av∈args',NF av) (hpr:AV.bx [res]=true) (hfr:iU res):Af P f args objs res objs:=by
 refine⟨h.ent,fun E β vs cC hdf hY h0=>?_⟩;have h1:=yW hw E ⟨vs,[]⟩ E.w0 β h0
 let E2:Env:={ w0:=E.w0,B:=E.N,D0:=fun b=>b<E.N,X:=fun _=>False,pin:=E.pin,cC:=E.cC,Y:=fun _=>False,df:=[],hB:=ao _,hD:=fun b hb=>⟨hb,fun q=>q⟩,hX:=fun b q=>q.elim,hY:=fun b q=>q.elim,hdf:=fun d hd=>(by cases hd),hT:=E.hT,dW:=fun b hb=>(E.hD b (E.dW b hb)).1,jN:=.nil }
 have hsz:E.w0.heap.size=E.N:=rfl;have h2:RelB E2 args' (oL []) ⟨vs,[]⟩ E.w0 (wβ (oL objs) β):=by
  refine⟨rfl,h1.size,fun t av ht=>?_,fun o=>trivial,fun o o' b _ hi=>hi.elim,⟨rfl,rfl,rfl,ao _,fun _ _ _=>rfl⟩,fun o v n0 q=>by rw[show E2.pin o=E.pin o from rfl,cC o]at q;cases q⟩;have q:=(h1.tmps t av ht).pure (tP hp t av ht);have q2:=hnf av (je ht) _ _ _ E.N _ q;exact .d (q2.mono (fun _ _=>rfl) (fun b hb=>⟨.inl hb.2.1,hb.2.1,fun o hi=>hi.elim⟩) (ao _))
 refine(h.calls E2 _ vs (fun o=>cC o) rfl (fun b q=>q) h2).mono fun e w' hx=>?_;obtain⟨v,β',he,hr,_⟩:=hx;have hold:∀b,b<E.N->w'.heap[b]? = E.w0.heap[b]? := fun b hb=>hr.frame.block b hb fun q=>q;have hrd:∀av u,RD E.w0 (E.D E.w0 β (oL objs)) E.B av u->RD w' (E.D w' β (oL objs)) E.B av u:=fun av u q=>
  q.mono (fun b hb=>hold b hb.2.1) (fun b hb=>⟨hb.1,cf hb.2.1 hr.frame.size,hb.2.2⟩) (ao _)
 have hrx:∀av u,RX E.w0 (E.D E.w0 β (oL objs)) E.B β (oL objs) av u->RX w' (E.D w' β (oL objs)) E.B β (oL objs) av u:=fun av u q=>
  q.map hrd (fun o off v q=>by obtain⟨b,h1,rfl⟩:=q.dF;exact .ptr _ _ b h1) (fun o ver n v q=>by obtain⟨h1,h2⟩:=q.aI;exact .aJ _ _ _ _ h1 h2) (fun o sz ver n i off v q=>by obtain⟨h1,h2,h3⟩:=q.jk;exact .ci _ _ _ _ _ _ _ h1 h2 h3)
 have hblk:∀o b,(oL objs o).is->bi (β o)=some b->b<E.N:=fun o b hi hb=>((h0.objs o).lt hb hi).1;refine⟨v,β,he,⟨hdf.symm,rfl,fun t av ht=>?_,fun o=>?_,h0.apart,⟨hr.frame.os,hr.frame.tape,hr.frame.output,hr.frame.size,fun b hb _=>hold b hb⟩,fun o u n0 q=>by rw[cC o]at q;cases q⟩,.refl _ _⟩
 ·cases t with
  | zero=>
   simp at ht;subst ht;have q:=(hr.tmps 0 _ rfl).pure hpr;have q2:=hfr _ _ _ _ q;exact .d (q2.mono (fun _ _=>rfl) (fun b hb=>⟨.inr (.inr hb.2),hb.1.2.1,fun o hi q=>absurd (hblk o b hi q) (lU.2 hb.2)⟩) E.hB)
  | succ t=>simp at ht
 ·by_cases hi:(oL objs o).is
  ·exact(h0.objs o).mono rfl (fun b hb=>hold b (hblk o b hi hb)) (fun cs _ i av u _ q=>hrx _ _ q) hrd
  ·cases hq:oL objs o with
   | none=>trivial
   | box cs=>rw[hq]at hi;exact(hi trivial).elim
   | arr x t sz ver n f=>rw[hq]at hi;exact(hi trivial).elim
   | it ks f seen pend=>rw[hq]at hi;exact(hi trivial).elim
def NF.int(k:IntKind)(n:Unit->Int):NF (.int k n):=fun w D B B' v h=>by cases h;exact .int _ _
def NF.bool(b:Unit->Bool):NF (.bool b):=fun w D B B' v h=>by cases h;exact .bool _
def NF.str(s:Unit->ByteArray):NF (.str s):=fun w D B B' v h=>by cases h;exact .str _
def NF.slc{sz:Nat}{n:Unit->Nat}{f:(Unit->Nat)->List AV}(hf:∀i,i<n ()->∀av∈f (fun _=>i),NF av):NF (.slc .any sz n f):=fun w D B B' v h=>by
 cases h with
 | empty _ _ _ _ p cap hn hc=>exact .empty _ _ _ _ p cap hn hc
 | slc _ _ _ _ b o cap c hn hc hD hB hcell hlen hone hel=>
  exact .slc _ _ _ _ b o cap c hn hc hD trivial hcell hlen hone fun i j av hi hj=>hf i hi av (je hj) _ _ _ _ _ (hel i j av hi hj)
def NF.agg{cs:List AV}(h:∀c∈cs,NF c):NF (.agg cs):=fun w D B B' v q=>by
 cases q with
 | agg _ vs hl hx=>exact .agg _ _ hl fun i av v h1 h2=>h av (je h1) _ _ _ _ _ (hx i av v h1 h2)
def iU.int(k:IntKind)(n:Unit->Int):iU (.int k n):=fun w D B v h=>by cases h;exact .int _ _
def iU.bool(b:Unit->Bool):iU (.bool b):=fun w D B v h=>by cases h;exact .bool _
def iU.str(s:Unit->ByteArray):iU (.str s):=fun w D B v h=>by cases h;exact .str _
def iU.slc{sz:Nat}{n:Unit->Nat}{f:(Unit->Nat)->List AV}(hf:∀i,i<n ()->∀av∈f (fun _=>i),iU av):iU (.slc .new sz n f):=fun w D B v h=>by
 cases h with
 | empty _ _ _ _ p cap hn hc=>exact .empty _ _ _ _ p cap hn hc
 | slc _ _ _ _ b o cap c hn hc hD hB hcell hlen hone hel=>
  exact .slc _ _ _ _ b o cap c hn hc ⟨hD,hB.1⟩ hB hcell hlen hone fun i j av hi hj=>hf i hi av (je hj) _ _ _ _ (hel i j av hi hj)
def iU.agg{cs:List AV}(h:∀c∈cs,iU c):iU (.agg cs):=fun w D B v q=>by
 cases q with
 | agg _ vs hl hx=>exact .agg _ _ hl fun i av v h1 h2=>h av (je h1) _ _ _ _ (hx i av v h1 h2)
def iU.ag{cs:List AV}(h:∀c∈cs,iU c):iU (.ag cs):=fun w D B v q=>by
 cases q with
 | ag _ vs hl hx=>exact .ag _ _ hl fun i av v h1 h2=>h av (je h1) _ _ _ _ (hx i av v h1 h2)
end Go.Ai
