/- Chapter 15: streams of tokens. -/
import Derived.Test.YtbagpkiomjlhkaaGreatDoorV
import Derived.Test.YtbagpkiomjlhkaaGreatDoorEngC
import Derived.Carry
import Derived.MapKept
set_option linter.all false
namespace Go.Ai
open Go Go.Proofs Tryz
set_option maxRecDepth 100000
set_option maxHeartbeats 4000000
inductive St where
 | mk (l:List Tok) (line col e:Int)
namespace St
def l:St->List Tok|mk l _ _ _=>l
def line:St->Int|mk _ n _ _=>n
def col:St->Int|mk _ _ n _=>n
def e:St->Int|mk _ _ _ e=>e
def ok(s:St):Bool:=decide (s.e=0)&&decide (0<s.l.length)
def peek(s:St):Tok:=if s.ok=true then s.l.getD 0 default else default
def next(s:St):St:=if s.ok=true∧1<s.l.length then mk (s.l.drop 1) s.line s.col s.e else s
def aH(s:St)(t:ByteArray):Bool:=s.ok&&((decide (s.peek.kind=1)||decide (s.peek.kind=5))&&decide (s.peek.text=t))
def fail(s:St)(e:Int):St:=if s.ok=true∧e≠0 then mk s.l s.peek.line s.peek.col e else s
def accept(s:St)(t:ByteArray):St:=if s.aH t=true then s.next else s
def expect(s:St)(t:ByteArray):St:=if s.aH t=true then s.next else s.fail 13
def takes(s:St)(k:Int):Bool:=s.ok&&decide (s.peek.kind=k)
end St
def am(s:Unit->St):AO:=.box [DN fun _=>(s ()).l,.int .i64 fun _=>(s ()).line,.int .i64 fun _=>(s ()).col,.int .i64 fun _=>(s ()).e]
abbrev zS(s:St):List (Nat×AO):=[(1000,am fun _=>s)]
def ue(s:St):Af prog 69 [.ptr 1000 0] [(1000,am fun _=>s)] (.bool fun _=>s.ok) [(1000,am fun _=>s)]:=by
 (refine fB [.tmp 2] Sz [] func69 fun _=>?_;repeat' first|exact⟨⟩|apply mA|apply mC<;>intro)
 ·exact fun _=>rfl
 ·by_cases h:s.e=0<;>simp[St.ok,h]
def lI{s:St}(h:s.ok=true):s.e=0∧0<s.l.length:=by simpa[St.ok]using h
def ju(s:St):Af prog 53 [.ptr 1000 0] [(1000,am fun _=>s)] (ow fun _=>s.peek) [(1000,am fun _=>s)]:=by
 have h1:=ue s;cases q:s.ok with
 | false=>
  have hp:s.peek=default:=by unfold St.peek;rw[aa (by rw[q];simp)]
  rw[hp];rw[q]at h1
  (refine fB [.cell 2 52] Jy [(1,[(1,zO false,zS s)])] func53 fun _=>?_;repeat' first|exact⟨⟩|apply mA|apply mC<;>intro)
  all_goals try exact absurd ‹false=true› zsi
  all_goals rfl
 | true=>
  have hp:s.peek=s.l.getD 0 default:=by unfold St.peek;rw[ae q]
  obtain⟨_,hl⟩:=lI q;rw[hp];rw[q]at h1
  (refine fB [.cell 2 52] Jy [(1,[(1,zO true,zS s)])] func53 fun _=>?_;repeat' first|exact⟨⟩|apply mA|apply mC<;>intro)
  all_goals rfl
def kV(s:St)(hl:s.l.length<=1073741824):Af prog 29 [.ptr 1000 0] [(1000,am fun _=>s)] (ow fun _=>s.peek) [(1000,am fun _=>s.next)]:=by
 have h1:=ue s;have h2:=ju s;generalize s.peek=p at h2 ⊢;by_cases q:s.ok=true∧1<s.l.length
 ·have hn:s.next=.mk (s.l.drop 1) s.line s.col s.e:=by unfold St.next;rw[ae q]
  rw[hn];rw[q.1]at h1;have q2:=q.2
  (refine fA [.cell 2 52] Jz [(1,[(1,zK p,zS s)]),(2,[(1,zO true,zS s)])] func29 fun _=>?_;repeat' first|exact⟨⟩|apply mA|apply mC<;>intro)
  all_goals try exact zB
  all_goals(try(exfalso;omega))
  (all_goals try first|exact eZ|(refine qC ?_;repeat' first|exact⟨⟩|apply mA))
  all_goals(try(exfalso;(have h:=‹(if True then decide (1<(s.l.length:Int))else false)=false›);rw[ae trivial]at h;have:=of_decide_eq_false h;omega))
  ·exact fun _=>rfl
  ·show _=(s.l.drop 1).length;rw[gu];simp
  ·intro i _;refine aD.of_eq ?_;have e:∀a b:Tok,a=b->(nv fun _=>a)=nv fun _=>b:=fun a b h=>by rw[h]
   refine e _ _ ?_;show s.l.getD (1+i) default=(s.l.drop 1).getD i default;simp[List.getD,uY]
  all_goals rfl
 ·have hn:s.next=s:=by unfold St.next;rw[aa q]
  rw[hn]
  (refine fB [.cell 2 52] Jz [(1,[(1,zK p,zS s)]),(2,[(1,.bool fun _=>s.ok,zS s)])] func29 fun _=>?_;repeat' first|exact⟨⟩|apply mA|apply mC<;>intro)
  all_goals try exact absurd ⟨‹s.ok=true∧1<(s.l.length:Int)›.1,by(have:=‹s.ok=true∧1<(s.l.length:Int)›.2;omega)⟩ q
def lK(s:St)(t:ByteArray):Af prog 57 [.ptr 1000 0,.str fun _=>t] [(1000,am fun _=>s)] (.bool fun _=>s.aH t) [(1000,am fun _=>s)]:=by
 have h1:=ue s;have h2:=ju s;unfold St.aH;generalize s.peek=p at h2 ⊢;generalize s.ok=o at h1 ⊢
 (refine fB [.tmp 4] SA [(1,[(1,zK p,zS s)]),(2,[(1,zO o,zS s)])] func57 fun _=>?_;repeat' first|exact⟨⟩|apply mA|apply mC<;>intro)
 by_cases k1:p.kind=1<;>by_cases k5:p.kind=5<;>cases o<;>simp[k1,k5]
def zQ(s:St)(t:ByteArray)(hl:s.l.length<=1073741824):Af prog 71 [.ptr 1000 0,.str fun _=>t] [(1000,am fun _=>s)] (.bool fun _=>s.aH t) [(1000,am fun _=>s.accept t)]:=by
 have h1:=lK s t;have h2:=kV s hl;generalize s.peek=p at h2;obtain⟨A,hA⟩:∃A,A=s.accept t:=⟨_,rfl⟩
 rw[<- hA];unfold St.accept at hA;cases q:s.aH t with
 | true=>
  rw[q,ae rfl]at hA;rw[hA];rw[q]at h1
  (refine fB [.tmp 4] JA [(1,[(2,zO true,zS s)]),(3,[(1,zK p,[(1000,am fun _=>s.next)])])] func71 fun _=>?_;repeat' first|exact⟨⟩|apply mA|apply mC<;>intro)
 | false=>
  rw[q,aa zsi]at hA;rw[hA];rw[q]at h1
  (refine fB [.tmp 4] JA [(1,[(2,zO false,zS s)]),(3,[(1,zK p,[(1000,am fun _=>s.next)])])] func71 fun _=>?_;repeat' first|exact⟨⟩|apply mA|apply mC<;>intro)
def j6(s:St)(e:Int):Af prog 55 [.ptr 1000 0,.int .i64 fun _=>e] [(1000,am fun _=>s)] (.ag []) [(1000,am fun _=>s.fail e)]:=by
 have h1:=ue s;have h2:=ju s;obtain⟨A,hA⟩:∃A,A=s.fail e:=⟨_,rfl⟩
 rw[<- hA];unfold St.fail at hA;generalize s.peek=p at h2 hA;by_cases q:s.ok=true∧e≠0
 ·rw[ae q]at hA;rw[hA];rw[q.1]at h1
  (refine fB [] JB [(0,[(1,zO true,zS s)]),(1,[(1,zK p,zS s)])] func55 fun _=>?_;repeat' first|exact⟨⟩|apply mA|apply mC<;>intro)
  all_goals(try(exfalso;(have h:=‹(if True then e != 0 else false)=false›);rw[ae trivial]at h;simp at h;exact q.2 h))
  all_goals first|rfl|exact fun _=>rfl|exact fun _ _=>aD.of_eq rfl
 ·rw[aa q]at hA;rw[hA]
  (refine fB [] JB [(0,[(1,.bool fun _=>s.ok,zS s)]),(1,[(1,zK p,zS s)])] func55 fun _=>?_;repeat' first|exact⟨⟩|apply mA|apply mC<;>intro)
def DO(s:St):Af prog 22 [.ptr 1000 0] [(1000,am fun _=>s)] (.ag [.int .i64 fun _=>s.line,.int .i64 fun _=>s.col,.int .i64 fun _=>s.e]) [(1000,am fun _=>s)]:=by
 (refine fB [.tmp 2,.tmp 3,.tmp 4] SB [] func22 fun _=>?_;repeat' first|exact⟨⟩|apply mA|apply mC<;>intro)
def uf(s:St)(t:ByteArray)(hl:s.l.length<=1073741824):Af prog 272 [.ptr 1000 0,.str fun _=>t] [(1000,am fun _=>s)] (.ag []) [(1000,am fun _=>s.expect t)]:=by
 have h1:=zQ s t hl;obtain⟨A,hA⟩:∃A,A=s.expect t:=⟨_,rfl⟩
 rw[<- hA];unfold St.expect at hA;unfold St.accept at h1;cases q:s.aH t with
 | true=>
  rw[q,ae rfl]at h1;rw[q,ae rfl]at hA;rw[hA]
  (refine fB [] JC [(0,[(2,zO true,[(1000,am fun _=>s.next)])])] func272 fun _=>?_;repeat' first|exact⟨⟩|apply mA|apply mC<;>intro)
 | false=>
  rw[q,aa zsi]at h1;rw[q,aa zsi]at hA;rw[hA];have h2:=j6 s 13
  (refine fB [] JC [(0,[(2,zO false,zS s)]),(1,[(1,zT,[(1000,am fun _=>s.fail 13)])])] func272 fun _=>?_;repeat' first|exact⟨⟩|apply mA|apply mC<;>intro)
def St.fS(s:St)(k:Int):Tok:=if s.takes k=true then s.peek else default
def St.take(s:St)(k:Int):St:=if s.takes k=true then s.next else s.fail 13
def SC(s:St)(k:Int)(hl:s.l.length<=1073741824):Af prog 123 [.ptr 1000 0,.int .i64 fun _=>k] [(1000,am fun _=>s)] (ow fun _=>s.fS k) [(1000,am fun _=>s.take k)]:=by
 have h0:=ue s;have h1:=ju s;have h2:=kV s hl;have h3:=j6 s 13;obtain⟨A,hA⟩:∃A,A=s.take k:=⟨_,rfl⟩
 obtain⟨K,hK⟩:∃K,K=s.fS k:=⟨_,rfl⟩
 rw[<- hA,<- hK];unfold St.take at hA;unfold St.fS at hK;have hq:s.takes k=(s.ok&&decide (s.peek.kind=k)):=rfl;obtain⟨o,ho⟩:∃o,o=s.ok:=⟨_,rfl⟩
 rw[<- ho]at h0 hq;obtain⟨N,hN⟩:∃N,N=s.next:=⟨_,rfl⟩
 rw[<- hN]at h2 hA;obtain⟨F,hF⟩:∃F,F=s.fail 13:=⟨_,rfl⟩
 rw[<- hF]at h3 hA;obtain⟨p,hp⟩:∃p,p=s.peek:=⟨_,rfl⟩
 rw[<- hp]at h1 h2 hq hK;by_cases q:o=true∧p.kind=k
 ·have ht:s.takes k=true:=by rw[hq];simp[q]
  rw[ht,ae rfl]at hA hK;rw[hA,hK]
  (refine fA [.cell 4 52] JD [(1,[(1,zO o,zS s),(4,zK p,zS s)]),(2,[(1,zK p,zS N)]),(3,[(1,zT,zS F)])] func123 fun _=>?_;repeat' first|exact⟨⟩|apply mA|apply mC<;>intro)
  all_goals(try simp only[aF])
  all_goals try exact zB
  all_goals try exact absurd ‹o=false∨¬p.kind=k› (fun h=>h.elim (fun h=>by rw[q.1]at h;cases h) (fun h=>h q.2))
  all_goals exact eZ
 ·have ht:s.takes k=false:=by rw[hq];simpa using q
  rw[ht,aa zsi]at hA hK;rw[hA,hK]
  (refine fA [.cell 4 52] JD [(1,[(1,zO o,zS s),(4,zK p,zS s)]),(2,[(1,zK p,zS N)]),(3,[(1,zT,zS F)])] func123 fun _=>?_;repeat' first|exact⟨⟩|apply mA|apply mC<;>intro)
  all_goals(try simp only[aF])
  all_goals try exact zB
  all_goals exact eZ
def opsL(b:Nat):List (ByteArray×Int):=
 if b=1 then[(⟨#[111,114]⟩,5)]else
 if b=2 then[(⟨#[97,110,100]⟩,4)]else
 if b=4 then[(⟨#[61]⟩,6),(⟨#[33,61]⟩,7),(⟨#[60]⟩,8),(⟨#[60,61]⟩,9),(⟨#[62]⟩,10),(⟨#[62,61]⟩,11)]else
 if b=5 then[(⟨#[101,108,115,101]⟩,23)]else
 if b=6 then[(⟨#[43]⟩,12),(⟨#[45]⟩,13),(⟨#[38]⟩,17)]else
 if b=7 then[(⟨#[42]⟩,14)]else
 []
def dk{α:Type}(t:ByteArray):List (ByteArray×α)->Option α
 | []=>none
 | (k,v)::r=>if k=t then some v else dk t r
def ba:List (ByteArray×Int×Int):=[(⟨#[108,101,110,103,116,104]⟩,18,1),(⟨#[108,111,119,101,114]⟩,19,1),(⟨#[117,112,112,101,114]⟩,20,1),(⟨#[116,101,120,116]⟩,27,1),(⟨#[110,117,109,98,101,114]⟩,28,1),(⟨#[115,108,105,99,101]⟩,21,3),(⟨#[105,102]⟩,24,3),(⟨#[100,105,118,105,100,101]⟩,15,2),(⟨#[104,97,115]⟩,22,0),(⟨#[115,117,109]⟩,26,0)]
def mu:List ByteArray:=[⟨#[97,110,100]⟩,⟨#[100,97,116,101]⟩,⟨#[100,105,118,105,100,101]⟩,⟨#[101,108,115,101]⟩,⟨#[102,97,108,115,101]⟩,⟨#[104,97,115]⟩,⟨#[105,102]⟩,⟨#[105,110]⟩,⟨#[108,101,110,103,116,104]⟩,⟨#[108,111,119,101,114]⟩,⟨#[110,111,116]⟩,⟨#[110,117,109,98,101,114]⟩,⟨#[111,114]⟩,⟨#[115,108,105,99,101]⟩,⟨#[115,117,109]⟩,⟨#[116,101,120,116]⟩,⟨#[116,105,109,101]⟩,⟨#[116,114,117,101]⟩,⟨#[117,112,112,101,114]⟩]
def dQ(t:ByteArray):Bool:=bI mu t
def rz(s:St)(e:Int):(s.fail e).l=s.l:=by unfold St.fail;split<;>rfl
inductive Rd where
 | mk (s:St) (o:Int)
namespace Rd
def s:Rd->St|mk s _=>s
def o:Rd->Int|mk _ o=>o
def to(r:Rd)(s:St):Rd:=mk s r.o
def bad(r:Rd):Bool:=r.s.e != 0
def enter(r:Rd):Rd:=mk (if r.o=32 then r.s.fail 23 else r.s) (r.o+1)
def paren(r:Rd):Rd:=if r.s.aH ⟨#[40]⟩=true then mk (r.enter.s.expect ⟨#[40]⟩) r.enter.o else mk (r.s.expect ⟨#[40]⟩) r.o
def close(r:Rd):Rd:=mk (r.s.expect ⟨#[41]⟩) (r.o-1)
def down(r:Rd):Rd:=mk r.s (r.o-1)
def op(r:Rd)(b:Nat):Option Int:=if r.s.peek.kind≠1∧r.s.peek.kind≠5 then none else dk r.s.peek.text (opsL b)
end Rd
def dw(r:Rd):AO:=.box [.ptr 1001000000 0,.int .i64 fun _=>r.o]
def bin(op:Int)(x y:X):X:=.mk op 0 ⟨#[]⟩ [] [x,y]
def mv(b:Nat)(f:Rd->X×Rd):Nat->X->Rd->X×Rd
 | 0,x,r=>(x,r)
 | n+1,x,r=>match r.op b with
  | some op=>mv b f n (bin op x (f (r.to r.s.next)).1) (f (r.to r.s.next)).2
  | none=>(x,r)
def cj(b:Nat)(f:Rd->X×Rd)(r:Rd):X×Rd:=mv b f (f r).2.s.l.length (f r).1 (f r).2
def St.neg(s:St):Bool:=s.aH ⟨#[45]⟩&&(decide (s.next.peek.kind=2)&&s.next.peek.joined)
def kW:List ByteArray:=[⟨#[116,114,117,101]⟩,⟨#[102,97,108,115,101]⟩,⟨#[100,97,116,101]⟩,⟨#[116,105,109,101]⟩]
def St.val(s:St):Bool:=
 if s.peek.kind=2∨s.peek.kind=3∨s.peek.kind=4 then true
 else if s.peek.kind=1 then bI kW s.peek.text
 else s.neg
def Jh{w:World}{D:Nat->Prop}{B sz:Nat}{n n':Unit->Nat}{f f':(Unit->Nat)->List AV}{v:Value}(h:RD w D B (.slc .any sz n f) v)(hn:n ()=n' ())(hl:∀i,i<n ()->aD (f fun _=>i) (f' fun _=>i)):RD w D B (.slc .any sz n' f') v:=by
 cases h with
 | empty _ _ _ _ p cap h0 hc=>exact .empty _ _ _ _ p cap zo hc
 | slc _ _ _ _ b o cap c h1 hc hD hB hcell hlen hone hel=>
  rw[hn]at h1 hcell ⊢;refine .slc _ _ _ _ b o cap c h1 hc hD trivial hcell (fun i hi=>?_) (fun i hi=>?_) (fun i j av hi hj=>?_)
  ·rw[<- (hl i zo).1];exact hlen i zo
  ·exact(hl i zo).2.1 (hone i zo)
  ·have hlen1:=hlen i zo;have hj2:j<(f fun _=>i).length:=by rw[(hl i zo).1];exact(bX.1 hj).1
   exact(hl i zo).2.2 w D B j _ _ _ (bf hj2) hj (hel i j _ zo (bf hj2))
theorem X.JE:∀{e d:Nat} {x:X},X.le e d x->X.le e (d+1) x
 | _,0,_,h=>h.elim
 | _,_+1,_,h=>⟨h.1,h.2.1,h.2.2.1,h.2.2.2.1,fun y hy=>X.JE (h.2.2.2.2 y hy)⟩
def X.cP{e c d:Nat}{x:X}(h:X.le e c x)(hd:c<=d):X.le e d x:=by
 induction hd with
 | refl=>exact h
 | step _ ih=>exact X.JE ih
def X.gg{e d:Nat}{x:X}(h:X.le e (d+1) x){i:Nat}(hi:i<x.args.length):X.le e d (x.args.getD i default):=by
 have:x.args.getD i default=x.args[i]:=by simp[List.getD,hi]
 rw[this];exact h.2.2.2.2 _ (d9 hi)
def ry{e:Nat}:∀(c:Nat) (x:Unit->X),X.le e c (x ())->∀d d',c<=d->c<=d'->aD (cQ e d .any x) (cQ e d' .any x):=by
 have key:∀(c:Nat) (x:Unit->X),X.le e c (x ())->∀d d',c<=d->c<=d'->∀(w:World) (D:Nat->Prop) (B j:Nat) (av bw:AV) (u:Value),(cQ e d .any x)[j]? = some av->(cQ e d' .any x)[j]? = some bw->RD w D B av u->RD w D B bw u:=by
  intro c
  induction c with
  | zero=>intro x hx;exact hx.elim
  | succ c ih=>
   intro x hx d d' hd hd' w D B j av bw u h1 h2 h;obtain⟨d,rfl⟩:∃k,d=k+1:=⟨d-1,zo⟩
   obtain⟨d',rfl⟩:∃k,d'=k+1:=⟨d'-1,zo⟩
   match j with
   | 0|1|2|3=>simp[cQ,mw]at h1 h2;subst h1;subst h2;exact h
   | 4=>
    simp[cQ,mw]at h1 h2;subst h1;subst h2;exact Jh h rfl fun i hi=>⟨rfl,fun _=>rfl,fun w D B j av bw u h1 h2 h=>ih _ (X.gg hx hi) d d' zo zo w D B j av bw u h1 h2 h⟩
   | n+5=>simp[cQ,mw]at h1
 exact fun c x hx d d' hd hd'=>⟨rfl,fun _=>rfl,fun w D B j av bw u h1 h2 h=>key c x hx d d' hd hd' w D B j av bw u h1 h2 h⟩
def j7{P:Program}{t kt et:TypeId}(ht:P.underlying t=some (.map kt et))(hk:P.underlying kt=some .string)(W:World)(es:Array MapEntry)(c:Nat)(b:Nat)(hbW:b=W.heap.size)(k:ByteArray)(v:Value)(hf:Instr.findNow .string (.string k) es.toList 0=some none):
 (Instr.mapUpdate t (.map (some b)) (.string k) v).run P (W.alloc (.map es c))=.ok () (W.alloc (.map (es.push { key:=.string k,val:=v,born:=c }) (c+1))):=by
 subst hbW;have hb:(W.alloc (.map es c)).heap[W.heap.size]? = some (.map es c):=by
  show(W.heap.push _)[W.heap.size]? = _;simp
 have hc:=MapKept.run_checkKey (w:=W.alloc (.map es c)) (d:=.string) (k:=.string k) hk trivial false 9999;have kJ:(Instr.findKey kt (.string k) es.toList).run P (W.alloc (.map es c))=.ok none (W.alloc (.map es c)):=MapKept.run_findKey hk hf;have hs:=MapKept.run_setObj_map (P:=P) (.map (es.push { key:=.string k,val:=v,born:=c }) (c+1)) hb;have he:({ W.alloc (.map es c)with heap:=(W.alloc (.map es c)).heap.setIfInBounds W.heap.size (.map (es.push { key:=.string k,val:=v,born:=c }) (c+1)) }:World)=W.alloc (.map (es.push { key:=.string k,val:=v,born:=c }) (c+1)):=by
  have e:(W.heap.push (.map es c)).setIfInBounds W.heap.size (.map (es.push { key:=.string k,val:=v,born:=c }) (c+1))=W.heap.push (.map (es.push { key:=.string k,val:=v,born:=c }) (c+1)):=by
   apply mR;simp
  show World.mk _ _ _ _ _=World.mk _ _ _ _ _;simp only[World.alloc,e]
 rw[he]at hs;simp only[Instr.mapUpdate,ec,bF ht,cm,MapKept.run_getObj_map hb];rw[show(10000:Nat)=9999+1 from rfl,hc];simp only[cm,kJ];exact hs
def rA{P:Program}(t:TypeId)(w:World):(Instr.makeMap t none).run P w=.ok (.map (some w.heap.size)) (w.alloc (.map #[] 0)):=rfl
def SD:Array MapEntry:=#[{ key:=.string ⟨#[111,114]⟩,val:=.int .i64 5,born:=0 }]
def SE:Array MapEntry:=#[{ key:=.string ⟨#[97,110,100]⟩,val:=.int .i64 4,born:=0 }]
def SF:Array MapEntry:=#[{ key:=.string ⟨#[61]⟩,val:=.int .i64 6,born:=0 },{ key:=.string ⟨#[33,61]⟩,val:=.int .i64 7,born:=1 },{ key:=.string ⟨#[60]⟩,val:=.int .i64 8,born:=2 },{ key:=.string ⟨#[60,61]⟩,val:=.int .i64 9,born:=3 },{ key:=.string ⟨#[62]⟩,val:=.int .i64 10,born:=4 },{ key:=.string ⟨#[62,61]⟩,val:=.int .i64 11,born:=5 }]
def SG:Array MapEntry:=#[{ key:=.string ⟨#[101,108,115,101]⟩,val:=.int .i64 23,born:=0 }]
def SH:Array MapEntry:=#[{ key:=.string ⟨#[43]⟩,val:=.int .i64 12,born:=0 },{ key:=.string ⟨#[45]⟩,val:=.int .i64 13,born:=1 },{ key:=.string ⟨#[38]⟩,val:=.int .i64 17,born:=2 }]
def SI:Array MapEntry:=#[{ key:=.string ⟨#[42]⟩,val:=.int .i64 14,born:=0 }]
def zU:Array MapEntry:=#[{ key:=.string ⟨#[108,101,110,103,116,104]⟩,val:=.agg #[.int .i64 18,.int .i64 1],born:=0 },{ key:=.string ⟨#[108,111,119,101,114]⟩,val:=.agg #[.int .i64 19,.int .i64 1],born:=1 },{ key:=.string ⟨#[117,112,112,101,114]⟩,val:=.agg #[.int .i64 20,.int .i64 1],born:=2 },{ key:=.string ⟨#[116,101,120,116]⟩,val:=.agg #[.int .i64 27,.int .i64 1],born:=3 },{ key:=.string ⟨#[110,117,109,98,101,114]⟩,val:=.agg #[.int .i64 28,.int .i64 1],born:=4 },{ key:=.string ⟨#[115,108,105,99,101]⟩,val:=.agg #[.int .i64 21,.int .i64 3],born:=5 },{ key:=.string ⟨#[105,102]⟩,val:=.agg #[.int .i64 24,.int .i64 3],born:=6 },{ key:=.string ⟨#[100,105,118,105,100,101]⟩,val:=.agg #[.int .i64 15,.int .i64 2],born:=7 },{ key:=.string ⟨#[104,97,115]⟩,val:=.agg #[.int .i64 22,.int .i64 0],born:=8 },{ key:=.string ⟨#[115,117,109]⟩,val:=.agg #[.int .i64 26,.int .i64 0],born:=9 }]
def ca(w:World)(o:Obj)(n:Nat)(h:w.heap.size=n):n+1=(w.alloc o).heap.size:=by subst h;exact(Array.size_push _).symm
def seven(W:World)(o0 o1 o2 o3 o4 o5 o6:Obj):W.heap.size<=(((((((W.alloc o0).alloc o1).alloc o2).alloc o3).alloc o4).alloc o5).alloc o6).heap.size∧(∀x,x<W.heap.size->(((((((W.alloc o0).alloc o1).alloc o2).alloc o3).alloc o4).alloc o5).alloc o6).heap[x]? = W.heap[x]?) ∧
 (((((((W.alloc o0).alloc o1).alloc o2).alloc o3).alloc o4).alloc o5).alloc o6).heap[W.heap.size]? = some o0∧(((((((W.alloc o0).alloc o1).alloc o2).alloc o3).alloc o4).alloc o5).alloc o6).heap[W.heap.size+1]? = some o1∧(((((((W.alloc o0).alloc o1).alloc o2).alloc o3).alloc o4).alloc o5).alloc o6).heap[W.heap.size+2]? = some o2 ∧
 (((((((W.alloc o0).alloc o1).alloc o2).alloc o3).alloc o4).alloc o5).alloc o6).heap[W.heap.size+3]? = some o3∧(((((((W.alloc o0).alloc o1).alloc o2).alloc o3).alloc o4).alloc o5).alloc o6).heap[W.heap.size+4]? = some o4∧(((((((W.alloc o0).alloc o1).alloc o2).alloc o3).alloc o4).alloc o5).alloc o6).heap[W.heap.size+5]? = some o5 ∧
 (((((((W.alloc o0).alloc o1).alloc o2).alloc o3).alloc o4).alloc o5).alloc o6).heap[W.heap.size+6]? = some o6:=by
 have new:∀(w:World) (o:Obj) (n:Nat),w.heap.size=n->(w.alloc o).heap.size=n+1∧(w.alloc o).heap[n]? = some o∧∀x,x<n->(w.alloc o).heap[x]? = w.heap[x]? := fun w o n h=>by
  subst h;refine⟨Array.size_push _,?_,fun x hx=>?_⟩
  ·show(w.heap.push o)[w.heap.size]? = _;simp
  ·show(w.heap.push o)[x]? = _;rw[Array.getElem?_push,aa zo]
 obtain⟨a0,b0,c0⟩:=new W o0 _ rfl;generalize W.alloc o0=W0 at*;obtain⟨a1,b1,c1⟩:=new W0 o1 _ a0;generalize W0.alloc o1=W1 at*;obtain⟨a2,b2,c2⟩:=new W1 o2 _ a1;generalize W1.alloc o2=W2 at*;obtain⟨a3,b3,c3⟩:=new W2 o3 _ a2;generalize W2.alloc o3=W3 at*;obtain⟨a4,b4,c4⟩:=new W3 o4 _ a3;generalize W3.alloc o4=W4 at*;obtain⟨a5,b5,c5⟩:=new W4 o5 _ a4;generalize W4.alloc o5=W5 at*;obtain⟨a6,b6,c6⟩:=new W5 o6 _ a5;generalize W5.alloc o6=W6 at*;refine⟨zo,fun x hx=>?_,?_,?_,?_,?_,?_,?_,b6⟩
 ·rw[c6 x zo,c5 x zo,c4 x zo,c3 x zo,c2 x zo,c1 x zo,c0 x hx]
 ·rw[c6 _ zo,c5 _ zo,c4 _ zo,c3 _ zo,c2 _ zo,c1 _ zo,b0]
 ·rw[c6 _ zo,c5 _ zo,c4 _ zo,c3 _ zo,c2 _ zo,b1]
 ·rw[c6 _ zo,c5 _ zo,c4 _ zo,c3 _ zo,b2]
 ·rw[c6 _ zo,c5 _ zo,c4 _ zo,b3]
 ·rw[c6 _ zo,c5 _ zo,b4]
 ·rw[c6 _ zo,b5]
def SJ(W:World):Calls prog 90 #[] W fun e w'=>e=.returned (.map (some W.heap.size))∧w'=W.alloc (.map zU 10):=by
 go_enter func90,ntmps90
 go_wp2
 rw[rA];simp only[cm,uZ]
 go_wp2
 iterate 10
  rw[j7 underlying105 underlying9 _ _ _ _ rfl _ _ rfl];simp only[cm,lj]
  go_wp2
 go_ret
 exact⟨rfl,rfl⟩
def SK(W:World):Calls prog 137 #[] W fun e w'=>e=.returned (.agg #[.map none,.map (some (W.heap.size+1)),.map (some (W.heap.size+2)),.map none,.map (some (W.heap.size+3)),.map (some (W.heap.size+4)),.map (some (W.heap.size+5)),.map (some (W.heap.size+6)),.map none,.map none]) ∧
 ∃h,w'={ W with heap:=h }∧W.heap.size<=h.size∧(∀x,x<W.heap.size->h[x]? = W.heap[x]?)∧h[W.heap.size+1]? = some (.map SD 1)∧h[W.heap.size+2]? = some (.map SE 1)∧h[W.heap.size+3]? = some (.map SF 6)∧h[W.heap.size+4]? = some (.map SG 1)∧h[W.heap.size+5]? = some (.map SH 3)∧h[W.heap.size+6]? = some (.map SI 1):=by
 go_enter func137,ntmps137
 go_wp2
 rw[rA];simp only[cm,uZ]
 go_wp2
 rw[j7 underlying152 underlying9 _ _ _ _ ?hb _ _ ?hf]
 case hb=>exact ca _ _ _ rfl
 case hf=>rfl
 simp only[cm,lj]
 go_wp2
 rw[rA];simp only[cm,uZ]
 go_wp2
 rw[j7 underlying152 underlying9 _ _ _ _ ?hb _ _ ?hf]
 case hb=>exact ca _ _ _ (ca _ _ _ rfl).symm
 case hf=>rfl
 simp only[cm,lj]
 go_wp2
 rw[rA];simp only[cm,uZ]
 go_wp2
 rw[j7 underlying152 underlying9 _ _ _ _ ?hb _ _ ?hf]
 case hb=>exact ca _ _ _ (ca _ _ _ (ca _ _ _ rfl).symm).symm
 case hf=>rfl
 simp only[cm,lj]
 go_wp2
 rw[j7 underlying152 underlying9 _ _ _ _ ?hb _ _ ?hf]
 case hb=>exact ca _ _ _ (ca _ _ _ (ca _ _ _ rfl).symm).symm
 case hf=>rfl
 simp only[cm,lj]
 go_wp2
 rw[j7 underlying152 underlying9 _ _ _ _ ?hb _ _ ?hf]
 case hb=>exact ca _ _ _ (ca _ _ _ (ca _ _ _ rfl).symm).symm
 case hf=>rfl
 simp only[cm,lj]
 go_wp2
 rw[j7 underlying152 underlying9 _ _ _ _ ?hb _ _ ?hf]
 case hb=>exact ca _ _ _ (ca _ _ _ (ca _ _ _ rfl).symm).symm
 case hf=>rfl
 simp only[cm,lj]
 go_wp2
 rw[j7 underlying152 underlying9 _ _ _ _ ?hb _ _ ?hf]
 case hb=>exact ca _ _ _ (ca _ _ _ (ca _ _ _ rfl).symm).symm
 case hf=>rfl
 simp only[cm,lj]
 go_wp2
 rw[j7 underlying152 underlying9 _ _ _ _ ?hb _ _ ?hf]
 case hb=>exact ca _ _ _ (ca _ _ _ (ca _ _ _ rfl).symm).symm
 case hf=>rfl
 simp only[cm,lj]
 go_wp2
 rw[rA];simp only[cm,uZ]
 go_wp2
 rw[j7 underlying152 underlying9 _ _ _ _ ?hb _ _ ?hf]
 case hb=>exact ca _ _ _ (ca _ _ _ (ca _ _ _ (ca _ _ _ rfl).symm).symm).symm
 case hf=>rfl
 simp only[cm,lj]
 go_wp2
 rw[rA];simp only[cm,uZ]
 go_wp2
 rw[j7 underlying152 underlying9 _ _ _ _ ?hb _ _ ?hf]
 case hb=>exact ca _ _ _ (ca _ _ _ (ca _ _ _ (ca _ _ _ (ca _ _ _ rfl).symm).symm).symm).symm
 case hf=>rfl
 simp only[cm,lj]
 go_wp2
 rw[j7 underlying152 underlying9 _ _ _ _ ?hb _ _ ?hf]
 case hb=>exact ca _ _ _ (ca _ _ _ (ca _ _ _ (ca _ _ _ (ca _ _ _ rfl).symm).symm).symm).symm
 case hf=>rfl
 simp only[cm,lj]
 go_wp2
 rw[j7 underlying152 underlying9 _ _ _ _ ?hb _ _ ?hf]
 case hb=>exact ca _ _ _ (ca _ _ _ (ca _ _ _ (ca _ _ _ (ca _ _ _ rfl).symm).symm).symm).symm
 case hf=>rfl
 simp only[cm,lj]
 go_wp2
 rw[rA];simp only[cm,uZ]
 go_wp2
 rw[j7 underlying152 underlying9 _ _ _ _ ?hb _ _ ?hf]
 case hb=>exact ca _ _ _ (ca _ _ _ (ca _ _ _ (ca _ _ _ (ca _ _ _ (ca _ _ _ rfl).symm).symm).symm).symm).symm
 case hf=>rfl
 simp only[cm,lj]
 go_wp2
 obtain⟨f1,f2,f3,f4,f5,f6,f7,f8,f9⟩:=seven W _ _ _ _ _ _ _;refine⟨rfl,.agg #[.map none,.map (some (W.heap.size+1)),.map (some (W.heap.size+2)),.map none,.map (some (W.heap.size+3)),.map (some (W.heap.size+4)),.map (some (W.heap.size+5)),.map (some (W.heap.size+6)),.map none,.map none],?_,?_⟩
 rotate_left
 ·exact⟨rfl,_,rfl,f1,f2,f4,f5,f6,f7,f8,f9⟩
 ·show(results f137 _).run prog _=_;have hr:f137.results=#[.cell 0 153]:=rfl;have hl:=run_loadVar_row (P:=prog) _ _ 153 153 _ _ _ f3 underlying153 rfl zk;generalize (((((((W.alloc _).alloc _).alloc _).alloc _).alloc _).alloc _).alloc _)=W7 at hl ⊢;simp[results,hr,asAddr,hl]
def SL(l:List (ByteArray×Int)):AV:=.di (fun _=>l.map (·.1)) fun i=>.int .i64 fun _=>(l.getD (i ()) default).2
def ox(l:List (ByteArray×Int×Int)):AV:=.di (fun _=>l.map (·.1)) fun i=>.agg [.int .i64 fun _=>(l.getD (i ()) default).2.1,.int .i64 fun _=>(l.getD (i ()) default).2.2]
def wT(l:List (ByteArray×Int)):Array MapEntry:=((List.range l.length).map fun i=>({ key:=.string (l.getD i default).1,val:=.int .i64 (l.getD i default).2,born:=i }:MapEntry)).toArray
def ug{w:World}{D:Nat->Prop}{B b c:Nat}{l:List (ByteArray×Int)}(hD:D b)(h:w.heap[b]? = some (.map (wT l) c))(hc:c=l.length:=by rfl):RD w D B (SL l) (.map (some b)):=by
 have key:∀i x,(wT l)[i]? = some x->i<l.length∧x={ key:=.string (l.getD i default).1,val:=.int .i64 (l.getD i default).2,born:=i }:=by
  intro i x hx;unfold wT at hx;rw[uN,gC]at hx;by_cases hi:i<l.length
  ·rw[FC hi]at hx;exact⟨hi,(jg hx).symm⟩
  ·rw[sG (by rw[List.length_range];omega)]at hx;cases hx
 refine .di _ _ b c _ hD h (by simp[wT]) (fun i k e h1 h2=>?_) ⟨by rw[hc];simp[wT],fun i e h2=>by obtain⟨hi,rfl⟩:=key _ _ h2;rfl⟩ fun i e h2=>?_
 ·obtain⟨hi,rfl⟩:=key _ _ h2;rw[gC,bf hi]at h1;simp only[eM,cB]at h1;rw[<- h1];simp[List.getD,hi]
 ·obtain⟨hi,rfl⟩:=key _ _ h2;exact .int _ _
def rB(l:List (ByteArray×Int×Int)):Array MapEntry:=((List.range l.length).map fun i=>({ key:=.string (l.getD i default).1,val:=.agg #[.int .i64 (l.getD i default).2.1,.int .i64 (l.getD i default).2.2],born:=i }:MapEntry)).toArray
def SM{w:World}{D:Nat->Prop}{B b c:Nat}{l:List (ByteArray×Int×Int)}(hD:D b)(h:w.heap[b]? = some (.map (rB l) c))(hc:c=l.length:=by rfl):RD w D B (ox l) (.map (some b)):=by
 have key:∀i x,(rB l)[i]? = some x->i<l.length∧x={ key:=.string (l.getD i default).1,val:=.agg #[.int .i64 (l.getD i default).2.1,.int .i64 (l.getD i default).2.2],born:=i }:=by
  intro i x hx;unfold rB at hx;rw[uN,gC]at hx;by_cases hi:i<l.length
  ·rw[FC hi]at hx;exact⟨hi,(jg hx).symm⟩
  ·rw[sG (by rw[List.length_range];omega)]at hx;cases hx
 refine .di _ _ b c _ hD h (by simp[rB]) (fun i k e h1 h2=>?_) ⟨by rw[hc];simp[rB],fun i e h2=>by obtain⟨hi,rfl⟩:=key _ _ h2;rfl⟩ fun i e h2=>?_
 ·obtain⟨hi,rfl⟩:=key _ _ h2;rw[gC,bf hi]at h1;simp only[eM,cB]at h1;rw[<- h1];simp[List.getD,hi]
 ·obtain⟨hi,rfl⟩:=key _ _ h2;refine .agg _ _ rfl fun j av v h3 h4=>?_;rcases j with _|_|j
  ·simp at h3 h4;subst h3;subst h4;exact .int .i64 fun _=>(l.getD i default).2.1
  ·simp at h3 h4;subst h3;subst h4;exact .int .i64 fun _=>(l.getD i default).2.2
  ·simp at h3
def JF:Af prog 90 [] [] (ox ba) []:=by
 refine⟨lm func90 rfl rfl,fun E β vs cC hdf hY h0=>?_⟩;obtain rfl:vs=#[]:=sC h0.size;refine(SJ E.w0).mono fun e w' ⟨he,hw⟩=>⟨.map (some E.w0.heap.size),β,he,?_,fun o hi=>hi.elim⟩
 subst hw;have hg:=Grow.alloc E.w0 (.map zU 10);have hh:(E.w0.alloc (.map zU 10)).heap[E.w0.heap.size]? = some (.map (rB ba) 10):=by
  show(E.w0.heap.push _)[E.w0.heap.size]? = _;rw[show rB ba=zU from rfl];simp
 refine⟨hdf.symm,rfl,fun t av ht=>?_,fun o=>trivial,fun o o' b _ hi=>hi.elim,⟨rfl,rfl,rfl,hg.size,fun b hb _=>hg.old b hb⟩,fun o u n0 hp=>by rw[cC o]at hp;cases hp⟩;cases t with
 | zero=>
  simp at ht;subst ht;exact .d (SM ⟨.inr (.inr (ao _)),by show _<(E.w0.heap.push _).size;simp,fun o hi=>hi.elim⟩ hh)
 | succ t=>simp at ht
def pj(O:Nat->List (ByteArray×Int)):AV:=.gJ 10 (fun j=>(O (j ())).map (·.1)) fun j i=>.int .i64 fun _=>((O (j ())).getD (i ()) default).2
def SN:Af prog 137 [] [] (pj opsL) []:=by
 refine⟨lm func137 rfl rfl,fun E β vs cC hdf hY h0=>?_⟩;obtain rfl:vs=#[]:=sC h0.size;refine(SK E.w0).mono fun e w' ⟨he,h,hw,hs,hold,h1,h2,h4,h5,h6,h7⟩=>⟨_,β,he,?_,fun o hi=>hi.elim⟩
 subst hw;refine⟨hdf.symm,rfl,fun t av ht=>?_,fun o=>trivial,fun o o' b _ hi=>hi.elim,⟨rfl,rfl,rfl,hs,fun b hb _=>hold b hb⟩,fun o u n0 hp=>by rw[cC o]at hp;cases hp⟩;have hD:∀k es c,h[E.w0.heap.size+k]? = some (.map es c)->E.D { E.w0 with heap:=h } β (oL []) (E.w0.heap.size+k):=fun k es c hk=>
  ⟨.inr (.inr (show E.w0.heap.size<=_ by omega)),(d8.1 hk).1,fun o hi=>hi.elim⟩
 cases t with
 | zero=>
  simp at ht;subst ht;refine .d (.gJ _ _ _ _ rfl fun i v g=>?_);rcases i with _|_|_|_|_|_|_|_|_|_|i<;>simp at g<;>subst g
  ·exact .jM _ _ rfl
  ·exact ug (l:=opsL 1) (hD 1 _ _ h1) h1
  ·exact ug (l:=opsL 2) (hD 2 _ _ h2) h2
  ·exact .jM _ _ rfl
  ·exact ug (l:=opsL 4) (hD 3 _ _ h4) h4
  ·exact ug (l:=opsL 5) (hD 4 _ _ h5) h5
  ·exact ug (l:=opsL 6) (hD 5 _ _ h6) h6
  ·exact ug (l:=opsL 7) (hD 6 _ _ h7) h7
  ·exact .jM _ _ rfl
  ·exact .jM _ _ rfl
 | succ t=>simp at ht
def yc:∃O,O=opsL∧Af prog 137 [] [] (pj O) []:=⟨_,rfl,SN⟩
def rC(s:St):Af prog 52 [.ptr 1000 0] [(1000,am fun _=>s)] (.bool fun _=>s.e != 0) [(1000,am fun _=>s)]:=by
 have h1:=DO s
 (refine fB [.tmp 2] SO [(1,[(1,.ag [.int .i64 fun _=>s.line,.int .i64 fun _=>s.col,.int .i64 fun _=>s.e],zS s)])] func52 fun _=>?_;repeat' first|exact⟨⟩|apply mA|apply mC<;>intro)
def uh(r:Rd):Af prog 68 [.ptr 1000 0] [(1000,dw r),(1001000000,am fun _=>r.s)] (.bool fun _=>r.bad) [(1000,dw r),(1001000000,am fun _=>r.s)]:=by
 have h1:=DO r.s;unfold Rd.bad;generalize r.s=s at h1 ⊢
 (refine fB [.tmp 2] SP [(1,[(4,.ag [.int .i64 fun _=>s.line,.int .i64 fun _=>s.col,.int .i64 fun _=>s.e],zS s)])] func68 fun _=>?_;repeat' first|exact⟨⟩|apply mA|apply mC<;>intro)
def aX(o:Int):AO:=.box [.ptr 1001000000 0,.int .i64 fun _=>o]
def aL(r:Rd):dw r=aX r.o:=rfl
def DP(r:Rd)(ho : -1073741824<=r.o∧r.o<=1073741824):Af prog 233 [.ptr 1000 0] [(1000,dw r),(1001000000,am fun _=>r.s)] (.ag []) [(1000,dw r.enter),(1001000000,am fun _=>r.enter.s)]:=by
 have h1:=j6 r.s 23;have h2:r.enter.o=r.o+1:=rfl;have h3:r.enter.s=if r.o=32 then r.s.fail 23 else r.s:=rfl;rw[aL,aL,h2,h3];clear h2 h3;generalize r.s.fail 23=f at h1 ⊢;generalize r.s=s at h1 ⊢;generalize r.o=o at ho ⊢;by_cases q:o=32
 ·rw[ae q];subst q
  (refine fB [] JG [(1,[(4,zT,zS f)])] func233 fun _=>?_;repeat' first|exact⟨⟩|apply mA|apply mC<;>intro)
 ·rw[aa q];obtain⟨o1,h2⟩:∃o1,o1=o+1:=⟨_,rfl⟩
  rw[<- h2]
  (refine fA [] JG [] func233 fun _=>?_;repeat' first|exact⟨⟩|apply mA|apply mC<;>intro)
  all_goals try exact absurd ‹o=32› q
  (all_goals try first|exact eZ|(refine qC ?_;repeat' first|exact⟨⟩|apply mA))
  all_goals(rw[ax zo zo,h2])
def wU(r:Rd)(ho : -1073741824<=r.o∧r.o<=1073741824)(hl:r.s.l.length<=1073741824):Af prog 273 [.ptr 1000 0] [(1000,dw r),(1001000000,am fun _=>r.s)] (.ag []) [(1000,dw r.close),(1001000000,am fun _=>r.close.s)]:=by
 have h1:=uf r.s ⟨#[41]⟩ hl;have h2:r.close.o=r.o-1:=rfl;have h3:r.close.s=r.s.expect ⟨#[41]⟩:=rfl;rw[aL,aL,h2,h3];clear h2 h3;generalize r.s.expect ⟨#[41]⟩=f at h1 ⊢;generalize r.s=s at h1 ⊢;generalize r.o=o at ho ⊢;obtain⟨o1,h2⟩:∃o1,o1=o-1:=⟨_,rfl⟩
 rw[<- h2]
 (refine fB [] SQ [(0,[(4,zT,zS f)])] func273 fun _=>?_;repeat' first|exact⟨⟩|apply mA|apply mC<;>intro)
 all_goals(rw[ax zo zo,h2])
def zV(r:Rd)(ho : -1073741824<=r.o∧r.o<=1073741824)(hl:r.s.l.length<=1073741824):Af prog 271 [.ptr 1000 0] [(1000,dw r),(1001000000,am fun _=>r.s)] (.ag []) [(1000,dw r.paren),(1001000000,am fun _=>r.paren.s)]:=by
 have h0:=lK r.s ⟨#[40]⟩;cases q:r.s.aH ⟨#[40]⟩with
 | true=>
  rw[q]at h0;have h1:=DP r ho;have h2:r.paren.o=r.enter.o:=by unfold Rd.paren;rw[ae q];rfl
  have h3:r.paren.s=r.enter.s.expect ⟨#[40]⟩:=by unfold Rd.paren;rw[ae q];rfl
  have hl2:r.enter.s.l.length<=1073741824:=by
   show(if r.o=32 then r.s.fail 23 else r.s).l.length<=_;split
   ·rw[rz];exact hl
   ·exact hl
  have h4:=uf r.enter.s ⟨#[40]⟩ hl2;rw[aL,aL,h2,h3];rw[aL,aL]at h1;clear h2 h3 hl2;generalize r.enter.s.expect ⟨#[40]⟩=f at h4 ⊢;generalize r.enter.s=s' at h4 h1 ⊢;generalize r.enter.o=o' at h1 ⊢;generalize r.s=s at h0 h1 ⊢;generalize r.o=o at h1 ⊢
  (refine fB [] JH [(0,[(4,zO true,zS s)]),(1,[(1,zT,[(1000,aX o'),(1001000000,am fun _=>s')])]),(2,[(4,zT,zS f)])] func271 fun _=>?_;repeat' first|exact⟨⟩|apply mA|apply mC<;>intro)
 | false=>
  rw[q]at h0;have h2:r.paren.o=r.o:=by unfold Rd.paren;rw[aa (by rw[q];simp)];rfl
  have h3:r.paren.s=r.s.expect ⟨#[40]⟩:=by unfold Rd.paren;rw[aa (by rw[q];simp)];rfl
  have h4:=uf r.s ⟨#[40]⟩ hl;rw[aL,aL,h2,h3];clear h2 h3;generalize r.s.expect ⟨#[40]⟩=f at h4 ⊢;generalize r.s=s at h0 h4 ⊢;generalize r.o=o
  (refine fB [] JH [(0,[(4,zO false,zS s)]),(2,[(4,zT,zS f)])] func271 fun _=>?_;repeat' first|exact⟨⟩|apply mA|apply mC<;>intro)
def SR(r:Rd)(b:Int)(h:r.s.peek.kind≠1∧r.s.peek.kind≠5):Af prog 184 [.ptr 1000 0,.int .i64 fun _=>b] [(1000,dw r),(1001000000,am fun _=>r.s)] (.ag [.int .i64 fun _=>0,.bool fun _=>false]) [(1000,dw r),(1001000000,am fun _=>r.s)]:=by
 have h1:=ju r.s;generalize r.s.peek=p at h h1;generalize r.s=s at h1 ⊢
 (refine fA [.tmp 4,.tmp 5] DQ [(1,[(4,zK p,zS s)])] func184 fun _=>?_;repeat' first|exact⟨⟩|apply mA|apply mC<;>intro)
 all_goals try exact zB
 all_goals try exact absurd ‹p.kind=1∨p.kind=5› zo
 all_goals exact eZ
theorem zW{α:Type}(t:ByteArray):∀l:List (ByteArray×α),bI (l.map Prod.fst) t=(dk t l).isSome
 | []=>rfl
 | (k,v)::r=>by
  unfold dk;by_cases q:k=t
  ·rw[ae q];simp[bI,q]
  ·rw[aa q,<- zW t r];simp[bI,q]
theorem DR{α:Type}[Inhabited α](t:ByteArray):∀(l:List (ByteArray×α)) (v:α),dk t l=some v->(l.getD (eO (l.map Prod.fst) t) default).2=v
 | [],v,h=>by cases h
 | (k,u)::r,v,h=>by
  unfold dk at h;by_cases q:k=t
  ·rw[ae q]at h;cases h;simp[eO,q,Fv]
  ·rw[aa q]at h;have:=DR t r v h;rw[<- this];have e:eO (((k,u)::r).map Prod.fst) t=eO (r.map Prod.fst) t+1:=by simp[eO,q,Fv]
   rw[e];rfl
def eX(b:Nat):Prop:=b=1∨b=2∨b=4∨b=5∨b=6∨b=7
def ST{r:Rd}{b:Nat}(hb:eX b)(hl:r.s.l.length<=1073741824){o:Int}(h:r.op b=some o):Af prog 184 [.ptr 1000 0,.int .i64 fun _=>(b:Int)] [(1000,dw r),(1001000000,am fun _=>r.s)] (.ag [.int .i64 fun _=>o,.bool fun _=>true]) [(1000,dw r),(1001000000,am fun _=>r.s.next)]:=by
 have hb:b<10:=by unfold eX at hb;omega
 unfold Rd.op at h;split at h
 ·cases h
 ·rename_i q;have h1:=ju r.s;have h2:=kV r.s hl;obtain⟨O,hO,h3⟩:=yc;have hk:=zW r.s.peek.text (opsL b);have hv:=DR r.s.peek.text (opsL b) o h;rw[h]at hk;rw[<- hO]at hk hv;clear h hO;generalize r.s.peek=p at*;generalize r.s.next=n at*;generalize r.s=s at*
  (apply Af.of tF mF [.tmp 4,.tmp 5] DQ [(1,[(4,zK p,zS s)]),(4,[(0,pj O,[])]),(6,[(4,zK p,zS n)])] func184 (fun _=>?_);(repeat' with_reducible first|exact nY|refine oC ?_ ?_|refine vQ ?_ ?_ ?_|refine cV (fun _=>?_) fun _=>?_|refine wQ ?_|fail))
  all_goals(try simp only[bu]at*)
  all_goals try exact zB
  all_goals try exact absurd ‹¬p.kind=1∧¬p.kind=5› q
  all_goals try exact absurd (hk.symm.trans ‹bI _ p.text=false›) zsi
  (all_goals try first|exact eZ|with_reducible (refine rQ ?_;repeat' first|apply ai|exact wZ)|(refine sQ ?_;repeat' first|with_reducible apply ai|exact cZ))
  all_goals(exact(ae hk).trans hv)
def SU{r:Rd}{b:Nat}(hb:eX b)(hl:r.s.l.length<=1073741824)(h:r.op b=none):Af prog 184 [.ptr 1000 0,.int .i64 fun _=>(b:Int)] [(1000,dw r),(1001000000,am fun _=>r.s)] (.ag [.int .i64 fun _=>0,.bool fun _=>false]) [(1000,dw r),(1001000000,am fun _=>r.s)]:=by
 have hb:b<10:=by unfold eX at hb;omega
 unfold Rd.op at h;split at h
 ·rename_i q;exact SR r b q
 ·rename_i q;have h1:=ju r.s;have h2:=kV r.s hl;obtain⟨O,hO,h3⟩:=yc;have hk:=zW r.s.peek.text (opsL b);rw[h]at hk;rw[<- hO]at hk;clear h hO;generalize r.s.peek=p at*;generalize r.s.next=n at*;generalize r.s=s at*
  (apply Af.of tF mF [.tmp 4,.tmp 5] DQ [(1,[(4,zK p,zS s)]),(4,[(0,pj O,[])]),(6,[(4,zK p,zS n)])] func184 (fun _=>?_);(repeat' with_reducible first|exact nY|refine oC ?_ ?_|refine vQ ?_ ?_ ?_|refine cV (fun _=>?_) fun _=>?_|refine wQ ?_|fail))
  all_goals(try simp only[bu]at*)
  all_goals try exact zB
  all_goals try exact absurd ‹¬p.kind=1∧¬p.kind=5› q
  all_goals try exact absurd (hk.symm.trans ‹bI _ p.text=true›) zsi
  (all_goals try first|exact eZ|with_reducible (refine rQ ?_;repeat' first|apply ai|exact wZ)|(refine sQ ?_;repeat' first|with_reducible apply ai|exact cZ))
  all_goals(exact aa (fun q=>absurd (q.symm.trans hk) zsi))
end Go.Ai
