/- Chapter 15: streams of tokens. -/
import Derived.Test.YtbagpkiomjlhkaaGreatDoorV
import Derived.Test.YtbagpkiomjlhkaaGreatDoorEngC
import Derived.Carry
import Derived.MapKept
set_option linter.all false
namespace Go.Ai
open Go Go.Proofs
set_option maxRecDepth 100000
set_option maxHeartbeats 4000000
inductive St where
 | mk (l:List Tok) (line col e:Int)
namespace St
def l:St->List Tok|mk l _ _ _=>l
def line:St->Int|mk _ n _ _=>n
def col:St->Int|mk _ _ n _=>n
def e:St->Int|mk _ _ _ e=>e
def ok(s:St):Bool:=decide (s.e=0)&&decide (0<s.l.length)
def peek(s:St):Tok:=if s.ok=true then s.l.getD 0 default else default
def next(s:St):St:=if s.ok=true∧1<s.l.length then mk (s.l.drop 1) s.line s.col s.e else s
def isT(s:St)(t:ByteArray):Bool:=s.ok&&((decide (s.peek.kind=1)||decide (s.peek.kind=5))&&decide (s.peek.text=t))
def fail(s:St)(e:Int):St:=if s.ok=true∧e≠0 then mk s.l s.peek.line s.peek.col e else s
def accept(s:St)(t:ByteArray):St:=if s.isT t=true then s.next else s
def expect(s:St)(t:ByteArray):St:=if s.isT t=true then s.next else s.fail 13
def takes(s:St)(k:Int):Bool:=s.ok&&decide (s.peek.kind=k)
end St
def boxS(s:Unit->St):AO:=.box [slcK fun _=>(s ()).l,.int .i64 fun _=>(s ()).line,.int .i64 fun _=>(s ()).col,.int .i64 fun _=>(s ()).e]
abbrev zS(s:St):List (Nat×AO):=[(1000,boxS fun _=>s)]
def ah7(s:St):Af Tryz.prog 69 [.ptr 1000 0] [(1000,boxS fun _=>s)] (.bool fun _=>s.ok) [(1000,boxS fun _=>s)]:=by
 (refine fB [.tmp 2] kp69 [] Tryz.func69 fun _=>?_;repeat' with_reducible first|exact⟨⟩|refine mA ?_ ?_|refine mC (fun _=>?_) fun _=>?_)
 ·exact fun _=>rfl
 ·by_cases h:s.e=0<;>simp[St.ok,h]
def abk{s:St}(h:s.ok=true):s.e=0∧0<s.l.length:=by simpa[St.ok]using h
def aal(s:St):Af Tryz.prog 53 [.ptr 1000 0] [(1000,boxS fun _=>s)] (encK fun _=>s.peek) [(1000,boxS fun _=>s)]:=by
 have h1:=ah7 s;cases q:s.ok with
 | false=>
  have hp:s.peek=default:=by unfold St.peek;rw[if_neg (by rw[q];simp)]
  rw[hp];rw[q]at h1
  (refine fB [.cell 2 52] kp53 [(1,[(1,zO false,zS s)])] Tryz.func53 fun _=>?_;repeat' with_reducible first|exact⟨⟩|refine mA ?_ ?_|refine mC (fun _=>?_) fun _=>?_)
  all_goals(try(exact absurd ‹false=true› (by simp)))
  all_goals rfl
 | true=>
  have hp:s.peek=s.l.getD 0 default:=by unfold St.peek;rw[if_pos q]
  obtain⟨_,hl⟩:=abk q;rw[hp];rw[q]at h1
  (refine fB [.cell 2 52] kp53 [(1,[(1,zO true,zS s)])] Tryz.func53 fun _=>?_;repeat' with_reducible first|exact⟨⟩|refine mA ?_ ?_|refine mC (fun _=>?_) fun _=>?_)
  all_goals rfl
def aap(s:St)(hl:s.l.length<=1073741824):Af Tryz.prog 29 [.ptr 1000 0] [(1000,boxS fun _=>s)] (encK fun _=>s.peek) [(1000,boxS fun _=>s.next)]:=by
 have h1:=ah7 s;have h2:=aal s;generalize s.peek=p at h2 ⊢;by_cases q:s.ok=true∧1<s.l.length
 ·have hn:s.next=.mk (s.l.drop 1) s.line s.col s.e:=by unfold St.next;rw[if_pos q]
  rw[hn];rw[q.1]at h1;have q2:=q.2
  (refine fA [.cell 2 52] kp29 [(1,[(1,zK p,zS s)]),(2,[(1,zO true,zS s)])] Tryz.func29 fun _=>?_;repeat' with_reducible first|exact⟨⟩|refine mA ?_ ?_|refine mC (fun _=>?_) fun _=>?_)
  all_goals(try exact zB)
  all_goals(try(exfalso;omega))
  (all_goals try first|exact eZ|(refine qC ?_;repeat' with_reducible first|exact⟨⟩|refine mA ?_ ?_))
  all_goals(try(exfalso;(have h:=‹(if True then decide (1<(s.l.length:Int))else false)=false›);rw[if_pos trivial]at h;have:=of_decide_eq_false h;omega))
  ·exact fun _=>rfl
  ·show _=(s.l.drop 1).length;rw[List.length_drop];simp
  ·intro i _;refine LeL.of_eq ?_;have e:∀a b:Tok,a=b->(acT fun _=>a)=acT fun _=>b:=fun a b h=>by rw[h]
   refine e _ _ ?_;show s.l.getD (1+i) default=(s.l.drop 1).getD i default;simp[List.getD,Nat.add_comm]
  all_goals rfl
 ·have hn:s.next=s:=by unfold St.next;rw[if_neg q]
  rw[hn]
  (refine fB [.cell 2 52] kp29 [(1,[(1,zK p,zS s)]),(2,[(1,.bool fun _=>s.ok,zS s)])] Tryz.func29 fun _=>?_;repeat' with_reducible first|exact⟨⟩|refine mA ?_ ?_|refine mC (fun _=>?_) fun _=>?_)
  all_goals(try(exact absurd ⟨‹s.ok=true∧1<(s.l.length:Int)›.1,by(have:=‹s.ok=true∧1<(s.l.length:Int)›.2;omega)⟩ q))
def aef(s:St)(t:ByteArray):Af Tryz.prog 57 [.ptr 1000 0,.str fun _=>t] [(1000,boxS fun _=>s)] (.bool fun _=>s.isT t) [(1000,boxS fun _=>s)]:=by
 have h1:=ah7 s;have h2:=aal s;unfold St.isT;generalize s.peek=p at h2 ⊢;generalize s.ok=o at h1 ⊢
 (refine fB [.tmp 4] kp57 [(1,[(1,zK p,zS s)]),(2,[(1,zO o,zS s)])] Tryz.func57 fun _=>?_;repeat' with_reducible first|exact⟨⟩|refine mA ?_ ?_|refine mC (fun _=>?_) fun _=>?_)
 by_cases k1:p.kind=1<;>by_cases k5:p.kind=5<;>cases o<;>simp[k1,k5]
def adG(s:St)(t:ByteArray)(hl:s.l.length<=1073741824):Af Tryz.prog 71 [.ptr 1000 0,.str fun _=>t] [(1000,boxS fun _=>s)] (.bool fun _=>s.isT t) [(1000,boxS fun _=>s.accept t)]:=by
 have h1:=aef s t;have h2:=aap s hl;generalize s.peek=p at h2;obtain⟨A,hA⟩:∃A,A=s.accept t:=⟨_,rfl⟩
 rw[<- hA];unfold St.accept at hA;cases q:s.isT t with
 | true=>
  rw[q,if_pos rfl]at hA;rw[hA];rw[q]at h1
  (refine fB [.tmp 4] kp71 [(1,[(2,zO true,zS s)]),(3,[(1,zK p,[(1000,boxS fun _=>s.next)])])] Tryz.func71 fun _=>?_;repeat' with_reducible first|exact⟨⟩|refine mA ?_ ?_|refine mC (fun _=>?_) fun _=>?_)
 | false=>
  rw[q,if_neg (by simp)]at hA;rw[hA];rw[q]at h1
  (refine fB [.tmp 4] kp71 [(1,[(2,zO false,zS s)]),(3,[(1,zK p,[(1000,boxS fun _=>s.next)])])] Tryz.func71 fun _=>?_;repeat' with_reducible first|exact⟨⟩|refine mA ?_ ?_|refine mC (fun _=>?_) fun _=>?_)
def abE(s:St)(e:Int):Af Tryz.prog 55 [.ptr 1000 0,.int .i64 fun _=>e] [(1000,boxS fun _=>s)] (.tup []) [(1000,boxS fun _=>s.fail e)]:=by
 have h1:=ah7 s;have h2:=aal s;obtain⟨A,hA⟩:∃A,A=s.fail e:=⟨_,rfl⟩
 rw[<- hA];unfold St.fail at hA;generalize s.peek=p at h2 hA;by_cases q:s.ok=true∧e≠0
 ·rw[if_pos q]at hA;rw[hA];rw[q.1]at h1
  (refine fB [] kp55 [(0,[(1,zO true,zS s)]),(1,[(1,zK p,zS s)])] Tryz.func55 fun _=>?_;repeat' with_reducible first|exact⟨⟩|refine mA ?_ ?_|refine mC (fun _=>?_) fun _=>?_)
  all_goals(try(exfalso;(have h:=‹(if True then e != 0 else false)=false›);rw[if_pos trivial]at h;simp at h;exact q.2 h))
  all_goals first|rfl|exact fun _=>rfl|exact fun _ _=>LeL.of_eq rfl
 ·rw[if_neg q]at hA;rw[hA]
  (refine fB [] kp55 [(0,[(1,.bool fun _=>s.ok,zS s)]),(1,[(1,zK p,zS s)])] Tryz.func55 fun _=>?_;repeat' with_reducible first|exact⟨⟩|refine mA ?_ ?_|refine mC (fun _=>?_) fun _=>?_)
def ana(s:St):Af Tryz.prog 22 [.ptr 1000 0] [(1000,boxS fun _=>s)] (.tup [.int .i64 fun _=>s.line,.int .i64 fun _=>s.col,.int .i64 fun _=>s.e]) [(1000,boxS fun _=>s)]:=by
 (refine fB [.tmp 2,.tmp 3,.tmp 4] kp22 [] Tryz.func22 fun _=>?_;repeat' with_reducible first|exact⟨⟩|refine mA ?_ ?_|refine mC (fun _=>?_) fun _=>?_)
def abZ(s:St)(t:ByteArray)(hl:s.l.length<=1073741824):Af Tryz.prog 272 [.ptr 1000 0,.str fun _=>t] [(1000,boxS fun _=>s)] (.tup []) [(1000,boxS fun _=>s.expect t)]:=by
 have h1:=adG s t hl;obtain⟨A,hA⟩:∃A,A=s.expect t:=⟨_,rfl⟩
 rw[<- hA];unfold St.expect at hA;unfold St.accept at h1;cases q:s.isT t with
 | true=>
  rw[q,if_pos rfl]at h1;rw[q,if_pos rfl]at hA;rw[hA]
  (refine fB [] kp272 [(0,[(2,zO true,[(1000,boxS fun _=>s.next)])])] Tryz.func272 fun _=>?_;repeat' with_reducible first|exact⟨⟩|refine mA ?_ ?_|refine mC (fun _=>?_) fun _=>?_)
 | false=>
  rw[q,if_neg (by simp)]at h1;rw[q,if_neg (by simp)]at hA;rw[hA];have h2:=abE s 13
  (refine fB [] kp272 [(0,[(2,zO false,zS s)]),(1,[(1,zT,[(1000,boxS fun _=>s.fail 13)])])] Tryz.func272 fun _=>?_;repeat' with_reducible first|exact⟨⟩|refine mA ?_ ?_|refine mC (fun _=>?_) fun _=>?_)
def St.anV(s:St)(k:Int):Tok:=if s.takes k=true then s.peek else default
def St.take(s:St)(k:Int):St:=if s.takes k=true then s.next else s.fail 13
def take_ok(s:St)(k:Int)(hl:s.l.length<=1073741824):Af Tryz.prog 123 [.ptr 1000 0,.int .i64 fun _=>k] [(1000,boxS fun _=>s)] (encK fun _=>s.anV k) [(1000,boxS fun _=>s.take k)]:=by
 have h0:=ah7 s;have h1:=aal s;have h2:=aap s hl;have h3:=abE s 13;obtain⟨A,hA⟩:∃A,A=s.take k:=⟨_,rfl⟩
 obtain⟨K,hK⟩:∃K,K=s.anV k:=⟨_,rfl⟩
 rw[<- hA,<- hK];unfold St.take at hA;unfold St.anV at hK;have hq:s.takes k=(s.ok&&decide (s.peek.kind=k)):=rfl;obtain⟨o,ho⟩:∃o,o=s.ok:=⟨_,rfl⟩
 rw[<- ho]at h0 hq;obtain⟨N,hN⟩:∃N,N=s.next:=⟨_,rfl⟩
 rw[<- hN]at h2 hA;obtain⟨F,hF⟩:∃F,F=s.fail 13:=⟨_,rfl⟩
 rw[<- hF]at h3 hA;obtain⟨p,hp⟩:∃p,p=s.peek:=⟨_,rfl⟩
 rw[<- hp]at h1 h2 hq hK;by_cases q:o=true∧p.kind=k
 ·have ht:s.takes k=true:=by rw[hq];simp[q]
  rw[ht,if_pos rfl]at hA hK;rw[hA,hK]
  (refine fA [.cell 4 52] kp123 [(1,[(1,zO o,zS s),(4,zK p,zS s)]),(2,[(1,zK p,zS N)]),(3,[(1,zT,zS F)])] Tryz.func123 fun _=>?_;repeat' with_reducible first|exact⟨⟩|refine mA ?_ ?_|refine mC (fun _=>?_) fun _=>?_)
  all_goals(try simp only[ite_self])
  all_goals(try exact zB)
  all_goals(try(exact absurd ‹o=false∨¬p.kind=k› (fun h=>h.elim (fun h=>by rw[q.1]at h;cases h) (fun h=>h q.2))))
  all_goals exact eZ
 ·have ht:s.takes k=false:=by rw[hq];simpa using q
  rw[ht,if_neg (by simp)]at hA hK;rw[hA,hK]
  (refine fA [.cell 4 52] kp123 [(1,[(1,zO o,zS s),(4,zK p,zS s)]),(2,[(1,zK p,zS N)]),(3,[(1,zT,zS F)])] Tryz.func123 fun _=>?_;repeat' with_reducible first|exact⟨⟩|refine mA ?_ ?_|refine mC (fun _=>?_) fun _=>?_)
  all_goals(try simp only[ite_self])
  all_goals(try exact zB)
  all_goals exact eZ
def opsL(b:Nat):List (ByteArray×Int):=
 if b=1 then[(⟨#[111,114]⟩,5)]else
 if b=2 then[(⟨#[97,110,100]⟩,4)]else
 if b=4 then[(⟨#[61]⟩,6),(⟨#[33,61]⟩,7),(⟨#[60]⟩,8),(⟨#[60,61]⟩,9),(⟨#[62]⟩,10),(⟨#[62,61]⟩,11)]else
 if b=5 then[(⟨#[101,108,115,101]⟩,23)]else
 if b=6 then[(⟨#[43]⟩,12),(⟨#[45]⟩,13),(⟨#[38]⟩,17)]else
 if b=7 then[(⟨#[42]⟩,14)]else
 []
def ab5{α:Type}(t:ByteArray):List (ByteArray×α)->Option α
 | []=>none
 | (k,v)::r=>if k=t then some v else ab5 t r
def aa2:List (ByteArray×Int×Int):=[(⟨#[108,101,110,103,116,104]⟩,18,1),(⟨#[108,111,119,101,114]⟩,19,1),(⟨#[117,112,112,101,114]⟩,20,1),(⟨#[116,101,120,116]⟩,27,1),(⟨#[110,117,109,98,101,114]⟩,28,1),(⟨#[115,108,105,99,101]⟩,21,3),(⟨#[105,102]⟩,24,3),(⟨#[100,105,118,105,100,101]⟩,15,2),(⟨#[104,97,115]⟩,22,0),(⟨#[115,117,109]⟩,26,0)]
def rwL:List ByteArray:=[⟨#[97,110,100]⟩,⟨#[100,97,116,101]⟩,⟨#[100,105,118,105,100,101]⟩,⟨#[101,108,115,101]⟩,⟨#[102,97,108,115,101]⟩,⟨#[104,97,115]⟩,⟨#[105,102]⟩,⟨#[105,110]⟩,⟨#[108,101,110,103,116,104]⟩,⟨#[108,111,119,101,114]⟩,⟨#[110,111,116]⟩,⟨#[110,117,109,98,101,114]⟩,⟨#[111,114]⟩,⟨#[115,108,105,99,101]⟩,⟨#[115,117,109]⟩,⟨#[116,101,120,116]⟩,⟨#[116,105,109,101]⟩,⟨#[116,114,117,101]⟩,⟨#[117,112,112,101,114]⟩]
def resB(t:ByteArray):Bool:=kHas rwL t
def afW(s:St)(e:Int):(s.fail e).l=s.l:=by unfold St.fail;split<;>rfl
inductive Rd where
 | mk (s:St) (o:Int)
namespace Rd
def s:Rd->St|mk s _=>s
def o:Rd->Int|mk _ o=>o
def to(r:Rd)(s:St):Rd:=mk s r.o
def bad(r:Rd):Bool:=r.s.e != 0
def enter(r:Rd):Rd:=mk (if r.o=32 then r.s.fail 23 else r.s) (r.o+1)
def paren(r:Rd):Rd:=if r.s.isT ⟨#[40]⟩=true then mk (r.enter.s.expect ⟨#[40]⟩) r.enter.o else mk (r.s.expect ⟨#[40]⟩) r.o
def close(r:Rd):Rd:=mk (r.s.expect ⟨#[41]⟩) (r.o-1)
def down(r:Rd):Rd:=mk r.s (r.o-1)
def op(r:Rd)(b:Nat):Option Int:=if r.s.peek.kind≠1∧r.s.peek.kind≠5 then none else ab5 r.s.peek.text (opsL b)
end Rd
def boxR(r:Rd):AO:=.box [.ptr 1001000000 0,.int .i64 fun _=>r.o]
def bin(op:Int)(x y:X):X:=.mk op 0 ⟨#[]⟩ [] [x,y]
def af7(b:Nat)(f:Rd->X×Rd):Nat->X->Rd->X×Rd
 | 0,x,r=>(x,r)
 | n+1,x,r=>match r.op b with
  | some op=>af7 b f n (bin op x (f (r.to r.s.next)).1) (f (r.to r.s.next)).2
  | none=>(x,r)
def aaT(b:Nat)(f:Rd->X×Rd)(r:Rd):X×Rd:=af7 b f (f r).2.s.l.length (f r).1 (f r).2
def St.neg(s:St):Bool:=s.isT ⟨#[45]⟩&&(decide (s.next.peek.kind=2)&&s.next.peek.joined)
def valL:List ByteArray:=[⟨#[116,114,117,101]⟩,⟨#[102,97,108,115,101]⟩,⟨#[100,97,116,101]⟩,⟨#[116,105,109,101]⟩]
def St.val(s:St):Bool:=
 if s.peek.kind=2∨s.peek.kind=3∨s.peek.kind=4 then true
 else if s.peek.kind=1 then kHas valL s.peek.text
 else s.neg
def am0{w:World}{D:Nat->Prop}{B sz:Nat}{n n':Unit->Nat}{f f':(Unit->Nat)->List AV}{v:Value}(h:RD w D B (.slc .any sz n f) v)(hn:n ()=n' ())(hl:∀i,i<n ()->LeL (f fun _=>i) (f' fun _=>i)):RD w D B (.slc .any sz n' f') v:=by
 cases h with
 | empty _ _ _ _ p cap h0 hc=>exact .empty _ _ _ _ p cap (by omega) hc
 | slc _ _ _ _ b o cap c h1 hc hD hB hcell hlen hone hel=>
  rw[hn]at h1 hcell ⊢;refine .slc _ _ _ _ b o cap c h1 hc hD trivial hcell (fun i hi=>?_) (fun i hi=>?_) (fun i j av hi hj=>?_)
  ·rw[<- (hl i (by omega)).1];exact hlen i (by omega)
  ·exact(hl i (by omega)).2.1 (hone i (by omega))
  ·have hlen1:=hlen i (by omega);have hj2:j<(f fun _=>i).length:=by rw[(hl i (by omega)).1];exact(List.getElem?_eq_some_iff.1 hj).1
   exact(hl i (by omega)).2.2 w D B j _ _ _ (List.getElem?_eq_getElem hj2) hj (hel i j _ (by omega) (List.getElem?_eq_getElem hj2))
theorem X.le_up:∀{e d:Nat} {x:X},X.le e d x->X.le e (d+1) x
 | _,0,_,h=>h.elim
 | _,_+1,_,h=>⟨h.1,h.2.1,h.2.2.1,h.2.2.2.1,fun y hy=>X.le_up (h.2.2.2.2 y hy)⟩
def X.aa4{e c d:Nat}{x:X}(h:X.le e c x)(hd:c<=d):X.le e d x:=by
 induction hd with
 | refl=>exact h
 | step _ ih=>exact X.le_up ih
def X.abm{e d:Nat}{x:X}(h:X.le e (d+1) x){i:Nat}(hi:i<x.args.length):X.le e d (x.args.getD i default):=by
 have:x.args.getD i default=x.args[i]:=by simp[List.getD,hi]
 rw[this];exact h.2.2.2.2 _ (List.getElem_mem hi)
def abF{e:Nat}:∀(c:Nat) (x:Unit->X),X.le e c (x ())->∀d d',c<=d->c<=d'->LeL (aa8 e d .any x) (aa8 e d' .any x):=by
 have key:∀(c:Nat) (x:Unit->X),X.le e c (x ())->∀d d',c<=d->c<=d'->∀(w:World) (D:Nat->Prop) (B j:Nat) (av av':AV) (u:Value),(aa8 e d .any x)[j]? = some av->(aa8 e d' .any x)[j]? = some av'->RD w D B av u->RD w D B av' u:=by
  intro c
  induction c with
  | zero=>intro x hx;exact hx.elim
  | succ c ih=>
   intro x hx d d' hd hd' w D B j av av' u h1 h2 h;obtain⟨d,rfl⟩:∃k,d=k+1:=⟨d-1,by omega⟩
   obtain⟨d',rfl⟩:∃k,d'=k+1:=⟨d'-1,by omega⟩
   match j with
   | 0|1|2|3=>simp[aa8,abG]at h1 h2;subst h1;subst h2;exact h
   | 4=>
    simp[aa8,abG]at h1 h2;subst h1;subst h2;exact am0 h rfl fun i hi=>⟨rfl,fun _=>rfl,fun w D B j av av' u h1 h2 h=>ih _ (X.abm hx hi) d d' (by omega) (by omega) w D B j av av' u h1 h2 h⟩
   | n+5=>simp[aa8,abG]at h1
 exact fun c x hx d d' hd hd'=>⟨rfl,fun _=>rfl,fun w D B j av av' u h1 h2 h=>key c x hx d d' hd hd' w D B j av av' u h1 h2 h⟩
def aac{P:Program}{t kt et:TypeId}(ht:P.underlying t=some (.map kt et))(hk:P.underlying kt=some .string)(W:World)(es:Array MapEntry)(c:Nat)(b:Nat)(hbW:b=W.heap.size)(k:ByteArray)(v:Value)(hf:Instr.findNow .string (.string k) es.toList 0=some none):
 (Instr.mapUpdate t (.map (some b)) (.string k) v).run P (W.alloc (.map es c))=.ok () (W.alloc (.map (es.push { key:=.string k,val:=v,born:=c }) (c+1))):=by
 subst hbW;have hb:(W.alloc (.map es c)).heap[W.heap.size]? = some (.map es c):=by
  show(W.heap.push _)[W.heap.size]? = _;simp
 have hc:=MapKept.run_checkKey (w:=W.alloc (.map es c)) (d:=.string) (k:=.string k) hk trivial false 9999;have hfk:(Instr.findKey kt (.string k) es.toList).run P (W.alloc (.map es c))=.ok none (W.alloc (.map es c)):=MapKept.run_findKey hk hf;have hs:=MapKept.run_setObj_map (P:=P) (.map (es.push { key:=.string k,val:=v,born:=c }) (c+1)) hb;have he:({ W.alloc (.map es c)with heap:=(W.alloc (.map es c)).heap.setIfInBounds W.heap.size (.map (es.push { key:=.string k,val:=v,born:=c }) (c+1)) }:World)=W.alloc (.map (es.push { key:=.string k,val:=v,born:=c }) (c+1)):=by
  have e:(W.heap.push (.map es c)).setIfInBounds W.heap.size (.map (es.push { key:=.string k,val:=v,born:=c }) (c+1))=W.heap.push (.map (es.push { key:=.string k,val:=v,born:=c }) (c+1)):=by
   apply Array.ext';simp
  show World.mk _ _ _ _ _=World.mk _ _ _ _ _;simp only[World.alloc,e]
 rw[he]at hs;simp only[Instr.mapUpdate,Sem.run_bind,run_underlying ht,Result.andThen_ok,MapKept.run_getObj_map hb];rw[show(10000:Nat)=9999+1 from rfl,hc];simp only[Result.andThen_ok,hfk];exact hs
def aaV{P:Program}(t:TypeId)(w:World):(Instr.makeMap t none).run P w=.ok (.map (some w.heap.size)) (w.alloc (.map #[] 0)):=rfl
def oEnts1:Array MapEntry:=#[{ key:=.string ⟨#[111,114]⟩,val:=.int .i64 5,born:=0 }]
def oEnts2:Array MapEntry:=#[{ key:=.string ⟨#[97,110,100]⟩,val:=.int .i64 4,born:=0 }]
def oEnts4:Array MapEntry:=#[{ key:=.string ⟨#[61]⟩,val:=.int .i64 6,born:=0 },{ key:=.string ⟨#[33,61]⟩,val:=.int .i64 7,born:=1 },{ key:=.string ⟨#[60]⟩,val:=.int .i64 8,born:=2 },{ key:=.string ⟨#[60,61]⟩,val:=.int .i64 9,born:=3 },{ key:=.string ⟨#[62]⟩,val:=.int .i64 10,born:=4 },{ key:=.string ⟨#[62,61]⟩,val:=.int .i64 11,born:=5 }]
def oEnts5:Array MapEntry:=#[{ key:=.string ⟨#[101,108,115,101]⟩,val:=.int .i64 23,born:=0 }]
def oEnts6:Array MapEntry:=#[{ key:=.string ⟨#[43]⟩,val:=.int .i64 12,born:=0 },{ key:=.string ⟨#[45]⟩,val:=.int .i64 13,born:=1 },{ key:=.string ⟨#[38]⟩,val:=.int .i64 17,born:=2 }]
def oEnts7:Array MapEntry:=#[{ key:=.string ⟨#[42]⟩,val:=.int .i64 14,born:=0 }]
def cEnts:Array MapEntry:=#[{ key:=.string ⟨#[108,101,110,103,116,104]⟩,val:=.agg #[.int .i64 18,.int .i64 1],born:=0 },{ key:=.string ⟨#[108,111,119,101,114]⟩,val:=.agg #[.int .i64 19,.int .i64 1],born:=1 },{ key:=.string ⟨#[117,112,112,101,114]⟩,val:=.agg #[.int .i64 20,.int .i64 1],born:=2 },{ key:=.string ⟨#[116,101,120,116]⟩,val:=.agg #[.int .i64 27,.int .i64 1],born:=3 },{ key:=.string ⟨#[110,117,109,98,101,114]⟩,val:=.agg #[.int .i64 28,.int .i64 1],born:=4 },{ key:=.string ⟨#[115,108,105,99,101]⟩,val:=.agg #[.int .i64 21,.int .i64 3],born:=5 },{ key:=.string ⟨#[105,102]⟩,val:=.agg #[.int .i64 24,.int .i64 3],born:=6 },{ key:=.string ⟨#[100,105,118,105,100,101]⟩,val:=.agg #[.int .i64 15,.int .i64 2],born:=7 },{ key:=.string ⟨#[104,97,115]⟩,val:=.agg #[.int .i64 22,.int .i64 0],born:=8 },{ key:=.string ⟨#[115,117,109]⟩,val:=.agg #[.int .i64 26,.int .i64 0],born:=9 }]
def asz(w:World)(o:Obj)(n:Nat)(h:w.heap.size=n):n+1=(w.alloc o).heap.size:=by subst h;exact(Array.size_push _).symm
def seven(W:World)(o0 o1 o2 o3 o4 o5 o6:Obj):W.heap.size<=(((((((W.alloc o0).alloc o1).alloc o2).alloc o3).alloc o4).alloc o5).alloc o6).heap.size∧(∀x,x<W.heap.size->(((((((W.alloc o0).alloc o1).alloc o2).alloc o3).alloc o4).alloc o5).alloc o6).heap[x]? = W.heap[x]?) ∧
 (((((((W.alloc o0).alloc o1).alloc o2).alloc o3).alloc o4).alloc o5).alloc o6).heap[W.heap.size]? = some o0∧(((((((W.alloc o0).alloc o1).alloc o2).alloc o3).alloc o4).alloc o5).alloc o6).heap[W.heap.size+1]? = some o1∧(((((((W.alloc o0).alloc o1).alloc o2).alloc o3).alloc o4).alloc o5).alloc o6).heap[W.heap.size+2]? = some o2 ∧
 (((((((W.alloc o0).alloc o1).alloc o2).alloc o3).alloc o4).alloc o5).alloc o6).heap[W.heap.size+3]? = some o3∧(((((((W.alloc o0).alloc o1).alloc o2).alloc o3).alloc o4).alloc o5).alloc o6).heap[W.heap.size+4]? = some o4∧(((((((W.alloc o0).alloc o1).alloc o2).alloc o3).alloc o4).alloc o5).alloc o6).heap[W.heap.size+5]? = some o5 ∧
 (((((((W.alloc o0).alloc o1).alloc o2).alloc o3).alloc o4).alloc o5).alloc o6).heap[W.heap.size+6]? = some o6:=by
 have new:∀(w:World) (o:Obj) (n:Nat),w.heap.size=n->(w.alloc o).heap.size=n+1∧(w.alloc o).heap[n]? = some o∧∀x,x<n->(w.alloc o).heap[x]? = w.heap[x]? := fun w o n h=>by
  subst h;refine⟨Array.size_push _,?_,fun x hx=>?_⟩
  ·show(w.heap.push o)[w.heap.size]? = _;simp
  ·show(w.heap.push o)[x]? = _;rw[Array.getElem?_push,if_neg (by omega)]
 obtain⟨a0,b0,c0⟩:=new W o0 _ rfl;generalize W.alloc o0=W0 at*;obtain⟨a1,b1,c1⟩:=new W0 o1 _ a0;generalize W0.alloc o1=W1 at*;obtain⟨a2,b2,c2⟩:=new W1 o2 _ a1;generalize W1.alloc o2=W2 at*;obtain⟨a3,b3,c3⟩:=new W2 o3 _ a2;generalize W2.alloc o3=W3 at*;obtain⟨a4,b4,c4⟩:=new W3 o4 _ a3;generalize W3.alloc o4=W4 at*;obtain⟨a5,b5,c5⟩:=new W4 o5 _ a4;generalize W4.alloc o5=W5 at*;obtain⟨a6,b6,c6⟩:=new W5 o6 _ a5;generalize W5.alloc o6=W6 at*;refine⟨by omega,fun x hx=>?_,?_,?_,?_,?_,?_,?_,b6⟩
 ·rw[c6 x (by omega),c5 x (by omega),c4 x (by omega),c3 x (by omega),c2 x (by omega),c1 x (by omega),c0 x hx]
 ·rw[c6 _ (by omega),c5 _ (by omega),c4 _ (by omega),c3 _ (by omega),c2 _ (by omega),c1 _ (by omega),b0]
 ·rw[c6 _ (by omega),c5 _ (by omega),c4 _ (by omega),c3 _ (by omega),c2 _ (by omega),b1]
 ·rw[c6 _ (by omega),c5 _ (by omega),c4 _ (by omega),c3 _ (by omega),b2]
 ·rw[c6 _ (by omega),c5 _ (by omega),c4 _ (by omega),b3]
 ·rw[c6 _ (by omega),c5 _ (by omega),b4]
 ·rw[c6 _ (by omega),b5]
def ano(W:World):Calls Tryz.prog 90 #[] W fun e w'=>e=.returned (.map (some W.heap.size))∧w'=W.alloc (.map cEnts 10):=by
 go_enter Tryz.func90,Tryz.ntmps90
 go_wp2
 rw[aaV];simp only[Result.andThen_ok,Oper.upon_value]
 go_wp2
 iterate 10
  rw[aac Tryz.underlying105 Tryz.underlying9 _ _ _ _ rfl _ _ rfl];simp only[Result.andThen_ok,Oper.upon_skip]
  go_wp2
 go_ret
 exact⟨rfl,rfl⟩
def agt(W:World):Calls Tryz.prog 137 #[] W fun e w'=>e=.returned (.agg #[.map none,.map (some (W.heap.size+1)),.map (some (W.heap.size+2)),.map none,.map (some (W.heap.size+3)),.map (some (W.heap.size+4)),.map (some (W.heap.size+5)),.map (some (W.heap.size+6)),.map none,.map none]) ∧
 ∃h,w'={ W with heap:=h }∧W.heap.size<=h.size∧(∀x,x<W.heap.size->h[x]? = W.heap[x]?)∧h[W.heap.size+1]? = some (.map oEnts1 1)∧h[W.heap.size+2]? = some (.map oEnts2 1)∧h[W.heap.size+3]? = some (.map oEnts4 6)∧h[W.heap.size+4]? = some (.map oEnts5 1)∧h[W.heap.size+5]? = some (.map oEnts6 3)∧h[W.heap.size+6]? = some (.map oEnts7 1):=by
 go_enter Tryz.func137,Tryz.ntmps137
 go_wp2
 rw[aaV];simp only[Result.andThen_ok,Oper.upon_value]
 go_wp2
 rw[aac Tryz.underlying152 Tryz.underlying9 _ _ _ _ ?hb _ _ ?hf]
 case hb=>exact asz _ _ _ rfl
 case hf=>rfl
 simp only[Result.andThen_ok,Oper.upon_skip]
 go_wp2
 rw[aaV];simp only[Result.andThen_ok,Oper.upon_value]
 go_wp2
 rw[aac Tryz.underlying152 Tryz.underlying9 _ _ _ _ ?hb _ _ ?hf]
 case hb=>exact asz _ _ _ (asz _ _ _ rfl).symm
 case hf=>rfl
 simp only[Result.andThen_ok,Oper.upon_skip]
 go_wp2
 rw[aaV];simp only[Result.andThen_ok,Oper.upon_value]
 go_wp2
 rw[aac Tryz.underlying152 Tryz.underlying9 _ _ _ _ ?hb _ _ ?hf]
 case hb=>exact asz _ _ _ (asz _ _ _ (asz _ _ _ rfl).symm).symm
 case hf=>rfl
 simp only[Result.andThen_ok,Oper.upon_skip]
 go_wp2
 rw[aac Tryz.underlying152 Tryz.underlying9 _ _ _ _ ?hb _ _ ?hf]
 case hb=>exact asz _ _ _ (asz _ _ _ (asz _ _ _ rfl).symm).symm
 case hf=>rfl
 simp only[Result.andThen_ok,Oper.upon_skip]
 go_wp2
 rw[aac Tryz.underlying152 Tryz.underlying9 _ _ _ _ ?hb _ _ ?hf]
 case hb=>exact asz _ _ _ (asz _ _ _ (asz _ _ _ rfl).symm).symm
 case hf=>rfl
 simp only[Result.andThen_ok,Oper.upon_skip]
 go_wp2
 rw[aac Tryz.underlying152 Tryz.underlying9 _ _ _ _ ?hb _ _ ?hf]
 case hb=>exact asz _ _ _ (asz _ _ _ (asz _ _ _ rfl).symm).symm
 case hf=>rfl
 simp only[Result.andThen_ok,Oper.upon_skip]
 go_wp2
 rw[aac Tryz.underlying152 Tryz.underlying9 _ _ _ _ ?hb _ _ ?hf]
 case hb=>exact asz _ _ _ (asz _ _ _ (asz _ _ _ rfl).symm).symm
 case hf=>rfl
 simp only[Result.andThen_ok,Oper.upon_skip]
 go_wp2
 rw[aac Tryz.underlying152 Tryz.underlying9 _ _ _ _ ?hb _ _ ?hf]
 case hb=>exact asz _ _ _ (asz _ _ _ (asz _ _ _ rfl).symm).symm
 case hf=>rfl
 simp only[Result.andThen_ok,Oper.upon_skip]
 go_wp2
 rw[aaV];simp only[Result.andThen_ok,Oper.upon_value]
 go_wp2
 rw[aac Tryz.underlying152 Tryz.underlying9 _ _ _ _ ?hb _ _ ?hf]
 case hb=>exact asz _ _ _ (asz _ _ _ (asz _ _ _ (asz _ _ _ rfl).symm).symm).symm
 case hf=>rfl
 simp only[Result.andThen_ok,Oper.upon_skip]
 go_wp2
 rw[aaV];simp only[Result.andThen_ok,Oper.upon_value]
 go_wp2
 rw[aac Tryz.underlying152 Tryz.underlying9 _ _ _ _ ?hb _ _ ?hf]
 case hb=>exact asz _ _ _ (asz _ _ _ (asz _ _ _ (asz _ _ _ (asz _ _ _ rfl).symm).symm).symm).symm
 case hf=>rfl
 simp only[Result.andThen_ok,Oper.upon_skip]
 go_wp2
 rw[aac Tryz.underlying152 Tryz.underlying9 _ _ _ _ ?hb _ _ ?hf]
 case hb=>exact asz _ _ _ (asz _ _ _ (asz _ _ _ (asz _ _ _ (asz _ _ _ rfl).symm).symm).symm).symm
 case hf=>rfl
 simp only[Result.andThen_ok,Oper.upon_skip]
 go_wp2
 rw[aac Tryz.underlying152 Tryz.underlying9 _ _ _ _ ?hb _ _ ?hf]
 case hb=>exact asz _ _ _ (asz _ _ _ (asz _ _ _ (asz _ _ _ (asz _ _ _ rfl).symm).symm).symm).symm
 case hf=>rfl
 simp only[Result.andThen_ok,Oper.upon_skip]
 go_wp2
 rw[aaV];simp only[Result.andThen_ok,Oper.upon_value]
 go_wp2
 rw[aac Tryz.underlying152 Tryz.underlying9 _ _ _ _ ?hb _ _ ?hf]
 case hb=>exact asz _ _ _ (asz _ _ _ (asz _ _ _ (asz _ _ _ (asz _ _ _ (asz _ _ _ rfl).symm).symm).symm).symm).symm
 case hf=>rfl
 simp only[Result.andThen_ok,Oper.upon_skip]
 go_wp2
 obtain⟨f1,f2,f3,f4,f5,f6,f7,f8,f9⟩:=seven W _ _ _ _ _ _ _;refine⟨rfl,.agg #[.map none,.map (some (W.heap.size+1)),.map (some (W.heap.size+2)),.map none,.map (some (W.heap.size+3)),.map (some (W.heap.size+4)),.map (some (W.heap.size+5)),.map (some (W.heap.size+6)),.map none,.map none],?_,?_⟩
 rotate_left
 ·exact⟨rfl,_,rfl,f1,f2,f4,f5,f6,f7,f8,f9⟩
 ·show(results Tryz.f137 _).run Tryz.prog _=_;have hr:Tryz.f137.results=#[.cell 0 153]:=rfl;have hl:=run_loadVar_row (P:=Tryz.prog) _ _ 153 153 _ _ _ f3 Tryz.underlying153 rfl (by kernel_rfl);generalize (((((((W.alloc _).alloc _).alloc _).alloc _).alloc _).alloc _).alloc _)=W7 at hl ⊢;simp[results,hr,asAddr,hl]
def oMap(l:List (ByteArray×Int)):AV:=.kmap (fun _=>l.map (·.1)) fun i=>.int .i64 fun _=>(l.getD (i ()) default).2
def cMap(l:List (ByteArray×Int×Int)):AV:=.kmap (fun _=>l.map (·.1)) fun i=>.agg [.int .i64 fun _=>(l.getD (i ()) default).2.1,.int .i64 fun _=>(l.getD (i ()) default).2.2]
def amu(l:List (ByteArray×Int)):Array MapEntry:=((List.range l.length).map fun i=>({ key:=.string (l.getD i default).1,val:=.int .i64 (l.getD i default).2,born:=i }:MapEntry)).toArray
def adN{w:World}{D:Nat->Prop}{B b c:Nat}{l:List (ByteArray×Int)}(hD:D b)(h:w.heap[b]? = some (.map (amu l) c))(hc:c=l.length:=by rfl):RD w D B (oMap l) (.map (some b)):=by
 have key:∀i x,(amu l)[i]? = some x->i<l.length∧x={ key:=.string (l.getD i default).1,val:=.int .i64 (l.getD i default).2,born:=i }:=by
  intro i x hx;unfold amu at hx;rw[List.getElem?_toArray,List.getElem?_map]at hx;by_cases hi:i<l.length
  ·rw[List.getElem?_range hi]at hx;exact⟨hi,(Option.some.inj hx).symm⟩
  ·rw[List.getElem?_eq_none (by rw[List.length_range];omega)]at hx;cases hx
 refine .kmap _ _ b c _ hD h (by simp[amu]) (fun i k e h1 h2=>?_) ⟨by rw[hc];simp[amu],fun i e h2=>by obtain⟨hi,rfl⟩:=key _ _ h2;rfl⟩ fun i e h2=>?_
 ·obtain⟨hi,rfl⟩:=key _ _ h2;rw[List.getElem?_map,List.getElem?_eq_getElem hi]at h1;simp only[Option.map_some,Option.some.injEq]at h1;rw[<- h1];simp[List.getD,hi]
 ·obtain⟨hi,rfl⟩:=key _ _ h2;exact .int _ _
def af9(l:List (ByteArray×Int×Int)):Array MapEntry:=((List.range l.length).map fun i=>({ key:=.string (l.getD i default).1,val:=.agg #[.int .i64 (l.getD i default).2.1,.int .i64 (l.getD i default).2.2],born:=i }:MapEntry)).toArray
def cMap_rd{w:World}{D:Nat->Prop}{B b c:Nat}{l:List (ByteArray×Int×Int)}(hD:D b)(h:w.heap[b]? = some (.map (af9 l) c))(hc:c=l.length:=by rfl):RD w D B (cMap l) (.map (some b)):=by
 have key:∀i x,(af9 l)[i]? = some x->i<l.length∧x={ key:=.string (l.getD i default).1,val:=.agg #[.int .i64 (l.getD i default).2.1,.int .i64 (l.getD i default).2.2],born:=i }:=by
  intro i x hx;unfold af9 at hx;rw[List.getElem?_toArray,List.getElem?_map]at hx;by_cases hi:i<l.length
  ·rw[List.getElem?_range hi]at hx;exact⟨hi,(Option.some.inj hx).symm⟩
  ·rw[List.getElem?_eq_none (by rw[List.length_range];omega)]at hx;cases hx
 refine .kmap _ _ b c _ hD h (by simp[af9]) (fun i k e h1 h2=>?_) ⟨by rw[hc];simp[af9],fun i e h2=>by obtain⟨hi,rfl⟩:=key _ _ h2;rfl⟩ fun i e h2=>?_
 ·obtain⟨hi,rfl⟩:=key _ _ h2;rw[List.getElem?_map,List.getElem?_eq_getElem hi]at h1;simp only[Option.map_some,Option.some.injEq]at h1;rw[<- h1];simp[List.getD,hi]
 ·obtain⟨hi,rfl⟩:=key _ _ h2;refine .agg _ _ rfl fun j av v h3 h4=>?_;rcases j with _|_|j
  ·simp at h3 h4;subst h3;subst h4;exact .int .i64 fun _=>(l.getD i default).2.1
  ·simp at h3 h4;subst h3;subst h4;exact .int .i64 fun _=>(l.getD i default).2.2
  ·simp at h3
def akc:Af Tryz.prog 90 [] [] (cMap aa2) []:=by
 refine⟨aco Tryz.func90 rfl rfl,fun E β vs hpin hdf hY h0=>?_⟩;obtain rfl:vs=#[]:=Array.eq_empty_of_size_eq_zero h0.size;refine(ano E.w0).mono fun e w' ⟨he,hw⟩=>⟨.map (some E.w0.heap.size),β,he,?_,fun o hi=>hi.elim⟩
 subst hw;have hg:=Grow.alloc E.w0 (.map cEnts 10);have hh:(E.w0.alloc (.map cEnts 10)).heap[E.w0.heap.size]? = some (.map (af9 aa2) 10):=by
  show(E.w0.heap.push _)[E.w0.heap.size]? = _;rw[show af9 aa2=cEnts from rfl];simp
 refine⟨hdf.symm,rfl,fun t av ht=>?_,fun o=>trivial,fun o o' b _ hi=>hi.elim,⟨rfl,rfl,rfl,hg.size,fun b hb _=>hg.old b hb⟩,fun o u n0 hp=>by rw[hpin o]at hp;cases hp⟩;cases t with
 | zero=>
  simp at ht;subst ht;exact .d (cMap_rd ⟨.inr (.inr (Nat.le_refl _)),by show _<(E.w0.heap.push _).size;simp,fun o hi=>hi.elim⟩ hh)
 | succ t=>simp at ht
def opsK(O:Nat->List (ByteArray×Int)):AV:=.kmaps 10 (fun j=>(O (j ())).map (·.1)) fun j i=>.int .i64 fun _=>((O (j ())).getD (i ()) default).2
def aa7:Af Tryz.prog 137 [] [] (opsK opsL) []:=by
 refine⟨aco Tryz.func137 rfl rfl,fun E β vs hpin hdf hY h0=>?_⟩;obtain rfl:vs=#[]:=Array.eq_empty_of_size_eq_zero h0.size;refine(agt E.w0).mono fun e w' ⟨he,h,hw,hs,hold,h1,h2,h4,h5,h6,h7⟩=>⟨_,β,he,?_,fun o hi=>hi.elim⟩
 subst hw;refine⟨hdf.symm,rfl,fun t av ht=>?_,fun o=>trivial,fun o o' b _ hi=>hi.elim,⟨rfl,rfl,rfl,hs,fun b hb _=>hold b hb⟩,fun o u n0 hp=>by rw[hpin o]at hp;cases hp⟩;have hD:∀k es c,h[E.w0.heap.size+k]? = some (.map es c)->E.D { E.w0 with heap:=h } β (oL []) (E.w0.heap.size+k):=fun k es c hk=>
  ⟨.inr (.inr (show E.w0.heap.size<=_ by omega)),(Array.getElem?_eq_some_iff.1 hk).1,fun o hi=>hi.elim⟩
 cases t with
 | zero=>
  simp at ht;subst ht;refine .d (.kmaps _ _ _ _ rfl fun i v g=>?_);rcases i with _|_|_|_|_|_|_|_|_|_|i<;>simp at g<;>subst g
  ·exact .kmap0 _ _ rfl
  ·exact adN (l:=opsL 1) (hD 1 _ _ h1) h1
  ·exact adN (l:=opsL 2) (hD 2 _ _ h2) h2
  ·exact .kmap0 _ _ rfl
  ·exact adN (l:=opsL 4) (hD 3 _ _ h4) h4
  ·exact adN (l:=opsL 5) (hD 4 _ _ h5) h5
  ·exact adN (l:=opsL 6) (hD 5 _ _ h6) h6
  ·exact adN (l:=opsL 7) (hD 6 _ _ h7) h7
  ·exact .kmap0 _ _ rfl
  ·exact .kmap0 _ _ rfl
 | succ t=>simp at ht
def aqv:∃O,O=opsL∧Af Tryz.prog 137 [] [] (opsK O) []:=⟨_,rfl,aa7⟩
def abp(s:St):Af Tryz.prog 52 [.ptr 1000 0] [(1000,boxS fun _=>s)] (.bool fun _=>s.e != 0) [(1000,boxS fun _=>s)]:=by
 have h1:=ana s
 (refine fB [.tmp 2] kp52 [(1,[(1,.tup [.int .i64 fun _=>s.line,.int .i64 fun _=>s.col,.int .i64 fun _=>s.e],zS s)])] Tryz.func52 fun _=>?_;repeat' with_reducible first|exact⟨⟩|refine mA ?_ ?_|refine mC (fun _=>?_) fun _=>?_)
def abq(r:Rd):Af Tryz.prog 68 [.ptr 1000 0] [(1000,boxR r),(1001000000,boxS fun _=>r.s)] (.bool fun _=>r.bad) [(1000,boxR r),(1001000000,boxS fun _=>r.s)]:=by
 have h1:=ana r.s;unfold Rd.bad;generalize r.s=s at h1 ⊢
 (refine fB [.tmp 2] kp68 [(1,[(4,.tup [.int .i64 fun _=>s.line,.int .i64 fun _=>s.col,.int .i64 fun _=>s.e],zS s)])] Tryz.func68 fun _=>?_;repeat' with_reducible first|exact⟨⟩|refine mA ?_ ?_|refine mC (fun _=>?_) fun _=>?_)
def boxO(o:Int):AO:=.box [.ptr 1001000000 0,.int .i64 fun _=>o]
def aa0(r:Rd):boxR r=boxO r.o:=rfl
def agK(r:Rd)(ho : -1073741824<=r.o∧r.o<=1073741824):Af Tryz.prog 233 [.ptr 1000 0] [(1000,boxR r),(1001000000,boxS fun _=>r.s)] (.tup []) [(1000,boxR r.enter),(1001000000,boxS fun _=>r.enter.s)]:=by
 have h1:=abE r.s 23;have h2:r.enter.o=r.o+1:=rfl;have h3:r.enter.s=if r.o=32 then r.s.fail 23 else r.s:=rfl;rw[aa0,aa0,h2,h3];clear h2 h3;generalize r.s.fail 23=f at h1 ⊢;generalize r.s=s at h1 ⊢;generalize r.o=o at ho ⊢;by_cases q:o=32
 ·rw[if_pos q];subst q
  (refine fB [] kp233 [(1,[(4,zT,zS f)])] Tryz.func233 fun _=>?_;repeat' with_reducible first|exact⟨⟩|refine mA ?_ ?_|refine mC (fun _=>?_) fun _=>?_)
 ·rw[if_neg q];obtain⟨o1,h2⟩:∃o1,o1=o+1:=⟨_,rfl⟩
  rw[<- h2]
  (refine fA [] kp233 [] Tryz.func233 fun _=>?_;repeat' with_reducible first|exact⟨⟩|refine mA ?_ ?_|refine mC (fun _=>?_) fun _=>?_)
  all_goals(try(exact absurd ‹o=32› q))
  (all_goals try first|exact eZ|(refine qC ?_;repeat' with_reducible first|exact⟨⟩|refine mA ?_ ?_))
  all_goals(rw[w64 (by omega) (by omega),h2])
def ady(r:Rd)(ho : -1073741824<=r.o∧r.o<=1073741824)(hl:r.s.l.length<=1073741824):Af Tryz.prog 273 [.ptr 1000 0] [(1000,boxR r),(1001000000,boxS fun _=>r.s)] (.tup []) [(1000,boxR r.close),(1001000000,boxS fun _=>r.close.s)]:=by
 have h1:=abZ r.s ⟨#[41]⟩ hl;have h2:r.close.o=r.o-1:=rfl;have h3:r.close.s=r.s.expect ⟨#[41]⟩:=rfl;rw[aa0,aa0,h2,h3];clear h2 h3;generalize r.s.expect ⟨#[41]⟩=f at h1 ⊢;generalize r.s=s at h1 ⊢;generalize r.o=o at ho ⊢;obtain⟨o1,h2⟩:∃o1,o1=o-1:=⟨_,rfl⟩
 rw[<- h2]
 (refine fB [] kp273 [(0,[(4,zT,zS f)])] Tryz.func273 fun _=>?_;repeat' with_reducible first|exact⟨⟩|refine mA ?_ ?_|refine mC (fun _=>?_) fun _=>?_)
 all_goals(rw[w64 (by omega) (by omega),h2])
def ael(r:Rd)(ho : -1073741824<=r.o∧r.o<=1073741824)(hl:r.s.l.length<=1073741824):Af Tryz.prog 271 [.ptr 1000 0] [(1000,boxR r),(1001000000,boxS fun _=>r.s)] (.tup []) [(1000,boxR r.paren),(1001000000,boxS fun _=>r.paren.s)]:=by
 have h0:=aef r.s ⟨#[40]⟩;cases q:r.s.isT ⟨#[40]⟩with
 | true=>
  rw[q]at h0;have h1:=agK r ho;have h2:r.paren.o=r.enter.o:=by unfold Rd.paren;rw[if_pos q];rfl
  have h3:r.paren.s=r.enter.s.expect ⟨#[40]⟩:=by unfold Rd.paren;rw[if_pos q];rfl
  have hl2:r.enter.s.l.length<=1073741824:=by
   show(if r.o=32 then r.s.fail 23 else r.s).l.length<=_;split
   ·rw[afW];exact hl
   ·exact hl
  have h4:=abZ r.enter.s ⟨#[40]⟩ hl2;rw[aa0,aa0,h2,h3];rw[aa0,aa0]at h1;clear h2 h3 hl2;generalize r.enter.s.expect ⟨#[40]⟩=f at h4 ⊢;generalize r.enter.s=s' at h4 h1 ⊢;generalize r.enter.o=o' at h1 ⊢;generalize r.s=s at h0 h1 ⊢;generalize r.o=o at h1 ⊢
  (refine fB [] kp271 [(0,[(4,zO true,zS s)]),(1,[(1,zT,[(1000,boxO o'),(1001000000,boxS fun _=>s')])]),(2,[(4,zT,zS f)])] Tryz.func271 fun _=>?_;repeat' with_reducible first|exact⟨⟩|refine mA ?_ ?_|refine mC (fun _=>?_) fun _=>?_)
 | false=>
  rw[q]at h0;have h2:r.paren.o=r.o:=by unfold Rd.paren;rw[if_neg (by rw[q];simp)];rfl
  have h3:r.paren.s=r.s.expect ⟨#[40]⟩:=by unfold Rd.paren;rw[if_neg (by rw[q];simp)];rfl
  have h4:=abZ r.s ⟨#[40]⟩ hl;rw[aa0,aa0,h2,h3];clear h2 h3;generalize r.s.expect ⟨#[40]⟩=f at h4 ⊢;generalize r.s=s at h0 h4 ⊢;generalize r.o=o
  (refine fB [] kp271 [(0,[(4,zO false,zS s)]),(2,[(4,zT,zS f)])] Tryz.func271 fun _=>?_;repeat' with_reducible first|exact⟨⟩|refine mA ?_ ?_|refine mC (fun _=>?_) fun _=>?_)
def op_no(r:Rd)(b:Int)(h:r.s.peek.kind≠1∧r.s.peek.kind≠5):Af Tryz.prog 184 [.ptr 1000 0,.int .i64 fun _=>b] [(1000,boxR r),(1001000000,boxS fun _=>r.s)] (.tup [.int .i64 fun _=>0,.bool fun _=>false]) [(1000,boxR r),(1001000000,boxS fun _=>r.s)]:=by
 have h1:=aal r.s;generalize r.s.peek=p at h h1;generalize r.s=s at h1 ⊢
 (refine fA [.tmp 4,.tmp 5] adO [(1,[(4,zK p,zS s)])] Tryz.func184 fun _=>?_;repeat' with_reducible first|exact⟨⟩|refine mA ?_ ?_|refine mC (fun _=>?_) fun _=>?_)
 all_goals(try exact zB)
 all_goals(try(exact absurd ‹p.kind=1∨p.kind=5› (by omega)))
 all_goals exact eZ
theorem aat{α:Type}(t:ByteArray):∀l:List (ByteArray×α),kHas (l.map Prod.fst) t=(ab5 t l).isSome
 | []=>rfl
 | (k,v)::r=>by
  unfold ab5;by_cases q:k=t
  ·rw[if_pos q];simp[kHas,q]
  ·rw[if_neg q,<- aat t r];simp[kHas,q]
theorem abh{α:Type}[Inhabited α](t:ByteArray):∀(l:List (ByteArray×α)) (v:α),ab5 t l=some v->(l.getD (kIdx (l.map Prod.fst) t) default).2=v
 | [],v,h=>by cases h
 | (k,u)::r,v,h=>by
  unfold ab5 at h;by_cases q:k=t
  ·rw[if_pos q]at h;cases h;simp[kIdx,q,List.findIdx_cons]
  ·rw[if_neg q]at h;have:=abh t r v h;rw[<- this];have e:kIdx (((k,u)::r).map Prod.fst) t=kIdx (r.map Prod.fst) t+1:=by simp[kIdx,q,List.findIdx_cons]
   rw[e];rfl
def isB(b:Nat):Prop:=b=1∨b=2∨b=4∨b=5∨b=6∨b=7
def op_some{r:Rd}{b:Nat}(hb:isB b)(hl:r.s.l.length<=1073741824){o:Int}(h:r.op b=some o):Af Tryz.prog 184 [.ptr 1000 0,.int .i64 fun _=>(b:Int)] [(1000,boxR r),(1001000000,boxS fun _=>r.s)] (.tup [.int .i64 fun _=>o,.bool fun _=>true]) [(1000,boxR r),(1001000000,boxS fun _=>r.s.next)]:=by
 have hb:b<10:=by unfold isB at hb;omega
 unfold Rd.op at h;split at h
 ·cases h
 ·rename_i q;have h1:=aal r.s;have h2:=aap r.s hl;obtain⟨O,hO,h3⟩:=aqv;have hk:=aat r.s.peek.text (opsL b);have hv:=abh r.s.peek.text (opsL b) o h;rw[h]at hk;rw[<- hO]at hk hv;clear h hO;generalize r.s.peek=p at*;generalize r.s.next=n at*;generalize r.s=s at*
  (apply Af.of tF mF [.tmp 4,.tmp 5] adO [(1,[(4,zK p,zS s)]),(4,[(0,opsK O,[])]),(6,[(4,zK p,zS n)])] Tryz.func184 (fun _=>?_);(repeat' with_reducible first|exact nY|refine oC ?_ ?_|refine vQ ?_ ?_ ?_|refine cV (fun _=>?_) fun _=>?_|refine wQ ?_|fail))
  all_goals(try simp only[Int.toNat_natCast]at*)
  all_goals(try exact zB)
  all_goals(try(exact absurd ‹¬p.kind=1∧¬p.kind=5› q))
  all_goals(try(exact absurd (hk.symm.trans ‹kHas _ p.text=false›) (by simp)))
  (all_goals try first|exact eZ|with_reducible (refine rQ ?_;repeat' first|apply And.intro|exact wZ)|(refine sQ ?_;repeat' first|with_reducible apply And.intro|exact cZ))
  all_goals(exact(if_pos hk).trans hv)
def op_none{r:Rd}{b:Nat}(hb:isB b)(hl:r.s.l.length<=1073741824)(h:r.op b=none):Af Tryz.prog 184 [.ptr 1000 0,.int .i64 fun _=>(b:Int)] [(1000,boxR r),(1001000000,boxS fun _=>r.s)] (.tup [.int .i64 fun _=>0,.bool fun _=>false]) [(1000,boxR r),(1001000000,boxS fun _=>r.s)]:=by
 have hb:b<10:=by unfold isB at hb;omega
 unfold Rd.op at h;split at h
 ·rename_i q;exact op_no r b q
 ·rename_i q;have h1:=aal r.s;have h2:=aap r.s hl;obtain⟨O,hO,h3⟩:=aqv;have hk:=aat r.s.peek.text (opsL b);rw[h]at hk;rw[<- hO]at hk;clear h hO;generalize r.s.peek=p at*;generalize r.s.next=n at*;generalize r.s=s at*
  (apply Af.of tF mF [.tmp 4,.tmp 5] adO [(1,[(4,zK p,zS s)]),(4,[(0,opsK O,[])]),(6,[(4,zK p,zS n)])] Tryz.func184 (fun _=>?_);(repeat' with_reducible first|exact nY|refine oC ?_ ?_|refine vQ ?_ ?_ ?_|refine cV (fun _=>?_) fun _=>?_|refine wQ ?_|fail))
  all_goals(try simp only[Int.toNat_natCast]at*)
  all_goals(try exact zB)
  all_goals(try(exact absurd ‹¬p.kind=1∧¬p.kind=5› q))
  all_goals(try(exact absurd (hk.symm.trans ‹kHas _ p.text=true›) (by simp)))
  (all_goals try first|exact eZ|with_reducible (refine rQ ?_;repeat' first|apply And.intro|exact wZ)|(refine sQ ?_;repeat' first|with_reducible apply And.intro|exact cZ))
  all_goals(exact if_neg (fun q=>absurd (q.symm.trans hk) (by simp)))
end Go.Ai
