/- Tactics that walk code with the abstract machine. -/
import Derived.Test.YtbagpkiomjlhkaaGreatDoorEngB
import Derived.KernelRfl
import Derived.RangeFuncSeq
set_option linter.all false
namespace Go.Ai
open Go
def nc(n:Nat):@NatCast.natCast Int instNatCastInt n=(n:Int):=rfl
def if_or(c x:Bool):(if c=true then true else x)=(c||x):=by cases c<;>rfl
def if_and(c x:Bool):(if c=true then x else false)=(c&&x):=by cases c<;>rfl
def aN:(∀c∈([]:List (Unit->Prop)),c ())↔True:=by simp
def aC{c:Unit->Prop}{l:List (Unit->Prop)}:(∀x∈c::l,x ())↔c ()∧∀x∈l,x ():=by simp
def kN{ob:Option (Unit->Bool)×CallOb->Prop}:(∀c∈([]:List (Option (Unit->Bool)×CallOb)),ob c)↔True:=by simp
def kC{ob:Option (Unit->Bool)×CallOb->Prop}{c:Option (Unit->Bool)×CallOb}{l:List (Option (Unit->Bool)×CallOb)}:(∀x∈c::l,ob x)↔ob c∧∀x∈l,ob x:=by simp
def headT:Code->List Nat
 | .seq a _=>headT a
 | .cond (.tmp t) _ _=>[t]
 | .block _ b=>headT b
 | .loop b=>headT b
 | _=>[]
def agB(n:Nat)(ex:List Nat):Nat->List AV->List AV
 | _,[]=>[]
 | i,v::r=>(if decide (i<n)||ex.contains i then v else .any)::agB n ex (i+1) r
def AS.keep(S:AS)(n:Nat)(ex:List Nat):AS:=⟨agB n ex 0 S.tmps,S.objs⟩
theorem ads(n:Nat)(ex:List Nat):∀(l:List AV) (i j:Nat),(agB n ex i l).length=l.length∧∀v,(agB n ex i l)[j]? = some v->v=.any∨l[j]? = some v
 | [],i,j=>by simp[agB]
 | a::r,i,0=>by
  obtain⟨h1,_⟩:=ads n ex r (i+1) 0;refine⟨by simp[agB,h1],fun v hv=>?_⟩;simp only[agB,List.getElem?_cons_zero,Option.some.injEq]at hv;split at hv
  ·exact .inr (by simp[hv])
  ·exact .inl hv.symm
 | a::r,i,j+1=>by
  obtain⟨h1,h2⟩:=ads n ex r (i+1) j;exact⟨by simp[agB,h1],fun v hv=>by simpa using h2 v (by simpa[agB]using hv)⟩
def alp(S:AS)(n:Nat)(ex:List Nat):Weak S (S.keep n ex):=by
 intro E a w ⟨β,h⟩;refine⟨β,h.defers,by rw[h.size];exact(ads n ex S.tmps 0 0).1.symm,fun t av ht=>?_,h.objs,h.apart,h.frame,h.pin⟩;rcases(ads n ex S.tmps 0 t).2 av ht with rfl|h2
 ·exact .d (.any _)
 ·exact h.tmps t av h2
def ajE(ob:Option (Unit->Bool)×CallOb->Prop)(T:List (Nat×TI))(orc:Orc)(draw:Bool)(ops:Array Oper)(S:AS)(n:Nat)(ex:List Nat)(K:AS->Prop):Prop:=
 match aops T orc ops 0 ops.toList S with
 | none=>False
 | some ⟨S',conds,calls,logs⟩=>match S'.keep n ex with
  | ⟨t,o⟩=>VC (if draw then acS S (aif true ops.toList) logs&&abQ 0 ops.toList else agv S [] logs) conds calls ob (K ⟨t,o⟩)
section
variable {ro:Option Nat}{P:Program}{E:Env}{K:Exit->Env->AS->Prop}{S:AS}
def AWp.aaf{T:List (Nat×TI)}(hT:TOk P T)(hm:P.follows .mixedOrders=true)(n:Nat)(ex:List Nat)(orc:Orc){id:Nat}{draw:Bool}{ops:Array Oper}{y:Code}
 (h:∀(ob:Option (Unit->Bool)×CallOb->Prop) (K':AS->Prop),(∀c,CallOb.ok P c->ob c)->(∀S',AWp ro P E y K S'->K' S')->ajE ob T orc draw ops S n (ex++headT y) K'):
 AWp ro P E (.seq (.region id ops draw) y) K S:=by
 refine .seq (.region hT hm orc (fun ob K' hob hK=>?_));have:=h ob (fun S'=>∀S0,Weak S0 S'->K' S0) hob (fun S' hS S0 hw=>hK S0 (AWp.weak hw hS));unfold ajE at this;unfold adl;cases hq:aops T orc ops 0 ops.toList S with
 | none=>rw[hq]at this;exact this.elim
 | some o=>
  rw[hq]at this;exact⟨this.ok,this.conds,this.calls,this.next _ (alp _ n _)⟩
def tN{n:Env->AS->Prop}(h:n E S):adh n K .normal E S:=h
def aah{n:Env->AS->Prop}{i:Nat}(h:K (.exit i) E S):adh n K (.exit i) E S:=h
def aas{n:Env->AS->Prop}(h:K .ret E S):adh n K .ret E S:=h
def bH{i:Nat}(h:K .normal E S):acV i K (.exit i) E S:=by simp[acV,h]
def bM{i j:Nat}(hne:(i==j)=false)(h:K (.exit i) E S):acV j K (.exit i) E S:=by
 have:i≠j:=by simpa using hne
 simp[acV,this,h]
def bN{i:Nat}(h:K .normal E S):acV i K .normal E S:=h
def aai{i:Nat}(h:K .ret E S):acV i K .ret E S:=h
def aaD{T:List (Nat×TI)}{rs:List ResultVar}{res:AV}{objs:List (Nat×AO)}(h:alV T rs res objs S):retK T rs res objs .ret E S:=ajB h
def rN{T:List (Nat×TI)}{rs:List ResultVar}{res:AV}{objs:List (Nat×AO)}(h:alV T rs res objs S):retK T rs res objs .normal E S:=ajB h
end
def pT{c:Bool}:c=true->(c==true)=true:=by simp
def pF{c:Bool}:c=false->(c==false)=true:=by simp
def acW{ro:Option Nat}{P:Program}{E:Env}{y:Code}{K:Exit->Env->AS->Prop}{ob:Option (Unit->Bool)×CallOb->Prop}{K':AS->Prop}{S:AS}{conds:List (Unit->Prop)}{calls:List (Option (Unit->Bool)×CallOb)}
 (hob:∀c,CallOb.ok P c->ob c) (hK:∀S',AWp ro P E y K S'->K' S') (hn:AWp ro P E y K S) (hcl:∀c∈calls,CallOb.ok P c) (hc:∀c∈conds,c ()):VC true conds calls ob (K' S):=
 ⟨rfl,hc,fun c h=>hob c (hcl c h),hK _ hn⟩
def aby{P:Program}{E:Env}{K:Exit->Env->AS->Prop}{ob:Option (Unit->Bool)×CallOb->Prop}{K':AS->Prop}{S:AS}{conds:List (Unit->Prop)}{calls:List (Option (Unit->Bool)×CallOb)}
 (hob:∀c,CallOb.ok P c->ob c) (hK:∀S',K .normal E S'->K' S') (hn:K .normal E S) (hcl:∀c∈calls,CallOb.ok P c) (hc:∀c∈conds,c ()):VC true conds calls ob (K' S):=
 ⟨rfl,hc,fun c h=>hob c (hcl c h),hK _ hn⟩
def ai7{P:Program}{c:CallOb}(h:Af P c.f c.args c.objs c.res c.objs'):CallOb.ok P (none,c):=fun _=>h
def anq{P:Program}{c:CallOb}{g:Unit->Bool}(h:g ()=true->Af P c.f c.args c.objs c.res c.objs'):CallOb.ok P (some g,c):=fun hg=>h (hg g rfl)
def cat_le{n:Unit->Nat}{m:Nat}{f g F:(Unit->Nat)->List AV}(h1:∀k,k<n ()->LeL (f fun _=>k) (F fun _=>k))(h2:∀k,k<m->LeL (g fun _=>k) (F fun _=>n ()+k)):∀k,k<n ()+m->LeL (catF n f g fun _=>k) (F fun _=>k):=by
 intro k hk;unfold catF;by_cases h:k<n ()
 ·simp only[h,if_true];exact h1 k h
 ·simp only[h,if_false];have:=h2 (k-n ()) (by omega);rw[show n ()+(k-n ())=k by omega]at this;exact this
def mkT:Nat->List (Nat×AV)->List AV
 | 0,_=>[]
 | n+1,l=>mkT n l++[((l.find? fun p=>p.1==n).map (·.2)).getD .any]
def mkS(n:Nat)(l:List (Nat×AV))(objs:List (Nat×AO)):AS:=⟨mkT n l,objs⟩
structure Keep(Y:Nat->Prop)(w w':World):Prop where
 os:w'.os=w.os
 tape:w'.tape=w.tape
 output:w'.output=w.output
 size:w.heap.size<=w'.heap.size
 blk:∀b,b<w.heap.size->¬Y b->w'.heap[b]? = w.heap[b]?
def Keep.refl(Y:Nat->Prop)(w:World):Keep Y w w:=⟨rfl,rfl,rfl,Nat.le_refl _,fun _ _ _=>rfl⟩
def Keep.trans{Y:Nat->Prop}{w w' w'':World}(h:Keep Y w w')(g:Keep Y w' w''):Keep Y w w'':=
 ⟨g.os.trans h.os,g.tape.trans h.tape,g.output.trans h.output,Nat.le_trans h.size g.size,fun b hb hy=>(g.blk b (Nat.lt_of_lt_of_le hb h.size) hy).trans (h.blk b hb hy)⟩
structure Same(N:Nat)(w w':World):Prop where
 os:w'.os=w.os
 tape:w'.tape=w.tape
 output:w'.output=w.output
 size:w.heap.size<=w'.heap.size
 blk:∀b,b<N->w'.heap[b]? = w.heap[b]?
structure Proto(P:Program) where
 l:Nat
 Y:Nat->Prop
 N:Nat
 B:Nat
 all:List (List AV)
 J:List (List AV)->World->Prop
 Jx:List (List AV)->World->Prop
 hY:∀b,Y b->b<N
 hJ:∀g w,J g w->N<=w.heap.size
 hT:∀g w,J g w->Tabs w∧∀b,akY b->¬Y b
 ab:∀g w w',J g w->Same N w w'->J g w'
 abx:∀g w w',Jx g w->Same N w w'->Jx g w'
 yld:∀g el (vs:Array Value) w,J g w->(g++[el]) <+: all->el.length=vs.size->(∀(j:Nat) (av:AV) (v:Value),el[j]? = some av->vs[j]? = some v->RD w (fun b=>b<w.heap.size∧¬Y b) B av v) ->
  YieldAt (FW none) 0 P l vs w fun e w'=>Keep Y w w'∧((e=.returned (.bool true)∧J (g++[el]) w')∨(e=.returned (.bool false)∧Jx (g++[el]) w'))
structure Proto.At{P:Program}(p:Proto P)(E:Env):Prop where
 y:E.Y=p.Y
 base:p.B<=E.B
 size:p.N<=E.N
 x:∀b,b<p.N->¬E.X b
section
variable {P:Program}{p:Proto P}{E E':Env}{tmps:List AV}{H:Nat->AO}{a:Act}{w w':World}{β:Nat->Value}
def Proto.At.ext(h:p.At E)(hE:Ext E E'):p.At E':=
 ⟨hE.y.trans h.y,Nat.le_trans h.base hE.base,Nat.le_trans h.size hE.size,fun b hb hx=>(hE.x b hx).elim (h.x b hb) fun hq=>by have:=h.size;omega⟩
def Proto.At.same(h:p.At E)(hf:E.Frame w):Same p.N E.w0 w:=
 ⟨hf.os,hf.tape,hf.output,hf.size,fun b hb=>hf.block b (Nat.lt_of_lt_of_le hb h.size) (h.x b hb)⟩
def noY(E:Env){b:Nat}(h:E.own b):¬E.Y b:=fun hy=>h.elim (E.hY b hy).2.2 fun hn=>by have:=(E.hY b hy).1;exact absurd this (Nat.not_lt.2 hn)
def amC{b:Nat}(h:E.D w β H b):¬E.Y b:=fun hy=>by
 rcases h.1 with q|q|q
 ·exact(E.hY b hy).2.1 q
 ·exact(E.hY b hy).2.2 q
 ·exact absurd (E.hY b hy).1 (Nat.not_lt.2 q)
def rebase(h:RelB E tmps H a w β)(hk:Keep E.Y w w'):∃E',E'.w0=w'∧Ext E E'∧E'.df=E.df∧RelB E' tmps H a w' β:=by
 have hown:∀b,(∃o,(H o).is∧aa9 (β o)=some b)->b<w.heap.size∧E.own b:=fun b ⟨o,hi,hb⟩=>(h.objs o).lt hb hi
 let E':Env:={
  w0:=w'
  B:=E.B
  D0:=fun b=>E.D w β H b
  X:=fun b=>∃o,(H o).is∧aa9 (β o)=some b
  pin:=E.pin
  hpin:=E.hpin
  Y:=E.Y
  df:=E.df
  hB:=Nat.le_trans E.hB (Nat.le_trans h.frame.size hk.size)
  hD:=fun b hb=>⟨Nat.lt_of_lt_of_le hb.2.1 hk.size,fun⟨o,hi,hq⟩=>hb.2.2 o hi hq⟩
  hX:=fun b hb=>Nat.lt_of_lt_of_le (hown b hb).1 hk.size
  hY:=fun b hy=>⟨Nat.lt_of_lt_of_le (E.hY b hy).1 (Nat.le_trans h.frame.size hk.size),fun hd=>amC hd hy,fun hx=>noY E (hown b hx).2 hy⟩
  hdf:=fun d hd=>by
   obtain⟨b,rfl,hx,hy,hh⟩:=E.hdf d hd;have hbl:b<E.N:=(Array.getElem?_eq_some_iff.1 hh).1;refine⟨b,rfl,fun hq=>?_,hy,?_⟩
   ·exact(hown b hq).2.elim hx fun q=>by omega
   ·rw[hk.blk b (Nat.lt_of_lt_of_le hbl h.frame.size) hy,h.frame.block b hbl hx];exact hh
  ndf:=E.ndf
  hT:=afv h.tab fun b hb=>hk.blk b (h.dIn (E.hTD b hb)).2.1 fun hy=>(E.hY b hy).2.1 (E.hTD b hb)
  hTD:=fun b hb=>h.dIn (E.hTD b hb) }
 have hDD:∀b,E.D w β H b->E'.D w' β H b:=fun b hb=>⟨.inl hb,Nat.lt_of_lt_of_le hb.2.1 hk.size,hb.2.2⟩
 have hrd:∀av v,RD w (E.D w β H) E.B av v->RD w' (E'.D w' β H) E'.B av v:=fun av v q=>q.mono (fun b hb=>hk.blk b hb.2.1 (amC hb)) hDD (Nat.le_refl _);have hrx:∀av v,RX w (E.D w β H) E.B β H av v->RX w' (E'.D w' β H) E'.B β H av v:=fun av v q=>
  q.map hrd (fun o off v q=>by obtain⟨b,h1,rfl⟩:=q.aa6;exact .ptr _ _ b h1) (fun o ver n v q=>by obtain⟨h1,h2⟩:=q.aI;exact .aref _ _ _ _ h1 h2) (fun o sz ver n i off v q=>by obtain⟨h1,h2,h3⟩:=q.aaF;exact .aptr _ _ _ _ _ _ _ h1 h2 h3)
 refine⟨E',rfl,⟨Nat.le_refl _,rfl,rfl,hk.os.trans h.frame.os,hk.tape.trans h.frame.tape,hk.output.trans h.frame.output,Nat.le_trans h.frame.size hk.size,fun b hb=>(hown b hb).2,fun b hb=>hb.1,fun b hb hx hy=>?_,fun b hb=>.inl hb⟩,rfl,
  ⟨h.defers,h.size,fun t av ht=>hrx _ _ (h.tmps t av ht),fun o=>?_,h.apart,⟨rfl,rfl,rfl,Nat.le_refl _,fun _ _ _=>rfl⟩,h.pin⟩⟩
 ·rw[hk.blk b (Nat.lt_of_lt_of_le hb h.frame.size) hy];exact h.frame.block b hb hx
 ·have ho:=h.objs o;cases hq:H o with
  | none=>trivial
  | box cs=>
   rw[hq]at ho;obtain⟨b,vs,ty,h1,h2,h3,h4,h5,h6⟩:=ho;exact⟨b,vs,ty,h1,by rw[hk.blk b (Array.getElem?_eq_some_iff.1 h2).1 (noY E h3)];exact h2,.inl ⟨o,by rw[hq];trivial,by rw[h1];rfl⟩,h4,fun i av v g1 g2=>hrx _ _ (h5 i av v g1 g2),h6⟩
  | it ks f seen pend=>
   rw[hq]at ho;obtain⟨b,mb,sa,h1,h2,h3,h4,h5⟩:=ho;exact⟨b,mb,sa,h1,by rw[hk.blk b (Array.getElem?_eq_some_iff.1 h2).1 (noY E h3)];exact h2,.inl ⟨o,by rw[hq];trivial,by rw[h1];rfl⟩,h4.imp id fun⟨m,q1,q2⟩=>⟨m,q1,hrd _ _ q2⟩,h5⟩
  | arr x t sz ver n f=>
   rw[hq]at ho;rcases ho with h1|⟨g,cap,cur,h1,h2,h3,h4,h5,h6,h7,h8⟩
   ·exact .inl h1
   ·exact .inr ⟨g,cap,cur,h1,by rw[hk.blk g (Array.getElem?_eq_some_iff.1 h2).1 (noY E h7)];exact h2,h3,h4,h5,h6,.inl ⟨o,by rw[hq];trivial,by rw[h1];rfl⟩,fun i hi=>⟨(h8 i hi).1,(h8 i hi).2.1,fun j av v g1 g2=>hrd _ _ ((h8 i hi).2.2 j av v g1 g2)⟩⟩
end
def aaG(ro:Option Nat)(P:Program)(E:Env)(ops:Array Oper)(i n:Nat)(K:Exit->Env->AS->Prop)(S:AS):Prop:=
 ∀a w,Rel E S a w->wpOpsIn (FW ro) 0 P ops (fun e a' w'=>∃E' S',Ext E E'∧K e E' S'∧Rel E' S' a' w') (List.range' i n) a w
section
variable {ro:Option Nat}{P:Program}{E:Env}{K:Exit->Env->AS->Prop}{S:AS}{ops:Array Oper}
def AWp.amr{id:Nat}(h:aaG ro P E ops 0 ops.size K S):AWp ro P E (.region id ops false) K S:=fun a w hr=>by
 refine wpIn_region ?_;rw[List.range_eq_range'];exact h a w hr
def aaG.done{i:Nat}(h:K .normal E S):aaG ro P E ops i 0 K S:=fun a w hr=>⟨E,S,.refl E,h,hr⟩
def opVC(ob:Option (Unit->Bool)×CallOb->Prop)(T:List (Nat×TI))(orc:Orc)(ops:Array Oper)(i:Nat)(S:AS)(K:AS->Prop):Prop:=
 match ops.toList[i]? with
 | none=>False
 | some o=>match(opA T orc ops i o).run S with
  | none=>False
  | some ⟨(g,e),conds,_,_⟩=>match S.put (wtOf o e.dst) e.wo with
   | ⟨t,ob'⟩=>VC (e.new.all fun d=>S.aak d) conds (match e.call with|some c=>[(g,c)]|none=>[]) ob (K ⟨t,ob'⟩)
def abR{i n:Nat}{ob:Option (Unit->Bool)×CallOb->Prop}{K':AS->Prop}{S:AS}{conds:List (Unit->Prop)}{calls:List (Option (Unit->Bool)×CallOb)}
 (hob:∀c,CallOb.ok P c->ob c) (hK:∀S',aaG ro P E ops i n K S'->K' S') (hn:aaG ro P E ops i n K S) (hcl:∀c∈calls,CallOb.ok P c) (hc:∀c∈conds,c ()):VC true conds calls ob (K' S):=
 ⟨rfl,hc,fun c h=>hob c (hcl c h),hK _ hn⟩
def akk{F:Fence}{m:Nat}{o:Oper}{a:Act}{w:World}{K1 K2:Act->World->Prop}{Q1 Q2:Exit->Act->World->Prop}(hk:∀a w,K1 a w->K2 a w)(hq:∀e a w,Q1 e a w->Q2 e a w)
 (hh:o.wpIn F m P a w K1 Q1):o.wpIn F m P a w K2 Q2:=by
 have hl:LetsOut Q1->LetsOut Q2:=fun⟨a,w,h⟩=>⟨a,w,hq _ _ _ h⟩
 unfold Oper.wpIn at*;refine⟨hh.1,?_⟩;have hh:=hh.2;generalize (o.semAt F.round a.eval).run P w=r at*;cases r with
 | ok x w'=>
  cases x<;>simp only[Oper.uponIn]at hh ⊢ <;>
   first
    | exact hk _ _ hh
    | exact⟨hh.1,CallsIn.mono hh.2 (fun e w'' he=>by cases e<;>first|exact hk _ _ he|exact hq _ _ _ he|exact hl he)⟩
    | exact⟨hh.1,RowsIn.mono hh.2 (fun _ _ he=>hk _ _ he)⟩
    | exact⟨hh.1,RoundIn.mono hh.2 (fun e w'' he=>by cases e<;>first|exact hk _ _ he|exact hq _ _ _ he|exact hl he)⟩
 | halt x w'=>cases x<;>simp only[Oper.uponIn]at hh ⊢<;>first|exact hq _ _ _ hh|exact hh
theorem aaC{F:Fence}{m:Nat}{Q1 Q2:Exit->Act->World->Prop}(hq:∀e a w,Q1 e a w->Q2 e a w):∀(l:List Nat) (a:Act) (w:World),wpOpsIn F m P ops Q1 l a w->wpOpsIn F m P ops Q2 l a w
 | [],a,w,h=>hq _ _ _ h
 | i::r,a,w,h=>by
  rw[wpOpsIn_cons]at h ⊢;unfold wpOpIn at*;split
  ·rename_i ho;rw[ho]at h;exact aaC hq r a w h
  ·rename_i o ho;rw[ho]at h;simp only at h;split
   ·rename_i hw;rw[if_pos hw]at h;exact akk (fun a w h=>aaC hq r a w h) hq h
   ·rename_i hw;rw[if_neg hw]at h;exact⟨h.1,aaC hq r _ w h.2⟩
def aaG.op{T:List (Nat×TI)}(hT:TOk P T)(orc:Orc){i n:Nat}
 (h:∀(ob:Option (Unit->Bool)×CallOb->Prop) (K':AS->Prop),(∀c,CallOb.ok P c->ob c)->(∀S',aaG ro P E ops (i+1) n K S'->K' S')->opVC ob T orc ops i S K'):aaG ro P E ops i (n+1) K S:=by
 intro a w hr;have h:=h (CallOb.ok P) (fun S'=>aaG ro P E ops (i+1) n K S') (fun _ h=>h) (fun _ h=>h);unfold opVC at h;rw[List.range'_succ,wpOpsIn_cons];split at h
 ·exact h.elim
 ·rename_i o ho;split at h
  ·exact h.elim
  ·rename_i g e conds rt rob hrun;obtain⟨β,hb⟩:=hr;refine ahv hT hb (by simpa using ho) ⟨_,hrun,h.conds,rfl⟩ (fun k hk=>List.all_eq_true.1 h.ok k hk) (fun c hc=>h.calls (g,c) (by rw[hc];simp)) (fun v w' hr'=>?_);exact h.next _ _ hr'
def agL(S:AS)(o:Oper):Option (AV×List AV):=
 match o.op with
 | .call c=>match c.callee with
  | .value x=>match((opd none x).bind fun f=>(opds none c.args.toList).bind fun vs=>M.ret (f,vs)).run S with
   | some ⟨r,[],_,_⟩=>some r
   | _=>none
  | _=>none
 | _=>none
def adv{o:Oper}{fv:AV}{avs:List AV}(h:agL S o=some (fv,avs)){a:Act}{w:World}{β:Nat->Value}(hr:RelB E S.tmps S.obj a w β):
 ∃c x,o.op=.call c∧c.callee=.value x∧RX w (E.D w β S.obj) E.B β S.obj fv (a.eval x)∧avs.length=c.args.size ∧
  ∀(j:Nat) (av:AV) (v:Value),avs[j]? = some av->(c.args.map a.eval)[j]? = some v->RX w (E.D w β S.obj) E.B β S.obj av v:=by
 unfold agL at h;split at h
 ·rename_i c hc;split at h
  ·rename_i x hx;split at h
   ·rename_i r _ _ hrun;simp only[Option.some.injEq]at h;subst h;obtain⟨f,h1,h2⟩:=Yld.bind (S:=S) ⟨_,hrun,fun c hc=>by simp at hc,rfl⟩;obtain⟨vs,h3,h4⟩:=h2.bind;have:=h4.ret;simp only[Prod.mk.injEq]at this;obtain⟨rfl,rfl⟩:=this;obtain⟨q1,q2⟩:=abr hr (g:=none) (fun b hb=>by cases hb) h3;refine⟨c,x,hc,hx,oS hr (g:=none) (fun b hb=>by cases hb) h1,by simpa using q1,fun j av v hj hv=>?_⟩;simp only[Array.getElem?_map,Option.map_eq_some_iff]at hv;obtain⟨y,hy,rfl⟩:=hv;exact q2 j av y hj (by simpa using hy)
   ·cases h
  ·cases h
 ·cases h
def Fin(p:Proto P)(res:Bool->Value->Prop)(g seq:List (List AV))(w:World)(e:Ending)(w':World):Prop:=
 Keep p.Y w w'∧∃v,e=.returned v∧((res true v∧p.J (g++seq) w')∨(res false v∧∃pre,pre <+: seq∧p.Jx (g++pre) w'))
structure ISpec(P:Program)(f:FuncId)(args:Nat->List AV)(res:Bool->Value->Prop)(seq:List (List AV)):Prop where
 ent:Ent P f
 calls:∀(p:Proto P) (g:List (List AV)) (vs:Array Value) (w:World),p.J g w->(g++seq) <+: p.all->(args p.l).length=vs.size->p.B<=w.heap.size ->
  (∀(j:Nat) (av:AV) (v:Value),(args p.l)[j]? = some av->vs[j]? = some v->RD w (fun b=>b<w.heap.size∧¬p.Y b) p.B av v)->Calls P f vs w (Fin p res g seq w)
def isBool(b:Bool)(v:Value):Prop:=v=.bool b
def AS.setB(S:AS)(d:Option Tmp)(b:Bool):AS:=match d with|some d=>⟨S.tmps.set d (.bool fun _=>b),S.objs⟩|none=>S
def adu{p:Proto P}(hp:p.At E){a:Act}{w w':World}{β:Nat->Value}(hr:RelB E S.tmps S.obj a w β)(hk:Keep p.Y w w')(d:Option Tmp)(b:Bool):∃E',E'.w0=w'∧Ext E E'∧Rel E' (S.setB d b) (a.put d (.bool b)) w':=by
 obtain⟨E',h1,h2,h3,h4⟩:=rebase hr (by rw[hp.y];exact hk);refine⟨E',h1,h2,β,?_⟩;have:=RelB.put (S:=S) h4 (av:=.bool fun _=>b) (.d (.bool fun _=>b)) d;cases d with
 | none=>exact this
 | some d=>exact this
def aaG.yield{p:Proto P}(hp:p.At E){g:List (List AV)}(hJ:p.J g E.w0){i n:Nat}{o:Oper}(ho:ops[i]? = some o)(hg:o.guard=none){el el':List AV}(hx:agL S o=some (.val (.func (.yield p.l) #[] #[]),el'))
 (hel:LeL el' el) (hpure:AV.aae el'=true) (hall:(g++[el]) <+: p.all)
 (h1:∀E',Ext E E'->p.J (g++[el]) E'.w0->aaG ro P E' ops (i+1) n K (S.setB o.dst true)) (h2:∀E',Ext E E'->p.Jx (g++[el]) E'.w0->aaG ro P E' ops (i+1) n K (S.setB o.dst false)):
 aaG ro P E ops i (n+1) K S:=by
 intro a w ⟨β,hr⟩;rw[List.range'_succ,wpOpsIn_cons];unfold wpOpIn;rw[ho];simp only;rw[if_pos (by simp[Region.wanted,hg])];obtain⟨c,x,hc,hcal,hfx,hlen,hargs⟩:=adv hx hr;have hfv:=hfx.vI;have hD:∀b,E.D w β S.obj b->b<w.heap.size∧¬p.Y b:=fun b hb=>⟨hb.2.1,by rw[<- hp.y];exact amC hb⟩
 have hnd:∀c,o.op≠.defer c:=fun c' hc'=>by rw[hc]at hc';cases hc'
 have hlen2:el.length=(c.args.map a.eval).size:=by rw[<- hel.1];simpa using hlen
 obtain⟨fn,tmps,assign,body,hy,hround⟩:=p.yld g el (c.args.map a.eval) w (p.ab _ _ _ hJ (hp.same hr.frame)) hall hlen2 (fun j av v hj hv=>by
  have hlt:j<el'.length:=by rw[hel.1];exact(List.getElem?_eq_some_iff.1 hj).1
  have q:=hargs j _ v (List.getElem?_eq_getElem hlt) hv;have q2:=(q.pure (abU hpure j _ (List.getElem?_eq_getElem hlt))).mono (fun _ _=>rfl) hD hp.base;exact hel.2.2 _ _ _ j _ av v (List.getElem?_eq_getElem hlt) hj q2)
 refine⟨fun _ _=>trivial,?_⟩;rw[Oper.semAt_eq _ _ _ hnd];have hrun:(execOp a.eval o).run P w=.ok (.round p.l fn tmps assign body) w:=by
  simp only[execOp,hc,resolve,hcal,hfv,Deferred.ofValue];simpa[invoke]using hy
 rw[hrun,Oper.uponIn_round];refine⟨(fun h=>by cases h),?_⟩;have hcv:RoundIn (FW ro) 0 P p.l fn tmps assign body w=RoundIn (FW none) 0 P p.l fn tmps assign body w:=rfl;rw[hcv];refine hround.mono ?_;rintro e w' ⟨hk,hcase⟩;rcases hcase with⟨rfl,hj⟩|⟨rfl,hj⟩
 ·obtain⟨E',rfl,q2,q3⟩:=adu hp hr hk o.dst true;exact aaC (fun e a w ⟨E'',S',r1,r2⟩=>⟨E'',S',q2.trans r1,r2⟩) _ _ _ (h1 E' q2 hj _ _ q3)
 ·obtain⟨E',rfl,q2,q3⟩:=adu hp hr hk o.dst false;exact aaC (fun e a w ⟨E'',S',r1,r2⟩=>⟨E'',S',q2.trans r1,r2⟩) _ _ _ (h2 E' q2 hj _ _ q3)
def aaG.into{p:Proto P}(hp:p.At E){g:List (List AV)}(hJ:p.J g E.w0){i n:Nat}{o:Oper}(ho:ops[i]? = some o)(hg:o.guard=none){f:FuncId}{args':List AV}{args:Nat->List AV}{seq:List (List AV)}(hx:agL S o=some (.func f [],args'))
 (hspec:ISpec P f args isBool seq) (hall:(g++seq) <+: p.all) (hel:LeL args' (args p.l)) (hpure:AV.aae args'=true)
 (h1:∀E',Ext E E'->p.J (g++seq) E'.w0->aaG ro P E' ops (i+1) n K (S.setB o.dst true)) (h2:∀E',Ext E E'->(∃pre,pre <+: seq∧p.Jx (g++pre) E'.w0)->aaG ro P E' ops (i+1) n K (S.setB o.dst false)):
 aaG ro P E ops i (n+1) K S:=by
 intro a w ⟨β,hr⟩;rw[List.range'_succ,wpOpsIn_cons];unfold wpOpIn;rw[ho];simp only;rw[if_pos (by simp[Region.wanted,hg])];obtain⟨c,x,hc,hcal,hfx,hlen,hargs⟩:=adv hx hr;obtain⟨cv,hfv,hcl,_⟩:=hfx.abL;have hcv0:cv=#[]:=Array.eq_empty_of_size_eq_zero (by simpa using hcl.symm);subst hcv0;have hD:∀b,E.D w β S.obj b->b<w.heap.size∧¬p.Y b:=fun b hb=>⟨hb.2.1,by rw[<- hp.y];exact amC hb⟩
 have hnd:∀c,o.op≠.defer c:=fun c' hc'=>by rw[hc]at hc';cases hc'
 have hlen2:(args p.l).length=(c.args.map a.eval).size:=by rw[<- hel.1];simpa using hlen
 have hcalls:=hspec.calls p g (c.args.map a.eval) w (p.ab _ _ _ hJ (hp.same hr.frame)) hall hlen2 (Nat.le_trans hp.base hr.frame.base) (fun j av v hj hv=>by
  have hlt:j<args'.length:=by rw[hel.1];exact(List.getElem?_eq_some_iff.1 hj).1
  have q:=hargs j _ v (List.getElem?_eq_getElem hlt) hv;have q2:=(q.pure (abU hpure j _ (List.getElem?_eq_getElem hlt))).mono (fun _ _=>rfl) hD hp.base;exact hel.2.2 _ _ _ j _ av v (List.getElem?_eq_getElem hlt) hj q2)
 refine⟨fun _ _=>trivial,?_⟩;rw[Oper.semAt_eq _ _ _ hnd];have hrun:(execOp a.eval o).run P w=.ok (.enter f (c.args.map a.eval)) w:=by
  have:=hspec.ent (c.args.map a.eval) w;simp only[execOp,hc,resolve,hcal,hfv,Deferred.ofValue];simpa[invoke]using this
 rw[hrun,Oper.uponIn_enter];refine⟨(fun h=>by cases h),adA.2 (hcalls.mono ?_)⟩;rintro e w' ⟨hk,v,rfl,hcase⟩;rcases hcase with⟨rfl,hj⟩|⟨rfl,hj⟩
 ·obtain⟨E',rfl,q2,q3⟩:=adu hp hr hk o.dst true;exact aaC (fun e a w ⟨E'',S',r1,r2⟩=>⟨E'',S',q2.trans r1,r2⟩) _ _ _ (h1 E' q2 hj _ _ q3)
 ·obtain⟨E',rfl,q2,q3⟩:=adu hp hr hk o.dst false;exact aaC (fun e a w ⟨E'',S',r1,r2⟩=>⟨E'',S',q2.trans r1,r2⟩) _ _ _ (h2 E' q2 hj _ _ q3)
end
section
variable {P:Program}
def Outc(p:Proto P)(g seq:List (List AV))(w:World)(b:Bool):Prop:=(b=true∧p.J (g++seq) w)∨(b=false∧∃pre,pre <+: seq∧p.Jx (g++pre) w)
def Proto.env(p:Proto P)(g:List (List AV))(w:World)(hJ:p.J g w)(hB:p.B<=w.heap.size):Env where
 w0:=w
 B:=p.B
 D0:=fun b=>b<w.heap.size∧¬p.Y b
 X:=fun _=>False
 pin:=fun _=>none
 hpin:=fun o p h=>by cases h
 Y:=p.Y
 df:=[]
 hB:=hB
 hD:=fun b hb=>⟨hb.1,fun h=>h⟩
 hX:=fun b h=>h.elim
 hY:=fun b hb=>⟨Nat.lt_of_lt_of_le (p.hY b hb) (p.hJ _ _ hJ),fun h=>h.2 hb,fun h=>h⟩
 hdf:=fun d h=>by cases h
 ndf:=.nil
 hT:=(p.hT g w hJ).1
 hTD:=fun b hb=>⟨tab_lt (p.hT g w hJ).1 b hb,(p.hT g w hJ).2 b hb⟩
def afS {f : FuncId} {fn : Func} {c : Code} {args : Nat → List AV} {res : Bool → Value → Prop} {rv : Array Value → Value} {seq : List (List AV)} {K : (p : Proto P) → List (List AV) → Exit → Env → AS → Prop} (hf : P.funcs[f]? = some fn) (hname : (fn.name == "runtime.NumGoroutine") = false) (hb : fn.body = some c)
 (hr:∀tmps w,(results fn tmps).run P w=.ok (rv tmps) w)
 (hK:∀p g e E S a w,K p g e E S->Rel E S a w->(e=.normal∨e=.ret)∧∃b,res b (rv a.tmps)∧Outc p g seq E.w0 b)
 (h:∀(p:Proto P) (g:List (List AV)) (E:Env),p.At E->p.J g E.w0->(g++seq) <+: p.all->AWp none P E c (K p g) ⟨args p.l++List.replicate (fn.ntmps-(args p.l).length) .any,[]⟩):ISpec P f args res seq:=by
 refine⟨aco hf hname hb,fun p g vs w hJ hall hlen hB hargs=>?_⟩
 let E:=p.env g w hJ hB
 have hat:p.At E:=⟨rfl,Nat.le_refl _,p.hJ _ _ hJ,fun _ _ h=>h⟩
 have h1:RelB E (args p.l++List.replicate (fn.ntmps-(args p.l).length) .any) (oL []) { tmps:=vs++Array.replicate (fn.ntmps-vs.size) undef,defers:=[] } w (fun _=>undef):=by
  refine⟨rfl,by simp[hlen],fun t av ht=>?_,fun o=>trivial,fun o o' b _ h=>h.elim,⟨rfl,rfl,rfl,Nat.le_refl _,fun _ _ _=>rfl⟩,fun o v n0 hp=>by cases hp⟩;by_cases hlt:t<(args p.l).length
  ·rw[List.getElem?_append_left hlt]at ht;have h2:(vs++Array.replicate (fn.ntmps-vs.size) undef).getD t undef=vs.getD t undef:=by
    simp only[Array.getD_eq_getD_getElem?];rw[Array.getElem?_append_left (by rw[<- hlen];exact hlt)]
   rw[h2];have hlt2:t<vs.size:=by rw[<- hlen];exact hlt
   have q:=(hargs t av _ ht (Array.getElem?_eq_getElem hlt2)).mono (fun _ _=>rfl) (D':=E.D w (fun _=>undef) (oL [])) (fun b hb=>⟨.inl hb,hb.1,fun o h=>h.elim⟩) (Nat.le_refl _);refine .d ?_;have e:vs.getD t undef=vs[t]:=by simp[Array.getD,hlt2]
   rw[e];exact q
  ·rw[List.getElem?_append_right (Nat.le_of_not_lt hlt),List.getElem?_replicate]at ht;split at ht
   ·cases ht;exact .d (.any _)
   ·cases ht
 refine adA.1 (callsIn_of_wp_marks (F:=FW none) (n:=0) hf hb trivial (Go.wpIn_mono (h p g E hat hJ hall _ _ ⟨_,h1⟩) ?_));rintro e a' w' ⟨E2,S',hE,hk,hR0⟩;obtain⟨he,b,hres,hout⟩:=hK _ _ _ _ _ _ _ hk hR0;obtain⟨β1,hR⟩:=hR0;have hat2:=hat.ext hE;have hkeep:Keep p.Y w w':=by
  refine⟨hR.frame.os.trans hE.os,hR.frame.tape.trans hE.tape,hR.frame.output.trans hE.output,Nat.le_trans hE.size hR.frame.size,fun b hb hy=>?_⟩;rw[hR.frame.block b (Nat.lt_of_lt_of_le hb hE.size) (hE.nx hb (fun h=>h))];exact hE.keep b hb (fun h=>h) hy
 have hend:LeavesInM (FW none) 0 P fn a'.tmps (Fin p res g seq w) a'.defers .returning w':=by
  have hmarks:∀d∈a'.defers,∃b,d={ target:=.collected b,args:=#[] }∧E.N<=b∧w'.heap[b]? = some (.deferred (some [])):=by
   intro d hd;rw[hR.defers]at hd;obtain⟨b,rfl,hx,hy,hh⟩:=E2.hdf d hd;have hbl:b<E2.N:=(Array.getElem?_eq_some_iff.1 hh).1;refine⟨b,rfl,?_,by rw[hR.frame.block b hbl hx];exact hh⟩;rcases hE.df b hd with q|q
   ·cases q
   ·exact q
  have key:∀(df:List Deferred) (w2:World),(∀d∈df,∃b,d={ target:=.collected b,args:=#[] }∧E.N<=b∧w2.heap[b]? = some (.deferred (some [])))->df.Nodup->Keep p.Y w w2->Same p.N w' w2 ->
   LeavesInM (FW none) 0 P fn a'.tmps (Fin p res g seq w) df .returning w2:=by
   intro df
   induction df with
   | nil=>
    intro w2 _ _ hk2 hs2;refine⟨_,hr _ _,hk2,_,rfl,?_⟩;have hs3:Same p.N E2.w0 w2:=by
     have:=hat2.same hR.frame;exact⟨hs2.os.trans this.os,hs2.tape.trans this.tape,hs2.output.trans this.output,Nat.le_trans this.size hs2.size,fun b hb=>(hs2.blk b hb).trans (this.blk b hb)⟩
    rcases hout with⟨rfl,hj⟩|⟨rfl,pre,hpre,hj⟩
    ·exact .inl ⟨hres,p.ab _ _ _ hj hs3⟩
    ·exact .inr ⟨hres,pre,hpre,p.abx _ _ _ hj hs3⟩
   | cons d ds ih=>
    intro w2 hd hn hk2 hs2;obtain⟨b',rfl,hb',ho⟩:=hd d (List.mem_cons_self ..);refine⟨by simp,.inl ⟨b',w2.putObj b' (.deferred none),rfl,run_takeDeferred ho,?_⟩⟩;rw[List.nodup_cons]at hn;have hEN:E.N=w.heap.size:=rfl;have hpN:p.N<=E.N:=hat.size;have hk3:Keep p.Y w (w2.putObj b' (.deferred none)):=⟨hk2.os,hk2.tape,hk2.output,by simpa[World.putObj]using hk2.size,fun b hb hy=>by rw[World.putObj_heap_other (by omega)];exact hk2.blk b hb hy⟩
    have hs3:Same p.N w' (w2.putObj b' (.deferred none)):=⟨hs2.os,hs2.tape,hs2.output,by simpa[World.putObj]using hs2.size,fun b hb=>by rw[World.putObj_heap_other (by omega)];exact hs2.blk b hb⟩
    refine ih _ (fun d' hd'=>?_) hn.2 hk3 hs3;obtain⟨b'',rfl,hb'',ho'⟩:=hd d' (List.mem_cons_of_mem _ hd');refine⟨b'',rfl,hb'',?_⟩;rw[World.putObj_heap_other]
    ·exact ho'
    ·rintro rfl;exact hn.1 hd'
  exact key _ _ hmarks (by rw[hR.defers];exact E2.ndf) hkeep ⟨rfl,rfl,rfl,Nat.le_refl _,fun _ _=>rfl⟩
 rcases he with rfl|rfl
 ·exact hend
 ·exact hend
def iretK(t:Tmp)(seq:List (List AV))(p:Proto P)(g:List (List AV)):Exit->Env->AS->Prop
 | .normal,E,S|.ret,E,S=>∃b,S.tmp t=.bool b∧Outc p g seq E.w0 (b ())
 | _,_,_=>False
def aeS{t:Tmp}{seq:List (List AV)}{p:Proto P}{g:List (List AV)}{E:Env}{S:AS}{b:Unit->Bool}(hb:S.tmp t=.bool b)(h:Outc p g seq E.w0 (b ())):iretK t seq p g .ret E S:=⟨b,hb,h⟩
def iretK0(seq:List (List AV))(p:Proto P)(g:List (List AV)):Exit->Env->AS->Prop
 | .normal,E,_|.ret,E,_=>∃b,Outc p g seq E.w0 b
 | _,_,_=>False
def ispec_of {f : FuncId} {fn : Func} {c : Code} {args : Nat → List AV} {t : Tmp} {seq : List (List AV)} (hf : P.funcs[f]? = some fn) (hname : (fn.name == "runtime.NumGoroutine") = false) (hb : fn.body = some c) (hr : fn.results = #[.tmp t])
 (h:∀(p:Proto P) (g:List (List AV)) (E:Env),p.At E->p.J g E.w0->(g++seq) <+: p.all->AWp none P E c (iretK t seq p g) ⟨args p.l++List.replicate (fn.ntmps-(args p.l).length) .any,[]⟩):ISpec P f args isBool seq:=by
 refine afS (K:=iretK t seq) (rv:=fun tmps=>tmps.getD t undef) hf hname hb (fun tmps w=>results_tmp hr tmps P w) (fun p g e E S a w hk hR=>?_) h;obtain⟨β,hR⟩:=hR;have key:(∃b,S.tmp t=.bool b∧Outc p g seq E.w0 (b ()))->∃b,isBool b (a.tmps.getD t undef)∧Outc p g seq E.w0 b:=by
  rintro⟨b,hb,ho⟩;have:=hR.at t;rw[hb]at this;exact⟨b (),this.aao,ho⟩
 cases e with
 | normal=>exact⟨.inl rfl,key hk⟩
 | ret=>exact⟨.inr rfl,key hk⟩
 | exit id=>exact hk.elim
 | goto l=>exact hk.elim
 | panic ch=>exact hk.elim
 | outgrown=>exact hk.elim
def amX {f : FuncId} {fn : Func} {c : Code} {args : Nat → List AV} {seq : List (List AV)} (hf : P.funcs[f]? = some fn) (hname : (fn.name == "runtime.NumGoroutine") = false) (hb : fn.body = some c) (hr : fn.results = #[])
 (h:∀(p:Proto P) (g:List (List AV)) (E:Env),p.At E->p.J g E.w0->(g++seq) <+: p.all->AWp none P E c (iretK0 seq p g) ⟨args p.l++List.replicate (fn.ntmps-(args p.l).length) .any,[]⟩):ISpec P f args (fun _ _=>True) seq:=by
 refine afS (K:=iretK0 seq) (rv:=fun _=>.tuple #[]) hf hname hb (fun tmps w=>results_none hr tmps P w) (fun p g e E S a w hk hR=>?_) h;have key:(∃b,Outc p g seq E.w0 b)->∃b,True∧Outc p g seq E.w0 b:=fun⟨b,hb⟩=>⟨b,trivial,hb⟩
 cases e with
 | normal=>exact⟨.inl rfl,key hk⟩
 | ret=>exact⟨.inr rfl,key hk⟩
 | exit id=>exact hk.elim
 | goto l=>exact hk.elim
 | panic ch=>exact hk.elim
 | outgrown=>exact hk.elim
end
def AV.flat:AV->Bool
 | .int ..|.bool _|.str _|.nil|.nilf|.nilp|.func _ []=>true
 | _=>false
def FlatR(av:AV)(v:Value):Prop:=∀(w:World) (D:Nat->Prop) (B:Nat),RD w D B av v
def flat_of{w:World}{D:Nat->Prop}{B:Nat}{β:Nat->Value}{H:Nat->AO}{av:AV}{v:Value}(hf:av.flat=true)(h:RX w D B β H av v):FlatR av v:=by
 cases av with
 | int k n=>rw[h.aaq];exact fun _ _ _=>.int _ _
 | bool b=>rw[h.aao];exact fun _ _ _=>.bool _
 | str s=>rw[h.aaI];exact fun _ _ _=>.str _
 | nil=>rw[h.ab2];exact fun _ _ _=>.nil
 | nilf=>rw[h.aen];exact fun _ _ _=>.nilf
 | nilp=>cases h with|d h=>cases h;exact fun _ _ _=>.nilp
 | func fn cs=>
  cases cs with
  | nil=>
   obtain⟨vs,rfl,hl,_⟩:=h.abL;exact fun _ _ _=>.func _ _ _ hl fun i av v h=>by simp at h
  | cons a r=>simp[AV.flat]at hf
 | _=>simp[AV.flat]at hf
def acn:List (Nat×AO)->Bool
 | []=>true
 | (k,.box cs)::r=>decide (k<9000)&&cs.all AV.flat&&acn r
 | _::_=>false
def anO(W:World)(β:Nat->Value)(o:Nat):AO->Prop
 | .none=>True
 | .box cs=>∃b vs ty,β o=.pointer (some ⟨b,0,none⟩)∧W.heap[b]? = some (.cells vs ty (0,0))∧cs.length=vs.size∧(∀(i:Nat) (av:AV) (v:Value),cs[i]? = some av->vs[i]? = some v->FlatR av v)∧adZ cs ty
 | .arr ..=>False
 | .it ..=>False
theorem abY:∀{l:List (Nat×AO)} (_:acn l=true) {o:Nat},(oL l o).is->o<9000∧∃cs,oL l o=.box cs∧cs.all AV.flat=true
 | [],_,o,h=>by simp[oL,AO.is]at h
 | (k,.box cs)::r,hf,o,h=>by
  simp only[acn,Bool.and_eq_true,decide_eq_true_eq]at hf;simp only[oL]at h ⊢;by_cases e:k=o
  ·subst e;simp only[if_true];exact⟨hf.1.1,cs,rfl,hf.1.2⟩
  ·simp only[if_neg e]at h ⊢;exact abY hf.2 h
 | (k,.none)::r,hf,o,h=>by simp[acn]at hf
 | (k,.arr x t sz ver n f)::r,hf,o,h=>by simp[acn]at hf
 | (k,.it ks f s p)::r,hf,o,h=>by simp[acn]at hf
def renM(l:List (Nat×AO)):List (Nat×AO):=l.map fun p=>(1000+p.1,p.2)
theorem ab1:∀(l:List (Nat×AO)) (o:Nat),oL (renM l) o=if 1000<=o then oL l (o-1000)else .none
 | [],o=>by simp[renM,oL]
 | (k,ob)::r,o=>by
  have ih:=ab1 r o;simp only[renM,List.map_cons,oL]at ih ⊢;by_cases h:1000<=o
  ·simp only[h,if_true]at ih ⊢;by_cases e:k=o-1000
   ·simp[e,show 1000+(o-1000)=o by omega]
   ·simp[e,show¬(1000+k=o) by omega,ih]
  ·simp only[h,if_false]at ih ⊢;simp[show¬(1000+k=o) by omega,ih]
def afp:AV->AV
 | .ptr o off=>.ptr (1000+o) off
 | v=>if v.pure then v else .any
def adI:List Tmp->List AV->List AV->List AV
 | t::ts,v::vs,l=>adI ts vs (l.set t v)
 | _,_,l=>l
def rebaseY{E:Env}{tmps:List AV}{H:Nat->AO}{a:Act}{w w':World}{β:Nat->Value}(h:RelB E tmps H a w β){Y:Nat->Prop}(hdf:∀b,{ target:=.collected b,args:=#[] }∈E.df->¬Y b)(hY:∀b,Y b->¬E.D w β H b∧∀o,(H o).is->aa9 (β o)≠some b)
 (hk:Keep Y w w'):∃E',E'.w0=w'∧E'.B=E.B∧E'.pin=E.pin∧(∀b,E'.X b->E.own b)∧(∀b,¬E'.Y b)∧E'.df=E.df∧(∀b,E'.D0 b->E.D w β H b)∧RelB E' tmps H a w' β:=by
 have hown:∀b,(∃o,(H o).is∧aa9 (β o)=some b)->b<w.heap.size∧E.own b:=fun b ⟨o,hi,hb⟩=>(h.objs o).lt hb hi;have hnD:∀{b},E.D w β H b->¬Y b:=fun hb hy=>(hY _ hy).1 hb;have hnO:∀{o b},(H o).is->aa9 (β o)=some b->¬Y b:=fun hi hb hy=>(hY _ hy).2 _ hi hb
 let E':Env:={
  w0:=w'
  B:=E.B
  D0:=fun b=>E.D w β H b
  X:=fun b=>∃o,(H o).is∧aa9 (β o)=some b
  pin:=E.pin
  hpin:=E.hpin
  Y:=fun _=>False
  df:=E.df
  hB:=Nat.le_trans E.hB (Nat.le_trans h.frame.size hk.size)
  hD:=fun b hb=>⟨Nat.lt_of_lt_of_le hb.2.1 hk.size,fun⟨o,hi,hq⟩=>hb.2.2 o hi hq⟩
  hX:=fun b hb=>Nat.lt_of_lt_of_le (hown b hb).1 hk.size
  hY:=fun b hy=>hy.elim
  hdf:=fun d hd=>by
   obtain⟨b,rfl,hx,hy,hh⟩:=E.hdf d hd;have hbl:b<E.N:=(Array.getElem?_eq_some_iff.1 hh).1;refine⟨b,rfl,fun hq=>?_,fun h=>h,?_⟩
   ·exact(hown b hq).2.elim hx fun q=>by omega
   ·rw[hk.blk b (Nat.lt_of_lt_of_le hbl h.frame.size) (hdf b hd),h.frame.block b hbl hx];exact hh
  ndf:=E.ndf
  hT:=afv h.tab fun b hb=>hk.blk b (h.dIn (E.hTD b hb)).2.1 (hnD (h.dIn (E.hTD b hb)))
  hTD:=fun b hb=>h.dIn (E.hTD b hb) }
 have hDD:∀b,E.D w β H b->E'.D w' β H b:=fun b hb=>⟨.inl hb,Nat.lt_of_lt_of_le hb.2.1 hk.size,hb.2.2⟩
 have hrd:∀av v,RD w (E.D w β H) E.B av v->RD w' (E'.D w' β H) E'.B av v:=fun av v q=>q.mono (fun b hb=>hk.blk b hb.2.1 (hnD hb)) hDD (Nat.le_refl _);have hrx:∀av v,RX w (E.D w β H) E.B β H av v->RX w' (E'.D w' β H) E'.B β H av v:=fun av v q=>
  q.map hrd (fun o off v q=>by obtain⟨b,h1,rfl⟩:=q.aa6;exact .ptr _ _ b h1) (fun o ver n v q=>by obtain⟨h1,h2⟩:=q.aI;exact .aref _ _ _ _ h1 h2) (fun o sz ver n i off v q=>by obtain⟨h1,h2,h3⟩:=q.aaF;exact .aptr _ _ _ _ _ _ _ h1 h2 h3)
 refine⟨E',rfl,rfl,rfl,fun b hb=>(hown b hb).2,fun b hb=>hb,rfl,fun b hb=>hb,
  ⟨h.defers,h.size,fun t av ht=>hrx _ _ (h.tmps t av ht),fun o=>?_,h.apart,⟨rfl,rfl,rfl,Nat.le_refl _,fun _ _ _=>rfl⟩,h.pin⟩⟩
 have ho:=h.objs o;cases hq:H o with
 | none=>trivial
 | box cs=>
  rw[hq]at ho;obtain⟨b,vs,ty,h1,h2,h3,h4,h5,h6⟩:=ho;exact⟨b,vs,ty,h1,by rw[hk.blk b (Array.getElem?_eq_some_iff.1 h2).1 (hnO (by rw[hq];trivial) (by rw[h1];rfl))];exact h2,.inl ⟨o,by rw[hq];trivial,by rw[h1];rfl⟩,h4,fun i av v g1 g2=>hrx _ _ (h5 i av v g1 g2),h6⟩
 | it ks f seen pend=>
  rw[hq]at ho;obtain⟨b,mb,sa,h1,h2,h3,h4,h5⟩:=ho;exact⟨b,mb,sa,h1,by rw[hk.blk b (Array.getElem?_eq_some_iff.1 h2).1 (hnO (by rw[hq];trivial) (by rw[h1];rfl))];exact h2,.inl ⟨o,by rw[hq];trivial,by rw[h1];rfl⟩,h4.imp id fun⟨m,q1,q2⟩=>⟨m,q1,hrd _ _ q2⟩,h5⟩
 | arr x t sz ver n f=>
  rw[hq]at ho;rcases ho with h1|⟨g,cap,cur,h1,h2,h3,h4,h5,h6,h7,h8⟩
  ·exact .inl h1
  ·exact .inr ⟨g,cap,cur,h1,by rw[hk.blk g (Array.getElem?_eq_some_iff.1 h2).1 (hnO (by rw[hq];trivial) (by rw[h1];rfl))];exact h2,h3,h4,h5,h6,.inl ⟨o,by rw[hq];trivial,by rw[h1];rfl⟩,fun i hi=>⟨(h8 i hi).1,(h8 i hi).2.1,fun j av v g1 g2=>hrd _ _ ((h8 i hi).2.2 j av v g1 g2)⟩⟩
theorem ah9{R:AV->Value->Prop}:∀(ps:List Tmp) (el:List AV) (vs:List Value) (l:List AV) (tm:Array Value),el.length=vs.length->tm.size=l.length->(∀(j:Nat) (av:AV) (v:Value),el[j]? = some av->vs[j]? = some v->R av v) ->
 (∀(t:Nat) (av:AV),l[t]? = some av->R av (tm.getD t undef)) ->
 ((ps.zip vs).foldl (fun tmps (p:Tmp×Value)=>tmps.setIfInBounds p.1 p.2) tm).size=(adI ps el l).length∧∀(t:Nat) (av:AV),(adI ps el l)[t]? = some av->R av (((ps.zip vs).foldl (fun tmps (p:Tmp×Value)=>tmps.setIfInBounds p.1 p.2) tm).getD t undef)
 | [],el,vs,l,tm,_,hs,_,h=>by simp only[List.zip_nil_left,List.foldl_nil,adI];exact⟨hs,h⟩
 | p::ps,[],[],l,tm,_,hs,_,h=>by simp only[List.zip_nil_right,List.foldl_nil,adI];exact⟨hs,h⟩
 | p::ps,e::el,v::vs,l,tm,hl,hs,he,h=>by
  simp only[List.zip_cons_cons,List.foldl_cons,adI];refine ah9 ps el vs (l.set p e) (tm.setIfInBounds p v) (by simpa using hl) (by simp[hs]) (fun j av x h1 h2=>he (j+1) av x (by simpa using h1) (by simpa using h2)) (fun t av ht=>?_);rw[List.getElem?_set]at ht;split at ht
  ·rename_i e1;subst e1;split at ht
   ·rename_i hlt;cases ht;have:p<tm.size:=by rw[hs];exact hlt
    have:=he 0 e v rfl rfl;simpa[Array.getD,‹p<tm.size›]using this
   ·cases ht
  ·rename_i e1;have h2:(tm.setIfInBounds p v).getD t undef=tm.getD t undef:=by
    simp only[Array.getD_eq_getD_getElem?,Array.getElem?_setIfInBounds_ne e1]
   rw[h2];exact h t av ht
 | p::ps,[],v::vs,l,tm,hl,_,_,_=>by simp at hl
 | p::ps,e::el,[],l,tm,hl,_,_,_=>by simp at hl
def ajA(Inv:List (List AV)->Prop)(Inx:Exit->List (List AV)->Prop)(M:List (List AV)->List (Nat×AO))(Mx:Exit->List (List AV)->List (Nat×AO))(g:List (List AV)):Exit->Env->AS->Prop
 | .normal,_,S=>Inv g∧Weak ⟨[],S.objs⟩ ⟨[],renM (M g)⟩
 | .ret,_,S=>Inx .ret g∧Weak ⟨[],S.objs⟩ ⟨[],renM (Mx .ret g)⟩
 | .exit id,_,S=>Inx (.exit id) g∧Weak ⟨[],S.objs⟩ ⟨[],renM (Mx (.exit id) g)⟩
 | _,_,_=>False
def aaZ(W:World)(β:Nat->Value)(l:List (Nat×AO)):Prop:=∀o,anO W β o (oL l o)
def codeOf:Exit->Option Code
 | .ret=>some .ret
 | .exit id=>some (.exit id)
 | _=>none
def anO.mono{W W':World}{β:Nat->Value}{o:Nat}{ob:AO}(h:anO W β o ob)(hk:∀b,ob.is->aa9 (β o)=some b->W'.heap[b]? = W.heap[b]?):anO W' β o ob:=by
 cases ob with
 | none=>trivial
 | box cs=>
  obtain⟨b,vs,ty,h1,h2,h3⟩:=h;exact⟨b,vs,ty,h1,by rw[hk b trivial (by rw[h1];rfl)];exact h2,h3⟩
 | arr x t sz ver n f=>exact h.elim
 | it ks f s p=>exact h.elim
def aeW{E:Env}{tmps:List AV}{H:Nat->AO}{a:Act}{w:World}{β:Nat->Value}(h:RelB E tmps H a w β){o:Nat}{cs:List AV}(hq:H o=.box cs)(hf:cs.all AV.flat=true):anO w β o (.box cs):=by
 have ho:=h.objs o;rw[hq]at ho;obtain⟨b,vs,ty,h1,h2,_,h4,h5,h6⟩:=ho;exact⟨b,vs,ty,h1,h2,h4,fun i av v g1 g2=>flat_of (List.all_eq_true.1 hf av (List.mem_of_getElem? g1)) (h5 i av v g1 g2),h6⟩
section
variable {P:Program}{E:Env}{K:Exit->Env->AS->Prop}
def AWp.range{t:Tmp}{ps:Array Tmp}{assign body:Code}{tmps:List AV}{f:FuncId}{caps caps':List AV}{res:Bool->Value->Prop}{seq:List (List AV)}{M:List (List AV)->List (Nat×AO)}{Mx:Exit->List (List AV)->List (Nat×AO)}{Inv:List (List AV)->Prop}{Inx:Exit->List (List AV)->Prop}(hI0:Inv [])
 (hg:(⟨tmps,M []⟩:AS).tmp t=.func f caps) (hle:LeL caps caps') (hpure:AV.aae caps=true) (hspec:ISpec P f (fun l=>.val (.func (.yield l) #[] #[])::caps') res seq)
 (hflat:∀g,acn (M g)=true) (hflatx:∀e g,acn (Mx e g)=true) (hkey:∀g o,(oL (M g) o).is↔(oL (M []) o).is) (hkeyx:∀e g o,(oL (Mx e g) o).is↔(oL (M []) o).is)
 (hps:∀el∈seq,el.length=ps.size)
 (hbody:∀g el,g++[el] <+: seq->Inv g->∀E l,AWp (some l) P E assign (adh (fun _ S'=>∀E',AWp (some l) P E' body (ajA Inv Inx M Mx (g++[el])) S') (fun _ _ _=>False)) ⟨adI ps.toList el (tmps.map afp),renM (M g)⟩)
 (hdone:∀E',Ext E E'->Inv seq->K .normal E' ⟨tmps,M seq⟩) (hstop:∀E' e pre,Ext E E'->Inx e pre->pre <+: seq->K e E' ⟨tmps,Mx e pre⟩):
 AWp none P E (.rangeFunc (.tmp t) ps assign body) K ⟨tmps,M []⟩:=by
 rintro a w ⟨β,hr⟩;refine wpIn_rangeFunc (F:=FW none) (n:=0) ?_;intro fn hfn;have hfx:=hr.at t;rw[hg]at hfx;obtain⟨cv,hcv,hcl,hcx⟩:=hfx.abL;obtain⟨rec,hrec⟩:∃rec:LoopState->Option Code->Loop,rec=fun st pe=>{ state:=st,pending:=pe,fn,tmps:=a.tmps,params:=ps,assign,body,defers:=w.heap.size }:=⟨_,rfl⟩
 obtain⟨W1,hW1⟩:∃W1,(w.alloc (.deferred (some []))).alloc (.loop (rec .ready none))=W1:=⟨_,rfl⟩
 have hsz1:W1.heap.size=w.heap.size+2:=by rw[<- hW1];simp
 have hL1:W1.heap[w.heap.size+1]? = some (.loop (rec .ready none)):=by
  rw[<- hW1];have:=World.alloc_heap_new (w.alloc (.deferred (some []))) (.loop (rec .ready none));rwa [World.size_alloc]at this
 have hK1:W1.heap[w.heap.size]? = some (.deferred (some [])):=by
  rw[<- hW1];exact(RowKit.Below.heap_alloc _ _ _ (by simp)).trans (World.alloc_heap_new w _)
 have hold:∀b,b<w.heap.size->W1.heap[b]? = w.heap[b]? := fun b hb=>by
  rw[<- hW1];exact(RowKit.Below.heap_alloc _ _ _ (by simp;omega)).trans (RowKit.Below.heap_alloc w _ b hb)
 have hos1:W1.os=w.os∧W1.tape=w.tape∧W1.output=w.output:=by rw[<- hW1];exact⟨rfl,rfl,rfl⟩
 have hblk:∀o b,(oL (M []) o).is->aa9 (β o)=some b->b<w.heap.size∧E.own b:=fun o b hi hb=>(hr.objs o).lt hb hi;obtain⟨Y,hYd⟩:∃Y:Nat->Prop,Y=fun b=>b=w.heap.size+1∨∃o,(oL (M []) o).is∧aa9 (β o)=some b:=⟨_,rfl⟩
 have hYl:Y (w.heap.size+1):=by rw[hYd];exact .inl rfl
 have hYo:∀o b,(oL (M []) o).is->aa9 (β o)=some b->Y b:=fun o b h1 h2=>by rw[hYd];exact .inr ⟨o,h1,h2⟩
 have hYN:∀b,Y b->b<w.heap.size+2:=fun b hb=>by
  rw[hYd]at hb;rcases hb with rfl|⟨o,h1,h2⟩
  ·omega
  ·have:=(hblk o b h1 h2).1;omega
 have hYD:∀b,E.D w β (oL (M [])) b->b<w.heap.size∧¬Y b:=fun b hb=>⟨hb.2.1,fun hy=>by
  rw[hYd]at hy;rcases hy with rfl|⟨o,h1,h2⟩
  ·have:=hb.2.1;omega
  ·exact hb.2.2 o h1 h2⟩
 obtain⟨Bs,hBs⟩:∃Bs:World->Prop,Bs=fun W=>Keep Y W1 W:=⟨_,rfl⟩
 have hflat0:aaZ W1 β (M []):=fun o=>by
  by_cases hi:(oL (M []) o).is
  ·obtain⟨_,cs,hq,hf⟩:=abY (hflat []) hi;rw[hq];exact(aeW hr hq hf).mono fun b _ hb=>hold b (hblk o b hi hb).1
  ·cases hq:oL (M []) o with
   | none=>trivial
   | box cs=>rw[hq]at hi;exact(hi trivial).elim
   | arr x t sz ver n f=>rw[hq]at hi;exact(hi trivial).elim
   | it ks f seen pend=>rw[hq]at hi;exact(hi trivial).elim
 have hfsame:∀{L:List (Nat×AO)} {W W':World},(∀o,(oL L o).is↔(oL (M []) o).is)->aaZ W β L->(∀b,b<w.heap.size->W'.heap[b]? = W.heap[b]?)->aaZ W' β L:=
  fun hk hf hs o=>(hf o).mono fun b hi hb=>hs b (hblk o b ((hk o).1 hi) hb).1
 have hyld:∀g el (vs:Array Value) W,(Keep Y W1 W∧W.heap[w.heap.size+1]? = some (.loop (rec .ready none))∧aaZ W β (M g)∧Inv g)->(g++[el]) <+: seq->el.length=vs.size ->
  (∀(j:Nat) (av:AV) (v:Value),el[j]? = some av->vs[j]? = some v->RD W (fun b=>b<W.heap.size∧¬Y b) E.B av v) ->
  YieldAt (FW none) 0 P (w.heap.size+1) vs W fun e w'=>Keep Y W w'∧((e=.returned (.bool true)∧(Keep Y W1 w'∧w'.heap[w.heap.size+1]? = some (.loop (rec .ready none))∧aaZ w' β (M (g++[el]))∧Inv (g++[el]))) ∨
   (e=.returned (.bool false)∧(Keep Y W1 w'∧∃e c,Inx e (g++[el])∧codeOf e=some c∧w'.heap[w.heap.size+1]? = some (.loop (rec .done (some c)))∧aaZ w' β (Mx e (g++[el]))))):=by
  rintro g el vs W ⟨hkp,hlW,hfa,hInv⟩ hall hlen hargs;have hel:=hps el (hall.subset (by simp));have hWs:w.heap.size+2<=W.heap.size:=by have:=hkp.size;omega
  have hy:=run_yield (P:=P) (args:=vs) hlW (by rw[hrec];simp[<- hlen,hel]);rw[hrec]at hy;refine⟨fn,_,assign,body,hy,roundIn_of_wpIn hfn ?_⟩
  let Er:Env:={
   w0:=W
   B:=E.B
   D0:=fun b=>b<W.heap.size∧¬Y b
   X:=fun b=>∃o,(oL (M []) o).is∧aa9 (β o)=some b
   pin:=fun o'=>if 1000<=o'∧(oL (M []) (o'-1000)).isB=true then some (β (o'-1000),0)else none
   hpin:=fun o' q hq=>by
    by_cases hc:1000<=o'∧(oL (M []) (o'-1000)).isB=true
    ·have:=(abY (hflat []) (AO.ad4.1 hc.2)).1;have h2:o'<10000:=by omega
     simp[abW,hc.1,h2]
    ·simp[hc]at hq
   Y:=fun _=>False
   df:=[]
   hB:=Nat.le_trans hr.frame.base (by omega)
   hD:=fun b hb=>⟨hb.1,fun⟨o,h1,h2⟩=>hb.2 (hYo o b h1 h2)⟩
   hX:=fun b ⟨o,h1,h2⟩=>by have:=(hblk o b h1 h2).1;omega
   hY:=fun b hy=>hy.elim
   hdf:=fun d hd=>by cases hd
   ndf:=.nil
   hT:=afv hr.tab fun b hb=>(hkp.blk b (by have:=(hYD b (hr.dIn (E.hTD b hb))).1;omega) (hYD b (hr.dIn (E.hTD b hb))).2).trans (hold b (hYD b (hr.dIn (E.hTD b hb))).1)
   hTD:=fun b hb=>⟨by have:=(hYD b (hr.dIn (E.hTD b hb))).1;omega,(hYD b (hr.dIn (E.hTD b hb))).2⟩ }
  have hHr:∀o',(oL (renM (M g)) o').is->1000<=o'∧(oL (M []) (o'-1000)).is:=fun o' hi=>by
   rw[ab1]at hi;by_cases h:1000<=o'
   ·simp only[h,if_true]at hi;exact⟨h,(hkey g _).1 hi⟩
   ·simp[h,AO.is]at hi
  have hDr:∀b,b<W.heap.size∧¬Y b->Er.D W (fun o'=>β (o'-1000)) (oL (renM (M g))) b:=fun b hb=>⟨.inl hb,hb.1,fun o' hi hq=>hb.2 (hYo _ b (hHr o' hi).2 hq)⟩
  have hslot:∀av v,RX w (E.D w β (oL (M []))) E.B β (oL (M [])) av v->RX W (Er.D W (fun o'=>β (o'-1000)) (oL (renM (M g)))) Er.B (fun o'=>β (o'-1000)) (oL (renM (M g))) (afp av) v:=by
   intro av v hx;have hpure:RX W (Er.D W (fun o'=>β (o'-1000)) (oL (renM (M g)))) Er.B (fun o'=>β (o'-1000)) (oL (renM (M g))) (if av.pure then av else .any) v:=by
    split
    ·rename_i hp;refine .d ((hx.pure hp).mono (fun b hb=>?_) (fun b hb=>hDr b ⟨by have:=(hYD b hb).1;omega,(hYD b hb).2⟩) (Nat.le_refl _));rw[hkp.blk b (by have:=(hYD b hb).1;omega) (hYD b hb).2];exact hold b (hYD b hb).1
    ·exact .d (.any _)
   cases av with
   | ptr o off=>
    obtain⟨b,h1,rfl⟩:=hx.aa6;exact .ptr _ _ b (by simpa using h1)
   | _=>exact hpure
  have hfold:(ps.zip vs).foldl (fun tmps (x:Tmp×Value)=>match x with|(t,a)=>tmps.setIfInBounds t a) a.tmps=(ps.toList.zip vs.toList).foldl (fun tmps (p:Tmp×Value)=>tmps.setIfInBounds p.1 p.2) a.tmps:=by
   rw[<- Array.foldl_toList,Array.toList_zip]
  have hrel:Rel Er ⟨adI ps.toList el (tmps.map afp),renM (M g)⟩ { tmps:=(ps.zip vs).foldl (fun tmps (x:Tmp×Value)=>match x with|(t,a)=>tmps.setIfInBounds t a) a.tmps,defers:=[] } W:=by
   obtain⟨k1,k2⟩:=ah9 (R:=fun av v=>RX W (Er.D W (fun o'=>β (o'-1000)) (oL (renM (M g)))) Er.B (fun o'=>β (o'-1000)) (oL (renM (M g))) av v) ps.toList el vs.toList (tmps.map afp) a.tmps (by simpa using hlen) (by simpa using hr.size)
    (fun j av v h1 h2=>.d ((hargs j av v h1 (by simpa using h2)).mono (fun _ _=>rfl) hDr (Nat.le_refl _))) (fun t av ht=>by
      simp only[List.getElem?_map,Option.map_eq_some_iff]at ht;obtain⟨av0,h1,rfl⟩:=ht;exact hslot _ _ (hr.tmps t av0 h1))
   refine⟨fun o'=>β (o'-1000),rfl,by rw[hfold];exact k1,fun t av ht=>by simp only[hfold];exact k2 t av ht,fun o'=>?_,fun o1 o2 b hne i1 i2 b1 b2=>?_,⟨rfl,rfl,rfl,Nat.le_refl _,fun _ _ _=>rfl⟩,fun o' v n0 hp=>?_⟩
   ·show OR Er W _ _ o' (oL (renM (M g)) o');cases hq:oL (renM (M g)) o' with
    | none=>trivial
    | it ks f s p=>
     have hi:(oL (renM (M g)) o').is:=by rw[hq];trivial
     have h1:=(hHr o' hi).1;rw[ab1]at hq;simp only[h1,if_true]at hq;have:=hfa (o'-1000);rw[hq]at this;exact this.elim
    | arr x t sz ver n f=>
     have hi:(oL (renM (M g)) o').is:=by rw[hq];trivial
     have h1:=(hHr o' hi).1;rw[ab1]at hq;simp only[h1,if_true]at hq;have:=hfa (o'-1000);rw[hq]at this;exact this.elim
    | box cs=>
     have hi:(oL (renM (M g)) o').is:=by rw[hq];trivial
     obtain⟨h1,h2⟩:=hHr o' hi;rw[ab1]at hq;simp only[h1,if_true]at hq;have:=hfa (o'-1000);rw[hq]at this;obtain⟨b,us,ty,g1,g2,g3,g4,g5⟩:=this;exact⟨b,us,ty,g1,g2,.inl ⟨_,h2,by rw[g1];rfl⟩,g3,fun i av v q1 q2=>.d (g4 i av v q1 q2 _ _ _),g5⟩
   ·have:=(hHr o1 i1).1;have:=(hHr o2 i2).1;exact hr.apart (o1-1000) (o2-1000) b (by omega) (hHr o1 i1).2 (hHr o2 i2).2 b1 b2
   ·by_cases hc:1000<=o'∧(oL (M []) (o'-1000)).isB=true
    ·have hp':some (β (o'-1000),0)=some (v,n0):=by simpa[Er,hc]using hp
     cases hp';refine⟨fun _ _=>rfl,fun x t sz ver n f hf _=>?_⟩;rw[show(⟨adI ps.toList el (tmps.map afp),renM (M g)⟩:AS).obj o'=oL (renM (M g)) o' from rfl,ab1]at hf;simp only[hc.1,if_true]at hf;have:=hfa (o'-1000);rw[hf]at this;exact this.elim
    ·simp[Er,hc]at hp
  refine Go.wpIn_mono (hbody g el hall hInv Er (w.heap.size+1) _ _ hrel) ?_;rintro e a1 w1 ⟨E1,S1,hE1,hk1,β1,hR1⟩;cases e with
  | normal=>
   have hlN:w.heap.size+1<Er.N:=by show w.heap.size+1<W.heap.size;omega
   have hlX:¬Er.X (w.heap.size+1):=fun⟨o,h1,h2⟩=>by have:=(hblk o _ h1 h2).1;omega
   have hl1:w1.heap[w.heap.size+1]? = some (.loop (rec .ready none)):=by
    rw[hR1.frame.block _ (Nat.lt_of_lt_of_le hlN hE1.size) (hE1.nx hlN hlX),hE1.keep _ hlN hlX (fun h=>h)];exact hlW
   have hlt1:w.heap.size+1<w1.heap.size:=(Array.getElem?_eq_some_iff.1 hl1).1;have hbr:=run_beginRound (P:=P) hl1 (by rw[hrec]);obtain⟨w2,hw2⟩:∃w2,w1.putObj (w.heap.size+1) (.loop { rec .ready none with state:=.busy })=w2:=⟨_,rfl⟩
   rw[hw2]at hbr;have hk12:Keep (fun b=>b=w.heap.size+1) w1 w2:=by
    rw[<- hw2];exact⟨rfl,rfl,rfl,by simp[World.putObj],fun b _ hb=>World.putObj_heap_other hb⟩
   obtain⟨E2,q1,q2,q3,q4,q5,q6,q7,hR2⟩:=rebaseY hR1 (Y:=fun b=>b=w.heap.size+1) (fun b hb he=>by
    obtain⟨b',h1,h2,h3,h4⟩:=E1.hdf _ hb;cases h1;have hbl:b<E1.N:=(Array.getElem?_eq_some_iff.1 h4).1;have:=hR1.frame.block b hbl h2;rw[h4,he,hl1]at this;cases this) (fun b hb=>by
    subst hb;have hnotown:¬Er.own (w.heap.size+1):=fun ho=>ho.elim hlX fun hn=>by omega
    refine⟨fun hd=>?_,fun o hi hq=>?_⟩
    ·have:=hE1.dd hd;rcases this.1 with h|h|h
     ·exact h.2 hYl
     ·exact hlX h
     ·omega
    ·exact hnotown (hE1.own ((hR1.objs o).lt hq hi).2)) hk12
   refine⟨w2,hbr,Go.wpIn_mono (hk1 E2 a1 w2 ⟨β1,hR2⟩) ?_⟩;rintro e a3 w3 ⟨E3,S3,hE3,hk3,β3,hR3⟩;have hNl:w.heap.size+1<E2.N:=by show w.heap.size+1<E2.w0.heap.size;rw[q1];exact Nat.lt_of_lt_of_le hlt1 hk12.size
   have hX2:∀b,b<W.heap.size->¬Y b->¬E2.X b:=fun b hb hy hx=>by
    have:=hE1.own (q4 b hx);rcases this with⟨o,h1,h2⟩|h
    ·exact hy (hYo o b h1 h2)
    ·exact absurd hb (Nat.not_lt.2 h)
   have hXl:¬E2.X (w.heap.size+1):=fun hx=>by
    have:=hE1.own (q4 _ hx);exact this.elim hlX fun hn=>by omega
   have hl3:w3.heap[w.heap.size+1]? = some (.loop { rec .ready none with state:=.busy }):=by
    rw[hR3.frame.block _ (Nat.lt_of_lt_of_le hNl hE3.size) (hE3.nx hNl hXl),hE3.keep _ hNl hXl (q5 _),q1,<- hw2];exact World.putObj_heap_same hlt1
   have hkeep3:Keep Y W w3:=by
    refine⟨?_,?_,?_,?_,fun b hb hy=>?_⟩
    ·rw[hR3.frame.os,hE3.os,q1,hk12.os,hR1.frame.os,hE1.os]
    ·rw[hR3.frame.tape,hE3.tape,q1,hk12.tape,hR1.frame.tape,hE1.tape]
    ·rw[hR3.frame.output,hE3.output,q1,hk12.output,hR1.frame.output,hE1.output]
    ·have a1:=hE1.size;have a2:=hR1.frame.size;have a3:=hk12.size;have a4:=hE3.size;have a5:=hR3.frame.size;have a6:E2.N=w2.heap.size:=by show E2.w0.heap.size=_;rw[q1]
     have a7:Er.N=W.heap.size:=rfl;omega
    ·have hbN:b<Er.N:=hb;have hbX:¬Er.X b:=fun⟨o,h1,h2⟩=>hy (hYo o b h1 h2);have hb1:b<w1.heap.size:=Nat.lt_of_lt_of_le hbN (Nat.le_trans hE1.size hR1.frame.size);have hb2:b<E2.N:=by show b<E2.w0.heap.size;rw[q1];exact Nat.lt_of_lt_of_le hb1 hk12.size
     have hbx2:=hX2 b hb hy
     rw[hR3.frame.block b (Nat.lt_of_lt_of_le hb2 hE3.size) (hE3.nx hb2 hbx2),hE3.keep b hb2 hbx2 (q5 b),q1,hk12.blk b hb1 (fun e=>hy (by rw[e];exact hYl)),
      hR1.frame.block b (Nat.lt_of_lt_of_le hbN hE1.size) (hE1.nx hbN hbX),hE1.keep b hbN hbX (fun h=>h)]
   have hpin3:E3.pin=Er.pin:=by rw[hE3.pin,q3,hE1.pin]
   have hobj:∀(L:List (Nat×AO)),acn L=true->(∀o,(oL L o).is↔(oL (M []) o).is)->Weak ⟨[],S3.objs⟩ ⟨[],renM L⟩->aaZ w3 β L:=by
    intro L hfL hkL hwk o;by_cases hi:(oL L o).is
    ·obtain⟨_,cs,hq,hf⟩:=abY hfL hi;obtain⟨β4,hR4⟩:=hwk E3 ⟨#[],a3.defers⟩ w3 ⟨β3,⟨hR3.defers,rfl,fun t av ht=>by simp at ht,hR3.objs,hR3.apart,hR3.frame,hR3.pin⟩⟩;have hH:(⟨[],renM L⟩:AS).obj (1000+o)=.box cs:=by
      show oL (renM L) (1000+o)=_;rw[ab1];simp[hq]
     have hp:E3.pin (1000+o)=some (β o,0):=by
      rw[hpin3];have:(oL (M []) o).isB=true:=AO.ad4.2 ((hkL o).1 hi);simp[Er,this]
     have hβ:β4 (1000+o)=β o:=(hR4.pin _ _ _ hp).1 cs hH;have:=aeW hR4 hH hf;rw[hq];obtain⟨b,us,ty,g1,g2⟩:=this;exact⟨b,us,ty,by rw[<- hβ];exact g1,g2⟩
    ·cases hq:oL L o with
     | none=>trivial
     | box cs=>rw[hq]at hi;exact(hi trivial).elim
     | arr x t sz ver n f=>rw[hq]at hi;exact(hi trivial).elim
     | it ks f seen pend=>rw[hq]at hi;exact(hi trivial).elim
   have hlt3:w.heap.size+1<w3.heap.size:=(Array.getElem?_eq_some_iff.1 hl3).1;have hput:∀(o':Obj),Keep Y W (w3.putObj (w.heap.size+1) o'):=fun o'=>
    ⟨hkeep3.os,hkeep3.tape,hkeep3.output,by simpa[World.putObj]using hkeep3.size,fun b hb hy=>by rw[World.putObj_heap_other (fun e=>hy (by rw[e];exact hYl))];exact hkeep3.blk b hb hy⟩
   have hfput:∀{L:List (Nat×AO)} (o':Obj),(∀o,(oL L o).is↔(oL (M []) o).is)->aaZ w3 β L->aaZ (w3.putObj (w.heap.size+1) o') β L:=fun o' hk hf=>hfsame hk hf fun b hb=>World.putObj_heap_other (by omega);have hend:=fun(jump:Option Code)=>run_endRound (P:=P) jump hl3;rw[hrec]at hend;cases e with
   | normal=>
    refine⟨_,_,hend none,hput _,.inl ⟨rfl,hkp.trans (hput _),?_,hfput _ (hkey _) (hobj _ (hflat _) (hkey _) hk3.2),hk3.1⟩⟩;rw[World.putObj_heap_same hlt3,hrec];rfl
   | ret=>
    refine⟨_,_,hend (some .ret),hput _,.inr ⟨rfl,hkp.trans (hput _),.ret,.ret,hk3.1,rfl,?_,hfput _ (hkeyx _ _) (hobj _ (hflatx _ _) (hkeyx _ _) hk3.2)⟩⟩;rw[World.putObj_heap_same hlt3,hrec];rfl
   | exit id=>
    refine⟨_,_,hend (some (.exit id)),hput _,.inr ⟨rfl,hkp.trans (hput _),.exit id,.exit id,hk3.1,rfl,?_,hfput _ (hkeyx _ _) (hobj _ (hflatx _ _) (hkeyx _ _) hk3.2)⟩⟩;rw[World.putObj_heap_same hlt3,hrec];rfl
   | goto l=>exact hk3.elim
   | panic ch=>exact hk3.elim
   | outgrown=>exact hk3.elim
  | exit id=>exact hk1.elim
  | goto l=>exact hk1.elim
  | ret=>exact hk1.elim
  | panic ch=>exact hk1.elim
  | outgrown=>exact hk1.elim
 let p:Proto P:={
  l:=w.heap.size+1
  Y:=Y
  N:=w.heap.size+2
  B:=E.B
  all:=seq
  J:=fun g W=>Keep Y W1 W∧W.heap[w.heap.size+1]? = some (.loop (rec .ready none))∧aaZ W β (M g)∧Inv g
  Jx:=fun g W=>Keep Y W1 W∧∃e c,Inx e g∧codeOf e=some c∧W.heap[w.heap.size+1]? = some (.loop (rec .done (some c)))∧aaZ W β (Mx e g)
  hY:=hYN
  hJ:=fun g W h=>by have:=h.1.size;omega
  ab:=fun g W W' h hs=>⟨⟨hs.os.trans h.1.os,hs.tape.trans h.1.tape,hs.output.trans h.1.output,Nat.le_trans h.1.size hs.size,fun b hb hy=>(hs.blk b (by omega)).trans (h.1.blk b hb hy)⟩,
   (hs.blk _ (by omega)).trans h.2.1,hfsame (hkey g) h.2.2.1 fun b hb=>hs.blk b (by omega),h.2.2.2⟩
  abx:=fun g W W' h hs=>by
   obtain⟨h1,e,c,h2,h3,h4,h5⟩:=h
   exact⟨⟨hs.os.trans h1.os,hs.tape.trans h1.tape,hs.output.trans h1.output,Nat.le_trans h1.size hs.size,fun b hb hy=>(hs.blk b (by omega)).trans (h1.blk b hb hy)⟩,
    e,c,h2,h3,(hs.blk _ (by omega)).trans h4,hfsame (hkeyx e g) h5 fun b hb=>hs.blk b (by omega)⟩
  hT:=fun g W h=>by
   have d0:=fun b hb=>hYD b (hr.dIn (E.hTD b hb));exact⟨afv hr.tab fun b hb=>(h.1.blk b (by have:=(d0 b hb).1;omega) (d0 b hb).2).trans (hold b (d0 b hb).1),fun b hb=>(d0 b hb).2⟩
  yld:=hyld }
 have hev:a.eval (.tmp t)=.func (.func f) #[] cv:=hcv;refine⟨w.heap.size+1,[{ target:=.collected w.heap.size,args:=#[] }],W1,{ target:=.fn (.func f) cv,args:=#[.func (.yield (w.heap.size+1)) #[] #[]] },W1,f,#[.func (.yield (w.heap.size+1)) #[] #[]]++cv,W1,?_,?_,fun _ _=>trivial,?_,(fun h=>by cases h),?_⟩
 ·rw[<- hW1,hrec];exact run_enterLoop_outer _ _ _ _ _
 ·simp only[resolve,hev];simp[go_sem]
 ·have:=hspec.ent (#[.func (.yield (w.heap.size+1)) #[] #[]]++cv) W1;simpa[invoke]using this
 ·have hkeep1:Keep Y W1 W1:=.refl _ _;refine adA.2 ((hspec.calls p [] _ W1 ⟨hkeep1,hL1,hflat0,hI0⟩ (List.prefix_refl _) ?_ (Nat.le_trans hr.frame.base (by omega)) (fun j av v hj hv=>?_)).mono ?_)
  ·simp[<- hle.1,hcl];omega
  ·cases j with
   | zero=>
    rw[Array.getElem?_append_left (by simp)]at hv;simp at hj hv;subst hj;subst hv;exact .val _
   | succ j=>
    have hj':caps'[j]? = some av:=by simpa using hj
    have hv':cv[j]? = some v:=by
     rw[Array.getElem?_append_right (by simp)]at hv;simpa using hv
    have hlt:j<caps.length:=by rw[hle.1];exact(List.getElem?_eq_some_iff.1 hj').1
    have q:=(hcx j _ v (List.getElem?_eq_getElem hlt) hv').pure (abU hpure j _ (List.getElem?_eq_getElem hlt));have q2:=q.mono (w':=W1) (D':=fun b=>b<W1.heap.size∧¬Y b) (B':=E.B) (fun b hb=>hold b (hYD b hb).1) (fun b hb=>⟨by have:=(hYD b hb).1;omega,(hYD b hb).2⟩) (Nat.le_refl _);exact hle.2.2 _ _ _ j _ av v (List.getElem?_eq_getElem hlt) hj' q2
  ·rintro en w' ⟨hkw,v,rfl,hcase⟩;have hafter:∀(L:List (Nat×AO)) (w4:World),Keep Y W1 w4->aaZ w4 β L->acn L=true->(∀o,(oL L o).is↔(oL (M []) o).is)->∃E',Ext E E'∧Rel E' ⟨tmps,L⟩ { a with defers:=[{ target:=.collected w.heap.size,args:=#[] }]++a.defers } w4:=by
    intro L w4 hk4 hf4 hfl hkl;have hnarr:∀{o:Nat} {x:Bool} {t sz ver:Nat} {n:Unit->Nat} {f:(Unit->Nat)->List AV},oL L o=.arr x t sz ver n f->False:=fun{o x t sz ver n f} hq=>by
     obtain⟨_,cs,h1,_⟩:=abY hfl (o:=o) (by rw[hq];trivial);rw[hq]at h1;cases h1
    have hnY:∀b,b<E.N->¬E.X b->¬Y b:=fun b hb hx hy=>by
     rw[hYd]at hy;rcases hy with rfl|⟨o,h1,h2⟩
     ·have:=hr.frame.size;omega
     ·exact(hblk o b h1 h2).2.elim hx fun hn=>by omega
    have hNw:E.N<=w.heap.size:=hr.frame.size;have hsz4:w.heap.size+2<=w4.heap.size:=by have:=hk4.size;omega
    have hYd0:¬Y w.heap.size:=fun hy=>by
     rw[hYd]at hy;rcases hy with h|⟨o,h1,h2⟩
     ·omega
     ·have:=(hblk o _ h1 h2).1;omega
    let E':Env:={
     w0:=w4
     B:=E.B
     D0:=fun b=>E.D w β (oL (M [])) b
     X:=fun b=>∃o,(oL (M []) o).is∧aa9 (β o)=some b
     pin:=E.pin
     hpin:=E.hpin
     Y:=E.Y
     df:={ target:=.collected w.heap.size,args:=#[] }::E.df
     hB:=Nat.le_trans hr.frame.base (by omega)
     hD:=fun b hb=>⟨by have:=(hYD b hb).1;omega,fun⟨o,h1,h2⟩=>hb.2.2 o h1 h2⟩
     hX:=fun b ⟨o,h1,h2⟩=>by have:=(hblk o b h1 h2).1;omega
     hY:=fun b hy=>⟨by have:=(E.hY b hy).1;have h2:E.w0.heap.size=E.N:=rfl;omega,fun hd=>amC hd hy,fun⟨o,h1,h2⟩=>noY E (hblk o b h1 h2).2 hy⟩
     hdf:=fun d hd=>by
      rcases List.mem_cons.1 hd with rfl|hd
      ·refine⟨_,rfl,fun⟨o,h1,h2⟩=>by have:=(hblk o _ h1 h2).1;omega,fun hy=>by have:=(E.hY _ hy).1;have h2:E.w0.heap.size=E.N:=rfl;omega,?_⟩;rw[hk4.blk _ (by omega) hYd0];exact hK1
      ·obtain⟨b,rfl,hx,hy,hh⟩:=E.hdf d hd;have hbl:b<E.N:=(Array.getElem?_eq_some_iff.1 hh).1;refine⟨b,rfl,fun⟨o,h1,h2⟩=>(hblk o b h1 h2).2.elim hx fun hn=>by omega,hy,?_⟩;rw[hk4.blk b (by omega) (hnY b hbl hx),hold b (by omega),hr.frame.block b hbl hx];exact hh
     hT:=afv hr.tab fun b hb=>(hk4.blk b (by have:=(hYD b (hr.dIn (E.hTD b hb))).1;omega) (hYD b (hr.dIn (E.hTD b hb))).2).trans (hold b (hYD b (hr.dIn (E.hTD b hb))).1)
     hTD:=fun b hb=>hr.dIn (E.hTD b hb)
     ndf:=by
      rw[List.nodup_cons];refine⟨fun hd=>?_,E.ndf⟩;obtain⟨b,h1,hx,hy,hh⟩:=E.hdf _ hd;cases h1;have hbl:w.heap.size<E.N:=(Array.getElem?_eq_some_iff.1 hh).1;omega }
    have hDD:∀b,E.D w β (oL (M [])) b->E'.D w4 β (oL L) b:=fun b hb=>⟨.inl hb,by have:=(hYD b hb).1;omega,fun o hi=>hb.2.2 o ((hkl o).1 hi)⟩
    have hrd:∀av v,RD w (E.D w β (oL (M []))) E.B av v->RD w4 (E'.D w4 β (oL L)) E'.B av v:=fun av v q=>q.mono (fun b hb=>by
     rw[hk4.blk b (by have:=(hYD b hb).1;omega) (hYD b hb).2];exact hold b (hYD b hb).1) hDD (Nat.le_refl _)
    have hrx:∀av v,RX w (E.D w β (oL (M []))) E.B β (oL (M [])) av v->RX w4 (E'.D w4 β (oL L)) E'.B β (oL L) av v:=fun av v q=>
     q.map hrd (fun o off v q=>by obtain⟨b,h1,rfl⟩:=q.aa6;exact .ptr _ _ b h1) (fun o ver n v q=>by obtain⟨h1,h2⟩:=q.aI;exact .aref _ _ _ _ h1 (fun x t sz' ver' n' f hH=>(hnarr hH).elim)) (fun o sz ver n i off v q=>by obtain⟨h1,h2,h3⟩:=q.aaF;exact .aptr _ _ _ _ _ _ _ h1 h2 (fun x t sz' ver' n' f hH=>(hnarr hH).elim))
    refine⟨E',⟨Nat.le_refl _,rfl,rfl,hk4.os.trans (hos1.1.trans hr.frame.os),hk4.tape.trans (hos1.2.1.trans hr.frame.tape),hk4.output.trans (hos1.2.2.trans hr.frame.output),by show E.N<=w4.heap.size;omega,fun b ⟨o,h1,h2⟩=>(hblk o b h1 h2).2,fun b hb=>hb.1,fun b hb hx hy=>?_,fun b hb=>?_⟩,
     β,⟨by show _++a.defers=_::E.df;rw[hr.defers];rfl,hr.size,fun t av ht=>hrx _ _ (hr.tmps t av ht),fun o=>?_,fun o1 o2 b hne i1 i2=>hr.apart o1 o2 b hne ((hkl o1).1 i1) ((hkl o2).1 i2),⟨rfl,rfl,rfl,Nat.le_refl _,fun _ _ _=>rfl⟩,fun o v n0 hp=>⟨fun cs hq=>?_,fun x t sz ver n f hq _=>(hnarr hq).elim⟩⟩⟩
    ·show w4.heap[b]? = _;rw[hk4.blk b (by omega) (hnY b hb hx),hold b (by omega)];exact hr.frame.block b hb hx
    ·rcases List.mem_cons.1 hb with h|h
     ·cases h;exact .inr hNw
     ·exact .inl h
    ·show OR E' w4 β (oL L) o (oL L o);have:=hf4 o;cases hq:oL L o with
     | none=>trivial
     | arr x t sz ver n f=>exact(hnarr hq).elim
     | it ks f s p=>rw[hq]at this;exact this.elim
     | box cs=>
      rw[hq]at this;obtain⟨b,us,ty,g1,g2,g3,g4,g5⟩:=this;exact⟨b,us,ty,g1,g2,.inl ⟨o,(hkl o).1 (by rw[hq];trivial),by rw[g1];rfl⟩,g3,fun i av v q1 q2=>.d (g4 i av v q1 q2 _ _ _),g5⟩
    ·have hi:(oL (M []) o).is:=(hkl o).1 (by show(oL L o).is;rw[show oL L o=_ from hq];trivial);obtain⟨_,cs0,h1,_⟩:=abY (hflat []) hi;exact(hr.pin o v n0 hp).1 cs0 h1
   have hput:∀(W:World) (o':Obj),Keep Y W1 W->Keep Y W1 (W.putObj (w.heap.size+1) o'):=fun W o' hk=>
    ⟨hk.os,hk.tape,hk.output,by simpa[World.putObj]using hk.size,fun b hb hy=>by rw[World.putObj_heap_other (fun e=>hy (by rw[e];exact hYl))];exact hk.blk b hb hy⟩
   have hfput:∀{L:List (Nat×AO)} (W:World) (o':Obj),(∀o,(oL L o).is↔(oL (M []) o).is)->aaZ W β L->aaZ (W.putObj (w.heap.size+1) o') β L:=fun W o' hk hf=>hfsame hk hf fun b hb=>World.putObj_heap_other (by omega);rcases hcase with⟨_,hj1,hj2,hj3,hj4⟩|⟨_,pre,hpre,hj1,e,c,hst,hcode,hj2,hj3⟩
   ·have hend:=run_endLoop (P:=P) hj2 (by rw[hrec];simp);refine⟨_,_,hend,?_⟩;rw[hrec];simp only[List.nil_append]at hj3 hj4;obtain⟨E',h1,h2⟩:=hafter (M seq) (w'.putObj (w.heap.size+1) (.loop { rec .ready none with state:=.exhausted })) (hput _ _ hj1) (hfput _ _ (hkey _) hj3) (hflat _) (hkey _);exact⟨E',_,h1,hdone E' h1 hj4,by rw[hrec]at h2;exact h2⟩
   ·have hend:=run_endLoop (P:=P) hj2 (by rw[hrec];simp);refine⟨_,_,hend,?_⟩;rw[hrec];simp only[List.nil_append]at hj3 hst;obtain⟨E',h1,h2⟩:=hafter (Mx e pre) (w'.putObj (w.heap.size+1) (.loop { rec .done (some c)with state:=.exhausted })) (hput _ _ hj1) (hfput _ _ (hkeyx _ _) hj3) (hflatx _ _) (hkeyx _ _);rw[hrec]at h2;have hK:=hstop E' e pre h1 hst hpre;cases e with
    | ret=>cases hcode;exact wpIn_ret ⟨E',_,h1,hK,h2⟩
    | exit id=>cases hcode;exact wpIn_exit ⟨E',_,h1,hK,h2⟩
    | _=>cases hcode
end
structure SS where
 n:Nat
 l:List (Nat×AV)
 objs:List (Nat×AO)
def aaB:List (Nat×AV)->Nat->AV
 | [],_=>.any
 | (i,v)::r,j=>match Nat.beq i j with|true=>v|false=>aaB r j
def SS.st(s:SS):AS:=⟨(List.range s.n).map (aaB s.l),s.objs⟩
def SS.obj(s:SS)(o:Nat):AO:=oL s.objs o
def SS.ok(s:SS):Prop:=∀p∈s.l,p.1<s.n
theorem adF:∀{l:List (Nat×AV)} {t:Nat},aaB l t=.any∨(t,aaB l t)∈l
 | [],_=>.inl rfl
 | (i,v)::r,t=>by
  simp only[aaB];split
  ·rename_i h;have:=Nat.eq_of_beq_eq_true h;subst this;exact .inr (List.mem_cons_self ..)
  ·rcases adF (l:=r) (t:=t)with h|h
   ·exact .inl h
   ·exact .inr (List.mem_cons_of_mem _ h)
def SS.akf(s:SS){t:Nat}(h:t<s.n):s.st.tmps[t]? = some (aaB s.l t):=by
 simp[SS.st,h]
def SS.ake(s:SS):s.st.tmps.length=s.n:=by simp[SS.st]
def SS.ag6{s:SS}(hk:s.ok)(t:Nat):s.st.tmp t=aaB s.l t:=by
 unfold AS.tmp;by_cases h:t<s.n
 ·rw[List.getD_eq_getElem?_getD,s.akf h];rfl
 ·rw[List.getD_eq_getElem?_getD,List.getElem?_eq_none (by rw[s.ake];omega)];rcases adF (l:=s.l) (t:=t)with q|q
  ·rw[q];rfl
  ·exact absurd (hk _ q) h
def abO{l:List (Nat×AV)}{t j:Nat}{v:AV}(h:t≠j):aaB ((t,v)::l) j=aaB l j:=by
 simp only[aaB];split
 ·rename_i q;exact absurd (Nat.eq_of_beq_eq_true q) h
 ·rfl
def acj{l:List (Nat×AV)}{t:Nat}{v:AV}:aaB ((t,v)::l) t=v:=by
 simp only[aaB];split
 ·rfl
 ·rename_i q;simp at q
def SS.put(s:SS)(wt:List (Nat×AV))(wo:List (Nat×AO)):SS:=
 ⟨s.n,match wt with|[]=>s.l|(t,v)::_=>(match Nat.blt t s.n with|true=>(t,v)::s.l|false=>s.l),aaE s.objs wo⟩
def SS.as_put{s:SS}(wt:List (Nat×AV))(wo:List (Nat×AO)):(s.put wt wo).st=s.st.put wt wo:=by
 unfold SS.put AS.put
 match wt with
 | []=>rfl
 | (t,v)::r=>
  simp only[SS.st];congr 1;split
  ·rename_i h;have ht:t<s.n:=by simpa[Nat.blt_eq]using h
   refine List.ext_getElem? fun j=>?_;rw[List.getElem?_set];by_cases e:t=j
   ·subst e;simp[ht,acj]
   ·have:(aaB ((t,v)::s.l)) j=aaB s.l j:=abO e;simp only[if_neg e,List.getElem?_map];by_cases hj:j<s.n
    ·simp[hj,this]
    ·simp[hj]
  ·rename_i h;have ht:¬t<s.n:=fun q=>by
    have q2:t.blt s.n=true:=by rw[Nat.blt_eq];exact q
    rw[q2]at h;cases h
   rw[List.set_eq_of_length_le (by simp;omega)]
def SS.ok_put{s:SS}(hk:s.ok)(wt:List (Nat×AV))(wo:List (Nat×AO)):(s.put wt wo).ok:=by
 unfold SS.put SS.ok
 match wt with
 | []=>exact hk
 | (t,v)::r=>
  intro p hp;simp only at hp ⊢;split at hp
  ·rename_i h;rcases List.mem_cons.1 hp with rfl|hp
   ·simpa[Nat.blt_eq]using h
   ·exact hk p hp
  ·exact hk p hp
def M.runS{α:Type}(s:SS):M α->Option (Run α)
 | .ret a=>some ⟨a,[],[],[]⟩
 | .fail=>none
 | @M.cond _ c _ k=>match k.runS s with|some r=>some { r with conds:=c::r.conds }|none=>none
 | .tmp t k=>match(k (aaB s.l t)).runS s with|some r=>some { r with rt:=t::r.rt }|none=>none
 | .obj o k=>match(k (oL s.objs o)).runS s with|some r=>some { r with ro:=o::r.ro }|none=>none
theorem M.aeE{α:Type}{s:SS}(hk:s.ok):∀(m:M α),m.runS s=m.run s.st
 | .ret a=>rfl
 | .fail=>rfl
 | @M.cond _ c _ k=>by simp only[M.runS,M.run,M.aeE hk k];rfl
 | .tmp t k=>by simp only[M.runS,M.run,SS.ag6 hk,M.aeE hk (k _)];rfl
 | .obj o k=>by simp only[M.runS,M.run,M.aeE hk (k _)];rfl
structure OutS where
 s:SS
 conds:List (Unit->Prop)
 calls:List (Option (Unit->Bool)×CallOb)
 logs:List Log
def alg(T:List (Nat×TI))(orc:Orc)(ops:Array Oper):Nat->List Oper->SS->Option OutS
 | _,[],s=>some ⟨s,[],[],[]⟩
 | i,o::rest,s=>
  match(opA T orc ops i o).runS s with
  | none=>none
  | some ⟨(g,e),conds,rt,ro⟩=>
   match alg T orc ops (i+1) rest (s.put (wtOf o e.dst) e.wo)with
   | none=>none
   | some out=>some ⟨out.s,conds++out.conds,(match e.call with|some c=>[(g,c)]|none=>[])++out.calls,⟨rt,ro,wtOf o e.dst,e.wo,e.new⟩::out.logs⟩
theorem akg{T:List (Nat×TI)}{orc:Orc}{ops:Array Oper}:∀(rest:List Oper) (i:Nat) (s:SS) (out:OutS),s.ok->alg T orc ops i rest s=some out ->
 aops T orc ops i rest s.st=some ⟨out.s.st,out.conds,out.calls,out.logs⟩∧out.s.ok∧out.s.n=s.n
 | [],i,s,out,hk,h=>by simp only[alg,Option.some.injEq]at h;subst h;exact⟨rfl,hk,rfl⟩
 | o::rest,i,s,out,hk,h=>by
  simp only[alg]at h;simp only[aops,<- M.aeE hk];split at h
  ·cases h
  ·rename_i g e conds rt ro hr;rw[hr];split at h
   ·cases h
   ·rename_i out' h2;obtain⟨h3,h4,h5⟩:=akg rest (i+1) _ out' (SS.ok_put hk _ _) h2;simp only[Option.some.injEq]at h;subst h;rw[SS.as_put]at h3;simp only[h3];exact⟨rfl,h4,h5⟩
def ajQ(d:Nat):List (Nat×AV)->Bool
 | []=>true
 | (_,v)::r=>AV.nL d [v]&&ajQ d r
def amB(d:Nat):List (Nat×AO)->Bool
 | []=>true
 | (_,o)::r=>o.aak d&&amB d r
def SS.aak(s:SS)(d:Nat):Bool:=ajQ d s.l&&amB d s.objs&&!abW d
theorem afI{d:Nat}:∀{l:List (Nat×AV)},ajQ d l=true->∀{t:Nat} {v:AV},(t,v)∈l->AV.nL d [v]=true
 | [],_,_,_,h=>by cases h
 | (i,u)::r,hn,t,v,h=>by
  simp only[ajQ,Bool.and_eq_true]at hn;rcases List.mem_cons.1 h with e|h
  ·cases e;exact hn.1
  ·exact afI hn.2 h
theorem afK{d:Nat}:∀{cs:List AV},(∀c∈cs,AV.nL d [c]=true)->AV.nL d cs=true
 | [],_=>by simp[AV.nL]
 | c::r,h=>aav.2 ⟨h c (List.mem_cons_self ..),afK fun x hx=>h x (List.mem_cons_of_mem _ hx)⟩
def SS.noref_as{s:SS}{d:Nat}(h:s.aak d=true):s.st.aak d=true:=by
 simp only[SS.aak,Bool.and_eq_true]at h;obtain⟨⟨h1,h2⟩,h3⟩:=h;simp only[AS.aak,Bool.and_eq_true];refine⟨⟨afK fun c hc=>?_,?_⟩,h3⟩
 ·obtain⟨t,_,rfl⟩:=List.mem_map.1 hc;rcases adF (l:=s.l) (t:=t)with q|q
  ·rw[q];simp[AV.nL]
  ·exact afI h1 q
 ·show s.objs.all _=true;generalize s.objs=l at h2
  induction l with
  | nil=>rfl
  | cons p r ih=>
   obtain⟨k,o⟩:=p;simp only[amB,Bool.and_eq_true]at h2;simp only[List.all_cons,Bool.and_eq_true];exact⟨h2.1,ih h2.2⟩
def aij(s:SS)(p:Nat->Bool):List Nat->Bool
 | []=>true
 | d::r=>s.aak d&&p d&&aij s p r
def ahx(s:SS):List Log->List Log->Bool
 | _,[]=>true
 | seen,l::r=>aij s (fun d=>seen.all fun m=>!(m.refers d)) l.new&&ahx s (l::seen) r
theorem adY{s:SS}{p:Nat->Bool}:∀{l:List Nat},aij s p l=true->∀d∈l,s.st.aak d=true∧p d=true
 | [],_,_,h=>by cases h
 | a::r,hn,d,h=>by
  simp only[aij,Bool.and_eq_true]at hn;rcases List.mem_cons.1 h with rfl|h
  ·exact⟨SS.noref_as hn.1.1,hn.1.2⟩
  ·exact adY hn.2 d h
theorem ahw{s:SS}:∀{logs seen:List Log},ahx s seen logs=true->agv s.st seen logs=true
 | [],_,_=>rfl
 | l::r,seen,h=>by
  simp only[ahx,Bool.and_eq_true]at h;simp only[agv,Bool.and_eq_true,List.all_eq_true];exact⟨fun d hd=>let ⟨a,b⟩:=adY h.1 d hd;⟨a,List.all_eq_true.1 b⟩,ahw h.2⟩
def chkD(c:Nat)(l:Log):List (Nat×Log)->Bool
 | []=>true
 | (i,m)::r=>(l.new.all fun d=>!(m.refers d))&&(match c.testBit i with|true=>true|false=>!(m.clash l)&&m.new.all fun d=>!(l.refers d))&&chkD c l r
def aeI(s:SS):List (Nat×Log)->Nat->List Nat->List Log->Bool
 | seen,j,c::cs,l::ls=>Nat.beq (c >>> j) 0&&aij s (fun _=>true) l.new&&chkD c l seen&&aeI s ((j,l)::seen) (j+1) cs ls
 | _,_,_,[]=>true
 | _,_,[],_::_=>false
def abX{a b:List Nat}:hits a b=hits b a:=by
 have:∀{a b:List Nat},hits a b=true->hits b a=true:=by
  intro a b h;obtain⟨x,h1,h2⟩:=List.any_eq_true.1 h;exact List.any_eq_true.2 ⟨x,by simpa using h2,by simpa using h1⟩
 rw[Bool.eq_iff_iff];exact⟨this,this⟩
def hits_app{a b c:List Nat}:hits a (b++c)=(hits a b||hits a c):=by
 rw[Bool.eq_iff_iff];simp only[hits,List.any_eq_true,Bool.or_eq_true];constructor
 ·rintro⟨x,h1,h2⟩;simp only[List.contains_eq_mem,List.mem_append,decide_eq_true_eq]at h2;exact h2.elim (fun h=>.inl ⟨x,h1,by simpa using h⟩) fun h=>.inr ⟨x,h1,by simpa using h⟩
 ·rintro(⟨x,h1,h2⟩|⟨x,h1,h2⟩)
  ·exact⟨x,h1,by simp only[List.contains_eq_mem,List.mem_append,decide_eq_true_eq]at h2 ⊢;exact .inl h2⟩
  ·exact⟨x,h1,by simp only[List.contains_eq_mem,List.mem_append,decide_eq_true_eq]at h2 ⊢;exact .inr h2⟩
def al9(a b:Log):a.clash b=b.clash a:=by
 simp only[Log.clash,hits_app]
 rw[abX (a:=b.wt.map (·.1)) (b:=a.rt),abX (a:=b.wt.map (·.1)) (b:=a.wt.map (·.1)),abX (a:=b.rt) (b:=a.wt.map (·.1)),
  abX (a:=b.wo.map (·.1)) (b:=a.ro),abX (a:=b.wo.map (·.1)) (b:=a.wo.map (·.1)),abX (a:=b.ro) (b:=a.wo.map (·.1))]
 generalize hits (a.wt.map (·.1)) b.rt=p1;generalize hits (a.wt.map (·.1)) (b.wt.map (·.1))=p2;generalize hits a.rt (b.wt.map (·.1))=p3;generalize hits (a.wo.map (·.1)) b.ro=p4;generalize hits (a.wo.map (·.1)) (b.wo.map (·.1))=p5;generalize hits a.ro (b.wo.map (·.1))=p6;cases p1<;>cases p2<;>cases p3<;>cases p4<;>cases p5<;>cases p6<;>rfl
theorem anl{c:Nat}{l:Log}:∀{r:List (Nat×Log)},chkD c l r=true->∀{i:Nat} {m:Log},(i,m)∈r->(∀d∈l.new,m.refers d=false)∧(c.testBit i=true∨(m.clash l=false∧∀d∈m.new,l.refers d=false))
 | [],_,_,_,h=>by cases h
 | (k,x)::r,hk,i,m,h=>by
  simp only[chkD,Bool.and_eq_true,List.all_eq_true,Bool.not_eq_true']at hk;rcases List.mem_cons.1 h with e|h
  ·cases e;refine⟨hk.1.1,?_⟩;have h2:=hk.1.2;split at h2
   ·rename_i hb;exact .inl hb
   ·simp only[Bool.and_eq_true,List.all_eq_true,Bool.not_eq_true']at h2;exact .inr h2
  ·exact anl hk.2 h
structure PairOk(s:SS)(cs:List Nat)(logs:List Log)(j:Nat)(l:Log):Prop where
 lt:∀i,((cs.getD j 0).testBit i=true)->i<j
 new:∀d∈l.new,s.st.aak d=true
 pair:∀(i:Nat) (m:Log),i<j->logs[i]? = some m->(∀d∈l.new,m.refers d=false)∧((cs.getD j 0).testBit i=true∨(m.clash l=false∧∀d∈m.new,l.refers d=false))
theorem ahy{s:SS}{CS:List Nat}{LS:List Log}:∀(ls:List Log) (cs:List Nat) (j:Nat) (seen:List (Nat×Log)),aeI s seen j cs ls=true->CS.drop j=cs->LS.drop j=ls->(∀i m,i<j->LS[i]? = some m->(i,m)∈seen) ->
 ∀(k:Nat) (l:Log),j<=k->LS[k]? = some l->PairOk s CS LS k l
 | [],cs,j,seen,_,_,hls,_,k,l,hk,hl=>by
  have h1:LS.length<=j:=List.drop_eq_nil_iff.1 hls;have:=(List.getElem?_eq_some_iff.1 hl).1;omega
 | l0::ls,[],j,seen,h,_,_,_,_,_,_,_=>by simp[aeI]at h
 | l0::ls,c::cs,j,seen,h,hcs,hls,hseen,k,l,hk,hl=>by
  simp only[aeI,Bool.and_eq_true]at h;have hl0:LS[j]? = some l0:=by
   have:=congrArg (fun x=>x[0]?) hls;simpa[List.getElem?_drop]using this
  have hc:CS.getD j 0=c:=by
   have:=congrArg (fun x=>x[0]?) hcs;simp only[List.getElem?_drop,Nat.add_zero,List.getElem?_cons_zero]at this;simp[List.getD_eq_getElem?_getD,this]
  rcases Nat.lt_or_eq_of_le hk with hk|rfl
  ·refine ahy ls cs (j+1) ((j,l0)::seen) h.2 ?_ ?_ (fun i m hi hm=>?_) k l hk hl
   ·rw[<- List.drop_drop,hcs];rfl
   ·rw[<- List.drop_drop,hls];rfl
   ·rcases Nat.lt_succ_iff_lt_or_eq.1 hi with hi|rfl
    ·exact List.mem_cons_of_mem _ (hseen i m hi hm)
    ·rw[hl0]at hm;cases hm;exact List.mem_cons_self ..
  ·rw[hl0]at hl;cases hl;have hz:c >>> j=0:=Nat.eq_of_beq_eq_true h.1.1.1;refine⟨fun i hi=>?_,fun d hd=>(adY h.1.1.2 d hd).1,fun i m hi hm=>?_⟩
   ·rw[hc]at hi;refine Nat.lt_of_not_le fun hij=>?_;have:(c >>> j).testBit (i-j)=true:=by rw[Nat.testBit_shiftRight];rw[show j+(i-j)=i by omega];exact hi
    rw[hz]at this;simp at this
   ·rw[hc];exact anl h.1.2 (hseen i m hi hm)
def amo{s:SS}{ops:List Oper}{logs:List Log}(h:aeI s [] 0 (clos ops []) logs=true):acS s.st (aif true ops) logs=true:=by
 have key:=ahy (CS:=clos ops []) (LS:=logs) logs (clos ops []) 0 [] h (by simp) (by simp) (fun i m hi=>by omega);have hbef:∀i j,aif true ops i j=((clos ops []).getD j 0).testBit i:=fun i j=>rfl;simp only[acS,List.all_eq_true,Bool.and_eq_true];rintro⟨l,i⟩ hli;have hl:=(List.mem_zipIdx_iff_getElem?.1 hli)
 simp only at hl;have kl:=key i l (Nat.zero_le _) hl;refine⟨kl.new,?_⟩;rintro⟨m,j⟩ hmj;have hm:=(List.mem_zipIdx_iff_getElem?.1 hmj)
 simp only at hm;have km:=key j m (Nat.zero_le _) hm;simp only[hbef];refine⟨⟨?_,?_⟩,?_⟩
 ·by_cases hb:((clos ops []).getD j 0).testBit i=true
  ·simp[hb,km.lt i hb]
  ·simp only[Bool.not_eq_true]at hb;rw[hb];rfl
 ·rcases Nat.lt_trichotomy i j with hij|rfl|hij
  ·rcases(km.pair i l hij hl).2 with q|q
   ·simp only[q,Bool.or_true,Bool.true_or]
   ·rw[q.1];simp
  ·simp
  ·rcases(kl.pair j m hij hm).2 with q|q
   ·simp only[q,Bool.or_true]
   ·rw[al9,q.1];simp
 ·rcases Nat.lt_trichotomy i j with hij|rfl|hij
  ·rcases(km.pair i l hij hl).2 with q|q
   ·simp only[q,Bool.or_true,Bool.or_eq_true,List.all_eq_true];exact .inr fun _ _=>trivial
   ·simp only[Bool.or_eq_true,List.all_eq_true,Bool.not_eq_true'];exact .inr fun d hd=>.inl (q.2 d hd)
  ·simp
  ·have q:=(kl.pair j m hij hm).1;simp only[Bool.or_eq_true,List.all_eq_true,Bool.not_eq_true'];exact .inr fun d hd=>.inl (q d hd)
def afr(m:Nat):List (Nat×AV)->List (Nat×AV)
 | []=>[]
 | (t,v)::r=>match m.testBit t with|true=>(t,v)::afr (m ^^^ (1 <<< t)) r|false=>afr m r
def refP:List (Nat×AV)->List Nat
 | []=>[]
 | (_,v)::r=>refL [v]++refP r
where
 refL:List AV->List Nat
 | []=>[]
 | .ptr o _::r=>o::refL r
 | .aptr o _ _ _ _ _::r=>o::refL r
 | .aref o _ _::r=>o::refL r
 | .bref o _::r=>o::refL r
 | .bptr _ o::r=>o::refL r
 | .agg cs::r=>refL cs++refL r
 | .tup cs::r=>refL cs++refL r
 | .func _ cs::r=>refL cs++refL r
 | .may _ v::r=>refL [v]++refL r
 | _::r=>refL r
def refO(ks:List Nat):List (Nat×AO)->List Nat
 | []=>[]
 | (o,.box cs)::r=>if abW o||ks.contains o then refP.refL cs++refO ks r else refO ks r
 | _::r=>refO ks r
def ahX(ks:List Nat):List (Nat×AO)->List (Nat×AO)
 | []=>[]
 | (o,ob)::r=>if abW o||ks.contains o then(o,ob)::ahX ks r else ahX ks r
def am3(l:List (Nat×AO))(ks:List Nat):List Nat:=ks++refO ks l
def SS.prune(s:SS)(m:Nat):SS:=
 match afr m s.l with
 | t=>⟨s.n,t,match am3 s.objs (refP t)with|ks=>match am3 s.objs ks with|ks=>ahX (am3 s.objs ks) s.objs⟩
theorem aeQ(m:Nat):∀(l:List (Nat×AV)),∀p∈afr m l,p∈l
 | [],p,h=>by cases h
 | (t,v)::r,p,h=>by
  simp only[afr]at h;split at h
  ·rcases List.mem_cons.1 h with rfl|h
   ·exact List.mem_cons_self ..
   ·exact List.mem_cons_of_mem _ (aeQ _ r p h)
  ·exact List.mem_cons_of_mem _ (aeQ _ r p h)
theorem adP:∀(l:List (Nat×AV)) (m t:Nat),(m.testBit t=false->aaB (afr m l) t=.any)∧(aaB (afr m l) t=.any∨aaB (afr m l) t=aaB l t)
 | [],m,t=>⟨fun _=>rfl,.inl rfl⟩
 | (i,v)::r,m,t=>by
  simp only[afr];split
  ·rename_i hm;by_cases e:i=t
   ·subst e;rw[acj,acj];exact⟨fun q=>(by rw[hm]at q;cases q),.inr rfl⟩
   ·rw[abO e,abO e];obtain⟨h1,h2⟩:=adP r (m ^^^ (1 <<< i)) t;refine⟨fun q=>h1 ?_,h2⟩;rw[Nat.testBit_xor,q,Nat.one_shiftLeft,Nat.testBit_two_pow];simp[e]
  ·rename_i hm;obtain⟨h1,h2⟩:=adP r m t;refine⟨h1,?_⟩;by_cases e:i=t
   ·subst e;exact .inl (h1 hm)
   ·rw[abO e];exact h2
theorem afZ(ks:List Nat)(o:Nat):∀(l:List (Nat×AO)),oL (ahX ks l) o=oL l o∨oL (ahX ks l) o=.none
 | []=>.inl rfl
 | (k,ob)::r=>by
  have ih:=afZ ks o r;simp only[ahX];split
  ·simp only[oL];split
   ·exact .inl rfl
   ·exact ih
  ·rename_i hk;simp only[oL];split
   ·rename_i e;subst e;right;have:∀l:List (Nat×AO),oL (ahX ks l) k=.none:=by
     intro l
     induction l with
     | nil=>rfl
     | cons p q ih=>
      obtain⟨k2,ob2⟩:=p;simp only[ahX];split
      ·rename_i h2;simp only[oL];split
       ·rename_i e;subst e;exact absurd h2 hk
       ·exact ih
      ·exact ih
    exact this r
   ·exact ih
def alq{S:AS}{t':List AV}{objs':List (Nat×AO)}(hl:t'.length=S.tmps.length)(ht:∀(j:Nat) (v:AV),t'[j]? = some v->v=.any∨S.tmps[j]? = some v)(ho:∀o,oL objs' o=S.obj o∨oL objs' o=.none):Weak S ⟨t',objs'⟩:=by
 intro E a w ⟨β,h⟩;have hi:∀o,(oL objs' o).is->oL objs' o=S.obj o:=fun o q=>(ho o).elim id fun e=>by rw[e]at q;exact q.elim
 have hD:∀b,E.D w β S.obj b->E.D w β (oL objs') b:=fun b q=>⟨q.1,q.2.1,fun o q2=>q.2.2 o (by rw[<- hi o q2];exact q2)⟩
 have hrd:∀av v,RD w (E.D w β S.obj) E.B av v->RD w (E.D w β (oL objs')) E.B av v:=fun av v q=>q.mono (fun _ _=>rfl) hD (Nat.le_refl _);have hrx:∀av v,RX w (E.D w β S.obj) E.B β S.obj av v->RX w (E.D w β (oL objs')) E.B β (oL objs') av v:=fun av v q=>
  q.map hrd (fun o off v q=>by obtain⟨b,h1,rfl⟩:=q.aa6;exact .ptr _ _ b h1)
   (fun o ver n v q=>by
     obtain⟨h1,h2⟩:=q.aI;exact .aref _ _ _ _ h1 fun x t sz' ver' n' f hH=>h2 x t sz' ver' n' f (by rw[<- hi o (by rw[hH];trivial)];exact hH))
   (fun o sz ver n i off v q=>by
     obtain⟨h1,h2,h3⟩:=q.aaF;exact .aptr _ _ _ _ _ _ _ h1 h2 fun x t sz' ver' n' f hH=>h3 x t sz' ver' n' f (by rw[<- hi o (by rw[hH];trivial)];exact hH))
 refine⟨β,h.defers,h.size.trans hl.symm,fun t av q=>?_,fun o=>?_,fun o o' b hne h1 h2 h3 h4=>h.apart o o' b hne (by rw[<- hi o h1];exact h1) (by rw[<- hi o' h2];exact h2) h3 h4,h.frame,fun o v n0 hp=>?_⟩
 ·rcases ht t av q with rfl|q2
  ·exact .d (.any _)
  ·exact hrx _ _ (h.tmps t av q2)
 ·show OR E w β (oL objs') o (oL objs' o);rcases ho o with e|e
  ·rw[e];exact(h.objs o).mono rfl (fun _ _=>rfl) (fun cs _ i av v _ q=>hrx _ _ q) hrd
  ·rw[e];trivial
 ·obtain⟨h1,h2⟩:=h.pin o v n0 hp;refine⟨fun cs (q:oL objs' o=_)=>h1 cs (by rw[<- hi o (by rw[q];trivial)];exact q),fun x t sz ver n f (q:oL objs' o=_) hv=>h2 x t sz ver n f (by rw[<- hi o (by rw[q];trivial)];exact q) hv⟩
def SS.akl(s:SS)(m:Nat):Weak s.st (s.prune m).st:=by
 refine alq (S:=s.st) (by simp[SS.prune,SS.st]) (fun j v hj=>?_) (fun o=>afZ _ o s.objs);by_cases hlt:j<s.n
 ·have h1:(List.map (aaB (s.prune m).l) (List.range (s.prune m).n))[j]? = some (aaB (afr m s.l) j):=by simp[SS.prune,hlt]
  rw[h1]at hj;cases hj;rcases(adP s.l m j).2 with q|q
  ·exact .inl q
  ·right;rw[s.akf hlt,q]
 ·rw[List.getElem?_eq_none (by simp[SS.prune];omega)]at hj;cases hj
def SS.ok_prune{s:SS}(hk:s.ok)(m:Nat):(s.prune m).ok:=fun p hp=>hk p (aeQ m s.l p hp)
def SS.ini(n:Nat)(args:List AV)(objs:List (Nat×AO)):SS:=⟨n,go 0 args,objs⟩
where
 go:Nat->List AV->List (Nat×AV)
 | _,[]=>[]
 | i,v::r=>(i,v)::go (i+1) r
theorem ajY:∀(args:List AV) (i j:Nat),aaB (SS.ini.go i args) (i+j)=args.getD j .any
 | [],i,j=>rfl
 | v::r,i,0=>by simp[SS.ini.go,acj]
 | v::r,i,j+1=>by
  rw[SS.ini.go,abO (by omega),show i+(j+1)=(i+1)+j by omega,ajY r];simp
theorem amY:∀(args:List AV) (i:Nat),∀p∈SS.ini.go i args,p.1<i+args.length
 | [],i,p,h=>by cases h
 | v::r,i,p,h=>by
  rcases List.mem_cons.1 h with rfl|h
  ·simp
  ·have:=amY r (i+1) p h;simp;omega
def SS.ini_as{n:Nat}{args:List AV}(objs:List (Nat×AO))(h:args.length<=n):(SS.ini n args objs).st=⟨args++List.replicate (n-args.length) .any,objs⟩:=by
 unfold SS.st SS.ini;congr 1;refine List.ext_getElem? fun j=>?_;by_cases hj:j<n
 ·have:=ajY args 0 j;rw[Nat.zero_add]at this;simp only[List.getElem?_map,List.getElem?_range hj,Option.map_some,this];by_cases hl:j<args.length
  ·rw[List.getElem?_append_left hl];simp[hl]
  ·rw[List.getElem?_append_right (by omega),List.getElem?_replicate,if_pos (by omega)];simp[List.getElem?_eq_none (Nat.le_of_not_lt hl)]
 ·rw[List.getElem?_eq_none (by simp;omega),List.getElem?_eq_none (by simp;omega)]
def SS.ini_ok{n:Nat}{args:List AV}(objs:List (Nat×AO))(h:args.length<=n):(SS.ini n args objs).ok:=fun p hp=>by
 have:=amY args 0 p hp;show p.1<n;omega
structure Ca(p q:Unit->Prop)(X Y:Prop):Prop where
 t:p ()->X
 f:q ()->Y
structure Cv(b:Unit->Bool)(X Y:Prop):Prop where
 t:b ()=true->X
 f:b ()=false->Y
structure Stuck(id:Nat):Prop where
 no:False
def orcOf:List (Nat×Orc)->Nat->Orc
 | [],_=>[]
 | (i,o)::r,j=>if i=j then o else orcOf r j
def AWp.am6{ro:Option Nat}{P:Program}{E:Env}{c:Code}{K:Exit->Env->AS->Prop}{S:AS}(h:AWp ro P E c (fun e E' S'=>∃S'',Weak S' S''∧K e E' S'') S):AWp ro P E c K S:=
 fun a w hr=>Go.wpIn_mono (h a w hr) fun _ _ _ ⟨E',_,h0,⟨S2,h1,h3⟩,h2⟩=>⟨E',S2,h0,h3,h1 _ _ _ h2⟩
abbrev KK:=Exit->Env->AS->Prop
abbrev KS:=Exit->Env->SS->Prop
structure ObVC(P:Unit->Program)(c:Option (Unit->Bool)×CallOb):Prop where
 h:CallOb.ok (P ()) c
structure LpVC(ro:Option Nat)(P:Unit->Program)(E:Env)(c:Code)(K:KS)(s:SS):Prop where
 h:s.ok->AWp ro (P ()) E c (fun e E S=>∃s,S=s.st∧s.ok∧K e E s) s.st
structure EndVC(K:KK)(e:Exit)(E:Env)(s:SS):Prop where
 h:s.ok->K e E s.st
def wk(ro:Option Nat)(P:Unit->Program)(T:Unit->List (Nat×TI))(orc:Unit->List (Nat×Orc))(kp:Unit->List Nat):Code->KS->Env->SS->Prop
 | .skip,k,E,s=>k .normal E s
 | .exit id,k,E,s=>k (.exit id) E s
 | .ret,k,E,s=>k .ret E s
 | .region id ops draw,k,E,s=>match alg (T ()) (orcOf (orc ()) id) ops 0 ops.toList s with
  | none=>Stuck id
  | some ⟨s',conds,calls,logs⟩=>match s'.prune ((kp ()).getD id 0)with
   | ⟨n,t,o⟩=>VC (if draw then aeI s [] 0 (clos ops.toList []) logs&&abQ 0 ops.toList else ahx s [] logs) conds calls (fun c=>ObVC P c) (k .normal E ⟨n,t,o⟩)
 | .seq a b,k,E,s=>wk ro P T orc kp a (fun e E' s'=>match e with|.normal=>wk ro P T orc kp b k E' s'|e=>k e E' s') E s
 | .cond t x y,k,E,s=>match t with
  | .tmp t=>match aaB s.l t with
   | .bool b=>Cv b (wk ro P T orc kp x k E s) (wk ro P T orc kp y k E s)
   | .anyb p q=>Ca p q (wk ro P T orc kp x k E s) (wk ro P T orc kp y k E s)
   | _=>Stuck 1000000
  | .const (.bool true)=>wk ro P T orc kp x k E s
  | .const (.bool false)=>wk ro P T orc kp y k E s
  | _=>Stuck 1000001
 | .block id c,k,E,s=>wk ro P T orc kp c (fun e E' s'=>match e with|.exit i=>if i=id then k .normal E' s' else k (.exit i) E' s'|e=>k e E' s') E s
 | .loop c,k,E,s=>LpVC ro P E (.loop c) k s
 | .rangeFunc f ps c d,k,E,s=>LpVC ro P E (.rangeFunc f ps c d) k s
 | _,_,_,_=>Stuck 1000002
section
variable {ro:Option Nat}{P:Program}{T:List (Nat×TI)}
def akG{s:SS}{ops:Array Oper}{draw:Bool}{logs:List Log}(h:(if draw then aeI s [] 0 (clos ops.toList []) logs&&abQ 0 ops.toList else ahx s [] logs)=true):
 (if draw then acS s.st (aif true ops.toList) logs&&abQ 0 ops.toList else agv s.st [] logs)=true:=by
 cases draw with
 | true=>
  simp only[if_true,Bool.and_eq_true]at h ⊢;exact⟨amo h.1,h.2⟩
 | false=>
  simp only[Bool.false_eq_true,if_false]at h ⊢;exact ahw h
def ade(hT:TOk P T)(hm:P.follows .mixedOrders=true)(orc:Unit->List (Nat×Orc))(kp:Unit->List Nat):∀(c:Code) (k:KS) (K:KK) (E:Env) (s:SS),
 s.ok->(∀e E' s',s'.ok->k e E' s'->K e E' s'.st)->wk ro (fun _=>P) (fun _=>T) orc kp c k E s->AWp ro P E c K s.st:=by
 intro c
 induction c with
 | skip=>exact fun k K E s hs hk h=>.skip (hk _ _ _ hs h)
 | exit id=>exact fun k K E s hs hk h=>.exit (hk _ _ _ hs h)
 | ret=>exact fun k K E s hs hk h=>.ret (hk _ _ _ hs h)
 | region id ops draw=>
  intro k K E s hs hk h;refine .am6 (.region hT hm (orcOf (orc ()) id) fun ob K' hob hK=>?_);simp only[wk]at h;unfold adl;cases hq:alg T (orcOf (orc ()) id) ops 0 ops.toList s with
  | none=>rw[hq]at h;exact h.no.elim
  | some o=>
   rw[hq]at h;obtain⟨h1,h2,_⟩:=akg _ _ _ _ hs hq;rw[h1];exact⟨akG h.ok,h.conds,fun c hc=>hob c (h.calls c hc).h,hK _ ⟨_,SS.akl _ _,hk _ _ _ (SS.ok_prune h2 _) h.next⟩⟩
 | seq a b iha ihb=>
  intro k K E s hs hk h;refine .seq (iha _ _ E s hs (fun e E' s' hs' h1=>?_) h);cases e with
  | normal=>exact ihb _ _ _ _ hs' hk h1
  | _=>exact hk _ _ _ hs' h1
 | cond t x y ihx ihy=>
  intro k K E s hs hk h;simp only[wk]at h;split at h
  ·split at h
   ·rename_i hb;exact .cond (by rw[SS.ag6 hs];exact hb) (fun e=>ihx _ _ _ _ hs hk (h.t e)) (fun e=>ihy _ _ _ _ hs hk (h.f e))
   ·rename_i hb;exact .cond_any (by rw[SS.ag6 hs];exact hb) (fun e=>ihx _ _ _ _ hs hk (h.t e)) (fun e=>ihy _ _ _ _ hs hk (h.f e))
   ·exact h.no.elim
  ·exact .condT (ihx _ _ _ _ hs hk h)
  ·exact .condF (ihy _ _ _ _ hs hk h)
  ·exact h.no.elim
 | block id c ih=>
  intro k K E s hs hk h;refine .block (ih _ _ _ _ hs (fun e E' s' hs' h1=>?_) h);cases e with
  | exit i=>
   simp only[acV];simp only at h1;by_cases e:i=id
   ·rw[if_pos e]at h1 ⊢;exact hk _ _ _ hs' h1
   ·rw[if_neg e]at h1 ⊢;exact hk _ _ _ hs' h1
  | _=>exact hk _ _ _ hs' h1
 | loop c ih=>exact fun k K E s hs hk h=>AWp.mono (h.h hs) fun e E' S' _ ⟨s',h0,h1,h2⟩=>by rw[h0];exact hk _ _ _ h1 h2
 | rangeFunc f ps c d=>exact fun k K E s hs hk h=>AWp.mono (h.h hs) fun e E' S' _ ⟨s',h0,h1,h2⟩=>by rw[h0];exact hk _ _ _ h1 h2
 | _=>exact fun k K E s hs hk h=>Stuck.no h |>.elim
def SS.okB(s:SS):Bool:=s.l.all fun p=>Nat.blt p.1 s.n
def SS.ok_of{s:SS}(h:s.okB=true):s.ok:=fun p hp=>by
 have:=List.all_eq_true.1 h p hp
 rwa [Nat.blt_eq]at this
def AWp.wk(hT:TOk P T)(hm:P.follows .mixedOrders=true)(orc:List (Nat×Orc))(kp:List Nat){c:Code}{K:KK}{E:Env}{s:SS}
 (h:Go.Ai.wk ro (fun _=>P) (fun _=>T) (fun _=>orc) (fun _=>kp) c (fun e E s=>EndVC (fun e E S=>K e E S) e E s) E s) (hs:s.okB=true:=by rfl):AWp ro P E c K s.st:=
 ade hT hm (fun _=>orc) (fun _=>kp) c _ K E s (SS.ok_of hs) (fun _ _ _ hs' h=>h.h hs') h
def wI{ro:Option Nat}{P:Unit->Program}{T:Unit->List (Nat×TI)}{orc:Unit->List (Nat×Orc)}{kp:Unit->List Nat}{c:Code}{k:KS}{E:Env}{s:SS}(h:Go.Ai.wk ro P T orc kp c k E s):Go.Ai.wk ro P T orc kp c k E s:=h
end
def sideL(l:List (Nat×AV)):List (Nat×AV)->List AV
 | []=>[]
 | (t,_)::r=>aaB l t::sideL l r
def valsL:List (Nat×AV)->List AV
 | []=>[]
 | (_,v)::r=>v::valsL r
def ah1(s s':SS):Prop:=
 match(wkL s.obj s'.obj (sideL s.l s'.l) (valsL s'.l)).and (wkOs s.obj s'.obj s'.objs)with
 | none=>False
 | some cs=>(Nat.beq s.n s'.n&&s'.l.all fun p=>Nat.blt p.1 s'.n)=true∧∀c∈cs,c ()
theorem ajv{l:List (Nat×AV)}:∀{l':List (Nat×AV)} {t:Nat} {v:AV},(t,v)∈l'->∃j:Nat,(sideL l l')[j]? = some (aaB l t)∧(valsL l')[j]? = some v
 | [],_,_,h=>by cases h
 | (i,u)::r,t,v,h=>by
  rcases List.mem_cons.1 h with e|h
  ·cases e;exact⟨0,rfl,rfl⟩
  ·obtain⟨j,h1,h2⟩:=ajv (l:=l) h;exact⟨j+1,by simpa[sideL]using h1,by simpa[valsL]using h2⟩
def weakS_ok{s s':SS}(hc:ah1 s s'):s'.ok:=by
 unfold ah1 at hc;split at hc
 ·exact hc.elim
 ·obtain⟨h1,_⟩:=hc;simp only[Bool.and_eq_true,List.all_eq_true]at h1;exact fun p hp=>by have:=h1.2 p hp;rwa [Nat.blt_eq]at this
def aei{s s':SS}(hc:ah1 s s'):Weak s.st s'.st:=by
 unfold ah1 at hc;split at hc
 ·exact hc.elim
 ·rename_i cs hq;obtain⟨hn,hcs⟩:=hc;simp only[Bool.and_eq_true]at hn;have hn:s.n=s'.n:=Nat.eq_of_beq_eq_true hn.1;obtain⟨c1,c2⟩:=Cs.aaR ⟨cs,hq,hcs⟩;refine alr (S:=s.st) (S':=s'.st) c2 (by rw[SS.ake,SS.ake,hn]) fun ho ha hO t av' ht=>?_;have hlt:t<s'.n:=by rw[<- s'.ake];exact(List.getElem?_eq_some_iff.1 ht).1
  rw[s'.akf hlt]at ht;cases ht;refine⟨aaB s.l t,s.akf (by omega),fun v hv=>?_⟩;rcases adF (l:=s'.l) (t:=t)with q|q
  ·rw[q];exact .d (.any _)
  ·obtain⟨g1,g2⟩:=aez (O:=s.obj) (O':=s'.obj) ho ha hO _ _ c1;obtain⟨j,h1,h2⟩:=ajv (l:=s.l) q;exact g2 j _ _ _ h1 h2 hv
def res1S(T:List (Nat×TI))(s:SS):ResultVar->Option AV
 | .tmp t=>some (aaB s.l t)
 | .cell p t=>match aaB s.l p with
  | .ptr o off=>if(aa3 T t).real then match(ahI (aa3 T t) (.ptr o off)).runS s with
   | some ⟨e,[],_,_⟩=>some e.dst
   | _=>none
   else none
  | _=>none
def resLS(T:List (Nat×TI))(s:SS):List ResultVar->Option (List AV)
 | []=>some []
 | r::l=>match res1S T s r,resLS T s l with
  | some v,some vs=>some (v::vs)
  | _,_=>none
theorem ajC{T:List (Nat×TI)}{s:SS}(hs:s.ok):∀(rs:List ResultVar),resLS T s rs=resL T s.st rs
 | []=>rfl
 | r::l=>by
  have h1:res1S T s r=res1 T s.st r:=by
   cases r with
   | tmp t=>simp only[res1S,res1,SS.ag6 hs]
   | cell p t=>
    simp only[res1S,res1,SS.ag6 hs,M.aeE hs];cases aaB s.l p<;>first|rfl|(simp only[];split<;>first|rfl|(split<;>rfl))
  simp only[resLS,resL,h1,ajC hs l];rfl
def retS(T:List (Nat×TI))(rs:List ResultVar)(res:AV)(objs':List (Nat×AO))(s:SS):Prop:=
 match resLS T s rs with
 | none=>False
 | some l=>acp ⟨[resO l],s.objs⟩ ⟨[res],objs'⟩
def alW{T:List (Nat×TI)}{rs:List ResultVar}{res:AV}{objs':List (Nat×AO)}{s:SS}(hs:s.ok)(h:retS T rs res objs' s):alV T rs res objs' s.st:=by
 unfold retS at h;rw[ajC hs]at h;exact h
section
variable {ro:Option Nat}{P:Program}
def LpVC.loop{c:Code}{K:KS}{E:Env}{s:SS}{ι:Type}(I:ι->SS)(Inv:ι->Prop)(μ:ι->Nat)(i0:ι)(h0:Inv i0)(hw:ah1 s (I i0))
 (hr:∀i E',Inv i->AWp ro P E' c (adh (fun _ S'=>∃i',(Inv i'∧μ i'<μ i)∧Weak S' (I i').st) (fun e E S=>∃s,S=s.st∧s.ok∧K e E s)) (I i).st):LpVC ro (fun _=>P) E (.loop c) K s:=
 ⟨fun _=>.loop (fun i=>(I i).st) Inv μ ⟨i0,h0,aei hw⟩ fun i E' hi=>hr i E' hi⟩
def zipP:List Tmp->List AV->List (Nat×AV)->List (Nat×AV)
 | t::ts,v::vs,l=>zipP ts vs ((t,v)::l)
 | _,_,l=>l
def mapR:List (Nat×AV)->List (Nat×AV)
 | []=>[]
 | (t,v)::r=>(t,afp v)::mapR r
def alL:afp .any=.any:=by simp[afp]
theorem ahF:∀(l:List (Nat×AV)) (t:Nat),aaB (mapR l) t=afp (aaB l t)
 | [],t=>by simp[mapR,aaB,alL]
 | (i,v)::r,t=>by
  by_cases e:i=t
  ·subst e;rw[mapR,acj,acj]
  ·rw[mapR,abO e,abO e,ahF r t]
theorem afw{n:Nat}:∀(ps:List Tmp) (el:List AV) (l:List (Nat×AV)),adI ps el ((List.range n).map (aaB l))=(List.range n).map (aaB (zipP ps el l))
 | t::ts,v::vs,l=>by
  have:((List.range n).map (aaB l)).set t v=(List.range n).map (aaB ((t,v)::l)):=by
   refine List.ext_getElem? fun j=>?_;rw[List.getElem?_set];by_cases e:t=j
   ·subst e;simp only[if_true,List.length_map,List.length_range];by_cases hj:t<n
    ·simp[hj,acj]
    ·simp[hj]
   ·have h2:aaB ((t,v)::l) j=aaB l j:=abO e;simp only[if_neg e,List.getElem?_map];by_cases hj:j<n
    ·simp[hj,h2]
    ·simp[hj]
  simp only[adI,zipP,this];exact afw ts vs _
 | [],_,_=>by simp[adI,zipP]
 | _::_,[],_=>by simp[adI,zipP]
def LpVC.range{t:Tmp}{ps:Array Tmp}{assign body:Code}{K:KS}{E:Env}{s:SS}{f:FuncId}{caps caps':List AV}{res:Bool->Value->Prop}{seq:List (List AV)}
 (n:Nat) (l0:List (Nat×AV)) (M:List (List AV)->List (Nat×AO)) (Mx:Exit->List (List AV)->List (Nat×AO)) (Inv:List (List AV)->Prop) (Inx:Exit->List (List AV)->Prop) (hw:ah1 s ⟨n,l0,M []⟩) (hI0:Inv [])
 (hg:aaB l0 t=.func f caps) (hle:LeL caps caps') (hpure:AV.aae caps=true) (hspec:ISpec P f (fun l=>.val (.func (.yield l) #[] #[])::caps') res seq)
 (hflat:∀g,acn (M g)=true) (hflatx:∀e g,acn (Mx e g)=true) (hkey:∀g o,(oL (M g) o).is↔(oL (M []) o).is) (hkeyx:∀e g o,(oL (Mx e g) o).is↔(oL (M []) o).is)
 (hps:∀el∈seq,el.length=ps.size)
 (hbody:∀g el,g++[el] <+: seq->Inv g->∀E l,AWp (some l) P E assign (adh (fun _ S'=>∀E',AWp (some l) P E' body (ajA Inv Inx M Mx (g++[el])) S') (fun _ _ _=>False)) (⟨n,zipP ps.toList el (mapR l0),renM (M g)⟩:SS).st)
 (hdone:∀E',Ext E E'->Inv seq->K .normal E' ⟨n,l0,M seq⟩) (hstop:∀E' e pre,Ext E E'->Inx e pre->pre <+: seq->K e E' ⟨n,l0,Mx e pre⟩):
 LpVC none (fun _=>P) E (.rangeFunc (.tmp t) ps assign body) K s:=by
 have hok:(⟨n,l0,M []⟩:SS).ok:=weakS_ok hw;refine⟨fun _=>.weak (aei hw) ?_⟩;refine AWp.range (tmps:=(⟨n,l0,M []⟩:SS).st.tmps) (M:=M) (Mx:=Mx) (Inv:=Inv) (Inx:=Inx) hI0 (res:=res) (seq:=seq) (f:=f) (caps:=caps) (caps':=caps') ?_ hle hpure hspec hflat hflatx hkey hkeyx hps (fun g el hpre hi E l=>?_) (fun E' hE hi=>?_) (fun E' e pre hE hst hpre=>?_)
 ·have:=SS.ag6 hok t;exact this.trans hg
 ·have he:((⟨n,l0,M []⟩:SS).st.tmps.map afp)=(List.range n).map (aaB (mapR l0)):=by
   simp only[SS.st,List.map_map];refine List.map_congr_left fun t _=>?_;simp[ahF]
  rw[he,afw];exact hbody g el hpre hi E l
 ·exact⟨⟨n,l0,M seq⟩,rfl,hok,hdone E' hE hi⟩
 ·exact⟨⟨n,l0,Mx e pre⟩,rfl,hok,hstop E' e pre hE hst hpre⟩
def al5{n:Env->AS->Prop}{E:Env}{s:SS}(h:s.ok->n E s.st):EndVC (fun e E S=>adh n (fun _ _ _=>False) e E S) .normal E s:=⟨h⟩
section
variable {Inv:List (List AV)->Prop}{Inx:Exit->List (List AV)->Prop}{M:List (List AV)->List (Nat×AO)}{Mx:Exit->List (List AV)->List (Nat×AO)}{g:List (List AV)}{E:Env}{s:SS}
def end_next(hi:Inv g)(h:acp ⟨[],s.objs⟩ ⟨[],renM (M g)⟩):EndVC (fun e E S=>ajA Inv Inx M Mx g e E S) .normal E s:=⟨fun _=>⟨hi,aeA h⟩⟩
def ak4(hi:Inx .ret g)(h:acp ⟨[],s.objs⟩ ⟨[],renM (Mx .ret g)⟩):EndVC (fun e E S=>ajA Inv Inx M Mx g e E S) .ret E s:=⟨fun _=>⟨hi,aeA h⟩⟩
end
def sameO:AO->AO->Cs
 | .none,.none=>some []
 | .box _,.box _=>some []
 | .arr x t sz ver n _,.arr x' t' sz' ver' n' _=>if x==x'&&t==t'&&sz==sz'&&ver==ver' then some [fun _=>n ()=n' ()]else none
 | _,_=>none
def ahe(O':Nat->AO):List (Nat×AO)->Cs
 | []=>some []
 | (o,ob)::r=>(sameO ob (O' o)).and (ahe O' r)
theorem ahd{O':Nat->AO}:∀{l:List (Nat×AO)} (_:(ahe O' l).all) {o:Nat},(oL l o).is->(sameO (oL l o) (O' o)).all
 | [],_,_,hi=>hi.elim
 | (k,ob)::r,h,o,hi=>by
  simp only[ahe]at h;obtain⟨h1,h2⟩:=Cs.aaR h;simp only[oL]at hi ⊢;split
  ·rename_i e;subst e;exact h1
  ·rename_i e;rw[if_neg e]at hi;exact ahd h2 hi
def Af.out{P:Program}{f:FuncId}{args:List AV}{objs objs':List (Nat×AO)}{res:AV}(_:Af P f args objs res objs'):AV×List (Nat×AO):=(res,objs')
def argsVC(args:List AV)(objs:List (Nat×AO))(args':List AV)(objs':List (Nat×AO)):Prop:=
 match((wkL (oL objs) (oL objs') args args').and (wkOs (oL objs) (oL objs') objs')).and (ahe (oL objs') objs)with
 | none=>False
 | some cs=>∀c∈cs,c ()
def Af.wN{P:Program}{f:FuncId}{args args2:List AV}{objs objs2 objs':List (Nat×AO)}{res:AV}(h:Af P f args2 objs2 res objs')(hw:argsVC args objs args2 objs2):Af P f args objs res objs':=by
 have hcc:(((wkL (oL objs) (oL objs2) args args2).and (wkOs (oL objs) (oL objs2) objs2)).and (ahe (oL objs2) objs)).all:=by
  unfold argsVC at hw;split at hw
  ·exact hw.elim
  ·rename_i cs hq;exact⟨cs,hq,hw⟩
 obtain⟨c1,c2⟩:=Cs.aaR hcc;obtain⟨l,hl,hcs⟩:=c1;have hwk:acp ⟨args,objs⟩ ⟨args2,objs2⟩:=by
  unfold acp;show(match(wkL (oL objs) (oL objs2) args args2).and (wkOs (oL objs) (oL objs2) objs2)with|none=>False|some cs=>∀c∈cs,c ())
  rw[hl];exact hcs
 refine⟨h.ent,fun E β vs hpin hdf hY h0=>?_⟩;have h1:=aej hwk E ⟨vs,[]⟩ E.w0 β h0;refine(h.calls E _ vs hpin hdf hY h1).mono fun e w' hx=>?_;obtain⟨v,β',he,hr,hlk⟩:=hx;refine⟨v,β',he,hr,fun o hi=>?_⟩;have hs:=ahd c2 hi;have hno:∀{p:Prop},Cs.all none->p:=fun⟨l,h1,_⟩=>by cases h1
 have hβ:wβ (oL objs) β o=β o:=aex hi;show _∧(∀cs,oL objs o=.box cs->_)∧(∀x t sz ver n f,oL objs o=.arr x t sz ver n f->_)
 cases hq:oL objs o with
 | none=>rw[hq]at hi;exact hi.elim
 | box cs=>
  rw[hq]at hs;cases hq2:oL objs2 o with
  | none=>rw[hq2]at hs;exact hno hs
  | arr x t sz ver n f=>rw[hq2]at hs;exact hno hs
  | it ks f s p=>rw[hq2]at hs;exact hno hs
  | box cs2=>
   obtain⟨k1,k2,_⟩:=hlk o (by rw[hq2];trivial);exact⟨k1,fun _ _=>by have:=k2 _ hq2;exact⟨this.1,this.2.trans hβ⟩,fun x t sz ver n f q=>by cases q⟩
 | it ks f s p=>rw[hq]at hs;exact hno hs
 | arr x t sz ver n f=>
  rw[hq]at hs;cases hq2:oL objs2 o with
  | none=>rw[hq2]at hs;exact hno hs
  | box cs2=>rw[hq2]at hs;exact hno hs
  | it ks f s p=>rw[hq2]at hs;exact hno hs
  | arr x2 t2 sz2 ver2 n2 f2=>
   rw[hq2]at hs;simp only[sameO]at hs;split at hs
   ·rename_i e;simp only[Bool.and_eq_true,beq_iff_eq]at e;obtain⟨⟨⟨rfl,rfl⟩,rfl⟩,rfl⟩:=e;have hn:n ()=n2 ():=Cs.all_some hs _ (List.mem_singleton.2 rfl);obtain⟨k1,_,k3⟩:=hlk o (by rw[hq2];trivial);refine⟨k1,fun cs q=>(by cases q),fun x' t' sz' ver' n' f' q=>?_⟩;cases q;obtain⟨v',n',f',q1,q2⟩:=k3 _ _ _ _ _ _ hq2;refine⟨v',n',f',q1,q2.elim (fun⟨a,b,c⟩=>.inl ⟨a,b.trans hn.symm,c.trans hβ⟩) .inr⟩
   ·exact hno hs
def Af.apg{P:Program}{f:FuncId}{args:List AV}{objs objs2:List (Nat×AO)}{res res2:AV}(h:Af P f args [] res objs)(hw:acp ⟨[res],objs⟩ ⟨[res2],objs2⟩):Af P f args [] res2 objs2:=
 ⟨h.ent,fun E β vs hpin hdf hY h0=>(h.calls E β vs hpin hdf hY h0).mono fun e w' ⟨v,β',he,hr,_⟩=>⟨v,_,he,aej hw E ⟨#[v],[]⟩ w' β' hr,fun o hi=>hi.elim⟩⟩
def nO{P:Program}{c:CallOb}(h:Af P c.f c.args c.objs c.res c.objs'):ObVC (fun _=>P) (none,c):=⟨ai7 h⟩
def sO{P:Program}{c:CallOb}{g:Unit->Bool}(h:g ()=true->Af P c.f c.args c.objs c.res c.objs'):ObVC (fun _=>P) (some g,c):=⟨anq h⟩
def rE{T:List (Nat×TI)}{rs:List ResultVar}{res:AV}{objs:List (Nat×AO)}{E:Env}{s:SS}(h:retS T rs res objs s):EndVC (fun e E S=>retK T rs res objs e E S) .ret E s:=⟨fun hs=>aaD (alW hs h)⟩
def nE{T:List (Nat×TI)}{rs:List ResultVar}{res:AV}{objs:List (Nat×AO)}{E:Env}{s:SS}(h:retS T rs res objs s):EndVC (fun e E S=>retK T rs res objs e E S) .normal E s:=⟨fun hs=>rN (alW hs h)⟩
def xE{n:Env->AS->Prop}{K:KS}{i:Nat}{E:Env}{s:SS}(h:K (.exit i) E s):EndVC (fun e E S=>adh n (fun e E S=>∃s,S=s.st∧s.ok∧K e E s) e E S) (.exit i) E s:=⟨fun hs=>⟨s,rfl,hs,h⟩⟩
def uE{n:Env->AS->Prop}{K:KS}{E:Env}{s:SS}(h:K .ret E s):EndVC (fun e E S=>adh n (fun e E S=>∃s,S=s.st∧s.ok∧K e E s) e E S) .ret E s:=⟨fun hs=>⟨s,rfl,hs,h⟩⟩
def dE{ι:Type}{Inv:ι->Prop}{μ:ι->Nat}{i:ι}{I:ι->SS}{K:KK}{E:Env}{s:SS}(i':ι)(h:Inv i'∧μ i'<μ i)(hw:ah1 s (I i')):
 EndVC (fun e E S=>adh (fun _ S'=>∃i',(Inv i'∧μ i'<μ i)∧Weak S' (I i').st) K e E S) .normal E s:=⟨fun _=>⟨i',h,aei hw⟩⟩
def Af.of{T:List (Nat×TI)}(hT:TOk P T)(hm:P.follows .mixedOrders=true){f:FuncId}{fn:Func}{c:Code}{args:List AV}{objs objs':List (Nat×AO)}{res:AV}(rs:List ResultVar)(kp:List Nat)(orc:List (Nat×Orc))(hf:P.funcs[f]? = some fn)
 (h:∀E,wk none (fun _=>P) (fun _=>T) (fun _=>orc) (fun _=>kp) c (fun e E s=>EndVC (fun e E S=>retK T rs res objs' e E S) e E s) E (SS.ini fn.ntmps args objs))
 (hname : (fn.name == "runtime.NumGoroutine") = false := by rfl) (hb : fn.body = some c := by rfl) (hr : fn.results = rs.toArray := by rfl) (hl : amN objs' objs = true := by rfl) (hn : Nat.ble args.length fn.ntmps = true := by rfl) : Af P f args objs res objs' := by
 have hn:args.length<=fn.ntmps:=Nat.le_of_ble_eq_true hn;refine anM (rs:=rs) hT hf hname hb hr hl fun E=>?_;rw[<- SS.ini_as objs hn];exact ade hT hm (fun _=>orc) (fun _=>kp) c _ _ E _ (SS.ini_ok objs hn) (fun _ _ _ hs' h=>h.h hs') (h E)
end
def aaW(s:ByteArray):(s={ data:={ toList:=[] } })↔s.size=0:=by
 refine⟨fun h=>by rw[h];rfl,fun h=>?_⟩;cases s with|mk d=>
  have:d=#[]:=Array.eq_empty_of_size_eq_zero h;rw[this]
def w64{x:Int}(h1 : -9223372036854775808<=x)(h2:x<9223372036854775808):IntKind.i64.wrap x=x:=by
 simp[IntKind.wrap,IntKind.bits,IntKind.signed];omega
def w64n{n:Nat}(h:n<9223372036854775807):IntKind.i64.wrap ((n:Int)+1)=((n+1:Nat):Int):=by rw[w64]<;>omega
def aja{p:Prop}{i:Decidable p}:(@decide p i=true)=p:=by simp
def ajb{p:Prop}{i:Decidable p}:(@decide p i=false)=¬p:=by simp
def bl:((false=true)=False)∧((true=false)=False)∧(∀(a b:Bool),((a&&b)=true)=(a=true∧b=true))∧(∀(a b:Bool),((a||b)=true)=(a=true∨b=true)) ∧
 (∀(b:Bool),((!b)=true)=(b=false))∧(∀(b:Bool),(¬(b=true))=(b=false))∧(∀(a b:Bool),(a&&b)=false↔a=false∨b=false)∧(∀(a b:Bool),(a||b)=false↔a=false∧b=false) ∧
 (∀(b:Bool),((!b)=false)=(b=true))∧(∀{α:Type} [BEq α] [LawfulBEq α] {a b:α},(a==b)=true↔a=b)∧(∀{α:Type} [BEq α] [LawfulBEq α] {a b:α},(a==b)=false↔a≠b) ∧
 (∀{α:Type} [BEq α] [LawfulBEq α] {a b:α},(a != b)=true↔a≠b)∧(∀{α:Type} [BEq α] [LawfulBEq α] {a b:α},(a != b)=false↔a=b):=
 ⟨Bool.false_eq_true,Bool.true_eq_false,Bool.and_eq_true,Bool.or_eq_true,Bool.not_eq_true',Bool.not_eq_true,fun _ _=>Bool.and_eq_false_iff,fun _ _=>Bool.or_eq_false_iff,Bool.not_eq_false',beq_iff_eq,beq_eq_false_iff_ne,bne_iff_ne,bne_eq_false_iff_eq⟩
def dl:(∀{p:Prop} {i:Decidable p},(@decide p i=true)=p)∧(∀{p:Prop} {i:Decidable p},(@decide p i=false)=¬p)∧(∀{α:Type} (a b:α),(a≠b)=¬(a=b))∧(∀{p:Prop} [Decidable p],¬¬p↔p) ∧
 (∀{n m:Nat},(n:Int)<(m:Int)↔n<m)∧(∀{n m:Nat},(n:Int)<=(m:Int)↔n<=m)∧(∀(n:Nat),(n:Int).toNat=n)∧(∀{a b:Int},¬a<b↔b<=a)∧(∀{a b:Int},¬a<=b↔b<a)∧(∀{a b:Nat},¬a<b↔b<=a)∧(∀{a b:Nat},¬a<=b↔b<a):=
 ⟨aja,ajb,fun a b=>ne_eq a b,Decidable.not_not,Int.ofNat_lt,Int.ofNat_le,Int.toNat_natCast,Int.not_lt,Int.not_le,Nat.not_lt,Nat.not_le⟩
def wl:((∀c∈([]:List (Unit->Prop)),c ())↔True)∧(∀{c:Unit->Prop} {l:List (Unit->Prop)},(∀x∈c::l,x ())↔c ()∧∀x∈l,x ())∧(∀(p:Prop),(p∧True)=p)∧(∀(p:Prop),(True∧p)=p):=
 ⟨aN,aC,and_true,true_and⟩
def cl:(∀(s:ByteArray),(s={ data:={ toList:=[] } })↔s.size=0)∧(∀(c x:Bool),(if c=true then true else x)=(c||x))∧(∀(c x:Bool),(if c=true then x else false)=(c&&x)):=
 ⟨aaW,if_or,if_and⟩
def el:(∀(b:Bool),(b==true)=b)∧(∀(b:Bool),(b==false)=!b):=⟨beq_true,beq_false⟩
def lr{l m:List AV}(h:l=m):LeL l m:=LeL.of_eq h
def oC{P:Unit->Program}{a:Option (Unit->Bool)×CallOb}{l:List (Option (Unit->Bool)×CallOb)}(h:ObVC P a)(hl:∀c∈l,ObVC P c):∀c∈a::l,ObVC P c:=List.forall_mem_cons.2 ⟨h,hl⟩
def cZ{p:Prop}(h:p:=by first|exact True.intro|exact fun _ _ h=>h|exact fun _ h=>h|exact fun h=>h|exact pT|exact pF|omega|(intros;(try simp only[nc,cl]at*);(try simp only[bl,el,dl]at*);(try simp(disch:=omega) only[w64]at*);(first|omega|assumption|((repeat'(with_reducible apply And.intro))<;>first|omega|assumption)))):p:=h
def wZ{p:Prop}(h:p:=by first|rfl|exact fun _ _=>lr rfl|exact lr rfl|trivial|omega):p:=h
def aZ{p:Prop}(h:p:=by cbv;(try dsimp only[nc]at*);(try simp only[wl,nc]);(repeat'(with_reducible apply And.intro));all_goals exact wZ):p:=h
def eZ{p:Prop}(h:p:=by first|(with_reducible ((first|refine rE ?_|refine nE ?_);exact aZ))|((with_reducible rw[aC]);(try simp only[wl,nc]);(repeat'(with_reducible apply And.intro));all_goals exact cZ)):p:=h
def bZ{P:Program}{c:CallOb}{o:Option (Unit->Bool)}(h:Af P c.f c.args c.objs c.res c.objs'):ObVC (fun _=>P) (o,c):=match o with
 | none=>nO h
 | some _=>sO fun _=>h
def nZ{α:Type}{p:α->Prop}:∀c∈([]:List α),p c:=fun _ h=>by cases h
def nY{p:Prop}(h:p:=by first|exact‹False›.elim|exact absurd trivial ‹¬True›|exact nZ):p:=h
def zB{P:Program}{c:CallOb}{o:Option (Unit->Bool)}(h:Af P c.f c.args c.objs c.res c.objs':=by assumption):ObVC (fun _=>P) (o,c):=bZ h
def cV{b:Unit->Bool}{X Y p q:Prop}(t:p->X)(f:q->Y)(h1:b ()=true->p:=by first|(intro zq;(try simp only[nc,cl]at zq);(try simp only[bl,dl]at zq);exact zq)|(intro zq;show False;(try simp only[nc,cl]at zq);(try simp only[bl,dl]at zq);done))
 (h2:b ()=false->q:=by first|(intro zq;(try simp only[nc,cl]at zq);(try simp only[bl,dl]at zq);exact zq)|(intro zq;show False;(try simp only[nc,cl]at zq);(try simp only[bl,dl]at zq);done)):Cv b X Y:=⟨fun h=>t (h1 h),fun h=>f (h2 h)⟩
abbrev zI(n:Int):AV:=.int .i64 fun _=>n
abbrev zO(b:Bool):AV:=.bool fun _=>b
abbrev zR(s:ByteArray):AV:=.str fun _=>s
abbrev zT:AV:=.tup []
def wkH(ro:Option Nat)(P:Unit->Program)(T:Unit->List (Nat×TI))(orc:Unit->List (Nat×Orc))(kp:Unit->List Nat):Nat->Code->KS->Env->SS->Prop
 | 0,c,k,E,s=>LpVC ro P E c k s
 | n+1,.seq a b,k,E,s=>wk ro P T orc kp a (fun e E' s'=>match e with|.normal=>wkH ro P T orc kp n b k E' s'|e=>k e E' s') E s
 | _+1,c,k,E,s=>wk ro P T orc kp c k E s
section
variable {ro:Option Nat}{P:Program}{T:List (Nat×TI)}
def aqX{ro:Option Nat}{P:Unit->Program}{T:Unit->List (Nat×TI)}{orc:Unit->List (Nat×Orc)}{kp:Unit->List Nat}{n:Nat}{c:Code}{k:KS}{E:Env}{s:SS}(h:wkH ro P T orc kp n c k E s):wkH ro P T orc kp n c k E s:=h
def AWp.wk_end(hT:TOk P T)(hm:P.follows .mixedOrders=true)(orc:List (Nat×Orc))(kp:List Nat){c:Code}{k:KS}{E:Env}{s:SS}
 (h:Go.Ai.wk ro (fun _=>P) (fun _=>T) (fun _=>orc) (fun _=>kp) c k E s) (hs:s.ok):AWp ro P E c (fun e E S=>∃s,S=s.st∧s.ok∧k e E s) s.st:=
 ade hT hm (fun _=>orc) (fun _=>kp) c k _ E s hs (fun _ _ s' hs' h=>⟨s',rfl,hs',h⟩) h
end
end Go.Ai
namespace Go.Ai
open Go
end Go.Ai

namespace Go.Ai
open Go
def wkG(ro:Option Nat)(P:Unit->Program)(T:Unit->List (Nat×TI))(orc:Unit->List (Nat×Orc))(kp:Unit->List Nat):Nat->Code->KS->Env->SS->Prop
 | 0,c,k,E,s=>LpVC ro P E c k s
 | n+1,.seq a b,k,E,s=>wk ro P T orc kp a (fun e E' s'=>match e with|.normal=>wkG ro P T orc kp n b k E' s'|e=>k e E' s') E s
 | n+1,.block id c,k,E,s=>wkG ro P T orc kp n c (fun e E' s'=>match e with|.exit i=>if i=id then k .normal E' s' else k (.exit i) E' s'|e=>k e E' s') E s
 | _+1,c,k,E,s=>wk ro P T orc kp c k E s
section
variable {ro:Option Nat}{P:Program}{T:List (Nat×TI)}
def aln(hT:TOk P T)(hm:P.follows .mixedOrders=true)(orc:Unit->List (Nat×Orc))(kp:Unit->List Nat):∀(n:Nat) (c:Code) (k:KS) (K:KK) (E:Env) (s:SS),
 s.ok->(∀e E' s',s'.ok->k e E' s'->K e E' s'.st)->wkG ro (fun _=>P) (fun _=>T) orc kp n c k E s->AWp ro P E c K s.st:=by
 intro n
 induction n with
 | zero=>
  intro c k K E s hs hk h;exact AWp.mono (h.h hs) fun e E' S' _ ⟨s',h0,h1,h2⟩=>by rw[h0];exact hk _ _ _ h1 h2
 | succ n ih=>
  intro c k K E s hs hk h;cases c with
  | seq a b=>
   refine .seq (ade hT hm orc kp a _ _ E s hs (fun e E' s' hs' h1=>?_) h);cases e with
   | normal=>exact ih b k K E' s' hs' hk h1
   | _=>exact hk _ _ _ hs' h1
  | block id c=>
   refine .block (ih c _ _ E s hs (fun e E' s' hs' h1=>?_) h);cases e with
   | exit i=>
    simp only[acV];simp only at h1;by_cases e:i=id
    ·rw[if_pos e]at h1 ⊢;exact hk _ _ _ hs' h1
    ·rw[if_neg e]at h1 ⊢;exact hk _ _ _ hs' h1
   | _=>exact hk _ _ _ hs' h1
  | _=>exact ade hT hm orc kp _ _ _ E s hs hk h
def AWp.wkG(hT:TOk P T)(hm:P.follows .mixedOrders=true)(n:Nat)(orc:List (Nat×Orc))(kp:List Nat){c:Code}{K:KK}{E:Env}{s:SS}
 (h:Go.Ai.wkG ro (fun _=>P) (fun _=>T) (fun _=>orc) (fun _=>kp) n c (fun e E s=>EndVC (fun e E S=>K e E S) e E s) E s) (hs:s.okB=true:=by rfl):AWp ro P E c K s.st:=
 aln hT hm (fun _=>orc) (fun _=>kp) n c _ K E s (SS.ok_of hs) (fun _ _ _ hs' h=>h.h hs') h
def ab9{ro:Option Nat}{P:Unit->Program}{T:Unit->List (Nat×TI)}{orc:Unit->List (Nat×Orc)}{kp:Unit->List Nat}{n:Nat}{c:Code}{k:KS}{E:Env}{s:SS}(h:Go.Ai.wkG ro P T orc kp n c k E s):Go.Ai.wkG ro P T orc kp n c k E s:=h
def LpVC.turn(hT:TOk P T)(hm:P.follows .mixedOrders=true)(orc:List (Nat×Orc))(kp:List Nat){c:Code}{k:KS}{E:Env}{s:SS}(s2:SS)(hw:ah1 s s2)
 (h:Go.Ai.wk ro (fun _=>P) (fun _=>T) (fun _=>orc) (fun _=>kp) c k E s2) (ok:s2.okB=true:=by rfl):LpVC ro (fun _=>P) E c k s:=
 ⟨fun _=>.weak (aei hw) (AWp.wk_end hT hm orc kp h (SS.ok_of ok))⟩
end
def Rel.pick{E:Env}{S:AS}{a:Act}{w:World}{o:Nat}{ks:Unit->List ByteArray}{f:(Unit->Nat)->AV}{seen:Unit->List Nat}(hold:S.obj o=.it ks f seen true)(hex:∃i,i<(ks ()).length∧i∉seen ())(h:Rel E S a w):
 ∃i,i<(ks ()).length∧i∉seen ()∧Rel E ⟨S.tmps,oset S.objs o (.it ks f (fun _=>seen ()++[i]) false)⟩ a w:=by
 obtain⟨β,h⟩:=h;have ho:=h.objs o;rw[hold]at ho;obtain⟨b,mb,sa,h1,h2,h3,h4,h5⟩:=ho;rcases h5 with⟨_,q⟩|⟨i,i1,i2,i3⟩
 ·obtain⟨i,i1,i2⟩:=hex;exact absurd (q i i1) i2
 refine⟨i,i1,i2,β,?_⟩;obtain⟨g1,_⟩:=h.turn (o:=o) (by rw[hold];trivial) (w':=w) rfl rfl rfl (Nat.le_refl _) (fun _ _ _=>rfl) (ob:=.it ks f (fun _=>seen ()++[i]) false) trivial (v:=β o)
  (fun b hb=>.inl hb) (fun _ _=>rfl) (fun x t sz ver n f hf=>by rw[hold]at hf;cases hf) (fun cs hcs=>by rw[hold]at hcs;cases hcs)
  (fun _ hrd=>⟨b,mb,sa,by simp[upd,h1],h2,h3,h4.imp id fun⟨m,q1,q2⟩=>⟨m,q1,hrd _ _ q2⟩,i3⟩) (fun ks f s p hf=>⟨_,_,_,_,rfl⟩)
 have e1:upd β o (β o)=β:=by funext k;unfold upd;split<;>simp_all
 rw[e1]at g1;have e2:oL (oset S.objs o (.it ks f (fun _=>seen ()++[i]) false))=upd S.obj o (.it ks f (fun _=>seen ()++[i]) false):=aaM _ _ _;show RelB E S.tmps (oL (oset S.objs o _)) a w β;rw[e2];exact g1
def LpVC.pick{P:Program}{T:List (Nat×TI)}(hT:TOk P T)(hm:P.follows .mixedOrders=true)(orc:Nat->List (Nat×Orc))(kp:List Nat){c:Code}{k:KS}{E:Env}{s:SS}(o:Nat){ks:Unit->List ByteArray}{f:(Unit->Nat)->AV}{seen:Unit->List Nat}
 (hold:oL s.objs o=.it ks f seen true) (hex:∃i,i<(ks ()).length∧i∉seen ())
 (h:∀i,i<(ks ()).length->i∉seen ()->Go.Ai.wk none (fun _=>P) (fun _=>T) (fun _=>orc i) (fun _=>kp) c k E ⟨s.n,s.l,oset s.objs o (.it ks f (fun _=>seen ()++[i]) false)⟩) (ok:s.okB=true:=by rfl):LpVC none (fun _=>P) E c k s:=
 ⟨fun hs a w hr=>by
  obtain⟨i,i1,i2,hr2⟩:=Rel.pick (S:=s.st) (o:=o) (show s.st.obj o=_ from hold) hex hr;exact AWp.wk_end hT hm (orc i) kp (h i i1 i2) (SS.ok_of ok) a w hr2⟩
def vQ{ok:Bool}{conds:List (Unit->Prop)}{calls:List (Option (Unit->Bool)×CallOb)}{ob:Option (Unit->Bool)×CallOb->Prop}{K:Prop}(a:∀c∈conds,c ())(b:∀c∈calls,ob c)(d:K)(h:ok=true:=by rfl):VC ok conds calls ob K:=⟨h,a,b,d⟩
def wQ{p q:Prop}(h:q)(e:q->p:=by intro zq;with_reducible ((first|apply wI|apply xE|apply uE|apply aqX);cbv;(try dsimp only[nc]);exact zq)):p:=e h
def oQ{p q:Prop}(h:q)(e:q->p:=by intro zq;with_reducible ((first|apply xE|apply uE);cbv;(try dsimp only[nc]);exact zq)):p:=e h
def rQ{p q:Prop}(h:q)(e:q->p:=by intro zq;with_reducible ((first|refine rE ?_|refine nE ?_);cbv;(try dsimp only[nc]);(try simp only[wl,nc]);exact zq)):p:=e h
def sQ{p q:Prop}(h:q)(e:q->p:=by intro zq;with_reducible (rw[aC];(try simp only[wl,nc]);exact zq)):p:=e h
def aQ{p q:Prop}(h:q)(e:q->p:=by intro zq;cbv;(try dsimp only[nc]);(try simp only[wl,nc]);exact zq):p:=e h
structure jA(p q:Prop):Prop where mk ::
 l:p
 r:q
structure jC(p q x y:Prop):Prop where mk ::
 l:p->q
 r:x->y
structure jJ(k:Nat)(q p:Prop):Prop where mk ::
 f:q->p
def j0{p:Prop}(h:p):jJ 0 True p:=⟨fun _=>h⟩
def j1{p:Prop}(h:p):jJ 1 True p:=⟨fun _=>h⟩
def j2{p:Prop}(h:p):jJ 2 True p:=⟨fun _=>h⟩
def jB{P:Program}{c:CallOb}{o:Option (Unit->Bool)}(h:Af P c.f c.args c.objs c.res c.objs'):jJ 0 True (ObVC (fun _=>P) (o,c)):=⟨fun _=>bZ h⟩
def jI{k:Nat}{p:Prop}:jJ k p p:=⟨id⟩
def jO{P:Unit->Program}{a:Option (Unit->Bool)×CallOb}{l:List (Option (Unit->Bool)×CallOb)}{x y:Prop}(h:jJ 0 x (ObVC P a))(hl:jJ 0 y (∀c∈l,ObVC P c)):jJ 0 (jA x y) (∀c∈a::l,ObVC P c):=⟨fun z=>oC (h.f z.l) (hl.f z.r)⟩
def jV{conds:List (Unit->Prop)}{calls:List (Option (Unit->Bool)×CallOb)}{ob:Option (Unit->Bool)×CallOb->Prop}{K x y z:Prop}(a:jJ 0 x (∀c∈conds,c ()))(b:jJ 0 y (∀c∈calls,ob c))(d:jJ 0 z K):jJ 0 (jA x (jA y z)) (VC true conds calls ob K):=⟨fun w=>⟨rfl,a.f w.l,b.f w.r.l,d.f w.r.r⟩⟩
def jT{b:Unit->Bool}{X Y p q x y:Prop}(h1:b ()=true->p)(h2:b ()=false->q)(t:p->jJ 0 x X)(f:q->jJ 0 y Y):jJ 0 (jC p x q y) (Cv b X Y):=⟨fun z=>⟨fun h=>(t (h1 h)).f (z.l (h1 h)),fun h=>(f (h2 h)).f (z.r (h2 h))⟩⟩
def jW{k m:Nat}{p q r:Prop}(e:q->p)(h:jJ m r q):jJ k r p:=⟨fun z=>e (h.f z)⟩
def jD{k:Nat}{p q x y:Prop}(h:jJ (k+1) x p)(g:jJ (k+1) y q):jJ (k+1) (jA x y) (p∧q):=⟨fun z=>⟨h.f z.l,g.f z.r⟩⟩
def mA{p q:Prop}(h:p)(g:q):jA p q:=⟨h,g⟩
def mC{p q x y:Prop}(h:p->q)(g:x->y):jC p q x y:=⟨h,g⟩
def wY{p:Prop}(h:p:=by(try dsimp only[nc]at*);first|rfl|exact fun _ _=>lr rfl|exact lr rfl|trivial|omega):p:=h
def oA{p q:Prop}(h:q)(e:jJ 0 q p:=by
 (repeat' with_reducible first|(apply j0;exact nY)|apply jO|apply jV|(apply jT;(focus(first|(intro zq;(try simp only[nc,cl]at zq);(try simp only[bl,dl]at zq);exact zq)|(intro zq;show False;(try simp only[nc,cl]at zq);(try simp only[bl,dl]at zq);done)));(focus(first|(intro zq;(try simp only[nc,cl]at zq);(try simp only[bl,dl]at zq);exact zq)|(intro zq;show False;(try simp only[nc,cl]at zq);(try simp only[bl,dl]at zq);done))))|intro _|(apply jW (m:=0);focus(intro zq;(first|apply wI|apply xE|apply uE|apply aqX);cbv;(try dsimp only[nc]);exact zq))|exact jI)):p:=e.f h
def qC{p q:Prop}(h:q)(e:jJ 0 q p:=by
 (first|(with_reducible (apply jW (m:=1);focus(intro zq;(first|refine rE ?_|refine nE ?_);cbv;(try dsimp only[nc]);(try simp only[wl,nc]);exact zq)))|(apply jW (m:=2);focus(intro zq;with_reducible (refine aC.2 ?_;(try simp only[wl,nc]);exact zq))))
 (repeat' first|(with_reducible first|apply jD|(apply j1;exact wY))|(apply j2;exact cZ)|(with_reducible exact jI))):p:=e.f h
def oB{p q:Prop}(h:q)(e:jJ 0 q p:=by
 (repeat' first|(with_reducible first|(apply j0;exact nY)|apply jO|apply jV|(apply jT;(focus(first|(intro zq;(try simp only[nc,cl]at zq);(try simp only[bl,dl]at zq);exact zq)|(intro zq;show False;(try simp only[nc,cl]at zq);(try simp only[bl,dl]at zq);done)));(focus(first|(intro zq;(try simp only[nc,cl]at zq);(try simp only[bl,dl]at zq);exact zq)|(intro zq;show False;(try simp only[nc,cl]at zq);(try simp only[bl,dl]at zq);done))))|intro _|(apply jW (m:=0);focus(intro zq;(first|apply wI|apply xE|apply uE|apply aqX);cbv;(try dsimp only[nc]);exact zq)))|((with_reducible apply jB);assumption)|(with_reducible (apply jW (m:=1);focus(intro zq;(first|refine rE ?_|refine nE ?_);cbv;(try dsimp only[nc]);(try simp only[wl,nc]);exact zq)))|(apply jW (m:=2);focus(intro zq;with_reducible (refine aC.2 ?_;(try simp only[wl,nc]);exact zq)))|(with_reducible first|apply jD|(apply j1;exact wY))|(apply j2;exact cZ)|(with_reducible exact jI))):p:=e.f h
end Go.Ai
