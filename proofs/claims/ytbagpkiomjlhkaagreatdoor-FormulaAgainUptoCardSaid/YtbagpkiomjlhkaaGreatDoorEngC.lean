/- Tactics that walk code with the abstract machine. -/
import Derived.Test.YtbagpkiomjlhkaaGreatDoorEngB
import Derived.KernelRfl
import Derived.RangeFuncSeq
set_option linter.all false
namespace Go.Ai
open Go
def nc(n:Nat):@NatCast.natCast Int instNatCastInt n=(n:Int):=rfl
def PU(c x:Bool):(if c=true then true else x)=(c||x):=by cases c<;>rfl
def PV(c x:Bool):(if c=true then x else false)=(c&&x):=by cases c<;>rfl
def aN:(∀c∈([]:List (Unit->Prop)),c ())↔True:=zsi
def aC{c:Unit->Prop}{l:List (Unit->Prop)}:(∀x∈c::l,x ())↔c ()∧∀x∈l,x ():=zsi
def kN{ob:Option (Unit->Bool)×bk->Prop}:(∀c∈([]:List (Option (Unit->Bool)×bk)),ob c)↔True:=zsi
def kC{ob:Option (Unit->Bool)×bk->Prop}{c:Option (Unit->Bool)×bk}{l:List (Option (Unit->Bool)×bk)}:(∀x∈c::l,ob x)↔ob c∧∀x∈l,ob x:=zsi
def yZ:Code->List Nat
 | .seq a _=>yZ a
 | .cond (.tmp t) _ _=>[t]
 | .block _ b=>yZ b
 | .loop b=>yZ b
 | _=>[]
def oi(n:Nat)(ex:List Nat):Nat->List AV->List AV
 | _,[]=>[]
 | i,v::r=>(if decide (i<n)||ex.contains i then v else .any)::oi n ex (i+1) r
def AS.keep(S:AS)(n:Nat)(ex:List Nat):AS:=⟨oi n ex 0 S.tmps,S.objs⟩
theorem y4(n:Nat)(ex:List Nat):∀(l:List AV) (i j:Nat),(oi n ex i l).length=l.length∧∀v,(oi n ex i l)[j]? = some v->v=.any∨l[j]? = some v
 | [],i,j=>by simp[oi]
 | a::r,i,0=>by
  obtain⟨h1,_⟩:=y4 n ex r (i+1) 0;refine⟨by simp[oi,h1],fun v hv=>?_⟩;simp only[oi,pd,cB]at hv;split at hv
  ·exact .inr (by simp[hv])
  ·exact .inl hv.symm
 | a::r,i,j+1=>by
  obtain⟨h1,h2⟩:=y4 n ex r (i+1) j;exact⟨by simp[oi,h1],fun v hv=>by simpa using h2 v (by simpa[oi]using hv)⟩
def PW(S:AS)(n:Nat)(ex:List Nat):Weak S (S.keep n ex):=by
 intro E a w ⟨β,h⟩;refine⟨β,h.defers,by rw[h.size];exact(y4 n ex S.tmps 0 0).1.symm,fun t av ht=>?_,h.objs,h.apart,h.frame,h.pin⟩;rcases(y4 n ex S.tmps 0 t).2 av ht with rfl|h2
 ·exact .d (.any _)
 ·exact h.tmps t av h2
def HZ(ob:Option (Unit->Bool)×bk->Prop)(T:List (Nat×TI))(aw:cL)(draw:Bool)(ops:Array Oper)(S:AS)(n:Nat)(ex:List Nat)(K:AS->Prop):Prop:=
 match lx T aw ops 0 ops.toList S with
 | none=>False
 | some ⟨S',conds,calls,logs⟩=>match S'.keep n ex with
  | ⟨t,o⟩=>VC (if draw then m8 S (pH true ops.toList) logs&&m7 0 ops.toList else nX S [] logs) conds calls ob (K ⟨t,o⟩)
section
variable {ro:Option Nat}{P:Program}{E:Env}{K:Exit->Env->AS->Prop}{S:AS}
def af.jm{T:List (Nat×TI)}(hT:cn P T)(hm:P.follows .mixedOrders=true)(n:Nat)(ex:List Nat)(aw:cL){id:Nat}{draw:Bool}{ops:Array Oper}{y:Code}
 (h:∀(ob:Option (Unit->Bool)×bk->Prop) (K':AS->Prop),(∀c,bk.ok P c->ob c)->(∀S',af ro P E y K S'->K' S')->HZ ob T aw draw ops S n (ex++yZ y) K'):
 af ro P E (.seq (.region id ops draw) y) K S:=by
 refine .seq (.region hT hm aw (fun ob K' ap hK=>?_));have:=h ob (fun S'=>∀S0,Weak S0 S'->K' S0) ap (fun S' hS S0 hw=>hK S0 (af.weak hw hS));unfold HZ at this;unfold vA;cases hq:lx T aw ops 0 ops.toList S with
 | none=>rw[hq]at this;exact this.elim
 | some o=>
  rw[hq]at this;exact⟨this.ok,this.conds,this.calls,this.next _ (PW _ n _)⟩
def tN{n:Env->AS->Prop}(h:n E S):jS n K .normal E S:=h
def jU{n:Env->AS->Prop}{i:Nat}(h:K (.exit i) E S):jS n K (.exit i) E S:=h
def jX{n:Env->AS->Prop}(h:K .ret E S):jS n K .ret E S:=h
def bH{i:Nat}(h:K .normal E S):ni i K (.exit i) E S:=by simp[ni,h]
def bM{i j:Nat}(hne:(i==j)=false)(h:K (.exit i) E S):ni j K (.exit i) E S:=by
 have:i≠j:=by simpa using hne
 simp[ni,this,h]
def bN{i:Nat}(h:K .normal E S):ni i K .normal E S:=h
def jY{i:Nat}(h:K .ret E S):ni i K .ret E S:=h
def jn{T:List (Nat×TI)}{rs:List ResultVar}{res:AV}{objs:List (Nat×AO)}(h:vZ T rs res objs S):pQ T rs res objs .ret E S:=HU h
def rN{T:List (Nat×TI)}{rs:List ResultVar}{res:AV}{objs:List (Nat×AO)}(h:vZ T rs res objs S):pQ T rs res objs .normal E S:=HU h
end
def pT{c:Bool}:c=true->(c==true)=true:=zsi
def pF{c:Bool}:c=false->(c==false)=true:=zsi
def jo{ro:Option Nat}{P:Program}{E:Env}{y:Code}{K:Exit->Env->AS->Prop}{ob:Option (Unit->Bool)×bk->Prop}{K':AS->Prop}{S:AS}{conds:List (Unit->Prop)}{calls:List (Option (Unit->Bool)×bk)}
 (ap:∀c,bk.ok P c->ob c) (hK:∀S',af ro P E y K S'->K' S') (hn:af ro P E y K S) (hcl:∀c∈calls,bk.ok P c) (hc:∀c∈conds,c ()):VC true conds calls ob (K' S):=
 ⟨rfl,hc,fun c h=>ap c (hcl c h),hK _ hn⟩
def jp{P:Program}{E:Env}{K:Exit->Env->AS->Prop}{ob:Option (Unit->Bool)×bk->Prop}{K':AS->Prop}{S:AS}{conds:List (Unit->Prop)}{calls:List (Option (Unit->Bool)×bk)}
 (ap:∀c,bk.ok P c->ob c) (hK:∀S',K .normal E S'->K' S') (hn:K .normal E S) (hcl:∀c∈calls,bk.ok P c) (hc:∀c∈conds,c ()):VC true conds calls ob (K' S):=
 ⟨rfl,hc,fun c h=>ap c (hcl c h),hK _ hn⟩
def H0{P:Program}{c:bk}(h:Af P c.f c.args c.objs c.res c.au):bk.ok P (none,c):=fun _=>h
def PX{P:Program}{c:bk}{g:Unit->Bool}(h:g ()=true->Af P c.f c.args c.objs c.res c.au):bk.ok P (some g,c):=fun hg=>h (hg g rfl)
def PY{n:Unit->Nat}{m:Nat}{f g F:(Unit->Nat)->List AV}(h1:∀k,k<n ()->aD (f fun _=>k) (F fun _=>k))(h2:∀k,k<m->aD (g fun _=>k) (F fun _=>n ()+k)):∀k,k<n ()+m->aD (dO n f g fun _=>k) (F fun _=>k):=by
 intro k hk;unfold dO;by_cases h:k<n ()
 ·simp only[h,bC];exact h1 k h
 ·simp only[h,dg];have:=h2 (k-n ()) zo;rw[show n ()+(k-n ())=k by omega]at this;exact this
def mkT:Nat->List (Nat×AV)->List AV
 | 0,_=>[]
 | n+1,l=>mkT n l++[((l.find? fun p=>p.1==n).map (·.2)).getD .any]
def mkS(n:Nat)(l:List (Nat×AV))(objs:List (Nat×AO)):AS:=⟨mkT n l,objs⟩
structure Keep(Y:Nat->Prop)(w w':World):Prop where
 os:w'.os=w.os
 tape:w'.tape=w.tape
 output:w'.output=w.output
 size:w.heap.size<=w'.heap.size
 blk:∀b,b<w.heap.size->¬Y b->w'.heap[b]? = w.heap[b]?
def Keep.refl(Y:Nat->Prop)(w:World):Keep Y w w:=⟨rfl,rfl,rfl,ao _,fun _ _ _=>rfl⟩
def Keep.trans{Y:Nat->Prop}{w w' w'':World}(h:Keep Y w w')(g:Keep Y w' w''):Keep Y w w'':=
 ⟨g.os.trans h.os,g.tape.trans h.tape,g.output.trans h.output,aG h.size g.size,fun b hb hy=>(g.blk b (cf hb h.size) hy).trans (h.blk b hb hy)⟩
structure Same(N:Nat)(w w':World):Prop where
 os:w'.os=w.os
 tape:w'.tape=w.tape
 output:w'.output=w.output
 size:w.heap.size<=w'.heap.size
 blk:∀b,b<N->w'.heap[b]? = w.heap[b]?
structure gj(P:Program) where
 l:Nat
 Y:Nat->Prop
 N:Nat
 B:Nat
 all:List (List AV)
 J:List (List AV)->World->Prop
 Jx:List (List AV)->World->Prop
 hY:∀b,Y b->b<N
 hJ:∀g w,J g w->N<=w.heap.size
 hT:∀g w,J g w->m9 w∧∀b,tr b->¬Y b
 ab:∀g w w',J g w->Same N w w'->J g w'
 H1:∀g w w',Jx g w->Same N w w'->Jx g w'
 H2:∀g el (vs:Array Value) w,J g w->(g++[el]) <+: all->el.length=vs.size->(∀(j:Nat) (av:AV) (v:Value),el[j]? = some av->vs[j]? = some v->RD w (fun b=>b<w.heap.size∧¬Y b) B av v) ->
  YieldAt (FW none) 0 P l vs w fun e w'=>Keep Y w w'∧((e=.returned (.bool true)∧J (g++[el]) w')∨(e=.returned (.bool false)∧Jx (g++[el]) w'))
structure gj.At{P:Program}(p:gj P)(E:Env):Prop where
 y:E.Y=p.Y
 base:p.B<=E.B
 size:p.N<=E.N
 x:∀b,b<p.N->¬E.X b
section
variable {P:Program}{p:gj P}{E E':Env}{tmps:List AV}{H:Nat->AO}{a:Act}{w w':World}{β:Nat->Value}
def gj.At.ext(h:p.At E)(hE:Ext E E'):p.At E':=
 ⟨hE.y.trans h.y,aG h.base hE.base,aG h.size hE.size,fun b hb hx=>(hE.x b hx).elim (h.x b hb) fun hq=>by have:=h.size;omega⟩
def gj.At.same(h:p.At E)(hf:E.Frame w):Same p.N E.w0 w:=
 ⟨hf.os,hf.tape,hf.output,hf.size,fun b hb=>hf.block b (cf hb h.size) (h.x b hb)⟩
def v8(E:Env){b:Nat}(h:E.own b):¬E.Y b:=fun hy=>h.elim (E.hY b hy).2.2 fun hn=>by have:=(E.hY b hy).1;exact absurd this (lU.2 hn)
def wa{b:Nat}(h:E.D w β H b):¬E.Y b:=fun hy=>by
 rcases h.1 with q|q|q
 ·exact(E.hY b hy).2.1 q
 ·exact(E.hY b hy).2.2 q
 ·exact absurd (E.hY b hy).1 (lU.2 q)
def PZ(h:RelB E tmps H a w β)(hk:Keep E.Y w w'):∃E',E'.w0=w'∧Ext E E'∧E'.df=E.df∧RelB E' tmps H a w' β:=by
 have hown:∀b,(∃o,(H o).is∧bi (β o)=some b)->b<w.heap.size∧E.own b:=fun b ⟨o,hi,hb⟩=>(h.objs o).lt hb hi
 let E':Env:={
  w0:=w'
  B:=E.B
  D0:=fun b=>E.D w β H b
  X:=fun b=>∃o,(H o).is∧bi (β o)=some b
  pin:=E.pin
  cC:=E.cC
  Y:=E.Y
  df:=E.df
  hB:=aG E.hB (aG h.frame.size hk.size)
  hD:=fun b hb=>⟨cf hb.2.1 hk.size,fun⟨o,hi,hq⟩=>hb.2.2 o hi hq⟩
  hX:=fun b hb=>cf (hown b hb).1 hk.size
  hY:=fun b hy=>⟨cf (E.hY b hy).1 (aG h.frame.size hk.size),fun hd=>wa hd hy,fun hx=>v8 E (hown b hx).2 hy⟩
  hdf:=fun d hd=>by
   obtain⟨b,rfl,hx,hy,hh⟩:=E.hdf d hd;have hbl:b<E.N:=(d8.1 hh).1;refine⟨b,rfl,fun hq=>?_,hy,?_⟩
   ·exact(hown b hq).2.elim hx fun q=>zo
   ·rw[hk.blk b (cf hbl h.frame.size) hy,h.frame.block b hbl hx];exact hh
  jN:=E.jN
  hT:=tt h.tab fun b hb=>hk.blk b (h.ip (E.dW b hb)).2.1 fun hy=>(E.hY b hy).2.1 (E.dW b hb)
  dW:=fun b hb=>h.ip (E.dW b hb) }
 have md:∀b,E.D w β H b->E'.D w' β H b:=fun b hb=>⟨.inl hb,cf hb.2.1 hk.size,hb.2.2⟩
 have hrd:∀av v,RD w (E.D w β H) E.B av v->RD w' (E'.D w' β H) E'.B av v:=fun av v q=>q.mono (fun b hb=>hk.blk b hb.2.1 (wa hb)) md (ao _);have hrx:∀av v,RX w (E.D w β H) E.B β H av v->RX w' (E'.D w' β H) E'.B β H av v:=fun av v q=>
  q.map hrd (fun o off v q=>by obtain⟨b,h1,rfl⟩:=q.dF;exact .ptr _ _ b h1) (fun o ver n v q=>by obtain⟨h1,h2⟩:=q.aI;exact .aJ _ _ _ _ h1 h2) (fun o sz ver n i off v q=>by obtain⟨h1,h2,h3⟩:=q.jk;exact .ci _ _ _ _ _ _ _ h1 h2 h3)
 refine⟨E',rfl,⟨ao _,rfl,rfl,hk.os.trans h.frame.os,hk.tape.trans h.frame.tape,hk.output.trans h.frame.output,aG h.frame.size hk.size,fun b hb=>(hown b hb).2,fun b hb=>hb.1,fun b hb hx hy=>?_,fun b hb=>.inl hb⟩,rfl,
  ⟨h.defers,h.size,fun t av ht=>hrx _ _ (h.tmps t av ht),fun o=>?_,h.apart,⟨rfl,rfl,rfl,ao _,fun _ _ _=>rfl⟩,h.pin⟩⟩
 ·rw[hk.blk b (cf hb h.frame.size) hy];exact h.frame.block b hb hx
 ·have ho:=h.objs o;cases hq:H o with
  | none=>trivial
  | box cs=>
   rw[hq]at ho;obtain⟨b,vs,ty,h1,h2,h3,h4,h5,h6⟩:=ho;exact⟨b,vs,ty,h1,by rw[hk.blk b (d8.1 h2).1 (v8 E h3)];exact h2,.inl ⟨o,by rw[hq];trivial,by rw[h1];rfl⟩,h4,fun i av v g1 g2=>hrx _ _ (h5 i av v g1 g2),h6⟩
  | it ks f seen pend=>
   rw[hq]at ho;obtain⟨b,mb,sa,h1,h2,h3,h4,h5⟩:=ho;exact⟨b,mb,sa,h1,by rw[hk.blk b (d8.1 h2).1 (v8 E h3)];exact h2,.inl ⟨o,by rw[hq];trivial,by rw[h1];rfl⟩,h4.imp id fun⟨m,q1,q2⟩=>⟨m,q1,hrd _ _ q2⟩,h5⟩
  | arr x t sz ver n f=>
   rw[hq]at ho;rcases ho with h1|⟨g,cap,cur,h1,h2,h3,h4,h5,h6,h7,h8⟩
   ·exact .inl h1
   ·exact .inr ⟨g,cap,cur,h1,by rw[hk.blk g (d8.1 h2).1 (v8 E h7)];exact h2,h3,h4,h5,h6,.inl ⟨o,by rw[hq];trivial,by rw[h1];rfl⟩,fun i hi=>⟨(h8 i hi).1,(h8 i hi).2.1,fun j av v g1 g2=>hrd _ _ ((h8 i hi).2.2 j av v g1 g2)⟩⟩
end
def dc(ro:Option Nat)(P:Program)(E:Env)(ops:Array Oper)(i n:Nat)(K:Exit->Env->AS->Prop)(S:AS):Prop:=
 ∀a w,Rel E S a w->wpOpsIn (FW ro) 0 P ops (fun e a' w'=>∃E' S',Ext E E'∧K e E' S'∧Rel E' S' a' w') (List.range' i n) a w
section
variable {ro:Option Nat}{P:Program}{E:Env}{K:Exit->Env->AS->Prop}{S:AS}{ops:Array Oper}
def af.C4{id:Nat}(h:dc ro P E ops 0 ops.size K S):af ro P E (.region id ops false) K S:=fun a w hr=>by
 refine wpIn_region ?_;rw[List.range_eq_range'];exact h a w hr
def dc.done{i:Nat}(h:K .normal E S):dc ro P E ops i 0 K S:=fun a w hr=>⟨E,S,.refl E,h,hr⟩
def H3(ob:Option (Unit->Bool)×bk->Prop)(T:List (Nat×TI))(aw:cL)(ops:Array Oper)(i:Nat)(S:AS)(K:AS->Prop):Prop:=
 match ops.toList[i]? with
 | none=>False
 | some o=>match(tn T aw ops i o).run S with
  | none=>False
  | some ⟨(g,e),conds,_,_⟩=>match S.put (jL o e.dst) e.wo with
   | ⟨t,HS⟩=>VC (e.new.all fun d=>S.bK d) conds (match e.call with|some c=>[(g,c)]|none=>[]) ob (K ⟨t,HS⟩)
def kQ{i n:Nat}{ob:Option (Unit->Bool)×bk->Prop}{K':AS->Prop}{S:AS}{conds:List (Unit->Prop)}{calls:List (Option (Unit->Bool)×bk)}
 (ap:∀c,bk.ok P c->ob c) (hK:∀S',dc ro P E ops i n K S'->K' S') (hn:dc ro P E ops i n K S) (hcl:∀c∈calls,bk.ok P c) (hc:∀c∈conds,c ()):VC true conds calls ob (K' S):=
 ⟨rfl,hc,fun c h=>ap c (hcl c h),hK _ hn⟩
def P0{F:Fence}{m:Nat}{o:Oper}{a:Act}{w:World}{K1 K2:Act->World->Prop}{Q1 Q2:Exit->Act->World->Prop}(hk:∀a w,K1 a w->K2 a w)(hq:∀e a w,Q1 e a w->Q2 e a w)
 (hh:o.wpIn F m P a w K1 Q1):o.wpIn F m P a w K2 Q2:=by
 have hl:LetsOut Q1->LetsOut Q2:=fun⟨a,w,h⟩=>⟨a,w,hq _ _ _ h⟩
 unfold Oper.wpIn at*;refine⟨hh.1,?_⟩;have hh:=hh.2;generalize (o.semAt F.round a.eval).run P w=r at*;cases r with
 | ok x w'=>
  cases x<;>simp only[Oper.uponIn]at hh ⊢ <;>
   first
    | exact hk _ _ hh
    | exact⟨hh.1,CallsIn.mono hh.2 (fun e w'' he=>by cases e<;>first|exact hk _ _ he|exact hq _ _ _ he|exact hl he)⟩
    | exact⟨hh.1,RowsIn.mono hh.2 (fun _ _ he=>hk _ _ he)⟩
    | exact⟨hh.1,RoundIn.mono hh.2 (fun e w'' he=>by cases e<;>first|exact hk _ _ he|exact hq _ _ _ he|exact hl he)⟩
 | halt x w'=>cases x<;>simp only[Oper.uponIn]at hh ⊢<;>first|exact hq _ _ _ hh|exact hh
theorem ra{F:Fence}{m:Nat}{Q1 Q2:Exit->Act->World->Prop}(hq:∀e a w,Q1 e a w->Q2 e a w):∀(l:List Nat) (a:Act) (w:World),wpOpsIn F m P ops Q1 l a w->wpOpsIn F m P ops Q2 l a w
 | [],a,w,h=>hq _ _ _ h
 | i::r,a,w,h=>by
  rw[wpOpsIn_cons]at h ⊢;unfold wpOpIn at*;split
  ·rename_i ho;rw[ho]at h;exact ra hq r a w h
  ·rename_i o ho;rw[ho]at h;simp only at h;split
   ·rename_i hw;rw[ae hw]at h;exact P0 (fun a w h=>ra hq r a w h) hq h
   ·rename_i hw;rw[aa hw]at h;exact⟨h.1,ra hq r _ w h.2⟩
def dc.op{T:List (Nat×TI)}(hT:cn P T)(aw:cL){i n:Nat}
 (h:∀(ob:Option (Unit->Bool)×bk->Prop) (K':AS->Prop),(∀c,bk.ok P c->ob c)->(∀S',dc ro P E ops (i+1) n K S'->K' S')->H3 ob T aw ops i S K'):dc ro P E ops i (n+1) K S:=by
 intro a w hr;have h:=h (bk.ok P) (fun S'=>dc ro P E ops (i+1) n K S') (fun _ h=>h) (fun _ h=>h);unfold H3 at h;rw[FD,wpOpsIn_cons];split at h
 ·exact h.elim
 ·rename_i o ho;split at h
  ·exact h.elim
  ·rename_i g e conds rt Zk hrun;obtain⟨β,hb⟩:=hr;refine Hv hT hb (by simpa using ho) ⟨_,hrun,h.conds,rfl⟩ (fun k hk=>cI.1 h.ok k hk) (fun c hc=>h.calls (g,c) (by rw[hc];simp)) (fun v w' hr'=>?_);exact h.next _ _ hr'
def y5(S:AS)(o:Oper):Option (AV×List AV):=
 match o.op with
 | .call c=>match c.callee with
  | .value x=>match((dj none x).bind fun f=>(nU none c.args.toList).bind fun vs=>M.ret (f,vs)).run S with
   | some ⟨r,[],_,_⟩=>some r
   | _=>none
  | _=>none
 | _=>none
def H4{o:Oper}{fv:AV}{dA:List AV}(h:y5 S o=some (fv,dA)){a:Act}{w:World}{β:Nat->Value}(hr:RelB E S.tmps S.obj a w β):
 ∃c x,o.op=.call c∧c.callee=.value x∧RX w (E.D w β S.obj) E.B β S.obj fv (a.eval x)∧dA.length=c.args.size ∧
  ∀(j:Nat) (av:AV) (v:Value),dA[j]? = some av->(c.args.map a.eval)[j]? = some v->RX w (E.D w β S.obj) E.B β S.obj av v:=by
 unfold y5 at h;split at h
 ·rename_i c hc;split at h
  ·rename_i x hx;split at h
   ·rename_i r _ _ hrun;simp only[cB]at h;subst h;obtain⟨f,h1,h2⟩:=aV.bind (S:=S) ⟨_,hrun,fun c hc=>by simp at hc,rfl⟩;obtain⟨vs,h3,h4⟩:=h2.bind;have:=h4.ret;simp only[nJ]at this;obtain⟨rfl,rfl⟩:=this;obtain⟨q1,q2⟩:=tw hr (g:=none) (fun b hb=>by cases hb) h3;refine⟨c,x,hc,hx,oS hr (g:=none) (fun b hb=>by cases hb) h1,by simpa using q1,fun j av v hj hv=>?_⟩;simp only[Array.getElem?_map,Option.map_eq_some_iff]at hv;obtain⟨y,hy,rfl⟩:=hv;exact q2 j av y hj (by simpa using hy)
   ·cases h
  ·cases h
 ·cases h
def Fin(p:gj P)(res:Bool->Value->Prop)(g seq:List (List AV))(w:World)(e:Ending)(w':World):Prop:=
 Keep p.Y w w'∧∃v,e=.returned v∧((res true v∧p.J (g++seq) w')∨(res false v∧∃pre,pre <+: seq∧p.Jx (g++pre) w'))
structure pR(P:Program)(f:FuncId)(args:Nat->List AV)(res:Bool->Value->Prop)(seq:List (List AV)):Prop where
 ent:u7 P f
 calls:∀(p:gj P) (g:List (List AV)) (vs:Array Value) (w:World),p.J g w->(g++seq) <+: p.all->(args p.l).length=vs.size->p.B<=w.heap.size ->
  (∀(j:Nat) (av:AV) (v:Value),(args p.l)[j]? = some av->vs[j]? = some v->RD w (fun b=>b<w.heap.size∧¬p.Y b) p.B av v)->Calls P f vs w (Fin p res g seq w)
def isBool(b:Bool)(v:Value):Prop:=v=.bool b
def AS.pU(S:AS)(d:Option Tmp)(b:Bool):AS:=match d with|some d=>⟨S.tmps.set d (.bool fun _=>b),S.objs⟩|none=>S
def y6{p:gj P}(hp:p.At E){a:Act}{w w':World}{β:Nat->Value}(hr:RelB E S.tmps S.obj a w β)(hk:Keep p.Y w w')(d:Option Tmp)(b:Bool):∃E',E'.w0=w'∧Ext E E'∧Rel E' (S.pU d b) (a.put d (.bool b)) w':=by
 obtain⟨E',h1,h2,h3,h4⟩:=PZ hr (by rw[hp.y];exact hk);refine⟨E',h1,h2,β,?_⟩;have:=RelB.put (S:=S) h4 (av:=.bool fun _=>b) (.d (.bool fun _=>b)) d;cases d with
 | none=>exact this
 | some d=>exact this
def dc.yield{p:gj P}(hp:p.At E){g:List (List AV)}(hJ:p.J g E.w0){i n:Nat}{o:Oper}(ho:ops[i]? = some o)(hg:o.guard=none){el wb:List AV}(hx:y5 S o=some (.val (.func (.yield p.l) #[] #[]),wb))
 (hel:aD wb el) (hpure:AV.bx wb=true) (hall:(g++[el]) <+: p.all)
 (h1:∀E',Ext E E'->p.J (g++[el]) E'.w0->dc ro P E' ops (i+1) n K (S.pU o.dst true)) (h2:∀E',Ext E E'->p.Jx (g++[el]) E'.w0->dc ro P E' ops (i+1) n K (S.pU o.dst false)):
 dc ro P E ops i (n+1) K S:=by
 intro a w ⟨β,hr⟩;rw[FD,wpOpsIn_cons];unfold wpOpIn;rw[ho];simp only;rw[ae (by simp[Region.wanted,hg])];obtain⟨c,x,hc,jR,hfx,hlen,hargs⟩:=H4 hx hr;have tI:=hfx.vI;have hD:∀b,E.D w β S.obj b->b<w.heap.size∧¬p.Y b:=fun b hb=>⟨hb.2.1,by rw[<- hp.y];exact wa hb⟩
 have hnd:∀c,o.op≠.defer c:=fun c' hc'=>by rw[hc]at hc';cases hc'
 have wc:el.length=(c.args.map a.eval).size:=by rw[<- hel.1];simpa using hlen
 obtain⟨fn,tmps,assign,body,hy,P1⟩:=p.H2 g el (c.args.map a.eval) w (p.ab _ _ _ hJ (hp.same hr.frame)) hall wc (fun j av v hj hv=>by
  have hlt:j<wb.length:=by rw[hel.1];exact(bX.1 hj).1
  have q:=hargs j _ v (bf hlt) hv;have q2:=(q.pure (tP hpure j _ (bf hlt))).mono (fun _ _=>rfl) hD hp.base;exact hel.2.2 _ _ _ j _ av v (bf hlt) hj q2)
 refine⟨fun _ _=>trivial,?_⟩;rw[Oper.semAt_eq _ _ _ hnd];have hrun:(execOp a.eval o).run P w=.ok (.round p.l fn tmps assign body) w:=by
  simp only[execOp,hc,resolve,jR,tI,Deferred.ofValue];simpa[invoke]using hy
 rw[hrun,Oper.uponIn_round];refine⟨(fun h=>by cases h),?_⟩;have hcv:RoundIn (FW ro) 0 P p.l fn tmps assign body w=RoundIn (FW none) 0 P p.l fn tmps assign body w:=rfl;rw[hcv];refine P1.mono ?_;rintro e w' ⟨hk,hcase⟩;rcases hcase with⟨rfl,hj⟩|⟨rfl,hj⟩
 ·obtain⟨E',rfl,q2,q3⟩:=y6 hp hr hk o.dst true;exact ra (fun e a w ⟨fq,S',r1,r2⟩=>⟨fq,S',q2.trans r1,r2⟩) _ _ _ (h1 E' q2 hj _ _ q3)
 ·obtain⟨E',rfl,q2,q3⟩:=y6 hp hr hk o.dst false;exact ra (fun e a w ⟨fq,S',r1,r2⟩=>⟨fq,S',q2.trans r1,r2⟩) _ _ _ (h2 E' q2 hj _ _ q3)
def dc.into{p:gj P}(hp:p.At E){g:List (List AV)}(hJ:p.J g E.w0){i n:Nat}{o:Oper}(ho:ops[i]? = some o)(hg:o.guard=none){f:FuncId}{args':List AV}{args:Nat->List AV}{seq:List (List AV)}(hx:y5 S o=some (.func f [],args'))
 (hspec:pR P f args isBool seq) (hall:(g++seq) <+: p.all) (hel:aD args' (args p.l)) (hpure:AV.bx args'=true)
 (h1:∀E',Ext E E'->p.J (g++seq) E'.w0->dc ro P E' ops (i+1) n K (S.pU o.dst true)) (h2:∀E',Ext E E'->(∃pre,pre <+: seq∧p.Jx (g++pre) E'.w0)->dc ro P E' ops (i+1) n K (S.pU o.dst false)):
 dc ro P E ops i (n+1) K S:=by
 intro a w ⟨β,hr⟩;rw[FD,wpOpsIn_cons];unfold wpOpIn;rw[ho];simp only;rw[ae (by simp[Region.wanted,hg])];obtain⟨c,x,hc,jR,hfx,hlen,hargs⟩:=H4 hx hr;obtain⟨cv,tI,hcl,_⟩:=hfx.pI;have P2:cv=#[]:=sC (by simpa using hcl.symm);subst P2;have hD:∀b,E.D w β S.obj b->b<w.heap.size∧¬p.Y b:=fun b hb=>⟨hb.2.1,by rw[<- hp.y];exact wa hb⟩
 have hnd:∀c,o.op≠.defer c:=fun c' hc'=>by rw[hc]at hc';cases hc'
 have wc:(args p.l).length=(c.args.map a.eval).size:=by rw[<- hel.1];simpa using hlen
 have vS:=hspec.calls p g (c.args.map a.eval) w (p.ab _ _ _ hJ (hp.same hr.frame)) hall wc (aG hp.base hr.frame.base) (fun j av v hj hv=>by
  have hlt:j<args'.length:=by rw[hel.1];exact(bX.1 hj).1
  have q:=hargs j _ v (bf hlt) hv;have q2:=(q.pure (tP hpure j _ (bf hlt))).mono (fun _ _=>rfl) hD hp.base;exact hel.2.2 _ _ _ j _ av v (bf hlt) hj q2)
 refine⟨fun _ _=>trivial,?_⟩;rw[Oper.semAt_eq _ _ _ hnd];have hrun:(execOp a.eval o).run P w=.ok (.enter f (c.args.map a.eval)) w:=by
  have:=hspec.ent (c.args.map a.eval) w;simp only[execOp,hc,resolve,jR,tI,Deferred.ofValue];simpa[invoke]using this
 rw[hrun,Oper.uponIn_enter];refine⟨(fun h=>by cases h),vT.2 (vS.mono ?_)⟩;rintro e w' ⟨hk,v,rfl,hcase⟩;rcases hcase with⟨rfl,hj⟩|⟨rfl,hj⟩
 ·obtain⟨E',rfl,q2,q3⟩:=y6 hp hr hk o.dst true;exact ra (fun e a w ⟨fq,S',r1,r2⟩=>⟨fq,S',q2.trans r1,r2⟩) _ _ _ (h1 E' q2 hj _ _ q3)
 ·obtain⟨E',rfl,q2,q3⟩:=y6 hp hr hk o.dst false;exact ra (fun e a w ⟨fq,S',r1,r2⟩=>⟨fq,S',q2.trans r1,r2⟩) _ _ _ (h2 E' q2 hj _ _ q3)
end
section
variable {P:Program}
def pV(p:gj P)(g seq:List (List AV))(w:World)(b:Bool):Prop:=(b=true∧p.J (g++seq) w)∨(b=false∧∃pre,pre <+: seq∧p.Jx (g++pre) w)
def gj.env(p:gj P)(g:List (List AV))(w:World)(hJ:p.J g w)(hB:p.B<=w.heap.size):Env where
 w0:=w
 B:=p.B
 D0:=fun b=>b<w.heap.size∧¬p.Y b
 X:=fun _=>False
 pin:=fun _=>none
 cC:=fun o p h=>by cases h
 Y:=p.Y
 df:=[]
 hB:=hB
 hD:=fun b hb=>⟨hb.1,fun h=>h⟩
 hX:=fun b h=>h.elim
 hY:=fun b hb=>⟨cf (p.hY b hb) (p.hJ _ _ hJ),fun h=>h.2 hb,fun h=>h⟩
 hdf:=fun d h=>by cases h
 jN:=.nil
 hT:=(p.hT g w hJ).1
 dW:=fun b hb=>⟨GA (p.hT g w hJ).1 b hb,(p.hT g w hJ).2 b hb⟩
def H5 {f : FuncId} {fn : Func} {c : Code} {args : Nat → List AV} {res : Bool → Value → Prop} {rv : Array Value → Value} {seq : List (List AV)} {K : (p : gj P) → List (List AV) → Exit → Env → AS → Prop} (hf : P.funcs[f]? = some fn) (hname : (fn.name == "runtime.NumGoroutine") = false) (hb : fn.body = some c)
 (hr:∀tmps w,(results fn tmps).run P w=.ok (rv tmps) w)
 (hK:∀p g e E S a w,K p g e E S->Rel E S a w->(e=.normal∨e=.ret)∧∃b,res b (rv a.tmps)∧pV p g seq E.w0 b)
 (h:∀(p:gj P) (g:List (List AV)) (E:Env),p.At E->p.J g E.w0->(g++seq) <+: p.all->af none P E c (K p g) ⟨args p.l++List.replicate (fn.ntmps-(args p.l).length) .any,[]⟩):pR P f args res seq:=by
 refine⟨lm hf hname hb,fun p g vs w hJ hall hlen hB hargs=>?_⟩
 let E:=p.env g w hJ hB
 have hat:p.At E:=⟨rfl,ao _,p.hJ _ _ hJ,fun _ _ h=>h⟩
 have h1:RelB E (args p.l++List.replicate (fn.ntmps-(args p.l).length) .any) (oL []) { tmps:=vs++Array.replicate (fn.ntmps-vs.size) undef,defers:=[] } w (fun _=>undef):=by
  refine⟨rfl,by simp[hlen],fun t av ht=>?_,fun o=>trivial,fun o o' b _ h=>h.elim,⟨rfl,rfl,rfl,ao _,fun _ _ _=>rfl⟩,fun o v n0 hp=>by cases hp⟩;by_cases hlt:t<(args p.l).length
  ·rw[gS hlt]at ht;have h2:(vs++Array.replicate (fn.ntmps-vs.size) undef).getD t undef=vs.getD t undef:=by
    simp only[jf];rw[mO (by rw[<- hlen];exact hlt)]
   rw[h2];have hlt2:t<vs.size:=by rw[<- hlen];exact hlt
   have q:=(hargs t av _ ht (dC hlt2)).mono (fun _ _=>rfl) (D':=E.D w (fun _=>undef) (oL [])) (fun b hb=>⟨.inl hb,hb.1,fun o h=>h.elim⟩) (ao _);refine .d ?_;have e:vs.getD t undef=vs[t]:=by simp[Array.getD,hlt2]
   rw[e];exact q
  ·rw[jd (Bd hlt),List.getElem?_replicate]at ht;split at ht
   ·cases ht;exact .d (.any _)
   ·cases ht
 refine vT.1 (callsIn_of_wp_marks (F:=FW none) (n:=0) hf hb trivial (nK (h p g E hat hJ hall _ _ ⟨_,h1⟩) ?_));rintro e a' w' ⟨E2,S',hE,hk,hR0⟩;obtain⟨he,b,hres,hout⟩:=hK _ _ _ _ _ _ _ hk hR0;obtain⟨β1,hR⟩:=hR0;have P3:=hat.ext hE;have hkeep:Keep p.Y w w':=by
  refine⟨hR.frame.os.trans hE.os,hR.frame.tape.trans hE.tape,hR.frame.output.trans hE.output,aG hE.size hR.frame.size,fun b hb hy=>?_⟩;rw[hR.frame.block b (cf hb hE.size) (hE.nx hb (fun h=>h))];exact hE.keep b hb (fun h=>h) hy
 have hend:LeavesInM (FW none) 0 P fn a'.tmps (Fin p res g seq w) a'.defers .returning w':=by
  have hmarks:∀d∈a'.defers,∃b,d={ target:=.collected b,args:=#[] }∧E.N<=b∧w'.heap[b]? = some (.deferred (some [])):=by
   intro d hd;rw[hR.defers]at hd;obtain⟨b,rfl,hx,hy,hh⟩:=E2.hdf d hd;have hbl:b<E2.N:=(d8.1 hh).1;refine⟨b,rfl,?_,by rw[hR.frame.block b hbl hx];exact hh⟩;rcases hE.df b hd with q|q
   ·cases q
   ·exact q
  have key:∀(df:List Deferred) (w2:World),(∀d∈df,∃b,d={ target:=.collected b,args:=#[] }∧E.N<=b∧w2.heap[b]? = some (.deferred (some [])))->df.Nodup->Keep p.Y w w2->Same p.N w' w2 ->
   LeavesInM (FW none) 0 P fn a'.tmps (Fin p res g seq w) df .returning w2:=by
   intro df
   induction df with
   | nil=>
    intro w2 _ _ hk2 hs2;refine⟨_,hr _ _,hk2,_,rfl,?_⟩;have hs3:Same p.N E2.w0 w2:=by
     have:=P3.same hR.frame;exact⟨hs2.os.trans this.os,hs2.tape.trans this.tape,hs2.output.trans this.output,aG this.size hs2.size,fun b hb=>(hs2.blk b hb).trans (this.blk b hb)⟩
    rcases hout with⟨rfl,hj⟩|⟨rfl,pre,hpre,hj⟩
    ·exact .inl ⟨hres,p.ab _ _ _ hj hs3⟩
    ·exact .inr ⟨hres,pre,hpre,p.H1 _ _ _ hj hs3⟩
   | cons d ds ih=>
    intro w2 hd hn hk2 hs2;obtain⟨b',rfl,hb',ho⟩:=hd d (dJ ..);refine⟨zsi,.inl ⟨b',w2.putObj b' (.deferred none),rfl,run_takeDeferred ho,?_⟩⟩;rw[qJ]at hn;have Zl:E.N=w.heap.size:=rfl;have Zm:p.N<=E.N:=hat.size;have hk3:Keep p.Y w (w2.putObj b' (.deferred none)):=⟨hk2.os,hk2.tape,hk2.output,by simpa[World.putObj]using hk2.size,fun b hb hy=>by rw[World.putObj_heap_other zo];exact hk2.blk b hb hy⟩
    have hs3:Same p.N w' (w2.putObj b' (.deferred none)):=⟨hs2.os,hs2.tape,hs2.output,by simpa[World.putObj]using hs2.size,fun b hb=>by rw[World.putObj_heap_other zo];exact hs2.blk b hb⟩
    refine ih _ (fun d' hd'=>?_) hn.2 hk3 hs3;obtain⟨b'',rfl,P4,ho'⟩:=hd d' (cH _ hd');refine⟨b'',rfl,P4,?_⟩;rw[World.putObj_heap_other]
    ·exact ho'
    ·rintro rfl;exact hn.1 hd'
  exact key _ _ hmarks (by rw[hR.defers];exact E2.jN) hkeep ⟨rfl,rfl,rfl,ao _,fun _ _=>rfl⟩
 rcases he with rfl|rfl
 ·exact hend
 ·exact hend
def C5(t:Tmp)(seq:List (List AV))(p:gj P)(g:List (List AV)):Exit->Env->AS->Prop
 | .normal,E,S|.ret,E,S=>∃b,S.tmp t=.bool b∧pV p g seq E.w0 (b ())
 | _,_,_=>False
def C6{t:Tmp}{seq:List (List AV)}{p:gj P}{g:List (List AV)}{E:Env}{S:AS}{b:Unit->Bool}(hb:S.tmp t=.bool b)(h:pV p g seq E.w0 (b ())):C5 t seq p g .ret E S:=⟨b,hb,h⟩
def H6(seq:List (List AV))(p:gj P)(g:List (List AV)):Exit->Env->AS->Prop
 | .normal,E,_|.ret,E,_=>∃b,pV p g seq E.w0 b
 | _,_,_=>False
def P5 {f : FuncId} {fn : Func} {c : Code} {args : Nat → List AV} {t : Tmp} {seq : List (List AV)} (hf : P.funcs[f]? = some fn) (hname : (fn.name == "runtime.NumGoroutine") = false) (hb : fn.body = some c) (hr : fn.results = #[.tmp t])
 (h:∀(p:gj P) (g:List (List AV)) (E:Env),p.At E->p.J g E.w0->(g++seq) <+: p.all->af none P E c (C5 t seq p g) ⟨args p.l++List.replicate (fn.ntmps-(args p.l).length) .any,[]⟩):pR P f args isBool seq:=by
 refine H5 (K:=C5 t seq) (rv:=fun tmps=>tmps.getD t undef) hf hname hb (fun tmps w=>results_tmp hr tmps P w) (fun p g e E S a w hk hR=>?_) h;obtain⟨β,hR⟩:=hR;have key:(∃b,S.tmp t=.bool b∧pV p g seq E.w0 (b ()))->∃b,isBool b (a.tmps.getD t undef)∧pV p g seq E.w0 b:=by
  rintro⟨b,hb,ho⟩;have:=hR.at t;rw[hb]at this;exact⟨b (),this.gW,ho⟩
 cases e with
 | normal=>exact⟨.inl rfl,key hk⟩
 | ret=>exact⟨.inr rfl,key hk⟩
 | exit id=>exact hk.elim
 | goto l=>exact hk.elim
 | panic ch=>exact hk.elim
 | outgrown=>exact hk.elim
def P6 {f : FuncId} {fn : Func} {c : Code} {args : Nat → List AV} {seq : List (List AV)} (hf : P.funcs[f]? = some fn) (hname : (fn.name == "runtime.NumGoroutine") = false) (hb : fn.body = some c) (hr : fn.results = #[])
 (h:∀(p:gj P) (g:List (List AV)) (E:Env),p.At E->p.J g E.w0->(g++seq) <+: p.all->af none P E c (H6 seq p g) ⟨args p.l++List.replicate (fn.ntmps-(args p.l).length) .any,[]⟩):pR P f args (fun _ _=>True) seq:=by
 refine H5 (K:=H6 seq) (rv:=fun _=>.tuple #[]) hf hname hb (fun tmps w=>results_none hr tmps P w) (fun p g e E S a w hk hR=>?_) h;have key:(∃b,pV p g seq E.w0 b)->∃b,True∧pV p g seq E.w0 b:=fun⟨b,hb⟩=>⟨b,trivial,hb⟩
 cases e with
 | normal=>exact⟨.inl rfl,key hk⟩
 | ret=>exact⟨.inr rfl,key hk⟩
 | exit id=>exact hk.elim
 | goto l=>exact hk.elim
 | panic ch=>exact hk.elim
 | outgrown=>exact hk.elim
end
def AV.flat:AV->Bool
 | .int ..|.bool _|.str _|.nil|.bt|.cN|.func _ []=>true
 | _=>false
def H7(av:AV)(v:Value):Prop:=∀(w:World) (D:Nat->Prop) (B:Nat),RD w D B av v
def P7{w:World}{D:Nat->Prop}{B:Nat}{β:Nat->Value}{H:Nat->AO}{av:AV}{v:Value}(hf:av.flat=true)(h:RX w D B β H av v):H7 av v:=by
 cases av with
 | int k n=>rw[h.fG];exact fun _ _ _=>.int _ _
 | bool b=>rw[h.gW];exact fun _ _ _=>.bool _
 | str s=>rw[h.gX];exact fun _ _ _=>.str _
 | nil=>rw[h.kG];exact fun _ _ _=>.nil
 | bt=>rw[h.yw];exact fun _ _ _=>.bt
 | cN=>cases h with|d h=>cases h;exact fun _ _ _=>.cN
 | func fn cs=>
  cases cs with
  | nil=>
   obtain⟨vs,rfl,hl,_⟩:=h.pI;exact fun _ _ _=>.func _ _ _ hl fun i av v h=>by simp at h
  | cons a r=>simp[AV.flat]at hf
 | _=>simp[AV.flat]at hf
def lC:List (Nat×AO)->Bool
 | []=>true
 | (k,.box cs)::r=>decide (k<9000)&&cs.all AV.flat&&lC r
 | _::_=>false
def we(W:World)(β:Nat->Value)(o:Nat):AO->Prop
 | .none=>True
 | .box cs=>∃b vs ty,β o=.pointer (some ⟨b,0,none⟩)∧W.heap[b]? = some (.cells vs ty (0,0))∧cs.length=vs.size∧(∀(i:Nat) (av:AV) (v:Value),cs[i]? = some av->vs[i]? = some v->H7 av v)∧kH cs ty
 | .arr ..=>False
 | .it ..=>False
theorem tS:∀{l:List (Nat×AO)} (_:lC l=true) {o:Nat},(oL l o).is->o<9000∧∃cs,oL l o=.box cs∧cs.all AV.flat=true
 | [],_,o,h=>by simp[oL,AO.is]at h
 | (k,.box cs)::r,hf,o,h=>by
  simp only[lC,az,cX]at hf;simp only[oL]at h ⊢;by_cases e:k=o
  ·subst e;simp only[bC];exact⟨hf.1.1,cs,rfl,hf.1.2⟩
  ·simp only[aa e]at h ⊢;exact tS hf.2 h
 | (k,.none)::r,hf,o,h=>by simp[lC]at hf
 | (k,.arr x t sz ver n f)::r,hf,o,h=>by simp[lC]at hf
 | (k,.it ks f s p)::r,hf,o,h=>by simp[lC]at hf
def d6(l:List (Nat×AO)):List (Nat×AO):=l.map fun p=>(1000+p.1,p.2)
theorem rb:∀(l:List (Nat×AO)) (o:Nat),oL (d6 l) o=if 1000<=o then oL l (o-1000)else .none
 | [],o=>by simp[d6,oL]
 | (k,ob)::r,o=>by
  have ih:=rb r o;simp only[d6,fZ,oL]at ih ⊢;by_cases h:1000<=o
  ·simp only[h,bC]at ih ⊢;by_cases e:k=o-1000
   ·simp[e,show 1000+(o-1000)=o by omega]
   ·simp[e,show¬(1000+k=o) by omega,ih]
  ·simp only[h,dg]at ih ⊢;simp[show¬(1000+k=o) by omega,ih]
def nj:AV->AV
 | .ptr o off=>.ptr (1000+o) off
 | v=>if v.pure then v else .any
def kR:List Tmp->List AV->List AV->List AV
 | t::ts,v::vs,l=>kR ts vs (l.set t v)
 | _,_,l=>l
def P8{E:Env}{tmps:List AV}{H:Nat->AO}{a:Act}{w w':World}{β:Nat->Value}(h:RelB E tmps H a w β){Y:Nat->Prop}(hdf:∀b,{ target:=.collected b,args:=#[] }∈E.df->¬Y b)(hY:∀b,Y b->¬E.D w β H b∧∀o,(H o).is->bi (β o)≠some b)
 (hk:Keep Y w w'):∃E',E'.w0=w'∧E'.B=E.B∧E'.pin=E.pin∧(∀b,E'.X b->E.own b)∧(∀b,¬E'.Y b)∧E'.df=E.df∧(∀b,E'.D0 b->E.D w β H b)∧RelB E' tmps H a w' β:=by
 have hown:∀b,(∃o,(H o).is∧bi (β o)=some b)->b<w.heap.size∧E.own b:=fun b ⟨o,hi,hb⟩=>(h.objs o).lt hb hi;have hnD:∀{b},E.D w β H b->¬Y b:=fun hb hy=>(hY _ hy).1 hb;have C7:∀{o b},(H o).is->bi (β o)=some b->¬Y b:=fun hi hb hy=>(hY _ hy).2 _ hi hb
 let E':Env:={
  w0:=w'
  B:=E.B
  D0:=fun b=>E.D w β H b
  X:=fun b=>∃o,(H o).is∧bi (β o)=some b
  pin:=E.pin
  cC:=E.cC
  Y:=fun _=>False
  df:=E.df
  hB:=aG E.hB (aG h.frame.size hk.size)
  hD:=fun b hb=>⟨cf hb.2.1 hk.size,fun⟨o,hi,hq⟩=>hb.2.2 o hi hq⟩
  hX:=fun b hb=>cf (hown b hb).1 hk.size
  hY:=fun b hy=>hy.elim
  hdf:=fun d hd=>by
   obtain⟨b,rfl,hx,hy,hh⟩:=E.hdf d hd;have hbl:b<E.N:=(d8.1 hh).1;refine⟨b,rfl,fun hq=>?_,fun h=>h,?_⟩
   ·exact(hown b hq).2.elim hx fun q=>zo
   ·rw[hk.blk b (cf hbl h.frame.size) (hdf b hd),h.frame.block b hbl hx];exact hh
  jN:=E.jN
  hT:=tt h.tab fun b hb=>hk.blk b (h.ip (E.dW b hb)).2.1 (hnD (h.ip (E.dW b hb)))
  dW:=fun b hb=>h.ip (E.dW b hb) }
 have md:∀b,E.D w β H b->E'.D w' β H b:=fun b hb=>⟨.inl hb,cf hb.2.1 hk.size,hb.2.2⟩
 have hrd:∀av v,RD w (E.D w β H) E.B av v->RD w' (E'.D w' β H) E'.B av v:=fun av v q=>q.mono (fun b hb=>hk.blk b hb.2.1 (hnD hb)) md (ao _);have hrx:∀av v,RX w (E.D w β H) E.B β H av v->RX w' (E'.D w' β H) E'.B β H av v:=fun av v q=>
  q.map hrd (fun o off v q=>by obtain⟨b,h1,rfl⟩:=q.dF;exact .ptr _ _ b h1) (fun o ver n v q=>by obtain⟨h1,h2⟩:=q.aI;exact .aJ _ _ _ _ h1 h2) (fun o sz ver n i off v q=>by obtain⟨h1,h2,h3⟩:=q.jk;exact .ci _ _ _ _ _ _ _ h1 h2 h3)
 refine⟨E',rfl,rfl,rfl,fun b hb=>(hown b hb).2,fun b hb=>hb,rfl,fun b hb=>hb,
  ⟨h.defers,h.size,fun t av ht=>hrx _ _ (h.tmps t av ht),fun o=>?_,h.apart,⟨rfl,rfl,rfl,ao _,fun _ _ _=>rfl⟩,h.pin⟩⟩
 have ho:=h.objs o;cases hq:H o with
 | none=>trivial
 | box cs=>
  rw[hq]at ho;obtain⟨b,vs,ty,h1,h2,h3,h4,h5,h6⟩:=ho;exact⟨b,vs,ty,h1,by rw[hk.blk b (d8.1 h2).1 (C7 (by rw[hq];trivial) (by rw[h1];rfl))];exact h2,.inl ⟨o,by rw[hq];trivial,by rw[h1];rfl⟩,h4,fun i av v g1 g2=>hrx _ _ (h5 i av v g1 g2),h6⟩
 | it ks f seen pend=>
  rw[hq]at ho;obtain⟨b,mb,sa,h1,h2,h3,h4,h5⟩:=ho;exact⟨b,mb,sa,h1,by rw[hk.blk b (d8.1 h2).1 (C7 (by rw[hq];trivial) (by rw[h1];rfl))];exact h2,.inl ⟨o,by rw[hq];trivial,by rw[h1];rfl⟩,h4.imp id fun⟨m,q1,q2⟩=>⟨m,q1,hrd _ _ q2⟩,h5⟩
 | arr x t sz ver n f=>
  rw[hq]at ho;rcases ho with h1|⟨g,cap,cur,h1,h2,h3,h4,h5,h6,h7,h8⟩
  ·exact .inl h1
  ·exact .inr ⟨g,cap,cur,h1,by rw[hk.blk g (d8.1 h2).1 (C7 (by rw[hq];trivial) (by rw[h1];rfl))];exact h2,h3,h4,h5,h6,.inl ⟨o,by rw[hq];trivial,by rw[h1];rfl⟩,fun i hi=>⟨(h8 i hi).1,(h8 i hi).2.1,fun j av v g1 g2=>hrd _ _ ((h8 i hi).2.2 j av v g1 g2)⟩⟩
theorem H8{R:AV->Value->Prop}:∀(ps:List Tmp) (el:List AV) (vs:List Value) (l:List AV) (tm:Array Value),el.length=vs.length->tm.size=l.length->(∀(j:Nat) (av:AV) (v:Value),el[j]? = some av->vs[j]? = some v->R av v) ->
 (∀(t:Nat) (av:AV),l[t]? = some av->R av (tm.getD t undef)) ->
 ((ps.zip vs).foldl (fun tmps (p:Tmp×Value)=>tmps.setIfInBounds p.1 p.2) tm).size=(kR ps el l).length∧∀(t:Nat) (av:AV),(kR ps el l)[t]? = some av->R av (((ps.zip vs).foldl (fun tmps (p:Tmp×Value)=>tmps.setIfInBounds p.1 p.2) tm).getD t undef)
 | [],el,vs,l,tm,_,hs,_,h=>by simp only[List.zip_nil_left,List.foldl_nil,kR];exact⟨hs,h⟩
 | p::ps,[],[],l,tm,_,hs,_,h=>by simp only[List.zip_nil_right,List.foldl_nil,kR];exact⟨hs,h⟩
 | p::ps,e::el,v::vs,l,tm,hl,hs,he,h=>by
  simp only[List.zip_cons_cons,List.foldl_cons,kR];refine H8 ps el vs (l.set p e) (tm.setIfInBounds p v) (by simpa using hl) (by simp[hs]) (fun j av x h1 h2=>he (j+1) av x (by simpa using h1) (by simpa using h2)) (fun t av ht=>?_);rw[xM]at ht;split at ht
  ·rename_i e1;subst e1;split at ht
   ·rename_i hlt;cases ht;have:p<tm.size:=by rw[hs];exact hlt
    have:=he 0 e v rfl rfl;simpa[Array.getD,‹p<tm.size›]using this
   ·cases ht
  ·rename_i e1;have h2:(tm.setIfInBounds p v).getD t undef=tm.getD t undef:=by
    simp only[jf,Array.getElem?_setIfInBounds_ne e1]
   rw[h2];exact h t av ht
 | p::ps,[],v::vs,l,tm,hl,_,_,_=>by simp at hl
 | p::ps,e::el,[],l,tm,hl,_,_,_=>by simp at hl
def y7(Inv:List (List AV)->Prop)(iP:Exit->List (List AV)->Prop)(M:List (List AV)->List (Nat×AO))(Mx:Exit->List (List AV)->List (Nat×AO))(g:List (List AV)):Exit->Env->AS->Prop
 | .normal,_,S=>Inv g∧Weak ⟨[],S.objs⟩ ⟨[],d6 (M g)⟩
 | .ret,_,S=>iP .ret g∧Weak ⟨[],S.objs⟩ ⟨[],d6 (Mx .ret g)⟩
 | .exit id,_,S=>iP (.exit id) g∧Weak ⟨[],S.objs⟩ ⟨[],d6 (Mx (.exit id) g)⟩
 | _,_,_=>False
def jZ(W:World)(β:Nat->Value)(l:List (Nat×AO)):Prop:=∀o,we W β o (oL l o)
def codeOf:Exit->Option Code
 | .ret=>some .ret
 | .exit id=>some (.exit id)
 | _=>none
def we.mono{W W':World}{β:Nat->Value}{o:Nat}{ob:AO}(h:we W β o ob)(hk:∀b,ob.is->bi (β o)=some b->W'.heap[b]? = W.heap[b]?):we W' β o ob:=by
 cases ob with
 | none=>trivial
 | box cs=>
  obtain⟨b,vs,ty,h1,h2,h3⟩:=h;exact⟨b,vs,ty,h1,by rw[hk b trivial (by rw[h1];rfl)];exact h2,h3⟩
 | arr x t sz ver n f=>exact h.elim
 | it ks f s p=>exact h.elim
def H9{E:Env}{tmps:List AV}{H:Nat->AO}{a:Act}{w:World}{β:Nat->Value}(h:RelB E tmps H a w β){o:Nat}{cs:List AV}(hq:H o=.box cs)(hf:cs.all AV.flat=true):we w β o (.box cs):=by
 have ho:=h.objs o;rw[hq]at ho;obtain⟨b,vs,ty,h1,h2,_,h4,h5,h6⟩:=ho;exact⟨b,vs,ty,h1,h2,h4,fun i av v g1 g2=>P7 (cI.1 hf av (je g1)) (h5 i av v g1 g2),h6⟩
section
variable {P:Program}{E:Env}{K:Exit->Env->AS->Prop}
def af.range{t:Tmp}{ps:Array Tmp}{assign body:Code}{tmps:List AV}{f:FuncId}{caps pW:List AV}{res:Bool->Value->Prop}{seq:List (List AV)}{M:List (List AV)->List (Nat×AO)}{Mx:Exit->List (List AV)->List (Nat×AO)}{Inv:List (List AV)->Prop}{iP:Exit->List (List AV)->Prop}(hI0:Inv [])
 (hg:(⟨tmps,M []⟩:AS).tmp t=.func f caps) (hle:aD caps pW) (hpure:AV.bx caps=true) (hspec:pR P f (fun l=>.val (.func (.yield l) #[] #[])::pW) res seq)
 (rc:∀g,lC (M g)=true) (wf:∀e g,lC (Mx e g)=true) (hkey:∀g o,(oL (M g) o).is↔(oL (M []) o).is) (oj:∀e g o,(oL (Mx e g) o).is↔(oL (M []) o).is)
 (hps:∀el∈seq,el.length=ps.size)
 (hbody:∀g el,g++[el] <+: seq->Inv g->∀E l,af (some l) P E assign (jS (fun _ S'=>∀E',af (some l) P E' body (y7 Inv iP M Mx (g++[el])) S') (fun _ _ _=>False)) ⟨kR ps.toList el (tmps.map nj),d6 (M g)⟩)
 (hdone:∀E',Ext E E'->Inv seq->K .normal E' ⟨tmps,M seq⟩) (hstop:∀E' e pre,Ext E E'->iP e pre->pre <+: seq->K e E' ⟨tmps,Mx e pre⟩):
 af none P E (.rangeFunc (.tmp t) ps assign body) K ⟨tmps,M []⟩:=by
 rintro a w ⟨β,hr⟩;refine wpIn_rangeFunc (F:=FW none) (n:=0) ?_;intro fn hfn;have hfx:=hr.at t;rw[hg]at hfx;obtain⟨cv,hcv,hcl,hcx⟩:=hfx.pI;obtain⟨rec,hrec⟩:∃rec:LoopState->Option Code->Loop,rec=fun st pe=>{ state:=st,pending:=pe,fn,tmps:=a.tmps,params:=ps,assign,body,defers:=w.heap.size }:=⟨_,rfl⟩
 obtain⟨W1,hW1⟩:∃W1,(w.alloc (.deferred (some []))).alloc (.loop (rec .ready none))=W1:=⟨_,rfl⟩
 have hsz1:W1.heap.size=w.heap.size+2:=by rw[<- hW1];simp
 have hL1:W1.heap[w.heap.size+1]? = some (.loop (rec .ready none)):=by
  rw[<- hW1];have:=World.alloc_heap_new (w.alloc (.deferred (some []))) (.loop (rec .ready none));rwa [World.size_alloc]at this
 have hK1:W1.heap[w.heap.size]? = some (.deferred (some [])):=by
  rw[<- hW1];exact(Be _ _ _ zsi).trans (World.alloc_heap_new w _)
 have hold:∀b,b<w.heap.size->W1.heap[b]? = w.heap[b]? := fun b hb=>by
  rw[<- hW1];exact(Be _ _ _ (by simp;omega)).trans (Be w _ b hb)
 have C8:W1.os=w.os∧W1.tape=w.tape∧W1.output=w.output:=by rw[<- hW1];exact⟨rfl,rfl,rfl⟩
 have hblk:∀o b,(oL (M []) o).is->bi (β o)=some b->b<w.heap.size∧E.own b:=fun o b hi hb=>(hr.objs o).lt hb hi;obtain⟨Y,hYd⟩:∃Y:Nat->Prop,Y=fun b=>b=w.heap.size+1∨∃o,(oL (M []) o).is∧bi (β o)=some b:=⟨_,rfl⟩
 have hYl:Y (w.heap.size+1):=by rw[hYd];exact .inl rfl
 have y8:∀o b,(oL (M []) o).is->bi (β o)=some b->Y b:=fun o b h1 h2=>by rw[hYd];exact .inr ⟨o,h1,h2⟩
 have P9:∀b,Y b->b<w.heap.size+2:=fun b hb=>by
  rw[hYd]at hb;rcases hb with rfl|⟨o,h1,h2⟩
  ·omega
  ·have:=(hblk o b h1 h2).1;omega
 have fO:∀b,E.D w β (oL (M [])) b->b<w.heap.size∧¬Y b:=fun b hb=>⟨hb.2.1,fun hy=>by
  rw[hYd]at hy;rcases hy with rfl|⟨o,h1,h2⟩
  ·have:=hb.2.1;omega
  ·exact hb.2.2 o h1 h2⟩
 obtain⟨Bs,Zn⟩:∃Bs:World->Prop,Bs=fun W=>Keep Y W1 W:=⟨_,rfl⟩
 have Qa:jZ W1 β (M []):=fun o=>by
  by_cases hi:(oL (M []) o).is
  ·obtain⟨_,cs,hq,hf⟩:=tS (rc []) hi;rw[hq];exact(H9 hr hq hf).mono fun b _ hb=>hold b (hblk o b hi hb).1
  ·cases hq:oL (M []) o with
   | none=>trivial
   | box cs=>rw[hq]at hi;exact(hi trivial).elim
   | arr x t sz ver n f=>rw[hq]at hi;exact(hi trivial).elim
   | it ks f seen pend=>rw[hq]at hi;exact(hi trivial).elim
 have y9:∀{L:List (Nat×AO)} {W W':World},(∀o,(oL L o).is↔(oL (M []) o).is)->jZ W β L->(∀b,b<w.heap.size->W'.heap[b]? = W.heap[b]?)->jZ W' β L:=
  fun hk hf hs o=>(hf o).mono fun b hi hb=>hs b (hblk o b ((hk o).1 hi) hb).1
 have Qb:∀g el (vs:Array Value) W,(Keep Y W1 W∧W.heap[w.heap.size+1]? = some (.loop (rec .ready none))∧jZ W β (M g)∧Inv g)->(g++[el]) <+: seq->el.length=vs.size ->
  (∀(j:Nat) (av:AV) (v:Value),el[j]? = some av->vs[j]? = some v->RD W (fun b=>b<W.heap.size∧¬Y b) E.B av v) ->
  YieldAt (FW none) 0 P (w.heap.size+1) vs W fun e w'=>Keep Y W w'∧((e=.returned (.bool true)∧(Keep Y W1 w'∧w'.heap[w.heap.size+1]? = some (.loop (rec .ready none))∧jZ w' β (M (g++[el]))∧Inv (g++[el]))) ∨
   (e=.returned (.bool false)∧(Keep Y W1 w'∧∃e c,iP e (g++[el])∧codeOf e=some c∧w'.heap[w.heap.size+1]? = some (.loop (rec .done (some c)))∧jZ w' β (Mx e (g++[el]))))):=by
  rintro g el vs W ⟨hkp,Ia,hfa,hInv⟩ hall hlen hargs;have hel:=hps el (hall.subset zsi);have hWs:w.heap.size+2<=W.heap.size:=by have:=hkp.size;omega
  have hy:=run_yield (P:=P) (args:=vs) Ia (by rw[hrec];simp[<- hlen,hel]);rw[hrec]at hy;refine⟨fn,_,assign,body,hy,roundIn_of_wpIn hfn ?_⟩
  let Er:Env:={
   w0:=W
   B:=E.B
   D0:=fun b=>b<W.heap.size∧¬Y b
   X:=fun b=>∃o,(oL (M []) o).is∧bi (β o)=some b
   pin:=fun o'=>if 1000<=o'∧(oL (M []) (o'-1000)).eX=true then some (β (o'-1000),0)else none
   cC:=fun o' q hq=>by
    by_cases hc:1000<=o'∧(oL (M []) (o'-1000)).eX=true
    ·have:=(tS (rc []) (AO.qZ.1 hc.2)).1;have h2:o'<10000:=by omega
     simp[kE,hc.1,h2]
    ·simp[hc]at hq
   Y:=fun _=>False
   df:=[]
   hB:=aG hr.frame.base zo
   hD:=fun b hb=>⟨hb.1,fun⟨o,h1,h2⟩=>hb.2 (y8 o b h1 h2)⟩
   hX:=fun b ⟨o,h1,h2⟩=>by have:=(hblk o b h1 h2).1;omega
   hY:=fun b hy=>hy.elim
   hdf:=fun d hd=>by cases hd
   jN:=.nil
   hT:=tt hr.tab fun b hb=>(hkp.blk b (by have:=(fO b (hr.ip (E.dW b hb))).1;omega) (fO b (hr.ip (E.dW b hb))).2).trans (hold b (fO b (hr.ip (E.dW b hb))).1)
   dW:=fun b hb=>⟨by have:=(fO b (hr.ip (E.dW b hb))).1;omega,(fO b (hr.ip (E.dW b hb))).2⟩ }
  have pX:∀o',(oL (d6 (M g)) o').is->1000<=o'∧(oL (M []) (o'-1000)).is:=fun o' hi=>by
   rw[rb]at hi;by_cases h:1000<=o'
   ·simp only[h,bC]at hi;exact⟨h,(hkey g _).1 hi⟩
   ·simp[h,AO.is]at hi
  have Ib:∀b,b<W.heap.size∧¬Y b->Er.D W (fun o'=>β (o'-1000)) (oL (d6 (M g))) b:=fun b hb=>⟨.inl hb,hb.1,fun o' hi hq=>hb.2 (y8 _ b (pX o' hi).2 hq)⟩
  have pK:∀av v,RX w (E.D w β (oL (M []))) E.B β (oL (M [])) av v->RX W (Er.D W (fun o'=>β (o'-1000)) (oL (d6 (M g)))) Er.B (fun o'=>β (o'-1000)) (oL (d6 (M g))) (nj av) v:=by
   intro av v hx;have hpure:RX W (Er.D W (fun o'=>β (o'-1000)) (oL (d6 (M g)))) Er.B (fun o'=>β (o'-1000)) (oL (d6 (M g))) (if av.pure then av else .any) v:=by
    split
    ·rename_i hp;refine .d ((hx.pure hp).mono (fun b hb=>?_) (fun b hb=>Ib b ⟨by have:=(fO b hb).1;omega,(fO b hb).2⟩) (ao _));rw[hkp.blk b (by have:=(fO b hb).1;omega) (fO b hb).2];exact hold b (fO b hb).1
    ·exact .d (.any _)
   cases av with
   | ptr o off=>
    obtain⟨b,h1,rfl⟩:=hx.dF;exact .ptr _ _ b (by simpa using h1)
   | _=>exact hpure
  have Ic:(ps.zip vs).foldl (fun tmps (x:Tmp×Value)=>match x with|(t,a)=>tmps.setIfInBounds t a) a.tmps=(ps.toList.zip vs.toList).foldl (fun tmps (p:Tmp×Value)=>tmps.setIfInBounds p.1 p.2) a.tmps:=by
   rw[<- Array.foldl_toList,Array.toList_zip]
  have hrel:Rel Er ⟨kR ps.toList el (tmps.map nj),d6 (M g)⟩ { tmps:=(ps.zip vs).foldl (fun tmps (x:Tmp×Value)=>match x with|(t,a)=>tmps.setIfInBounds t a) a.tmps,defers:=[] } W:=by
   obtain⟨k1,k2⟩:=H8 (R:=fun av v=>RX W (Er.D W (fun o'=>β (o'-1000)) (oL (d6 (M g)))) Er.B (fun o'=>β (o'-1000)) (oL (d6 (M g))) av v) ps.toList el vs.toList (tmps.map nj) a.tmps (by simpa using hlen) (by simpa using hr.size)
    (fun j av v h1 h2=>.d ((hargs j av v h1 (by simpa using h2)).mono (fun _ _=>rfl) Ib (ao _))) (fun t av ht=>by
      simp only[gC,Option.map_eq_some_iff]at ht;obtain⟨Qc,h1,rfl⟩:=ht;exact pK _ _ (hr.tmps t Qc h1))
   refine⟨fun o'=>β (o'-1000),rfl,by rw[Ic];exact k1,fun t av ht=>by simp only[Ic];exact k2 t av ht,fun o'=>?_,fun o1 o2 b hne i1 i2 b1 b2=>?_,⟨rfl,rfl,rfl,ao _,fun _ _ _=>rfl⟩,fun o' v n0 hp=>?_⟩
   ·show OR Er W _ _ o' (oL (d6 (M g)) o');cases hq:oL (d6 (M g)) o' with
    | none=>trivial
    | it ks f s p=>
     have hi:(oL (d6 (M g)) o').is:=by rw[hq];trivial
     have h1:=(pX o' hi).1;rw[rb]at hq;simp only[h1,bC]at hq;have:=hfa (o'-1000);rw[hq]at this;exact this.elim
    | arr x t sz ver n f=>
     have hi:(oL (d6 (M g)) o').is:=by rw[hq];trivial
     have h1:=(pX o' hi).1;rw[rb]at hq;simp only[h1,bC]at hq;have:=hfa (o'-1000);rw[hq]at this;exact this.elim
    | box cs=>
     have hi:(oL (d6 (M g)) o').is:=by rw[hq];trivial
     obtain⟨h1,h2⟩:=pX o' hi;rw[rb]at hq;simp only[h1,bC]at hq;have:=hfa (o'-1000);rw[hq]at this;obtain⟨b,us,ty,g1,g2,g3,g4,g5⟩:=this;exact⟨b,us,ty,g1,g2,.inl ⟨_,h2,by rw[g1];rfl⟩,g3,fun i av v q1 q2=>.d (g4 i av v q1 q2 _ _ _),g5⟩
   ·have:=(pX o1 i1).1;have:=(pX o2 i2).1;exact hr.apart (o1-1000) (o2-1000) b zo (pX o1 i1).2 (pX o2 i2).2 b1 b2
   ·by_cases hc:1000<=o'∧(oL (M []) (o'-1000)).eX=true
    ·have hp':some (β (o'-1000),0)=some (v,n0):=by simpa[Er,hc]using hp
     cases hp';refine⟨fun _ _=>rfl,fun x t sz ver n f hf _=>?_⟩;rw[show(⟨kR ps.toList el (tmps.map nj),d6 (M g)⟩:AS).obj o'=oL (d6 (M g)) o' from rfl,rb]at hf;simp only[hc.1,bC]at hf;have:=hfa (o'-1000);rw[hf]at this;exact this.elim
    ·simp[Er,hc]at hp
  refine nK (hbody g el hall hInv Er (w.heap.size+1) _ _ hrel) ?_;rintro e a1 w1 ⟨E1,S1,hE1,hk1,β1,nk⟩;cases e with
  | normal=>
   have C9:w.heap.size+1<Er.N:=by show w.heap.size+1<W.heap.size;omega
   have wg:¬Er.X (w.heap.size+1):=fun⟨o,h1,h2⟩=>by have:=(hblk o _ h1 h2).1;omega
   have hl1:w1.heap[w.heap.size+1]? = some (.loop (rec .ready none)):=by
    rw[nk.frame.block _ (cf C9 hE1.size) (hE1.nx C9 wg),hE1.keep _ C9 wg (fun h=>h)];exact Ia
   have hlt1:w.heap.size+1<w1.heap.size:=(d8.1 hl1).1;have hbr:=run_beginRound (P:=P) hl1 (by rw[hrec]);obtain⟨w2,hw2⟩:∃w2,w1.putObj (w.heap.size+1) (.loop { rec .ready none with state:=.busy })=w2:=⟨_,rfl⟩
   rw[hw2]at hbr;have pY:Keep (fun b=>b=w.heap.size+1) w1 w2:=by
    rw[<- hw2];exact⟨rfl,rfl,rfl,by simp[World.putObj],fun b _ hb=>World.putObj_heap_other hb⟩
   obtain⟨E2,q1,q2,q3,q4,q5,q6,q7,hR2⟩:=P8 nk (Y:=fun b=>b=w.heap.size+1) (fun b hb he=>by
    obtain⟨b',h1,h2,h3,h4⟩:=E1.hdf _ hb;cases h1;have hbl:b<E1.N:=(d8.1 h4).1;have:=nk.frame.block b hbl h2;rw[h4,he,hl1]at this;cases this) (fun b hb=>by
    subst hb;have Qd:¬Er.own (w.heap.size+1):=fun ho=>ho.elim wg fun hn=>zo
    refine⟨fun hd=>?_,fun o hi hq=>?_⟩
    ·have:=hE1.dd hd;rcases this.1 with h|h|h
     ·exact h.2 hYl
     ·exact wg h
     ·omega
    ·exact Qd (hE1.own ((nk.objs o).lt hq hi).2)) pY
   refine⟨w2,hbr,nK (hk1 E2 a1 w2 ⟨β1,hR2⟩) ?_⟩;rintro e a3 w3 ⟨E3,S3,jq,hk3,β3,ml⟩;have Da:w.heap.size+1<E2.N:=by show w.heap.size+1<E2.w0.heap.size;rw[q1];exact cf hlt1 pY.size
   have hX2:∀b,b<W.heap.size->¬Y b->¬E2.X b:=fun b hb hy hx=>by
    have:=hE1.own (q4 b hx);rcases this with⟨o,h1,h2⟩|h
    ·exact hy (y8 o b h1 h2)
    ·exact absurd hb (lU.2 h)
   have Id:¬E2.X (w.heap.size+1):=fun hx=>by
    have:=hE1.own (q4 _ hx);exact this.elim wg fun hn=>zo
   have hl3:w3.heap[w.heap.size+1]? = some (.loop { rec .ready none with state:=.busy }):=by
    rw[ml.frame.block _ (cf Da jq.size) (jq.nx Da Id),jq.keep _ Da Id (q5 _),q1,<- hw2];exact World.putObj_heap_same hlt1
   have wh:Keep Y W w3:=by
    refine⟨?_,?_,?_,?_,fun b hb hy=>?_⟩
    ·rw[ml.frame.os,jq.os,q1,pY.os,nk.frame.os,hE1.os]
    ·rw[ml.frame.tape,jq.tape,q1,pY.tape,nk.frame.tape,hE1.tape]
    ·rw[ml.frame.output,jq.output,q1,pY.output,nk.frame.output,hE1.output]
    ·have a1:=hE1.size;have a2:=nk.frame.size;have a3:=pY.size;have a4:=jq.size;have a5:=ml.frame.size;have a6:E2.N=w2.heap.size:=by show E2.w0.heap.size=_;rw[q1]
     have a7:Er.N=W.heap.size:=rfl;omega
    ·have hbN:b<Er.N:=hb;have hbX:¬Er.X b:=fun⟨o,h1,h2⟩=>hy (y8 o b h1 h2);have hb1:b<w1.heap.size:=cf hbN (aG hE1.size nk.frame.size);have hb2:b<E2.N:=by show b<E2.w0.heap.size;rw[q1];exact cf hb1 pY.size
     have Ie:=hX2 b hb hy
     rw[ml.frame.block b (cf hb2 jq.size) (jq.nx hb2 Ie),jq.keep b hb2 Ie (q5 b),q1,pY.blk b hb1 (fun e=>hy (by rw[e];exact hYl)),
      nk.frame.block b (cf hbN hE1.size) (hE1.nx hbN hbX),hE1.keep b hbN hbX (fun h=>h)]
   have Qe:E3.pin=Er.pin:=by rw[jq.pin,q3,hE1.pin]
   have lz:∀(L:List (Nat×AO)),lC L=true->(∀o,(oL L o).is↔(oL (M []) o).is)->Weak ⟨[],S3.objs⟩ ⟨[],d6 L⟩->jZ w3 β L:=by
    intro L Qf Qg hwk o;by_cases hi:(oL L o).is
    ·obtain⟨_,cs,hq,hf⟩:=tS Qf hi;obtain⟨β4,If⟩:=hwk E3 ⟨#[],a3.defers⟩ w3 ⟨β3,⟨ml.defers,rfl,fun t av ht=>by simp at ht,ml.objs,ml.apart,ml.frame,ml.pin⟩⟩;have hH:(⟨[],d6 L⟩:AS).obj (1000+o)=.box cs:=by
      show oL (d6 L) (1000+o)=_;rw[rb];simp[hq]
     have hp:E3.pin (1000+o)=some (β o,0):=by
      rw[Qe];have:(oL (M []) o).eX=true:=AO.qZ.2 ((Qg o).1 hi);simp[Er,this]
     have hβ:β4 (1000+o)=β o:=(If.pin _ _ _ hp).1 cs hH;have:=H9 If hH hf;rw[hq];obtain⟨b,us,ty,g1,g2⟩:=this;exact⟨b,us,ty,by rw[<- hβ];exact g1,g2⟩
    ·cases hq:oL L o with
     | none=>trivial
     | box cs=>rw[hq]at hi;exact(hi trivial).elim
     | arr x t sz ver n f=>rw[hq]at hi;exact(hi trivial).elim
     | it ks f seen pend=>rw[hq]at hi;exact(hi trivial).elim
   have hlt3:w.heap.size+1<w3.heap.size:=(d8.1 hl3).1;have hput:∀(o':Obj),Keep Y W (w3.putObj (w.heap.size+1) o'):=fun o'=>
    ⟨wh.os,wh.tape,wh.output,by simpa[World.putObj]using wh.size,fun b hb hy=>by rw[World.putObj_heap_other (fun e=>hy (by rw[e];exact hYl))];exact wh.blk b hb hy⟩
   have tT:∀{L:List (Nat×AO)} (o':Obj),(∀o,(oL L o).is↔(oL (M []) o).is)->jZ w3 β L->jZ (w3.putObj (w.heap.size+1) o') β L:=fun o' hk hf=>y9 hk hf fun b hb=>World.putObj_heap_other zo;have hend:=fun(jump:Option Code)=>run_endRound (P:=P) jump hl3;rw[hrec]at hend;cases e with
   | normal=>
    refine⟨_,_,hend none,hput _,.inl ⟨rfl,hkp.trans (hput _),?_,tT _ (hkey _) (lz _ (rc _) (hkey _) hk3.2),hk3.1⟩⟩;rw[World.putObj_heap_same hlt3,hrec];rfl
   | ret=>
    refine⟨_,_,hend (some .ret),hput _,.inr ⟨rfl,hkp.trans (hput _),.ret,.ret,hk3.1,rfl,?_,tT _ (oj _ _) (lz _ (wf _ _) (oj _ _) hk3.2)⟩⟩;rw[World.putObj_heap_same hlt3,hrec];rfl
   | exit id=>
    refine⟨_,_,hend (some (.exit id)),hput _,.inr ⟨rfl,hkp.trans (hput _),.exit id,.exit id,hk3.1,rfl,?_,tT _ (oj _ _) (lz _ (wf _ _) (oj _ _) hk3.2)⟩⟩;rw[World.putObj_heap_same hlt3,hrec];rfl
   | goto l=>exact hk3.elim
   | panic ch=>exact hk3.elim
   | outgrown=>exact hk3.elim
  | exit id=>exact hk1.elim
  | goto l=>exact hk1.elim
  | ret=>exact hk1.elim
  | panic ch=>exact hk1.elim
  | outgrown=>exact hk1.elim
 let p:gj P:={
  l:=w.heap.size+1
  Y:=Y
  N:=w.heap.size+2
  B:=E.B
  all:=seq
  J:=fun g W=>Keep Y W1 W∧W.heap[w.heap.size+1]? = some (.loop (rec .ready none))∧jZ W β (M g)∧Inv g
  Jx:=fun g W=>Keep Y W1 W∧∃e c,iP e g∧codeOf e=some c∧W.heap[w.heap.size+1]? = some (.loop (rec .done (some c)))∧jZ W β (Mx e g)
  hY:=P9
  hJ:=fun g W h=>by have:=h.1.size;omega
  ab:=fun g W W' h hs=>⟨⟨hs.os.trans h.1.os,hs.tape.trans h.1.tape,hs.output.trans h.1.output,aG h.1.size hs.size,fun b hb hy=>(hs.blk b zo).trans (h.1.blk b hb hy)⟩,
   (hs.blk _ zo).trans h.2.1,y9 (hkey g) h.2.2.1 fun b hb=>hs.blk b zo,h.2.2.2⟩
  H1:=fun g W W' h hs=>by
   obtain⟨h1,e,c,h2,h3,h4,h5⟩:=h
   exact⟨⟨hs.os.trans h1.os,hs.tape.trans h1.tape,hs.output.trans h1.output,aG h1.size hs.size,fun b hb hy=>(hs.blk b zo).trans (h1.blk b hb hy)⟩,
    e,c,h2,h3,(hs.blk _ zo).trans h4,y9 (oj e g) h5 fun b hb=>hs.blk b zo⟩
  hT:=fun g W h=>by
   have d0:=fun b hb=>fO b (hr.ip (E.dW b hb));exact⟨tt hr.tab fun b hb=>(h.1.blk b (by have:=(d0 b hb).1;omega) (d0 b hb).2).trans (hold b (d0 b hb).1),fun b hb=>(d0 b hb).2⟩
  H2:=Qb }
 have hev:a.eval (.tmp t)=.func (.func f) #[] cv:=hcv;refine⟨w.heap.size+1,[{ target:=.collected w.heap.size,args:=#[] }],W1,{ target:=.fn (.func f) cv,args:=#[.func (.yield (w.heap.size+1)) #[] #[]] },W1,f,#[.func (.yield (w.heap.size+1)) #[] #[]]++cv,W1,?_,?_,fun _ _=>trivial,?_,(fun h=>by cases h),?_⟩
 ·rw[<- hW1,hrec];exact run_enterLoop_outer _ _ _ _ _
 ·simp only[resolve,hev];simp[go_sem]
 ·have:=hspec.ent (#[.func (.yield (w.heap.size+1)) #[] #[]]++cv) W1;simpa[invoke]using this
 ·have Qh:Keep Y W1 W1:=.refl _ _;refine vT.2 ((hspec.calls p [] _ W1 ⟨Qh,hL1,Qa,hI0⟩ (List.prefix_refl _) ?_ (aG hr.frame.base zo) (fun j av v hj hv=>?_)).mono ?_)
  ·simp[<- hle.1,hcl];omega
  ·cases j with
   | zero=>
    rw[mO zsi]at hv;simp at hj hv;subst hj;subst hv;exact .val _
   | succ j=>
    have hj':pW[j]? = some av:=by simpa using hj
    have hv':cv[j]? = some v:=by
     rw[Fr zsi]at hv;simpa using hv
    have hlt:j<caps.length:=by rw[hle.1];exact(bX.1 hj').1
    have q:=(hcx j _ v (bf hlt) hv').pure (tP hpure j _ (bf hlt));have q2:=q.mono (w':=W1) (D':=fun b=>b<W1.heap.size∧¬Y b) (B':=E.B) (fun b hb=>hold b (fO b hb).1) (fun b hb=>⟨by have:=(fO b hb).1;omega,(fO b hb).2⟩) (ao _);exact hle.2.2 _ _ _ j _ av v (bf hlt) hj' q2
  ·rintro en w' ⟨Zo,v,rfl,hcase⟩;have hafter:∀(L:List (Nat×AO)) (w4:World),Keep Y W1 w4->jZ w4 β L->lC L=true->(∀o,(oL L o).is↔(oL (M []) o).is)->∃E',Ext E E'∧Rel E' ⟨tmps,L⟩ { a with defers:=[{ target:=.collected w.heap.size,args:=#[] }]++a.defers } w4:=by
    intro L w4 hk4 Qi hfl hkl;have za:∀{o:Nat} {x:Bool} {t sz ver:Nat} {n:Unit->Nat} {f:(Unit->Nat)->List AV},oL L o=.arr x t sz ver n f->False:=fun{o x t sz ver n f} hq=>by
     obtain⟨_,cs,h1,_⟩:=tS hfl (o:=o) (by rw[hq];trivial);rw[hq]at h1;cases h1
    have Ig:∀b,b<E.N->¬E.X b->¬Y b:=fun b hb hx hy=>by
     rw[hYd]at hy;rcases hy with rfl|⟨o,h1,h2⟩
     ·have:=hr.frame.size;omega
     ·exact(hblk o b h1 h2).2.elim hx fun hn=>zo
    have Qj:E.N<=w.heap.size:=hr.frame.size;have Zp:w.heap.size+2<=w4.heap.size:=by have:=hk4.size;omega
    have Qk:¬Y w.heap.size:=fun hy=>by
     rw[hYd]at hy;rcases hy with h|⟨o,h1,h2⟩
     ·omega
     ·have:=(hblk o _ h1 h2).1;omega
    let E':Env:={
     w0:=w4
     B:=E.B
     D0:=fun b=>E.D w β (oL (M [])) b
     X:=fun b=>∃o,(oL (M []) o).is∧bi (β o)=some b
     pin:=E.pin
     cC:=E.cC
     Y:=E.Y
     df:={ target:=.collected w.heap.size,args:=#[] }::E.df
     hB:=aG hr.frame.base zo
     hD:=fun b hb=>⟨by have:=(fO b hb).1;omega,fun⟨o,h1,h2⟩=>hb.2.2 o h1 h2⟩
     hX:=fun b ⟨o,h1,h2⟩=>by have:=(hblk o b h1 h2).1;omega
     hY:=fun b hy=>⟨by have:=(E.hY b hy).1;have h2:E.w0.heap.size=E.N:=rfl;omega,fun hd=>wa hd hy,fun⟨o,h1,h2⟩=>v8 E (hblk o b h1 h2).2 hy⟩
     hdf:=fun d hd=>by
      rcases bW.1 hd with rfl|hd
      ·refine⟨_,rfl,fun⟨o,h1,h2⟩=>by have:=(hblk o _ h1 h2).1;omega,fun hy=>by have:=(E.hY _ hy).1;have h2:E.w0.heap.size=E.N:=rfl;omega,?_⟩;rw[hk4.blk _ zo Qk];exact hK1
      ·obtain⟨b,rfl,hx,hy,hh⟩:=E.hdf d hd;have hbl:b<E.N:=(d8.1 hh).1;refine⟨b,rfl,fun⟨o,h1,h2⟩=>(hblk o b h1 h2).2.elim hx fun hn=>zo,hy,?_⟩;rw[hk4.blk b zo (Ig b hbl hx),hold b zo,hr.frame.block b hbl hx];exact hh
     hT:=tt hr.tab fun b hb=>(hk4.blk b (by have:=(fO b (hr.ip (E.dW b hb))).1;omega) (fO b (hr.ip (E.dW b hb))).2).trans (hold b (fO b (hr.ip (E.dW b hb))).1)
     dW:=fun b hb=>hr.ip (E.dW b hb)
     jN:=by
      rw[qJ];refine⟨fun hd=>?_,E.jN⟩;obtain⟨b,h1,hx,hy,hh⟩:=E.hdf _ hd;cases h1;have hbl:w.heap.size<E.N:=(d8.1 hh).1;omega }
    have md:∀b,E.D w β (oL (M [])) b->E'.D w4 β (oL L) b:=fun b hb=>⟨.inl hb,by have:=(fO b hb).1;omega,fun o hi=>hb.2.2 o ((hkl o).1 hi)⟩
    have hrd:∀av v,RD w (E.D w β (oL (M []))) E.B av v->RD w4 (E'.D w4 β (oL L)) E'.B av v:=fun av v q=>q.mono (fun b hb=>by
     rw[hk4.blk b (by have:=(fO b hb).1;omega) (fO b hb).2];exact hold b (fO b hb).1) md (ao _)
    have hrx:∀av v,RX w (E.D w β (oL (M []))) E.B β (oL (M [])) av v->RX w4 (E'.D w4 β (oL L)) E'.B β (oL L) av v:=fun av v q=>
     q.map hrd (fun o off v q=>by obtain⟨b,h1,rfl⟩:=q.dF;exact .ptr _ _ b h1) (fun o ver n v q=>by obtain⟨h1,h2⟩:=q.aI;exact .aJ _ _ _ _ h1 (fun x t sz' aM n' f hH=>(za hH).elim)) (fun o sz ver n i off v q=>by obtain⟨h1,h2,h3⟩:=q.jk;exact .ci _ _ _ _ _ _ _ h1 h2 (fun x t sz' aM n' f hH=>(za hH).elim))
    refine⟨E',⟨ao _,rfl,rfl,hk4.os.trans (C8.1.trans hr.frame.os),hk4.tape.trans (C8.2.1.trans hr.frame.tape),hk4.output.trans (C8.2.2.trans hr.frame.output),by show E.N<=w4.heap.size;omega,fun b ⟨o,h1,h2⟩=>(hblk o b h1 h2).2,fun b hb=>hb.1,fun b hb hx hy=>?_,fun b hb=>?_⟩,
     β,⟨by show _++a.defers=_::E.df;rw[hr.defers];rfl,hr.size,fun t av ht=>hrx _ _ (hr.tmps t av ht),fun o=>?_,fun o1 o2 b hne i1 i2=>hr.apart o1 o2 b hne ((hkl o1).1 i1) ((hkl o2).1 i2),⟨rfl,rfl,rfl,ao _,fun _ _ _=>rfl⟩,fun o v n0 hp=>⟨fun cs hq=>?_,fun x t sz ver n f hq _=>(za hq).elim⟩⟩⟩
    ·show w4.heap[b]? = _;rw[hk4.blk b zo (Ig b hb hx),hold b zo];exact hr.frame.block b hb hx
    ·rcases bW.1 hb with h|h
     ·cases h;exact .inr Qj
     ·exact .inl h
    ·show OR E' w4 β (oL L) o (oL L o);have:=Qi o;cases hq:oL L o with
     | none=>trivial
     | arr x t sz ver n f=>exact(za hq).elim
     | it ks f s p=>rw[hq]at this;exact this.elim
     | box cs=>
      rw[hq]at this;obtain⟨b,us,ty,g1,g2,g3,g4,g5⟩:=this;exact⟨b,us,ty,g1,g2,.inl ⟨o,(hkl o).1 (by rw[hq];trivial),by rw[g1];rfl⟩,g3,fun i av v q1 q2=>.d (g4 i av v q1 q2 _ _ _),g5⟩
    ·have hi:(oL (M []) o).is:=(hkl o).1 (by show(oL L o).is;rw[show oL L o=_ from hq];trivial);obtain⟨_,cs0,h1,_⟩:=tS (rc []) hi;exact(hr.pin o v n0 hp).1 cs0 h1
   have hput:∀(W:World) (o':Obj),Keep Y W1 W->Keep Y W1 (W.putObj (w.heap.size+1) o'):=fun W o' hk=>
    ⟨hk.os,hk.tape,hk.output,by simpa[World.putObj]using hk.size,fun b hb hy=>by rw[World.putObj_heap_other (fun e=>hy (by rw[e];exact hYl))];exact hk.blk b hb hy⟩
   have tT:∀{L:List (Nat×AO)} (W:World) (o':Obj),(∀o,(oL L o).is↔(oL (M []) o).is)->jZ W β L->jZ (W.putObj (w.heap.size+1) o') β L:=fun W o' hk hf=>y9 hk hf fun b hb=>World.putObj_heap_other zo;rcases hcase with⟨_,hj1,hj2,hj3,Ih⟩|⟨_,pre,hpre,hj1,e,c,hst,hcode,hj2,hj3⟩
   ·have hend:=run_endLoop (P:=P) hj2 (by rw[hrec];simp);refine⟨_,_,hend,?_⟩;rw[hrec];simp only[AZ]at hj3 Ih;obtain⟨E',h1,h2⟩:=hafter (M seq) (w'.putObj (w.heap.size+1) (.loop { rec .ready none with state:=.exhausted })) (hput _ _ hj1) (tT _ _ (hkey _) hj3) (rc _) (hkey _);exact⟨E',_,h1,hdone E' h1 Ih,by rw[hrec]at h2;exact h2⟩
   ·have hend:=run_endLoop (P:=P) hj2 (by rw[hrec];simp);refine⟨_,_,hend,?_⟩;rw[hrec];simp only[AZ]at hj3 hst;obtain⟨E',h1,h2⟩:=hafter (Mx e pre) (w'.putObj (w.heap.size+1) (.loop { rec .done (some c)with state:=.exhausted })) (hput _ _ hj1) (tT _ _ (oj _ _) hj3) (wf _ _) (oj _ _);rw[hrec]at h2;have hK:=hstop E' e pre h1 hst hpre;cases e with
    | ret=>cases hcode;exact wpIn_ret ⟨E',_,h1,hK,h2⟩
    | exit id=>cases hcode;exact wpIn_exit ⟨E',_,h1,hK,h2⟩
    | _=>cases hcode
end
structure SS where
 n:Nat
 l:List (Nat×AV)
 objs:List (Nat×AO)
def cO:List (Nat×AV)->Nat->AV
 | [],_=>.any
 | (i,v)::r,j=>match Nat.beq i j with|true=>v|false=>cO r j
def SS.st(s:SS):AS:=⟨(List.range s.n).map (cO s.l),s.objs⟩
def SS.obj(s:SS)(o:Nat):AO:=oL s.objs o
def SS.ok(s:SS):Prop:=∀p∈s.l,p.1<s.n
theorem zb:∀{l:List (Nat×AV)} {t:Nat},cO l t=.any∨(t,cO l t)∈l
 | [],_=>.inl rfl
 | (i,v)::r,t=>by
  simp only[cO];split
  ·rename_i h;have:=qE h;subst this;exact .inr (dJ ..)
  ·rcases zb (l:=r) (t:=t)with h|h
   ·exact .inl h
   ·exact .inr (cH _ h)
def SS.ze(s:SS){t:Nat}(h:t<s.n):s.st.tmps[t]? = some (cO s.l t):=by
 simp[SS.st,h]
def SS.zf(s:SS):s.st.tmps.length=s.n:=by simp[SS.st]
def SS.tU{s:SS}(hk:s.ok)(t:Nat):s.st.tmp t=cO s.l t:=by
 unfold AS.tmp;by_cases h:t<s.n
 ·rw[cz,s.ze h];rfl
 ·rw[cz,sG (by rw[s.zf];omega)];rcases zb (l:=s.l) (t:=t)with q|q
  ·rw[q];rfl
  ·exact absurd (hk _ q) h
def pZ{l:List (Nat×AV)}{t j:Nat}{v:AV}(h:t≠j):cO ((t,v)::l) j=cO l j:=by
 simp only[cO];split
 ·rename_i q;exact absurd (qE q) h
 ·rfl
def re{l:List (Nat×AV)}{t:Nat}{v:AV}:cO ((t,v)::l) t=v:=by
 simp only[cO];split
 ·rfl
 ·rename_i q;simp at q
def SS.put(s:SS)(wt:List (Nat×AV))(wo:List (Nat×AO)):SS:=
 ⟨s.n,match wt with|[]=>s.l|(t,v)::_=>(match Nat.blt t s.n with|true=>(t,v)::s.l|false=>s.l),gK s.objs wo⟩
def SS.Ql{s:SS}(wt:List (Nat×AV))(wo:List (Nat×AO)):(s.put wt wo).st=s.st.put wt wo:=by
 unfold SS.put AS.put
 match wt with
 | []=>rfl
 | (t,v)::r=>
  simp only[SS.st];congr 1;split
  ·rename_i h;have ht:t<s.n:=by simpa[Nat.blt_eq]using h
   refine List.ext_getElem? fun j=>?_;rw[xM];by_cases e:t=j
   ·subst e;simp[ht,re]
   ·have:(cO ((t,v)::s.l)) j=cO s.l j:=pZ e;simp only[aa e,gC];by_cases hj:j<s.n
    ·simp[hj,this]
    ·simp[hj]
  ·rename_i h;have ht:¬t<s.n:=fun q=>by
    have q2:t.blt s.n=true:=by rw[Nat.blt_eq];exact q
    rw[q2]at h;cases h
   rw[List.set_eq_of_length_le (by simp;omega)]
def SS.Qm{s:SS}(hk:s.ok)(wt:List (Nat×AV))(wo:List (Nat×AO)):(s.put wt wo).ok:=by
 unfold SS.put SS.ok
 match wt with
 | []=>exact hk
 | (t,v)::r=>
  intro p hp;simp only at hp ⊢;split at hp
  ·rename_i h;rcases bW.1 hp with rfl|hp
   ·simpa[Nat.blt_eq]using h
   ·exact hk p hp
  ·exact hk p hp
def M.oo{α:Type}(s:SS):M α->Option (Run α)
 | .ret a=>some ⟨a,[],[],[]⟩
 | .fail=>none
 | @M.cond _ c _ k=>match k.oo s with|some r=>some { r with conds:=c::r.conds }|none=>none
 | .tmp t k=>match(k (cO s.l t)).oo s with|some r=>some { r with rt:=t::r.rt }|none=>none
 | .obj o k=>match(k (oL s.objs o)).oo s with|some r=>some { r with ro:=o::r.ro }|none=>none
theorem M.wi{α:Type}{s:SS}(hk:s.ok):∀(m:M α),m.oo s=m.run s.st
 | .ret a=>rfl
 | .fail=>rfl
 | @M.cond _ c _ k=>by simp only[M.oo,M.run,M.wi hk k];rfl
 | .tmp t k=>by simp only[M.oo,M.run,SS.tU hk,M.wi hk (k _)];rfl
 | .obj o k=>by simp only[M.oo,M.run,M.wi hk (k _)];rfl
structure Ii where
 s:SS
 conds:List (Unit->Prop)
 calls:List (Option (Unit->Bool)×bk)
 logs:List Log
def tW(T:List (Nat×TI))(aw:cL)(ops:Array Oper):Nat->List Oper->SS->Option Ii
 | _,[],s=>some ⟨s,[],[],[]⟩
 | i,o::rest,s=>
  match(tn T aw ops i o).oo s with
  | none=>none
  | some ⟨(g,e),conds,rt,ro⟩=>
   match tW T aw ops (i+1) rest (s.put (jL o e.dst) e.wo)with
   | none=>none
   | some out=>some ⟨out.s,conds++out.conds,(match e.call with|some c=>[(g,c)]|none=>[])++out.calls,⟨rt,ro,jL o e.dst,e.wo,e.new⟩::out.logs⟩
theorem Ij{T:List (Nat×TI)}{aw:cL}{ops:Array Oper}:∀(rest:List Oper) (i:Nat) (s:SS) (out:Ii),s.ok->tW T aw ops i rest s=some out ->
 lx T aw ops i rest s.st=some ⟨out.s.st,out.conds,out.calls,out.logs⟩∧out.s.ok∧out.s.n=s.n
 | [],i,s,out,hk,h=>by simp only[tW,cB]at h;subst h;exact⟨rfl,hk,rfl⟩
 | o::rest,i,s,out,hk,h=>by
  simp only[tW]at h;simp only[lx,<- M.wi hk];split at h
  ·cases h
  ·rename_i g e conds rt ro hr;rw[hr];split at h
   ·cases h
   ·rename_i out' h2;obtain⟨h3,h4,h5⟩:=Ij rest (i+1) _ out' (SS.Qm hk _ _) h2;simp only[cB]at h;subst h;rw[SS.Ql]at h3;simp only[h3];exact⟨rfl,h4,h5⟩
def zg(d:Nat):List (Nat×AV)->Bool
 | []=>true
 | (_,v)::r=>AV.nL d [v]&&zg d r
def Db(d:Nat):List (Nat×AO)->Bool
 | []=>true
 | (_,o)::r=>o.bK d&&Db d r
def SS.bK(s:SS)(d:Nat):Bool:=zg d s.l&&Db d s.objs&&!kE d
theorem Ik{d:Nat}:∀{l:List (Nat×AV)},zg d l=true->∀{t:Nat} {v:AV},(t,v)∈l->AV.nL d [v]=true
 | [],_,_,_,h=>by cases h
 | (i,u)::r,hn,t,v,h=>by
  simp only[zg,az]at hn;rcases bW.1 h with e|h
  ·cases e;exact hn.1
  ·exact Ik hn.2 h
theorem Il{d:Nat}:∀{cs:List AV},(∀c∈cs,AV.nL d [c]=true)->AV.nL d cs=true
 | [],_=>by simp[AV.nL]
 | c::r,h=>na.2 ⟨h c (dJ ..),Il fun x hx=>h x (cH _ hx)⟩
def SS.Qn{s:SS}{d:Nat}(h:s.bK d=true):s.st.bK d=true:=by
 simp only[SS.bK,az]at h;obtain⟨⟨h1,h2⟩,h3⟩:=h;simp only[AS.bK,az];refine⟨⟨Il fun c hc=>?_,?_⟩,h3⟩
 ·obtain⟨t,_,rfl⟩:=gG.1 hc;rcases zb (l:=s.l) (t:=t)with q|q
  ·rw[q];simp[AV.nL]
  ·exact Ik h1 q
 ·show s.objs.all _=true;generalize s.objs=l at h2
  induction l with
  | nil=>rfl
  | cons p r ih=>
   obtain⟨k,o⟩:=p;simp only[Db,az]at h2;simp only[qD,az];exact⟨h2.1,ih h2.2⟩
def wj(s:SS)(p:Nat->Bool):List Nat->Bool
 | []=>true
 | d::r=>s.bK d&&p d&&wj s p r
def wm(s:SS):List Log->List Log->Bool
 | _,[]=>true
 | seen,l::r=>wj s (fun d=>seen.all fun m=>!(m.refers d)) l.new&&wm s (l::seen) r
theorem Dd{s:SS}{p:Nat->Bool}:∀{l:List Nat},wj s p l=true->∀d∈l,s.st.bK d=true∧p d=true
 | [],_,_,h=>by cases h
 | a::r,hn,d,h=>by
  simp only[wj,az]at hn;rcases bW.1 h with rfl|h
  ·exact⟨SS.Qn hn.1.1,hn.1.2⟩
  ·exact Dd hn.2 d h
theorem Im{s:SS}:∀{logs seen:List Log},wm s seen logs=true->nX s.st seen logs=true
 | [],_,_=>rfl
 | l::r,seen,h=>by
  simp only[wm,az]at h;simp only[nX,az,cI];exact⟨fun d hd=>let ⟨a,b⟩:=Dd h.1 d hd;⟨a,cI.1 b⟩,Im h.2⟩
def zh(c:Nat)(l:Log):List (Nat×Log)->Bool
 | []=>true
 | (i,m)::r=>(l.new.all fun d=>!(m.refers d))&&(match c.testBit i with|true=>true|false=>!(m.clash l)&&m.new.all fun d=>!(l.refers d))&&zh c l r
def rf(s:SS):List (Nat×Log)->Nat->List Nat->List Log->Bool
 | seen,j,c::cs,l::ls=>Nat.beq (c >>> j) 0&&wj s (fun _=>true) l.new&&zh c l seen&&rf s ((j,l)::seen) (j+1) cs ls
 | _,_,_,[]=>true
 | _,_,[],_::_=>false
def tX{a b:List Nat}:hits a b=hits b a:=by
 have:∀{a b:List Nat},hits a b=true->hits b a=true:=by
  intro a b h;obtain⟨x,h1,h2⟩:=o9.1 h;exact o9.2 ⟨x,by simpa using h2,by simpa using h1⟩
 rw[mQ];exact⟨this,this⟩
def Qo{a b c:List Nat}:hits a (b++c)=(hits a b||hits a c):=by
 rw[mQ];simp only[hits,o9,eU];constructor
 ·rintro⟨x,h1,h2⟩;simp only[List.contains_eq_mem,gB,cX]at h2;exact h2.elim (fun h=>.inl ⟨x,h1,by simpa using h⟩) fun h=>.inr ⟨x,h1,by simpa using h⟩
 ·rintro(⟨x,h1,h2⟩|⟨x,h1,h2⟩)
  ·exact⟨x,h1,by simp only[List.contains_eq_mem,gB,cX]at h2 ⊢;exact .inl h2⟩
  ·exact⟨x,h1,by simp only[List.contains_eq_mem,gB,cX]at h2 ⊢;exact .inr h2⟩
def Qp(a b:Log):a.clash b=b.clash a:=by
 simp only[Log.clash,Qo]
 rw[tX (a:=b.wt.map (·.1)) (b:=a.rt),tX (a:=b.wt.map (·.1)) (b:=a.wt.map (·.1)),tX (a:=b.rt) (b:=a.wt.map (·.1)),
  tX (a:=b.wo.map (·.1)) (b:=a.ro),tX (a:=b.wo.map (·.1)) (b:=a.wo.map (·.1)),tX (a:=b.ro) (b:=a.wo.map (·.1))]
 generalize hits (a.wt.map (·.1)) b.rt=p1;generalize hits (a.wt.map (·.1)) (b.wt.map (·.1))=p2;generalize hits a.rt (b.wt.map (·.1))=p3;generalize hits (a.wo.map (·.1)) b.ro=p4;generalize hits (a.wo.map (·.1)) (b.wo.map (·.1))=p5;generalize hits a.ro (b.wo.map (·.1))=p6;cases p1<;>cases p2<;>cases p3<;>cases p4<;>cases p5<;>cases p6<;>rfl
theorem In{c:Nat}{l:Log}:∀{r:List (Nat×Log)},zh c l r=true->∀{i:Nat} {m:Log},(i,m)∈r->(∀d∈l.new,m.refers d=false)∧(c.testBit i=true∨(m.clash l=false∧∀d∈m.new,l.refers d=false))
 | [],_,_,_,h=>by cases h
 | (k,x)::r,hk,i,m,h=>by
  simp only[zh,az,cI,ij]at hk;rcases bW.1 h with e|h
  ·cases e;refine⟨hk.1.1,?_⟩;have h2:=hk.1.2;split at h2
   ·rename_i hb;exact .inl hb
   ·simp only[az,cI,ij]at h2;exact .inr h2
  ·exact In hk.2 h
structure Qq(s:SS)(cs:List Nat)(logs:List Log)(j:Nat)(l:Log):Prop where
 lt:∀i,((cs.getD j 0).testBit i=true)->i<j
 new:∀d∈l.new,s.st.bK d=true
 pair:∀(i:Nat) (m:Log),i<j->logs[i]? = some m->(∀d∈l.new,m.refers d=false)∧((cs.getD j 0).testBit i=true∨(m.clash l=false∧∀d∈m.new,l.refers d=false))
theorem Io{s:SS}{CS:List Nat}{LS:List Log}:∀(ls:List Log) (cs:List Nat) (j:Nat) (seen:List (Nat×Log)),rf s seen j cs ls=true->CS.drop j=cs->LS.drop j=ls->(∀i m,i<j->LS[i]? = some m->(i,m)∈seen) ->
 ∀(k:Nat) (l:Log),j<=k->LS[k]? = some l->Qq s CS LS k l
 | [],cs,j,seen,_,_,hls,_,k,l,hk,hl=>by
  have h1:LS.length<=j:=xV.1 hls;have:=(bX.1 hl).1;omega
 | l0::ls,[],j,seen,h,_,_,_,_,_,_,_=>by simp[rf]at h
 | l0::ls,c::cs,j,seen,h,hcs,hls,Ip,k,l,hk,hl=>by
  simp only[rf,az]at h;have hl0:LS[j]? = some l0:=by
   have:=ak (fun x=>x[0]?) hls;simpa[qG]using this
  have hc:CS.getD j 0=c:=by
   have:=ak (fun x=>x[0]?) hcs;simp only[qG,fE,pd]at this;simp[cz,this]
  rcases Nat.lt_or_eq_of_le hk with hk|rfl
  ·refine Io ls cs (j+1) ((j,l0)::seen) h.2 ?_ ?_ (fun i m hi hm=>?_) k l hk hl
   ·rw[<- uR,hcs];rfl
   ·rw[<- uR,hls];rfl
   ·rcases Bf.1 hi with hi|rfl
    ·exact cH _ (Ip i m hi hm)
    ·rw[hl0]at hm;cases hm;exact dJ ..
  ·rw[hl0]at hl;cases hl;have hz:c >>> j=0:=qE h.1.1.1;refine⟨fun i hi=>?_,fun d hd=>(Dd h.1.1.2 d hd).1,fun i m hi hm=>?_⟩
   ·rw[hc]at hi;refine mS fun hij=>?_;have:(c >>> j).testBit (i-j)=true:=by rw[Nat.testBit_shiftRight];rw[show j+(i-j)=i by omega];exact hi
    rw[hz]at this;simp at this
   ·rw[hc];exact In h.1.2 (Ip i m hi hm)
def Qr{s:SS}{ops:List Oper}{logs:List Log}(h:rf s [] 0 (gh ops []) logs=true):m8 s.st (pH true ops) logs=true:=by
 have key:=Io (CS:=gh ops []) (LS:=logs) logs (gh ops []) 0 [] h zsi zsi (fun i m hi=>zo);have hbef:∀i j,pH true ops i j=((gh ops []).getD j 0).testBit i:=fun i j=>rfl;simp only[m8,cI,az];rintro⟨l,i⟩ Qs;have hl:=(FE.1 Qs)
 simp only at hl;have kl:=key i l (aB _) hl;refine⟨kl.new,?_⟩;rintro⟨m,j⟩ Qt;have hm:=(FE.1 Qt)
 simp only at hm;have km:=key j m (aB _) hm;simp only[hbef];refine⟨⟨?_,?_⟩,?_⟩
 ·by_cases hb:((gh ops []).getD j 0).testBit i=true
  ·simp[hb,km.lt i hb]
  ·simp only[FF]at hb;rw[hb];rfl
 ·rcases Nat.lt_trichotomy i j with hij|rfl|hij
  ·rcases(km.pair i l hij hl).2 with q|q
   ·simp only[q,Bool.or_true,Bool.true_or]
   ·rw[q.1];simp
  ·simp
  ·rcases(kl.pair j m hij hm).2 with q|q
   ·simp only[q,Bool.or_true]
   ·rw[Qp,q.1];simp
 ·rcases Nat.lt_trichotomy i j with hij|rfl|hij
  ·rcases(km.pair i l hij hl).2 with q|q
   ·simp only[q,Bool.or_true,eU,cI];exact .inr fun _ _=>trivial
   ·simp only[eU,cI,ij];exact .inr fun d hd=>.inl (q.2 d hd)
  ·simp
  ·have q:=(kl.pair j m hij hm).1;simp only[eU,cI,ij];exact .inr fun d hd=>.inl (q d hd)
def nl(m:Nat):List (Nat×AV)->List (Nat×AV)
 | []=>[]
 | (t,v)::r=>match m.testBit t with|true=>(t,v)::nl (m ^^^ (1 <<< t)) r|false=>nl m r
def De:List (Nat×AV)->List Nat
 | []=>[]
 | (_,v)::r=>iQ [v]++De r
where
 iQ:List AV->List Nat
 | []=>[]
 | .ptr o _::r=>o::iQ r
 | .ci o _ _ _ _ _::r=>o::iQ r
 | .aJ o _ _::r=>o::iQ r
 | .bG o _::r=>o::iQ r
 | .a8 _ o::r=>o::iQ r
 | .agg cs::r=>iQ cs++iQ r
 | .ag cs::r=>iQ cs++iQ r
 | .func _ cs::r=>iQ cs++iQ r
 | .may _ v::r=>iQ [v]++iQ r
 | _::r=>iQ r
def zi(ks:List Nat):List (Nat×AO)->List Nat
 | []=>[]
 | (o,.box cs)::r=>if kE o||ks.contains o then De.iQ cs++zi ks r else zi ks r
 | _::r=>zi ks r
def p7(ks:List Nat):List (Nat×AO)->List (Nat×AO)
 | []=>[]
 | (o,ob)::r=>if kE o||ks.contains o then(o,ob)::p7 ks r else p7 ks r
def Df(l:List (Nat×AO))(ks:List Nat):List Nat:=ks++zi ks l
def SS.prune(s:SS)(m:Nat):SS:=
 match nl m s.l with
 | t=>⟨s.n,t,match Df s.objs (De t)with|ks=>match Df s.objs ks with|ks=>p7 (Df s.objs ks) s.objs⟩
theorem Dg(m:Nat):∀(l:List (Nat×AV)),∀p∈nl m l,p∈l
 | [],p,h=>by cases h
 | (t,v)::r,p,h=>by
  simp only[nl]at h;split at h
  ·rcases bW.1 h with rfl|h
   ·exact dJ ..
   ·exact cH _ (Dg _ r p h)
  ·exact cH _ (Dg _ r p h)
theorem Dh:∀(l:List (Nat×AV)) (m t:Nat),(m.testBit t=false->cO (nl m l) t=.any)∧(cO (nl m l) t=.any∨cO (nl m l) t=cO l t)
 | [],m,t=>⟨fun _=>rfl,.inl rfl⟩
 | (i,v)::r,m,t=>by
  simp only[nl];split
  ·rename_i hm;by_cases e:i=t
   ·subst e;rw[re,re];exact⟨fun q=>(by rw[hm]at q;cases q),.inr rfl⟩
   ·rw[pZ e,pZ e];obtain⟨h1,h2⟩:=Dh r (m ^^^ (1 <<< i)) t;refine⟨fun q=>h1 ?_,h2⟩;rw[Nat.testBit_xor,q,Nat.one_shiftLeft,Nat.testBit_two_pow];simp[e]
  ·rename_i hm;obtain⟨h1,h2⟩:=Dh r m t;refine⟨h1,?_⟩;by_cases e:i=t
   ·subst e;exact .inl (h1 hm)
   ·rw[pZ e];exact h2
theorem Iq(ks:List Nat)(o:Nat):∀(l:List (Nat×AO)),oL (p7 ks l) o=oL l o∨oL (p7 ks l) o=.none
 | []=>.inl rfl
 | (k,ob)::r=>by
  have ih:=Iq ks o r;simp only[p7];split
  ·simp only[oL];split
   ·exact .inl rfl
   ·exact ih
  ·rename_i hk;simp only[oL];split
   ·rename_i e;subst e;right;have:∀l:List (Nat×AO),oL (p7 ks l) k=.none:=by
     intro l
     induction l with
     | nil=>rfl
     | cons p q ih=>
      obtain⟨k2,Zq⟩:=p;simp only[p7];split
      ·rename_i h2;simp only[oL];split
       ·rename_i e;subst e;exact absurd h2 hk
       ·exact ih
      ·exact ih
    exact this r
   ·exact ih
def Qu{S:AS}{t':List AV}{au:List (Nat×AO)}(hl:t'.length=S.tmps.length)(ht:∀(j:Nat) (v:AV),t'[j]? = some v->v=.any∨S.tmps[j]? = some v)(ho:∀o,oL au o=S.obj o∨oL au o=.none):Weak S ⟨t',au⟩:=by
 intro E a w ⟨β,h⟩;have hi:∀o,(oL au o).is->oL au o=S.obj o:=fun o q=>(ho o).elim id fun e=>by rw[e]at q;exact q.elim
 have hD:∀b,E.D w β S.obj b->E.D w β (oL au) b:=fun b q=>⟨q.1,q.2.1,fun o q2=>q.2.2 o (by rw[<- hi o q2];exact q2)⟩
 have hrd:∀av v,RD w (E.D w β S.obj) E.B av v->RD w (E.D w β (oL au)) E.B av v:=fun av v q=>q.mono (fun _ _=>rfl) hD (ao _);have hrx:∀av v,RX w (E.D w β S.obj) E.B β S.obj av v->RX w (E.D w β (oL au)) E.B β (oL au) av v:=fun av v q=>
  q.map hrd (fun o off v q=>by obtain⟨b,h1,rfl⟩:=q.dF;exact .ptr _ _ b h1)
   (fun o ver n v q=>by
     obtain⟨h1,h2⟩:=q.aI;exact .aJ _ _ _ _ h1 fun x t sz' aM n' f hH=>h2 x t sz' aM n' f (by rw[<- hi o (by rw[hH];trivial)];exact hH))
   (fun o sz ver n i off v q=>by
     obtain⟨h1,h2,h3⟩:=q.jk;exact .ci _ _ _ _ _ _ _ h1 h2 fun x t sz' aM n' f hH=>h3 x t sz' aM n' f (by rw[<- hi o (by rw[hH];trivial)];exact hH))
 refine⟨β,h.defers,h.size.trans hl.symm,fun t av q=>?_,fun o=>?_,fun o o' b hne h1 h2 h3 h4=>h.apart o o' b hne (by rw[<- hi o h1];exact h1) (by rw[<- hi o' h2];exact h2) h3 h4,h.frame,fun o v n0 hp=>?_⟩
 ·rcases ht t av q with rfl|q2
  ·exact .d (.any _)
  ·exact hrx _ _ (h.tmps t av q2)
 ·show OR E w β (oL au) o (oL au o);rcases ho o with e|e
  ·rw[e];exact(h.objs o).mono rfl (fun _ _=>rfl) (fun cs _ i av v _ q=>hrx _ _ q) hrd
  ·rw[e];trivial
 ·obtain⟨h1,h2⟩:=h.pin o v n0 hp;refine⟨fun cs (q:oL au o=_)=>h1 cs (by rw[<- hi o (by rw[q];trivial)];exact q),fun x t sz ver n f (q:oL au o=_) hv=>h2 x t sz ver n f (by rw[<- hi o (by rw[q];trivial)];exact q) hv⟩
def SS.Qv(s:SS)(m:Nat):Weak s.st (s.prune m).st:=by
 refine Qu (S:=s.st) (by simp[SS.prune,SS.st]) (fun j v hj=>?_) (fun o=>Iq _ o s.objs);by_cases hlt:j<s.n
 ·have h1:(List.map (cO (s.prune m).l) (List.range (s.prune m).n))[j]? = some (cO (nl m s.l) j):=by simp[SS.prune,hlt]
  rw[h1]at hj;cases hj;rcases(Dh s.l m j).2 with q|q
  ·exact .inl q
  ·right;rw[s.ze hlt,q]
 ·rw[sG (by simp[SS.prune];omega)]at hj;cases hj
def SS.Qw{s:SS}(hk:s.ok)(m:Nat):(s.prune m).ok:=fun p hp=>hk p (Dg m s.l p hp)
def SS.np(n:Nat)(args:List AV)(objs:List (Nat×AO)):SS:=⟨n,go 0 args,objs⟩
where
 go:Nat->List AV->List (Nat×AV)
 | _,[]=>[]
 | i,v::r=>(i,v)::go (i+1) r
theorem Ir:∀(args:List AV) (i j:Nat),cO (SS.np.go i args) (i+j)=args.getD j .any
 | [],i,j=>rfl
 | v::r,i,0=>by simp[SS.np.go,re]
 | v::r,i,j+1=>by
  rw[SS.np.go,pZ zo,show i+(j+1)=(i+1)+j by omega,Ir r];simp
theorem Is:∀(args:List AV) (i:Nat),∀p∈SS.np.go i args,p.1<i+args.length
 | [],i,p,h=>by cases h
 | v::r,i,p,h=>by
  rcases bW.1 h with rfl|h
  ·simp
  ·have:=Is r (i+1) p h;simp;omega
def SS.Qx{n:Nat}{args:List AV}(objs:List (Nat×AO))(h:args.length<=n):(SS.np n args objs).st=⟨args++List.replicate (n-args.length) .any,objs⟩:=by
 unfold SS.st SS.np;congr 1;refine List.ext_getElem? fun j=>?_;by_cases hj:j<n
 ·have:=Ir args 0 j;rw[eC]at this;simp only[gC,FC hj,eM,this];by_cases hl:j<args.length
  ·rw[gS hl];simp[hl]
  ·rw[jd zo,List.getElem?_replicate,ae zo];simp[sG (Bd hl)]
 ·rw[sG (by simp;omega),sG (by simp;omega)]
def SS.Qy{n:Nat}{args:List AV}(objs:List (Nat×AO))(h:args.length<=n):(SS.np n args objs).ok:=fun p hp=>by
 have:=Is args 0 p hp;show p.1<n;omega
structure Ca(p q:Unit->Prop)(X Y:Prop):Prop where
 t:p ()->X
 f:q ()->Y
structure Cv(b:Unit->Bool)(X Y:Prop):Prop where
 t:b ()=true->X
 f:b ()=false->Y
structure Stuck(id:Nat):Prop where
 no:False
def zj:List (Nat×cL)->Nat->cL
 | [],_=>[]
 | (i,o)::r,j=>if i=j then o else zj r j
def af.Qz{ro:Option Nat}{P:Program}{E:Env}{c:Code}{K:Exit->Env->AS->Prop}{S:AS}(h:af ro P E c (fun e E' S'=>∃yU,Weak S' yU∧K e E' yU) S):af ro P E c K S:=
 fun a w hr=>nK (h a w hr) fun _ _ _ ⟨E',_,h0,⟨S2,h1,h3⟩,h2⟩=>⟨E',S2,h0,h3,h1 _ _ _ h2⟩
abbrev KK:=Exit->Env->AS->Prop
abbrev KS:=Exit->Env->SS->Prop
structure lD(P:Unit->Program)(c:Option (Unit->Bool)×bk):Prop where
 h:bk.ok (P ()) c
structure iJ(ro:Option Nat)(P:Unit->Program)(E:Env)(c:Code)(K:KS)(s:SS):Prop where
 h:s.ok->af ro (P ()) E c (fun e E S=>∃s,S=s.st∧s.ok∧K e E s) s.st
structure kS(K:KK)(e:Exit)(E:Env)(s:SS):Prop where
 h:s.ok->K e E s.st
def wk(ro:Option Nat)(P:Unit->Program)(T:Unit->List (Nat×TI))(aw:Unit->List (Nat×cL))(kp:Unit->List Nat):Code->KS->Env->SS->Prop
 | .skip,k,E,s=>k .normal E s
 | .exit id,k,E,s=>k (.exit id) E s
 | .ret,k,E,s=>k .ret E s
 | .region id ops draw,k,E,s=>match tW (T ()) (zj (aw ()) id) ops 0 ops.toList s with
  | none=>Stuck id
  | some ⟨s',conds,calls,logs⟩=>match s'.prune ((kp ()).getD id 0)with
   | ⟨n,t,o⟩=>VC (if draw then rf s [] 0 (gh ops.toList []) logs&&m7 0 ops.toList else wm s [] logs) conds calls (fun c=>lD P c) (k .normal E ⟨n,t,o⟩)
 | .seq a b,k,E,s=>wk ro P T aw kp a (fun e E' s'=>match e with|.normal=>wk ro P T aw kp b k E' s'|e=>k e E' s') E s
 | .cond t x y,k,E,s=>match t with
  | .tmp t=>match cO s.l t with
   | .bool b=>Cv b (wk ro P T aw kp x k E s) (wk ro P T aw kp y k E s)
   | .fd p q=>Ca p q (wk ro P T aw kp x k E s) (wk ro P T aw kp y k E s)
   | _=>Stuck 1000000
  | .const (.bool true)=>wk ro P T aw kp x k E s
  | .const (.bool false)=>wk ro P T aw kp y k E s
  | _=>Stuck 1000001
 | .block id c,k,E,s=>wk ro P T aw kp c (fun e E' s'=>match e with|.exit i=>if i=id then k .normal E' s' else k (.exit i) E' s'|e=>k e E' s') E s
 | .loop c,k,E,s=>iJ ro P E (.loop c) k s
 | .rangeFunc f ps c d,k,E,s=>iJ ro P E (.rangeFunc f ps c d) k s
 | _,_,_,_=>Stuck 1000002
section
variable {ro:Option Nat}{P:Program}{T:List (Nat×TI)}
def QA{s:SS}{ops:Array Oper}{draw:Bool}{logs:List Log}(h:(if draw then rf s [] 0 (gh ops.toList []) logs&&m7 0 ops.toList else wm s [] logs)=true):
 (if draw then m8 s.st (pH true ops.toList) logs&&m7 0 ops.toList else nX s.st [] logs)=true:=by
 cases draw with
 | true=>
  simp only[bC,az]at h ⊢;exact⟨Qr h.1,h.2⟩
 | false=>
  simp only[jc,dg]at h ⊢;exact Im h
def wq(hT:cn P T)(hm:P.follows .mixedOrders=true)(aw:Unit->List (Nat×cL))(kp:Unit->List Nat):∀(c:Code) (k:KS) (K:KK) (E:Env) (s:SS),
 s.ok->(∀e E' s',s'.ok->k e E' s'->K e E' s'.st)->wk ro (fun _=>P) (fun _=>T) aw kp c k E s->af ro P E c K s.st:=by
 intro c
 induction c with
 | skip=>exact fun k K E s hs hk h=>.skip (hk _ _ _ hs h)
 | exit id=>exact fun k K E s hs hk h=>.exit (hk _ _ _ hs h)
 | ret=>exact fun k K E s hs hk h=>.ret (hk _ _ _ hs h)
 | region id ops draw=>
  intro k K E s hs hk h;refine .Qz (.region hT hm (zj (aw ()) id) fun ob K' ap hK=>?_);simp only[wk]at h;unfold vA;cases hq:tW T (zj (aw ()) id) ops 0 ops.toList s with
  | none=>rw[hq]at h;exact h.no.elim
  | some o=>
   rw[hq]at h;obtain⟨h1,h2,_⟩:=Ij _ _ _ _ hs hq;rw[h1];exact⟨QA h.ok,h.conds,fun c hc=>ap c (h.calls c hc).h,hK _ ⟨_,SS.Qv _ _,hk _ _ _ (SS.Qw h2 _) h.next⟩⟩
 | seq a b iha ihb=>
  intro k K E s hs hk h;refine .seq (iha _ _ E s hs (fun e E' s' hs' h1=>?_) h);cases e with
  | normal=>exact ihb _ _ _ _ hs' hk h1
  | _=>exact hk _ _ _ hs' h1
 | cond t x y Di ihy=>
  intro k K E s hs hk h;simp only[wk]at h;split at h
  ·split at h
   ·rename_i hb;exact .cond (by rw[SS.tU hs];exact hb) (fun e=>Di _ _ _ _ hs hk (h.t e)) (fun e=>ihy _ _ _ _ hs hk (h.f e))
   ·rename_i hb;exact .PE (by rw[SS.tU hs];exact hb) (fun e=>Di _ _ _ _ hs hk (h.t e)) (fun e=>ihy _ _ _ _ hs hk (h.f e))
   ·exact h.no.elim
  ·exact .PF (Di _ _ _ _ hs hk h)
  ·exact .PG (ihy _ _ _ _ hs hk h)
  ·exact h.no.elim
 | block id c ih=>
  intro k K E s hs hk h;refine .block (ih _ _ _ _ hs (fun e E' s' hs' h1=>?_) h);cases e with
  | exit i=>
   simp only[ni];simp only at h1;by_cases e:i=id
   ·rw[ae e]at h1 ⊢;exact hk _ _ _ hs' h1
   ·rw[aa e]at h1 ⊢;exact hk _ _ _ hs' h1
  | _=>exact hk _ _ _ hs' h1
 | loop c ih=>exact fun k K E s hs hk h=>af.mono (h.h hs) fun e E' S' _ ⟨s',h0,h1,h2⟩=>by rw[h0];exact hk _ _ _ h1 h2
 | rangeFunc f ps c d=>exact fun k K E s hs hk h=>af.mono (h.h hs) fun e E' S' _ ⟨s',h0,h1,h2⟩=>by rw[h0];exact hk _ _ _ h1 h2
 | _=>exact fun k K E s hs hk h=>Stuck.no h |>.elim
def SS.okB(s:SS):Bool:=s.l.all fun p=>Nat.blt p.1 s.n
def SS.zp{s:SS}(h:s.okB=true):s.ok:=fun p hp=>by
 have:=cI.1 h p hp
 rwa [Nat.blt_eq]at this
def af.wk(hT:cn P T)(hm:P.follows .mixedOrders=true)(aw:List (Nat×cL))(kp:List Nat){c:Code}{K:KK}{E:Env}{s:SS}
 (h:Go.Ai.wk ro (fun _=>P) (fun _=>T) (fun _=>aw) (fun _=>kp) c (fun e E s=>kS (fun e E S=>K e E S) e E s) E s) (hs:s.okB=true:=by rfl):af ro P E c K s.st:=
 wq hT hm (fun _=>aw) (fun _=>kp) c _ K E s (SS.zp hs) (fun _ _ _ hs' h=>h.h hs') h
def wI{ro:Option Nat}{P:Unit->Program}{T:Unit->List (Nat×TI)}{aw:Unit->List (Nat×cL)}{kp:Unit->List Nat}{c:Code}{k:KS}{E:Env}{s:SS}(h:Go.Ai.wk ro P T aw kp c k E s):Go.Ai.wk ro P T aw kp c k E s:=h
end
def zr(l:List (Nat×AV)):List (Nat×AV)->List AV
 | []=>[]
 | (t,_)::r=>cO l t::zr l r
def zt:List (Nat×AV)->List AV
 | []=>[]
 | (_,v)::r=>v::zt r
def p9(s s':SS):Prop:=
 match(cG s.obj s'.obj (zr s.l s'.l) (zt s'.l)).and (mf s.obj s'.obj s'.objs)with
 | none=>False
 | some cs=>(Nat.beq s.n s'.n&&s'.l.all fun p=>Nat.blt p.1 s'.n)=true∧∀c∈cs,c ()
theorem It{l:List (Nat×AV)}:∀{l':List (Nat×AV)} {t:Nat} {v:AV},(t,v)∈l'->∃j:Nat,(zr l l')[j]? = some (cO l t)∧(zt l')[j]? = some v
 | [],_,_,h=>by cases h
 | (i,u)::r,t,v,h=>by
  rcases bW.1 h with e|h
  ·cases e;exact⟨0,rfl,rfl⟩
  ·obtain⟨j,h1,h2⟩:=It (l:=l) h;exact⟨j+1,by simpa[zr]using h1,by simpa[zt]using h2⟩
def QB{s s':SS}(hc:p9 s s'):s'.ok:=by
 unfold p9 at hc;split at hc
 ·exact hc.elim
 ·obtain⟨h1,_⟩:=hc;simp only[az,cI]at h1;exact fun p hp=>by have:=h1.2 p hp;rwa [Nat.blt_eq]at this
def zu{s s':SS}(hc:p9 s s'):Weak s.st s'.st:=by
 unfold p9 at hc;split at hc
 ·exact hc.elim
 ·rename_i cs hq;obtain⟨hn,hcs⟩:=hc;simp only[az]at hn;have hn:s.n=s'.n:=qE hn.1;obtain⟨c1,c2⟩:=Cs.ir ⟨cs,hq,hcs⟩;refine PQ (S:=s.st) (S':=s'.st) c2 (by rw[SS.zf,SS.zf,hn]) fun ho ha hO t bw ht=>?_;have hlt:t<s'.n:=by rw[<- s'.zf];exact(bX.1 ht).1
  rw[s'.ze hlt]at ht;cases ht;refine⟨cO s.l t,s.ze zo,fun v hv=>?_⟩;rcases zb (l:=s'.l) (t:=t)with q|q
  ·rw[q];exact .d (.any _)
  ·obtain⟨g1,g2⟩:=C2 (O:=s.obj) (O':=s'.obj) ho ha hO _ _ c1;obtain⟨j,h1,h2⟩:=It (l:=s.l) q;exact g2 j _ _ _ h1 h2 hv
def zw(T:List (Nat×TI))(s:SS):ResultVar->Option AV
 | .tmp t=>some (cO s.l t)
 | .cell p t=>match cO s.l p with
  | .ptr o off=>if(aO T t).real then match(vq (aO T t) (.ptr o off)).oo s with
   | some ⟨e,[],_,_⟩=>some e.dst
   | _=>none
   else none
  | _=>none
def zx(T:List (Nat×TI))(s:SS):List ResultVar->Option (List AV)
 | []=>some []
 | r::l=>match zw T s r,zx T s l with
  | some v,some vs=>some (v::vs)
  | _,_=>none
theorem Iu{T:List (Nat×TI)}{s:SS}(hs:s.ok):∀(rs:List ResultVar),zx T s rs=mj T s.st rs
 | []=>rfl
 | r::l=>by
  have h1:zw T s r=res1 T s.st r:=by
   cases r with
   | tmp t=>simp only[zw,res1,SS.tU hs]
   | cell p t=>
    simp only[zw,res1,SS.tU hs,M.wi hs];cases cO s.l p<;>first|rfl|(simp only[];split<;>first|rfl|(split<;>rfl))
  simp only[zx,mj,h1,Iu hs l];rfl
def zz(T:List (Nat×TI))(rs:List ResultVar)(res:AV)(au:List (Nat×AO))(s:SS):Prop:=
 match zx T s rs with
 | none=>False
 | some l=>mg ⟨[tQ l],s.objs⟩ ⟨[res],au⟩
def Iv{T:List (Nat×TI)}{rs:List ResultVar}{res:AV}{au:List (Nat×AO)}{s:SS}(hs:s.ok)(h:zz T rs res au s):vZ T rs res au s.st:=by
 unfold zz at h;rw[Iu hs]at h;exact h
section
variable {ro:Option Nat}{P:Program}
def iJ.loop{c:Code}{K:KS}{E:Env}{s:SS}{ι:Type}(I:ι->SS)(Inv:ι->Prop)(μ:ι->Nat)(i0:ι)(h0:Inv i0)(hw:p9 s (I i0))
 (hr:∀i E',Inv i->af ro P E' c (jS (fun _ S'=>∃i',(Inv i'∧μ i'<μ i)∧Weak S' (I i').st) (fun e E S=>∃s,S=s.st∧s.ok∧K e E s)) (I i).st):iJ ro (fun _=>P) E (.loop c) K s:=
 ⟨fun _=>.loop (fun i=>(I i).st) Inv μ ⟨i0,h0,zu hw⟩ fun i E' hi=>hr i E' hi⟩
def tY:List Tmp->List AV->List (Nat×AV)->List (Nat×AV)
 | t::ts,v::vs,l=>tY ts vs ((t,v)::l)
 | _,_,l=>l
def rg:List (Nat×AV)->List (Nat×AV)
 | []=>[]
 | (t,v)::r=>(t,nj v)::rg r
def QC:nj .any=.any:=by simp[nj]
theorem Iw:∀(l:List (Nat×AV)) (t:Nat),cO (rg l) t=nj (cO l t)
 | [],t=>by simp[rg,cO,QC]
 | (i,v)::r,t=>by
  by_cases e:i=t
  ·subst e;rw[rg,re,re]
  ·rw[rg,pZ e,pZ e,Iw r t]
theorem Ix{n:Nat}:∀(ps:List Tmp) (el:List AV) (l:List (Nat×AV)),kR ps el ((List.range n).map (cO l))=(List.range n).map (cO (tY ps el l))
 | t::ts,v::vs,l=>by
  have:((List.range n).map (cO l)).set t v=(List.range n).map (cO ((t,v)::l)):=by
   refine List.ext_getElem? fun j=>?_;rw[xM];by_cases e:t=j
   ·subst e;simp only[bC,kr,List.length_range];by_cases hj:t<n
    ·simp[hj,re]
    ·simp[hj]
   ·have h2:cO ((t,v)::l) j=cO l j:=pZ e;simp only[aa e,gC];by_cases hj:j<n
    ·simp[hj,h2]
    ·simp[hj]
  simp only[kR,tY,this];exact Ix ts vs _
 | [],_,_=>by simp[kR,tY]
 | _::_,[],_=>by simp[kR,tY]
def iJ.range{t:Tmp}{ps:Array Tmp}{assign body:Code}{K:KS}{E:Env}{s:SS}{f:FuncId}{caps pW:List AV}{res:Bool->Value->Prop}{seq:List (List AV)}
 (n:Nat) (l0:List (Nat×AV)) (M:List (List AV)->List (Nat×AO)) (Mx:Exit->List (List AV)->List (Nat×AO)) (Inv:List (List AV)->Prop) (iP:Exit->List (List AV)->Prop) (hw:p9 s ⟨n,l0,M []⟩) (hI0:Inv [])
 (hg:cO l0 t=.func f caps) (hle:aD caps pW) (hpure:AV.bx caps=true) (hspec:pR P f (fun l=>.val (.func (.yield l) #[] #[])::pW) res seq)
 (rc:∀g,lC (M g)=true) (wf:∀e g,lC (Mx e g)=true) (hkey:∀g o,(oL (M g) o).is↔(oL (M []) o).is) (oj:∀e g o,(oL (Mx e g) o).is↔(oL (M []) o).is)
 (hps:∀el∈seq,el.length=ps.size)
 (hbody:∀g el,g++[el] <+: seq->Inv g->∀E l,af (some l) P E assign (jS (fun _ S'=>∀E',af (some l) P E' body (y7 Inv iP M Mx (g++[el])) S') (fun _ _ _=>False)) (⟨n,tY ps.toList el (rg l0),d6 (M g)⟩:SS).st)
 (hdone:∀E',Ext E E'->Inv seq->K .normal E' ⟨n,l0,M seq⟩) (hstop:∀E' e pre,Ext E E'->iP e pre->pre <+: seq->K e E' ⟨n,l0,Mx e pre⟩):
 iJ none (fun _=>P) E (.rangeFunc (.tmp t) ps assign body) K s:=by
 have hok:(⟨n,l0,M []⟩:SS).ok:=QB hw;refine⟨fun _=>.weak (zu hw) ?_⟩;refine af.range (tmps:=(⟨n,l0,M []⟩:SS).st.tmps) (M:=M) (Mx:=Mx) (Inv:=Inv) (iP:=iP) hI0 (res:=res) (seq:=seq) (f:=f) (caps:=caps) (pW:=pW) ?_ hle hpure hspec rc wf hkey oj hps (fun g el hpre hi E l=>?_) (fun E' hE hi=>?_) (fun E' e pre hE hst hpre=>?_)
 ·have:=SS.tU hok t;exact this.trans hg
 ·have he:((⟨n,l0,M []⟩:SS).st.tmps.map nj)=(List.range n).map (cO (rg l0)):=by
   simp only[SS.st,xR];refine List.map_congr_left fun t _=>?_;simp[Iw]
  rw[he,Ix];exact hbody g el hpre hi E l
 ·exact⟨⟨n,l0,M seq⟩,rfl,hok,hdone E' hE hi⟩
 ·exact⟨⟨n,l0,Mx e pre⟩,rfl,hok,hstop E' e pre hE hst hpre⟩
def QD{n:Env->AS->Prop}{E:Env}{s:SS}(h:s.ok->n E s.st):kS (fun e E S=>jS n (fun _ _ _=>False) e E S) .normal E s:=⟨h⟩
section
variable {Inv:List (List AV)->Prop}{iP:Exit->List (List AV)->Prop}{M:List (List AV)->List (Nat×AO)}{Mx:Exit->List (List AV)->List (Nat×AO)}{g:List (List AV)}{E:Env}{s:SS}
def QE(hi:Inv g)(h:mg ⟨[],s.objs⟩ ⟨[],d6 (M g)⟩):kS (fun e E S=>y7 Inv iP M Mx g e E S) .normal E s:=⟨fun _=>⟨hi,vY h⟩⟩
def Iy(hi:iP .ret g)(h:mg ⟨[],s.objs⟩ ⟨[],d6 (Mx .ret g)⟩):kS (fun e E S=>y7 Inv iP M Mx g e E S) .ret E s:=⟨fun _=>⟨hi,vY h⟩⟩
end
def Dj:AO->AO->Cs
 | .none,.none=>some []
 | .box _,.box _=>some []
 | .arr x t sz ver n _,.arr x' t' sz' aM n' _=>if x==x'&&t==t'&&sz==sz'&&ver==aM then some [fun _=>n ()=n' ()]else none
 | _,_=>none
def ws(O':Nat->AO):List (Nat×AO)->Cs
 | []=>some []
 | (o,ob)::r=>(Dj ob (O' o)).and (ws O' r)
theorem Iz{O':Nat->AO}:∀{l:List (Nat×AO)} (_:(ws O' l).all) {o:Nat},(oL l o).is->(Dj (oL l o) (O' o)).all
 | [],_,_,hi=>hi.elim
 | (k,ob)::r,h,o,hi=>by
  simp only[ws]at h;obtain⟨h1,h2⟩:=Cs.ir h;simp only[oL]at hi ⊢;split
  ·rename_i e;subst e;exact h1
  ·rename_i e;rw[aa e]at hi;exact Iz h2 hi
def Af.out{P:Program}{f:FuncId}{args:List AV}{objs au:List (Nat×AO)}{res:AV}(_:Af P f args objs res au):AV×List (Nat×AO):=(res,au)
def IA(args:List AV)(objs:List (Nat×AO))(args':List AV)(au:List (Nat×AO)):Prop:=
 match((cG (oL objs) (oL au) args args').and (mf (oL objs) (oL au) au)).and (ws (oL au) objs)with
 | none=>False
 | some cs=>∀c∈cs,c ()
def Af.wN{P:Program}{f:FuncId}{args args2:List AV}{objs iR au:List (Nat×AO)}{res:AV}(h:Af P f args2 iR res au)(hw:IA args objs args2 iR):Af P f args objs res au:=by
 have hcc:(((cG (oL objs) (oL iR) args args2).and (mf (oL objs) (oL iR) iR)).and (ws (oL iR) objs)).all:=by
  unfold IA at hw;split at hw
  ·exact hw.elim
  ·rename_i cs hq;exact⟨cs,hq,hw⟩
 obtain⟨c1,c2⟩:=Cs.ir hcc;obtain⟨l,hl,hcs⟩:=c1;have hwk:mg ⟨args,objs⟩ ⟨args2,iR⟩:=by
  unfold mg;show(match(cG (oL objs) (oL iR) args args2).and (mf (oL objs) (oL iR) iR)with|none=>False|some cs=>∀c∈cs,c ())
  rw[hl];exact hcs
 refine⟨h.ent,fun E β vs cC hdf hY h0=>?_⟩;have h1:=yW hwk E ⟨vs,[]⟩ E.w0 β h0;refine(h.calls E _ vs cC hdf hY h1).mono fun e w' hx=>?_;obtain⟨v,β',he,hr,hlk⟩:=hx;refine⟨v,β',he,hr,fun o hi=>?_⟩;have hs:=Iz c2 hi;have hno:∀{p:Prop},Cs.all none->p:=fun⟨l,h1,_⟩=>by cases h1
 have hβ:wβ (oL objs) β o=β o:=mh hi;show _∧(∀cs,oL objs o=.box cs->_)∧(∀x t sz ver n f,oL objs o=.arr x t sz ver n f->_)
 cases hq:oL objs o with
 | none=>rw[hq]at hi;exact hi.elim
 | box cs=>
  rw[hq]at hs;cases hq2:oL iR o with
  | none=>rw[hq2]at hs;exact hno hs
  | arr x t sz ver n f=>rw[hq2]at hs;exact hno hs
  | it ks f s p=>rw[hq2]at hs;exact hno hs
  | box cs2=>
   obtain⟨k1,k2,_⟩:=hlk o (by rw[hq2];trivial);exact⟨k1,fun _ _=>by have:=k2 _ hq2;exact⟨this.1,this.2.trans hβ⟩,fun x t sz ver n f q=>by cases q⟩
 | it ks f s p=>rw[hq]at hs;exact hno hs
 | arr x t sz ver n f=>
  rw[hq]at hs;cases hq2:oL iR o with
  | none=>rw[hq2]at hs;exact hno hs
  | box cs2=>rw[hq2]at hs;exact hno hs
  | it ks f s p=>rw[hq2]at hs;exact hno hs
  | arr x2 t2 Zr nd n2 f2=>
   rw[hq2]at hs;simp only[Dj]at hs;split at hs
   ·rename_i e;simp only[az,dv]at e;obtain⟨⟨⟨rfl,rfl⟩,rfl⟩,rfl⟩:=e;have hn:n ()=n2 ():=Cs.all_some hs _ (dD.2 rfl);obtain⟨k1,_,k3⟩:=hlk o (by rw[hq2];trivial);refine⟨k1,fun cs q=>(by cases q),fun x' t' sz' aM n' f' q=>?_⟩;cases q;obtain⟨v',n',f',q1,q2⟩:=k3 _ _ _ _ _ _ hq2;refine⟨v',n',f',q1,q2.elim (fun⟨a,b,c⟩=>.inl ⟨a,b.trans hn.symm,c.trans hβ⟩) .inr⟩
   ·exact hno hs
def Af.IB{P:Program}{f:FuncId}{args:List AV}{objs iR:List (Nat×AO)}{res res2:AV}(h:Af P f args [] res objs)(hw:mg ⟨[res],objs⟩ ⟨[res2],iR⟩):Af P f args [] res2 iR:=
 ⟨h.ent,fun E β vs cC hdf hY h0=>(h.calls E β vs cC hdf hY h0).mono fun e w' ⟨v,β',he,hr,_⟩=>⟨v,_,he,yW hw E ⟨#[v],[]⟩ w' β' hr,fun o hi=>hi.elim⟩⟩
def nO{P:Program}{c:bk}(h:Af P c.f c.args c.objs c.res c.au):lD (fun _=>P) (none,c):=⟨H0 h⟩
def sO{P:Program}{c:bk}{g:Unit->Bool}(h:g ()=true->Af P c.f c.args c.objs c.res c.au):lD (fun _=>P) (some g,c):=⟨PX h⟩
def rE{T:List (Nat×TI)}{rs:List ResultVar}{res:AV}{objs:List (Nat×AO)}{E:Env}{s:SS}(h:zz T rs res objs s):kS (fun e E S=>pQ T rs res objs e E S) .ret E s:=⟨fun hs=>jn (Iv hs h)⟩
def nE{T:List (Nat×TI)}{rs:List ResultVar}{res:AV}{objs:List (Nat×AO)}{E:Env}{s:SS}(h:zz T rs res objs s):kS (fun e E S=>pQ T rs res objs e E S) .normal E s:=⟨fun hs=>rN (Iv hs h)⟩
def xE{n:Env->AS->Prop}{K:KS}{i:Nat}{E:Env}{s:SS}(h:K (.exit i) E s):kS (fun e E S=>jS n (fun e E S=>∃s,S=s.st∧s.ok∧K e E s) e E S) (.exit i) E s:=⟨fun hs=>⟨s,rfl,hs,h⟩⟩
def uE{n:Env->AS->Prop}{K:KS}{E:Env}{s:SS}(h:K .ret E s):kS (fun e E S=>jS n (fun e E S=>∃s,S=s.st∧s.ok∧K e E s) e E S) .ret E s:=⟨fun hs=>⟨s,rfl,hs,h⟩⟩
def dE{ι:Type}{Inv:ι->Prop}{μ:ι->Nat}{i:ι}{I:ι->SS}{K:KK}{E:Env}{s:SS}(i':ι)(h:Inv i'∧μ i'<μ i)(hw:p9 s (I i')):
 kS (fun e E S=>jS (fun _ S'=>∃i',(Inv i'∧μ i'<μ i)∧Weak S' (I i').st) K e E S) .normal E s:=⟨fun _=>⟨i',h,zu hw⟩⟩
def Af.of{T:List (Nat×TI)}(hT:cn P T)(hm:P.follows .mixedOrders=true){f:FuncId}{fn:Func}{c:Code}{args:List AV}{objs au:List (Nat×AO)}{res:AV}(rs:List ResultVar)(kp:List Nat)(aw:List (Nat×cL))(hf:P.funcs[f]? = some fn)
 (h:∀E,wk none (fun _=>P) (fun _=>T) (fun _=>aw) (fun _=>kp) c (fun e E s=>kS (fun e E S=>pQ T rs res au e E S) e E s) E (SS.np fn.ntmps args objs))
 (hname : (fn.name == "runtime.NumGoroutine") = false := by rfl) (hb : fn.body = some c := by rfl) (hr : fn.results = rs.toArray := by rfl) (hl : q9 au objs = true := by rfl) (hn : Nat.ble args.length fn.ntmps = true := by rfl) : Af P f args objs res au := by
 have hn:args.length<=fn.ntmps:=Nat.le_of_ble_eq_true hn;refine HY (rs:=rs) hT hf hname hb hr hl fun E=>?_;rw[<- SS.Qx objs hn];exact wq hT hm (fun _=>aw) (fun _=>kp) c _ _ E _ (SS.Qy objs hn) (fun _ _ _ hs' h=>h.h hs') (h E)
end
def mY(s:ByteArray):(s={ data:={ toList:=[] } })↔s.size=0:=by
 refine⟨fun h=>by rw[h];rfl,fun h=>?_⟩;cases s with|mk d=>
  have:d=#[]:=sC h;rw[this]
def ax{x:Int}(h1 : -9223372036854775808<=x)(h2:x<9223372036854775808):IntKind.i64.wrap x=x:=by
 simp[IntKind.wrap,IntKind.bits,IntKind.signed];omega
def aS{n:Nat}(h:n<9223372036854775807):IntKind.i64.wrap ((n:Int)+1)=((n+1:Nat):Int):=by rw[ax]<;>omega
def qc{p:Prop}{i:Decidable p}:(@decide p i=true)=p:=zsi
def qd{p:Prop}{i:Decidable p}:(@decide p i=false)=¬p:=zsi
def bl:((false=true)=False)∧((true=false)=False)∧(∀(a b:Bool),((a&&b)=true)=(a=true∧b=true))∧(∀(a b:Bool),((a||b)=true)=(a=true∨b=true)) ∧
 (∀(b:Bool),((!b)=true)=(b=false))∧(∀(b:Bool),(¬(b=true))=(b=false))∧(∀(a b:Bool),(a&&b)=false↔a=false∨b=false)∧(∀(a b:Bool),(a||b)=false↔a=false∧b=false) ∧
 (∀(b:Bool),((!b)=false)=(b=true))∧(∀{α:Type} [BEq α] [LawfulBEq α] {a b:α},(a==b)=true↔a=b)∧(∀{α:Type} [BEq α] [LawfulBEq α] {a b:α},(a==b)=false↔a≠b) ∧
 (∀{α:Type} [BEq α] [LawfulBEq α] {a b:α},(a != b)=true↔a≠b)∧(∀{α:Type} [BEq α] [LawfulBEq α] {a b:α},(a != b)=false↔a=b):=
 ⟨jc,Bool.true_eq_false,az,eU,ij,FF,fun _ _=>Bool.and_eq_false_iff,fun _ _=>Bool.or_eq_false_iff,Bool.not_eq_false',dv,uT,bne_iff_ne,bne_eq_false_iff_eq⟩
def dl:(∀{p:Prop} {i:Decidable p},(@decide p i=true)=p)∧(∀{p:Prop} {i:Decidable p},(@decide p i=false)=¬p)∧(∀{α:Type} (a b:α),(a≠b)=¬(a=b))∧(∀{p:Prop} [Decidable p],¬¬p↔p) ∧
 (∀{n m:Nat},(n:Int)<(m:Int)↔n<m)∧(∀{n m:Nat},(n:Int)<=(m:Int)↔n<=m)∧(∀(n:Nat),(n:Int).toNat=n)∧(∀{a b:Int},¬a<b↔b<=a)∧(∀{a b:Int},¬a<=b↔b<a)∧(∀{a b:Nat},¬a<b↔b<=a)∧(∀{a b:Nat},¬a<=b↔b<a):=
 ⟨qc,qd,fun a b=>mT a b,gr,Int.ofNat_lt,Int.ofNat_le,bu,pc,Int.not_le,lU,Nat.not_le⟩
def wl:((∀c∈([]:List (Unit->Prop)),c ())↔True)∧(∀{c:Unit->Prop} {l:List (Unit->Prop)},(∀x∈c::l,x ())↔c ()∧∀x∈l,x ())∧(∀(p:Prop),(p∧True)=p)∧(∀(p:Prop),(True∧p)=p):=
 ⟨aN,aC,ay,qA⟩
def cl:(∀(s:ByteArray),(s={ data:={ toList:=[] } })↔s.size=0)∧(∀(c x:Bool),(if c=true then true else x)=(c||x))∧(∀(c x:Bool),(if c=true then x else false)=(c&&x)):=
 ⟨mY,PU,PV⟩
def el:(∀(b:Bool),(b==true)=b)∧(∀(b:Bool),(b==false)=!b):=⟨beq_true,beq_false⟩
def lr{l m:List AV}(h:l=m):aD l m:=aD.of_eq h
def oC{P:Unit->Program}{a:Option (Unit->Bool)×bk}{l:List (Option (Unit->Bool)×bk)}(h:lD P a)(hl:∀c∈l,lD P c):∀c∈a::l,lD P c:=List.forall_mem_cons.2 ⟨h,hl⟩
def cZ{p:Prop}(h:p:=by first|exact True.intro|exact fun _ _ h=>h|exact fun _ h=>h|exact fun h=>h|exact pT|exact pF|omega|(intros;(try simp only[nc,cl]at*);(try simp only[bl,el,dl]at*);(try simp(disch:=omega) only[ax]at*);(first|omega|assumption|((repeat'(with_reducible apply ai))<;>first|omega|assumption)))):p:=h
def wZ{p:Prop}(h:p:=by first|rfl|exact fun _ _=>lr rfl|exact lr rfl|trivial|omega):p:=h
def aZ{p:Prop}(h:p:=by cbv;(try dsimp only[nc]at*);(try simp only[wl,nc]);(repeat'(with_reducible apply ai));all_goals exact wZ):p:=h
def eZ{p:Prop}(h:p:=by first|(with_reducible ((first|refine rE ?_|refine nE ?_);exact aZ))|((with_reducible rw[aC]);(try simp only[wl,nc]);(repeat'(with_reducible apply ai));all_goals exact cZ)):p:=h
def bZ{P:Program}{c:bk}{o:Option (Unit->Bool)}(h:Af P c.f c.args c.objs c.res c.au):lD (fun _=>P) (o,c):=match o with
 | none=>nO h
 | some _=>sO fun _=>h
def nZ{α:Type}{p:α->Prop}:∀c∈([]:List α),p c:=fun _ h=>by cases h
def nY{p:Prop}(h:p:=by first|exact‹False›.elim|exact absurd trivial ‹¬True›|exact nZ):p:=h
def zB{P:Program}{c:bk}{o:Option (Unit->Bool)}(h:Af P c.f c.args c.objs c.res c.au:=by assumption):lD (fun _=>P) (o,c):=bZ h
def cV{b:Unit->Bool}{X Y p q:Prop}(t:p->X)(f:q->Y)(h1:b ()=true->p:=by first|(intro zq;(try simp only[nc,cl]at zq);(try simp only[bl,dl]at zq);exact zq)|(intro zq;show False;(try simp only[nc,cl]at zq);(try simp only[bl,dl]at zq);done))
 (h2:b ()=false->q:=by first|(intro zq;(try simp only[nc,cl]at zq);(try simp only[bl,dl]at zq);exact zq)|(intro zq;show False;(try simp only[nc,cl]at zq);(try simp only[bl,dl]at zq);done)):Cv b X Y:=⟨fun h=>t (h1 h),fun h=>f (h2 h)⟩
def zkQ{p q:Prop}(h:q)(e:q->p:=by intro zq;with_reducible first|exact af.block zq|exact af.skip zq|exact af.exit zq|exact af.ret zq|exact tN zq|exact jU zq|exact jX zq|exact bH zq|exact bM rfl zq|exact bN zq|exact jY zq|exact jn zq|exact rN zq):p:=e h
def ziZ{p:Prop}(h:p:=by first|with_reducible exact aN.2 trivial|with_reducible exact kN.2 trivial|((with_reducible rw[aC]);(try simp only[aC,aN,ay,nc]);(repeat'(with_reducible apply ai));all_goals(first|exact pT|exact pF|exact fun _ h=>h|exact fun h=>h|trivial|omega|(simp;done)|(simp;omega)|grind))):p:=h
abbrev zI(n:Int):AV:=.int .i64 fun _=>n
abbrev zO(b:Bool):AV:=.bool fun _=>b
abbrev zR(s:ByteArray):AV:=.str fun _=>s
abbrev zT:AV:=.ag []
def Dk(ro:Option Nat)(P:Unit->Program)(T:Unit->List (Nat×TI))(aw:Unit->List (Nat×cL))(kp:Unit->List Nat):Nat->Code->KS->Env->SS->Prop
 | 0,c,k,E,s=>iJ ro P E c k s
 | n+1,.seq a b,k,E,s=>wk ro P T aw kp a (fun e E' s'=>match e with|.normal=>Dk ro P T aw kp n b k E' s'|e=>k e E' s') E s
 | _+1,c,k,E,s=>wk ro P T aw kp c k E s
section
variable {ro:Option Nat}{P:Program}{T:List (Nat×TI)}
def wu{ro:Option Nat}{P:Unit->Program}{T:Unit->List (Nat×TI)}{aw:Unit->List (Nat×cL)}{kp:Unit->List Nat}{n:Nat}{c:Code}{k:KS}{E:Env}{s:SS}(h:Dk ro P T aw kp n c k E s):Dk ro P T aw kp n c k E s:=h
def af.IC(hT:cn P T)(hm:P.follows .mixedOrders=true)(aw:List (Nat×cL))(kp:List Nat){c:Code}{k:KS}{E:Env}{s:SS}
 (h:Go.Ai.wk ro (fun _=>P) (fun _=>T) (fun _=>aw) (fun _=>kp) c k E s) (hs:s.ok):af ro P E c (fun e E S=>∃s,S=s.st∧s.ok∧k e E s) s.st:=
 wq hT hm (fun _=>aw) (fun _=>kp) c k _ E s hs (fun _ _ s' hs' h=>⟨s',rfl,hs',h⟩) h
end
end Go.Ai
namespace Go.Ai
open Go
end Go.Ai

namespace Go.Ai
open Go
def mW(ro:Option Nat)(P:Unit->Program)(T:Unit->List (Nat×TI))(aw:Unit->List (Nat×cL))(kp:Unit->List Nat):Nat->Code->KS->Env->SS->Prop
 | 0,c,k,E,s=>iJ ro P E c k s
 | n+1,.seq a b,k,E,s=>wk ro P T aw kp a (fun e E' s'=>match e with|.normal=>mW ro P T aw kp n b k E' s'|e=>k e E' s') E s
 | n+1,.block id c,k,E,s=>mW ro P T aw kp n c (fun e E' s'=>match e with|.exit i=>if i=id then k .normal E' s' else k (.exit i) E' s'|e=>k e E' s') E s
 | _+1,c,k,E,s=>wk ro P T aw kp c k E s
section
variable {ro:Option Nat}{P:Program}{T:List (Nat×TI)}
def QF(hT:cn P T)(hm:P.follows .mixedOrders=true)(aw:Unit->List (Nat×cL))(kp:Unit->List Nat):∀(n:Nat) (c:Code) (k:KS) (K:KK) (E:Env) (s:SS),
 s.ok->(∀e E' s',s'.ok->k e E' s'->K e E' s'.st)->mW ro (fun _=>P) (fun _=>T) aw kp n c k E s->af ro P E c K s.st:=by
 intro n
 induction n with
 | zero=>
  intro c k K E s hs hk h;exact af.mono (h.h hs) fun e E' S' _ ⟨s',h0,h1,h2⟩=>by rw[h0];exact hk _ _ _ h1 h2
 | succ n ih=>
  intro c k K E s hs hk h;cases c with
  | seq a b=>
   refine .seq (wq hT hm aw kp a _ _ E s hs (fun e E' s' hs' h1=>?_) h);cases e with
   | normal=>exact ih b k K E' s' hs' hk h1
   | _=>exact hk _ _ _ hs' h1
  | block id c=>
   refine .block (ih c _ _ E s hs (fun e E' s' hs' h1=>?_) h);cases e with
   | exit i=>
    simp only[ni];simp only at h1;by_cases e:i=id
    ·rw[ae e]at h1 ⊢;exact hk _ _ _ hs' h1
    ·rw[aa e]at h1 ⊢;exact hk _ _ _ hs' h1
   | _=>exact hk _ _ _ hs' h1
  | _=>exact wq hT hm aw kp _ _ _ E s hs hk h
def af.mW(hT:cn P T)(hm:P.follows .mixedOrders=true)(n:Nat)(aw:List (Nat×cL))(kp:List Nat){c:Code}{K:KK}{E:Env}{s:SS}
 (h:Go.Ai.mW ro (fun _=>P) (fun _=>T) (fun _=>aw) (fun _=>kp) n c (fun e E s=>kS (fun e E S=>K e E S) e E s) E s) (hs:s.okB=true:=by rfl):af ro P E c K s.st:=
 QF hT hm (fun _=>aw) (fun _=>kp) n c _ K E s (SS.zp hs) (fun _ _ _ hs' h=>h.h hs') h
def Bq{ro:Option Nat}{P:Unit->Program}{T:Unit->List (Nat×TI)}{aw:Unit->List (Nat×cL)}{kp:Unit->List Nat}{n:Nat}{c:Code}{k:KS}{E:Env}{s:SS}(h:Go.Ai.mW ro P T aw kp n c k E s):Go.Ai.mW ro P T aw kp n c k E s:=h
def iJ.turn(hT:cn P T)(hm:P.follows .mixedOrders=true)(aw:List (Nat×cL))(kp:List Nat){c:Code}{k:KS}{E:Env}{s:SS}(s2:SS)(hw:p9 s s2)
 (h:Go.Ai.wk ro (fun _=>P) (fun _=>T) (fun _=>aw) (fun _=>kp) c k E s2) (ok:s2.okB=true:=by rfl):iJ ro (fun _=>P) E c k s:=
 ⟨fun _=>.weak (zu hw) (af.IC hT hm aw kp h (SS.zp ok))⟩
end
def Rel.pick{E:Env}{S:AS}{a:Act}{w:World}{o:Nat}{ks:Unit->List ByteArray}{f:(Unit->Nat)->AV}{seen:Unit->List Nat}(hold:S.obj o=.it ks f seen true)(hex:∃i,i<(ks ()).length∧i∉seen ())(h:Rel E S a w):
 ∃i,i<(ks ()).length∧i∉seen ()∧Rel E ⟨S.tmps,oset S.objs o (.it ks f (fun _=>seen ()++[i]) false)⟩ a w:=by
 obtain⟨β,h⟩:=h;have ho:=h.objs o;rw[hold]at ho;obtain⟨b,mb,sa,h1,h2,h3,h4,h5⟩:=ho;rcases h5 with⟨_,q⟩|⟨i,i1,i2,i3⟩
 ·obtain⟨i,i1,i2⟩:=hex;exact absurd (q i i1) i2
 refine⟨i,i1,i2,β,?_⟩;obtain⟨g1,_⟩:=h.turn (o:=o) (by rw[hold];trivial) (w':=w) rfl rfl rfl (ao _) (fun _ _ _=>rfl) (ob:=.it ks f (fun _=>seen ()++[i]) false) trivial (v:=β o)
  (fun b hb=>.inl hb) (fun _ _=>rfl) (fun x t sz ver n f hf=>by rw[hold]at hf;cases hf) (fun cs hcs=>by rw[hold]at hcs;cases hcs)
  (fun _ hrd=>⟨b,mb,sa,by simp[upd,h1],h2,h3,h4.imp id fun⟨m,q1,q2⟩=>⟨m,q1,hrd _ _ q2⟩,i3⟩) (fun ks f s p hf=>⟨_,_,_,_,rfl⟩)
 have e1:upd β o (β o)=β:=by funext k;unfold upd;split<;>simp_all
 rw[e1]at g1;have e2:oL (oset S.objs o (.it ks f (fun _=>seen ()++[i]) false))=upd S.obj o (.it ks f (fun _=>seen ()++[i]) false):=n8 _ _ _;show RelB E S.tmps (oL (oset S.objs o _)) a w β;rw[e2];exact g1
def iJ.pick{P:Program}{T:List (Nat×TI)}(hT:cn P T)(hm:P.follows .mixedOrders=true)(aw:Nat->List (Nat×cL))(kp:List Nat){c:Code}{k:KS}{E:Env}{s:SS}(o:Nat){ks:Unit->List ByteArray}{f:(Unit->Nat)->AV}{seen:Unit->List Nat}
 (hold:oL s.objs o=.it ks f seen true) (hex:∃i,i<(ks ()).length∧i∉seen ())
 (h:∀i,i<(ks ()).length->i∉seen ()->Go.Ai.wk none (fun _=>P) (fun _=>T) (fun _=>aw i) (fun _=>kp) c k E ⟨s.n,s.l,oset s.objs o (.it ks f (fun _=>seen ()++[i]) false)⟩) (ok:s.okB=true:=by rfl):iJ none (fun _=>P) E c k s:=
 ⟨fun hs a w hr=>by
  obtain⟨i,i1,i2,hr2⟩:=Rel.pick (S:=s.st) (o:=o) (show s.st.obj o=_ from hold) hex hr;exact af.IC hT hm (aw i) kp (h i i1 i2) (SS.zp ok) a w hr2⟩
def vQ{ok:Bool}{conds:List (Unit->Prop)}{calls:List (Option (Unit->Bool)×bk)}{ob:Option (Unit->Bool)×bk->Prop}{K:Prop}(a:∀c∈conds,c ())(b:∀c∈calls,ob c)(d:K)(h:ok=true:=by rfl):VC ok conds calls ob K:=⟨h,a,b,d⟩
def wQ{p q:Prop}(h:q)(e:q->p:=by intro zq;with_reducible ((first|apply wI|apply xE|apply uE|apply wu);cbv;(try dsimp only[nc]);exact zq)):p:=e h
def oQ{p q:Prop}(h:q)(e:q->p:=by intro zq;with_reducible ((first|apply xE|apply uE);cbv;(try dsimp only[nc]);exact zq)):p:=e h
def rQ{p q:Prop}(h:q)(e:q->p:=by intro zq;with_reducible ((first|refine rE ?_|refine nE ?_);cbv;(try dsimp only[nc]);(try simp only[wl,nc]);exact zq)):p:=e h
def sQ{p q:Prop}(h:q)(e:q->p:=by intro zq;with_reducible (rw[aC];(try simp only[wl,nc]);exact zq)):p:=e h
def aQ{p q:Prop}(h:q)(e:q->p:=by intro zq;cbv;(try dsimp only[nc]);(try simp only[wl,nc]);exact zq):p:=e h
structure jA(p q:Prop):Prop where mk ::
 l:p
 r:q
structure jC(p q x y:Prop):Prop where mk ::
 l:p->q
 r:x->y
structure jJ(k:Nat)(q p:Prop):Prop where mk ::
 f:q->p
def j0{p:Prop}(h:p):jJ 0 True p:=⟨fun _=>h⟩
def j1{p:Prop}(h:p):jJ 1 True p:=⟨fun _=>h⟩
def j2{p:Prop}(h:p):jJ 2 True p:=⟨fun _=>h⟩
def jB{P:Program}{c:bk}{o:Option (Unit->Bool)}(h:Af P c.f c.args c.objs c.res c.au):jJ 0 True (lD (fun _=>P) (o,c)):=⟨fun _=>bZ h⟩
def jI{k:Nat}{p:Prop}:jJ k p p:=⟨id⟩
def jO{P:Unit->Program}{a:Option (Unit->Bool)×bk}{l:List (Option (Unit->Bool)×bk)}{x y:Prop}(h:jJ 0 x (lD P a))(hl:jJ 0 y (∀c∈l,lD P c)):jJ 0 (jA x y) (∀c∈a::l,lD P c):=⟨fun z=>oC (h.f z.l) (hl.f z.r)⟩
def jV{conds:List (Unit->Prop)}{calls:List (Option (Unit->Bool)×bk)}{ob:Option (Unit->Bool)×bk->Prop}{K x y z:Prop}(a:jJ 0 x (∀c∈conds,c ()))(b:jJ 0 y (∀c∈calls,ob c))(d:jJ 0 z K):jJ 0 (jA x (jA y z)) (VC true conds calls ob K):=⟨fun w=>⟨rfl,a.f w.l,b.f w.r.l,d.f w.r.r⟩⟩
def jT{b:Unit->Bool}{X Y p q x y:Prop}(h1:b ()=true->p)(h2:b ()=false->q)(t:p->jJ 0 x X)(f:q->jJ 0 y Y):jJ 0 (jC p x q y) (Cv b X Y):=⟨fun z=>⟨fun h=>(t (h1 h)).f (z.l (h1 h)),fun h=>(f (h2 h)).f (z.r (h2 h))⟩⟩
def jW{k m:Nat}{p q r:Prop}(e:q->p)(h:jJ m r q):jJ k r p:=⟨fun z=>e (h.f z)⟩
def jD{k:Nat}{p q x y:Prop}(h:jJ (k+1) x p)(g:jJ (k+1) y q):jJ (k+1) (jA x y) (p∧q):=⟨fun z=>⟨h.f z.l,g.f z.r⟩⟩
def mA{p q:Prop}(h:p)(g:q):jA p q:=⟨h,g⟩
def mC{p q x y:Prop}(h:p->q)(g:x->y):jC p q x y:=⟨h,g⟩
def wY{p:Prop}(h:p:=by(try dsimp only[nc]at*);first|rfl|exact fun _ _=>lr rfl|exact lr rfl|trivial|omega):p:=h
def oA{p q:Prop}(h:q)(e:jJ 0 q p:=by
 (repeat' with_reducible first|(apply j0;exact nY)|apply jO|apply jV|(apply jT;(focus(first|(intro zq;(try simp only[nc,cl]at zq);(try simp only[bl,dl]at zq);exact zq)|(intro zq;show False;(try simp only[nc,cl]at zq);(try simp only[bl,dl]at zq);done)));(focus(first|(intro zq;(try simp only[nc,cl]at zq);(try simp only[bl,dl]at zq);exact zq)|(intro zq;show False;(try simp only[nc,cl]at zq);(try simp only[bl,dl]at zq);done))))|intro _|(apply jW (m:=0);focus(intro zq;(first|apply wI|apply xE|apply uE|apply wu);cbv;(try dsimp only[nc]);exact zq))|exact jI)):p:=e.f h
def qC{p q:Prop}(h:q)(e:jJ 0 q p:=by
 (first|(with_reducible (apply jW (m:=1);focus(intro zq;(first|refine rE ?_|refine nE ?_);cbv;(try dsimp only[nc]);(try simp only[wl,nc]);exact zq)))|(apply jW (m:=2);focus(intro zq;with_reducible (refine aC.2 ?_;(try simp only[wl,nc]);exact zq))))
 (repeat' first|(with_reducible first|apply jD|(apply j1;exact wY))|(apply j2;exact cZ)|(with_reducible exact jI))):p:=e.f h
def oB{p q:Prop}(h:q)(e:jJ 0 q p:=by
 (repeat' first|(with_reducible first|(apply j0;exact nY)|apply jO|apply jV|(apply jT;(focus(first|(intro zq;(try simp only[nc,cl]at zq);(try simp only[bl,dl]at zq);exact zq)|(intro zq;show False;(try simp only[nc,cl]at zq);(try simp only[bl,dl]at zq);done)));(focus(first|(intro zq;(try simp only[nc,cl]at zq);(try simp only[bl,dl]at zq);exact zq)|(intro zq;show False;(try simp only[nc,cl]at zq);(try simp only[bl,dl]at zq);done))))|intro _|(apply jW (m:=0);focus(intro zq;(first|apply wI|apply xE|apply uE|apply wu);cbv;(try dsimp only[nc]);exact zq)))|((with_reducible apply jB);assumption)|(with_reducible (apply jW (m:=1);focus(intro zq;(first|refine rE ?_|refine nE ?_);cbv;(try dsimp only[nc]);(try simp only[wl,nc]);exact zq)))|(apply jW (m:=2);focus(intro zq;with_reducible (refine aC.2 ?_;(try simp only[wl,nc]);exact zq)))|(with_reducible first|apply jD|(apply j1;exact wY))|(apply j2;exact cZ)|(with_reducible exact jI))):p:=e.f h
end Go.Ai
