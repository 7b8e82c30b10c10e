/- Contracts, and a call under a contract. -/
import Derived.Test.YtbagpkiomjlhkaaGreatDoorEngA
import Derived.Laws.IdiomRangeMap
import Derived.OrdersIn
import Derived.TacticsIn
import Derived.RangeFuncOwn
import Derived.Deep.LoopGhost
import Derived.RangeFuncLeaves
set_option linter.all false
namespace Go.Ai
open Go
def Link(H:Nat->AO)(β:Nat->Value)(H':Nat->AO)(β':Nat->Value):Prop:=
 ∀o,(H o).is->(H' o).is∧(∀cs,H o=.box cs->(∃cs',H' o=.box cs')∧β' o=β o) ∧
  (∀x t sz ver n f,H o=.arr x t sz ver n f->∃aM n' f',H' o=.arr x t sz aM n' f'∧((aM=ver∧n' ()=n ()∧β' o=β o)∨ver<aM))
def u7(P:Program)(f:FuncId):Prop:=∀(args:Array Value) (w:World),(callFunc f args).run P w=.ok (.enter f args) w
def lm {P : Program} {f : FuncId} {fn : Func} {c : Code} (hf : P.funcs[f]? = some fn) (hname : (fn.name == "runtime.NumGoroutine") = false) (hb : fn.body = some c) : u7 P f := by
 intro args w;have hn : ¬ (fn.name = "runtime.NumGoroutine") := by simpa using hname
 simp[callFunc,hf,hb,hn]
structure Af(P:Program)(f:FuncId)(args:List AV)(objs:List (Nat×AO))(res:AV)(au:List (Nat×AO)):Prop where
 ent:u7 P f
 calls:∀(E:Env) (β:Nat->Value) (vs:Array Value),(∀o,E.pin o=none)->E.df=[]->(∀b,¬E.Y b)->RelB E args (oL objs) ⟨vs,[]⟩ E.w0 β ->
  Calls P f vs E.w0 fun e w'=>∃v β',e=.returned v∧RelB E [res] (oL au) ⟨#[v],[]⟩ w' β'∧Link (oL objs) β (oL au) β'
section pass
variable {w:World}{D Dc:Nat->Prop}{B:Nat}{β βc:Nat->Value}{H Hc:Nat->AO}
def cp(base j:Nat)(c:AV):AV:=((aU base j [c]).1).headD .any
def me(base j:Nat)(c:AV):List (Nat×Nat×Nat):=(aU base j [c]).2
def Hf(base j:Nat)(c:AV)(r:List AV):aU base j (c::r)=(cp base j c::(aU base (j+1) r).1,me base j c++(aU base (j+1) r).2):=by
 unfold cp me;cases c<;>simp[aU]<;>(split<;>simp)
theorem kL(base:Nat):∀(cs:List AV) (j i:Nat),(aU base j cs).1.length=cs.length∧(aU base j cs).1[i]? = (cs[i]?).map (cp base (j+i))∧∀c,cs[i]? = some c->∀p∈me base (j+i) c,p∈(aU base j cs).2
 | [],j,i=>by simp[aU]
 | c::r,j,0=>by
  rw[Hf];obtain⟨h1,_,_⟩:=kL base r (j+1) 0;exact⟨by simp[h1],zsi,fun c' hc p hp=>by simp at hc;subst hc;exact xS _ hp⟩
 | c::r,j,i+1=>by
  rw[Hf];obtain⟨h1,h2,h3⟩:=kL base r (j+1) i;have e:j+(i+1)=j+1+i:=zo
  refine⟨by simp[h1],by simp[h2,e],fun c' hc p hp=>?_⟩;have:=h3 c' (by simpa using hc) p (by rw[<- e];exact hp);simp[this]
def yK(β βc:Nat->Value)(H Hc:Nat->AO)(ids:List (Nat×Nat×Nat)):Prop:=
 ∀k o ver,(k,o,ver)∈ids->βc k=β o∧∀x t sz kM n f,Hc k=.arr x t sz kM n f->kM=0∧H o=.arr x t sz ver n f
def OS(hd:∀av v,RD w D B av v->RD w Dc B av v){av:AV}{v:Value}(h:RD w D B av v):∀base j,RX w Dc B βc Hc (cp base j av) v:=by
 have hpure:∀(av:AV) (v:Value),RD w D B av v->RX w Dc B βc Hc (if av.pure=true then av else .any) v:=by
  intro av v hx;split
  ·exact .d (hd _ _ hx)
  ·exact .d (.any _)
 have hlist:∀(cs:List AV) (vs:Array Value) (b:Nat),cs.length=vs.size->(∀(i:Nat) (av:AV) (v:Value),cs[i]? = some av->vs[i]? = some v->∀base j,RX w Dc B βc Hc (cp base j av) v) ->
  (aU b 0 cs).1.length=vs.size∧∀(i:Nat) (av:AV) (v:Value),(aU b 0 cs).1[i]? = some av->vs[i]? = some v->RX w Dc B βc Hc av v:=by
  intro cs vs b hl ih;refine⟨by rw[(kL _ cs 0 0).1];exact hl,fun i av v h1 h2=>?_⟩;obtain⟨_,g2,_⟩:=kL b cs 0 i;rw[g2]at h1;cases hc:cs[i]? with
  | none=>rw[hc]at h1;simp at h1
  | some c=>rw[hc]at h1;simp only[eM,cB,eC]at h1;subst h1;exact ih i c v hc h2 b i
 induction h with
 | any v=>intro base j;simpa[cp,aU]using hpure .any v (.any v)
 | val v=>intro base j;simpa[cp,aU]using hpure (.val v) v (.val v)
 | int k n=>intro base j;simpa[cp,aU]using hpure _ _ (.int k n)
 | bool b=>intro base j;simpa[cp,aU]using hpure _ _ (.bool b)
 | str s=>intro base j;simpa[cp,aU]using hpure _ _ (.str s)
 | nil=>intro base j;simpa[cp,aU]using hpure _ _ .nil
 | bt=>intro base j;simpa[cp,aU]using hpure _ _ .bt
 | cN=>intro base j;simpa[cp,aU]using hpure _ _ .cN
 | bj t=>intro base j;simpa[cp,aU]using hpure _ _ (.bj t)
 | dz=>intro base j;simpa[cp,aU]using hpure _ _ .dz
 | fd t f b ht hf=>intro base j;simpa[cp,aU]using hpure _ _ (.fd t f b ht hf)
 | bz n v h=>intro base j;simpa[cp,aU]using hpure _ _ (.bz n v h)
 | empty fr sz n f p cap hn hc=>intro base j;simpa[cp,aU]using hpure _ _ (.empty fr sz n f p cap hn hc)
 | slc fr sz n f b o cap c hn hc hD hB hcell hlen hone hel=>intro base j;simpa[cp,aU]using hpure _ _ (.slc fr sz n f b o cap c hn hc hD hB hcell hlen hone hel)
 | ag cs vs hl h=>intro base j;simpa[cp,aU]using hpure _ _ (.ag cs vs hl h)
 | may g av v h hu=>intro base j;simpa[cp,aU]using hpure _ _ (.may g av v h hu)
 | dm fr sz n f i off b o cap hi h=>intro base j;simpa[cp,aU]using hpure _ _ (.dm fr sz n f i off b o cap hi h)
 | fmap es b clock ents eD hb hl hk h=>intro base j;simpa[cp,aU]using hpure _ _ (.fmap es b clock ents eD hb hl hk h)
 | di ks f b clock ents eD hb hl hk hc h=>intro base j;simpa[cp,aU]using hpure _ _ (.di ks f b clock ents eD hb hl hk hc h)
 | jM ks f hz=>intro base j;simpa[cp,aU]using hpure _ _ (.jM ks f hz)
 | gJ n ks f vs hl h=>intro base j;simpa[cp,aU]using hpure _ _ (.gJ n ks f vs hl h)
 | gw t f b vs hb ht hf=>intro base j;simpa[cp,aU]using hpure _ _ (.gw t f b vs hb ht hf)
 | agg cs vs hl _ ih=>
  intro base j;simp only[cp,aU,cJ];obtain⟨h1,h2⟩:=hlist cs vs (jK (base+j)) hl ih;exact .agg _ _ h1 h2
 | func fn cs vs hl _ ih=>
  intro base j;simp only[cp,aU,cJ];obtain⟨h1,h2⟩:=hlist cs vs (jK (base+j)) hl ih;exact .func _ _ _ h1 h2
def OT(hd:∀av v,RD w D B av v->RD w Dc B av v){av:AV}{v:Value}(h:RX w D B β H av v):∀base j,yK β βc H Hc (me base j av)->RX w Dc B βc Hc (cp base j av) v:=by
 have hpure:∀(av:AV) (v:Value),RX w D B β H av v->RX w Dc B βc Hc (if av.pure=true then av else .any) v:=by
  intro av v hx;split
  ·rename_i hp;exact .d (hd _ _ (hx.pure hp))
  ·exact .d (.any _)
 induction h with
 | @d av v h=>exact fun base j _=>OS hd h base j
 | ptr o off b h=>
  intro base j hi;by_cases h0:off=0
  ·subst h0;simp only[cp,aU,bC,cJ];have:=(hi (base+j) o 0 (by simp[me,aU])).1;exact .ptr _ _ b (by rw[this];exact h)
  ·simp only[cp,aU,aa h0,cJ];exact .d (.any _)
 | ci o sz ver n i off v hs hi h=>intro base j _;simp only[cp,aU,cJ];exact .d (.any _)
 | aJ o ver n v hs h=>
  intro base j hi;simp only[cp,aU,cJ];obtain⟨h1,h2⟩:=hi (base+j) o ver (by simp[me,aU]);refine .aJ _ _ _ _ hs (fun x t sz kM n' f hH=>?_);obtain⟨rfl,h3⟩:=h2 _ _ _ _ _ _ hH;obtain⟨_,h4⟩:=h _ _ _ _ _ _ h3;exact⟨ao _,fun _=>by rw[h1];exact h4 rfl⟩
 | bG o n b h _=>
  intro base j hi;simp only[cp,aU,cJ];have h0:=(hi (base+j) o 0 (by simp[me,aU])).1;obtain⟨b',h1,h2⟩:=h.dF;cases h2;exact .bG _ _ b (.ptr _ _ b (by rw[h0];exact h1))
 | a8 fn o b h _=>
  intro base j hi;simp only[cp,aU,cJ];have h0:=(hi (base+j) o 0 (by simp[me,aU])).1;obtain⟨b',h1,h2⟩:=h.dF;cases h2;exact .a8 _ _ b (.ptr _ _ b (by rw[h0];exact h1))
 | agg cs vs hl _ ih=>
  intro base j hi;simp only[cp,aU,cJ];refine .agg _ _ (by rw[(kL _ cs 0 0).1];exact hl) (fun i av v h1 h2=>?_);obtain⟨_,g2,g3⟩:=kL (jK (base+j)) cs 0 i;rw[g2]at h1;cases hc:cs[i]? with
  | none=>rw[hc]at h1;simp at h1
  | some c=>
   rw[hc]at h1;simp at h1;subst h1
   have:=ih i c v hc h2 (jK (base+j)) i (fun k o ver hm=>hi k o ver (by
    have:=g3 c hc _ (by simpa using hm);simp[me,aU,this]))
   exact this
 | ag cs vs hl h ih=>intro base j _;simpa[cp,aU]using hpure _ _ (.ag cs vs hl h)
 | func fn cs vs hl _ ih=>
  intro base j hi;simp only[cp,aU,cJ];refine .func _ _ _ (by rw[(kL _ cs 0 0).1];exact hl) (fun i av v h1 h2=>?_);obtain⟨_,g2,g3⟩:=kL (jK (base+j)) cs 0 i;rw[g2]at h1;cases hc:cs[i]? with
  | none=>rw[hc]at h1;simp at h1
  | some c=>
   rw[hc]at h1;simp at h1;subst h1
   have:=ih i c v hc h2 (jK (base+j)) i (fun k o ver hm=>hi k o ver (by
    have:=g3 c hc _ (by simpa using hm);simp[me,aU,this]))
   exact this
 | may g av v h hu ih=>intro base j _;simpa[cp,aU]using hpure _ _ (.may g av v h hu)
end pass
def tH(S:AS)(l:List (Nat×Nat×Nat))(p:Nat×Nat×Nat)(ob:AO):Prop:=
 (∃cs m,S.obj p.2.1=.box cs∧ob=.box (pD m (aU (jK p.1) 0 cs).1)∧∀q∈(aU (jK p.1) 0 cs).2,∃v,(nameOf m q.1,q.2.1,v)∈l∧∀x t sz ver n f,S.obj q.2.1=.arr x t sz ver n f->ver=q.2.2) ∨
 (∃x t sz n f,S.obj p.2.1=.arr x t sz p.2.2 n f∧ob=.arr x t sz 0 n f)
theorem Hg:∀{kn:List (Nat×Nat×Nat)} {o ver a:Nat},qQ kn o ver=some a->(a,o,ver)∈kn
 | [],_,_,_,h=>by simp[qQ]at h
 | (a',b,v)::r,o,ver,a,h=>by
  simp only[qQ]at h;split at h
  ·rename_i q;simp only[cB]at h;obtain⟨rfl,rfl⟩:=q;subst h;exact dJ ..
  ·exact cH _ (Hg h)
theorem yL{m:List (Nat×Nat)}:∀{l kn:List (Nat×Nat×Nat)},pC kn m l=true->∀q∈l,(nameOf m q.1,q.2.1,q.2.2)∈kn∨(nameOf m q.1,q.2.1,q.2.2)∈tj kn l
 | [],_,_,q,hq=>by cases hq
 | (k,o,ver)::r,kn,h,q,hq=>by
  simp only[pC]at h;simp only[tj];split at h
  ·rename_i a ha;simp only[az]at h;rcases bW.1 hq with rfl|hq
   ·rw[uM h.1];exact .inl (Hg ha)
   ·exact yL h.2 q hq
  ·rename_i ha;simp only[az]at h;rcases bW.1 hq with rfl|hq
   ·rw[uM h.1];exact .inr (dJ ..)
   ·rcases yL h.2 q hq with h1|h1
    ·rcases bW.1 h1 with h1|h1
     ·exact .inr (by rw[h1];exact dJ ..)
     ·exact .inl h1
    ·exact .inr (cH _ h1)
def OU{S:AS}{e:Eff}:∀(n:Nat) (dn ids:List (Nat×Nat×Nat)) (k:List (Nat×Nat×Nat)->List (Nat×AO)->M Eff) (_:aV S (yr n dn ids k) e) (_:∀q∈dn,∀x t sz ver n f,S.obj q.2.1=.arr x t sz ver n f->ver=q.2.2),
 ∃l objs,aV S (k l objs) e∧objs.map (·.1)=l.map (·.1)∧(∀(i:Nat) (p:Nat×Nat×Nat) (q:Nat×AO),l[i]? = some p->objs[i]? = some q->tH S (l++dn) p q.2) ∧
  ∀q∈ids,∃v,(q.1,q.2.1,v)∈l∧∀x t sz ver n f,S.obj q.2.1=.arr x t sz ver n f->ver=q.2.2:=by
 have mono:∀{S:AS} {l l':List (Nat×Nat×Nat)} {p:Nat×Nat×Nat} {ob:AO},(∀x∈l,x∈l')->tH S l p ob->tH S l' p ob:=by
  intro S l l' p ob hs h;rcases h with⟨cs,m,h1,h2,h3⟩|h
  ·exact .inl ⟨cs,m,h1,h2,fun q hq=>let ⟨v,a,b⟩:=h3 q hq;⟨v,hs _ a,b⟩⟩
  ·exact .inr h
 intro n
 induction n with
 | zero=>
  intro dn ids k hy _;cases ids with
  | nil=>exact⟨[],[],hy,rfl,fun i p q h=>by simp at h,fun q hq=>by simp at hq⟩
  | cons p r=>obtain⟨a,b,ver⟩:=p;exact hy.fail.elim
 | succ n ih=>
  intro dn ids k hy hdn;cases ids with
  | nil=>exact⟨[],[],hy,rfl,fun i p q h=>by simp at h,fun q hq=>by simp at hq⟩
  | cons p r=>
   obtain⟨a,b,ver⟩:=p;have hy:=hy.obj;split at hy
   ·exact hy.fail.elim
   ·exact hy.fail.elim
   ·rename_i cs hcs;simp only at hy;split at hy
    ·exact hy.fail.elim
    rename_i hok;have hok:pC ((a,b,0)::(dn++r)) (sameAs ((a,b,0)::(dn++r)) (aU (jK a) 0 cs).2) (aU (jK a) 0 cs).2=true:=by simpa using hok
    have hbx:∀x t sz ver n f,S.obj b=.arr x t sz ver n f->ver=0:=fun x t sz ver n f hf=>by rw[hcs]at hf;cases hf
    obtain⟨l,objs,h1,h2,h3,h4⟩:=ih _ _ _ hy (fun q hq=>by
     rcases bW.1 hq with rfl|hq
     ·exact hbx
     ·exact hdn q hq)
    refine⟨(a,b,0)::l,_,h1,by simp[h2],fun i p q hp hq=>?_,fun q hq=>?_⟩
    ·cases i with
     | zero=>
      simp at hp hq;subst hp;subst hq;refine .inl ⟨cs,_,hcs,rfl,fun q hq=>?_⟩;rcases yL hok q hq with hm|g1
      ·rcases bW.1 hm with hm|hm
       ·simp only[nJ]at hm;obtain⟨e1,e2,e3⟩:=hm;exact⟨0,by rw[e1,e2];simp,fun x t sz ver n f hf=>by rw[e3];rw[e2]at hf;exact hbx x t sz ver n f hf⟩
       ·rcases gB.1 hm with hm|hm
        ·exact⟨q.2.2,by simp[hm],fun x t sz ver n f hf=>hdn _ hm x t sz ver n f hf⟩
        ·obtain⟨v,w1,w2⟩:=h4 _ (xS _ hm);exact⟨v,by simp only[pg,bW,gB];exact .inr (.inl w1),w2⟩
      ·obtain⟨v,w1,w2⟩:=h4 _ (Ba _ g1);exact⟨v,by simp only[pg,bW,gB];exact .inr (.inl w1),w2⟩
     | succ i=>
      refine mono (fun x hx=>?_) (h3 i p q (by simpa using hp) (by simpa using hq));simp only[pg,bW,gB]at hx ⊢;rcases hx with hx|hx|hx
      ·exact .inr (.inl hx)
      ·exact .inl hx
      ·exact .inr (.inr hx)
    ·rcases bW.1 hq with rfl|hq
     ·exact⟨0,zsi,fun x t sz ver n f hf=>by rw[hcs]at hf;cases hf⟩
     ·obtain⟨v,g1,g2⟩:=h4 q (xS _ hq);exact⟨v,cH _ g1,g2⟩
   ·rename_i x t sz aM n' f hcs;replace hy:=yI hy;obtain⟨hv,hy⟩:=hy;simp at hv;subst hv
    obtain⟨l,objs,h1,h2,h3,h4⟩:=ih _ _ _ hy (fun q hq=>by
     rcases bW.1 hq with rfl|hq
     ·intro x t sz ver n f hf;rw[hcs]at hf;cases hf;rfl
     ·exact hdn q hq)
    refine⟨(a,b,ver)::l,_,h1,by simp[h2],fun i p q hp hq=>?_,fun q hq=>?_⟩
    ·cases i with
     | zero=>simp at hp hq;subst hp;subst hq;exact .inr ⟨x,t,sz,n',f,hcs,rfl⟩
     | succ i=>
      refine mono (fun x hx=>?_) (h3 i p q (by simpa using hp) (by simpa using hq));simp only[pg,bW,gB]at hx ⊢;rcases hx with hx|hx|hx
      ·exact .inr (.inl hx)
      ·exact .inl hx
      ·exact .inr (.inr hx)
    ·rcases bW.1 hq with rfl|hq
     ·exact⟨ver,zsi,fun x t sz ver n f hf=>by rw[hcs]at hf;cases hf;rfl⟩
     ·obtain⟨v,g1,g2⟩:=h4 q hq;exact⟨v,cH _ g1,g2⟩
theorem Hh:∀(l:List Nat),nodupB l=true↔l.Nodup
 | []=>by simp[nodupB]
 | a::r=>by simp[nodupB,Hh r]
def CB{l:List (Nat×AO)}(hn:(l.map (·.1)).Nodup){k:Nat}{o:AO}(h:(k,o)∈l):oL l k=o:=by
 induction l with
 | nil=>simp at h
 | cons p r ih=>
  obtain⟨i,x⟩:=p;simp only[fZ,qJ]at hn;rcases bW.1 h with h|h
  ·cases h;simp[oL]
  ·have:i≠k:=by rintro rfl;exact hn.1 (gG.2 ⟨_,h,rfl⟩)
   simp only[oL,aa this];exact ih hn.2 h
def yM{l:List (Nat×AO)}{k:Nat}(h:(oL l k).is):(k,oL l k)∈l:=by
 induction l with
 | nil=>exact h.elim
 | cons p r ih=>
  obtain⟨i,x⟩:=p;simp only[oL]at h ⊢;split
  ·rename_i e;subst e;simp
  ·rename_i e;rw[aa e]at h;exact cH _ (ih h)
def OV{ids:List (Nat×Nat×Nat)}(hn:(ids.map (·.1)).Nodup){k b v d:Nat}(h:(k,b,v)∈ids):lw ids d k=(b,v):=by
 induction ids with
 | nil=>simp at h
 | cons p r ih=>
  obtain⟨a,q⟩:=p;simp only[fZ,qJ]at hn;rcases bW.1 h with h|h
  ·cases h;simp[lw]
  ·have:a≠k:=by rintro rfl;exact hn.1 (gG.2 ⟨_,h,rfl⟩)
   simp only[lw,aa this];exact ih hn.2 h
def OW{ids:List (Nat×Nat×Nat)}{k d:Nat}(h:k∉ids.map (·.1)):lw ids d k=(10000*(d+1)+k,0):=by
 induction ids with
 | nil=>rfl
 | cons p r ih=>
  obtain⟨a,q⟩:=p;simp at h;simp only[lw,aa (qI h.1)];exact ih (by simpa using h.2)
def Hi(r:Nat->Nat×Nat)(c:AV)(l:List AV):bb r (c::l)=(bb r [c]).headD .any::bb r l:=by
 cases c<;>simp[bb]
theorem iO(r:Nat->Nat×Nat):∀(cs:List AV) (i:Nat),(bb r cs).length=cs.length∧(bb r cs)[i]? = (cs[i]?).map fun c=>(bb r [c]).headD .any
 | [],i=>by simp[bb]
 | c::l,0=>by rw[Hi];exact⟨by simp[(iO r l 0).1],zsi⟩
 | c::l,i+1=>by rw[Hi];exact⟨by simp[(iO r l i).1],by simp[(iO r l i).2]⟩
def OX{ks:List Nat}{c:AV}{r:List AV}:AV.rI ks (c::r)=true↔AV.rI ks [c]=true∧AV.rI ks r=true:=by
 cases c<;>simp[AV.rI]
theorem CC{ks:List Nat}:∀{cs:List AV},AV.rI ks cs=true->∀(i:Nat) (av:AV),cs[i]? = some av->AV.rI ks [av]=true
 | [],_,i,av,h=>by simp at h
 | c::r,hn,i,av,hi=>by
  obtain⟨h1,h2⟩:=OX.1 hn;cases i with
  | zero=>simp at hi;subst hi;exact h1
  | succ i=>exact CC h2 i av (by simpa using hi)
def CD{w:World}{D Dc:Nat->Prop}{B:Nat}{β βc:Nat->Value}{H Hc:Nat->AO}{r:Nat->Nat×Nat}{ks:List Nat}(hd:∀av v,RD w Dc B av v->RD w D B av v)
 (hr:∀k∈ks,β (r k).1=βc k∧∀x t sz ver n f,H (r k).1=.arr x t sz ver n f->∃kM,ver=(r k).2+kM∧Hc k=.arr x t sz kM n f) {av:AV} {v:Value} (h:RX w Dc B βc Hc av v):
 AV.rI ks [av]=true->RX w D B β H ((bb r [av]).headD .any) v:=by
 have hlist:∀(cs:List AV) (vs:Array Value),cs.length=vs.size->AV.rI ks cs=true->(∀(i:Nat) (av:AV) (v:Value),cs[i]? = some av->vs[i]? = some v->AV.rI ks [av]=true->RX w D B β H ((bb r [av]).headD .any) v) ->
  (bb r cs).length=vs.size∧∀(i:Nat) (av:AV) (v:Value),(bb r cs)[i]? = some av->vs[i]? = some v->RX w D B β H av v:=by
  intro cs vs hl hk ih;refine⟨by rw[(iO r cs 0).1];exact hl,fun i av v h1 h2=>?_⟩;rw[(iO r cs i).2]at h1;cases hc:cs[i]? with
  | none=>rw[hc]at h1;simp at h1
  | some c=>rw[hc]at h1;simp only[eM,cB]at h1;subst h1;exact ih i c v hc h2 (CC hk i c hc)
 have hrd:∀{av:AV} {v:Value},RD w Dc B av v->RX w D B β H ((bb r [av]).headD .any) v:=by
  intro av v h
  induction h with
  | agg cs vs hl _ ih=>
   simp only[bb,cJ];refine .agg _ _ (by rw[(iO r cs 0).1];exact hl) (fun i av v h1 h2=>?_);rw[(iO r cs i).2]at h1;cases hc:cs[i]? with
   | none=>rw[hc]at h1;simp at h1
   | some c=>rw[hc]at h1;simp only[eM,cB]at h1;subst h1;exact ih i c v hc h2
  | ag cs vs hl _ ih=>
   simp only[bb,cJ];refine .ag _ _ (by rw[(iO r cs 0).1];exact hl) (fun i av v h1 h2=>?_);rw[(iO r cs i).2]at h1;cases hc:cs[i]? with
   | none=>rw[hc]at h1;simp at h1
   | some c=>rw[hc]at h1;simp only[eM,cB]at h1;subst h1;exact ih i c v hc h2
  | func fn cs vs hl _ ih=>
   simp only[bb,cJ];refine .func _ _ _ (by rw[(iO r cs 0).1];exact hl) (fun i av v h1 h2=>?_);rw[(iO r cs i).2]at h1;cases hc:cs[i]? with
   | none=>rw[hc]at h1;simp at h1
   | some c=>rw[hc]at h1;simp only[eM,cB]at h1;subst h1;exact ih i c v hc h2
  | may g av v _ hu ih=>simp only[bb,cJ];exact .may _ _ _ ih hu
  | any v=>simp only[bb,cJ];exact .d (.any v)
  | dm fr sz n f i off b o cap hi h=>simp only[bb,cJ];exact .d (hd _ _ (.dm fr sz n f i off b o cap hi h))
  | fmap es b clock ents eD hb hl hk h=>simp only[bb,cJ];exact .d (hd _ _ (.fmap es b clock ents eD hb hl hk h))
  | di ks f b clock ents eD hb hl hk hc h=>simp only[bb,cJ];exact .d (hd _ _ (.di ks f b clock ents eD hb hl hk hc h))
  | jM ks f hz=>simp only[bb,cJ];exact .d (hd _ _ (.jM ks f hz))
  | gJ n ks f vs hl h=>simp only[bb,cJ];exact .d (hd _ _ (.gJ n ks f vs hl h))
  | gw t f b vs hb ht hf=>simp only[bb,cJ];exact .d (.gw t f b vs hb ht hf)
  | val v=>simp only[bb,cJ];exact .d (.val v)
  | int k n=>simp only[bb,cJ];exact .d (.int k n)
  | bool b=>simp only[bb,cJ];exact .d (.bool b)
  | str s=>simp only[bb,cJ];exact .d (.str s)
  | nil=>simp only[bb,cJ];exact .d .nil
  | bt=>simp only[bb,cJ];exact .d .bt
  | cN=>simp only[bb,cJ];exact .d .cN
  | bj t=>simp only[bb,cJ];exact .d (.bj t)
  | dz=>simp only[bb,cJ];exact .d .dz
  | fd t f b ht hf=>simp only[bb,cJ];exact .d (.fd t f b ht hf)
  | bz n v h=>simp only[bb,cJ];exact .d (.bz n v h)
  | empty fr sz n f p cap hn hc=>simp only[bb,cJ];exact .d (.empty fr sz n f p cap hn hc)
  | slc fr sz n f b o cap c hn hc hD hB hcell hlen hone hel=>simp only[bb,cJ];exact .d (hd _ _ (.slc fr sz n f b o cap c hn hc hD hB hcell hlen hone hel))
 induction h with
 | d h=>exact fun _=>hrd h
 | ptr o off b h=>
  intro hk;simp[AV.rI]at hk;simp only[bb,cJ];exact .ptr _ _ b (by rw[(hr o hk).1];exact h)
 | bG o n b h _=>
  intro hk;simp[AV.rI]at hk;simp only[bb,cJ];obtain⟨b',h1,h2⟩:=h.dF;cases h2;exact .bG _ _ b (.ptr _ _ b (by rw[(hr o hk).1];exact h1))
 | a8 fn o b h _=>
  intro hk;simp[AV.rI]at hk;simp only[bb,cJ];obtain⟨b',h1,h2⟩:=h.dF;cases h2;exact .a8 _ _ b (.ptr _ _ b (by rw[(hr o hk).1];exact h1))
 | ci o sz ver n i off v hs hi h=>
  intro hk;simp[AV.rI]at hk;simp only[bb,cJ];obtain⟨h1,h2⟩:=hr o hk;refine .ci _ _ _ _ _ _ _ hs hi (fun x t sz' aM n' f hH=>?_);obtain⟨kM,rfl,h3⟩:=h2 _ _ _ _ _ _ hH;obtain⟨g1,g2⟩:=h _ _ _ _ _ _ h3;exact⟨zo,fun e=>by rw[h1];exact g2 zo⟩
 | aJ o ver n v hs h=>
  intro hk;simp[AV.rI]at hk;simp only[bb,cJ];obtain⟨h1,h2⟩:=hr o hk;refine .aJ _ _ _ _ hs (fun x t sz' aM n' f hH=>?_);obtain⟨kM,rfl,h3⟩:=h2 _ _ _ _ _ _ hH;obtain⟨g1,g2⟩:=h _ _ _ _ _ _ h3;exact⟨zo,fun e=>by rw[h1];exact g2 zo⟩
 | agg cs vs hl _ ih=>
  intro hk;simp only[bb,cJ];obtain⟨h1,h2⟩:=hlist cs vs hl (by simpa[AV.rI]using hk) ih;exact .agg _ _ h1 h2
 | ag cs vs hl _ ih=>
  intro hk;simp only[bb,cJ];obtain⟨h1,h2⟩:=hlist cs vs hl (by simpa[AV.rI]using hk) ih;exact .ag _ _ h1 h2
 | func fn cs vs hl _ ih=>
  intro hk;simp only[bb,cJ];obtain⟨h1,h2⟩:=hlist cs vs hl (by simpa[AV.rI]using hk) ih;exact .func _ _ _ h1 h2
 | may g av v _ hu ih=>
  intro hk;simp only[bb,cJ];exact .may _ _ _ (fun e=>ih e (by simpa[AV.rI]using hk)) hu
def qW{ks ks':List Nat}(h:∀k∈ks,k∈ks')(cs:List AV):AV.rI ks cs=true->AV.rI ks' cs=true:=by
 induction cs using AV.rI.induct<;>simp_all[AV.rI]
def OY(cs:List AV):∃ks,AV.rI ks cs=true:=by
 have app:∀{a b:List AV} {k1 k2:List Nat},AV.rI k1 a=true->AV.rI k2 b=true->AV.rI (k1++k2) a=true∧AV.rI (k1++k2) b=true:=fun h1 h2=>
  ⟨qW (fun k hk=>xS _ hk) _ h1,qW (fun k hk=>Ba _ hk) _ h2⟩
 induction cs using AV.rI.induct with
 | case1=>exact⟨[],by simp[AV.rI]⟩
 | case2 o off r ih=>obtain⟨k,h⟩:=ih;exact⟨o::k,by simp[AV.rI,qW (fun x hx=>cH _ hx) _ h]⟩
 | case3 o a b c d e r ih=>obtain⟨k,h⟩:=ih;exact⟨o::k,by simp[AV.rI,qW (fun x hx=>cH _ hx) _ h]⟩
 | case4 o a b r ih=>obtain⟨k,h⟩:=ih;exact⟨o::k,by simp[AV.rI,qW (fun x hx=>cH _ hx) _ h]⟩
 | case5 o n r ih=>obtain⟨k,h⟩:=ih;exact⟨o::k,by simp[AV.rI,qW (fun x hx=>cH _ hx) _ h]⟩
 | case6 fn o r ih=>obtain⟨k,h⟩:=ih;exact⟨o::k,by simp[AV.rI,qW (fun x hx=>cH _ hx) _ h]⟩
 | case7 cs r ih1 ih2=>obtain⟨k1,h1⟩:=ih1;obtain⟨k2,h2⟩:=ih2;exact⟨k1++k2,by simp[AV.rI,app h1 h2]⟩
 | case8 cs r ih1 ih2=>obtain⟨k1,h1⟩:=ih1;obtain⟨k2,h2⟩:=ih2;exact⟨k1++k2,by simp[AV.rI,app h1 h2]⟩
 | case9 f cs r ih1 ih2=>obtain⟨k1,h1⟩:=ih1;obtain⟨k2,h2⟩:=ih2;exact⟨k1++k2,by simp[AV.rI,app h1 h2]⟩
 | case10 g v r ih1 ih2=>obtain⟨k1,h1⟩:=ih1;obtain⟨k2,h2⟩:=ih2;exact⟨k1++k2,by simp[AV.rI,app h1 h2]⟩
 | case11 v r h1 h2 h3 h4 h5 h6 h7 h8 h9 ih=>obtain⟨k,h⟩:=ih;exact⟨k,by simp[AV.rI,h]⟩
def CE(m:List (Nat×Nat))(c:AV):AV:=match m with
 | []=>c
 | m=>(bb (fun k=>(nameOf m k,0)) [c]).headD .any
def vO(m:List (Nat×Nat))(cs:List AV)(i:Nat):(pD m cs).length=cs.length∧(pD m cs)[i]? = (cs[i]?).map (CE m):=by
 cases m with
 | nil=>exact⟨rfl,by simp only[pD];cases cs[i]? <;> rfl⟩
 | cons p m=>exact⟨(iO _ cs i).1,(iO _ cs i).2⟩
def Hj{r:Nat->Nat×Nat}{c:AV}{t:Nat}(h:(bb r [c]).headD .any=.bj t):c=.bj t:=by
 cases c<;>simp[bb]at h ⊢;exact h
def OZ{m:List (Nat×Nat)}{c:AV}{t:Nat}(h:CE m c=.bj t):c=.bj t:=by
 cases m with
 | nil=>exact h
 | cons p m=>exact Hj h
def O0{base j:Nat}{c:AV}{t:Nat}(h:cp base j c=.bj t):c=.bj t:=by
 unfold cp at h;cases c<;>simp[aU]at h ⊢<;>(split at h<;>first|(cases h;done)|(cases h;rfl))
def O1{r:Nat->Nat×Nat}{cs:List AV}{ty:Nat}(h:kH cs ty):kH (bb r cs) ty:=fun t ht=>by
 rw[(iO r cs 0).2]at ht;cases hc:cs[0]? with
 | none=>rw[hc]at ht;simp at ht
 | some c=>
  rw[hc]at ht;simp only[eM,cB]at ht;exact h t (by rw[hc,Hj ht])
def O2{m:List (Nat×Nat)}{base:Nat}{cs:List AV}{ty:Nat}(h:kH cs ty):kH (pD m (aU base 0 cs).1) ty:=fun t ht=>by
 rw[(vO m _ 0).2,(kL base cs 0 0).2.1]at ht;cases hc:cs[0]? with
 | none=>rw[hc]at ht;simp at ht
 | some c=>
  rw[hc]at ht;simp only[eM,cB]at ht;exact h t (by rw[hc,O0 (OZ ht)])
def Hk{w:World}{D Dc:Nat->Prop}{B:Nat}{β βc:Nat->Value}{H Hc:Nat->AO}(hd:∀av v,RD w D B av v->RD w Dc B av v){av:AV}{v:Value}(h:RX w D B β H av v)(base j:Nat)(m:List (Nat×Nat))
 (hi:yK β (fun k=>βc (nameOf m k)) H (fun k=>Hc (nameOf m k)) (me base j av)):RX w Dc B βc Hc (CE m (cp base j av)) v:=by
 have h1:=OT hd h base j hi;cases m with
 | nil=>exact h1
 | cons p m=>
  obtain⟨ks,hks⟩:=OY [cp base j av];exact CD (r:=fun k=>(nameOf (p::m) k,0)) (ks:=ks) (fun _ _ q=>q) (fun k _=>⟨rfl,fun x t sz ver n f hf=>⟨ver,zsi,hf⟩⟩) h1 hks
theorem CF:∀(wo l:List (Nat×AO)) (_:(wo.map (·.1)).Nodup) (o:Nat),oL (gK l wo) o=if o∈wo.map (·.1)then oL wo o else oL l o
 | [],l,_,o=>by simp[gK]
 | (k,v)::r,l,hn,o=>by
  simp only[fZ,qJ]at hn;simp only[gK];rw[CF r _ hn.2 o,n8];by_cases h1:o∈r.map (·.1)
  ·have:k≠o:=by rintro rfl;exact hn.1 h1
   have h2:o∈(k,v).1::r.map (·.1):=cH _ h1;simp only[fZ];rw[ae h1,ae h2];simp[oL,this]
  ·by_cases h2:o=k
   ·subst h2;rw[aa h1,ae zsi];simp[oL,upd]
   ·rw[aa h1,aa (by simp only[fZ,bW,not_or];exact⟨h2,h1⟩)];simp[upd,h2]
theorem CG{α:Type}:∀{l:List α},l.Nodup->∀{i j:Nat} {x:α},l[i]? = some x->l[j]? = some x->i=j
 | [],_,i,j,x,h,_=>by simp at h
 | a::r,hn,0,0,x,_,_=>rfl
 | a::r,hn,0,j+1,x,h1,h2=>by
  simp at h1 h2;subst h1;exact absurd (je h2) (qJ.1 hn).1
 | a::r,hn,i+1,0,x,h1,h2=>by
  simp at h1 h2;subst h2;exact absurd (je h1) (qJ.1 hn).1
 | a::r,hn,i+1,j+1,x,h1,h2=>by
  have:=CG (qJ.1 hn).2 (i:=i) (j:=j) (x:=x) (by simpa using h1) (by simpa using h2);omega
def NR(ds:List Nat)(av:AV):Prop:=∀d∈ds,AV.nL d [av]=true
def RX.O3{w w':World}{D D':Nat->Prop}{B:Nat}{β β':Nat->Value}{H H':Nat->AO}{ds:List Nat}(hd:∀av v,RD w D B av v->RD w' D' B av v)
 (hp:∀o off v,o∉ds->RX w D B β H (.ptr o off) v->RX w' D' B β' H' (.ptr o off) v)
 (ha:∀o ver n v,o∉ds->RX w D B β H (.aJ o ver n) v->RX w' D' B β' H' (.aJ o ver n) v)
 (hq:∀o sz ver n i off v,o∉ds->RX w D B β H (.ci o sz ver n i off) v->RX w' D' B β' H' (.ci o sz ver n i off) v)
 {av:AV} {v:Value} (h:RX w D B β H av v):NR ds av->RX w' D' B β' H' av v:=by
 have hl:∀(cs:List AV),(∀d∈ds,AV.nL d cs=true)->∀(i:Nat) (av:AV),cs[i]? = some av->NR ds av:=fun cs hn i av hi d hd=>n9 (hn d hd) i av hi
 induction h with
 | d h=>exact fun _=>.d (hd _ _ h)
 | ptr o off b h=>exact fun hn=>hp _ _ _ (fun hm=>by simpa[AV.nL]using hn o hm) (.ptr o off b h)
 | ci o sz ver n i off v hs hi h=>exact fun hn=>hq _ _ _ _ _ _ _ (fun hm=>by simpa[AV.nL]using hn o hm) (.ci o sz ver n i off v hs hi h)
 | aJ o ver n v hs h=>exact fun hn=>ha _ _ _ _ (fun hm=>by simpa[AV.nL]using hn o hm) (.aJ o ver n v hs h)
 | bG o n b _ ih=>exact fun hn=>.bG o n b (ih (fun d hd=>by simpa[AV.nL]using hn d hd))
 | a8 fn o b _ ih=>exact fun hn=>.a8 fn o b (ih (fun d hd=>by simpa[AV.nL]using hn d hd))
 | agg cs vs hl' _ ih=>exact fun hn=>.agg cs vs hl' fun i av v h1 h2=>ih i av v h1 h2 (hl cs (fun d hd=>by simpa[AV.nL]using hn d hd) i av h1)
 | ag cs vs hl' _ ih=>exact fun hn=>.ag cs vs hl' fun i av v h1 h2=>ih i av v h1 h2 (hl cs (fun d hd=>by simpa[AV.nL]using hn d hd) i av h1)
 | func fn cs vs hl' _ ih=>exact fun hn=>.func fn cs vs hl' fun i av v h1 h2=>ih i av v h1 h2 (hl cs (fun d hd=>by simpa[AV.nL]using hn d hd) i av h1)
 | may g av v _ hu ih=>exact fun hn=>.may g av v (fun e=>ih e (fun d hd=>by simpa[AV.nL]using hn d hd)) hu
section
variable {P:Program}{E:Env}{S:AS}{a:Act}{w:World}{β:Nat->Value}{e:Eff}
def tH.is{l:List (Nat×Nat×Nat)}{p:Nat×Nat×Nat}{ob:AO}(h:tH S l p ob):(S.obj p.2.1).is∧ob.is:=by
 rcases h with⟨cs,_,h1,h2,_⟩|⟨x,t,sz,n,f,h1,h2⟩
 ·rw[h1,h2];exact⟨trivial,trivial⟩
 ·rw[h1,h2];exact⟨trivial,trivial⟩
def Hl(h:RelB E S.tmps S.obj a w β){aw:cL}{i d:Nat}{f:FuncId}{caps dA:List AV}{vs:Array Value}(hl:(dA++caps).length=vs.size)
 (hv:∀(j:Nat) (av:AV) (v:Value),(dA++caps)[j]? = some av->vs[j]? = some v->RX w (E.D w β S.obj) E.B β S.obj av v)
 (hy:aV S (vx aw i d (.func f caps) dA) e) (hn:∀k∈e.new,S.bK k=true) (ap:∀c,e.call=some c->Af P c.f c.args c.objs c.res c.au):
 u7 P f∧Calls P f vs w fun en w'=>∃v,en=.returned v∧After E S a e v w':=by
 unfold vx at hy;split at hy
 ·rename_i f' Zh res au tI _;simp only[AV.func.injEq]at tI;obtain⟨rfl,rfl⟩:=tI;simp only at hy;split at hy
  ·exact hy.fail.elim
  rename_i hok;have hok:pC [] (sameAs [] (aU 1000 0 (dA++caps)).2) (aU 1000 0 (dA++caps)).2=true:=by simpa using hok
  obtain⟨l,objs,hy,hkeys,hgo,O4⟩:=OU _ _ _ _ hy (fun q hq=>by cases hq);simp only[uS]at hgo;generalize hms:sameAs [] (aU 1000 0 (dA++caps)).2=ms at hy hok;have hall:∀q∈(aU 1000 0 (dA++caps)).2,∃v,(nameOf ms q.1,q.2.1,v)∈l∧∀x t sz ver n f,S.obj q.2.1=.arr x t sz ver n f->ver=q.2.2:=fun q hq=>by
   rcases yL hok q hq with h1|h1
   ·cases h1
   ·exact O4 _ h1
  obtain⟨Hm,hy⟩:=yI hy;have:=hy.ret;subst this;simp only[Gw,az]at Hm;obtain⟨⟨⟨⟨⟨⟨hc1,hc2⟩,hc3⟩,hc4⟩,O5⟩,hc6⟩,O6⟩:=Hm;rw[Hh]at hc1 hc2 hc3 hc4;have ap:=ap _ rfl;simp only at ap hn;generalize hr:lw l d=r at hn hc4 ⊢;have hrm:∀k b v,(k,b,v)∈l->r k=(b,v):=fun k b v hm=>by rw[<- hr];exact OV hc2 hm
  have hrn:∀k,k∉l.map (·.1)->r k=(10000*(d+1)+k,0):=fun k hk=>by rw[<- hr];exact OW hk
  have O7:(objs.map (·.1)).Nodup:=by rw[hkeys];exact hc2
  have hlen:objs.length=l.length:=by have:=ak List.length hkeys;simpa using this
  have kO:∀p∈l,tH S l p (oL objs p.1):=by
   intro p hp;obtain⟨j,hj⟩:=pf hp;have hjl:j<objs.length:=by rw[hlen];exact(bX.1 hj).1
   have hq:objs[j]? = some objs[j]:=bf hjl;have hk1:objs[j].1=p.1:=by
    have h1:(objs.map (·.1))[j]? = (l.map (·.1))[j]? := by rw[hkeys]
    simp only[gC,hq,hj,eM,cB]at h1;exact h1
   have:=hgo j p _ hj hq;have hm:oL objs p.1=objs[j].2:=CB O7 (by rw[<- hk1];exact d9 hjl);rw[hm];exact this
  have lz:∀k,(oL objs k).is->∃p∈l,p.1=k:=by
   intro k hk;have:=yM hk;have hm:k∈objs.map (·.1):=gG.2 ⟨_,this,rfl⟩;rw[hkeys]at hm;obtain⟨p,hp,hpk⟩:=gG.1 hm;exact⟨p,hp,hpk⟩
  let Ec:Env:={
   w0:=w
   B:=E.B
   D0:=E.D w β S.obj
   X:=fun b=>∃p∈l,bi (β p.2.1)=some b
   pin:=fun _=>none
   cC:=fun o p h=>by cases h
   Y:=fun _=>False
   df:=[]
   hB:=aG E.hB h.frame.size
   hD:=fun b hb=>⟨hb.lt,fun⟨p,hp,hpb⟩=>hb.2.2 _ (kO p hp).is.1 hpb⟩
   hX:=fun b ⟨p,hp,hpb⟩=>((h.objs p.2.1).lt hpb (kO p hp).is.1).1
   hY:=fun b h=>h.elim
   hdf:=fun d h=>by cases h
   jN:=.nil
   hT:=h.tab
   dW:=fun b hb=>h.ip (E.dW b hb) }
  let βc:Nat->Value:=fun k=>β (r k).1
  have lA:∀p∈l,βc p.1=β p.2.1:=fun p hp=>by show β (r p.1).1=_;rw[hrm p.1 p.2.1 p.2.2 hp]
  have vP:∀b,Ec.X b->E.own b:=fun b ⟨p,hp,hpb⟩=>((h.objs p.2.1).lt hpb (kO p hp).is.1).2
  have O8:∀b,E.D w β S.obj b->Ec.D w βc (oL objs) b:=fun b hb=>⟨.inl hb,hb.lt,fun k hk hkb=>by
   obtain⟨p,hp,rfl⟩:=lz k hk;rw[lA p hp]at hkb;exact hb.2.2 _ (kO p hp).is.1 hkb⟩
  have CH:∀av v,RD w (E.D w β S.obj) E.B av v->RD w (Ec.D w βc (oL objs)) E.B av v:=fun av v hrd=>hrd.mono (fun _ _=>rfl) O8 (ao _);have CI:∀(m:List (Nat×Nat)) (ids:List (Nat×Nat×Nat)),(∀q∈ids,∃v,(nameOf m q.1,q.2.1,v)∈l∧∀x t sz ver n f,S.obj q.2.1=.arr x t sz ver n f->ver=q.2.2)->yK β (fun k=>βc (nameOf m k)) S.obj (fun k=>oL objs (nameOf m k)) ids:=by
   intro m ids hq k o ver hm;obtain⟨v,g1,g2⟩:=hq _ hm;refine⟨lA _ g1,fun x t sz kM n f hH=>?_⟩;have hH:oL objs (nameOf m k)=.arr x t sz kM n f:=hH;rcases kO _ g1 with⟨cs,_,h1,h2,_⟩|⟨x1,t1,oa,n1,f1,h1,h2⟩
   ·simp only at h2;rw[h2]at hH;cases hH
   ·simp only at h1 h2;rw[h2]at hH;cases hH;have:=g2 _ _ _ _ _ _ h1;exact⟨rfl,by simp only at this;rw[<- this];exact h1⟩
  have Zi:∀(ids:List (Nat×Nat×Nat)),(∀q∈ids,∃v,(q.1,q.2.1,v)∈l∧∀x t sz ver n f,S.obj q.2.1=.arr x t sz ver n f->ver=q.2.2)->yK β βc S.obj (oL objs) ids:=fun ids hq=>CI [] ids hq;have O9:RelB Ec (pD ms (aU 1000 0 (dA++caps)).1) (oL objs) ⟨vs,[]⟩ w βc:=by
   refine⟨rfl,by simp only;rw[<- hl,(vO ms _ 0).1,(kL 1000 (dA++caps) 0 0).1],fun t av ht=>?_,fun k=>?_,fun k k' b hne h1 h2 h3 h4=>?_,⟨rfl,rfl,rfl,ao _,fun _ _ _=>rfl⟩,fun o v n0 hp=>by cases hp⟩
   ·obtain⟨g1,g2,g3⟩:=kL 1000 (dA++caps) 0 t;rw[(vO ms _ t).2,g2]at ht;cases hc:(dA++caps)[t]? with
    | none=>rw[hc]at ht;simp at ht
    | some c=>
     rw[hc]at ht;simp only[eM,cB,eC]at ht g3;subst ht;have htl:t<vs.size:=by rw[<- hl];exact(bX.1 hc).1
     have hx:=hv t c (vs.getD t undef) hc (by simp[Array.getD,htl]);exact Hk CH hx 1000 t ms (CI ms _ fun q hq=>hall q (g3 c hc q hq))
   ·by_cases hk:(oL objs k).is
    ·obtain⟨p,hp,rfl⟩:=lz k hk;have ho:=h.objs p.2.1;rcases kO p hp with⟨cs,m,h1,h2,h3⟩|⟨x1,t1,oa,n1,f1,h1,h2⟩
     ·rw[h1]at ho;rw[h2];obtain⟨b,us,ty,q1,q2,q3,q4,q5,q6⟩:=ho;refine⟨b,us,ty,by rw[lA p hp,q1],q2,.inl ⟨p,hp,by rw[q1];rfl⟩,by rw[(vO m _ 0).1,(kL _ cs 0 0).1];exact q4,fun j av u hj hu=>?_,O2 q6⟩;obtain⟨g1,g2,g3⟩:=kL (jK p.1) cs 0 j;rw[(vO m _ j).2,g2]at hj;cases hc:cs[j]? with
      | none=>rw[hc]at hj;simp at hj
      | some c=>
       rw[hc]at hj;simp only[eM,cB,eC]at hj g3;subst hj;exact Hk CH (q5 j c u hc hu) _ j m (CI m _ fun q hq=>h3 q (g3 c hc q hq))
     ·rw[h1]at ho;rw[h2];rcases ho with⟨q1,q2⟩|⟨g,cap,cur,q1,q2,q3,q4,q5,q6,q7,q8⟩
      ·exact .inl ⟨by rw[lA p hp,q1],q2⟩
      ·exact .inr ⟨g,cap,cur,by rw[lA p hp,q1],q2,q3,q4,q5,q6,.inl ⟨p,hp,by rw[q1];rfl⟩,fun j hj=>let ⟨s1,s2,s3⟩:=q8 j hj;⟨s1,s2,fun m av u hm hu=>CH _ _ (s3 m av u hm hu)⟩⟩
    ·cases hq:oL objs k with
     | none=>trivial
     | box cs=>rw[hq]at hk;exact(hk trivial).elim
     | arr x t sz ver n f=>rw[hq]at hk;exact(hk trivial).elim
     | it ks f seen pend=>rw[hq]at hk;exact(hk trivial).elim
   ·obtain⟨p,hp,rfl⟩:=lz k h1;obtain⟨p',hp',rfl⟩:=lz k' h2;rw[lA p hp]at h3;rw[lA p' hp']at h4;refine h.apart p.2.1 p'.2.1 b (fun e=>hne ?_) (kO p hp).is.1 (kO p' hp').is.1 h3 h4;obtain⟨j,hj⟩:=pf hp;obtain⟨j',hj'⟩:=pf hp';have e1:(l.map (·.2.1))[j]? = some p.2.1:=by simp[hj]
    have e2:(l.map (·.2.1))[j']? = some p'.2.1:=by simp[hj']
    have:j=j':=CG hc1 e1 (by rw[e2,e]);subst this;rw[hj]at hj';cases hj';rfl
  refine⟨ap.ent,(ap.calls Ec βc vs (fun _=>rfl) rfl (fun _ h=>h) O9).mono ?_⟩;rintro en w' ⟨v,β2,rfl,hx,qX⟩;refine⟨v,rfl,?_⟩;have hks:∀k,(oL au k).is->k∈au.map (·.1):=fun k hk=>gG.2 ⟨_,yM hk,rfl⟩;have CJ:∀p∈l,p.1∈au.map (·.1):=fun p hp=>by simpa using cI.1 O5 p hp
  let β':Nat->Value:=fun o=>match(au.map (·.1)).find? (fun k=>(r k).1==o)with|some k=>β2 k|none=>β o
  have pJ:∀k∈au.map (·.1),β' (r k).1=β2 k:=by
   intro k hk;have:(au.map (·.1)).find? (fun k'=>(r k').1==(r k).1)=some k:=by
    cases hf:(au.map (·.1)).find? (fun k'=>(r k').1==(r k).1)with
    | none=>have:=Ft.1 hf k hk;simp at this
    | some k'=>
     have h1:=List.find?_some hf;have h2:=List.mem_of_find?_eq_some hf;simp at h1;obtain⟨j,hj⟩:=pf hk;obtain⟨j',hj'⟩:=pf h2;have e1:((au.map (·.1)).map fun k=>(r k).1)[j]? = some (r k).1:=by rw[gC,hj];rfl
     have e2:((au.map (·.1)).map fun k=>(r k).1)[j']? = some (r k).1:=by rw[gC,hj',<- h1];rfl
     have:=CG hc4 e1 e2;subst this;rw[hj]at hj';exact hj'.symm
   show(match(au.map (·.1)).find? (fun k'=>(r k').1==(r k).1)with|some k=>β2 k|none=>β (r k).1)=_;rw[this]
  have ng:∀o,(∀k∈au.map (·.1),(r k).1≠o)->β' o=β o:=by
   intro o ho;have:(au.map (·.1)).find? (fun k'=>(r k').1==o)=none:=Ft.2 fun k hk=>by simpa using ho k hk
   show(match(au.map (·.1)).find? (fun k'=>(r k').1==o)with|some k=>β2 k|none=>β o)=_;rw[this]
  generalize hwo:au.map (fun p=>((r p.1).1,tg r p.1 p.2))=wo;have Hn:wo.map (·.1)=(au.map (·.1)).map fun k=>(r k).1:=by rw[<- hwo];simp
  have CK:(wo.map (·.1)).Nodup:=by rw[Hn];exact hc4
  have hHk:∀k∈au.map (·.1),fJ S wo (r k).1=tg r k (oL au k):=by
   intro k hk;obtain⟨p,hp,rfl⟩:=gG.1 hk;have hm:((r p.1).1,tg r p.1 p.2)∈wo:=by rw[<- hwo];exact gG.2 ⟨p,hp,rfl⟩
   unfold fJ;rw[CF _ _ CK,ae (gG.2 ⟨_,hm,rfl⟩),CB CK hm,CB hc3 (show(p.1,p.2)∈au from hp)]
  have od:∀o,(∀k∈au.map (·.1),(r k).1≠o)->fJ S wo o=S.obj o:=by
   intro o ho;unfold fJ;rw[CF _ _ CK,aa]
   ·rfl
   ·rw[Hn];intro hm;obtain⟨k,hk,hko⟩:=gG.1 hm;exact ho k hk hko
  have hcase:∀o,(∃k∈au.map (·.1),(r k).1=o)∨(∀k∈au.map (·.1),(r k).1≠o):=by
   intro o;by_cases hq:∃k∈au.map (·.1),(r k).1=o
   ·exact .inl hq
   ·exact .inr fun k hk hko=>hq ⟨k,hk,hko⟩
  have tJ:∀k,(tg r k (oL au k)).is->(oL au k).is:=by
   intro k hk;cases hq:oL au k with
   | none=>rw[hq]at hk;exact hk
   | box cs=>trivial
   | arr x t sz ver n f=>trivial
   | it ks f seen pend=>trivial
  have Zj:Ec.N=w.heap.size:=rfl;have hsize:w.heap.size<=w'.heap.size:=hx.frame.size;have hnew:∀k∈au.map (·.1),(∃p∈l,p.1=k)∨S.bK (r k).1=true:=by
   intro k hk;by_cases hq:∃p∈l,p.1=k
   ·exact .inl hq
   ·refine .inr (hn _ (gG.2 ⟨k,?_,rfl⟩));unfold yt;rw[xT];refine⟨hk,?_⟩;simp only[ij,List.any_eq_false,dv];exact fun p hp hpk=>hq ⟨p,hp,hpk⟩
  have CL:∀k b,(oL au k).is->bi (β2 k)=some b->Ec.X b∨w.heap.size<=b:=fun k b hk hb=>((hx.objs k).lt hb hk).2;have hold:∀o b,(∀k∈au.map (·.1),(r k).1≠o)->(S.obj o).is->bi (β o)=some b->b<w.heap.size∧¬Ec.X b:=by
   intro o b ho hi hb;refine⟨((h.objs o).lt hb hi).1,fun⟨p,hp,hpb⟩=>?_⟩;have hpo:p.2.1≠o:=by
    have:=ho p.1 (CJ p hp);rw[hrm p.1 p.2.1 p.2.2 hp]at this;exact this
   exact h.apart p.2.1 o b hpo (kO p hp).is.1 hi hpb hb
  have hD1:∀b,E.D w β S.obj b->E.D w' β' (fJ S wo) b:=by
   intro b hb;refine⟨hb.1,cf hb.lt hsize,fun o hi nh=>?_⟩;rcases hcase o with⟨k,hk,rfl⟩|ho
   ·rw[pJ k hk]at nh;rw[hHk k hk]at hi;rcases CL k b (tJ k hi) nh with hX|hX
    ·exact(Ec.hD b hb).2 hX
    ·have:=hb.lt;omega
   ·rw[ng o ho]at nh;rw[od o ho]at hi;exact hb.2.2 o hi nh
  have hD2:∀b,Ec.D w' β2 (oL au) b->E.D w' β' (fJ S wo) b:=by
   intro b hb;refine⟨?_,hb.2.1,fun o hi nh=>?_⟩
   ·rcases hb.1 with h1|h1|h1
    ·exact h1.1
    ·rcases vP b h1 with h2|h2
     ·exact .inr (.inl h2)
     ·exact .inr (.inr h2)
    ·exact .inr (.inr (aG h.frame.size h1))
   ·rcases hcase o with⟨k,hk,rfl⟩|ho
    ·rw[pJ k hk]at nh;rw[hHk k hk]at hi;exact hb.2.2 k (tJ k hi) nh
    ·rw[ng o ho]at nh;rw[od o ho]at hi;obtain⟨h1,h2⟩:=hold o b ho hi nh;rcases hb.1 with h3|h3|h3
     ·exact h3.2.2 o hi nh
     ·exact h2 h3
     ·have:w.heap.size<=b:=h3;omega
  have hheap:∀b,b<w.heap.size->¬Ec.X b->w'.heap[b]? = w.heap[b]? := fun b hb hX=>hx.frame.block b hb hX;have Ho:∀av v,RD w (E.D w β S.obj) E.B av v->RD w' (E.D w' β' (fJ S wo)) E.B av v:=fun av v hrd=>hrd.mono (fun b hb=>hheap b hb.lt (Ec.hD b hb).2) hD1 (ao _);have yN:∀av v,RD w' (Ec.D w' β2 (oL au)) E.B av v->RD w' (E.D w' β' (fJ S wo)) E.B av v:=fun av v hrd=>hrd.mono (fun _ _=>rfl) hD2 (ao _);have Hp:∀k∈au.map (·.1),β' (r k).1=β2 k∧∀x t sz ver n f,fJ S wo (r k).1=.arr x t sz ver n f->∃kM,ver=(r k).2+kM∧oL au k=.arr x t sz kM n f:=by
   intro k hk;refine⟨pJ k hk,fun x t sz ver n f hH=>?_⟩;rw[hHk k hk]at hH;cases hq:oL au k with
   | none=>rw[hq]at hH;cases hH
   | box cs=>rw[hq]at hH;cases hH
   | it ks f seen pend=>rw[hq]at hH;cases hH
   | arr x1 t1 oa yE n1 f1=>rw[hq]at hH;cases hH;exact⟨yE,rfl,rfl⟩
  let ds:=(yt l (au.map (·.1))).map fun k=>(r k).1
  have yO:∀o,(∃k∈au.map (·.1),(r k).1=o)->o∉ds->∃p∈l,p.2.1=o:=by
   rintro o ⟨k,hk,rfl⟩ hnd;by_cases hq:∃p∈l,p.1=k
   ·obtain⟨p,hp,rfl⟩:=hq;exact⟨p,hp,by rw[hrm p.1 p.2.1 p.2.2 hp]⟩
   ·exfalso;refine hnd (gG.2 ⟨k,?_,rfl⟩);unfold yt;rw[xT];refine⟨hk,?_⟩;simp only[ij,List.any_eq_false,dv];exact fun p hp hpk=>hq ⟨p,hp,hpk⟩
  have hbk:∀p∈l,β' p.2.1=β2 p.1∧fJ S wo p.2.1=tg r p.1 (oL au p.1)∧(r p.1).2=p.2.2:=fun p hp=>by
   have h1:=hrm p.1 p.2.1 p.2.2 hp;have h2:=pJ p.1 (CJ p hp);have h3:=hHk p.1 (CJ p hp);rw[h1]at h2 h3;exact⟨h2,h3,by rw[h1]⟩
  have hrx:∀av u,RX w (E.D w β S.obj) E.B β S.obj av u->NR ds av->RX w' (E.D w' β' (fJ S wo)) E.B β' (fJ S wo) av u:=by
   intro av u hr0;refine hr0.O3 Ho (fun o off v hnd hpx=>?_) (fun o ver n v hnd hpx=>?_) (fun o sz ver n i off v hnd hpx=>?_)
   ·obtain⟨b,h1,rfl⟩:=hpx.dF;clear hpx;refine .ptr _ _ b ?_;rcases hcase o with hk|ho
    ·obtain⟨p,hp,rfl⟩:=yO o hk hnd;rcases kO p hp with⟨cs,_,q1,q2,_⟩|⟨x1,t1,oa,n1,f1,q1,q2⟩
     ·have:=((qX p.1 (by rw[q2];trivial)).2.1 _ q2).2;rw[(hbk p hp).1,this,lA p hp,h1]
     ·have ho:=h.objs p.2.1;rw[q1]at ho;rcases ho with⟨g1,_⟩|⟨g,cap,cur,g1,_⟩
      ·rw[g1]at h1;cases h1
      ·rw[g1]at h1;cases h1
    ·rw[ng o ho];exact h1
   ·obtain⟨hs,h1⟩:=hpx.aI;clear hpx;refine .aJ _ _ _ _ hs (fun x t sz' aM n' f hH=>?_);rcases hcase o with hk|ho
    ·obtain⟨p,hp,rfl⟩:=yO o hk hnd;obtain⟨g1,g2,g3⟩:=hbk p hp;rw[g2]at hH;rcases kO p hp with⟨cs,_,q1,q2,_⟩|⟨x1,t1,oa,n1,f1,q1,q2⟩
     ·obtain⟨cs',hcs'⟩:=((qX p.1 (by rw[q2];trivial)).2.1 _ q2).1;rw[hcs']at hH;cases hH
     ·obtain⟨nd,n2,f2,hv2,hcs2⟩:=(qX p.1 (by rw[q2];trivial)).2.2 _ _ _ _ _ _ q2;rw[hv2]at hH;cases hH;obtain⟨r1,r2⟩:=h1 _ _ _ _ _ _ q1;rw[g3,g1];rcases hcs2 with⟨rfl,hnn,hbb⟩|hlt
      ·exact⟨zo,fun e=>by rw[hnn,hbb,lA p hp];exact r2 zo⟩
      ·exact⟨zo,fun e=>zo⟩
    ·rw[od o ho]at hH;rw[ng o ho];exact h1 _ _ _ _ _ _ hH
   ·obtain⟨hs,hi,h1⟩:=hpx.jk;clear hpx;refine .ci _ _ _ _ _ _ _ hs hi (fun x t sz' aM n' f hH=>?_);rcases hcase o with hk|ho
    ·obtain⟨p,hp,rfl⟩:=yO o hk hnd;obtain⟨g1,g2,g3⟩:=hbk p hp;rw[g2]at hH;rcases kO p hp with⟨cs,_,q1,q2,_⟩|⟨x1,t1,oa,n1,f1,q1,q2⟩
     ·obtain⟨cs',hcs'⟩:=((qX p.1 (by rw[q2];trivial)).2.1 _ q2).1;rw[hcs']at hH;cases hH
     ·obtain⟨nd,n2,f2,hv2,hcs2⟩:=(qX p.1 (by rw[q2];trivial)).2.2 _ _ _ _ _ _ q2;rw[hv2]at hH;cases hH;obtain⟨r1,r2⟩:=h1 _ _ _ _ _ _ q1;rw[g3,g1];rcases hcs2 with⟨rfl,hnn,hbb⟩|hlt
      ·exact⟨zo,fun e=>by rw[hnn,hbb,lA p hp];exact r2 zo⟩
      ·exact⟨zo,fun e=>zo⟩
    ·rw[od o ho]at hH;rw[ng o ho];exact h1 _ _ _ _ _ _ hH
  have CM:∀d∈ds,S.bK d=true:=hn;have Pa:∀k,AO.rI (au.map (·.1)) (oL au k)=true:=by
   intro k;by_cases hk:(oL au k).is
   ·exact cI.1 O6 _ (yM hk)
   ·cases hq:oL au k with
    | none=>rfl
    | box cs=>rw[hq]at hk;exact(hk trivial).elim
    | arr x t sz ver n f=>rfl
    | it ks f seen pend=>rfl
  refine⟨β',⟨h.defers,h.size,fun t av ht=>?_,fun o=>?_,fun o o' b hne h1 h2 h3 h4=>?_,?_,fun o u n0 hp=>?_⟩,?_⟩
  ·refine hrx _ _ (h.tmps t av ht) (fun d hd=>?_);have:=CM d hd;simp only[AS.bK,az]at this;exact n9 this.1.1 t av ht
  ·rcases hcase o with⟨k,hk,rfl⟩|ho
   ·have hox:=hx.objs k;have hb:=pJ k hk;rw[hHk k hk];cases hq:oL au k with
    | none=>trivial
    | box cs=>
     rw[hq]at hox;obtain⟨b,us,ty,q1,q2,q3,q4,q5,q6⟩:=hox;refine⟨b,us,ty,by rw[hb,q1],q2,?_,by rw[(iO r cs 0).1];exact q4,fun j av u hj hu=>?_,O1 q6⟩
     ·rcases q3 with h1|h1
      ·exact vP b h1
      ·exact .inr (aG h.frame.size h1)
     ·rw[(iO r cs j).2]at hj;cases hc:cs[j]? with
      | none=>rw[hc]at hj;simp at hj
      | some c=>
       rw[hc]at hj;simp only[eM,cB]at hj;subst hj;have:=Pa k;rw[hq]at this;exact CD yN Hp (q5 j c u hc hu) (CC this j c hc)
    | it ks f seen pend=>
     rw[hq]at hox;obtain⟨b,mb,sa,q1,q2,q3,q4,q5⟩:=hox;refine⟨b,mb,sa,by rw[hb,q1],q2,?_,q4.imp id fun⟨m,w1,w2⟩=>⟨m,w1,yN _ _ w2⟩,q5⟩;rcases q3 with h1|h1
     ·exact vP b h1
     ·exact .inr (aG h.frame.size h1)
    | arr x t sz ver n f=>
     rw[hq]at hox;rcases hox with⟨q1,q2⟩|⟨g,cap,cur,q1,q2,q3,q4,q5,q6,q7,q8⟩
     ·exact .inl ⟨by rw[hb,q1],q2⟩
     ·refine .inr ⟨g,cap,cur,by rw[hb,q1],q2,q3,q4,q5,q6,?_,fun j hj=>let ⟨s1,s2,s3⟩:=q8 j hj;⟨s1,s2,fun m av u hm hu=>yN _ _ (s3 m av u hm hu)⟩⟩;rcases q7 with h1|h1
      ·exact vP g h1
      ·exact .inr (aG h.frame.size h1)
   ·rw[od o ho];have nb:=h.objs o;by_cases hi:(S.obj o).is
    ·refine nb.mono (ng o ho) (fun b hb=>let ⟨h1,h2⟩:=hold o b ho hi hb;hheap b h1 h2) (fun cs hcs j av u hc hr0=>hrx av u hr0 (fun d hd=>?_)) Ho;have hno:=G0 (CM d hd) o;rw[hcs]at hno;exact n9 hno j av hc
    ·cases hq:S.obj o with
     | none=>trivial
     | box cs=>rw[hq]at hi;exact(hi trivial).elim
     | arr x t sz ver n f=>rw[hq]at hi;exact(hi trivial).elim
     | it ks f seen pend=>rw[hq]at hi;exact(hi trivial).elim
  ·rcases hcase o with⟨k,hk,rfl⟩|ho
   ·rw[hHk k hk]at h1;rw[pJ k hk]at h3;rcases hcase o' with⟨k',hk',rfl⟩|ho'
    ·rw[hHk k' hk']at h2;rw[pJ k' hk']at h4;exact hx.apart k k' b (fun e=>hne (by rw[e])) (tJ k h1) (tJ k' h2) h3 h4
    ·rw[od o' ho']at h2;rw[ng o' ho']at h4;obtain⟨g1,g2⟩:=hold o' b ho' h2 h4;rcases CL k b (tJ k h1) h3 with g3|g3
     ·exact g2 g3
     ·omega
   ·rw[od o ho]at h1;rw[ng o ho]at h3;obtain⟨g1,g2⟩:=hold o b ho h1 h3;rcases hcase o' with⟨k',hk',rfl⟩|ho'
    ·rw[hHk k' hk']at h2;rw[pJ k' hk']at h4;rcases CL k' b (tJ k' h2) h4 with g3|g3
     ·exact g2 g3
     ·omega
    ·rw[od o' ho']at h2;rw[ng o' ho']at h4;exact h.apart o o' b hne h1 h2 h3 h4
  ·refine⟨hx.frame.os.trans h.frame.os,hx.frame.tape.trans h.frame.tape,hx.frame.output.trans h.frame.output,aG h.frame.size hsize,fun b hb hX=>?_⟩;rw[hheap b (cf hb h.frame.size) (fun hq=>?_)]
   ·exact h.frame.block b hb hX
   ·rcases vP b hq with h1|h1
    ·exact hX h1
    ·omega
  ·obtain⟨p1,p2⟩:=h.pin o u n0 hp;rcases hcase o with hk|ho
   ·have hnd:o∉ds:=by
     intro hm;have:=CM o hm;simp only[AS.bK,az]at this;have h2:=E.cC o _ hp;rw[h2]at this;simp at this
    obtain⟨p,hpl,rfl⟩:=yO o hk hnd;obtain⟨g1,g2,g3⟩:=hbk p hpl;rcases kO p hpl with⟨cs,_,q1,q2,_⟩|⟨x1,t1,oa,n1,f1,q1,q2⟩
    ·have hl2:=(qX p.1 (by rw[q2];trivial)).2.1 _ q2;obtain⟨⟨cs',hcs'⟩,hbb⟩:=hl2;refine⟨fun cs2 _=>by rw[g1,hbb,lA p hpl];exact p1 cs q1,fun x t sz ver n f hf=>by rw[g2,hcs']at hf;cases hf⟩
    ·obtain⟨nd,n2,f2,hv2,hcs2⟩:=(qX p.1 (by rw[q2];trivial)).2.2 _ _ _ _ _ _ q2;refine⟨(fun cs2 hf=>by rw[g2,hv2]at hf;cases hf),fun x t sz ver n f hf hv0=>?_⟩;rw[g2,hv2]at hf;cases hf;rw[g3]at hv0;rcases hcs2 with⟨_,hnn,hbb⟩|hlt
     ·obtain⟨r1,r2⟩:=p2 _ _ _ _ _ _ q1 zo;exact⟨by rw[g1,hbb,lA p hpl];exact r1,by rw[hnn];exact r2⟩
     ·omega
   ·rw[ng o ho,od o ho];exact⟨p1,p2⟩
  ·exact CD yN Hp (hx.tmps 0 res rfl) hc6
 ·exact hy.fail.elim
end
end Go.Ai

namespace Go.Ai
open Go Go.Proofs
section
variable {P:Program}{E:Env}{S:AS}{a:Act}{w:World}{β:Nat->Value}{o:Oper}{e:Eff}{ti:TI}{t:Nat}{T:List (Nat×TI)}
def World.lB(w:World)(b:Nat)(o:Obj):World:={ w with heap:=w.heap.setIfInBounds b o }
def Pb{w:World}{b:Nat}(o:Obj)(h:b<w.heap.size):(World.lB w b o).heap[b]? = some o:=by
 unfold World.lB;simp[h]
def Pc{w:World}{b k:Nat}(o:Obj)(h:k≠b):(World.lB w b o).heap[k]? = w.heap[k]? := by
 unfold World.lB;simp[Array.getElem?_setIfInBounds,qI h]
def Pd{w:World}{b:Nat}(o:Obj):(World.lB w b o).heap.size=w.heap.size:=by
 unfold World.lB;simp
def Pe(w:World)(ty:TypeId)(b bm:Nat)(seen:Array Nat)(es:Array MapEntry)(hi:w.heap[b]? = some (.mapIter (some bm) es.size seen es.size))(hb:w.heap[bm]? = some (.map es es.size))(hs:∀(i:Nat) (e:MapEntry),es[i]? = some e->e.born=i):
 ((∀i,i<es.size->i∈seen.toList)∧(Instr.next (.pointer (some ⟨b,0,none⟩)) false ty).run P w=.ok (.tuple #[.bool false]) w) ∨
 ∃i,i<es.size∧i∉seen.toList∧∃(k v:Value) (w1:World),w1.heap=w.heap∧w1.os=w.os∧w1.tape=w.tape∧w1.output=w.output ∧
  (Instr.next (.pointer (some ⟨b,0,none⟩)) false ty).run P w=.ok (.tuple #[.bool true,k,v]) (World.lB w1 b (.mapIter (some bm) es.size (seen.push i) es.size)):=by
 have hborn:∀x∈es.toList,x.born<es.size:=fun x hx=>by
  obtain⟨i,hi,rfl⟩:=sD hx;have h1:i<es.size:=by simpa using hi
  rw[hs i (es.toList[i]) (by rw[<- qw,bf hi])];exact h1
 have ht:=next_test_false seen es es.size es.size hborn (ao _);simp only[Instr.next,getObj,ec,Sem.run,hi,hb,Result.andThen,ht,jc,dg];have hmem:∀x∈(Array.filter (fun e=>!seen.contains e.born) es).toList,x.born<es.size∧x.born∉seen.toList:=fun x hx=>by
  simp only[Array.toList_filter,xT,ij,Array.mem_toList_iff]at hx;refine⟨hborn x (by simpa using hx.1),fun hm=>?_⟩;have:=hx.2;simp at this;exact this (by simpa using hm)
 have hall:∀i,i<es.size->i∉seen.toList->∃x,x∈(Array.filter (fun e=>!seen.contains e.born) es).toList:=fun i hi hn=>by
  refine⟨es[i],?_⟩;have hbi:=hs i es[i] (dC hi);simp[hbi];simpa using hn
 generalize Array.filter (fun e=>!seen.contains e.born) es=L at hmem hall ⊢;have e1:L.filter (fun x=>decide (x.born<es.size))=L:=Array.filter_eq_self.2 (fun x hx=>by simpa using(hmem x (by simpa using hx)).1);have e2:L.filter (fun x=>decide (x.born≥es.size))=#[]:=by
  rw[Array.filter_eq_empty_iff];intro x hx;have:=(hmem x (by simpa using hx)).1;simp;omega
 simp only[e1,e2,Array.append_empty];by_cases h0:L.size=0
 ·left;have:L=#[]:=sC h0;subst this;refine⟨fun i hi=>fp fun hn=>?_,?_⟩
  ·obtain⟨x,hx⟩:=hall i hi hn;simp at hx
  ·simp[choose,Sem.run,Question.forced]
 ·right;have hne:L.isEmpty=false:=by simp[Array.isEmpty,h0]
  simp only[hne,jc,dg,Fx,Array.size_map];have hch:∃(j:Nat) (w1:World),j<L.size∧w1.heap=w.heap∧w1.os=w.os∧w1.tape=w.tape∧w1.output=w.output∧(choose (Question.mapNext L.size)).run P w=.ok j w1:=by
   by_cases hf:L.size<=1
   ·exact⟨0,w,zo,rfl,rfl,rfl,rfl,by simp[choose,Sem.run,Question.forced,hf]⟩
   ·exact⟨_,w.drew,xQ _ zo,rfl,rfl,rfl,rfl,by
     simp only[choose,Sem.run,Question.forced,cX,hf,dg,Question.cut];rfl⟩
  obtain⟨j,w1,hj,q1,q2,q3,q4,hrun⟩:=hch;obtain⟨m1,m2⟩:=hmem L[j] zsi;refine⟨L[j].born,m1,m2,L[j].key,L[j].val,w1,q1,q2,q3,q4,?_⟩;have hset:(setObj b (.mapIter (some bm) es.size (seen.push L[j].born) es.size)).run P w1=.ok () (World.lB w1 b (.mapIter (some bm) es.size (seen.push L[j].born) es.size)):=by
   have hi1:w1.heap[b]? = some (.mapIter (some bm) es.size seen es.size):=by rw[q1];exact hi
   simp only[setObj,Sem.run,hi1];rfl
  simp only[hrun,Array.getElem?_map,dC hj,eM,ec,hset,Result.andThen];rfl
def Pf(ht:bg P t ti)(h:RelB E S.tmps S.obj a w β){x:AV}{v:Value}{dst:Option Nat}(hx:RX w (E.D w β S.obj) E.B β S.obj x v)
 (hy:aV S (Cc ti x dst) e) (hn:∀k∈e.new,S.bK k=true):kK E S a e ((Instr.range t v).run P w):=by
 unfold Cc at hy;split at hy
 ·rename_i d;split at hy
  ·rename_i k el hk;have hu:=ht.map hk;split at hy
   ·rename_i ks f;have:=hy.ret;subst this;have hrd:=hx.NE;cases hrd with
    | jM _ _ hz=>
     have hh:(w.alloc (.mapIter none 0 #[] 0)).heap[w.heap.size]? = some (.mapIter none 0 #[] 0):=Go.heap_alloc_new w _;obtain⟨q1,q2⟩:=h.new (hn d zsi) (Grow.alloc w (.mapIter none 0 #[] 0)) (ob:=.it ks f (fun _=>[]) false) (v:=.pointer (some ⟨w.heap.size,0,none⟩)) (fun b hb=>by simp[bi]at hb;omega)
      (fun _ _=>⟨w.heap.size,none,#[],by simp[upd],by rw[hz];exact hh,.inr h.frame.size,.inl ⟨rfl,by rw[hz];rfl⟩,rfl⟩)
     exact⟨_,_,run_range_nilMap (P:=P) w t k el hu,_,by rw[pO];exact q1,by rw[pO];exact .ptr d 0 w.heap.size (by simp[upd])⟩
    | di _ _ b clock ents hD hb hl hkeys hc hv=>
     obtain⟨rfl,hborn⟩:=hc;have hh:(w.alloc (.mapIter (some b) (ks ()).length #[] (ks ()).length)).heap[w.heap.size]? = some (.mapIter (some b) (ks ()).length #[] (ks ()).length):=Go.heap_alloc_new w _;obtain⟨q1,q2⟩:=h.new (hn d zsi) (Grow.alloc w (.mapIter (some b) (ks ()).length #[] (ks ()).length)) (ob:=.it ks f (fun _=>[]) false) (v:=.pointer (some ⟨w.heap.size,0,none⟩)) (fun b hb=>by simp[bi]at hb;omega)
      (fun _ hrd=>⟨w.heap.size,some b,#[],by simp[upd],hh,.inr h.frame.size,.inr ⟨b,rfl,hrd _ _ (.di _ _ b ents.size ents hD hb hl hkeys ⟨rfl,hborn⟩ hv)⟩,rfl⟩)
     refine⟨_,_,?_,_,by rw[pO];exact q1,by rw[pO];exact .ptr d 0 w.heap.size (by simp[upd])⟩;have:=run_range_map (P:=P) w t k el b ents ents.size hu hb;rw[hl];exact this
   ·have:=hy.ret;subst this;obtain rfl:=hx.NG;have hh:(w.alloc (.mapIter none 0 #[] 0)).heap[w.heap.size]? = some (.mapIter none 0 #[] 0):=Go.heap_alloc_new w _;obtain⟨q1,q2⟩:=h.new (hn d zsi) (Grow.alloc w (.mapIter none 0 #[] 0)) (ob:=.it (fun _=>[]) (fun _=>.any) (fun _=>[]) false) (v:=.pointer (some ⟨w.heap.size,0,none⟩)) (fun b hb=>by simp[bi]at hb;omega)
     (fun _ _=>⟨w.heap.size,none,#[],by simp[upd],hh,.inr h.frame.size,.inl ⟨rfl,rfl⟩,rfl⟩)
    exact⟨_,_,run_range_nilMap (P:=P) w t k el hu,_,by rw[pO];exact q1,by rw[pO];exact .ptr d 0 w.heap.size (by simp[upd])⟩
   ·exact hy.fail.elim
  ·exact hy.fail.elim
 ·exact hy.fail.elim
def Pg(h:RelB E S.tmps S.obj a w β){x:AV}{v:Value}{yP:Bool}{ty:TypeId}(hx:RX w (E.D w β S.obj) E.B β S.obj x v)
 (hy:aV S (Cd x yP) e):kK E S a e ((Instr.next v yP ty).run P w):=by
 unfold Cd at hy;split at hy
 ·exact hy.fail.elim
 ·split at hy
  ·rename_i ob;have hy:=hy.obj;split at hy
   ·rename_i ks f seen hold;have:=hy.ret;subst this;obtain⟨b,hβ,rfl⟩:=hx.dF;have ho:=h.objs ob;rw[hold]at ho;obtain⟨b',mb,sa,q1,q2,q3,q4,q5⟩:=ho;rw[hβ]at q1;simp only[Value.pointer.injEq,cB,Addr.mk.injEq,ay]at q1;subst q1;have hlt:b<w.heap.size:=(d8.1 q2).1;rcases q4 with⟨rfl,hl⟩|⟨m,rfl,hrd⟩
    ·-- a map that is nil
     obtain⟨g1,g2⟩:=h.turn (o:=ob) (by rw[hold];trivial) (w':=w) rfl rfl rfl (ao _) (fun _ _ _=>rfl) (ob:=.it ks f seen true) trivial (v:=β ob)
      (fun b hb=>.inl hb) (fun _ _=>rfl) (fun x t sz ver n f hf=>by rw[hold]at hf;cases hf) (fun cs hcs=>by rw[hold]at hcs;cases hcs)
      (fun _ hrd=>⟨b,none,sa,by simp[upd,hβ],q2,q3,.inl ⟨rfl,hl⟩,.inl ⟨q5,fun i hi=>absurd hi zo⟩⟩) (fun ks f s p hf=>⟨_,_,_,_,rfl⟩)
     refine⟨.tuple #[.bool false],w,?_,_,by rw[pO];exact g1,.d (.gw _ _ false _ rfl (fun q=>by cases q) (fun _ i hi=>absurd hi zo))⟩;simp only[Instr.next,getObj,ec,Sem.run,q2,Result.andThen];rfl
    ·cases hrd with
     | di _ _ _ clock ents hD hb hl hkeys hc hv=>
      obtain⟨rfl,hborn⟩:=hc;rcases Pe (P:=P) w ty b m sa ents (by rw[<- hl];exact q2) hb hborn with⟨n1,n2⟩|⟨i,n1,n2,k,v,w1,n3,n4,n5,n6,n7⟩
      ·obtain⟨g1,g2⟩:=h.turn (o:=ob) (by rw[hold];trivial) (w':=w) rfl rfl rfl (ao _) (fun _ _ _=>rfl) (ob:=.it ks f seen true) trivial (v:=β ob)
        (fun b hb=>.inl hb) (fun _ _=>rfl) (fun x t sz ver n f hf=>by rw[hold]at hf;cases hf) (fun cs hcs=>by rw[hold]at hcs;cases hcs)
        (fun _ hrd=>⟨b,some m,sa,by simp[upd,hβ],q2,q3,.inr ⟨m,rfl,hrd _ _ (.di _ _ m ents.size ents hD hb hl hkeys ⟨rfl,hborn⟩ hv)⟩,.inl ⟨q5,fun i hi=>by rw[<- q5];exact n1 i zo⟩⟩) (fun ks f s p hf=>⟨_,_,_,_,rfl⟩)
       exact⟨_,w,n2,_,by rw[pO];exact g1,.d (.gw _ _ false _ rfl (fun q=>by cases q) (fun _ i hi=>by rw[<- q5];exact n1 i zo))⟩
      ·have hw:(World.lB w1 b (.mapIter (some m) ents.size (sa.push i) ents.size)).heap=(World.lB w b (.mapIter (some m) ents.size (sa.push i) ents.size)).heap:=by
        unfold World.lB;rw[n3]
       obtain⟨g1,g2⟩:=h.turn (o:=ob) (by rw[hold];trivial) (w':=World.lB w1 b (.mapIter (some m) ents.size (sa.push i) ents.size)) n4 n5 n6 (by rw[Pd,n3];exact ao _) (fun k _ hk=>by rw[hw];exact Pc _ (fun e=>hk (by rw[hβ,e];rfl))) (ob:=.it ks f seen true) trivial (v:=β ob)
        (fun b hb=>.inl hb) (fun _ _=>rfl) (fun x t sz ver n f hf=>by rw[hold]at hf;cases hf) (fun cs hcs=>by rw[hold]at hcs;cases hcs)
        (fun _ hrd=>⟨b,some m,sa.push i,by simp[upd,hβ],by rw[hw,Pb _ hlt,hl],q3,.inr ⟨m,rfl,hrd _ _ (.di _ _ m ents.size ents hD hb hl hkeys ⟨rfl,hborn⟩ hv)⟩,.inr ⟨i,zo,by rw[<- q5];exact n2,by rw[Array.toList_push,q5]⟩⟩) (fun ks f s p hf=>⟨_,_,_,_,rfl⟩)
       exact⟨_,_,n7,_,by rw[pO];exact g1,.d (.gw _ _ true _ rfl (fun _=>⟨i,zo,by rw[<- q5];exact n2⟩) (fun q=>by cases q))⟩
   ·exact hy.fail.elim
  ·exact hy.fail.elim
def Ph(h:RelB E S.tmps S.obj a w β){x:AV}{v:Value}(hx:RX w (E.D w β S.obj) E.B β S.obj x v)
 (hy:aV S (Ce x) e):dZ E S w β e ((Instr.entry v).run P w):=by
 unfold Ce at hy;split at hy
 ·rename_i ob;have hy:=hy.obj;split at hy
  ·rename_i ks f seen hold;obtain⟨hc,hy⟩:=hy.cond;obtain rfl:=vI hy;obtain⟨b,hβ,rfl⟩:=hx.dF;have ho:=h.objs ob;rw[hold]at ho;obtain⟨b',mb,sa,q1,q2,q3,q4,q5⟩:=ho;rw[hβ]at q1;simp only[Value.pointer.injEq,cB,Addr.mk.injEq,ay]at q1;subst q1;rcases q4 with⟨rfl,hl⟩|⟨m,rfl,hrd⟩
   ·omega
   ·cases hrd with
    | di _ _ _ clock ents hD hb hl hkeys hcl hv=>
     obtain⟨rfl,hborn⟩:=hcl;have q5:sa.toList=seen ():=q5;have hne:seen ()≠[]:=fun q=>by rw[q]at hc;simp at hc
     obtain⟨i,hi⟩:∃i,(seen ()).getLastD (ks ()).length=i∧(seen ()).getLastD 0=i∧sa.back? = some i:=by
      obtain⟨l',i,hq⟩:∃l' i,seen ()=l'++[i]:=by
       rcases List.eq_nil_or_concat (seen ())with q|⟨l',i,q⟩
       ·exact absurd q hne
       ·exact⟨l',i,by rw[q,List.concat_eq_append]⟩
      refine⟨i,by rw[hq];simp,by rw[hq];simp,?_⟩;rw[<- Array.getLast?_toList,q5,hq];simp
     obtain⟨i1,i2,i3⟩:=hi;rw[i1]at hc;have hie:i<ents.size:=zo
     have hbi:=hborn i ents[i] (dC hie);have hfind:ents.find? (·.born==i)=some ents[i]:=by
      have hn:(ents.toList.map (·.born)).Nodup:=by
       have:ents.toList.map (·.born)=List.range ents.size:=by
        refine FA zsi fun j h1 h2=>?_;have hj:j<ents.size:=by simpa using h1
        simp[hborn j ents[j] (dC hj)]
       rw[this];exact List.nodup_range
      have:=find_born ents[i] ents.toList hn zsi;rw[hbi]at this;rw[<- Array.find?_toList];exact this
     have hk:=hkeys i ((ks ())[i]' zo) ents[i] (bf zo) (dC hie);refine⟨.tuple #[ents[i].key,ents[i].val],?_,.ag _ _ rfl (fun j av u h1 h2=>?_),rfl,rfl,rfl⟩
     ·simp only[Instr.entry,getObj,ec,Sem.run,q2,hb,Result.andThen,i3,hl,bne_self_eq_false,jc,dg,hfind];rfl
     ·rcases j with _|_|j
      ·simp only[pd,cB]at h1;subst h1;simp at h2;subst h2;rw[hk];have:(ks ())[i]' zo=(ks ()).getD ((seen ()).getLastD 0) ⟨#[]⟩:=by rw[i2];simp[List.getD,show i<(ks ()).length by omega]
       rw[this];exact .d (.str fun _=>_)
      ·simp only[pd,xP,cB]at h1;subst h1;simp at h2;subst h2;have:=hv i ents[i] (dC hie)
       exact .d (by
        have e:(fun(_:Unit)=>(seen ()).getLastD 0)=fun _=>i:=by funext _;exact i2
        show RD _ _ _ (f fun _=>(seen ()).getLastD 0) _;rw[e];exact this)
      ·simp at h1
  ·exact hy.fail.elim
 ·exact hy.fail.elim
end
end Go.Ai

namespace Go.Ai
open Go
section
variable {P:Program}{E:Env}{S:AS}{a:Act}{w:World}{β:Nat->Value}{o:Oper}{e:Eff}{T:List (Nat×TI)}
def Goes.bL{s:Sem Value}(he:execOp a.eval o=do pure (.value (<- s)))(h:kK E S a e (s.run P w)):Goes P E S a w o e:=by
 obtain⟨u,w',hr,h⟩:=h;unfold Goes;rw[he];simp only[ec,hr,cm];exact h
def Goes.unit{s:Sem Unit}(he:execOp a.eval o=do s;pure .skip){w':World}(hr:s.run P w=.ok () w')(h:After E S a e undef w'):Goes P E S a w o e:=by
 unfold Goes;rw[he];simp only[ec,hr,cm];exact h
def Hq(h:RelB E S.tmps S.obj a w β){g:Option (Unit->Bool)}(hg:∀b,g=some b->b ()=true){x:Option Operand}{av:Option AV}(hy:aV S (BN g x) av):
 (av=none∧x.map a.eval=none)∨∃bw u,av=some bw∧x.map a.eval=some u∧RX w (E.D w β S.obj) E.B β S.obj bw u:=by
 cases x with
 | none=>have:=hy.ret;subst this;exact .inl ⟨rfl,rfl⟩
 | some x=>
  obtain⟨v,h1,h2⟩:=hy.bind;have:=h2.ret;subst this;exact .inr ⟨v,_,rfl,rfl,oS h hg h1⟩
def Hr(ps:Array (Nat×Operand))(ev:Operand->Value):(ps.map fun p=>(p.1,ev p.2))=(ps.toList.map fun p=>(p.1,ev p.2)).toArray:=by
 apply mR;simp
def Pi{c:Call}(h:c.args.toList.length=1):∃x,c.args=#[x]:=by
 obtain⟨x,hx⟩:=Bb.1 h;exact⟨x,mR (by simpa using hx)⟩
def CN{c:Call}(h:c.args.toList.length=2):∃x y,c.args=#[x,y]:=by
 generalize hl:c.args.toList=l at h
 match l,h with
 | [x,y],_=>exact⟨x,y,mR (by simpa using hl)⟩
def Hs{mx:Bool}{vs:List AV}{e:Eff}(hy:aV S (yp mx vs) e):∃k m n,vs=[.int k m,.int k n]∧e=⟨.int k (fun _=>if mx then(if m ()<n ()then n ()else m ())else(if n ()<m ()then n ()else m ())),[],[],none⟩:=by
 unfold yp at hy;split at hy
 ·rename_i k m k' n;replace hy:=yI hy;obtain⟨hk,hy⟩:=hy;subst hk;exact⟨k,m,n,rfl,vI hy⟩
 ·exact hy.fail.elim
def Pj(h:RelB E S.tmps S.obj a w β){t:Nat}{x:AV}{v:Value}(hx:RX w (E.D w β S.obj) E.B β S.obj x v)(hc:x.cells.all AV.cell=true)(hp:AV.bx x.cells=true):
 kK E S a ⟨.dm .any x.cells.length (fun _=>1) (fun _=>x.cells) (fun _=>0) 0,[],[],none⟩ ((Instr.box t v).run P w):=by
 obtain⟨hl,hel⟩:=yz hx hc;have hg:=h.grow (Grow.alloc w (.cells v.cells t));have hD:=hg.2.1 w.heap.size (ao _) zsi;have hh:(w.alloc (.cells v.cells t)).heap[w.heap.size]? = some (.cells v.cells t (0,0)):=uP w _;have hs:RD (w.alloc (.cells v.cells t)) (E.D (w.alloc (.cells v.cells t)) β S.obj) E.B (.slc .any x.cells.length (fun _=>1) (fun _=>x.cells)) (.slice (some ⟨w.heap.size,0,none⟩) 1 1):=by
  refine .slc .any x.cells.length (fun _=>1) (fun _=>x.cells) w.heap.size 0 1 (fun k=>v.cells.getD k undef) (ao _) (by unfold maxLen;omega) hD trivial (fun k hk=>?_) (fun i hi=>rfl) (fun i hi=>hc) (fun i j av hi hj=>?_)
  ·have hk':k<v.cells.size:=by rw[<- hl];simpa using hk
   simp only[World.cell?,hh,eC];rw[jf,dC hk'];rfl
  ·have:i=0:=by simpa using hi
   subst this;have hjl:j<x.cells.length:=(bX.1 hj).1;have vR:j<v.cells.size:=by rw[<- hl];exact hjl
   have q:=(hel j av _ hj (dC vR)).pure (qV hp j av hj);have q2:=q.mono (w':=w.alloc (.cells v.cells t)) (D':=E.D (w.alloc (.cells v.cells t)) β S.obj) (B':=E.B) (fun b hb=>(Grow.alloc w (.cells v.cells t)).old b hb.lt) (fun b hb=>⟨hb.1,cf hb.2.1 (Grow.alloc w (.cells v.cells t)).size,hb.2.2⟩) (ao _);simpa[Array.getD,vR]using q2
 refine⟨.pointer (some ⟨w.heap.size,0,none⟩),w.alloc (.cells v.cells t),rfl,β,hg.1,?_⟩;rw[G1];have:=RX.dm (β:=β) (H:=S.obj) .any x.cells.length (fun _=>1) (fun _=>x.cells) (fun _=>0) 0 w.heap.size 0 1 zsi hs;simpa using this
def CO(hT:cn P T)(h:RelB E S.tmps S.obj a w β){aw:cL}{i:Nat}{g:Option (Unit->Bool)}(hg:∀b,g=some b->b ()=true)(hy:aV S (pE T aw i g o) e)(hn:∀k∈e.new,S.bK k=true)
 (ap:∀c,e.call=some c->Af P c.f c.args c.objs c.res c.au):Goes P E S a w o e:=by
 unfold pE at hy;simp only at hy;split at hy
 ·-- move
  rename_i x ho;obtain⟨v,h1,hy⟩:=hy.bind;obtain rfl:=vI hy;exact Goes.value (v:=a.eval x) (by simp[execOp,ho]) h rfl (oS h hg h1)
 ·-- assign
  rename_i x ho;obtain⟨v,h1,hy⟩:=hy.bind;obtain rfl:=vI hy;exact Goes.value (v:=a.eval x) (by simp[execOp,ho]) h rfl (oS h hg h1)
 ·-- pick
  rename_i c x y ho;obtain⟨cv,h1,hy⟩:=hy.bind;obtain⟨xv,h2,hy⟩:=hy.bind;obtain⟨yv,h3,hy⟩:=hy.bind;obtain⟨u,hr,hx,hw,_⟩:=NS (P:=P) (oS h hg h1) (oS h (g:=none) (fun b hb=>by cases hb) h2) (oS h (g:=none) (fun b hb=>by cases hb) h3) hy;refine Goes.value (v:=u) ?_ h hw hx;simp only[execOp,ho];simp only[ec]at hr ⊢;cases hb:(asBool (a.eval c)).run P w with
  | ok b w1=>rw[hb]at hr;simp only[cm]at hr ⊢;cases b<;>simp at hr ⊢<;>exact hr
  | halt x w1=>rw[hb]at hr;simp at hr
 ·-- alloc
  rename_i t ho;obtain⟨ht,hr,hy⟩:=fK hT hy;split at hy
  ·rename_i d hd;have:=hy.ret;subst this;exact Goes.bL (s:=Instr.alloc t true (.tuple #[])) (by simp only[execOp,ho]) (Ol ht h (hn _ zsi))
  ·exact hy.fail.elim
 ·-- box
  rename_i t x ho;obtain⟨ht,hr,hy⟩:=fK hT hy;obtain⟨v,h1,hy⟩:=hy.bind;split at hy
  ·rename_i d hd;replace hy:=yI hy;obtain⟨hc,hy⟩:=hy;split at hy
   ·replace hy:=yI hy;obtain⟨hp,hy⟩:=hy;simp only[az]at hp;obtain rfl:=vI hy;exact Goes.bL (s:=Instr.box t (a.eval x)) (by simp only[execOp,ho]) (Pj h (oS h hg h1) hc hp.1)
   have:=hy.ret;subst this;have hnd:=hn _ (dD.2 rfl);exact Goes.bL (s:=Instr.box t (a.eval x)) (by simp only[execOp,ho]) (Oq h hnd (oS h hg h1) hc (On hnd h1))
  ·exact hy.fail.elim
 ·-- build
  rename_i t ps ho;obtain⟨ht,hr,hy⟩:=fK hT hy;obtain⟨vs,h1,hy⟩:=hy.bind;obtain⟨q1,q2⟩:=tw h hg h1;refine Goes.bL (s:=Instr.build t (ps.map fun(i,x)=>(i,a.eval x))) (by simp only[execOp,ho]) ?_;have:=Od hT ht (GU (ev:=a.eval) q1 q2) hy;rw[<- Hr]at this;exact this.bL h
 ·-- buildSlice
  rename_i t n ps ho;obtain⟨ht,hr,hy⟩:=fK hT hy;obtain⟨vs,h1,hy⟩:=hy.bind;obtain⟨q1,q2⟩:=tw h hg h1;refine Goes.bL (s:=Instr.buildSlice t n (ps.map fun(i,x)=>(i,a.eval x))) (by simp only[execOp,ho]) ?_;have:=OO hT ht h (GU (ev:=a.eval) q1 q2) hy hn;rw[<- Hr]at this;exact this
 ·-- load
  rename_i t x ho;obtain⟨ht,hr,hy⟩:=fK hT hy;obtain⟨v,h1,hy⟩:=hy.bind;have hp:dZ E S w β e ((Instr.loadAt t (a.eval x)).run P w):=GH ht hr h (oS h hg h1) hy;exact Goes.bL (s:=Instr.loadAt t (a.eval x)) (by simp only[execOp,ho]) (hp.bL h)
 ·-- store
  rename_i t x y ho;obtain⟨ht,hr,hy⟩:=fK hT hy;obtain⟨p,h1,hy⟩:=hy.bind;obtain⟨v,h2,hy⟩:=hy.bind;obtain⟨w',hr',ha⟩:=Ot ht h (oS h hg h1) (oS h hg h2) hy;exact Goes.unit (s:=Instr.storeAt t (a.eval x) (a.eval y)) (by simp only[execOp,ho]) hr' ha
 ·-- nilCheck
  rename_i x ho;obtain⟨v,h1,hy⟩:=hy.bind;have hx:=oS h hg h1;split at hy
  ·obtain rfl:=vI hy;obtain⟨b,_,hv⟩:=hx.dF;exact Goes.value (v:=a.eval x) (by simp[execOp,ho,hv]) h rfl hx
  ·obtain rfl:=vI hy;obtain⟨b,o',cap,_,_,hv⟩:=hx.tp;exact Goes.value (v:=a.eval x) (by simp[execOp,ho,hv]) h rfl hx
  ·obtain rfl:=vI hy;obtain⟨vs,hv,_⟩:=hx.pI;exact Goes.value (v:=a.eval x) (by simp[execOp,ho,hv]) h rfl hx
  ·exact hy.fail.elim
 ·-- binOp
  rename_i op t x y t' ho;obtain⟨xv,h1,hy⟩:=hy.bind;obtain⟨yv,h2,hy⟩:=hy.bind;obtain⟨ht,hr,hy⟩:=fK hT hy;have hp:=Ob (P:=P) (S:=S) (E:=E) hT ht x y (fun hn=>by unfold s9 at hn;split at hn;rfl;cases hn) (oS h hg h1) (oS h hg h2) hy;exact Goes.bL (s:=do eqGuard op t x y (a.eval x) (a.eval y);binOp op t (a.eval x) (a.eval y)) (by simp only[execOp,ho]) (hp.bL h)
 ·-- unOp
  rename_i op t x ho;obtain⟨xv,h1,hy⟩:=hy.bind;have hp:=NQ (P:=P) (S:=S) (E:=E) (oS h hg h1) hy;exact Goes.bL (s:=Op.unary op (a.eval x)) (by simp only[execOp,ho]) (hp.bL h)
 ·-- convert
  rename_i s t x ho;obtain⟨hs,_,hy⟩:=fK hT hy;obtain⟨ht,_,hy⟩:=fK hT hy;obtain⟨xv,h1,hy⟩:=hy.bind;exact Goes.bL (s:=convert s t (a.eval x)) (by simp only[execOp,ho]) (OK hT hs ht h (oS h hg h1) hy)
 ·-- makeFunc
  rename_i fn first caps ho
  split at hy
  ·rename_i f;have hp:=N6 (P:=P) (f:=f) h hg hy;exact Goes.bL (s:=Instr.makeFunc (.func f) #[] (caps.map a.eval)) (by simp only[execOp,ho];simp) (hp.bL h)
  ·rename_i f x;split at hy
   ·obtain⟨v,h2,hy⟩:=hy.bind;have hv:=oS h hg h2;split at hy
    ·rename_i o';obtain rfl:=vI hy;obtain⟨b,hβ,hx⟩:=hv.dF;have hp:dZ E S w β ⟨.a8 f o',[],[],none⟩ ((Instr.makeFunc (.func f) #[a.eval x] #[]).run P w):=
      ⟨.func (.func f) #[.pointer (some ⟨b,0,none⟩)] #[],by rw[hx];simp[Instr.makeFunc],.a8 _ _ b (.ptr _ _ b hβ),rfl,rfl,rfl⟩
     exact Goes.bL (s:=Instr.makeFunc (.func f) #[a.eval x] #[]) (by simp only[execOp,ho];simp) (hp.bL h)
    ·exact hy.fail.elim
   ·exact hy.fail.elim
  ·exact hy.fail.elim
 ·-- slice
  rename_i t x lo hi mx ho;obtain⟨ht,hr,hy⟩:=fK hT hy;obtain⟨xv,h1,hy⟩:=hy.bind;obtain⟨lv,h2,hy⟩:=hy.bind;obtain⟨hv,h3,hy⟩:=hy.bind;split at hy
  ·exact Goes.bL (s:=Instr.sliceAt t (a.eval x) (lo.map a.eval) (hi.map a.eval) none) (by simp only[execOp,ho];rfl) (OF hT ht h (oS h hg h1) (Hq h hg h2) (Hq h hg h3) hy)
  ·exact hy.fail.elim
 ·-- makeSlice
  rename_i t l c ho;obtain⟨ht,hr,hy⟩:=fK hT hy;obtain⟨lv,h1,hy⟩:=hy.bind;obtain⟨cv,h2,hy⟩:=hy.bind;exact Goes.bL (s:=Instr.makeSlice t (a.eval l) (a.eval c)) (by simp only[execOp,ho]) (OQ hT ht h (oS h hg h1) (oS h hg h2) hy hn)
 ·-- lookup
  rename_i t x k ok ho;obtain⟨ht,hr,hy⟩:=fK hT hy;obtain⟨xv,h1,hy⟩:=hy.bind;obtain⟨kv,h2,hy⟩:=hy.bind;unfold Gv at hy;split at hy
  ·exact Goes.bL (s:=Instr.lookup t (a.eval x) (a.eval k) ok) (by simp only[execOp,ho]) ((Of hT ht (oS h hg h1) (oS h hg h2) hy).bL h)
  ·cases ok with
   | true=>exact hy.fail.elim
   | false=>exact Goes.bL (s:=Instr.lookup t (a.eval x) (a.eval k) false) (by simp only[execOp,ho]) ((N4 hT ht (oS h hg h1) (oS h hg h2) (show aV S (yn T (aO T t) xv kv) e by simpa using hy)).bL h)
 ·-- fieldAddr
  rename_i t x k ho;obtain⟨ht,hr,hy⟩:=fK hT hy;obtain⟨xv,h1,hy⟩:=hy.bind;exact Goes.bL (s:=Instr.fieldAt t (a.eval x) k) (by simp only[execOp,ho]) ((NN ht (oS h hg h1) hy).bL h)
 ·-- indexAddr
  rename_i t x k ho;obtain⟨ht,hr,hy⟩:=fK hT hy;obtain⟨xv,h1,hy⟩:=hy.bind;obtain⟨kv,h2,hy⟩:=hy.bind;exact Goes.bL (s:=Instr.indexAt t (a.eval x) (a.eval k)) (by simp only[execOp,ho]) ((NO hT ht (oS h hg h1) (oS h hg h2) hy).bL h)
 ·-- index
  rename_i t x k ho;obtain⟨ht,hr,hy⟩:=fK hT hy;obtain⟨xv,h1,hy⟩:=hy.bind;obtain⟨kv,h2,hy⟩:=hy.bind;exact Goes.bL (s:=Instr.index t (a.eval x) (a.eval k)) (by simp only[execOp,ho]) ((N2 hT ht (oS h hg h1) (oS h hg h2) hy).bL h)
 ·-- field
  rename_i t x k ho;obtain⟨ht,hr,hy⟩:=fK hT hy;obtain⟨xv,h1,hy⟩:=hy.bind;exact Goes.bL (s:=Instr.field t (a.eval x) k) (by simp only[execOp,ho]) ((N1 hT ht (oS h hg h1) hy).bL h)
 ·-- extract
  rename_i x k ho;obtain⟨xv,h1,hy⟩:=hy.bind;exact Goes.bL (s:=Instr.extract (a.eval x) k) (by simp only[execOp,ho]) ((N0 (oS h hg h1) hy).bL h)
 ·-- range
  rename_i t x ho;obtain⟨ht,hr,hy⟩:=fK hT hy;obtain⟨xv,h1,hy⟩:=hy.bind;exact Goes.bL (s:=Instr.range t (a.eval x)) (by simp only[execOp,ho]) (Pf ht h (oS h hg h1) hy hn)
 ·-- next
  rename_i x yP ho;obtain⟨xv,h1,hy⟩:=hy.bind;exact Goes.bL (s:=Instr.next (a.eval x) yP o.type) (by simp only[execOp,ho]) (Pg h (oS h hg h1) hy)
 ·-- entry
  rename_i x ho;obtain⟨xv,h1,hy⟩:=hy.bind;exact Goes.bL (s:=Instr.entry (a.eval x)) (by simp only[execOp,ho]) ((Ph h (oS h hg h1) hy).bL h)
 ·-- call
  rename_i c ho;obtain⟨vs,h1,hy⟩:=hy.bind;obtain⟨q1,q2⟩:=tw h hg h1;split at hy
  ·-- of a function value
   rename_i f jR;obtain⟨fv,h2,hy⟩:=hy.bind;have hf:=oS h hg h2;unfold Gx at hy;split at hy
   ·rename_i fid ob;obtain⟨b,hβ,hfe⟩:=hf.yx
    have hcs:=Hl (P:=P) (caps:=[]) h (vs:=#[.pointer (some ⟨b,0,none⟩)]++c.args.map a.eval) (by simp[q1];omega) (fun j av v hj hv=>by
     cases j with
     | zero=>
      rw[mO zsi]at hv;simp at hj hv;subst hj;subst hv;exact .ptr _ _ b hβ
     | succ j=>
      simp only[uS,xP]at hj;rw[Fr zsi]at hv;simp at hv;obtain⟨x,hx,rfl⟩:=hv;exact q2 j av x hj (by simpa using hx)) hy hn ap
    obtain⟨hent,vS⟩:=hcs;unfold Goes;have hrun:(execOp a.eval o).run P w=.ok (.enter fid (#[.pointer (some ⟨b,0,none⟩)]++c.args.map a.eval)) w:=by
     have:=hent (#[.pointer (some ⟨b,0,none⟩)]++c.args.map a.eval) w;simp only[execOp,ho,resolve,jR,hfe,Deferred.ofValue];simpa[invoke]using this
    rw[hrun];exact vS
   have hfun:∃fid caps,fv=.func fid caps:=by
    unfold vx at hy;split at hy
    ·exact⟨_,_,rfl⟩
    ·exact hy.fail.elim
   obtain⟨fid,caps,rfl⟩:=hfun
   obtain⟨cv,hfe,hcl,Cm⟩:=hf.pI
   have hcs:=Hl (P:=P) h (vs:=c.args.map a.eval++cv) (by simp[q1,hcl]) (fun j av v hj hv=>by
    have hl2:vs.length=c.args.size:=by rw[q1];simp
    by_cases hjl:j<vs.length
    ·rw[gS hjl]at hj;rw[mO (by simp;omega)]at hv;simp at hv;obtain⟨x,hx,rfl⟩:=hv;exact q2 j av x hj (by simpa using hx)
    ·rw[jd zo]at hj;rw[Fr (by simp;omega)]at hv;simp only[Array.size_map]at hv;rw[<- hl2]at hv;exact Cm _ _ _ hj hv) hy hn ap
   obtain⟨hent,vS⟩:=hcs;unfold Goes;have hrun:(execOp a.eval o).run P w=.ok (.enter fid (c.args.map a.eval++cv)) w:=by
    have:=hent (c.args.map a.eval++cv) w;simp only[execOp,ho,resolve,jR,hfe,Deferred.ofValue];simpa[invoke]using this
   rw[hrun];exact vS
  ·-- len
   rename_i jR;split at hy
   ·rename_i v t rest hts;obtain⟨ht,hr,hy⟩:=fK hT hy;have hargs:=Pi (c:=c) (by simpa using q1.symm);obtain⟨x,hx⟩:=hargs;have CP:c.argTypes=(t::rest).toArray:=by rw[<- hts]
    have hp:=NP (P:=P) (E:=E) (S:=S) (w:=w) (β:=β) (ty:=o.type) (rest:=rest) ht (q2 0 v x rfl (by rw[hx];rfl)) hy;refine Goes.bL (s:=Builtin.len_ c.argTypes o.type (c.args.map a.eval)) (by simp only[execOp,ho,resolve,jR];rfl) ?_;rw[CP,hx,show(#[x]:Array Operand).map a.eval=#[a.eval x] by simp];exact hp.bL h
   ·exact hy.fail.elim
  ·-- append
   rename_i jR;split at hy
   ·rename_i b x st xt hts;replace hy:=yI hy;obtain⟨hxt,hy⟩:=hy
    ·obtain⟨ht,hr,hy⟩:=fK hT hy;have hargs:=CN (c:=c) (by simpa using q1.symm);obtain⟨xo,yo,hx⟩:=hargs;have CP:c.argTypes=#[st,xt]:=by rw[<- Array.toArray_toList (xs:=c.argTypes),hts]
     have hd2:∃d2,P.underlying xt=some d2∧vL d2:=by
      rw[eU]at hxt;rcases hxt with h1|h1
      ·simp at h1;subst h1;have hk:∃el,(aO T xt).k=.slice el:=by
        unfold yl at hy;split at hy
        ·rename_i el hk;exact⟨el,hk⟩
        ·exact hy.fail.elim
       obtain⟨el,hk⟩:=hk;exact⟨_,ht.slice hk,.inl ⟨el,rfl⟩⟩
      ·have hk:(aO T xt).k=.str:=by
        cases hq:(aO T xt).k<;>rw[hq]at h1<;>first|rfl|exact absurd h1 AX
       have dB:(aO T xt).real=true:=by unfold TI.real;rw[hk]
       exact⟨_,(hT.at xt dB).str hk,.inr rfl⟩
     obtain⟨d2,hd2,hni⟩:=hd2;refine Goes.bL (s:=Builtin.append_ c.argTypes o.type (c.args.map a.eval)) (by simp only[execOp,ho,resolve,jR];rfl) ?_;rw[CP,hx,show(#[xo,yo]:Array Operand).map a.eval=#[a.eval xo,a.eval yo] by simp];exact Oz hT ht h hd2 hni (q2 0 b xo rfl (by rw[hx];rfl)) (q2 1 x yo rfl (by rw[hx];rfl)) hy hn
   ·exact hy.fail.elim
  ·-- min
   rename_i jR;obtain⟨k,m,n,hvs,rfl⟩:=Hs hy;subst hvs;have hargs:=CN (c:=c) (by simpa using q1.symm);obtain⟨xo,yo,hx⟩:=hargs;have e1:=(q2 0 _ xo rfl (by rw[hx];rfl)).fG;have e2:=(q2 1 _ yo rfl (by rw[hx];rfl)).fG;refine Goes.bL (s:=Builtin.min_ c.argTypes o.type (c.args.map a.eval)) (by simp only[execOp,ho,resolve,jR];rfl) ?_;have hmap:c.args.map a.eval=#[.int k (m ()),.int k (n ())]:=by rw[hx];simp[e1,e2]
   rw[hmap,(GI (P:=P) (w:=w) k (m ()) (n ()) c.argTypes o.type).1];exact dZ.bL h ⟨_,rfl,.d (.int k (fun _=>if n ()<m ()then n ()else m ())),rfl,rfl,rfl⟩
  ·-- max
   rename_i jR;obtain⟨k,m,n,hvs,rfl⟩:=Hs hy;subst hvs;have hargs:=CN (c:=c) (by simpa using q1.symm);obtain⟨xo,yo,hx⟩:=hargs;have e1:=(q2 0 _ xo rfl (by rw[hx];rfl)).fG;have e2:=(q2 1 _ yo rfl (by rw[hx];rfl)).fG;refine Goes.bL (s:=Builtin.max_ c.argTypes o.type (c.args.map a.eval)) (by simp only[execOp,ho,resolve,jR];rfl) ?_;have hmap:c.args.map a.eval=#[.int k (m ()),.int k (n ())]:=by rw[hx];simp[e1,e2]
   rw[hmap,(GI (P:=P) (w:=w) k (m ()) (n ()) c.argTypes o.type).2];exact dZ.bL h ⟨_,rfl,.d (.int k (fun _=>if m ()<n ()then n ()else m ())),rfl,rfl,rfl⟩
  ·exact hy.fail.elim
 ·exact hy.fail.elim
end
section
variable {P:Program}{E:Env}{S:AS}{a:Act}{w:World}{β:Nat->Value}{o:Oper}{e:Eff}{T:List (Nat×TI)}
def aV.CQ{α:Type}(a:α):aV S (.ret a) a:=⟨⟨a,[],[],[]⟩,rfl,fun c hc=>by simp at hc,rfl⟩
def Pk{g:Unit->Bool}(hg:g ()=true):∀{a z m:AV},vy g a z=some m->m=a:=by
 intro a z m h;unfold vy at h;split at h
 ·split at h
  ·cases h;simp only[hg,bC]
  ·cases h
 ·cases h;simp only[hg,bC]
 ·cases h;simp only[hg,bC]
 ·cases h;simp only[hg,bC]
 ·split at h<;>cases h;rfl
 ·split at h<;>cases h;simp only[hg,bC]
 all_goals cases h
 all_goals rfl
def Pn{g:Unit->Bool}(hg:g ()=false):∀{a z m:AV},vy g a z=some m->m=z:=by
 intro a z m h;unfold vy at h;split at h
 ·split at h
  ·rename_i e;subst e;cases h;simp only[hg,jc,dg]
  ·cases h
 ·cases h;simp only[hg,jc,dg]
 ·cases h;simp only[hg,jc,dg]
 ·cases h;simp only[hg,jc,dg]
 ·split at h
  ·rename_i e1 e2;cases qE e1;cases qE e2;cases h;rfl
  ·cases h
 ·split at h
  ·rename_i e1;cases qE e1;cases h;simp only[hg,jc,dg]
  ·cases h
 all_goals cases h
 all_goals rfl
theorem CR{g:Unit->Bool}:∀{l z m:List AV},qR g l z=some m->(g ()=true->m=l)∧(g ()=false->m=z)
 | [],[],m,h=>by simp only[qR,cB]at h;subst h;exact⟨fun _=>rfl,fun _=>rfl⟩
 | a::r,z::s,m,h=>by
  simp only[qR]at h;split at h
  ·rename_i x y hx hy;cases h;have ih:=CR hy;exact⟨fun e=>by rw[Pk e hx,ih.1 e],fun e=>by rw[Pn e hx,ih.2 e]⟩
  ·cases h
 | [],_::_,m,h=>by simp[qR]at h
 | _::_,[],m,h=>by simp[qR]at h
def Ht{g:Unit->Bool}{e:Eff}:∀{wo acc:List (Nat×AO)} {e':Eff},aV S (pG g e wo acc) e'->(g ()=true∧e'=e)∨∃l,e'={ e with dst:=.may g e.dst,wo:=acc++l }∧(g ()=true->l=wo)∧(g ()=false->∀p∈l,S.obj p.1=p.2)
 | [],acc,e',h=>by
  simp only[pG]at h;have:=h.ret;subst this;exact .inr ⟨[],zsi,fun _=>rfl,fun _ p hp=>by cases hp⟩
 | (o,.box cs)::r,acc,e',h=>by
  simp only[pG]at h;replace h:=h.obj;split at h
  ·rename_i zs hz;split at h
   ·rename_i m hm;rcases Ht h with h1|⟨l,h1,h2,h3⟩
    ·exact .inl h1
    refine .inr ⟨(o,.box m)::l,by rw[h1,gF];rfl,fun hg=>by rw[h2 hg,(CR hm).1 hg],fun hg p hp=>?_⟩;rcases bW.1 hp with rfl|hp
    ·rw[(CR hm).2 hg];exact hz
    ·exact h3 hg p hp
   ·obtain⟨hc,h⟩:=h.cond;exact .inl ⟨hc,h.ret.symm⟩
  ·obtain⟨hc,h⟩:=h.cond;exact .inl ⟨hc,h.ret.symm⟩
 | (o,.none)::r,acc,e',h=>by
  simp only[pG]at h;obtain⟨hc,h⟩:=h.cond;exact .inl ⟨hc,h.ret.symm⟩
 | (o,.it ..)::r,acc,e',h=>by
  simp only[pG]at h;obtain⟨hc,h⟩:=h.cond;exact .inl ⟨hc,h.ret.symm⟩
 | (o,.arr ..)::r,acc,e',h=>by
  simp only[pG]at h;obtain⟨hc,h⟩:=h.cond;exact .inl ⟨hc,h.ret.symm⟩
theorem Hu{objs:List (Nat×AO)}:∀{wo:List (Nat×AO)} {l:List (Nat×AO)},(∀o,oL l o=oL objs o)->(∀p∈wo,oL objs p.1=p.2)->∀o,oL (gK l wo) o=oL objs o
 | [],_,h,_,o=>h o
 | (k,v)::r,l,h,hw,o=>by
  simp only[gK];refine Hu (fun o=>?_) (fun p hp=>hw p (cH _ hp)) o;rw[n8];unfold upd;split
  ·rename_i e;subst e;exact(hw _ dJ).symm
  ·exact h o
theorem yQ{g:Unit->Bool}:∀{m:M Eff} {e:Eff},aV S (m.under g) e->(g ()=true∧aV S m e)∨((g ()=false->(∃v,e.dst=.may g v)∧∀p∈e.wo,S.obj p.1=p.2)∧(g ()=true->∃e0,aV S m e0∧e.dst=.may g e0.dst∧e.wo=e0.wo∧e.new=e0.new∧e.call=e0.call))
 | .ret e0,e,h=>by
  simp only[M.under]at h;split at h
  ·rename_i hw;have:=h.ret;subst this;exact .inr ⟨fun _=>⟨⟨_,rfl⟩,fun p hp=>by simp only[hw]at hp;cases hp⟩,fun _=>⟨e0,.CQ e0,rfl,rfl,rfl,rfl⟩⟩
  ·rcases Ht h with⟨hg,rfl⟩|⟨l,rfl,h2,h3⟩
   ·exact .inl ⟨hg,.CQ _⟩
   ·exact .inr ⟨fun hg=>⟨⟨_,rfl⟩,fun p hp=>h3 hg p (by simpa using hp)⟩,fun hg=>⟨e0,.CQ e0,rfl,by simp[h2 hg],rfl,rfl⟩⟩
  ·obtain⟨hc,h⟩:=h.cond;exact .inl ⟨hc,h⟩
 | .fail,e,h=>h.fail.elim
 | @M.cond _ c _ k,e,h=>by
  obtain⟨hc,h⟩:=h.cond;rcases yQ h with⟨hg,⟨r,hr,hcs,hra⟩⟩|⟨h1,h3⟩
  ·refine .inl ⟨hg,⟨{ r with conds:=c::r.conds },by simp[M.run,hr],fun c' hc'=>?_,hra⟩⟩;rcases bW.1 hc' with rfl|hm
   ·exact hc hg
   ·exact hcs _ hm
  refine .inr ⟨h1,fun hg=>?_⟩;obtain⟨e0,⟨r,hr,hcs,hra⟩,q⟩:=h3 hg;refine⟨e0,⟨{ r with conds:=c::r.conds },by simp[M.run,hr],fun c' hc'=>?_,hra⟩,q⟩;rcases bW.1 hc' with rfl|hm
  ·exact hc hg
  ·exact hcs _ hm
 | .tmp t k,e,h=>by
  rcases yQ h.tmp with⟨hg,⟨r,hr,hcs,hra⟩⟩|⟨h1,h3⟩
  ·exact .inl ⟨hg,⟨{ r with rt:=t::r.rt },by simp[M.run,hr],hcs,hra⟩⟩
  refine .inr ⟨h1,fun hg=>?_⟩;obtain⟨e0,⟨r,hr,hcs,hra⟩,q⟩:=h3 hg;exact⟨e0,⟨{ r with rt:=t::r.rt },by simp[M.run,hr],hcs,hra⟩,q⟩
 | .obj t k,e,h=>by
  rcases yQ h.obj with⟨hg,⟨r,hr,hcs,hra⟩⟩|⟨h1,h3⟩
  ·exact .inl ⟨hg,⟨{ r with ro:=t::r.ro },by simp[M.run,hr],hcs,hra⟩⟩
  refine .inr ⟨h1,fun hg=>?_⟩;obtain⟨e0,⟨r,hr,hcs,hra⟩,q⟩:=h3 hg;exact⟨e0,⟨{ r with ro:=t::r.ro },by simp[M.run,hr],hcs,hra⟩,q⟩
abbrev FW(ro:Option Nat):Fence:={ fn:=fun _=>True,depth:=none,alive:=false,round:=ro }
def vT{ro:Option Nat}{n:Nat}{f:FuncId}{args:Array Value}{R:Ending->World->Prop}:CallsIn (FW ro) n P f args w R↔Calls P f args w R:=callsIn_wide
def CT{T:List (Nat×TI)}{aw:cL}{i:Nat}{g:Option (Unit->Bool)}(hy:aV S (pE T aw i g o) e):∀c,o.op≠.defer c:=by
 intro c h;unfold pE at hy;rw[h]at hy;exact hy.fail
def Goes.wp{ro:Option Nat}{n:Nat}(hd:∀c,o.op≠.defer c){K:Act->World->Prop}{Q:Exit->Act->World->Prop}(hg:Goes P E S a w o e)(hK:∀v w',After E S a e v w'->K (a.put o.dst v) w'):o.wpIn (FW ro) n P a w K Q:=by
 unfold Goes at hg;refine⟨fun _ _=>trivial,?_⟩;rw[Oper.semAt_eq _ _ _ hd];cases hr:(execOp a.eval o).run P w with
 | halt x w'=>rw[hr]at hg;exact hg.elim
 | ok n w'=>
  rw[hr]at hg;cases n with
  | value v=>exact hK _ _ hg
  | skip=>exact hK _ _ hg
  | enter f args=>
   rw[Oper.uponIn_enter];refine⟨(fun h=>by cases h),vT.2 (Calls.mono hg ?_)⟩;rintro en w'' ⟨v,rfl,ha⟩;exact hK _ _ ha
  | _=>exact hg.elim
def After.rel{v:Value}{w':World}(h:After E S a e v w'):Rel E (S.put (jL o e.dst) e.wo) (a.put o.dst v) w':=by
 obtain⟨β',h1,h2⟩:=h;refine⟨β',?_⟩;have lz:(S.put (jL o e.dst) e.wo).obj=fJ S e.wo:=rfl;have kP:(S.put (jL o e.dst) e.wo).tmps=match o.dst with|some d=>S.tmps.set d e.dst|none=>S.tmps:=by
  unfold AS.put jL;cases o.dst<;>rfl
 rw[lz,kP];have:=RelB.put (S:=⟨S.tmps,gK S.objs e.wo⟩) h1 h2 o.dst;exact this
def Po{g:Unit->Bool}{av:AV}(h:RelB E S.tmps S.obj a w β)(hw:∀p∈e.wo,S.obj p.1=p.2)(hd:e.dst=.may g av)(hg:g ()=false):After E S a e undef w:=by
 have hp:fJ S e.wo=S.obj:=funext fun o=>Hu (fun _=>rfl) hw o;refine⟨β,by rw[hp];exact h,?_⟩;rw[hp,hd];exact .may g av undef (fun e=>by rw[hg]at e;cases e) (fun _=>rfl)
def Pp{g:Unit->Bool}{e0:Eff}{v:Value}{w':World}(hd:e.dst=.may g e0.dst)(hw:e.wo=e0.wo)(hg:g ()=true)(h:After E S a e0 v w'):After E S a e v w':=by
 obtain⟨β',h1,h2⟩:=h;refine⟨β',by rw[hw];exact h1,?_⟩;rw[hw,hd];exact .may g _ v (fun _=>h2) (fun e=>by rw[hg]at e;cases e)
def bk.ok(P:Program)(c:Option (Unit->Bool)×bk):Prop:=(∀g,c.1=some g->g ()=true)->Af P c.2.f c.2.args c.2.objs c.2.res c.2.au
def Hv{ro:Option Nat}{n:Nat}(hT:cn P T)(h:RelB E S.tmps S.obj a w β){aw:cL}{ops:Array Oper}{i:Nat}(hi:ops[i]? = some o){g:Option (Unit->Bool)}(hy:aV S (tn T aw ops i o) (g,e))(hn:∀k∈e.new,S.bK k=true)
 (ap:∀c,e.call=some c->bk.ok P (g,c)) {K:Act->World->Prop} {Q:Exit->Act->World->Prop} (hK:∀v w',Rel E (S.put (jL o e.dst) e.wo) (a.put o.dst v) w'->K (a.put o.dst v) w'):wpOpIn (FW ro) n P ops Q i K a w:=by
 unfold wpOpIn;rw[hi];simp only;unfold tn at hy;split at hy
 ·rename_i hgd;obtain⟨e0,h1,hy⟩:=hy.bind;have:=hy.ret;simp only[nJ]at this;obtain⟨rfl,rfl⟩:=this;have hw:Region.wanted o (yielded ops a.tmps)=true:=by simp[Region.wanted,hgd]
  rw[ae hw];refine(Goes.wp (CT h1) (CO hT h (g:=none) (fun b hb=>by cases hb) h1 hn (fun c hc=>ap c hc (fun g hg=>by cases hg))) fun v w' ha=>hK v w' ha.rel)
 ·rename_i j want hgd;split at hy
  ·exact hy.fail.elim
  ·rename_i d hd;replace hy:=hy.tmp;have pK:=h.at d;have hyl:yielded ops a.tmps j=match a.tmps[d]? with|some (.bool b)=>some b|_=>none:=by
    unfold yielded;have:(ops[j]?).bind (·.dst)=some d:=by simpa using hd
    rw[this];rfl
   have key:∀(gd:Unit->Bool),(gd ()=true->Region.wanted o (yielded ops a.tmps)=true)->(gd ()=false->Region.wanted o (yielded ops a.tmps)=false) ->
    aV S (((pE T aw i (some gd) o).under gd).bind fun e=>M.ret (some gd,e)) (g,e) ->
    (if Region.wanted o (yielded ops a.tmps)=true then o.wpIn (FW ro) n P a w K Q else(∀f,o.about P w a.eval=some f->(FW ro).fn f)∧K (a.put o.dst undef) w):=by
    intro gd ht hf hy;obtain⟨e0,h1,hy⟩:=hy.bind;have:=hy.ret;simp only[nJ]at this;obtain⟨rfl,rfl⟩:=this;rcases yQ h1 with⟨hb,r1⟩|⟨q2,q3⟩
    ·rw[ae (ht hb)];exact Goes.wp (CT r1) (CO hT h (g:=some gd) (fun b hb'=>by cases hb';exact hb) r1 hn (fun c hc=>ap c hc (fun g hg=>by cases hg;exact hb))) fun v w' ha=>hK v w' ha.rel
    cases hb:gd ()with
    | true=>
     rw[ae (ht hb)];obtain⟨e1,r1,r2,r3,r4,r5⟩:=q3 hb;refine(Goes.wp (CT r1) (CO hT h (g:=some gd) (fun b hb'=>by cases hb';exact hb) r1 (fun k hk=>hn k (by rw[r4];exact hk)) (fun c hc=>ap c (by rw[r5];exact hc) (fun g hg=>by cases hg;exact hb))) fun v w' ha=>hK v w' (After.rel (Pp r2 r3 hb ha)))
    | false=>
     rw[aa (by rw[hf hb];simp)];obtain⟨⟨v,hv⟩,hw⟩:=q2 hb;exact⟨fun _ _=>trivial,hK undef w (After.rel (Po h hw hv hb))⟩
   split at hy
   ·rename_i b hb;rw[hb]at pK;have hv:=pK.gW;have pL:yielded ops a.tmps j=some (b ()):=by
     rw[hyl];cases hq:a.tmps[d]? with
     | none=>simp[jf,hq,undef]at hv
     | some u=>simp[jf,hq]at hv;subst hv;rfl
    refine key (fun _=>b ()==want) (fun e=>?_) (fun e=>?_) hy
    ·simp[Region.wanted,hgd,pL];simpa using e
    ·simp[Region.wanted,hgd,pL];simpa using e
   ·rename_i g' b hb;rw[hb]at pK;refine key (fun _=>g' ()&&b ()==want) (fun e=>?_) (fun e=>?_) hy
    ·simp only[az,dv]at e;have hv:=(pK.vC e.1).gW;have pL:yielded ops a.tmps j=some (b ()):=by
      rw[hyl];cases hq:a.tmps[d]? with
      | none=>simp[jf,hq,undef]at hv
      | some u=>simp[jf,hq]at hv;subst hv;rfl
     simp[Region.wanted,hgd,pL,e.2]
    ·cases hg':g' ()with
     | false=>
      have hv:=pK.NI hg';have pL:yielded ops a.tmps j=none:=by
       rw[hyl];cases hq:a.tmps[d]? with
       | none=>rfl
       | some u=>simp[jf,hq]at hv;subst hv;rfl
      simp[Region.wanted,hgd,pL]
     | true=>
      have hv:=(pK.vC hg').gW;have pL:yielded ops a.tmps j=some (b ()):=by
       rw[hyl];cases hq:a.tmps[d]? with
       | none=>simp[jf,hq,undef]at hv
       | some u=>simp[jf,hq]at hv;subst hv;rfl
      simp[Region.wanted,hgd,pL];simpa[hg']using e
   ·exact hy.fail.elim
end
def cq(E:Nat->Bool):Nat->List Log->AS->AS
 | _,[],S=>S
 | i,l::r,S=>cq E (i+1) r (if E i then S.put l.wt l.wo else S)
def yR(S:AS)(wt:List (Nat×AV))(wo:List (Nat×AO)):(S.put wt wo).tmps.length=S.tmps.length:=by
 unfold AS.put;cases wt with
 | nil=>rfl
 | cons p r=>obtain⟨t,v⟩:=p;simp
theorem pM(E:Nat->Bool):∀(logs:List Log) (i:Nat) (S:AS),(cq E i logs S).tmps.length=S.tmps.length
 | [],i,S=>rfl
 | l::r,i,S=>by
  simp only[cq];rw[pM E r];split
  ·exact yR _ _ _
  ·rfl
def Hw(S:AS){wt:List (Nat×AV)}(wo:List (Nat×AO)){t:Nat}(h:wt.length<=1)(ht:t∉wt.map (·.1)):(S.put wt wo).tmp t=S.tmp t:=by
 unfold AS.put AS.tmp
 match wt,h with
 | [],_=>rfl
 | [(t',v)],_=>
  simp at ht;simp only[cz];rw[List.getElem?_set_ne (qI ht)]
theorem CU:∀(wo l:List (Nat×AO)) {o:Nat},o∉wo.map (·.1)->oL (gK l wo) o=oL l o
 | [],l,o,_=>rfl
 | (k,v)::r,l,o,h=>by
  simp at h;simp only[gK];rw[CU r _ (by simpa using h.2),n8];simp[upd,h.1]
theorem CV:∀(wo l l':List (Nat×AO)) {o:Nat},(o∈wo.map (·.1)∨oL l o=oL l' o)->oL (gK l wo) o=oL (gK l' wo) o
 | [],l,l',o,h=>by simpa[gK]using h
 | (k,v)::r,l,l',o,h=>by
  simp only[gK];refine CV r _ _ ?_;by_cases hk:o=k
  ·subst hk;right;rw[n8,n8];simp[upd]
  ·rcases h with h|h
   ·simp[hk]at h;exact .inl (by simpa using h)
   ·right;rw[n8,n8];simp[upd,hk,h]
def Pq(S S':AS){wt:List (Nat×AV)}(wo Ps:List (Nat×AO)){t:Nat}(hl:S.tmps.length=S'.tmps.length)(h:S.tmp t=S'.tmp t):(S.put wt wo).tmp t=(S'.put wt Ps).tmp t:=by
 unfold AS.put AS.tmp at*;cases wt with
 | nil=>exact h
 | cons p r=>
  obtain⟨t',v⟩:=p;simp only[cz,xM,hl]at*;split
  ·rfl
  ·exact h
theorem tK(E E':Nat->Bool){t:Nat}:∀(logs:List Log) (i:Nat) (S S':AS),(∀l∈logs,l.wt.length<=1)->(∀(k:Nat) (l:Log),logs[k]? = some l->t∈l.wt.map (·.1)->E (i+k)=E' (i+k))->S.tmps.length=S'.tmps.length->S.tmp t=S'.tmp t ->
 (cq E i logs S).tmp t=(cq E' i logs S').tmp t
 | [],i,S,S',_,_,_,h=>h
 | l::r,i,S,S',h1,h,hl,hs=>by
  simp only[cq];refine tK E E' r (i+1) _ _ (fun l hl=>h1 l (by simp[hl])) (fun k l hk ht=>by have:=h (k+1) l (by simpa using hk) ht;rwa [show i+(k+1)=i+1+k by omega]at this) (by split<;>split<;>simp[yR,hl]) ?_;by_cases ht:t∈l.wt.map (·.1)
  ·have:=h 0 l zsi ht;simp only[fE]at this;rw[this];split
   ·exact Pq _ _ _ _ hl hs
   ·exact hs
  ·have hw:=h1 l zsi;split<;>split<;>simp only[Hw _ _ hw ht,hs]
theorem tL(E E':Nat->Bool){o:Nat}:∀(logs:List Log) (i:Nat) (S S':AS),(∀(k:Nat) (l:Log),logs[k]? = some l->o∈l.wo.map (·.1)->E (i+k)=E' (i+k))->S.obj o=S'.obj o ->
 (cq E i logs S).obj o=(cq E' i logs S').obj o
 | [],i,S,S',_,h=>h
 | l::r,i,S,S',h,hs=>by
  simp only[cq];refine tL E E' r (i+1) _ _ (fun k l hk ht=>by have:=h (k+1) l (by simpa using hk) ht;rwa [show i+(k+1)=i+1+k by omega]at this) ?_;by_cases ht:o∈l.wo.map (·.1)
  ·have:=h 0 l zsi ht;simp only[fE]at this;rw[this];split
   ·exact CV l.wo _ _ (.inl ht)
   ·exact hs
  ·have e:∀S:AS,(S.put l.wt l.wo).obj o=S.obj o:=fun S=>CU l.wo S.objs ht;split<;>split<;>simp only[e,hs]
theorem Hy(E:Nat->Bool){t:Nat}:∀(logs:List Log) (i n:Nat) (S S':AS) (l:Log),(∀l∈logs,l.wt.length<=1)->logs[n]? = some l->t∈l.wt.map (·.1)->E (i+n)=true ->
 (∀(k:Nat) (m:Log),n<k->logs[k]? = some m->t∈m.wt.map (·.1)->E (i+k)=false)->S.tmps.length=S'.tmps.length->(cq E i logs S).tmp t=(S'.put l.wt l.wo).tmp t
 | [],i,n,S,S',l,_,h,_,_,_,_=>by simp at h
 | m::r,i,0,S,S',l,h1,h,ht,hE,qY,hl=>by
  simp at h;subst h;simp only[cq];simp only[fE]at hE;rw[hE];simp only[bC];have hself:(S.put m.wt m.wo).tmp t=(S'.put m.wt m.wo).tmp t:=by
   match hm:m.wt,h1 m (by simp)with
   | [],_=>rw[hm]at ht;simp at ht
   | [(t',v)],_=>
    rw[hm]at ht;simp at ht;subst ht;unfold AS.put AS.tmp;simp[cz,xM,hl]
  rw[<- hself]
  have:=tK E (fun _=>false) (t:=t) r (i+1) (S.put m.wt m.wo) (S.put m.wt m.wo) (fun l hl=>h1 l (by simp[hl])) (fun k l hk ht'=>by
   have:=qY (k+1) l zo (by simpa using hk) ht'
   rwa [show i+(k+1)=i+1+k by omega]at this) rfl rfl
  rw[this];have hid:∀(logs:List Log) (i:Nat) (S:AS),cq (fun _=>false) i logs S=S:=by
   intro logs
   induction logs with
   | nil=>intro i S;rfl
   | cons l r ih=>intro i S;simp[cq,ih]
  rw[hid]
 | m::r,i,n+1,S,S',l,h1,h,ht,hE,qY,hl=>by
  simp only[cq]
  refine Hy E r (i+1) n _ S' l (fun l hl=>h1 l (by simp[hl])) (by simpa using h) ht (by rwa [show i+1+n=i+(n+1) by omega]) (fun k m hk hm ht'=>by
   have:=qY (k+1) m zo (by simpa using hm) ht'
   rwa [show i+(k+1)=i+1+k by omega]at this) (by split<;>simp[yR,hl])
theorem Hz(E:Nat->Bool){o:Nat}:∀(logs:List Log) (i n:Nat) (S S':AS) (l:Log),logs[n]? = some l->o∈l.wo.map (·.1)->E (i+n)=true ->
 (∀(k:Nat) (m:Log),n<k->logs[k]? = some m->o∈m.wo.map (·.1)->E (i+k)=false)->(cq E i logs S).obj o=(S'.put l.wt l.wo).obj o
 | [],i,n,S,S',l,h,_,_,_=>by simp at h
 | m::r,i,0,S,S',l,h,ht,hE,qY=>by
  simp at h;subst h;simp only[cq];simp only[fE]at hE;rw[hE];simp only[bC];have hself:(S.put m.wt m.wo).obj o=(S'.put m.wt m.wo).obj o:=CV m.wo _ _ (.inl ht);rw[<- hself]
  have:=tL E (fun _=>false) (o:=o) r (i+1) (S.put m.wt m.wo) (S.put m.wt m.wo) (fun k l hk ht'=>by
   have:=qY (k+1) l zo (by simpa using hk) ht'
   rwa [show i+(k+1)=i+1+k by omega]at this) rfl
  rw[this];have hid:∀(logs:List Log) (i:Nat) (S:AS),cq (fun _=>false) i logs S=S:=by
   intro logs
   induction logs with
   | nil=>intro i S;rfl
   | cons l r ih=>intro i S;simp[cq,ih]
  rw[hid]
 | m::r,i,n+1,S,S',l,h,ht,hE,qY=>by
  simp only[cq]
  refine Hz E r (i+1) n _ S' l (by simpa using h) ht (by rwa [show i+1+n=i+(n+1) by omega]) (fun k m hk hm ht'=>by
   have:=qY (k+1) m zo (by simpa using hm) ht'
   rwa [show i+(k+1)=i+1+k by omega]at this)
theorem yS{α:Type}{S S':AS}:∀{m:M α} {r:Run α},m.run S=some r->(∀t∈r.rt,S'.tmp t=S.tmp t)->(∀o∈r.ro,S'.obj o=S.obj o)->m.run S'=some r
 | .ret a,r,h,_,_=>h
 | .fail,r,h,_,_=>by simp[M.run]at h
 | @M.cond _ c _ k,r,h,h1,h2=>by
  simp only[M.run]at h ⊢;split at h
  ·rename_i r' hr;simp at h;subst h;rw[yS hr h1 h2]
  ·cases h
 | .tmp t k,r,h,h1,h2=>by
  simp only[M.run]at h ⊢;split at h
  ·rename_i r' hr;simp at h;subst h;rw[h1 t zsi,yS hr (fun t ht=>h1 t (by simp[ht])) h2]
  ·cases h
 | .obj o k,r,h,h1,h2=>by
  simp only[M.run]at h ⊢;split at h
  ·rename_i r' hr;simp at h;subst h;rw[h2 o zsi,yS hr h1 (fun t ht=>h2 t (by simp[ht]))]
  ·cases h
theorem HA{d:Nat}:∀{l:List AV} {t:Nat} {v:AV},AV.nL d l=true->AV.nL d [v]=true->AV.nL d (l.set t v)=true
 | [],t,v,h,_=>by simpa using h
 | c::r,0,v,h,hv=>na.2 ⟨hv,(na.1 h).2⟩
 | c::r,t+1,v,h,hv=>by
  rw[List.set_cons_succ];exact na.2 ⟨(na.1 h).1,HA (na.1 h).2 hv⟩
theorem HB{d:Nat}{v:AO}(hv:v.bK d=true):∀{l:List (Nat×AO)} {o:Nat},(l.all fun p=>p.2.bK d)=true->((oset l o v).all fun p=>p.2.bK d)=true
 | [],o,_=>by simp[oset,hv]
 | (i,x)::r,o,h=>by
  simp only[qD,az]at h;simp only[oset];split
  ·simp only[qD,az];exact⟨hv,h.2⟩
  ·simp only[qD,az];exact⟨h.1,HB hv h.2⟩
theorem HC{d:Nat}:∀{wo l:List (Nat×AO)},(wo.all fun p=>p.2.bK d)=true->(l.all fun p=>p.2.bK d)=true->((gK l wo).all fun p=>p.2.bK d)=true
 | [],l,_,h=>h
 | (o,v)::r,l,hw,h=>by
  simp only[qD,az]at hw;simp only[gK];exact HC hw.2 (HB hw.1 h)
def Pt{S:AS}{l:Log}{d:Nat}(h:S.bK d=true)(hl:l.refers d=false):(S.put l.wt l.wo).bK d=true:=by
 simp only[Log.refers,Bool.not_eq_false',az]at hl;simp only[AS.bK,az]at h ⊢;refine⟨⟨?_,HC hl.2 h.1.2⟩,h.2⟩;unfold AS.put
 match hw:l.wt with
 | []=>exact h.1.1
 | (t,v)::r=>
  have h1:=hl.1;rw[hw]at h1;exact HA h.1.1 (na.1 (by simpa using h1)).1
theorem HE(E:Nat->Bool){d:Nat}:∀(logs:List Log) (i:Nat) (S:AS),S.bK d=true->(∀(k:Nat) (l:Log),logs[k]? = some l->E (i+k)=true->l.refers d=false)->(cq E i logs S).bK d=true
 | [],i,S,h,_=>h
 | l::r,i,S,h,hl=>by
  simp only[cq];refine HE E r (i+1) _ ?_ (fun k m hk hE=>hl (k+1) m (by simpa using hk) (by rwa [show i+(k+1)=i+1+k by omega]));split
  ·rename_i hE;exact Pt h (hl 0 l zsi (by simpa using hE))
  ·exact h
structure Pu(T:List (Nat×TI))(aw:cL)(ops:Array Oper)(i:Nat)(o:Oper)(S:AS)(conds:List (Unit->Prop))(calls:List (Option (Unit->Bool)×bk))(l:Log):Prop where
 ex:∃g e cs,(tn T aw ops i o).run S=some ⟨(g,e),cs,l.rt,l.ro⟩∧(∀c∈cs,c∈conds)∧(∀c,e.call=some c->(g,c)∈calls)∧l.wt=jL o e.dst∧l.wo=e.wo∧l.new=e.new
theorem tM{T:List (Nat×TI)}{aw:cL}{ops:Array Oper}:∀(l:List Oper) (i:Nat) (S:AS) (out:Out),lx T aw ops i l S=some out ->
 out.logs.length=l.length∧out.S=cq (fun _=>true) i out.logs S∧∀(k:Nat) (o:Oper),l[k]? = some o->∃lg,out.logs[k]? = some lg∧Pu T aw ops (i+k) o (cq (fun j=>decide (j<i+k)) i out.logs S) out.conds out.calls lg
 | [],i,S,out,h=>by
  simp[lx]at h;subst h;exact⟨rfl,rfl,fun k o hk=>by simp at hk⟩
 | o::rest,i,S,out,h=>by
  simp only[lx]at h;split at h
  ·cases h
  ·rename_i g e conds rt ro hr;split at h
   ·cases h
   ·rename_i out' ho;simp at h;subst h;obtain⟨h1,h2,h3⟩:=tM rest (i+1) _ out' ho;refine⟨by simp[h1],by simp[cq,h2],fun k o' hk=>?_⟩;cases k with
    | zero=>
     simp at hk;subst hk;refine⟨_,rfl,?_⟩;have hnone:∀(logs:List Log) (j:Nat) (S:AS),i<=j->cq (fun j=>decide (j<i+0)) j logs S=S:=by
      intro logs
      induction logs with
      | nil=>intro j S _;rfl
      | cons l r ih=>intro j S hj;simp only[cq];rw[aa (by simp;omega)];exact ih _ _ zo
     rw[hnone _ _ _ (ao _)];exact⟨g,e,conds,by simpa using hr,fun c hc=>by simp[hc],fun c hc=>by simp[hc],rfl,rfl,rfl⟩
    | succ k=>
     obtain⟨lg,q1,⟨g',e',cs,q2,q3,q4,q5⟩⟩:=h3 k o' (by simpa using hk);refine⟨lg,by simpa using q1,⟨g',e',cs,?_,fun c hc=>by simp[q3 c hc],fun c hc=>by simp[q4 c hc],q5⟩⟩;simp only[cq];rw[ae zsi];rw[show i+(k+1)=i+1+k by omega];exact q2
section
variable {P:Program}{E:Env}{T:List (Nat×TI)}{aw:cL}{ops:Array Oper}{S:AS}{kF:Nat->Nat->Bool}{out:Out}
def Rel.same{S S':AS}{a:Act}{w:World}(h:Rel E S a w)(hl:S.tmps.length=S'.tmps.length)(ht:∀t,S.tmp t=S'.tmp t)(ho:∀o,S.obj o=S'.obj o):Rel E S' a w:=by
 obtain⟨β,hb⟩:=h;have e1:S.tmps=S'.tmps:=by
  apply FA hl;intro i h1 h2;have:=ht i;simp only[AS.tmp,cz,bf h1,bf h2,qF]at this;exact this
 have e2:S.obj=S'.obj:=funext ho;exact⟨β,by rw[<- e1,<- e2];exact hb⟩
def vU{α:Type}{p:α×Nat->Bool}{l:List α}(h:l.zipIdx.all p=true){i:Nat}{x:α}(hi:l[i]? = some x):p (x,i)=true:=by
 rw[cI]at h;refine h _ (je (i:=i) ?_);rw[List.getElem?_zipIdx,hi];simp
def HF{ro:Option Nat}{n:Nat}(hT:cn P T)(ho:lx T aw ops 0 ops.toList S=some out)(hok:m8 S kF out.logs=true)(hc:∀c∈out.conds,c ())(hcl:∀c∈out.calls,bk.ok P c)
 {done:Nat->Bool} {i:Nat} {o:Oper} (hi:ops[i]? = some o) (hnd:done i=false) (h1:∀j,kF j i=true->done j=true) (h2:∀j,kF i j=true->done j=false)
 {a:Act} {w:World} (hr:Rel E (cq done 0 out.logs S) a w) {Q:Exit->Act->World->Prop} {K:Act->World->Prop} (hK:∀a' w',Rel E (cq (fun j=>done j||j==i) 0 out.logs S) a' w'->K a' w'):wpOpIn (FW ro) n P ops Q i K a w:=by
 obtain⟨q1,q2,q3⟩:=tM _ _ _ _ ho;obtain⟨lg,pN,⟨g,e,cs,hrun,hcs,hcall,hwt,hwo,hnew⟩⟩:=q3 i o (by simpa using hi);simp only[eC]at hrun;have tO:∀l∈out.logs,l.wt.length<=1:=by
  intro l hl;obtain⟨k,hk⟩:=pf hl;have hkl:k<ops.toList.length:=by rw[<- q1];exact(bX.1 hk).1
  obtain⟨HG,pP,⟨_,e',_,_,_,_,hw,_⟩⟩:=q3 k _ (bf hkl);rw[hk]at pP;cases pP;rw[hw];unfold jL;split<;>simp
 have HH:∀(j:Nat) (m:Log),out.logs[j]? = some m->j≠i->(lg.clash m=true->kF i j=true∨kF j i=true)∧(kF i j=true->i<j)∧(∀d∈lg.new,m.refers d=true->kF i j=true):=by
  intro j m hm hji;have:=vU hok pN;simp only[az]at this;have:=vU this.2 hm;simp only[az]at this;obtain⟨⟨g1,g2⟩,g3⟩:=this;have hij:(i==j)=false:=by simp[qI hji]
  refine⟨fun hcl=>?_,fun hb=>?_,fun d hd hrf=>?_⟩
  ·rw[hij,hcl]at g2;simpa using g2
  ·rw[hb]at g1;simpa using g1
  ·rw[hij]at g3;simp only[Bc,cI]at g3;have:=g3 d hd;rw[hrf]at this;simpa using this
 have hrev:∀(j:Nat) (m:Log),out.logs[j]? = some m->j≠i->kF j i=true->j<i:=by
  intro j m hm hji hb;have:=vU hok hm;simp only[az]at this;have:=vU this.2 pN;simp only[az]at this;rw[hb]at this;simpa using this.1.1
 have hit:∀{x y:List Nat} {t:Nat},t∈x->t∈y->hits x y=true:=fun h1 h2=>by
  unfold hits;rw[o9];exact⟨_,h1,by simpa using h2⟩
 have yT:∀(j:Nat) (m:Log),out.logs[j]? = some m->(j=i∨lg.clash m=true)->done j=decide (j<i):=by
  intro j m hm hcase;by_cases hji:j=i
  ·subst hji;rw[hnd];simp
  ·obtain⟨c1,c2,_⟩:=HH j m hm hji;rcases c1 (hcase.resolve_left hji)with hb|hb
   ·rw[h2 j hb];have:=c2 hb;simp;omega
   ·rw[h1 j hb];have:=hrev j m hm hji hb;simp;omega
 have Pv:∀t∈lg.rt,(cq done 0 out.logs S).tmp t=(cq (fun j=>decide (j<i)) 0 out.logs S).tmp t:=by
  intro t ht;refine tK _ _ out.logs 0 S S tO (fun k m hm kP=>?_) rfl rfl;rw[eC];refine yT k m hm (.inr ?_);unfold Log.clash;simp only[eU];exact .inl (.inl (.inr (hit ht kP)))
 have lz:∀o'∈lg.ro,(cq done 0 out.logs S).obj o'=(cq (fun j=>decide (j<i)) 0 out.logs S).obj o':=by
  intro o' ho';refine tL _ _ out.logs 0 S S (fun k m hm kP=>?_) rfl;rw[eC];refine yT k m hm (.inr ?_);unfold Log.clash;simp only[eU];exact .inr (hit ho' kP)
 have Pw:=yS hrun Pv lz;obtain⟨β,hb⟩:=hr;refine Hv hT (S:=cq done 0 out.logs S) hb hi (g:=g) (e:=e) ⟨_,Pw,fun c hcm=>hc c (hcs c hcm),rfl⟩ (fun k hk=>?_) (fun c hcc=>hcl _ (hcall c hcc)) (fun v w' hrel=>hK _ _ ?_)
 ·-- what is new
  have hkn:k∈lg.new:=by rw[hnew];exact hk
  have:=vU hok pN;simp only[az]at this;have hS:S.bK k=true:=cI.1 this.1 k hkn;refine HE done out.logs 0 S hS (fun j m hm hdone=>?_);rw[eC]at hdone;have hji:j≠i:=by rintro rfl;rw[hnd]at hdone;cases hdone
  cases hrf:m.refers k with
  | false=>rfl
  | true=>
   have:=(HH j m hm hji).2.2 k hkn hrf;rw[h2 j this]at hdone;cases hdone
 ·-- the state behind it
  rw[<- hwt,<- hwo]at hrel;refine hrel.same (by rw[yR,pM,pM]) (fun t=>?_) (fun o'=>?_)
  ·by_cases ht:t∈lg.wt.map (·.1)
   ·refine(Hy (fun j=>done j||j==i) out.logs 0 i S (cq done 0 out.logs S) lg tO pN ht zsi (fun k m hk hm kP=>?_) (by rw[pM])).symm;have hki:k≠i:=by omega
    have hcl:lg.clash m=true:=by
     unfold Log.clash;simp only[eU];exact .inl (.inl (.inl (hit ht (Ba _ kP))))
    have:=yT k m hm (.inr hcl);simp[this];omega
   ·rw[Hw _ _ (tO lg (je pN)) ht];refine tK _ _ out.logs 0 S S tO (fun k m hm kP=>?_) rfl rfl;rw[eC];have hki:k≠i:=by
     rintro rfl;rw[pN]at hm;cases hm;exact ht kP
    simp[hki]
  ·by_cases ht:o'∈lg.wo.map (·.1)
   ·refine(Hz (fun j=>done j||j==i) out.logs 0 i S (cq done 0 out.logs S) lg pN ht zsi (fun k m hk hm kP=>?_)).symm;have hki:k≠i:=by omega
    have hcl:lg.clash m=true:=by
     unfold Log.clash;simp only[eU];exact .inl (.inr (hit ht (Ba _ kP)))
    have:=yT k m hm (.inr hcl);simp[this];omega
   ·have e:((cq done 0 out.logs S).put lg.wt lg.wo).obj o'=(cq done 0 out.logs S).obj o':=CU lg.wo _ ht;rw[e];refine tL _ _ out.logs 0 S S (fun k m hm kP=>?_) rfl;rw[eC];have hki:k≠i:=by
     rintro rfl;rw[pN]at hm;cases hm;exact ht kP
    simp[hki]
theorem HI{ro:Option Nat}{m:Nat}(hT:cn P T)(ho:lx T aw ops 0 ops.toList S=some out)(hok:m8 S (fun i j=>decide (i<j)) out.logs=true)(hc:∀c∈out.conds,c ())(hcl:∀c∈out.calls,bk.ok P c)
 {Q:Exit->Act->World->Prop} (hQ:∀a w,Rel E out.S a w->Q .normal a w):∀(n i:Nat) (a:Act) (w:World),i+n=ops.size->Rel E (cq (fun j=>decide (j<i)) 0 out.logs S) a w->wpOpsIn (FW ro) m P ops Q (List.range' i n) a w
 | 0,i,a,w,hn,hr=>by
  simp only[List.range'_zero,wpOpsIn];obtain⟨q1,q2,_⟩:=tM _ _ _ _ ho;refine hQ _ _ ?_;rw[q2];refine hr.same (by rw[pM,pM]) (fun t=>?_) (fun o=>?_)
  ·refine tK _ _ out.logs 0 S S ?_ (fun k m hm _=>?_) rfl rfl
   ·intro l hl;obtain⟨k,hk⟩:=pf hl;obtain⟨_,_,q3⟩:=tM _ _ _ _ ho;have hkl:k<ops.toList.length:=by rw[<- q1];exact(bX.1 hk).1
    obtain⟨HG,pP,⟨_,e',_,_,_,_,hw,_⟩⟩:=q3 k _ (bf hkl);rw[hk]at pP;cases pP;rw[hw];unfold jL;split<;>simp
   ·have:=(bX.1 hm).1;rw[q1]at this;simp at this;simp;omega
  ·refine tL _ _ out.logs 0 S S (fun k m hm _=>?_) rfl;have:=(bX.1 hm).1;rw[q1]at this;simp at this;simp;omega
 | n+1,i,a,w,hn,hr=>by
  rw[FD,wpOpsIn_cons];have hlt:i<ops.size:=zo
  refine HF hT ho hok hc hcl (done:=fun j=>decide (j<i)) (i:=i) (o:=ops[i]) (by simp[hlt]) zsi (fun j hj=>by simpa using hj) (fun j hj=>by simp at hj ⊢;omega) hr (fun a' w' hr'=>?_);refine HI hT ho hok hc hcl hQ n (i+1) a' w' zo ?_;have:(fun j=>decide (j<i)||j==i)=fun j=>decide (j<i+1):=by
   funext j;by_cases h1:j<i
   ·have:j<i+1:=by omega
    simp[h1,this]
   ·by_cases h2:j=i
    ·subst h2;simp
    ·have:¬j<i+1:=by omega
     simp[h1,h2,this]
  rw[this]at hr';exact hr'
theorem CW{acc:List Nat}{j:Nat}:∀{es:List Edge},(bits acc es).testBit j=true->∃e∈es,Region.binds .any e=true∧(e.on=j∨(acc.getD e.on 0).testBit j=true)
 | [],h=>by simp[bits]at h
 | e::r,h=>by
  simp only[bits]at h;split at h
  ·rename_i hb;rw[Nat.testBit_or,Nat.testBit_or,eU,eU]at h;rcases h with h|h|h
   ·obtain⟨e',h1,h2⟩:=CW h;exact⟨e',cH _ h1,h2⟩
   ·rw[Nat.testBit_two_pow]at h;exact⟨e,zsi,hb,.inl (by simpa using h)⟩
   ·exact⟨e,zsi,hb,.inr h⟩
  ·obtain⟨e',h1,h2⟩:=CW h;exact⟨e',cH _ h1,h2⟩
theorem HJ:∀(l:List Oper) (acc:List Nat),(∀k,k<acc.length->(gh l acc)[k]? = acc[k]?) ∧
 ∀k (o:Oper),l[k]? = some o->∃pre:List Nat,pre.length=acc.length+k∧(gh l acc)[acc.length+k]? = some (bits pre o.after.toList)∧∀m,m<pre.length->(gh l acc)[m]? = pre[m]?
 | [],acc=>⟨fun k _=>rfl,fun k o h=>by simp at h⟩
 | o::r,acc=>by
  obtain⟨h1,h2⟩:=HJ r (acc++[bits acc o.after.toList]);refine⟨fun k hk=>?_,fun k o' hk=>?_⟩
  ·simp only[gh];rw[h1 k (by simp;omega),gS hk]
  ·cases k with
   | zero=>
    simp at hk;subst hk;refine⟨acc,rfl,?_,fun m hm=>?_⟩
    ·simp only[gh,fE];rw[h1 _ zsi];simp
    ·simp only[gh];rw[h1 m (by simp;omega),gS hm]
   | succ k=>
    obtain⟨pre,p1,p2,p3⟩:=h2 k o' (by simpa using hk);simp only[du,List.length_singleton]at p1 p2;refine⟨pre,zo,?_,fun m hm=>?_⟩
    ·simp only[gh];rw[show acc.length+(k+1)=acc.length+1+k by omega];exact p2
    ·simp only[gh];exact p3 m hm
theorem CX:∀{l:List Oper} {i:Nat},m7 i l=true->∀(k:Nat) (o:Oper),l[k]? = some o->∀e∈o.after,Region.binds .any e=true->e.on<i+k
 | [],i,_,k,o,h=>by simp at h
 | o::r,i,h,k,o',hk=>by
  simp only[m7,az]at h;cases k with
  | zero=>
   simp at hk;subst hk;intro e he hb;have:=cI.1 h.1 e (by simpa using he);rw[hb]at this;simpa using this
  | succ k=>
   intro e he hb;have:=CX h.2 k o' (by simpa using hk) e he hb;omega
def HK{listed:Nat->Bool}(hed:m7 0 ops.toList=true)(hcl:∀i o,ops[i]? = some o->listed i=true->∀e∈o.after,Region.binds .any e=true->listed e.on=true):
 ∀(n i j:Nat) (o:Oper),i<n->ops[i]? = some o->((gh ops.toList []).getD i 0).testBit j=true->(∀e∈o.after,Region.binds .any e=true->listed e.on=true)->listed j=true:=by
 intro n
 induction n with
 | zero=>intro i j o hi;omega
 | succ n ih=>
  intro i j o hi CY hb Px;obtain⟨_,h2⟩:=HJ ops.toList [];obtain⟨pre,p1,p2,p3⟩:=h2 i o (by simpa using CY);simp only[bV,eC]at p1 p2;rw[cz,p2,qF]at hb;obtain⟨e,he,hbe,hcase⟩:=CW hb;have hlt:=CX hed i o (by simpa using CY) e (by simpa using he) hbe;have hle:=Px e (by simpa using he) hbe;rcases hcase with rfl|hcase
  ·exact hle
  ·have hon:e.on<ops.size:=by
    have:=(d8.1 CY).1;omega
   refine ih e.on j ops[e.on] zo (by simp[hon]) ?_ (fun e' he' hb'=>hcl e.on _ (by simp[hon]) hle e' he' hb');rw[cz]at hcase ⊢;rw[p3 e.on zo];exact hcase
def Py{ro:Option Nat}{n:Nat}(hT:cn P T)(ho:lx T aw ops 0 ops.toList S=some out)(hok:m8 S (pH true ops.toList) out.logs=true)(hed:m7 0 ops.toList=true)(hc:∀c∈out.conds,c ())(hcl:∀c∈out.calls,bk.ok P c)
 {Q:Exit->Act->World->Prop} (hQ:∀a w,Rel E out.S a w->Q .normal a w):∀(fuel:Nat) (listed:Array Bool) (a:Act) (w:World),listed.size=ops.size->(listed.toList.filter (fun b=>!b)).length<=fuel ->
  (∀i o,ops[i]? = some o->listed.getD i true=true->∀e∈o.after,Region.binds .any e=true->listed.getD e.on false=true) ->
  Rel E (cq (fun j=>listed.getD j true) 0 out.logs S) a w->wpAnyIn (FW ro) n P .any ops Q fuel listed a w:=by
 obtain⟨q1,q2,q3⟩:=tM _ _ _ _ ho;have tO:∀l∈out.logs,l.wt.length<=1:=by
  intro l hl;obtain⟨k,hk⟩:=pf hl;have hkl:k<ops.toList.length:=by rw[<- q1];exact(bX.1 hk).1
  obtain⟨HG,pP,⟨_,e',_,_,_,_,hw,_⟩⟩:=q3 k _ (bf hkl);rw[hk]at pP;cases pP;rw[hw];unfold jL;split<;>simp
 have hdone:∀(listed:Array Bool),listed.size=ops.size->Region.ready .any ops listed=[]->∀i,i<ops.size->listed.getD i true=true:=by
  intro listed hsz hrd;intro i
  induction i using Nat.strongRecOn with
  | _ i ih=>
   intro hi;cases hb:listed.getD i true with
   | true=>rfl
   | false=>
    exfalso;have hm:i∈Region.ready .any ops listed:=by
     unfold Region.ready;rw[xT];refine⟨by simp[hi],?_⟩;rw[hb];rw[Bool.not_false,xU,dC hi,eM,qF];rw[Array.all_eq_true'];intro e he;cases hbe:Region.binds .any e with
     | false=>rfl
     | true=>
      have hlt:=CX hed i ops[i] (by simp[hi]) e he hbe;have:=ih e.on zo zo;have hlt2:e.on<listed.size:=zo
      simp[Array.getD,hlt2]at this ⊢;exact this
    rw[hrd]at hm;cases hm
 have hfin:∀(listed:Array Bool) (a:Act) (w:World),listed.size=ops.size->Region.ready .any ops listed=[]->Rel E (cq (fun j=>listed.getD j true) 0 out.logs S) a w->Q .normal a w:=by
  intro listed a w hsz hrd hr;refine hQ _ _ ?_;rw[q2];have hall:∀k,k<out.logs.length->listed.getD k true=true:=fun k hk=>hdone listed hsz hrd k (by rw[q1]at hk;simpa using hk);refine hr.same (by rw[pM,pM]) (fun t=>tK _ _ out.logs 0 S S tO (fun k m hm _=>?_) rfl rfl) (fun o=>tL _ _ out.logs 0 S S (fun k m hm _=>?_) rfl)
  ·simpa using hall k (bX.1 hm).1
  ·simpa using hall k (bX.1 hm).1
 intro fuel
 induction fuel with
 | zero=>
  intro listed a w hsz hf vV hr;have hrd:Region.ready .any ops listed=[]:=by
   rw[List.eq_nil_iff_forall_not_mem];intro i hi;unfold Region.ready at hi;rw[xT]at hi;simp only[az,ij]at hi;have hlt:i<listed.size:=by have:=hi.1;simp at this;omega
   have hfalse:listed[i]=false:=by have:=hi.2.1;simpa[Array.getD,hlt]using this
   have hnil:listed.toList.filter (fun b=>!b)=[]:=qH zo;have:=List.filter_eq_nil_iff.1 hnil listed[i] zsi;rw[hfalse]at this;simp at this
  exact⟨hrd,hfin listed a w hsz hrd hr⟩
 | succ fuel ih=>
  intro listed a w hsz hf vV hr;refine⟨fun hrd=>hfin listed a w hsz hrd hr,fun i hi=>?_⟩;unfold Region.ready at hi;rw[xT]at hi;simp only[az,ij]at hi;obtain⟨hir,hil,hie⟩:=hi;have hlt:i<ops.size:=by simpa using hir
  have hlt2:i<listed.size:=zo
  have hpre:∀e∈ops[i].after,Region.binds .any e=true->listed.getD e.on false=true:=by
   rw[dC hlt,eM,qF]at hie;rw[Array.all_eq_true']at hie;intro e he hb;have:=hie e he;rw[hb]at this;simpa using this
  have hgd:∀j,listed.getD j false=true->listed.getD j true=true:=by
   intro j hj;by_cases h:j<listed.size
   ·simp[Array.getD,h]at hj ⊢;exact hj
   ·simp[Array.getD,h]
  refine HF hT ho hok hc hcl (done:=fun j=>listed.getD j true) (i:=i) (o:=ops[i]) (by simp[hlt]) hil (fun j hj=>?_) (fun j hj=>?_) hr (fun a' w' hr'=>?_)
  ·-- what it waits for is done
   simp only[pH,bC]at hj;exact HK (listed:=fun j=>listed.getD j true) hed (fun i o hi hl e he hb=>hgd _ (vV i o hi hl e he hb)) (i+1) i j ops[i] zo (by simp[hlt]) hj (fun e he hb=>hgd _ (hpre e he hb))
  ·-- what waits for it is not
   simp only[pH,bC]at hj;cases hb:listed.getD j true with
   | false=>rfl
   | true=>
    exfalso;by_cases hjl:j<ops.size
    ·have:=HK (listed:=fun j=>listed.getD j true) hed (fun i o hi hl e he hb=>hgd _ (vV i o hi hl e he hb)) (j+1) j i ops[j] zo (by simp[hjl]) hj (fun e he hbe=>hgd _ (vV j _ (by simp[hjl]) hb e he hbe));rw[hil]at this;cases this
    ·have hlen:(gh ops.toList []).getD j 0=0:=by
      have Pz:∀(l:List Oper) (acc:List Nat),(gh l acc).length=acc.length+l.length:=by
       intro l
       induction l with
       | nil=>intro acc;rfl
       | cons o r ih=>intro acc;simp only[gh];rw[ih];simp;omega
      rw[cz,sG (by rw[Pz];simp;omega)];rfl
     rw[hlen]at hj;simp at hj
  ·refine ih (listed.setIfInBounds i true) a' w' (by simp[hsz]) ?_ (fun k o hk hl e he hb=>?_) ?_
   ·-- one less
    have hcnt:∀(l:List Bool) (i:Nat),l[i]? = some false->((l.set i true).filter (fun b=>!b)).length+1=(l.filter (fun b=>!b)).length:=by
     intro l
     induction l with
     | nil=>intro i h;simp at h
     | cons b r ihl=>
      intro i h;cases i with
      | zero=>simp at h;subst h;simp
      | succ i=>
       have:=ihl i (by simpa using h);cases b<;>simp[List.set_cons_succ]at this ⊢<;>omega
    have hfalse:listed.toList[i]? = some false:=by
     have:listed[i]=false:=by simpa[Array.getD,hlt2]using hil
     simp[hlt2,this]
    have:=hcnt listed.toList i hfalse;rw[Array.toList_setIfInBounds];omega
   ·by_cases hki:k=i
    ·subst hki;have:o=ops[k]:=by simp[hlt]at hk;exact hk.symm
     subst this;exact getD_set_true (hpre e he hb)
    ·have hl':listed.getD k true=true:=by
      rw[getD_set_ne _ (qI hki)]at hl;exact hl
     exact getD_set_true (vV k o hk hl' e he hb)
   ·have:(fun j=>listed.getD j true||j==i)=fun j=>(listed.setIfInBounds i true).getD j true:=by
     funext j;by_cases hji:j=i
     ·subst hji;simp[Array.getD,hlt2]
     ·rw[getD_set_ne _ (qI hji)];simp[hji]
    rw[this]at hr';exact hr'
theorem CZ{S:AS}:∀(rest seen:List Log),nX S seen rest=true->∀(i:Nat) (l:Log),rest[i]? = some l->∀d∈l.new,S.bK d=true∧(∀m∈seen,m.refers d=false)∧∀(j:Nat) (m:Log),j<i->rest[j]? = some m->m.refers d=false
 | [],seen,_,i,l,h=>by simp at h
 | x::r,seen,hk,i,l,h=>by
  simp only[nX,az,cI,ij]at hk;obtain⟨h1,h2⟩:=hk;cases i with
  | zero=>
   simp at h;subst h;intro d hd;exact⟨(h1 d hd).1,(h1 d hd).2,fun j m hj=>zo⟩
  | succ i=>
   intro d hd;obtain⟨q1,q2,q3⟩:=CZ r (x::seen) h2 i l (by simpa using h) d hd;refine⟨q1,fun m hm=>q2 m (cH _ hm),fun j m hj hm=>?_⟩;cases j with
   | zero=>simp at hm;subst hm;exact q2 _ (dJ ..)
   | succ j=>exact q3 j m zo (by simpa using hm)
def PA{S:AS}{logs:List Log}(h:nX S [] logs=true):m8 S (fun i j=>decide (i<j)) logs=true:=by
 unfold m8;rw[cI];rintro⟨l,i⟩ hl;have hi:logs[i]? = some l:=by
  have:=FE.1 hl;simpa using this
 simp only[az,cI];refine⟨fun d hd=>(CZ logs [] h i l hi d hd).1,?_⟩;rintro⟨m,j⟩ hm;have hj:logs[j]? = some m:=by
  have:=FE.1 hm;simpa using this
 simp only[az,eU,ij,cX,decide_eq_false_iff_not,dv,cI];refine⟨⟨?_,?_⟩,?_⟩
 ·by_cases q:i<j
  ·exact .inr q
  ·exact .inl q
 ·by_cases q:i=j
  ·exact .inl (.inl (.inl q))
  ·rcases Nat.lt_or_gt_of_ne q with q|q
   ·exact .inl (.inr q)
   ·exact .inr q
 ·by_cases q:i=j
  ·exact .inl q
  ·refine .inr fun d hd=>?_;by_cases q2:i<j
   ·exact .inr q2
   ·exact .inl ((CZ logs [] h i l hi d hd).2.2 j m zo hj)
def PB{ro:Option Nat}{n:Nat}(hT:cn P T)(hm:P.follows .mixedOrders=true){id:Nat}{draw:Bool}{K:AS->Prop}(hv:vA (bk.ok P) T aw draw ops S K){a:Act}{w:World}(hr:Rel E S a w):
 (Code.region id ops draw).wpIn (FW ro) n P (fun e a' w'=>e=.normal∧∃S',K S'∧Rel E S' a' w') a w:=by
 unfold vA at hv;split at hv
 ·exact hv.elim
 ·rename_i S' conds calls logs ho;obtain⟨hok,hc,hcl,hK⟩:=hv;have hempty:∀(E:Nat->Bool) (logs:List Log),(∀k,k<logs.length->E k=false)->cq E 0 logs S=S:=by
   intro E logs
   suffices h:∀(logs:List Log) (i:Nat) (S:AS),(∀k,k<logs.length->E (i+k)=false)->cq E i logs S=S by
    intro hk;exact h logs 0 S (fun k hk'=>by simpa using hk k hk')
   intro logs
   induction logs with
   | nil=>intro i S _;rfl
   | cons l r ih=>
    intro i S hk;simp only[cq];have h0:=hk 0 zsi;simp only[fE]at h0;rw[h0];exact ih (i+1) S (fun k hk'=>by have:=hk (k+1) (by simp;omega);rwa [show i+(k+1)=i+1+k by omega]at this)
  cases draw with
  | false=>
   refine wpIn_region ?_;rw[List.range_eq_range'];refine HI hT ho (PA (by simpa using hok)) hc hcl (fun a w h=>⟨rfl,S',hK,h⟩) ops.size 0 a w zo ?_;rw[hempty _ _ (fun k _=>zsi)];exact hr
  | true=>
   refine wpIn_region_any hm ?_;obtain⟨q1,_,_⟩:=tM _ _ _ _ ho;simp only[bC,az]at hok;refine Py hT ho hok.1 hok.2 hc hcl (fun a w h=>⟨rfl,S',hK,h⟩) ops.size _ a _ zsi ?_ (fun i o hi hl=>?_) ?_
   ·simp only[Array.toList_replicate];exact aG (List.length_filter_le _ _) zsi
   ·have:=(d8.1 hi).1;simp[Array.getD,this]at hl
   ·rw[hempty _ _ (fun k hk=>by
     have:k<ops.size:=by rw[q1]at hk;simpa using hk
     simp[Array.getD,this])]
    obtain⟨β,hb⟩:=hr;obtain⟨h1,_,_⟩:=hb.grow (w':={ w with drawn:=w.drawn+1 }) ⟨rfl,rfl,rfl,ao _,fun _ _=>rfl⟩;exact⟨β,h1⟩
end
structure Ext(E E':Env):Prop where
 base:E.B<=E'.B
 pin:E'.pin=E.pin
 y:E'.Y=E.Y
 os:E'.w0.os=E.w0.os
 tape:E'.w0.tape=E.w0.tape
 output:E'.w0.output=E.w0.output
 size:E.N<=E'.N
 x:∀b,E'.X b->E.own b
 d:∀b,E'.D0 b->E.D0 b∨E.X b∨E.N<=b
 keep:∀b,b<E.N->¬E.X b->¬E.Y b->E'.w0.heap[b]? = E.w0.heap[b]?
 df:∀b,{ target:=.collected b,args:=#[] }∈E'.df->{ target:=.collected b,args:=#[] }∈E.df∨E.N<=b
def Ext.refl(E:Env):Ext E E:=⟨ao _,rfl,rfl,rfl,rfl,rfl,ao _,fun _ h=>.inl h,fun _ h=>.inl h,fun _ _ _ _=>rfl,fun _ h=>.inl h⟩
def Ext.own{E E':Env}(h:Ext E E'){b:Nat}(hb:E'.own b):E.own b:=hb.elim (h.x b) fun hb=>.inr (aG h.size hb)
def Ext.nx{E E':Env}(h:Ext E E'){b:Nat}(hb:b<E.N)(hx:¬E.X b):¬E'.X b:=fun hq=>(h.x b hq).elim hx fun hq=>zo
def Ext.trans{E E' fq:Env}(h:Ext E E')(g:Ext E' fq):Ext E fq where
 base:=aG h.base g.base
 pin:=g.pin.trans h.pin
 y:=g.y.trans h.y
 os:=g.os.trans h.os
 tape:=g.tape.trans h.tape
 output:=g.output.trans h.output
 size:=aG h.size g.size
 x:=fun b hb=>h.own (g.x b hb)
 d:=fun b hb=>(g.d b hb).elim (h.d b) fun hb=>(h.own hb).elim (fun q=>.inr (.inl q)) fun q=>.inr (.inr q)
 keep:=fun b hb hx hy=>(g.keep b (cf hb h.size) (h.nx hb hx) (by rw[h.y];exact hy)).trans (h.keep b hb hx hy)
 df:=fun b hb=>(g.df b hb).elim (h.df b) fun hb=>.inr (aG h.size hb)
section
variable {E E':Env}{tmps:List AV}{H:Nat->AO}{a:Act}{w:World}{β:Nat->Value}
def Ext.dd(h:Ext E E'){b:Nat}(hb:E'.D w β H b):E.D w β H b:=
 ⟨hb.1.elim (h.d b) fun q=>(h.own q).elim (fun q=>.inr (.inl q)) fun q=>.inr (.inr q),hb.2⟩
def Ext.back(h:Ext E E')(hy:∀b,¬E.Y b)(hr:RelB E' tmps H a w β):RelB E tmps H { a with defers:=E.df } w β:=by
 have hrd:∀av v,RD w (E'.D w β H) E'.B av v->RD w (E.D w β H) E.B av v:=fun av v q=>q.mono (fun _ _=>rfl) (fun _=>h.dd) h.base;have hrx:∀av v,RX w (E'.D w β H) E'.B β H av v->RX w (E.D w β H) E.B β H av v:=fun av v q=>by
  exact q.map (fun av v q=>hrd av v q) (fun o off v q=>by
   obtain⟨b,h1,rfl⟩:=q.dF;exact .ptr _ _ b h1) (fun o ver n v q=>by obtain⟨h1,h2⟩:=q.aI;exact .aJ _ _ _ _ h1 h2) (fun o sz ver n i off v q=>by obtain⟨h1,h2,h3⟩:=q.jk;exact .ci _ _ _ _ _ _ _ h1 h2 h3)
 refine⟨rfl,hr.size,fun t av ht=>hrx _ _ (hr.tmps t av ht),fun o=>?_,hr.apart,⟨hr.frame.os.trans h.os,hr.frame.tape.trans h.tape,hr.frame.output.trans h.output,aG h.size hr.frame.size,fun b hb hx=>?_⟩,fun o v n0 hp=>hr.pin o v n0 (by rw[h.pin];exact hp)⟩
 ·have ho:=hr.objs o;cases hq:H o with
  | none=>trivial
  | box cs=>
   rw[hq]at ho;obtain⟨b,vs,ty,h1,h2,h3,h4,h5,h6⟩:=ho;exact⟨b,vs,ty,h1,h2,h.own h3,h4,fun i av v g1 g2=>hrx _ _ (h5 i av v g1 g2),h6⟩
  | it ks f seen pend=>
   rw[hq]at ho;obtain⟨b,mb,sa,h1,h2,h3,h4,h5⟩:=ho;exact⟨b,mb,sa,h1,h2,h.own h3,h4.imp id fun⟨m,q1,q2⟩=>⟨m,q1,hrd _ _ q2⟩,h5⟩
  | arr x t sz ver n f=>
   rw[hq]at ho;rcases ho with h1|⟨g,cap,cur,h1,h2,h3,h4,h5,h6,h7,h8⟩
   ·exact .inl h1
   ·exact .inr ⟨g,cap,cur,h1,h2,h3,h4,h5,fun e=>aG h.base (h6 e),h.own h7,fun i hi=>⟨(h8 i hi).1,(h8 i hi).2.1,fun j av v g1 g2=>hrd _ _ ((h8 i hi).2.2 j av v g1 g2)⟩⟩
 ·exact(hr.frame.block b (cf hb h.size) (h.nx hb hx)).trans (h.keep b hb hx (hy b))
def RD.PC{w w':World}{D D':Nat->Prop}{B:Nat}(hw:∀x v,w.cell? x=some v->w'.cell? x=some v)(hp:∀(b:Nat) (vs:Array Value) (ty:TypeId),w.heap[b]? = some (.cells vs ty (0,0))->w'.heap[b]? = some (.cells vs ty (0,0)))(hm:∀(b:Nat) (es:Array MapEntry) (c:Nat),w.heap[b]? = some (.map es c)->w'.heap[b]? = some (.map es c))(hD:∀b,D b->D' b){av:AV}{v:Value}(h:RD w D B av v):RD w' D' B av v:=by
 induction h with
 | any v=>exact .any v
 | val v=>exact .val v
 | int k n=>exact .int k n
 | bool b=>exact .bool b
 | str s=>exact .str s
 | nil=>exact .nil
 | bt=>exact .bt
 | cN=>exact .cN
 | bj t=>exact .bj t
 | dz=>exact .dz
 | fd t f b ht hf=>exact .fd t f b ht hf
 | bz n v h=>exact .bz n v h
 | empty fr sz n f p cap hn hc=>exact .empty fr sz n f p cap hn hc
 | slc fr sz n f b o cap c hn hc eD hBb hcell hlen hone _ ih=>
  exact .slc fr sz n f b o cap c hn hc (hD _ eD) (hBb.mono (hp b) (ao _)) (fun k hk=>hw _ _ (hcell k hk)) hlen hone ih
 | agg cs vs hl _ ih=>exact .agg cs vs hl ih
 | ag cs vs hl _ ih=>exact .ag cs vs hl ih
 | func fn cs vs hl _ ih=>exact .func fn cs vs hl ih
 | may g av v _ hu ih=>exact .may g av v ih hu
 | dm fr sz n f i off b o cap hi _ ih=>exact .dm fr sz n f i off b o cap hi ih
 | fmap es b clock ents eD hb hl hk _ ih=>exact .fmap es b clock ents (hD _ eD) (hm _ _ _ hb) hl hk ih
 | di ks f b clock ents eD hb hl hk hc _ ih=>exact .di ks f b clock ents (hD _ eD) (hm _ _ _ hb) hl hk hc ih
 | jM ks f hz=>exact .jM ks f hz
 | gJ n ks f vs hl _ ih=>exact .gJ n ks f vs hl ih
 | gw t f b vs hb ht hf=>exact .gw t f b vs hb ht hf
def PD{b:Nat}{o:Obj}(ho:w.heap[b]? = some o)(hn:o.isCells=false)(o':Obj):∀x v,w.cell? x=some v->(w.putObj b o').cell? x=some v:=by
 intro x v h;obtain⟨o2,h1,h2⟩:=cells_of_cell h;have hne:x.block≠b:=fun e=>by rw[e,ho]at h1;cases h1;rw[hn]at h2;cases h2
 exact(World.cell?_of_block (World.putObj_heap_other hne)).trans h
def RelB.shut(hr:RelB E tmps H a w β){b:Nat}{o:Obj}(hb:E.N<=b)(ho:w.heap[b]? = some o)(hn:o.isCells=false)(hm:∀es c,o≠.map es c)(o':Obj)(hi:∀a b c d,o≠.mapIter a b c d:=by intro _ _ _ _ q;cases q):RelB E tmps H a (w.putObj b o') β:=by
 have hsz:(w.putObj b o').heap.size=w.heap.size:=by simp[World.putObj]
 have hD:∀b',E.D w β H b'->E.D (w.putObj b o') β H b':=fun b' q=>⟨q.1,by rw[hsz];exact q.2.1,q.2.2⟩
 have hrd:∀av v,RD w (E.D w β H) E.B av v->RD (w.putObj b o') (E.D (w.putObj b o') β H) E.B av v:=fun av v q=>q.PC (PD ho hn o') (fun k vs ty hk=>by
  rw[World.putObj_heap_other (fun e=>?_)]
  ·exact hk
  ·rw[e,ho]at hk;cases hk;cases hn) (fun k es c hk=>by
  rw[World.putObj_heap_other (fun e=>?_)]
  ·exact hk
  ·rw[e,ho]at hk;cases hk;exact hm _ _ rfl) hD
 have ho':=ho;have hrx:∀av v,RX w (E.D w β H) E.B β H av v->RX (w.putObj b o') (E.D (w.putObj b o') β H) E.B β H av v:=fun av v q=>
  q.map hrd (fun o off v q=>by obtain⟨b,h1,rfl⟩:=q.dF;exact .ptr _ _ b h1) (fun o ver n v q=>by obtain⟨h1,h2⟩:=q.aI;exact .aJ _ _ _ _ h1 h2) (fun o sz ver n i off v q=>by obtain⟨h1,h2,h3⟩:=q.jk;exact .ci _ _ _ _ _ _ _ h1 h2 h3)
 have hcells:∀{k:Nat} {vs:Array Value} {ty:TypeId},w.heap[k]? = some (.cells vs ty (0,0))->(w.putObj b o').heap[k]? = some (.cells vs ty (0,0)):=by
  intro k vs ty hk;rw[World.putObj_heap_other (fun e=>?_)]
  ·exact hk
  ·rw[e,ho]at hk;cases hk;cases hn
 refine⟨hr.defers,hr.size,fun t av ht=>hrx _ _ (hr.tmps t av ht),fun o=>?_,hr.apart,⟨hr.frame.os,hr.frame.tape,hr.frame.output,by rw[hsz];exact hr.frame.size,fun b' hb' hx=>?_⟩,hr.pin⟩
 ·have ho:=hr.objs o;cases hq:H o with
  | none=>trivial
  | box cs=>
   rw[hq]at ho;obtain⟨b,vs,ty,h1,h2,h3,h4,h5,h6⟩:=ho;exact⟨b,vs,ty,h1,hcells h2,h3,h4,fun i av v g1 g2=>hrx _ _ (h5 i av v g1 g2),h6⟩
  | it ks f seen pend=>
   rw[hq]at ho;obtain⟨b2,mb,sa,h1,h2,h3,h4,h5⟩:=ho;exact⟨b2,mb,sa,h1,(World.putObj_heap_other (fun e=>by rw[e,ho']at h2;cases h2;exact hi _ _ _ _ rfl)).trans h2,h3,h4.imp id fun⟨m,q1,q2⟩=>⟨m,q1,hrd _ _ q2⟩,h5⟩
  | arr x t sz ver n f=>
   rw[hq]at ho;rcases ho with h1|⟨g,cap,cur,h1,h2,h3,h4,h5,h6,h7,h8⟩
   ·exact .inl h1
   ·exact .inr ⟨g,cap,cur,h1,hcells h2,h3,h4,h5,h6,h7,fun i hi=>⟨(h8 i hi).1,(h8 i hi).2.1,fun j av v g1 g2=>hrd _ _ ((h8 i hi).2.2 j av v g1 g2)⟩⟩
 ·rw[World.putObj_heap_other zo];exact hr.frame.block b' hb' hx
end
def af(ro:Option Nat)(P:Program)(E:Env)(c:Code)(K:Exit->Env->AS->Prop)(S:AS):Prop:=
 ∀a w,Rel E S a w->c.wpIn (FW ro) 0 P (fun e a' w'=>∃E' S',Ext E E'∧K e E' S'∧Rel E' S' a' w') a w
def jS(n:Env->AS->Prop)(K:Exit->Env->AS->Prop):Exit->Env->AS->Prop
 | .normal,E,S=>n E S
 | e,E,S=>K e E S
def ni(id:Nat)(K:Exit->Env->AS->Prop):Exit->Env->AS->Prop
 | .exit id',E,S=>if id'=id then K .normal E S else K (.exit id') E S
 | e,E,S=>K e E S
def Weak(S S':AS):Prop:=∀E a w,Rel E S a w->Rel E S' a w
section
variable {ro:Option Nat}{P:Program}{E:Env}{K:Exit->Env->AS->Prop}{S:AS}
def af.mono{c:Code}{K':Exit->Env->AS->Prop}(h:af ro P E c K S)(hk:∀e E' S,Ext E E'->K e E' S->K' e E' S):af ro P E c K' S:=
 fun a w hr=>nK (h a w hr) fun e _ _ ⟨E',S',h0,h1,h2⟩=>⟨E',S',h0,hk e E' S' h0 h1,h2⟩
def af.weak{c:Code}{S':AS}(hw:Weak S S')(h:af ro P E c K S'):af ro P E c K S:=fun a w hr=>h a w (hw E a w hr)
def af.region{T:List (Nat×TI)}(hT:cn P T)(hm:P.follows .mixedOrders=true)(aw:cL){id:Nat}{draw:Bool}{ops:Array Oper}
 (h:∀(ob:Option (Unit->Bool)×bk->Prop) (K':AS->Prop),(∀c,bk.ok P c->ob c)->(∀S',K .normal E S'->K' S')->vA ob T aw draw ops S K'):
 af ro P E (.region id ops draw) K S:=
 fun a w hr=>nK (PB hT hm (h (bk.ok P) (K .normal E) (fun _ h=>h) fun _ h=>h) hr) fun e _ _ ⟨he,S',h1,h2⟩=>⟨E,S',.refl E,he▸h1,h2⟩
def af.seq{x y:Code}(h:af ro P E x (jS (fun E' S'=>af ro P E' y K S') K) S):af ro P E (.seq x y) K S:=by
 refine fun a w hr=>wpIn_seq (nK (h a w hr) ?_);intro e a' w' ⟨E',S',h0,h1,h2⟩;cases e with
 | normal=>exact nK (h1 a' w' h2) fun e _ _ ⟨fq,yU,g0,g1,g2⟩=>⟨fq,yU,h0.trans g0,g1,g2⟩
 | exit id=>exact⟨E',S',h0,h1,h2⟩
 | goto l=>exact⟨E',S',h0,h1,h2⟩
 | ret=>exact⟨E',S',h0,h1,h2⟩
 | panic ch=>exact⟨E',S',h0,h1,h2⟩
 | outgrown=>exact⟨E',S',h0,h1,h2⟩
def af.cut{x y:Code}{ι:Type}(I:ι->AS)(Inv:ι->Env->Prop)(h:af ro P E x (jS (fun E' S'=>∃i,Inv i E'∧Weak S' (I i)) K) S)(h2:∀i E',Ext E E'->Inv i E'->af ro P E' y K (I i)):af ro P E (.seq x y) K S:=by
 refine .seq (h.mono ?_);intro e E' S' he;cases e with
 | normal=>exact fun⟨i,hi,hw⟩=>.weak hw (h2 i E' he hi)
 | _=>exact id
def af.cond{t:Tmp}{x y:Code}{b:Unit->Bool}(hb:S.tmp t=.bool b)(h1:b ()=true->af ro P E x K S)(h2:b ()=false->af ro P E y K S):af ro P E (.cond (.tmp t) x y) K S:=by
 intro a w hr;have⟨β,hB⟩:=hr;have h3:=hB.at t;rw[hb]at h3;exact wpIn_cond_split (t:=b ()) h3.gW (fun e=>h1 e a w hr) (fun e=>h2 e a w hr)
def af.PE{t:Tmp}{x y:Code}{p q:Unit->Prop}(hb:S.tmp t=.fd p q)(h1:p ()->af ro P E x K S)(h2:q ()->af ro P E y K S):af ro P E (.cond (.tmp t) x y) K S:=by
 intro a w hr;have⟨β,hB⟩:=hr;have h3:=hB.at t;rw[hb]at h3;obtain⟨b,hv,hp,hq⟩:=h3.Cf;exact wpIn_cond_split (t:=b) hv (fun e=>h1 (hp e) a w hr) (fun e=>h2 (hq e) a w hr)
def af.PF{x y:Code}(h1:af ro P E x K S):af ro P E (.cond (.const (.bool true)) x y) K S:=fun a w hr=>wpIn_cond_true rfl (h1 a w hr)
def af.PG{x y:Code}(h1:af ro P E y K S):af ro P E (.cond (.const (.bool false)) x y) K S:=fun a w hr=>wpIn_cond_false rfl (h1 a w hr)
def af.block{id:Nat}{c:Code}(h:af ro P E c (ni id K) S):af ro P E (.block id c) K S:=by
 refine fun a w hr=>wpIn_block (nK (h a w hr) ?_);intro e a' w' ⟨E',S',h0,h1,h2⟩;cases e with
 | exit id'=>
  simp only[ni]at h1;simp only[Exit.inBlock];split at h1
  ·rename_i e;rw[ae e];exact⟨E',S',h0,h1,h2⟩
  ·rename_i e;rw[aa e];exact⟨E',S',h0,h1,h2⟩
 | normal=>exact⟨E',S',h0,h1,h2⟩
 | goto l=>exact⟨E',S',h0,h1,h2⟩
 | ret=>exact⟨E',S',h0,h1,h2⟩
 | panic ch=>exact⟨E',S',h0,h1,h2⟩
 | outgrown=>exact⟨E',S',h0,h1,h2⟩
def af.skip(h:K .normal E S):af ro P E .skip K S:=fun _ _ hr=>wpIn_skip ⟨E,S,.refl E,h,hr⟩
def af.exit{id:Nat}(h:K (.exit id) E S):af ro P E (.exit id) K S:=fun _ _ hr=>wpIn_exit ⟨E,S,.refl E,h,hr⟩
def af.ret(h:K .ret E S):af ro P E .ret K S:=fun _ _ hr=>wpIn_ret ⟨E,S,.refl E,h,hr⟩
def af.HL{c:Code}{ι:Type}(I:ι->AS)(Inv:ι->Env->Prop)(μ:ι->Nat)(h0:∃i,Inv i E∧Weak S (I i))
 (hr:∀i E',Ext E E'->Inv i E'->af ro P E' c (jS (fun fq S'=>∃i',(Inv i' fq∧μ i'<μ i)∧Weak S' (I i')) K) (I i)):af ro P E (.loop c) K S:=by
 obtain⟨i0,hi0,hw0⟩:=h0;intro a w hrel;refine wpIn_loop (fun a w=>∃i E',Ext E E'∧Inv i E'∧Rel E' (I i) a w) (fun a w=>leastOf fun n=>∃i E',μ i=n∧Ext E E'∧Inv i E'∧Rel E' (I i) a w) ⟨i0,E,.refl E,hi0,hw0 _ _ _ hrel⟩ ?_;intro a w hI;obtain⟨i,E',hn,hE,hi,hR⟩:=(leastOf_spec (p:=fun n=>∃i E',μ i=n∧Ext E E'∧Inv i E'∧Rel E' (I i) a w) (by obtain⟨i,E',h⟩:=hI;exact⟨μ i,i,E',rfl,h⟩)).1;refine nK (hr i E' hE hi a w hR) ?_;intro e a' w' ⟨fq,S',h0,h1,h2⟩;cases e with
 | normal=>
  obtain⟨i',⟨hi',hlt⟩,hw⟩:=h1;have hex:∃i E',μ i=μ i'∧Ext E E'∧Inv i E'∧Rel E' (I i) a' w':=⟨i',fq,rfl,hE.trans h0,hi',hw _ _ _ h2⟩
  exact⟨⟨i',fq,hE.trans h0,hi',hw _ _ _ h2⟩,Nat.lt_of_le_of_lt ((leastOf_spec (p:=fun n=>∃i E',μ i=n∧Ext E E'∧Inv i E'∧Rel E' (I i) a' w') ⟨_,hex⟩).2 _ hex) (by rw[<- hn];exact hlt)⟩
 | exit id=>exact⟨fq,S',hE.trans h0,h1,h2⟩
 | goto l=>exact⟨fq,S',hE.trans h0,h1,h2⟩
 | ret=>exact⟨fq,S',hE.trans h0,h1,h2⟩
 | panic ch=>exact⟨fq,S',hE.trans h0,h1,h2⟩
 | outgrown=>exact⟨fq,S',hE.trans h0,h1,h2⟩
def af.loop{c:Code}{ι:Type}(I:ι->AS)(Inv:ι->Prop)(μ:ι->Nat)(h0:∃i,Inv i∧Weak S (I i))
 (hr:∀i E',Inv i->af ro P E' c (jS (fun _ S'=>∃i',(Inv i'∧μ i'<μ i)∧Weak S' (I i')) K) (I i)):af ro P E (.loop c) K S:=
 .HL I (fun i _=>Inv i) μ h0 fun i E' _ hi=>hr i E' hi
end
def aD(l l':List AV):Prop:=l.length=l'.length∧(l.all AV.cell=true->l'.all AV.cell=true)∧∀(w:World) (D:Nat->Prop) (B j:Nat) (av bw:AV) (v:Value),l[j]? = some av->l'[j]? = some bw->RD w D B av v->RD w D B bw v
def aD.of_eq{l l':List AV}(h:l=l'):aD l l':=by
 subst h;exact⟨rfl,id,fun w D B j av bw v h1 h2 h3=>by rw[h1]at h2;cases h2;exact h3⟩
def AO.eX:AO->Bool
 | .none=>false
 | _=>true
def AO.qZ{o:AO}:o.eX=true↔o.is:=by cases o<;>simp[AO.eX,AO.is]
abbrev Cs:=Option (List (Unit->Prop))
def Cs.and(a b:Cs):Cs:=match a,b with|some a,some b=>some (a++b)|_,_=>none
def FB.le:FB->FB->Cs
 | _,.any=>some []
 | .new,.new=>some []
 | .sat p,.sat q=>some [fun _=>∀b,p b->q b]
 | .own p,.own q=>some [fun _=>∀b,p b->q b]
 | _,_=>none
def FB.vW:FB->Bool->Bool
 | .any,_=>true
 | .new,x=>!x
 | .sat _,_=>false
 | .own _,_=>false
def FB.isAny:FB->Bool
 | .any=>true
 | _=>false
def FB.PH{fr:FB}(h:fr.isAny=true):fr=.any:=by cases fr<;>first|rfl|cases h
def FB.HM{fr fr':FB}{l:List (Unit->Prop)}(h:fr.le fr'=some l)(hl:∀c∈l,c ()){w:World}{B b:Nat}(q:fr.ok w B b):fr'.ok w B b:=by
 cases fr' with
 | any=>trivial
 | new=>cases fr with
  | new=>exact q
  | _=>cases h
 | sat p=>cases fr with
  | sat p'=>simp only[FB.le,cB]at h;subst h;exact hl _ (dD.2 rfl) b q
  | _=>cases h
 | own p=>cases fr with
  | own p'=>simp only[FB.le,cB]at h;subst h;exact⟨hl _ (dD.2 rfl) b q.1,q.2⟩
  | _=>cases h
def oe(O O':Nat->AO):AV->AV->Cs
 | _,.any=>some []
 | .int k a,.int k' b=>if k=k' then some [fun _=>a ()=b ()]else none
 | .bool a,.bool b=>some [fun _=>a ()=b ()]
 | .str a,.str b=>some [fun _=>a ()=b ()]
 | .nil,.nil=>some []
 | .bt,.bt=>some []
 | .cN,.cN=>some []
 | .bj t,.bj t'=>if t==t' then some []else none
 | .dz,.dz=>some []
 | .bz a,.bz b=>some [fun _=>a ()=b ()]
 | .val u,.val v=>some [fun _=>u=v]
 | .nil,.slc _ _ n _=>some [fun _=>n ()=0]
 | .slc fr sz n f,.slc fr' sz' n' f'=>match fr.le fr' with
  | some l=>if sz==sz' then some ((fun _=>n ()=n' ()∧∀i,i<n ()->aD (f fun _=>i) (f' fun _=>i))::l)else none
  | none=>none
 | .ptr o off,.ptr o' off'=>if o==o'&&off==off'&&(O o).eX then some []else none
 | .bG o n,.bG o' n'=>if o==o'&&n==n'&&(O o).eX then some []else none
 | .a8 fn o,.a8 fn' o'=>if fn==fn'&&o==o'&&(O o).eX then some []else none
 | .aJ o ver n,.aJ o' aM n'=>if o==o' then match O o,O' o with
  | .arr _ _ _ v m _,.arr _ _ _ v' m' _=>if v==ver&&v'==aM then some [fun _=>n ()=n' (),fun _=>m ()=m' ()]else none
  | _,_=>none
  else none
 | .nil,.aJ o' aM n'=>match O o',O' o' with
  | .none,.arr _ _ _ v' m' _=>if v'==aM then some [fun _=>n' ()=0,fun _=>m' ()=0]else none
  | _,_=>none
 | .aJ o ver n,.slc fr sz n' f'=>match O o,O' o with
  | .arr x _ sz' v m f,.none=>if v==ver&&sz==sz'&&fr.vW x then some [fun _=>n ()=n' ()∧∀i,i<n ()->aD (f fun _=>i) (f' fun _=>i)]else none
  | _,_=>none
 | .ptr o off,.dm fr sz n f i off'=>match O o,O' o with
  | .box cs,.none=>if off==off'&&sz==cs.length&&fr.isAny&&AV.bx cs&&cs.all AV.cell then some [fun _=>n ()=1∧i ()=0∧aD cs (f fun _=>0)]else none
  | _,_=>none
 | .dm fr sz n f i off,.dm fr' sz' n' f' i' off'=>match fr.le fr' with
  | some l=>if sz==sz'&&off==off' then some ((fun _=>i ()=i' ()∧n ()=n' ()∧∀k,k<n ()->aD (f fun _=>k) (f' fun _=>k))::l)else none
  | none=>none
 | .di ks f,.di ks' f'=>some [fun _=>ks=ks'∧f=f']
 | .gJ n ks f,.gJ n' ks' f'=>some [fun _=>n=n'∧ks=ks'∧f=f']
 | _,_=>none
def cG(O O':Nat->AO):List AV->List AV->Cs
 | [],[]=>some []
 | .agg cs::r,.agg cs'::r'=>(cG O O' cs cs').and (cG O O' r r')
 | .ag cs::r,.ag cs'::r'=>(cG O O' cs cs').and (cG O O' r r')
 | .func fn cs::r,.func fn' cs'::r'=>if fn==fn' then(cG O O' cs cs').and (cG O O' r r')else none
 | a::r,b::r'=>(oe O O' a b).and (cG O O' r r')
 | _,_=>none
def og(O O':Nat->AO)(o:Nat):AO->Cs
 | .none=>some []
 | .box cs'=>match O o with
  | .box cs=>cG O O' cs cs'
  | _=>none
 | .arr x' t' sz' v' n' f'=>match O o with
  | .arr x t sz v n f=>if t==t'&&sz==sz'&&(x'||!x)&&(!kE o||!(v'==0)||v==0)then some [fun _=>n ()=n' (),fun _=>∀i,i<n ()->aD (f fun _=>i) (f' fun _=>i)]else none
  | .none=>if !kE o then some [fun _=>n' ()=0]else none
  | _=>none
 | .it ks' f' seen' PI=>match O o with
  | .it ks f seen pend=>if pend==PI then some [fun _=>ks=ks'∧f=f'∧seen ()=seen' ()]else none
  | _=>none
def mf(O O':Nat->AO):List (Nat×AO)->Cs
 | []=>some []
 | (o,ob)::r=>(og O O' o ob).and (mf O O' r)
def mg(S S':AS):Prop:=
 match(cG S.obj S'.obj S.tmps S'.tmps).and (mf S.obj S'.obj S'.objs)with
 | none=>False
 | some cs=>∀c∈cs,c ()
def Cs.PJ{a b:Cs}{l:List (Unit->Prop)}(h:Cs.and a b=some l):∃x y,a=some x∧b=some y∧l=x++y:=by
 unfold Cs.and at h;split at h
 ·cases h;exact⟨_,_,rfl,rfl,rfl⟩
 ·cases h
def Cs.all(a:Cs):Prop:=∃l,a=some l∧∀c∈l,c ()
def Cs.ir{a b:Cs}(h:(Cs.and a b).all):a.all∧b.all:=by
 obtain⟨l,h1,h2⟩:=h;obtain⟨x,y,rfl,rfl,rfl⟩:=Cs.PJ h1;exact⟨⟨x,rfl,fun c hc=>h2 c (by simp[hc])⟩,⟨y,rfl,fun c hc=>h2 c (by simp[hc])⟩⟩
def Cs.all_some{l:List (Unit->Prop)}(h:Cs.all (some l)):∀c∈l,c ():=by
 obtain⟨l',h1,h2⟩:=h;cases h1;exact h2
section
variable {E:Env}{w:World}{β:Nat->Value}{O O':Nat->AO}{o:Nat}
def wβ(O:Nat->AO)(β:Nat->Value)(o:Nat):Value:=if(O o).eX then β o else .slice none 0 0
def mh{o:Nat}(h:(O o).is):wβ O β o=β o:=by simp[wβ,AO.qZ.2 h]
def vX{o b:Nat}(h:bi (wβ O β o)=some b):(O o).is∧bi (β o)=some b:=by
 unfold wβ at h;split at h
 ·rename_i e;exact⟨AO.qZ.1 e,h⟩
 ·simp[bi]at h
def wD{b:Nat}(h:E.D w β O b):E.D w (wβ O β) O' b:=
 ⟨h.1,h.2.1,fun o _ hb=>by obtain⟨h1,h2⟩:=vX hb;exact h.2.2 o h1 h2⟩
def mi{av:AV}{v:Value}(h:RD w (E.D w β O) E.B av v):RD w (E.D w (wβ O β) O') E.B av v:=h.mono (fun _ _=>rfl) (fun _=>wD) (ao _)
def C0{D:Nat->Prop}{B:Nat}{l l':List AV}(h:aD l l'){f:Nat->Value}(hr:∀(j:Nat) (av:AV),l[j]? = some av->RD w D B av (f j)):∀(j:Nat) (av:AV),l'[j]? = some av->RD w D B av (f j):=by
 intro j bw hj;have hlt:j<l.length:=by rw[h.1];exact(bX.1 hj).1
 exact h.2.2 w D B j l[j] bw (f j) (bf hlt) hj (hr j _ (bf hlt))
def HO{D:Nat->Prop}{B:Nat}{fr fr':FB}{sz:Nat}{n n':Unit->Nat}{f f':(Unit->Nat)->List AV}{v:Value}(h:RD w D B (.slc fr sz n f) v)(hf:∀b,fr.ok w B b->fr'.ok w B b)
 (hn:n ()=n' ()) (hl:∀i,i<n ()->aD (f fun _=>i) (f' fun _=>i)):RD w D B (.slc fr' sz n' f') v:=by
 cases h with
 | empty _ _ _ _ p cap h0 hc=>exact .empty fr' sz n' f' p cap (by rw[<- hn];exact h0) hc
 | slc _ _ _ _ b o cap c h1 h2 h3 h4 h5 h6 h7 h8=>
  rw[hn];refine .slc fr' sz n' f' b o cap c (by rw[<- hn];exact h1) h2 h3 (hf _ h4) (by rw[<- hn];exact h5) (fun i hi=>?_) (fun i hi=>?_) (fun i j av hi hj=>?_)
  ·rw[<- hn]at hi;rw[<- (hl i hi).1];exact h6 i hi
  ·rw[<- hn]at hi;exact(hl i hi).2.1 (h7 i hi)
  ·rw[<- hn]at hi;exact C0 (hl i hi) (f:=fun j=>c (i*sz+j)) (fun j av hj=>h8 i j av hi hj) j av hj
structure WO(O O':Nat->AO)(o:Nat):Prop where
 c:(og O O' o (O' o)).all
def WO.arr(h:WO O O' o){x':Bool}{t' sz' v':Nat}{n':Unit->Nat}{f':(Unit->Nat)->List AV}(hq:O' o=.arr x' t' sz' v' n' f'){x:Bool}{t sz v:Nat}{n:Unit->Nat}{f:(Unit->Nat)->List AV}(hs:O o=.arr x t sz v n f):
 t=t'∧sz=sz'∧(x'=false->x=false)∧(kE o=true->v'=0->v=0)∧n ()=n' ()∧∀i,i<n ()->aD (f fun _=>i) (f' fun _=>i):=by
 have:=h.c;rw[hq]at this;simp only[og,hs]at this;split at this
 ·rename_i hc;have hc':=Cs.all_some this;simp only[az,dv,eU,ij,uT]at hc;refine⟨hc.1.1.1,hc.1.1.2,fun e=>by rcases hc.1.2 with h|h<;>simp_all,fun e e'=>by rcases hc.2 with(h|h)|h<;>simp_all,hc' _ (dJ ..),hc' _ (cH _ (dD.2 rfl))⟩
 ·obtain⟨l,h1,_⟩:=this;cases h1
def WO.new(h:WO O O' o){x':Bool}{t' sz' v':Nat}{n':Unit->Nat}{f':(Unit->Nat)->List AV}(hq:O' o=.arr x' t' sz' v' n' f')(hs:O o=.none):kE o=false∧n' ()=0:=by
 have:=h.c;rw[hq]at this;simp only[og,hs]at this;split at this
 ·rename_i hc;exact⟨by simpa using hc,Cs.all_some this _ (dD.2 rfl)⟩
 ·obtain⟨l,h1,_⟩:=this;cases h1
def WO.HP(h:WO O O' o){x':Bool}{t' sz' v':Nat}{n':Unit->Nat}{f':(Unit->Nat)->List AV}(hq:O' o=.arr x' t' sz' v' n' f'){cs:List AV}(hs:O o=.box cs):False:=by
 have:=h.c;rw[hq]at this;simp only[og,hs]at this;obtain⟨l,h1,_⟩:=this;cases h1
def PK{O O':Nat->AO}{a:AV}{t:Nat}{l:List (Unit->Prop)}(h:oe O O' a (.bj t)=some l):a=.bj t:=by
 cases a<;>simp[oe]at h ⊢;exact h.1
def PL{O O':Nat->AO}{cs cs':List AV}(h:(cG O O' cs cs').all){t:Nat}(ht:cs'[0]? = some (.bj t)):cs[0]? = some (.bj t):=by
 obtain⟨l,h,_⟩:=h
 match cs,cs' with
 | [],[]=>simp at ht
 | [],b::r'=>simp[cG]at h
 | a::r,[]=>simp at ht
 | a::r,b::r'=>
  simp at ht;subst ht;have h2:cG O O' (a::r) (.bj t::r')=(oe O O' a (.bj t)).and (cG O O' r r'):=by
   cases a<;>simp[cG]
  rw[h2]at h;cases hq:oe O O' a (.bj t)with
  | none=>rw[hq]at h;cases h
  | some l'=>rw[PK hq];rfl
def WO.HQ(h:WO O O' o){x':Bool}{t' sz' v':Nat}{n':Unit->Nat}{f':(Unit->Nat)->List AV}(hq:O' o=.arr x' t' sz' v' n' f'){ks:Unit->List ByteArray}{f:(Unit->Nat)->AV}{sn:Unit->List Nat}{p:Bool}(hs:O o=.it ks f sn p):False:=by
 have:=h.c;rw[hq]at this;simp only[og,hs]at this;obtain⟨l,h1,_⟩:=this;cases h1
def WO.it(h:WO O O' o){ks':Unit->List ByteArray}{f':(Unit->Nat)->AV}{C1:Unit->List Nat}{p':Bool}(hq:O' o=.it ks' f' C1 p'):∃sn,O o=.it ks' f' sn p'∧sn ()=C1 ():=by
 have:=h.c;rw[hq]at this;simp only[og]at this;split at this
 ·rename_i ks f sn p hs;split at this
  ·rename_i e;simp only[dv]at e;obtain⟨e1,e2,e3⟩:=Cs.all_some this _ (dD.2 rfl);subst e;subst e1;subst e2;exact⟨sn,hs,e3⟩
  ·obtain⟨l,h1,_⟩:=this;cases h1
 ·obtain⟨l,h1,_⟩:=this;cases h1
def WO.box(h:WO O O' o){cs':List AV}(hq:O' o=.box cs'):∃cs,O o=.box cs∧(cG O O' cs cs').all:=by
 have:=h.c;rw[hq]at this;simp only[og]at this;split at this
 ·rename_i cs hs;exact⟨cs,hs,this⟩
 ·obtain⟨l,h1,_⟩:=this;cases h1
def freeze(ho:∀o,OR E w β O o (O o))(ha:∀o o' b,o≠o'->(O o).is->(O o').is->bi (β o)=some b->bi (β o')=some b->False)
 {x:Bool} {t sz ver:Nat} {m n n':Unit->Nat} {f f':(Unit->Nat)->List AV} {fr:FB} {v:Value} (q1:O o=.arr x t sz ver m f) (q2:O' o=.none) (hx:fr.vW x=true) (h4:n ()=m ()) (h5:v=β o) (hn:n ()=n' ())
 (hl:∀i,i<n ()->aD (f fun _=>i) (f' fun _=>i)):RD w (E.D w (wβ O β) O') E.B (.slc fr sz n' f') v:=by
 have hor:=ho o;rw[q1]at hor;rcases hor with⟨g1,g2⟩|⟨g,cap,cur,g1,g2,g3,g4,g5,g6,g7,g8⟩
 ·rw[h5,g1];exact .empty _ _ _ _ none 0 (by rw[<- hn,h4];exact g2) (aB _)
 ·rw [h5,g1,<- h4,hn];refine .slc _ _ _ _ g 0 cap (fun k=>cur.getD k undef) (by rw[<- hn,h4];exact g3) g4 ⟨g7.elim (fun h=>.inr (.inl h)) (fun h=>.inr (.inr h)),(d8.1 g2).1,fun o2 hi2 hb2=>?_⟩ (by cases fr with|any=>trivial|new=>exact⟨g6 (by simpa[FB.vW]using hx),_,_,g2⟩|sat p=>simp[FB.vW]at hx|own p=>simp[FB.vW]at hx) (fun k hk=>?_) (fun i hi=>?_) (fun i hi=>?_) (fun i j av hi hj=>?_)
  ·obtain⟨i1,i2⟩:=vX hb2;by_cases e:o2=o
   ·subst e;rw[q2]at hi2;exact hi2
   ·exact ha o2 o g e i1 (by rw[q1];trivial) i2 (by rw[g1];rfl)
  ·have:k<cur.size:=by
    rw[g5];rw[<- hn,h4]at hk;exact cf hk (gE _ g3)
   simp[World.cell?,g2,this]
  ·rw[<- hn]at hi;rw[<- (hl i hi).1];exact(g8 i (by rw[<- h4];exact hi)).1
  ·rw[<- hn]at hi;exact(hl i hi).2.1 (g8 i (by rw[<- h4];exact hi)).2.1
  ·rw [<- hn]at hi;have hi':=hi;rw[h4]at hi';refine C0 (hl i hi) (f:=fun j=>cur.getD (i*sz+j) undef) (fun j av hj=>?_) j av hj;obtain⟨k1,k2,k3⟩:=g8 i hi';have hjl:j<(f fun _=>i).length:=(bX.1 hj).1;rw[k1]at hjl;have hlt2:i*sz+j<cur.size:=by
    rw[g5]
    calc i*sz+j<(i+1)*sz:=by rw[Nat.succ_mul];omega
     _<=cap*sz:=gE _ zo
   have:=k3 j av _ hj (dC hlt2);simpa[Array.getD,hlt2]using mi this
def PM{c:AV}{r:List AV}:AV.bx (c::r)=true↔AV.bx [c]=true∧AV.bx r=true:=by
 cases c<;>simp[AV.bx]
theorem tP:∀{cs:List AV},AV.bx cs=true->∀(i:Nat) (av:AV),cs[i]? = some av->AV.bx [av]=true
 | [],_,i,av,h=>by simp at h
 | c::r,hn,i,av,hi=>by
  obtain⟨h1,h2⟩:=PM.1 hn;cases i with
  | zero=>simp at hi;subst hi;exact h1
  | succ i=>exact tP h2 i av (by simpa using hi)
def PN(ho:∀o,OR E w β O o (O o))(ha:∀o o' b,o≠o'->(O o).is->(O o').is->bi (β o)=some b->bi (β o')=some b->False)
 {cs:List AV} {off:Nat} {n i:Unit->Nat} {f:(Unit->Nat)->List AV} {v:Value} (q1:O o=.box cs) (q2:O' o=.none) (hp:AV.bx cs=true) (hcl:cs.all AV.cell=true) (hn:n ()=1) (hi:i ()=0) (hl:aD cs (f fun _=>0))
 (hv:RX w (E.D w β O) E.B β O (.ptr o off) v):RD w (E.D w (wβ O β) O') E.B (.dm .any cs.length n f i off) v:=by
 have hor:=ho o;rw[q1]at hor;obtain⟨b,vs,ty,h1,h2,h3,h4,h5,_⟩:=hor;obtain⟨b',g1,rfl⟩:=hv.dF;rw[h1]at g1;simp only[Value.pointer.injEq,cB,Addr.mk.injEq,ay]at g1;subst g1;have e:off=0+i ()*cs.length+off:=by rw[hi];omega
 have hs:RD w (E.D w (wβ O β) O') E.B (.slc .any cs.length n f) (.slice (some ⟨b,0,none⟩) (n ()) 1):=by
  refine .slc _ _ _ _ b 0 1 (fun k=>vs.getD k undef) zo (by unfold maxLen;omega) ⟨h3.elim (fun h=>.inr (.inl h)) (fun h=>.inr (.inr h)),(d8.1 h2).1,fun o2 hi2 hb2=>?_⟩ trivial (fun k hk=>?_) (fun j hj=>?_) (fun j hj=>?_) (fun j k av hj hk=>?_)
  ·obtain⟨i1,i2⟩:=vX hb2;by_cases e:o2=o
   ·subst e;rw[q2]at hi2;exact hi2
   ·exact ha o2 o b e i1 (by rw[q1];trivial) i2 (by rw[h1];rfl)
  ·have:k<vs.size:=by rw[<- h4];rw[hn]at hk;omega
   simp[World.cell?,h2,this]
  ·have:j=0:=by omega
   subst this;exact hl.1.symm
  ·have:j=0:=by omega
   subst this;exact hl.2.1 hcl
  ·have:j=0:=by omega
   subst this;refine C0 hl (f:=fun j=>vs.getD (0*cs.length+j) undef) (fun j av hj=>?_) k av hk;have hjl:j<cs.length:=(bX.1 hj).1;have vR:j<vs.size:=by rw[<- h4];exact hjl
   have q:=h5 j av _ hj (dC vR);have:=mi (O':=O') (q.pure (tP hp j av hj));simpa[Array.getD,vR]using this
 have:=RD.dm (w:=w) (D:=E.D w (wβ O β) O') (B:=E.B) .any cs.length n f i off b 0 1 zo hs;rw[<- e]at this;exact this
def PO(ho:∀o,OR E w β O o (O o))(ha:∀o o' b,o≠o'->(O o).is->(O o').is->bi (β o)=some b->bi (β o')=some b->False)(hO:∀o,WO O O' o)
 {av bw:AV} {v:Value} (hc:(oe O O' av bw).all) (h:RX w (E.D w β O) E.B β O av v):RX w (E.D w (wβ O β) O') E.B (wβ O β) O' bw v:=by
 have hno:∀{p:Prop},Cs.all none->p:=fun⟨l,h1,_⟩=>by cases h1
 unfold oe at hc;split at hc
 ·exact .d (.any _)
 ·split at hc
  ·rename_i hk;subst hk;have:=Cs.all_some hc _ (dD.2 rfl);rw[h.fG,this];exact .d (.int _ _)
  ·exact hno hc
 ·have:=Cs.all_some hc _ (dD.2 rfl);rw[h.gW,this];exact .d (.bool _)
 ·have:=Cs.all_some hc _ (dD.2 rfl);rw[h.gX,this];exact .d (.str _)
 ·rw[h.kG];exact .d .nil
 ·rw[h.yw];exact .d .bt
 ·cases h with|d h=>exact .d (mi h)
 ·split at hc
  ·rename_i q;have q:=uM q;subst q;cases h with|d h=>exact .d (mi h)
  ·exact hno hc
 ·cases h with|d h=>exact .d (mi h)
 ·have e:=Cs.all_some hc _ (dD.2 rfl);exact .d (.bz _ _ (by rw[<- e];exact h.yu))
 ·have:=Cs.all_some hc _ (dD.2 rfl);rw[h.vI,this];exact .d (.val _)
 ·have:=Cs.all_some hc _ (dD.2 rfl);rw[h.kG];exact .d (.empty _ _ _ _ none 0 this (aB _))
 ·split at hc
  ·rename_i l hle;split at hc
   ·rename_i e;simp only[dv]at e;subst e;have hall:=Cs.all_some hc;obtain⟨h1,h2⟩:=hall _ (dJ ..);exact .d (HO (mi h.gY) (fun b q=>FB.HM hle (fun c hc=>hall c (cH _ hc)) q) h1 h2)
   ·exact hno hc
  ·exact hno hc
 ·split at hc
  ·rename_i e;simp only[az,dv]at e;obtain⟨⟨rfl,rfl⟩,e3⟩:=e;obtain⟨b,h1,rfl⟩:=h.dF;exact .ptr _ _ b (by rw[mh (AO.qZ.1 e3),h1])
  ·exact hno hc
 ·split at hc
  ·rename_i e;simp only[az,dv]at e;obtain⟨⟨rfl,rfl⟩,e3⟩:=e;obtain⟨b,h1,rfl⟩:=h.Cj;exact .bG _ _ b (.ptr _ _ b (by rw[mh (AO.qZ.1 e3),h1]))
  ·exact hno hc
 ·split at hc
  ·rename_i e;simp only[az,dv]at e;obtain⟨⟨rfl,rfl⟩,e3⟩:=e;obtain⟨b,h1,rfl⟩:=h.yx;exact .a8 _ _ b (.ptr _ _ b (by rw[mh (AO.qZ.1 e3),h1]))
  ·exact hno hc
 ·split at hc
  ·rename_i e;simp only[dv]at e;subst e;split at hc
   ·rename_i q1 q2;split at hc
    ·rename_i e;simp only[az,dv]at e;obtain⟨rfl,rfl⟩:=e;have hn:=Cs.all_some hc _ (dJ ..);have hm:=Cs.all_some hc _ (cH _ (dD.2 rfl));obtain⟨h1,h2⟩:=h.aI;refine .aJ _ _ _ _ (by rw[<- hn];exact h1) (fun x t sz' aM n' f hH=>?_);rw[q2]at hH;cases hH;obtain⟨_,h3⟩:=h2 _ _ _ _ _ _ q1;obtain⟨h4,h5⟩:=h3 rfl;exact⟨ao _,fun _=>⟨by rw[<- hn,<- hm];exact h4,by rw[mh (by rw[q1];trivial)];exact h5⟩⟩
    ·exact hno hc
   ·exact hno hc
  ·exact hno hc
 ·split at hc
  ·rename_i q1 q2;split at hc
   ·rename_i e;simp only[dv]at e;subst e;have hn:=Cs.all_some hc _ (dJ ..);have hm:=Cs.all_some hc _ (cH _ (dD.2 rfl));rw[h.kG];refine .aJ _ _ _ _ (.inl ⟨rfl,hn⟩) (fun x t sz' aM n' f hH=>?_);rw[q2]at hH;cases hH;exact⟨ao _,fun _=>⟨by rw[hn,hm],by simp[wβ,q1,AO.eX]⟩⟩
   ·exact hno hc
  ·exact hno hc
 ·split at hc
  ·rename_i q1 q2;split at hc
   ·rename_i e;simp only[az,dv,eU,ij]at e;obtain⟨⟨rfl,rfl⟩,e3⟩:=e;obtain⟨hn,hl⟩:=Cs.all_some hc _ (dD.2 rfl);obtain⟨h1,h2⟩:=h.aI;obtain⟨_,h3⟩:=h2 _ _ _ _ _ _ q1;obtain⟨h4,h5⟩:=h3 rfl;exact .d (freeze ho ha q1 q2 e3 h4 h5 hn hl)
   ·exact hno hc
  ·exact hno hc
 ·split at hc
  ·rename_i q1 q2;split at hc
   ·rename_i e;simp only[az,dv,ij]at e;obtain⟨⟨⟨⟨rfl,rfl⟩,e3⟩,e4⟩,e5⟩:=e;obtain rfl:=FB.PH e3;obtain⟨hn,hi,hl⟩:=Cs.all_some hc _ (dD.2 rfl);exact .d (PN ho ha q1 q2 e4 e5 hn hi hl h)
   ·exact hno hc
  ·exact hno hc
 ·split at hc
  ·rename_i l hle;split at hc
   ·rename_i e;simp only[az,dv]at e;obtain⟨rfl,rfl⟩:=e;have hall:=Cs.all_some hc;obtain⟨hi,hn,hl⟩:=hall _ (dJ ..);obtain⟨b,o,cap,g1,g2,rfl⟩:=h.tp;rw[hi];refine .d (.dm _ _ _ _ _ _ b o cap (by rw[<- hi,<- hn];exact g1) ?_);rw[<- hn];exact HO (mi (O':=O') g2) (fun b q=>FB.HM hle (fun c hc=>hall c (cH _ hc)) q) hn hl
   ·exact hno hc
  ·exact hno hc
 ·obtain⟨rfl,rfl⟩:=Cs.all_some hc _ (dD.2 rfl);cases h with|d h=>exact .d (mi h)
 ·obtain⟨rfl,rfl,rfl⟩:=Cs.all_some hc _ (dD.2 rfl);cases h with|d h=>exact .d (mi h)
 ·exact hno hc
def C2(ho:∀o,OR E w β O o (O o))(ha:∀o o' b,o≠o'->(O o).is->(O o').is->bi (β o)=some b->bi (β o')=some b->False)(hO:∀o,WO O O' o):
 ∀(l l':List AV),(cG O O' l l').all->l.length=l'.length∧∀(j:Nat) (av bw:AV) (v:Value),l[j]? = some av->l'[j]? = some bw->RX w (E.D w β O) E.B β O av v->RX w (E.D w (wβ O β) O') E.B (wβ O β) O' bw v:=by
 have hno:∀{p:Prop},Cs.all none->p:=fun⟨l,h1,_⟩=>by cases h1
 have yV:∀{a b:AV} {r r':List AV},(∀v,RX w (E.D w β O) E.B β O a v->RX w (E.D w (wβ O β) O') E.B (wβ O β) O' b v) ->
  (r.length=r'.length∧∀(j:Nat) (av bw:AV) (v:Value),r[j]? = some av->r'[j]? = some bw->RX w (E.D w β O) E.B β O av v->RX w (E.D w (wβ O β) O') E.B (wβ O β) O' bw v) ->
  ((a::r).length=(b::r').length∧∀(j:Nat) (av bw:AV) (v:Value),(a::r)[j]? = some av->(b::r')[j]? = some bw->RX w (E.D w β O) E.B β O av v->RX w (E.D w (wβ O β) O') E.B (wβ O β) O' bw v):=by
  intro a b r r' h1 h2;refine⟨by simp[h2.1],fun j av bw v e1 e2=>?_⟩;cases j with
  | zero=>simp at e1 e2;subst e1;subst e2;exact h1 v
  | succ j=>exact h2.2 j av bw v (by simpa using e1) (by simpa using e2)
 intro l l' hc
 induction l,l' using cG.induct with
 | case1=>exact⟨rfl,fun j av bw v h=>by simp at h⟩
 | case2 cs r cs' r' ih1 ih2=>
  simp only[cG]at hc;obtain⟨c1,c2⟩:=Cs.ir hc;refine yV (fun v hv=>?_) (ih2 c2);obtain⟨vs,rfl,hl,h1⟩:=hv.vB;obtain⟨i1,i2⟩:=ih1 c1
  exact .agg _ _ (by rw[<- i1];exact hl) (fun i bw v h2 h3=>by
   have:i<cs.length:=by rw[i1];exact(bX.1 h2).1
   exact i2 i _ bw v (bf this) h2 (h1 i _ v (bf this) h3))
 | case3 cs r cs' r' ih1 ih2=>
  simp only[cG]at hc;obtain⟨c1,c2⟩:=Cs.ir hc;refine yV (fun v hv=>?_) (ih2 c2);obtain⟨vs,rfl,hl,h1⟩:=hv.Gz;obtain⟨i1,i2⟩:=ih1 c1
  exact .ag _ _ (by rw[<- i1];exact hl) (fun i bw v h2 h3=>by
   have:i<cs.length:=by rw[i1];exact(bX.1 h2).1
   exact i2 i _ bw v (bf this) h2 (h1 i _ v (bf this) h3))
 | case4 fn cs r fn' cs' r' hfn ih1 ih2=>
  simp only[cG,hfn,bC]at hc;obtain⟨c1,c2⟩:=Cs.ir hc;refine yV (fun v hv=>?_) (ih2 c2);obtain⟨vs,rfl,hl,h1⟩:=hv.pI;obtain⟨i1,i2⟩:=ih1 c1;rw[uM hfn]
  exact .func _ _ _ (by rw[<- i1];exact hl) (fun i bw v h2 h3=>by
   have:i<cs.length:=by rw[i1];exact(bX.1 h2).1
   exact i2 i _ bw v (bf this) h2 (h1 i _ v (bf this) h3))
 | case5 fn cs r fn' cs' r' hfn=>
  simp only[cG,hfn,dg]at hc;exact hno hc
 | case6 a r b r' h1 h2 h3 ih=>
  have e:cG O O' (a::r) (b::r')=(oe O O' a b).and (cG O O' r r'):=by
   rw[cG]
   ·exact h1
   ·exact h2
   ·exact h3
  rw[e]at hc;obtain⟨c1,c2⟩:=Cs.ir hc;exact yV (fun v hv=>PO ho ha hO c1 hv) (ih c2)
 | case7 l l' h1 h2 h3 h4 h5=>
  have e:cG O O' l l'=none:=by
   rw[cG]<;>assumption
  rw[e]at hc;exact hno hc
theorem HR:∀{l:List (Nat×AO)} (_:(mf O O' l).all) {k:Nat} {ob:AO},(k,ob)∈l->(og O O' k ob).all
 | [],_,_,_,h=>by simp at h
 | (k,ob)::r,hc,k',HS,h=>by
  simp only[mf]at hc;obtain⟨c1,c2⟩:=Cs.ir hc;rcases bW.1 h with e|e
  ·cases e;exact c1
  ·exact HR c2 e
end
def PP{O O':Nat->AO}:∀(l l':List AV),(cG O O' l l').all->l.length=l'.length:=by
 have hno:∀{p:Prop},Cs.all none->p:=fun⟨l,h1,_⟩=>by cases h1
 intro l l' hc
 induction l,l' using cG.induct with
 | case1=>rfl
 | case2 cs r cs' r' ih1 ih2=>
  simp only[cG]at hc;simp[ih2 (Cs.ir hc).2]
 | case3 cs r cs' r' ih1 ih2=>
  simp only[cG]at hc;simp[ih2 (Cs.ir hc).2]
 | case4 fn cs r fn' cs' r' hfn ih1 ih2=>
  simp only[cG,hfn,bC]at hc;simp[ih2 (Cs.ir hc).2]
 | case5 fn cs r fn' cs' r' hfn=>
  simp only[cG,hfn,dg]at hc;exact hno hc
 | case6 a r b r' h1 h2 h3 ih=>
  have e:cG O O' (a::r) (b::r')=(oe O O' a b).and (cG O O' r r'):=by
   rw[cG]
   ·exact h1
   ·exact h2
   ·exact h3
  rw[e]at hc;simp[ih (Cs.ir hc).2]
 | case7 l l' h1 h2 h3 h4 h5=>
  have e:cG O O' l l'=none:=by
   rw[cG]<;>assumption
  rw[e]at hc;exact hno hc
def HT{S S':AS}(c2:(mf S.obj S'.obj S'.objs).all)(hl:S.tmps.length=S'.tmps.length)
 (hx:∀{E:Env} {w:World} {β:Nat->Value},(∀o,OR E w β S.obj o (S.obj o))->(∀o o' b,o≠o'->(S.obj o).is->(S.obj o').is->bi (β o)=some b->bi (β o')=some b->False)->(∀o,WO S.obj S'.obj o) ->
   ∀(t:Nat) (bw:AV),S'.tmps[t]? = some bw->∃av,S.tmps[t]? = some av∧∀v,RX w (E.D w β S.obj) E.B β S.obj av v->RX w (E.D w (wβ S.obj β) S'.obj) E.B (wβ S.obj β) S'.obj bw v):∀E a w β,RelB E S.tmps S.obj a w β->RelB E S'.tmps S'.obj a w (wβ S.obj β):=by
 intro E a w β h;have hO:∀o,WO S.obj S'.obj o:=by
  intro o;refine⟨?_⟩;by_cases hi:(S'.obj o).is
  ·exact HR c2 (yM hi)
  ·cases hq:S'.obj o with
   | none=>exact⟨[],rfl,fun c hc=>by simp at hc⟩
   | box cs=>rw[hq]at hi;exact(hi trivial).elim
   | arr x t sz ver n f=>rw[hq]at hi;exact(hi trivial).elim
   | it ks f seen pend=>rw[hq]at hi;exact(hi trivial).elim
 have g2:=hx h.objs h.apart hO;refine⟨h.defers,by rw[h.size,hl],fun t bw ht=>?_,fun o=>?_,fun o o' b hne hi hi' hb hb'=>?_,h.frame,fun o v n0 hp=>?_⟩
 ·obtain⟨av,h1,h2⟩:=g2 t bw ht;exact h2 _ (h.tmps t _ h1)
 ·have hso:=h.objs o;cases hq:S'.obj o with
  | none=>trivial
  | box cs'=>
   obtain⟨cs,hs,hcs⟩:=(hO o).box hq;obtain⟨i1,i2⟩:=C2 h.objs h.apart hO _ _ hcs;rw[hs]at hso;obtain⟨b,vs,ty,k1,k2,k3,k4,k5,k6⟩:=hso;refine⟨b,vs,ty,by rw[mh (by rw[hs];trivial),k1],k2,k3,by rw[<- i1,k4],fun i bw v h1 h2=>?_,fun t ht=>k6 t (PL hcs ht)⟩;have hlt:i<cs.length:=by rw[i1];exact(bX.1 h1).1
   exact i2 i _ bw v (bf hlt) h1 (k5 i _ v (bf hlt) h2)
  | it ks f C1 p=>
   obtain⟨sn,hs,e⟩:=(hO o).it hq;rw[hs]at hso;obtain⟨b,mb,sa,k1,k2,k3,k4,k5⟩:=hso;exact⟨b,mb,sa,by rw[mh (by rw[hs];trivial),k1],k2,k3,k4.imp id fun⟨m,q1,q2⟩=>⟨m,q1,mi q2⟩,by rw[<- e];exact k5⟩
  | arr x' t' sz' aM n' f'=>
   cases hs:S.obj o with
   | none=>
    obtain⟨_,k2⟩:=(hO o).new hq hs;exact .inl ⟨by simp[wβ,hs,AO.eX],k2⟩
   | box cs=>exact((hO o).HP hq hs).elim
   | it ks f sn p=>exact((hO o).HQ hq hs).elim
   | arr x t sz ver n f=>
    obtain⟨rfl,rfl,k3,k4,k5,k6⟩:=(hO o).arr hq hs;rw[hs]at hso;rcases hso with⟨g1,g2⟩|⟨g,cap,cur,g1,g2,g3,g4,g5,g6,g7,g8⟩
    ·exact .inl ⟨by rw[mh (by rw[hs];trivial)];exact g1,by rw[<- k5];exact g2⟩
    ·refine .inr ⟨g,cap,cur,by rw[mh (by rw[hs];trivial),g1,k5],g2,by rw[<- k5];exact g3,g4,g5,fun e=>g6 (k3 e),g7,fun i hi=>?_⟩;rw[<- k5]at hi;obtain⟨m1,m2,m3⟩:=g8 i hi;have hl:=k6 i hi;refine⟨by rw[<- hl.1];exact m1,hl.2.1 m2,fun j bw v hj hv=>?_⟩;have hlt:j<(f fun _=>i).length:=by rw[hl.1];exact(bX.1 hj).1
     exact hl.2.2 _ _ _ j _ bw v (bf hlt) hj (mi (m3 j _ v (bf hlt) hv))
 ·obtain⟨a1,a2⟩:=vX hb;obtain⟨b1,b2⟩:=vX hb';exact h.apart o o' b hne a1 b1 a2 b2
 ·obtain⟨p1,p2⟩:=h.pin o v n0 hp;refine⟨fun cs' hq=>?_,fun x' t' sz' aM n' f' hq hv=>?_⟩
  ·obtain⟨cs,hs,_⟩:=(hO o).box hq;rw[mh (by rw[hs];trivial)];exact p1 cs hs
  ·cases hs:S.obj o with
   | none=>
    obtain⟨k1,_⟩:=(hO o).new hq hs;rw[E.cC o _ hp]at k1;cases k1
   | box cs=>exact((hO o).HP hq hs).elim
   | it ks f sn p=>exact((hO o).HQ hq hs).elim
   | arr x t sz ver n f=>
    obtain⟨_,_,_,k4,k5,_⟩:=(hO o).arr hq hs;obtain⟨m1,m2⟩:=p2 _ _ _ _ _ _ hs (k4 (E.cC o _ hp) hv);rw[mh (by rw[hs];trivial)];exact⟨m1,by rw[<- k5];exact m2⟩
def PQ{S S':AS}(c2:(mf S.obj S'.obj S'.objs).all)(hl:S.tmps.length=S'.tmps.length)
 (hx:∀{E:Env} {w:World} {β:Nat->Value},(∀o,OR E w β S.obj o (S.obj o))->(∀o o' b,o≠o'->(S.obj o).is->(S.obj o').is->bi (β o)=some b->bi (β o')=some b->False)->(∀o,WO S.obj S'.obj o) ->
   ∀(t:Nat) (bw:AV),S'.tmps[t]? = some bw->∃av,S.tmps[t]? = some av∧∀v,RX w (E.D w β S.obj) E.B β S.obj av v->RX w (E.D w (wβ S.obj β) S'.obj) E.B (wβ S.obj β) S'.obj bw v):Weak S S':=
 fun E a w ⟨β,h⟩=>⟨_,HT c2 hl hx E a w β h⟩
def yW{S S':AS}(hc:mg S S'):∀E a w β,RelB E S.tmps S.obj a w β->RelB E S'.tmps S'.obj a w (wβ S.obj β):=by
 have hcc:(Cs.and (cG S.obj S'.obj S.tmps S'.tmps) (mf S.obj S'.obj S'.objs)).all:=by
  unfold mg at hc;split at hc
  ·exact hc.elim
  ·rename_i cs hq;exact⟨cs,hq,hc⟩
 obtain⟨c1,c2⟩:=Cs.ir hcc;have hll:S.tmps.length=S'.tmps.length:=PP _ _ c1;refine HT c2 hll fun ho ha hO t bw ht=>?_;obtain⟨g1,g2⟩:=C2 ho ha hO _ _ c1;have hlt:t<S.tmps.length:=by rw[g1];exact(bX.1 ht).1
 exact⟨_,bf hlt,fun v hv=>g2 t _ bw _ (bf hlt) ht hv⟩
def vY{S S':AS}(hc:mg S S'):Weak S S':=fun E a w ⟨β,h⟩=>⟨_,yW hc E a w β h⟩
def res1(T:List (Nat×TI))(S:AS):ResultVar->Option AV
 | .tmp t=>some (S.tmp t)
 | .cell p t=>match S.tmp p with
  | .ptr o off=>if(aO T t).real then match(vq (aO T t) (.ptr o off)).run S with
   | some ⟨e,[],_,_⟩=>some e.dst
   | _=>none
   else none
  | _=>none
def mj(T:List (Nat×TI))(S:AS):List ResultVar->Option (List AV)
 | []=>some []
 | r::l=>match res1 T S r,mj T S l with
  | some v,some vs=>some (v::vs)
  | _,_=>none
def tQ:List AV->AV
 | [v]=>v
 | vs=>.ag vs
def q9(au:List (Nat×AO)):List (Nat×AO)->Bool
 | []=>true
 | (o,ob)::r=>kE o&&(match ob,oL au o with
  | .box _,.box _=>true
  | .arr x t sz v _ _,.arr x' t' sz' _ _ _=>x==x'&&t==t'&&sz==sz'&&v==0
  | _,_=>false)&&q9 au r
def pQ(T:List (Nat×TI))(rs:List ResultVar)(res:AV)(au:List (Nat×AO)):Exit->Env->AS->Prop
 | .normal,_,S|.ret,_,S=>∃l,mj T S rs=some l∧Weak ⟨[tQ l],S.objs⟩ ⟨[res],au⟩
 | _,_,_=>False
def vZ(T:List (Nat×TI))(rs:List ResultVar)(res:AV)(au:List (Nat×AO))(S:AS):Prop:=
 match mj T S rs with
 | none=>False
 | some l=>mg ⟨[tQ l],S.objs⟩ ⟨[res],au⟩
def HU{T:List (Nat×TI)}{rs:List ResultVar}{res:AV}{au:List (Nat×AO)}{S:AS}(h:vZ T rs res au S):∃l,mj T S rs=some l∧Weak ⟨[tQ l],S.objs⟩ ⟨[res],au⟩:=by
 unfold vZ at h;split at h
 ·exact h.elim
 ·rename_i l hl;exact⟨l,hl,vY h⟩
theorem C3:∀{objs au:List (Nat×AO)} (_:q9 au objs=true) {o:Nat},(oL objs o).is->kE o=true ∧
 ((∃cs cs',oL objs o=.box cs∧oL au o=.box cs')∨∃x t sz n f aM n' f',oL objs o=.arr x t sz 0 n f∧oL au o=.arr x t sz aM n' f')
 | [],_,_,o,hi=>by simp[oL,AO.is]at hi
 | (o1,ob)::r,au,h,o,hi=>by
  simp only[q9,az]at h;obtain⟨⟨h1,h2⟩,h3⟩:=h;simp only[oL]at hi ⊢;by_cases e:o1=o
  ·subst e;simp only[bC]at hi ⊢;refine⟨h1,?_⟩;split at h2
   ·rename_i cs cs' hq;exact .inl ⟨cs,cs',rfl,hq⟩
   ·rename_i x t sz v n f x' t' sz' v' n' f' hq;simp only[az,dv]at h2;obtain⟨⟨⟨rfl,rfl⟩,rfl⟩,rfl⟩:=h2;exact .inr ⟨_,_,_,_,_,_,_,_,rfl,hq⟩
   ·cases h2
  ·simp only[aa e]at hi ⊢;exact C3 h3 hi
def v7(tmps:Array Value):ResultVar->Sem Value
 | .tmp t=>pure (tmps.getD t undef)
 | .cell a t=>do loadVar t (<- asAddr (tmps.getD a undef))
def yX:List Value->Value
 | [v]=>v
 | vs=>.tuple vs.toArray
section
variable {P:Program}{E:Env}{T:List (Nat×TI)}{S:AS}{a:Act}{w:World}{β:Nat->Value}
def PS(hT:cn P T)(h:RelB E S.tmps S.obj a w β){r:ResultVar}{av:AV}(hr:res1 T S r=some av):∃v,(v7 a.tmps r).run P w=.ok v w∧RX w (E.D w β S.obj) E.B β S.obj av v:=by
 cases r with
 | tmp t=>
  simp only[res1,cB]at hr;subst hr;exact⟨_,by simp[v7],h.at t⟩
 | cell p t=>
  simp only[res1]at hr;split at hr
  ·rename_i o off hp;split at hr
   ·rename_i dB;split at hr
    ·rename_i e _ _ hrun;simp only[cB]at hr;subst hr;have hx:=h.at p;rw[hp]at hx;obtain⟨u,h1,h2,_⟩:=GH (hT.at t dB) dB h hx ⟨_,hrun,fun c hc=>by simp at hc,rfl⟩;obtain⟨b,_,hv⟩:=hx.dF;refine⟨u,?_,h2⟩;rw[hv]at h1;simp only[v7,hv];simpa[Instr.loadAt,Instr.sureAddr,asAddr]using h1
    ·cases hr
   ·cases hr
  ·cases hr
theorem HV(hT:cn P T)(h:RelB E S.tmps S.obj a w β):∀{rs:List ResultVar} {l:List AV},mj T S rs=some l->∃vs,(rs.mapM (v7 a.tmps)).run P w=.ok vs w∧l.length=vs.length ∧
 ∀(i:Nat) (av:AV) (v:Value),l[i]? = some av->vs[i]? = some v->RX w (E.D w β S.obj) E.B β S.obj av v
 | [],l,hr=>by
  simp only[mj,cB]at hr;subst hr;exact⟨[],zsi,rfl,fun i av v h=>by simp at h⟩
 | r::rs,l,hr=>by
  simp only[mj]at hr;split at hr
  ·rename_i v vs h1 h2;simp only[cB]at hr;subst hr;obtain⟨u,g1,g2⟩:=PS hT h h1;obtain⟨us,k1,k2,k3⟩:=HV hT h h2;refine⟨u::us,?_,by simp[k2],fun i av x ha hb=>?_⟩
   ·simp[List.mapM_cons,ec,g1,k1]
   ·cases i with
    | zero=>simp at ha hb;subst ha;subst hb;exact g2
    | succ i=>exact k3 i av x (by simpa using ha) (by simpa using hb)
  ·cases hr
def PT(hT:cn P T)(h:RelB E S.tmps S.obj a w β){fn:Func}{rs:List ResultVar}(hf:fn.results=rs.toArray){l:List AV}(hl:mj T S rs=some l):
 ∃v,(results fn a.tmps).run P w=.ok v w∧RX w (E.D w β S.obj) E.B β S.obj (tQ l) v:=by
 obtain⟨vs,h1,h2,h3⟩:=HV hT h hl;have hrun:(results fn a.tmps).run P w=.ok (yX vs) w:=by
  have hm:fn.results.mapM (fun(x:ResultVar)=>(match x with|.tmp t=>(pure (a.tmps.getD t undef):Sem Value)|.cell p t=>do loadVar t (<- asAddr (a.tmps.getD p undef))))=List.toArray <$> rs.mapM (v7 a.tmps):=by
   rw[hf,List.mapM_toArray];congr 1
  have hres:results fn a.tmps=(do
   let vs <- fn.results.mapM (fun(x:ResultVar)=>(match x with|.tmp t=>(pure (a.tmps.getD t undef):Sem Value)|.cell p t=>do loadVar t (<- asAddr (a.tmps.getD p undef))))
   pure (if h:vs.size=1 then vs[0]else .tuple vs)):=rfl
  rw[hres,hm];simp only[map_eq_pure_bind,bind_assoc,pure_bind,ec,h1,cm]
  match vs with
  | []=>simp[yX]
  | [v]=>simp[yX]
  | v::u::r=>simp[yX]
 refine⟨_,hrun,?_⟩;have HW:∀{l:List AV} {vs:List Value},l.length=vs.length->(∀(i:Nat) (av:AV) (v:Value),l[i]? = some av->vs[i]? = some v->RX w (E.D w β S.obj) E.B β S.obj av v)->RX w (E.D w β S.obj) E.B β S.obj (.ag l) (.tuple vs.toArray):=by
  intro l vs g1 g2;exact .ag _ _ (by simpa using g1) (fun i av v a1 a2=>g2 i av v a1 (by simpa using a2))
 match l,vs,h2,h3 with
 | [],[],h2,h3=>exact HW h2 h3
 | [x],[v],h2,h3=>exact h3 0 x v rfl rfl
 | x::y::r,v::u::q,h2,h3=>exact HW h2 h3
def HX{fn:Func}{R:Ending->World->Prop}{tmps:List AV}{H:Nat->AO}:∀(df:List Deferred) (w:World),(∀d∈df,∃b,d={ target:=.collected b,args:=#[] }∧E.N<=b∧w.heap[b]? = some (.deferred (some [])))->df.Nodup->RelB E tmps H a w β ->
 (∀w',RelB E tmps H a w' β->∃v,(results fn a.tmps).run P w'=.ok v w'∧R (.returned v) w')->LeavesInM (FW none) 0 P fn a.tmps R df .returning w
 | [],w,_,_,hr,h=>h w hr
 | d::ds,w,hd,hn,hr,h=>by
  obtain⟨b,rfl,hb,ho⟩:=hd d (dJ ..);refine⟨zsi,.inl ⟨b,w.putObj b (.deferred none),rfl,?_,?_⟩⟩
  ·exact run_takeDeferred ho
  ·rw[qJ]at hn;refine HX ds _ (fun d' hd'=>?_) hn.2 (hr.shut hb ho rfl (fun _ _ q=>by cases q) _) h;obtain⟨b',rfl,hb',ho'⟩:=hd d' (cH _ hd');refine⟨b',rfl,hb',?_⟩;rw[World.putObj_heap_other]
   ·exact ho'
   ·rintro rfl;exact hn.1 hd'
def HY {f : FuncId} {fn : Func} {c : Code} {args : List AV} {objs au : List (Nat × AO)} {res : AV} {rs : List ResultVar} (hT : cn P T) (hf : P.funcs[f]? = some fn) (hname : (fn.name == "runtime.NumGoroutine") = false) (hb : fn.body = some c)
 (hr:fn.results=rs.toArray) (hl:q9 au objs=true) (h:∀E,af none P E c (pQ T rs res au) ⟨args++List.replicate (fn.ntmps-args.length) .any,objs⟩):Af P f args objs res au:=by
 refine⟨lm hf hname hb,fun E β vs cC hdf hY h0=>?_⟩
 let tR:Nat->Option (Value×Nat):=fun o=>match oL objs o with|.none=>none|.it ..=>none|.box _=>some (β o,0)|.arr _ _ _ _ n _=>some (β o,n ())
 have hpp:∀o p,tR o=some p->kE o=true:=fun o p hp=>by
  refine(C3 hl (o:=o) ?_).1;simp only[tR]at hp;split at hp
  ·cases hp
  ·cases hp
  ·rename_i hq;rw[hq];trivial
  ·rename_i hq;rw[hq];trivial
 let E':Env:=⟨E.w0,E.B,E.D0,E.X,tR,hpp,E.Y,E.df,E.hB,E.hD,E.hX,E.hY,E.hdf,E.jN,E.hT,E.dW⟩
 have hsz:vs.size=args.length:=h0.size;have h1:RelB E' (args++List.replicate (fn.ntmps-args.length) .any) (oL objs) { tmps:=vs++Array.replicate (fn.ntmps-vs.size) undef,defers:=[] } E.w0 β:=by
  refine⟨hdf.symm,by simp[hsz],fun t av ht=>?_,h0.objs,h0.apart,⟨h0.frame.os,h0.frame.tape,h0.frame.output,h0.frame.size,h0.frame.block⟩,fun o v n0 hp=>?_⟩
  ·by_cases hlt:t<args.length
   ·rw[gS hlt]at ht;have:=h0.tmps t av ht;have h2:(vs++Array.replicate (fn.ntmps-vs.size) undef).getD t undef=vs.getD t undef:=by
     simp only[jf];rw[mO (by rw[hsz];exact hlt)]
    rw[h2];exact this
   ·rw[jd (Bd hlt),List.getElem?_replicate]at ht;split at ht
    ·cases ht;exact .d (.any _)
    ·cases ht
  ·simp only[E',tR]at hp;split at hp
   ·cases hp
   ·cases hp
   ·rename_i cs hq;cases hp;exact⟨fun _ _=>rfl,fun x t sz ver n f hf=>by rw[hq]at hf;cases hf⟩
   ·rename_i x t sz ver n f hq;cases hp;exact⟨fun cs hf=>AO.noConfusion (hq.symm.trans hf),fun x t sz ver n f hf _=>by cases hq.symm.trans hf;exact⟨rfl,rfl⟩⟩
 refine vT.1 (callsIn_of_wp_marks (F:=FW none) (n:=0) hf hb trivial (nK (h E' _ _ ⟨β,h1⟩) ?_));rintro e a' w' ⟨E2,S',hE,hk,β1,hR⟩;have hend:∀(_:∃l,mj T S' rs=some l∧Weak ⟨[tQ l],S'.objs⟩ ⟨[res],au⟩),LeavesInM (FW none) 0 P fn a'.tmps (fun e w'=>∃v β',e=.returned v∧RelB E [res] (oL au) ⟨#[v],[]⟩ w' β'∧Link (oL objs) β (oL au) β') a'.defers .returning w':=by
  rintro⟨l,hrl,hw⟩;have hB:=hE.back hY hR;have hmarks:∀d∈a'.defers,∃b,d={ target:=.collected b,args:=#[] }∧E'.N<=b∧w'.heap[b]? = some (.deferred (some [])):=by
   intro d hd;rw[hR.defers]at hd;obtain⟨b,rfl,hx,hy,hh⟩:=E2.hdf d hd;have hbl:b<E2.N:=(d8.1 hh).1;refine⟨b,rfl,?_,?_⟩
   ·rcases hE.df b hd with q|q
    ·have:E'.df=[]:=hdf;rw[this]at q;cases q
    ·exact q
   ·rw[hR.frame.block b hbl hx];exact hh
  have key:=HX (P:=P) (fn:=fn) (E:=E') (a:={ a' with defers:=E'.df }) (R:=fun e w'=>∃v β',e=.returned v∧RelB E [res] (oL au) ⟨#[v],[]⟩ w' β'∧Link (oL objs) β (oL au) β') a'.defers w' hmarks (by rw[hR.defers];exact E2.jN) hB (fun w2 hR2=>?_)
  ·exact key
  ·obtain⟨v,hrun,yY⟩:=PT hT (S:=S') hR2 hr hrl;refine⟨v,hrun,v,?_⟩
   obtain⟨β',h2⟩:=hw E' ⟨#[v],E'.df⟩ w2 ⟨β1,⟨rfl,rfl,fun t av ht=>by
    cases t with
    | zero=>simp at ht;subst ht;exact yY
    | succ t=>simp at ht,hR2.objs,hR2.apart,hR2.frame,hR2.pin⟩⟩
   refine⟨β',rfl,⟨hdf.symm,h2.size,h2.tmps,h2.objs,h2.apart,⟨h2.frame.os,h2.frame.tape,h2.frame.output,h2.frame.size,h2.frame.block⟩,fun o v n0 hp=>by rw[cC o]at hp;cases hp⟩,fun o hi=>?_⟩;obtain⟨_,hcase⟩:=C3 hl hi;rcases hcase with⟨cs,cs',q1,q2⟩|⟨x,t,sz,n,f,aM,n',f',q1,q2⟩
   ·have hp:E'.pin o=some (β o,0):=by simp[E',tR,q1]
    refine⟨by rw[q2];trivial,fun _ _=>⟨⟨cs',q2⟩,(h2.pin o _ _ hp).1 _ q2⟩,fun x t sz ver n f hf=>by rw[q1]at hf;cases hf⟩
   ·have hp:E'.pin o=some (β o,n ()):=by simp[E',tR,q1]
    refine⟨by rw[q2];trivial,(fun cs hf=>by rw[q1]at hf;cases hf),fun x t sz ver n2 f hf=>?_⟩;rw[q1]at hf;cases hf;refine⟨aM,n',f',q2,?_⟩;rcases sF aM with rfl|hpos
    ·have:=(h2.pin o _ _ hp).2 _ _ _ _ _ _ q2 rfl;exact .inl ⟨rfl,this.2,this.1⟩
    ·exact .inr hpos
 cases e with
 | normal=>exact hend hk
 | ret=>exact hend hk
 | exit id=>exact hk.elim
 | goto l=>exact hk.elim
 | panic ch=>exact hk.elim
 | outgrown=>exact hk.elim
end
end Go.Ai
