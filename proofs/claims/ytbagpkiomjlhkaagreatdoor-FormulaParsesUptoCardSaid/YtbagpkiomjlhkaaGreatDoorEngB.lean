/- Contracts, and a call under a contract. -/
import Derived.Test.YtbagpkiomjlhkaaGreatDoorEngA
import Derived.Laws.IdiomRangeMap
import Derived.OrdersIn
import Derived.TacticsIn
import Derived.RangeFuncOwn
import Derived.Deep.LoopGhost
import Derived.RangeFuncLeaves
set_option linter.all false
namespace Go.Ai
open Go
def Link(H:Nat->AO)(β:Nat->Value)(H':Nat->AO)(β':Nat->Value):Prop:=
 ∀o,(H o).is->(H' o).is∧(∀cs,H o=.box cs->(∃cs',H' o=.box cs')∧β' o=β o) ∧
  (∀x t sz ver n f,H o=.arr x t sz ver n f->∃ver' n' f',H' o=.arr x t sz ver' n' f'∧((ver'=ver∧n' ()=n ()∧β' o=β o)∨ver<ver'))
def Ent(P:Program)(f:FuncId):Prop:=∀(args:Array Value) (w:World),(callFunc f args).run P w=.ok (.enter f args) w
def aco {P : Program} {f : FuncId} {fn : Func} {c : Code} (hf : P.funcs[f]? = some fn) (hname : (fn.name == "runtime.NumGoroutine") = false) (hb : fn.body = some c) : Ent P f := by
 intro args w;have hn : ¬ (fn.name = "runtime.NumGoroutine") := by simpa using hname
 simp[callFunc,hf,hb,hn]
structure Af(P:Program)(f:FuncId)(args:List AV)(objs:List (Nat×AO))(res:AV)(objs':List (Nat×AO)):Prop where
 ent:Ent P f
 calls:∀(E:Env) (β:Nat->Value) (vs:Array Value),(∀o,E.pin o=none)->E.df=[]->(∀b,¬E.Y b)->RelB E args (oL objs) ⟨vs,[]⟩ E.w0 β ->
  Calls P f vs E.w0 fun e w'=>∃v β',e=.returned v∧RelB E [res] (oL objs') ⟨#[v],[]⟩ w' β'∧Link (oL objs) β (oL objs') β'
section pass
variable {w:World}{D Dc:Nat->Prop}{B:Nat}{β βc:Nat->Value}{H Hc:Nat->AO}
def aaw(base j:Nat)(c:AV):AV:=((aa5 base j [c]).1).headD .any
def ids1(base j:Nat)(c:AV):List (Nat×Nat×Nat):=(aa5 base j [c]).2
def afC(base j:Nat)(c:AV)(r:List AV):aa5 base j (c::r)=(aaw base j c::(aa5 base (j+1) r).1,ids1 base j c++(aa5 base (j+1) r).2):=by
 unfold aaw ids1;cases c<;>simp[aa5]<;>(split<;>simp)
theorem aaA(base:Nat):∀(cs:List AV) (j i:Nat),(aa5 base j cs).1.length=cs.length∧(aa5 base j cs).1[i]? = (cs[i]?).map (aaw base (j+i))∧∀c,cs[i]? = some c->∀p∈ids1 base (j+i) c,p∈(aa5 base j cs).2
 | [],j,i=>by simp[aa5]
 | c::r,j,0=>by
  rw[afC];obtain⟨h1,_,_⟩:=aaA base r (j+1) 0;exact⟨by simp[h1],by simp,fun c' hc p hp=>by simp at hc;subst hc;exact List.mem_append_left _ hp⟩
 | c::r,j,i+1=>by
  rw[afC];obtain⟨h1,h2,h3⟩:=aaA base r (j+1) i;have e:j+(i+1)=j+1+i:=by omega
  refine⟨by simp[h1],by simp[h2,e],fun c' hc p hp=>?_⟩;have:=h3 c' (by simpa using hc) p (by rw[<- e];exact hp);simp[this]
def IdsOk(β βc:Nat->Value)(H Hc:Nat->AO)(ids:List (Nat×Nat×Nat)):Prop:=
 ∀k o ver,(k,o,ver)∈ids->βc k=β o∧∀x t sz ver0 n f,Hc k=.arr x t sz ver0 n f->ver0=0∧H o=.arr x t sz ver n f
def pass_rd(hd:∀av v,RD w D B av v->RD w Dc B av v){av:AV}{v:Value}(h:RD w D B av v):∀base j,RX w Dc B βc Hc (aaw base j av) v:=by
 have hpure:∀(av:AV) (v:Value),RD w D B av v->RX w Dc B βc Hc (if av.pure=true then av else .any) v:=by
  intro av v hx;split
  ·exact .d (hd _ _ hx)
  ·exact .d (.any _)
 have hlist:∀(cs:List AV) (vs:Array Value) (b:Nat),cs.length=vs.size->(∀(i:Nat) (av:AV) (v:Value),cs[i]? = some av->vs[i]? = some v->∀base j,RX w Dc B βc Hc (aaw base j av) v) ->
  (aa5 b 0 cs).1.length=vs.size∧∀(i:Nat) (av:AV) (v:Value),(aa5 b 0 cs).1[i]? = some av->vs[i]? = some v->RX w Dc B βc Hc av v:=by
  intro cs vs b hl ih;refine⟨by rw[(aaA _ cs 0 0).1];exact hl,fun i av v h1 h2=>?_⟩;obtain⟨_,g2,_⟩:=aaA b cs 0 i;rw[g2]at h1;cases hc:cs[i]? with
  | none=>rw[hc]at h1;simp at h1
  | some c=>rw[hc]at h1;simp only[Option.map_some,Option.some.injEq,Nat.zero_add]at h1;subst h1;exact ih i c v hc h2 b i
 induction h with
 | any v=>intro base j;simpa[aaw,aa5]using hpure .any v (.any v)
 | val v=>intro base j;simpa[aaw,aa5]using hpure (.val v) v (.val v)
 | int k n=>intro base j;simpa[aaw,aa5]using hpure _ _ (.int k n)
 | bool b=>intro base j;simpa[aaw,aa5]using hpure _ _ (.bool b)
 | str s=>intro base j;simpa[aaw,aa5]using hpure _ _ (.str s)
 | nil=>intro base j;simpa[aaw,aa5]using hpure _ _ .nil
 | nilf=>intro base j;simpa[aaw,aa5]using hpure _ _ .nilf
 | nilp=>intro base j;simpa[aaw,aa5]using hpure _ _ .nilp
 | tnil t=>intro base j;simpa[aaw,aa5]using hpure _ _ (.tnil t)
 | nilm=>intro base j;simpa[aaw,aa5]using hpure _ _ .nilm
 | anyb t f b ht hf=>intro base j;simpa[aaw,aa5]using hpure _ _ (.anyb t f b ht hf)
 | ifc n v h=>intro base j;simpa[aaw,aa5]using hpure _ _ (.ifc n v h)
 | empty fr sz n f p cap hn hc=>intro base j;simpa[aaw,aa5]using hpure _ _ (.empty fr sz n f p cap hn hc)
 | slc fr sz n f b o cap c hn hc hD hB hcell hlen hone hel=>intro base j;simpa[aaw,aa5]using hpure _ _ (.slc fr sz n f b o cap c hn hc hD hB hcell hlen hone hel)
 | tup cs vs hl h=>intro base j;simpa[aaw,aa5]using hpure _ _ (.tup cs vs hl h)
 | may g av v h hu=>intro base j;simpa[aaw,aa5]using hpure _ _ (.may g av v h hu)
 | eptr fr sz n f i off b o cap hi h=>intro base j;simpa[aaw,aa5]using hpure _ _ (.eptr fr sz n f i off b o cap hi h)
 | fmap es b clock ents hDb hb hl hk h=>intro base j;simpa[aaw,aa5]using hpure _ _ (.fmap es b clock ents hDb hb hl hk h)
 | kmap ks f b clock ents hDb hb hl hk hc h=>intro base j;simpa[aaw,aa5]using hpure _ _ (.kmap ks f b clock ents hDb hb hl hk hc h)
 | kmap0 ks f hz=>intro base j;simpa[aaw,aa5]using hpure _ _ (.kmap0 ks f hz)
 | kmaps n ks f vs hl h=>intro base j;simpa[aaw,aa5]using hpure _ _ (.kmaps n ks f vs hl h)
 | nxt t f b vs hb ht hf=>intro base j;simpa[aaw,aa5]using hpure _ _ (.nxt t f b vs hb ht hf)
 | agg cs vs hl _ ih=>
  intro base j;simp only[aaw,aa5,List.headD_cons];obtain⟨h1,h2⟩:=hlist cs vs (adq (base+j)) hl ih;exact .agg _ _ h1 h2
 | func fn cs vs hl _ ih=>
  intro base j;simp only[aaw,aa5,List.headD_cons];obtain⟨h1,h2⟩:=hlist cs vs (adq (base+j)) hl ih;exact .func _ _ _ h1 h2
def pass_rx(hd:∀av v,RD w D B av v->RD w Dc B av v){av:AV}{v:Value}(h:RX w D B β H av v):∀base j,IdsOk β βc H Hc (ids1 base j av)->RX w Dc B βc Hc (aaw base j av) v:=by
 have hpure:∀(av:AV) (v:Value),RX w D B β H av v->RX w Dc B βc Hc (if av.pure=true then av else .any) v:=by
  intro av v hx;split
  ·rename_i hp;exact .d (hd _ _ (hx.pure hp))
  ·exact .d (.any _)
 induction h with
 | @d av v h=>exact fun base j _=>pass_rd hd h base j
 | ptr o off b h=>
  intro base j hi;by_cases h0:off=0
  ·subst h0;simp only[aaw,aa5,if_true,List.headD_cons];have:=(hi (base+j) o 0 (by simp[ids1,aa5])).1;exact .ptr _ _ b (by rw[this];exact h)
  ·simp only[aaw,aa5,if_neg h0,List.headD_cons];exact .d (.any _)
 | aptr o sz ver n i off v hs hi h=>intro base j _;simp only[aaw,aa5,List.headD_cons];exact .d (.any _)
 | aref o ver n v hs h=>
  intro base j hi;simp only[aaw,aa5,List.headD_cons];obtain⟨h1,h2⟩:=hi (base+j) o ver (by simp[ids1,aa5]);refine .aref _ _ _ _ hs (fun x t sz ver0 n' f hH=>?_);obtain⟨rfl,h3⟩:=h2 _ _ _ _ _ _ hH;obtain⟨_,h4⟩:=h _ _ _ _ _ _ h3;exact⟨Nat.le_refl _,fun _=>by rw[h1];exact h4 rfl⟩
 | bref o n b h _=>
  intro base j hi;simp only[aaw,aa5,List.headD_cons];have h0:=(hi (base+j) o 0 (by simp[ids1,aa5])).1;obtain⟨b',h1,h2⟩:=h.aa6;cases h2;exact .bref _ _ b (.ptr _ _ b (by rw[h0];exact h1))
 | bptr fn o b h _=>
  intro base j hi;simp only[aaw,aa5,List.headD_cons];have h0:=(hi (base+j) o 0 (by simp[ids1,aa5])).1;obtain⟨b',h1,h2⟩:=h.aa6;cases h2;exact .bptr _ _ b (.ptr _ _ b (by rw[h0];exact h1))
 | agg cs vs hl _ ih=>
  intro base j hi;simp only[aaw,aa5,List.headD_cons];refine .agg _ _ (by rw[(aaA _ cs 0 0).1];exact hl) (fun i av v h1 h2=>?_);obtain⟨_,g2,g3⟩:=aaA (adq (base+j)) cs 0 i;rw[g2]at h1;cases hc:cs[i]? with
  | none=>rw[hc]at h1;simp at h1
  | some c=>
   rw[hc]at h1;simp at h1;subst h1
   have:=ih i c v hc h2 (adq (base+j)) i (fun k o ver hm=>hi k o ver (by
    have:=g3 c hc _ (by simpa using hm);simp[ids1,aa5,this]))
   exact this
 | tup cs vs hl h ih=>intro base j _;simpa[aaw,aa5]using hpure _ _ (.tup cs vs hl h)
 | func fn cs vs hl _ ih=>
  intro base j hi;simp only[aaw,aa5,List.headD_cons];refine .func _ _ _ (by rw[(aaA _ cs 0 0).1];exact hl) (fun i av v h1 h2=>?_);obtain⟨_,g2,g3⟩:=aaA (adq (base+j)) cs 0 i;rw[g2]at h1;cases hc:cs[i]? with
  | none=>rw[hc]at h1;simp at h1
  | some c=>
   rw[hc]at h1;simp at h1;subst h1
   have:=ih i c v hc h2 (adq (base+j)) i (fun k o ver hm=>hi k o ver (by
    have:=g3 c hc _ (by simpa using hm);simp[ids1,aa5,this]))
   exact this
 | may g av v h hu ih=>intro base j _;simpa[aaw,aa5]using hpure _ _ (.may g av v h hu)
end pass
def alh(S:AS)(l:List (Nat×Nat×Nat))(p:Nat×Nat×Nat)(ob:AO):Prop:=
 (∃cs m,S.obj p.2.1=.box cs∧ob=.box (renS m (aa5 (adq p.1) 0 cs).1)∧∀q∈(aa5 (adq p.1) 0 cs).2,∃v,(nameOf m q.1,q.2.1,v)∈l∧∀x t sz ver n f,S.obj q.2.1=.arr x t sz ver n f->ver=q.2.2) ∨
 (∃x t sz n f,S.obj p.2.1=.arr x t sz p.2.2 n f∧ob=.arr x t sz 0 n f)
theorem aeP:∀{kn:List (Nat×Nat×Nat)} {o ver a:Nat},ad3 kn o ver=some a->(a,o,ver)∈kn
 | [],_,_,_,h=>by simp[ad3]at h
 | (a',b,v)::r,o,ver,a,h=>by
  simp only[ad3]at h;split at h
  ·rename_i q;simp only[Option.some.injEq]at h;obtain⟨rfl,rfl⟩:=q;subst h;exact List.mem_cons_self ..
  ·exact List.mem_cons_of_mem _ (aeP h)
theorem aci{m:List (Nat×Nat)}:∀{l kn:List (Nat×Nat×Nat)},acs kn m l=true->∀q∈l,(nameOf m q.1,q.2.1,q.2.2)∈kn∨(nameOf m q.1,q.2.1,q.2.2)∈adS kn l
 | [],_,_,q,hq=>by cases hq
 | (k,o,ver)::r,kn,h,q,hq=>by
  simp only[acs]at h;simp only[adS];split at h
  ·rename_i a ha;simp only[Bool.and_eq_true]at h;rcases List.mem_cons.1 hq with rfl|hq
   ·rw[eq_of_beq h.1];exact .inl (aeP ha)
   ·exact aci h.2 q hq
  ·rename_i ha;simp only[Bool.and_eq_true]at h;rcases List.mem_cons.1 hq with rfl|hq
   ·rw[eq_of_beq h.1];exact .inr (List.mem_cons_self ..)
   ·rcases aci h.2 q hq with h1|h1
    ·rcases List.mem_cons.1 h1 with h1|h1
     ·exact .inr (by rw[h1];exact List.mem_cons_self ..)
     ·exact .inl h1
    ·exact .inr (List.mem_cons_of_mem _ h1)
def agF{S:AS}{e:Eff}:∀(n:Nat) (dn ids:List (Nat×Nat×Nat)) (k:List (Nat×Nat×Nat)->List (Nat×AO)->M Eff) (_:Yld S (agG n dn ids k) e) (_:∀q∈dn,∀x t sz ver n f,S.obj q.2.1=.arr x t sz ver n f->ver=q.2.2),
 ∃l objs,Yld S (k l objs) e∧objs.map (·.1)=l.map (·.1)∧(∀(i:Nat) (p:Nat×Nat×Nat) (q:Nat×AO),l[i]? = some p->objs[i]? = some q->alh S (l++dn) p q.2) ∧
  ∀q∈ids,∃v,(q.1,q.2.1,v)∈l∧∀x t sz ver n f,S.obj q.2.1=.arr x t sz ver n f->ver=q.2.2:=by
 have mono:∀{S:AS} {l l':List (Nat×Nat×Nat)} {p:Nat×Nat×Nat} {ob:AO},(∀x∈l,x∈l')->alh S l p ob->alh S l' p ob:=by
  intro S l l' p ob hs h;rcases h with⟨cs,m,h1,h2,h3⟩|h
  ·exact .inl ⟨cs,m,h1,h2,fun q hq=>let ⟨v,a,b⟩:=h3 q hq;⟨v,hs _ a,b⟩⟩
  ·exact .inr h
 intro n
 induction n with
 | zero=>
  intro dn ids k hy _;cases ids with
  | nil=>exact⟨[],[],hy,rfl,fun i p q h=>by simp at h,fun q hq=>by simp at hq⟩
  | cons p r=>obtain⟨a,b,ver⟩:=p;exact hy.fail.elim
 | succ n ih=>
  intro dn ids k hy hdn;cases ids with
  | nil=>exact⟨[],[],hy,rfl,fun i p q h=>by simp at h,fun q hq=>by simp at hq⟩
  | cons p r=>
   obtain⟨a,b,ver⟩:=p;have hy:=hy.obj;split at hy
   ·exact hy.fail.elim
   ·exact hy.fail.elim
   ·rename_i cs hcs;simp only at hy;split at hy
    ·exact hy.fail.elim
    rename_i hok;have hok:acs ((a,b,0)::(dn++r)) (sameAs ((a,b,0)::(dn++r)) (aa5 (adq a) 0 cs).2) (aa5 (adq a) 0 cs).2=true:=by simpa using hok
    have hbx:∀x t sz ver n f,S.obj b=.arr x t sz ver n f->ver=0:=fun x t sz ver n f hf=>by rw[hcs]at hf;cases hf
    obtain⟨l,objs,h1,h2,h3,h4⟩:=ih _ _ _ hy (fun q hq=>by
     rcases List.mem_cons.1 hq with rfl|hq
     ·exact hbx
     ·exact hdn q hq)
    refine⟨(a,b,0)::l,_,h1,by simp[h2],fun i p q hp hq=>?_,fun q hq=>?_⟩
    ·cases i with
     | zero=>
      simp at hp hq;subst hp;subst hq;refine .inl ⟨cs,_,hcs,rfl,fun q hq=>?_⟩;rcases aci hok q hq with hm|g1
      ·rcases List.mem_cons.1 hm with hm|hm
       ·simp only[Prod.mk.injEq]at hm;obtain⟨e1,e2,e3⟩:=hm;exact⟨0,by rw[e1,e2];simp,fun x t sz ver n f hf=>by rw[e3];rw[e2]at hf;exact hbx x t sz ver n f hf⟩
       ·rcases List.mem_append.1 hm with hm|hm
        ·exact⟨q.2.2,by simp[hm],fun x t sz ver n f hf=>hdn _ hm x t sz ver n f hf⟩
        ·obtain⟨v,w1,w2⟩:=h4 _ (List.mem_append_left _ hm);exact⟨v,by simp only[List.cons_append,List.mem_cons,List.mem_append];exact .inr (.inl w1),w2⟩
      ·obtain⟨v,w1,w2⟩:=h4 _ (List.mem_append_right _ g1);exact⟨v,by simp only[List.cons_append,List.mem_cons,List.mem_append];exact .inr (.inl w1),w2⟩
     | succ i=>
      refine mono (fun x hx=>?_) (h3 i p q (by simpa using hp) (by simpa using hq));simp only[List.cons_append,List.mem_cons,List.mem_append]at hx ⊢;rcases hx with hx|hx|hx
      ·exact .inr (.inl hx)
      ·exact .inl hx
      ·exact .inr (.inr hx)
    ·rcases List.mem_cons.1 hq with rfl|hq
     ·exact⟨0,by simp,fun x t sz ver n f hf=>by rw[hcs]at hf;cases hf⟩
     ·obtain⟨v,g1,g2⟩:=h4 q (List.mem_append_left _ hq);exact⟨v,List.mem_cons_of_mem _ g1,g2⟩
   ·rename_i x t sz ver' n' f hcs;replace hy:=yI hy;obtain⟨hv,hy⟩:=hy;simp at hv;subst hv
    obtain⟨l,objs,h1,h2,h3,h4⟩:=ih _ _ _ hy (fun q hq=>by
     rcases List.mem_cons.1 hq with rfl|hq
     ·intro x t sz ver n f hf;rw[hcs]at hf;cases hf;rfl
     ·exact hdn q hq)
    refine⟨(a,b,ver)::l,_,h1,by simp[h2],fun i p q hp hq=>?_,fun q hq=>?_⟩
    ·cases i with
     | zero=>simp at hp hq;subst hp;subst hq;exact .inr ⟨x,t,sz,n',f,hcs,rfl⟩
     | succ i=>
      refine mono (fun x hx=>?_) (h3 i p q (by simpa using hp) (by simpa using hq));simp only[List.cons_append,List.mem_cons,List.mem_append]at hx ⊢;rcases hx with hx|hx|hx
      ·exact .inr (.inl hx)
      ·exact .inl hx
      ·exact .inr (.inr hx)
    ·rcases List.mem_cons.1 hq with rfl|hq
     ·exact⟨ver,by simp,fun x t sz ver n f hf=>by rw[hcs]at hf;cases hf;rfl⟩
     ·obtain⟨v,g1,g2⟩:=h4 q hq;exact⟨v,List.mem_cons_of_mem _ g1,g2⟩
theorem afL:∀(l:List Nat),nodupB l=true↔l.Nodup
 | []=>by simp[nodupB]
 | a::r=>by simp[nodupB,afL r]
def aeH{l:List (Nat×AO)}(hn:(l.map (·.1)).Nodup){k:Nat}{o:AO}(h:(k,o)∈l):oL l k=o:=by
 induction l with
 | nil=>simp at h
 | cons p r ih=>
  obtain⟨i,x⟩:=p;simp only[List.map_cons,List.nodup_cons]at hn;rcases List.mem_cons.1 h with h|h
  ·cases h;simp[oL]
  ·have:i≠k:=by rintro rfl;exact hn.1 (List.mem_map.2 ⟨_,h,rfl⟩)
   simp only[oL,if_neg this];exact ih hn.2 h
def aem{l:List (Nat×AO)}{k:Nat}(h:(oL l k).is):(k,oL l k)∈l:=by
 induction l with
 | nil=>exact h.elim
 | cons p r ih=>
  obtain⟨i,x⟩:=p;simp only[oL]at h ⊢;split
  ·rename_i e;subst e;simp
  ·rename_i e;rw[if_neg e]at h;exact List.mem_cons_of_mem _ (ih h)
def idTo_mem{ids:List (Nat×Nat×Nat)}(hn:(ids.map (·.1)).Nodup){k b v d:Nat}(h:(k,b,v)∈ids):idTo ids d k=(b,v):=by
 induction ids with
 | nil=>simp at h
 | cons p r ih=>
  obtain⟨a,q⟩:=p;simp only[List.map_cons,List.nodup_cons]at hn;rcases List.mem_cons.1 h with h|h
  ·cases h;simp[idTo]
  ·have:a≠k:=by rintro rfl;exact hn.1 (List.mem_map.2 ⟨_,h,rfl⟩)
   simp only[idTo,if_neg this];exact ih hn.2 h
def idTo_new{ids:List (Nat×Nat×Nat)}{k d:Nat}(h:k∉ids.map (·.1)):idTo ids d k=(10000*(d+1)+k,0):=by
 induction ids with
 | nil=>rfl
 | cons p r ih=>
  obtain⟨a,q⟩:=p;simp at h;simp only[idTo,if_neg (Ne.symm h.1)];exact ih (by simpa using h.2)
def ahg(r:Nat->Nat×Nat)(c:AV)(l:List AV):renL r (c::l)=(renL r [c]).headD .any::renL r l:=by
 cases c<;>simp[renL]
theorem aay(r:Nat->Nat×Nat):∀(cs:List AV) (i:Nat),(renL r cs).length=cs.length∧(renL r cs)[i]? = (cs[i]?).map fun c=>(renL r [c]).headD .any
 | [],i=>by simp[renL]
 | c::l,0=>by rw[ahg];exact⟨by simp[(aay r l 0).1],by simp⟩
 | c::l,i+1=>by rw[ahg];exact⟨by simp[(aay r l i).1],by simp[(aay r l i).2]⟩
def aiE{ks:List Nat}{c:AV}{r:List AV}:AV.rI ks (c::r)=true↔AV.rI ks [c]=true∧AV.rI ks r=true:=by
 cases c<;>simp[AV.rI]
theorem adJ{ks:List Nat}:∀{cs:List AV},AV.rI ks cs=true->∀(i:Nat) (av:AV),cs[i]? = some av->AV.rI ks [av]=true
 | [],_,i,av,h=>by simp at h
 | c::r,hn,i,av,hi=>by
  obtain⟨h1,h2⟩:=aiE.1 hn;cases i with
  | zero=>simp at hi;subst hi;exact h1
  | succ i=>exact adJ h2 i av (by simpa using hi)
def alY{w:World}{D Dc:Nat->Prop}{B:Nat}{β βc:Nat->Value}{H Hc:Nat->AO}{r:Nat->Nat×Nat}{ks:List Nat}(hd:∀av v,RD w Dc B av v->RD w D B av v)
 (hr:∀k∈ks,β (r k).1=βc k∧∀x t sz ver n f,H (r k).1=.arr x t sz ver n f->∃ver0,ver=(r k).2+ver0∧Hc k=.arr x t sz ver0 n f) {av:AV} {v:Value} (h:RX w Dc B βc Hc av v):
 AV.rI ks [av]=true->RX w D B β H ((renL r [av]).headD .any) v:=by
 have hlist:∀(cs:List AV) (vs:Array Value),cs.length=vs.size->AV.rI ks cs=true->(∀(i:Nat) (av:AV) (v:Value),cs[i]? = some av->vs[i]? = some v->AV.rI ks [av]=true->RX w D B β H ((renL r [av]).headD .any) v) ->
  (renL r cs).length=vs.size∧∀(i:Nat) (av:AV) (v:Value),(renL r cs)[i]? = some av->vs[i]? = some v->RX w D B β H av v:=by
  intro cs vs hl hk ih;refine⟨by rw[(aay r cs 0).1];exact hl,fun i av v h1 h2=>?_⟩;rw[(aay r cs i).2]at h1;cases hc:cs[i]? with
  | none=>rw[hc]at h1;simp at h1
  | some c=>rw[hc]at h1;simp only[Option.map_some,Option.some.injEq]at h1;subst h1;exact ih i c v hc h2 (adJ hk i c hc)
 have hrd:∀{av:AV} {v:Value},RD w Dc B av v->RX w D B β H ((renL r [av]).headD .any) v:=by
  intro av v h
  induction h with
  | agg cs vs hl _ ih=>
   simp only[renL,List.headD_cons];refine .agg _ _ (by rw[(aay r cs 0).1];exact hl) (fun i av v h1 h2=>?_);rw[(aay r cs i).2]at h1;cases hc:cs[i]? with
   | none=>rw[hc]at h1;simp at h1
   | some c=>rw[hc]at h1;simp only[Option.map_some,Option.some.injEq]at h1;subst h1;exact ih i c v hc h2
  | tup cs vs hl _ ih=>
   simp only[renL,List.headD_cons];refine .tup _ _ (by rw[(aay r cs 0).1];exact hl) (fun i av v h1 h2=>?_);rw[(aay r cs i).2]at h1;cases hc:cs[i]? with
   | none=>rw[hc]at h1;simp at h1
   | some c=>rw[hc]at h1;simp only[Option.map_some,Option.some.injEq]at h1;subst h1;exact ih i c v hc h2
  | func fn cs vs hl _ ih=>
   simp only[renL,List.headD_cons];refine .func _ _ _ (by rw[(aay r cs 0).1];exact hl) (fun i av v h1 h2=>?_);rw[(aay r cs i).2]at h1;cases hc:cs[i]? with
   | none=>rw[hc]at h1;simp at h1
   | some c=>rw[hc]at h1;simp only[Option.map_some,Option.some.injEq]at h1;subst h1;exact ih i c v hc h2
  | may g av v _ hu ih=>simp only[renL,List.headD_cons];exact .may _ _ _ ih hu
  | any v=>simp only[renL,List.headD_cons];exact .d (.any v)
  | eptr fr sz n f i off b o cap hi h=>simp only[renL,List.headD_cons];exact .d (hd _ _ (.eptr fr sz n f i off b o cap hi h))
  | fmap es b clock ents hDb hb hl hk h=>simp only[renL,List.headD_cons];exact .d (hd _ _ (.fmap es b clock ents hDb hb hl hk h))
  | kmap ks f b clock ents hDb hb hl hk hc h=>simp only[renL,List.headD_cons];exact .d (hd _ _ (.kmap ks f b clock ents hDb hb hl hk hc h))
  | kmap0 ks f hz=>simp only[renL,List.headD_cons];exact .d (hd _ _ (.kmap0 ks f hz))
  | kmaps n ks f vs hl h=>simp only[renL,List.headD_cons];exact .d (hd _ _ (.kmaps n ks f vs hl h))
  | nxt t f b vs hb ht hf=>simp only[renL,List.headD_cons];exact .d (.nxt t f b vs hb ht hf)
  | val v=>simp only[renL,List.headD_cons];exact .d (.val v)
  | int k n=>simp only[renL,List.headD_cons];exact .d (.int k n)
  | bool b=>simp only[renL,List.headD_cons];exact .d (.bool b)
  | str s=>simp only[renL,List.headD_cons];exact .d (.str s)
  | nil=>simp only[renL,List.headD_cons];exact .d .nil
  | nilf=>simp only[renL,List.headD_cons];exact .d .nilf
  | nilp=>simp only[renL,List.headD_cons];exact .d .nilp
  | tnil t=>simp only[renL,List.headD_cons];exact .d (.tnil t)
  | nilm=>simp only[renL,List.headD_cons];exact .d .nilm
  | anyb t f b ht hf=>simp only[renL,List.headD_cons];exact .d (.anyb t f b ht hf)
  | ifc n v h=>simp only[renL,List.headD_cons];exact .d (.ifc n v h)
  | empty fr sz n f p cap hn hc=>simp only[renL,List.headD_cons];exact .d (.empty fr sz n f p cap hn hc)
  | slc fr sz n f b o cap c hn hc hD hB hcell hlen hone hel=>simp only[renL,List.headD_cons];exact .d (hd _ _ (.slc fr sz n f b o cap c hn hc hD hB hcell hlen hone hel))
 induction h with
 | d h=>exact fun _=>hrd h
 | ptr o off b h=>
  intro hk;simp[AV.rI]at hk;simp only[renL,List.headD_cons];exact .ptr _ _ b (by rw[(hr o hk).1];exact h)
 | bref o n b h _=>
  intro hk;simp[AV.rI]at hk;simp only[renL,List.headD_cons];obtain⟨b',h1,h2⟩:=h.aa6;cases h2;exact .bref _ _ b (.ptr _ _ b (by rw[(hr o hk).1];exact h1))
 | bptr fn o b h _=>
  intro hk;simp[AV.rI]at hk;simp only[renL,List.headD_cons];obtain⟨b',h1,h2⟩:=h.aa6;cases h2;exact .bptr _ _ b (.ptr _ _ b (by rw[(hr o hk).1];exact h1))
 | aptr o sz ver n i off v hs hi h=>
  intro hk;simp[AV.rI]at hk;simp only[renL,List.headD_cons];obtain⟨h1,h2⟩:=hr o hk;refine .aptr _ _ _ _ _ _ _ hs hi (fun x t sz' ver' n' f hH=>?_);obtain⟨ver0,rfl,h3⟩:=h2 _ _ _ _ _ _ hH;obtain⟨g1,g2⟩:=h _ _ _ _ _ _ h3;exact⟨by omega,fun e=>by rw[h1];exact g2 (by omega)⟩
 | aref o ver n v hs h=>
  intro hk;simp[AV.rI]at hk;simp only[renL,List.headD_cons];obtain⟨h1,h2⟩:=hr o hk;refine .aref _ _ _ _ hs (fun x t sz' ver' n' f hH=>?_);obtain⟨ver0,rfl,h3⟩:=h2 _ _ _ _ _ _ hH;obtain⟨g1,g2⟩:=h _ _ _ _ _ _ h3;exact⟨by omega,fun e=>by rw[h1];exact g2 (by omega)⟩
 | agg cs vs hl _ ih=>
  intro hk;simp only[renL,List.headD_cons];obtain⟨h1,h2⟩:=hlist cs vs hl (by simpa[AV.rI]using hk) ih;exact .agg _ _ h1 h2
 | tup cs vs hl _ ih=>
  intro hk;simp only[renL,List.headD_cons];obtain⟨h1,h2⟩:=hlist cs vs hl (by simpa[AV.rI]using hk) ih;exact .tup _ _ h1 h2
 | func fn cs vs hl _ ih=>
  intro hk;simp only[renL,List.headD_cons];obtain⟨h1,h2⟩:=hlist cs vs hl (by simpa[AV.rI]using hk) ih;exact .func _ _ _ h1 h2
 | may g av v _ hu ih=>
  intro hk;simp only[renL,List.headD_cons];exact .may _ _ _ (fun e=>ih e (by simpa[AV.rI]using hk)) hu
def aaU{ks ks':List Nat}(h:∀k∈ks,k∈ks')(cs:List AV):AV.rI ks cs=true->AV.rI ks' cs=true:=by
 induction cs using AV.rI.induct<;>simp_all[AV.rI]
def alZ(cs:List AV):∃ks,AV.rI ks cs=true:=by
 have app:∀{a b:List AV} {k1 k2:List Nat},AV.rI k1 a=true->AV.rI k2 b=true->AV.rI (k1++k2) a=true∧AV.rI (k1++k2) b=true:=fun h1 h2=>
  ⟨aaU (fun k hk=>List.mem_append_left _ hk) _ h1,aaU (fun k hk=>List.mem_append_right _ hk) _ h2⟩
 induction cs using AV.rI.induct with
 | case1=>exact⟨[],by simp[AV.rI]⟩
 | case2 o off r ih=>obtain⟨k,h⟩:=ih;exact⟨o::k,by simp[AV.rI,aaU (fun x hx=>List.mem_cons_of_mem _ hx) _ h]⟩
 | case3 o a b c d e r ih=>obtain⟨k,h⟩:=ih;exact⟨o::k,by simp[AV.rI,aaU (fun x hx=>List.mem_cons_of_mem _ hx) _ h]⟩
 | case4 o a b r ih=>obtain⟨k,h⟩:=ih;exact⟨o::k,by simp[AV.rI,aaU (fun x hx=>List.mem_cons_of_mem _ hx) _ h]⟩
 | case5 o n r ih=>obtain⟨k,h⟩:=ih;exact⟨o::k,by simp[AV.rI,aaU (fun x hx=>List.mem_cons_of_mem _ hx) _ h]⟩
 | case6 fn o r ih=>obtain⟨k,h⟩:=ih;exact⟨o::k,by simp[AV.rI,aaU (fun x hx=>List.mem_cons_of_mem _ hx) _ h]⟩
 | case7 cs r ih1 ih2=>obtain⟨k1,h1⟩:=ih1;obtain⟨k2,h2⟩:=ih2;exact⟨k1++k2,by simp[AV.rI,app h1 h2]⟩
 | case8 cs r ih1 ih2=>obtain⟨k1,h1⟩:=ih1;obtain⟨k2,h2⟩:=ih2;exact⟨k1++k2,by simp[AV.rI,app h1 h2]⟩
 | case9 f cs r ih1 ih2=>obtain⟨k1,h1⟩:=ih1;obtain⟨k2,h2⟩:=ih2;exact⟨k1++k2,by simp[AV.rI,app h1 h2]⟩
 | case10 g v r ih1 ih2=>obtain⟨k1,h1⟩:=ih1;obtain⟨k2,h2⟩:=ih2;exact⟨k1++k2,by simp[AV.rI,app h1 h2]⟩
 | case11 v r h1 h2 h3 h4 h5 h6 h7 h8 h9 ih=>obtain⟨k,h⟩:=ih;exact⟨k,by simp[AV.rI,h]⟩
def ren1(m:List (Nat×Nat))(c:AV):AV:=match m with
 | []=>c
 | m=>(renL (fun k=>(nameOf m k,0)) [c]).headD .any
def adk(m:List (Nat×Nat))(cs:List AV)(i:Nat):(renS m cs).length=cs.length∧(renS m cs)[i]? = (cs[i]?).map (ren1 m):=by
 cases m with
 | nil=>exact⟨rfl,by simp only[renS];cases cs[i]? <;> rfl⟩
 | cons p m=>exact⟨(aay _ cs i).1,(aay _ cs i).2⟩
def alX{r:Nat->Nat×Nat}{c:AV}{t:Nat}(h:(renL r [c]).headD .any=.tnil t):c=.tnil t:=by
 cases c<;>simp[renL]at h ⊢;exact h
def ren1_tag{m:List (Nat×Nat)}{c:AV}{t:Nat}(h:ren1 m c=.tnil t):c=.tnil t:=by
 cases m with
 | nil=>exact h
 | cons p m=>exact alX h
def ame{base j:Nat}{c:AV}{t:Nat}(h:aaw base j c=.tnil t):c=.tnil t:=by
 unfold aaw at h;cases c<;>simp[aa5]at h ⊢<;>(split at h<;>first|(cases h;done)|(cases h;rfl))
def renL_tag{r:Nat->Nat×Nat}{cs:List AV}{ty:Nat}(h:adZ cs ty):adZ (renL r cs) ty:=fun t ht=>by
 rw[(aay r cs 0).2]at ht;cases hc:cs[0]? with
 | none=>rw[hc]at ht;simp at ht
 | some c=>
  rw[hc]at ht;simp only[Option.map_some,Option.some.injEq]at ht;exact h t (by rw[hc,alX ht])
def renS_tag{m:List (Nat×Nat)}{base:Nat}{cs:List AV}{ty:Nat}(h:adZ cs ty):adZ (renS m (aa5 base 0 cs).1) ty:=fun t ht=>by
 rw[(adk m _ 0).2,(aaA base cs 0 0).2.1]at ht;cases hc:cs[0]? with
 | none=>rw[hc]at ht;simp at ht
 | some c=>
  rw[hc]at ht;simp only[Option.map_some,Option.some.injEq]at ht;exact h t (by rw[hc,ame (ren1_tag ht)])
def ajL{w:World}{D Dc:Nat->Prop}{B:Nat}{β βc:Nat->Value}{H Hc:Nat->AO}(hd:∀av v,RD w D B av v->RD w Dc B av v){av:AV}{v:Value}(h:RX w D B β H av v)(base j:Nat)(m:List (Nat×Nat))
 (hi:IdsOk β (fun k=>βc (nameOf m k)) H (fun k=>Hc (nameOf m k)) (ids1 base j av)):RX w Dc B βc Hc (ren1 m (aaw base j av)) v:=by
 have h1:=pass_rx hd h base j hi;cases m with
 | nil=>exact h1
 | cons p m=>
  obtain⟨ks,hks⟩:=alZ [aaw base j av];exact alY (r:=fun k=>(nameOf (p::m) k,0)) (ks:=ks) (fun _ _ q=>q) (fun k _=>⟨rfl,fun x t sz ver n f hf=>⟨ver,by simp,hf⟩⟩) h1 hks
theorem ach:∀(wo l:List (Nat×AO)) (_:(wo.map (·.1)).Nodup) (o:Nat),oL (aaE l wo) o=if o∈wo.map (·.1)then oL wo o else oL l o
 | [],l,_,o=>by simp[aaE]
 | (k,v)::r,l,hn,o=>by
  simp only[List.map_cons,List.nodup_cons]at hn;simp only[aaE];rw[ach r _ hn.2 o,aaM];by_cases h1:o∈r.map (·.1)
  ·have:k≠o:=by rintro rfl;exact hn.1 h1
   have h2:o∈(k,v).1::r.map (·.1):=List.mem_cons_of_mem _ h1;simp only[List.map_cons];rw[if_pos h1,if_pos h2];simp[oL,this]
  ·by_cases h2:o=k
   ·subst h2;rw[if_neg h1,if_pos (by simp)];simp[oL,upd]
   ·rw[if_neg h1,if_neg (by simp only[List.map_cons,List.mem_cons,not_or];exact⟨h2,h1⟩)];simp[upd,h2]
theorem aeJ{α:Type}:∀{l:List α},l.Nodup->∀{i j:Nat} {x:α},l[i]? = some x->l[j]? = some x->i=j
 | [],_,i,j,x,h,_=>by simp at h
 | a::r,hn,0,0,x,_,_=>rfl
 | a::r,hn,0,j+1,x,h1,h2=>by
  simp at h1 h2;subst h1;exact absurd (List.mem_of_getElem? h2) (List.nodup_cons.1 hn).1
 | a::r,hn,i+1,0,x,h1,h2=>by
  simp at h1 h2;subst h2;exact absurd (List.mem_of_getElem? h1) (List.nodup_cons.1 hn).1
 | a::r,hn,i+1,j+1,x,h1,h2=>by
  have:=aeJ (List.nodup_cons.1 hn).2 (i:=i) (j:=j) (x:=x) (by simpa using h1) (by simpa using h2);omega
def NR(ds:List Nat)(av:AV):Prop:=∀d∈ds,AV.nL d [av]=true
def RX.map_nr{w w':World}{D D':Nat->Prop}{B:Nat}{β β':Nat->Value}{H H':Nat->AO}{ds:List Nat}(hd:∀av v,RD w D B av v->RD w' D' B av v)
 (hp:∀o off v,o∉ds->RX w D B β H (.ptr o off) v->RX w' D' B β' H' (.ptr o off) v)
 (ha:∀o ver n v,o∉ds->RX w D B β H (.aref o ver n) v->RX w' D' B β' H' (.aref o ver n) v)
 (hq:∀o sz ver n i off v,o∉ds->RX w D B β H (.aptr o sz ver n i off) v->RX w' D' B β' H' (.aptr o sz ver n i off) v)
 {av:AV} {v:Value} (h:RX w D B β H av v):NR ds av->RX w' D' B β' H' av v:=by
 have hl:∀(cs:List AV),(∀d∈ds,AV.nL d cs=true)->∀(i:Nat) (av:AV),cs[i]? = some av->NR ds av:=fun cs hn i av hi d hd=>aaN (hn d hd) i av hi
 induction h with
 | d h=>exact fun _=>.d (hd _ _ h)
 | ptr o off b h=>exact fun hn=>hp _ _ _ (fun hm=>by simpa[AV.nL]using hn o hm) (.ptr o off b h)
 | aptr o sz ver n i off v hs hi h=>exact fun hn=>hq _ _ _ _ _ _ _ (fun hm=>by simpa[AV.nL]using hn o hm) (.aptr o sz ver n i off v hs hi h)
 | aref o ver n v hs h=>exact fun hn=>ha _ _ _ _ (fun hm=>by simpa[AV.nL]using hn o hm) (.aref o ver n v hs h)
 | bref o n b _ ih=>exact fun hn=>.bref o n b (ih (fun d hd=>by simpa[AV.nL]using hn d hd))
 | bptr fn o b _ ih=>exact fun hn=>.bptr fn o b (ih (fun d hd=>by simpa[AV.nL]using hn d hd))
 | agg cs vs hl' _ ih=>exact fun hn=>.agg cs vs hl' fun i av v h1 h2=>ih i av v h1 h2 (hl cs (fun d hd=>by simpa[AV.nL]using hn d hd) i av h1)
 | tup cs vs hl' _ ih=>exact fun hn=>.tup cs vs hl' fun i av v h1 h2=>ih i av v h1 h2 (hl cs (fun d hd=>by simpa[AV.nL]using hn d hd) i av h1)
 | func fn cs vs hl' _ ih=>exact fun hn=>.func fn cs vs hl' fun i av v h1 h2=>ih i av v h1 h2 (hl cs (fun d hd=>by simpa[AV.nL]using hn d hd) i av h1)
 | may g av v _ hu ih=>exact fun hn=>.may g av v (fun e=>ih e (fun d hd=>by simpa[AV.nL]using hn d hd)) hu
section
variable {P:Program}{E:Env}{S:AS}{a:Act}{w:World}{β:Nat->Value}{e:Eff}
def alh.is{l:List (Nat×Nat×Nat)}{p:Nat×Nat×Nat}{ob:AO}(h:alh S l p ob):(S.obj p.2.1).is∧ob.is:=by
 rcases h with⟨cs,_,h1,h2,_⟩|⟨x,t,sz,n,f,h1,h2⟩
 ·rw[h1,h2];exact⟨trivial,trivial⟩
 ·rw[h1,h2];exact⟨trivial,trivial⟩
def ag3(h:RelB E S.tmps S.obj a w β){orc:Orc}{i d:Nat}{f:FuncId}{caps avs:List AV}{vs:Array Value}(hl:(avs++caps).length=vs.size)
 (hv:∀(j:Nat) (av:AV) (v:Value),(avs++caps)[j]? = some av->vs[j]? = some v->RX w (E.D w β S.obj) E.B β S.obj av v)
 (hy:Yld S (ai8 orc i d (.func f caps) avs) e) (hn:∀k∈e.new,S.aak k=true) (hob:∀c,e.call=some c->Af P c.f c.args c.objs c.res c.objs'):
 Ent P f∧Calls P f vs w fun en w'=>∃v,en=.returned v∧After E S a e v w':=by
 unfold ai8 at hy;split at hy
 ·rename_i f' capz res objs' hfv _;simp only[AV.func.injEq]at hfv;obtain⟨rfl,rfl⟩:=hfv;simp only at hy;split at hy
  ·exact hy.fail.elim
  rename_i hok;have hok:acs [] (sameAs [] (aa5 1000 0 (avs++caps)).2) (aa5 1000 0 (avs++caps)).2=true:=by simpa using hok
  obtain⟨l,objs,hy,hkeys,hgo,hall0⟩:=agF _ _ _ _ hy (fun q hq=>by cases hq);simp only[List.append_nil]at hgo;generalize hms:sameAs [] (aa5 1000 0 (avs++caps)).2=ms at hy hok;have hall:∀q∈(aa5 1000 0 (avs++caps)).2,∃v,(nameOf ms q.1,q.2.1,v)∈l∧∀x t sz ver n f,S.obj q.2.1=.arr x t sz ver n f->ver=q.2.2:=fun q hq=>by
   rcases aci hok q hq with h1|h1
   ·cases h1
   ·exact hall0 _ h1
  obtain⟨hchk,hy⟩:=yI hy;have:=hy.ret;subst this;simp only[ant,Bool.and_eq_true]at hchk;obtain⟨⟨⟨⟨⟨⟨hc1,hc2⟩,hc3⟩,hc4⟩,hc5⟩,hc6⟩,hc7⟩:=hchk;rw[afL]at hc1 hc2 hc3 hc4;have hob:=hob _ rfl;simp only at hob hn;generalize hr:idTo l d=r at hn hc4 ⊢;have hrm:∀k b v,(k,b,v)∈l->r k=(b,v):=fun k b v hm=>by rw[<- hr];exact idTo_mem hc2 hm
  have hrn:∀k,k∉l.map (·.1)->r k=(10000*(d+1)+k,0):=fun k hk=>by rw[<- hr];exact idTo_new hk
  have hobk:(objs.map (·.1)).Nodup:=by rw[hkeys];exact hc2
  have hlen:objs.length=l.length:=by have:=congrArg List.length hkeys;simpa using this
  have hpass:∀p∈l,alh S l p (oL objs p.1):=by
   intro p hp;obtain⟨j,hj⟩:=List.getElem?_of_mem hp;have hjl:j<objs.length:=by rw[hlen];exact(List.getElem?_eq_some_iff.1 hj).1
   have hq:objs[j]? = some objs[j]:=List.getElem?_eq_getElem hjl;have hk1:objs[j].1=p.1:=by
    have h1:(objs.map (·.1))[j]? = (l.map (·.1))[j]? := by rw[hkeys]
    simp only[List.getElem?_map,hq,hj,Option.map_some,Option.some.injEq]at h1;exact h1
   have:=hgo j p _ hj hq;have hm:oL objs p.1=objs[j].2:=aeH hobk (by rw[<- hk1];exact List.getElem_mem hjl);rw[hm];exact this
  have hobj:∀k,(oL objs k).is->∃p∈l,p.1=k:=by
   intro k hk;have:=aem hk;have hm:k∈objs.map (·.1):=List.mem_map.2 ⟨_,this,rfl⟩;rw[hkeys]at hm;obtain⟨p,hp,hpk⟩:=List.mem_map.1 hm;exact⟨p,hp,hpk⟩
  let Ec:Env:={
   w0:=w
   B:=E.B
   D0:=E.D w β S.obj
   X:=fun b=>∃p∈l,aa9 (β p.2.1)=some b
   pin:=fun _=>none
   hpin:=fun o p h=>by cases h
   Y:=fun _=>False
   df:=[]
   hB:=Nat.le_trans E.hB h.frame.size
   hD:=fun b hb=>⟨hb.lt,fun⟨p,hp,hpb⟩=>hb.2.2 _ (hpass p hp).is.1 hpb⟩
   hX:=fun b ⟨p,hp,hpb⟩=>((h.objs p.2.1).lt hpb (hpass p hp).is.1).1
   hY:=fun b h=>h.elim
   hdf:=fun d h=>by cases h
   ndf:=.nil
   hT:=h.tab
   hTD:=fun b hb=>h.dIn (E.hTD b hb) }
  let βc:Nat->Value:=fun k=>β (r k).1
  have hβc:∀p∈l,βc p.1=β p.2.1:=fun p hp=>by show β (r p.1).1=_;rw[hrm p.1 p.2.1 p.2.2 hp]
  have hXown:∀b,Ec.X b->E.own b:=fun b ⟨p,hp,hpb⟩=>((h.objs p.2.1).lt hpb (hpass p hp).is.1).2
  have hDc:∀b,E.D w β S.obj b->Ec.D w βc (oL objs) b:=fun b hb=>⟨.inl hb,hb.lt,fun k hk hkb=>by
   obtain⟨p,hp,rfl⟩:=hobj k hk;rw[hβc p hp]at hkb;exact hb.2.2 _ (hpass p hp).is.1 hkb⟩
  have hrdc:∀av v,RD w (E.D w β S.obj) E.B av v->RD w (Ec.D w βc (oL objs)) E.B av v:=fun av v hrd=>hrd.mono (fun _ _=>rfl) hDc (Nat.le_refl _);have hidm:∀(m:List (Nat×Nat)) (ids:List (Nat×Nat×Nat)),(∀q∈ids,∃v,(nameOf m q.1,q.2.1,v)∈l∧∀x t sz ver n f,S.obj q.2.1=.arr x t sz ver n f->ver=q.2.2)->IdsOk β (fun k=>βc (nameOf m k)) S.obj (fun k=>oL objs (nameOf m k)) ids:=by
   intro m ids hq k o ver hm;obtain⟨v,g1,g2⟩:=hq _ hm;refine⟨hβc _ g1,fun x t sz ver0 n f hH=>?_⟩;have hH:oL objs (nameOf m k)=.arr x t sz ver0 n f:=hH;rcases hpass _ g1 with⟨cs,_,h1,h2,_⟩|⟨x1,t1,sz1,n1,f1,h1,h2⟩
   ·simp only at h2;rw[h2]at hH;cases hH
   ·simp only at h1 h2;rw[h2]at hH;cases hH;have:=g2 _ _ _ _ _ _ h1;exact⟨rfl,by simp only at this;rw[<- this];exact h1⟩
  have hids:∀(ids:List (Nat×Nat×Nat)),(∀q∈ids,∃v,(q.1,q.2.1,v)∈l∧∀x t sz ver n f,S.obj q.2.1=.arr x t sz ver n f->ver=q.2.2)->IdsOk β βc S.obj (oL objs) ids:=fun ids hq=>hidm [] ids hq;have hentry:RelB Ec (renS ms (aa5 1000 0 (avs++caps)).1) (oL objs) ⟨vs,[]⟩ w βc:=by
   refine⟨rfl,by simp only;rw[<- hl,(adk ms _ 0).1,(aaA 1000 (avs++caps) 0 0).1],fun t av ht=>?_,fun k=>?_,fun k k' b hne h1 h2 h3 h4=>?_,⟨rfl,rfl,rfl,Nat.le_refl _,fun _ _ _=>rfl⟩,fun o v n0 hp=>by cases hp⟩
   ·obtain⟨g1,g2,g3⟩:=aaA 1000 (avs++caps) 0 t;rw[(adk ms _ t).2,g2]at ht;cases hc:(avs++caps)[t]? with
    | none=>rw[hc]at ht;simp at ht
    | some c=>
     rw[hc]at ht;simp only[Option.map_some,Option.some.injEq,Nat.zero_add]at ht g3;subst ht;have htl:t<vs.size:=by rw[<- hl];exact(List.getElem?_eq_some_iff.1 hc).1
     have hx:=hv t c (vs.getD t undef) hc (by simp[Array.getD,htl]);exact ajL hrdc hx 1000 t ms (hidm ms _ fun q hq=>hall q (g3 c hc q hq))
   ·by_cases hk:(oL objs k).is
    ·obtain⟨p,hp,rfl⟩:=hobj k hk;have ho:=h.objs p.2.1;rcases hpass p hp with⟨cs,m,h1,h2,h3⟩|⟨x1,t1,sz1,n1,f1,h1,h2⟩
     ·rw[h1]at ho;rw[h2];obtain⟨b,us,ty,q1,q2,q3,q4,q5,q6⟩:=ho;refine⟨b,us,ty,by rw[hβc p hp,q1],q2,.inl ⟨p,hp,by rw[q1];rfl⟩,by rw[(adk m _ 0).1,(aaA _ cs 0 0).1];exact q4,fun j av u hj hu=>?_,renS_tag q6⟩;obtain⟨g1,g2,g3⟩:=aaA (adq p.1) cs 0 j;rw[(adk m _ j).2,g2]at hj;cases hc:cs[j]? with
      | none=>rw[hc]at hj;simp at hj
      | some c=>
       rw[hc]at hj;simp only[Option.map_some,Option.some.injEq,Nat.zero_add]at hj g3;subst hj;exact ajL hrdc (q5 j c u hc hu) _ j m (hidm m _ fun q hq=>h3 q (g3 c hc q hq))
     ·rw[h1]at ho;rw[h2];rcases ho with⟨q1,q2⟩|⟨g,cap,cur,q1,q2,q3,q4,q5,q6,q7,q8⟩
      ·exact .inl ⟨by rw[hβc p hp,q1],q2⟩
      ·exact .inr ⟨g,cap,cur,by rw[hβc p hp,q1],q2,q3,q4,q5,q6,.inl ⟨p,hp,by rw[q1];rfl⟩,fun j hj=>let ⟨s1,s2,s3⟩:=q8 j hj;⟨s1,s2,fun m av u hm hu=>hrdc _ _ (s3 m av u hm hu)⟩⟩
    ·cases hq:oL objs k with
     | none=>trivial
     | box cs=>rw[hq]at hk;exact(hk trivial).elim
     | arr x t sz ver n f=>rw[hq]at hk;exact(hk trivial).elim
     | it ks f seen pend=>rw[hq]at hk;exact(hk trivial).elim
   ·obtain⟨p,hp,rfl⟩:=hobj k h1;obtain⟨p',hp',rfl⟩:=hobj k' h2;rw[hβc p hp]at h3;rw[hβc p' hp']at h4;refine h.apart p.2.1 p'.2.1 b (fun e=>hne ?_) (hpass p hp).is.1 (hpass p' hp').is.1 h3 h4;obtain⟨j,hj⟩:=List.getElem?_of_mem hp;obtain⟨j',hj'⟩:=List.getElem?_of_mem hp';have e1:(l.map (·.2.1))[j]? = some p.2.1:=by simp[hj]
    have e2:(l.map (·.2.1))[j']? = some p'.2.1:=by simp[hj']
    have:j=j':=aeJ hc1 e1 (by rw[e2,e]);subst this;rw[hj]at hj';cases hj';rfl
  refine⟨hob.ent,(hob.calls Ec βc vs (fun _=>rfl) rfl (fun _ h=>h) hentry).mono ?_⟩;rintro en w' ⟨v,β2,rfl,hx,hlink⟩;refine⟨v,rfl,?_⟩;have hks:∀k,(oL objs' k).is->k∈objs'.map (·.1):=fun k hk=>List.mem_map.2 ⟨_,aem hk,rfl⟩;have hlks:∀p∈l,p.1∈objs'.map (·.1):=fun p hp=>by simpa using List.all_eq_true.1 hc5 p hp
  let β':Nat->Value:=fun o=>match(objs'.map (·.1)).find? (fun k=>(r k).1==o)with|some k=>β2 k|none=>β o
  have hβk:∀k∈objs'.map (·.1),β' (r k).1=β2 k:=by
   intro k hk;have:(objs'.map (·.1)).find? (fun k'=>(r k').1==(r k).1)=some k:=by
    cases hf:(objs'.map (·.1)).find? (fun k'=>(r k').1==(r k).1)with
    | none=>have:=List.find?_eq_none.1 hf k hk;simp at this
    | some k'=>
     have h1:=List.find?_some hf;have h2:=List.mem_of_find?_eq_some hf;simp at h1;obtain⟨j,hj⟩:=List.getElem?_of_mem hk;obtain⟨j',hj'⟩:=List.getElem?_of_mem h2;have e1:((objs'.map (·.1)).map fun k=>(r k).1)[j]? = some (r k).1:=by rw[List.getElem?_map,hj];rfl
     have e2:((objs'.map (·.1)).map fun k=>(r k).1)[j']? = some (r k).1:=by rw[List.getElem?_map,hj',<- h1];rfl
     have:=aeJ hc4 e1 e2;subst this;rw[hj]at hj';exact hj'.symm
   show(match(objs'.map (·.1)).find? (fun k'=>(r k').1==(r k).1)with|some k=>β2 k|none=>β (r k).1)=_;rw[this]
  have hβo:∀o,(∀k∈objs'.map (·.1),(r k).1≠o)->β' o=β o:=by
   intro o ho;have:(objs'.map (·.1)).find? (fun k'=>(r k').1==o)=none:=List.find?_eq_none.2 fun k hk=>by simpa using ho k hk
   show(match(objs'.map (·.1)).find? (fun k'=>(r k').1==o)with|some k=>β2 k|none=>β o)=_;rw[this]
  generalize hwo:objs'.map (fun p=>((r p.1).1,renO r p.1 p.2))=wo;have hwok:wo.map (·.1)=(objs'.map (·.1)).map fun k=>(r k).1:=by rw[<- hwo];simp
  have hwon:(wo.map (·.1)).Nodup:=by rw[hwok];exact hc4
  have hHk:∀k∈objs'.map (·.1),putH S wo (r k).1=renO r k (oL objs' k):=by
   intro k hk;obtain⟨p,hp,rfl⟩:=List.mem_map.1 hk;have hm:((r p.1).1,renO r p.1 p.2)∈wo:=by rw[<- hwo];exact List.mem_map.2 ⟨p,hp,rfl⟩
   unfold putH;rw[ach _ _ hwon,if_pos (List.mem_map.2 ⟨_,hm,rfl⟩),aeH hwon hm,aeH hc3 (show(p.1,p.2)∈objs' from hp)]
  have hHo:∀o,(∀k∈objs'.map (·.1),(r k).1≠o)->putH S wo o=S.obj o:=by
   intro o ho;unfold putH;rw[ach _ _ hwon,if_neg]
   ·rfl
   ·rw[hwok];intro hm;obtain⟨k,hk,hko⟩:=List.mem_map.1 hm;exact ho k hk hko
  have hcase:∀o,(∃k∈objs'.map (·.1),(r k).1=o)∨(∀k∈objs'.map (·.1),(r k).1≠o):=by
   intro o;by_cases hq:∃k∈objs'.map (·.1),(r k).1=o
   ·exact .inl hq
   ·exact .inr fun k hk hko=>hq ⟨k,hk,hko⟩
  have hrenis:∀k,(renO r k (oL objs' k)).is->(oL objs' k).is:=by
   intro k hk;cases hq:oL objs' k with
   | none=>rw[hq]at hk;exact hk
   | box cs=>trivial
   | arr x t sz ver n f=>trivial
   | it ks f seen pend=>trivial
  have hcN:Ec.N=w.heap.size:=rfl;have hsize:w.heap.size<=w'.heap.size:=hx.frame.size;have hnew:∀k∈objs'.map (·.1),(∃p∈l,p.1=k)∨S.aak (r k).1=true:=by
   intro k hk;by_cases hq:∃p∈l,p.1=k
   ·exact .inl hq
   ·refine .inr (hn _ (List.mem_map.2 ⟨k,?_,rfl⟩));unfold newOf;rw[List.mem_filter];refine⟨hk,?_⟩;simp only[Bool.not_eq_true',List.any_eq_false,beq_iff_eq];exact fun p hp hpk=>hq ⟨p,hp,hpk⟩
  have hownx:∀k b,(oL objs' k).is->aa9 (β2 k)=some b->Ec.X b∨w.heap.size<=b:=fun k b hk hb=>((hx.objs k).lt hb hk).2;have hold:∀o b,(∀k∈objs'.map (·.1),(r k).1≠o)->(S.obj o).is->aa9 (β o)=some b->b<w.heap.size∧¬Ec.X b:=by
   intro o b ho hi hb;refine⟨((h.objs o).lt hb hi).1,fun⟨p,hp,hpb⟩=>?_⟩;have hpo:p.2.1≠o:=by
    have:=ho p.1 (hlks p hp);rw[hrm p.1 p.2.1 p.2.2 hp]at this;exact this
   exact h.apart p.2.1 o b hpo (hpass p hp).is.1 hi hpb hb
  have hD1:∀b,E.D w β S.obj b->E.D w' β' (putH S wo) b:=by
   intro b hb;refine⟨hb.1,Nat.lt_of_lt_of_le hb.lt hsize,fun o hi hbo=>?_⟩;rcases hcase o with⟨k,hk,rfl⟩|ho
   ·rw[hβk k hk]at hbo;rw[hHk k hk]at hi;rcases hownx k b (hrenis k hi) hbo with hX|hX
    ·exact(Ec.hD b hb).2 hX
    ·have:=hb.lt;omega
   ·rw[hβo o ho]at hbo;rw[hHo o ho]at hi;exact hb.2.2 o hi hbo
  have hD2:∀b,Ec.D w' β2 (oL objs') b->E.D w' β' (putH S wo) b:=by
   intro b hb;refine⟨?_,hb.2.1,fun o hi hbo=>?_⟩
   ·rcases hb.1 with h1|h1|h1
    ·exact h1.1
    ·rcases hXown b h1 with h2|h2
     ·exact .inr (.inl h2)
     ·exact .inr (.inr h2)
    ·exact .inr (.inr (Nat.le_trans h.frame.size h1))
   ·rcases hcase o with⟨k,hk,rfl⟩|ho
    ·rw[hβk k hk]at hbo;rw[hHk k hk]at hi;exact hb.2.2 k (hrenis k hi) hbo
    ·rw[hβo o ho]at hbo;rw[hHo o ho]at hi;obtain⟨h1,h2⟩:=hold o b ho hi hbo;rcases hb.1 with h3|h3|h3
     ·exact h3.2.2 o hi hbo
     ·exact h2 h3
     ·have:w.heap.size<=b:=h3;omega
  have hheap:∀b,b<w.heap.size->¬Ec.X b->w'.heap[b]? = w.heap[b]? := fun b hb hX=>hx.frame.block b hb hX;have hrdA:∀av v,RD w (E.D w β S.obj) E.B av v->RD w' (E.D w' β' (putH S wo)) E.B av v:=fun av v hrd=>hrd.mono (fun b hb=>hheap b hb.lt (Ec.hD b hb).2) hD1 (Nat.le_refl _);have hrdB:∀av v,RD w' (Ec.D w' β2 (oL objs')) E.B av v->RD w' (E.D w' β' (putH S wo)) E.B av v:=fun av v hrd=>hrd.mono (fun _ _=>rfl) hD2 (Nat.le_refl _);have hren:∀k∈objs'.map (·.1),β' (r k).1=β2 k∧∀x t sz ver n f,putH S wo (r k).1=.arr x t sz ver n f->∃ver0,ver=(r k).2+ver0∧oL objs' k=.arr x t sz ver0 n f:=by
   intro k hk;refine⟨hβk k hk,fun x t sz ver n f hH=>?_⟩;rw[hHk k hk]at hH;cases hq:oL objs' k with
   | none=>rw[hq]at hH;cases hH
   | box cs=>rw[hq]at hH;cases hH
   | it ks f seen pend=>rw[hq]at hH;cases hH
   | arr x1 t1 sz1 ver1 n1 f1=>rw[hq]at hH;cases hH;exact⟨ver1,rfl,rfl⟩
  let ds:=(newOf l (objs'.map (·.1))).map fun k=>(r k).1
  have hpassed:∀o,(∃k∈objs'.map (·.1),(r k).1=o)->o∉ds->∃p∈l,p.2.1=o:=by
   rintro o ⟨k,hk,rfl⟩ hnd;by_cases hq:∃p∈l,p.1=k
   ·obtain⟨p,hp,rfl⟩:=hq;exact⟨p,hp,by rw[hrm p.1 p.2.1 p.2.2 hp]⟩
   ·exfalso;refine hnd (List.mem_map.2 ⟨k,?_,rfl⟩);unfold newOf;rw[List.mem_filter];refine⟨hk,?_⟩;simp only[Bool.not_eq_true',List.any_eq_false,beq_iff_eq];exact fun p hp hpk=>hq ⟨p,hp,hpk⟩
  have hbk:∀p∈l,β' p.2.1=β2 p.1∧putH S wo p.2.1=renO r p.1 (oL objs' p.1)∧(r p.1).2=p.2.2:=fun p hp=>by
   have h1:=hrm p.1 p.2.1 p.2.2 hp;have h2:=hβk p.1 (hlks p hp);have h3:=hHk p.1 (hlks p hp);rw[h1]at h2 h3;exact⟨h2,h3,by rw[h1]⟩
  have hrx:∀av u,RX w (E.D w β S.obj) E.B β S.obj av u->NR ds av->RX w' (E.D w' β' (putH S wo)) E.B β' (putH S wo) av u:=by
   intro av u hr0;refine hr0.map_nr hrdA (fun o off v hnd hpx=>?_) (fun o ver n v hnd hpx=>?_) (fun o sz ver n i off v hnd hpx=>?_)
   ·obtain⟨b,h1,rfl⟩:=hpx.aa6;clear hpx;refine .ptr _ _ b ?_;rcases hcase o with hk|ho
    ·obtain⟨p,hp,rfl⟩:=hpassed o hk hnd;rcases hpass p hp with⟨cs,_,q1,q2,_⟩|⟨x1,t1,sz1,n1,f1,q1,q2⟩
     ·have:=((hlink p.1 (by rw[q2];trivial)).2.1 _ q2).2;rw[(hbk p hp).1,this,hβc p hp,h1]
     ·have ho:=h.objs p.2.1;rw[q1]at ho;rcases ho with⟨g1,_⟩|⟨g,cap,cur,g1,_⟩
      ·rw[g1]at h1;cases h1
      ·rw[g1]at h1;cases h1
    ·rw[hβo o ho];exact h1
   ·obtain⟨hs,h1⟩:=hpx.aI;clear hpx;refine .aref _ _ _ _ hs (fun x t sz' ver' n' f hH=>?_);rcases hcase o with hk|ho
    ·obtain⟨p,hp,rfl⟩:=hpassed o hk hnd;obtain⟨g1,g2,g3⟩:=hbk p hp;rw[g2]at hH;rcases hpass p hp with⟨cs,_,q1,q2,_⟩|⟨x1,t1,sz1,n1,f1,q1,q2⟩
     ·obtain⟨cs',hcs'⟩:=((hlink p.1 (by rw[q2];trivial)).2.1 _ q2).1;rw[hcs']at hH;cases hH
     ·obtain⟨ver2,n2,f2,hv2,hcs2⟩:=(hlink p.1 (by rw[q2];trivial)).2.2 _ _ _ _ _ _ q2;rw[hv2]at hH;cases hH;obtain⟨r1,r2⟩:=h1 _ _ _ _ _ _ q1;rw[g3,g1];rcases hcs2 with⟨rfl,hnn,hbb⟩|hlt
      ·exact⟨by omega,fun e=>by rw[hnn,hbb,hβc p hp];exact r2 (by omega)⟩
      ·exact⟨by omega,fun e=>by omega⟩
    ·rw[hHo o ho]at hH;rw[hβo o ho];exact h1 _ _ _ _ _ _ hH
   ·obtain⟨hs,hi,h1⟩:=hpx.aaF;clear hpx;refine .aptr _ _ _ _ _ _ _ hs hi (fun x t sz' ver' n' f hH=>?_);rcases hcase o with hk|ho
    ·obtain⟨p,hp,rfl⟩:=hpassed o hk hnd;obtain⟨g1,g2,g3⟩:=hbk p hp;rw[g2]at hH;rcases hpass p hp with⟨cs,_,q1,q2,_⟩|⟨x1,t1,sz1,n1,f1,q1,q2⟩
     ·obtain⟨cs',hcs'⟩:=((hlink p.1 (by rw[q2];trivial)).2.1 _ q2).1;rw[hcs']at hH;cases hH
     ·obtain⟨ver2,n2,f2,hv2,hcs2⟩:=(hlink p.1 (by rw[q2];trivial)).2.2 _ _ _ _ _ _ q2;rw[hv2]at hH;cases hH;obtain⟨r1,r2⟩:=h1 _ _ _ _ _ _ q1;rw[g3,g1];rcases hcs2 with⟨rfl,hnn,hbb⟩|hlt
      ·exact⟨by omega,fun e=>by rw[hnn,hbb,hβc p hp];exact r2 (by omega)⟩
      ·exact⟨by omega,fun e=>by omega⟩
    ·rw[hHo o ho]at hH;rw[hβo o ho];exact h1 _ _ _ _ _ _ hH
  have hnds:∀d∈ds,S.aak d=true:=hn;have hks7:∀k,AO.rI (objs'.map (·.1)) (oL objs' k)=true:=by
   intro k;by_cases hk:(oL objs' k).is
   ·exact List.all_eq_true.1 hc7 _ (aem hk)
   ·cases hq:oL objs' k with
    | none=>rfl
    | box cs=>rw[hq]at hk;exact(hk trivial).elim
    | arr x t sz ver n f=>rfl
    | it ks f seen pend=>rfl
  refine⟨β',⟨h.defers,h.size,fun t av ht=>?_,fun o=>?_,fun o o' b hne h1 h2 h3 h4=>?_,?_,fun o u n0 hp=>?_⟩,?_⟩
  ·refine hrx _ _ (h.tmps t av ht) (fun d hd=>?_);have:=hnds d hd;simp only[AS.aak,Bool.and_eq_true]at this;exact aaN this.1.1 t av ht
  ·rcases hcase o with⟨k,hk,rfl⟩|ho
   ·have hox:=hx.objs k;have hb:=hβk k hk;rw[hHk k hk];cases hq:oL objs' k with
    | none=>trivial
    | box cs=>
     rw[hq]at hox;obtain⟨b,us,ty,q1,q2,q3,q4,q5,q6⟩:=hox;refine⟨b,us,ty,by rw[hb,q1],q2,?_,by rw[(aay r cs 0).1];exact q4,fun j av u hj hu=>?_,renL_tag q6⟩
     ·rcases q3 with h1|h1
      ·exact hXown b h1
      ·exact .inr (Nat.le_trans h.frame.size h1)
     ·rw[(aay r cs j).2]at hj;cases hc:cs[j]? with
      | none=>rw[hc]at hj;simp at hj
      | some c=>
       rw[hc]at hj;simp only[Option.map_some,Option.some.injEq]at hj;subst hj;have:=hks7 k;rw[hq]at this;exact alY hrdB hren (q5 j c u hc hu) (adJ this j c hc)
    | it ks f seen pend=>
     rw[hq]at hox;obtain⟨b,mb,sa,q1,q2,q3,q4,q5⟩:=hox;refine⟨b,mb,sa,by rw[hb,q1],q2,?_,q4.imp id fun⟨m,w1,w2⟩=>⟨m,w1,hrdB _ _ w2⟩,q5⟩;rcases q3 with h1|h1
     ·exact hXown b h1
     ·exact .inr (Nat.le_trans h.frame.size h1)
    | arr x t sz ver n f=>
     rw[hq]at hox;rcases hox with⟨q1,q2⟩|⟨g,cap,cur,q1,q2,q3,q4,q5,q6,q7,q8⟩
     ·exact .inl ⟨by rw[hb,q1],q2⟩
     ·refine .inr ⟨g,cap,cur,by rw[hb,q1],q2,q3,q4,q5,q6,?_,fun j hj=>let ⟨s1,s2,s3⟩:=q8 j hj;⟨s1,s2,fun m av u hm hu=>hrdB _ _ (s3 m av u hm hu)⟩⟩;rcases q7 with h1|h1
      ·exact hXown g h1
      ·exact .inr (Nat.le_trans h.frame.size h1)
   ·rw[hHo o ho];have hoo:=h.objs o;by_cases hi:(S.obj o).is
    ·refine hoo.mono (hβo o ho) (fun b hb=>let ⟨h1,h2⟩:=hold o b ho hi hb;hheap b h1 h2) (fun cs hcs j av u hc hr0=>hrx av u hr0 (fun d hd=>?_)) hrdA;have hno:=ahD (hnds d hd) o;rw[hcs]at hno;exact aaN hno j av hc
    ·cases hq:S.obj o with
     | none=>trivial
     | box cs=>rw[hq]at hi;exact(hi trivial).elim
     | arr x t sz ver n f=>rw[hq]at hi;exact(hi trivial).elim
     | it ks f seen pend=>rw[hq]at hi;exact(hi trivial).elim
  ·rcases hcase o with⟨k,hk,rfl⟩|ho
   ·rw[hHk k hk]at h1;rw[hβk k hk]at h3;rcases hcase o' with⟨k',hk',rfl⟩|ho'
    ·rw[hHk k' hk']at h2;rw[hβk k' hk']at h4;exact hx.apart k k' b (fun e=>hne (by rw[e])) (hrenis k h1) (hrenis k' h2) h3 h4
    ·rw[hHo o' ho']at h2;rw[hβo o' ho']at h4;obtain⟨g1,g2⟩:=hold o' b ho' h2 h4;rcases hownx k b (hrenis k h1) h3 with g3|g3
     ·exact g2 g3
     ·omega
   ·rw[hHo o ho]at h1;rw[hβo o ho]at h3;obtain⟨g1,g2⟩:=hold o b ho h1 h3;rcases hcase o' with⟨k',hk',rfl⟩|ho'
    ·rw[hHk k' hk']at h2;rw[hβk k' hk']at h4;rcases hownx k' b (hrenis k' h2) h4 with g3|g3
     ·exact g2 g3
     ·omega
    ·rw[hHo o' ho']at h2;rw[hβo o' ho']at h4;exact h.apart o o' b hne h1 h2 h3 h4
  ·refine⟨hx.frame.os.trans h.frame.os,hx.frame.tape.trans h.frame.tape,hx.frame.output.trans h.frame.output,Nat.le_trans h.frame.size hsize,fun b hb hX=>?_⟩;rw[hheap b (Nat.lt_of_lt_of_le hb h.frame.size) (fun hq=>?_)]
   ·exact h.frame.block b hb hX
   ·rcases hXown b hq with h1|h1
    ·exact hX h1
    ·omega
  ·obtain⟨p1,p2⟩:=h.pin o u n0 hp;rcases hcase o with hk|ho
   ·have hnd:o∉ds:=by
     intro hm;have:=hnds o hm;simp only[AS.aak,Bool.and_eq_true]at this;have h2:=E.hpin o _ hp;rw[h2]at this;simp at this
    obtain⟨p,hpl,rfl⟩:=hpassed o hk hnd;obtain⟨g1,g2,g3⟩:=hbk p hpl;rcases hpass p hpl with⟨cs,_,q1,q2,_⟩|⟨x1,t1,sz1,n1,f1,q1,q2⟩
    ·have hl2:=(hlink p.1 (by rw[q2];trivial)).2.1 _ q2;obtain⟨⟨cs',hcs'⟩,hbb⟩:=hl2;refine⟨fun cs2 _=>by rw[g1,hbb,hβc p hpl];exact p1 cs q1,fun x t sz ver n f hf=>by rw[g2,hcs']at hf;cases hf⟩
    ·obtain⟨ver2,n2,f2,hv2,hcs2⟩:=(hlink p.1 (by rw[q2];trivial)).2.2 _ _ _ _ _ _ q2;refine⟨(fun cs2 hf=>by rw[g2,hv2]at hf;cases hf),fun x t sz ver n f hf hv0=>?_⟩;rw[g2,hv2]at hf;cases hf;rw[g3]at hv0;rcases hcs2 with⟨_,hnn,hbb⟩|hlt
     ·obtain⟨r1,r2⟩:=p2 _ _ _ _ _ _ q1 (by omega);exact⟨by rw[g1,hbb,hβc p hpl];exact r1,by rw[hnn];exact r2⟩
     ·omega
   ·rw[hβo o ho,hHo o ho];exact⟨p1,p2⟩
  ·exact alY hrdB hren (hx.tmps 0 res rfl) hc6
 ·exact hy.fail.elim
end
end Go.Ai

namespace Go.Ai
open Go Go.Proofs
section
variable {P:Program}{E:Env}{S:AS}{a:Act}{w:World}{β:Nat->Value}{o:Oper}{e:Eff}{ti:TI}{t:Nat}{T:List (Nat×TI)}
def World.aed(w:World)(b:Nat)(o:Obj):World:={ w with heap:=w.heap.setIfInBounds b o }
def am2{w:World}{b:Nat}(o:Obj)(h:b<w.heap.size):(World.aed w b o).heap[b]? = some o:=by
 unfold World.aed;simp[h]
def am1{w:World}{b k:Nat}(o:Obj)(h:k≠b):(World.aed w b o).heap[k]? = w.heap[k]? := by
 unfold World.aed;simp[Array.getElem?_setIfInBounds,Ne.symm h]
def akH{w:World}{b:Nat}(o:Obj):(World.aed w b o).heap.size=w.heap.size:=by
 unfold World.aed;simp
def aiB(w:World)(ty:TypeId)(b bm:Nat)(seen:Array Nat)(es:Array MapEntry)(hi:w.heap[b]? = some (.mapIter (some bm) es.size seen es.size))(hb:w.heap[bm]? = some (.map es es.size))(hs:∀(i:Nat) (e:MapEntry),es[i]? = some e->e.born=i):
 ((∀i,i<es.size->i∈seen.toList)∧(Instr.next (.pointer (some ⟨b,0,none⟩)) false ty).run P w=.ok (.tuple #[.bool false]) w) ∨
 ∃i,i<es.size∧i∉seen.toList∧∃(k v:Value) (w1:World),w1.heap=w.heap∧w1.os=w.os∧w1.tape=w.tape∧w1.output=w.output ∧
  (Instr.next (.pointer (some ⟨b,0,none⟩)) false ty).run P w=.ok (.tuple #[.bool true,k,v]) (World.aed w1 b (.mapIter (some bm) es.size (seen.push i) es.size)):=by
 have hborn:∀x∈es.toList,x.born<es.size:=fun x hx=>by
  obtain⟨i,hi,rfl⟩:=List.getElem_of_mem hx;have h1:i<es.size:=by simpa using hi
  rw[hs i (es.toList[i]) (by rw[<- Array.getElem?_toList,List.getElem?_eq_getElem hi])];exact h1
 have ht:=next_test_false seen es es.size es.size hborn (Nat.le_refl _);simp only[Instr.next,getObj,Sem.run_bind,Sem.run,hi,hb,Result.andThen,ht,Bool.false_eq_true,if_false];have hmem:∀x∈(Array.filter (fun e=>!seen.contains e.born) es).toList,x.born<es.size∧x.born∉seen.toList:=fun x hx=>by
  simp only[Array.toList_filter,List.mem_filter,Bool.not_eq_true',Array.mem_toList_iff]at hx;refine⟨hborn x (by simpa using hx.1),fun hm=>?_⟩;have:=hx.2;simp at this;exact this (by simpa using hm)
 have hall:∀i,i<es.size->i∉seen.toList->∃x,x∈(Array.filter (fun e=>!seen.contains e.born) es).toList:=fun i hi hn=>by
  refine⟨es[i],?_⟩;have hbi:=hs i es[i] (Array.getElem?_eq_getElem hi);simp[hbi];simpa using hn
 generalize Array.filter (fun e=>!seen.contains e.born) es=L at hmem hall ⊢;have e1:L.filter (fun x=>decide (x.born<es.size))=L:=Array.filter_eq_self.2 (fun x hx=>by simpa using(hmem x (by simpa using hx)).1);have e2:L.filter (fun x=>decide (x.born≥es.size))=#[]:=by
  rw[Array.filter_eq_empty_iff];intro x hx;have:=(hmem x (by simpa using hx)).1;simp;omega
 simp only[e1,e2,Array.append_empty];by_cases h0:L.size=0
 ·left;have:L=#[]:=Array.eq_empty_of_size_eq_zero h0;subst this;refine⟨fun i hi=>Classical.byContradiction fun hn=>?_,?_⟩
  ·obtain⟨x,hx⟩:=hall i hi hn;simp at hx
  ·simp[choose,Sem.run,Question.forced]
 ·right;have hne:L.isEmpty=false:=by simp[Array.isEmpty,h0]
  simp only[hne,Bool.false_eq_true,if_false,Array.empty_append,Array.size_map];have hch:∃(j:Nat) (w1:World),j<L.size∧w1.heap=w.heap∧w1.os=w.os∧w1.tape=w.tape∧w1.output=w.output∧(choose (Question.mapNext L.size)).run P w=.ok j w1:=by
   by_cases hf:L.size<=1
   ·exact⟨0,w,by omega,rfl,rfl,rfl,rfl,by simp[choose,Sem.run,Question.forced,hf]⟩
   ·exact⟨_,w.drew,Nat.mod_lt _ (by omega),rfl,rfl,rfl,rfl,by
     simp only[choose,Sem.run,Question.forced,decide_eq_true_eq,hf,if_false,Question.cut];rfl⟩
  obtain⟨j,w1,hj,q1,q2,q3,q4,hrun⟩:=hch;obtain⟨m1,m2⟩:=hmem L[j] (by simp);refine⟨L[j].born,m1,m2,L[j].key,L[j].val,w1,q1,q2,q3,q4,?_⟩;have hset:(setObj b (.mapIter (some bm) es.size (seen.push L[j].born) es.size)).run P w1=.ok () (World.aed w1 b (.mapIter (some bm) es.size (seen.push L[j].born) es.size)):=by
   have hi1:w1.heap[b]? = some (.mapIter (some bm) es.size seen es.size):=by rw[q1];exact hi
   simp only[setObj,Sem.run,hi1];rfl
  simp only[hrun,Array.getElem?_map,Array.getElem?_eq_getElem hj,Option.map_some,Sem.run_bind,hset,Result.andThen];rfl
def aiF(ht:TIOk P t ti)(h:RelB E S.tmps S.obj a w β){x:AV}{v:Value}{dst:Option Nat}(hx:RX w (E.D w β S.obj) E.B β S.obj x v)
 (hy:Yld S (aiG ti x dst) e) (hn:∀k∈e.new,S.aak k=true):ae0 E S a e ((Instr.range t v).run P w):=by
 unfold aiG at hy;split at hy
 ·rename_i d;split at hy
  ·rename_i k el hk;have hu:=ht.map hk;split at hy
   ·rename_i ks f;have:=hy.ret;subst this;have hrd:=hx.kmap_rd;cases hrd with
    | kmap0 _ _ hz=>
     have hh:(w.alloc (.mapIter none 0 #[] 0)).heap[w.heap.size]? = some (.mapIter none 0 #[] 0):=Go.heap_alloc_new w _;obtain⟨q1,q2⟩:=h.new (hn d (by simp)) (Grow.alloc w (.mapIter none 0 #[] 0)) (ob:=.it ks f (fun _=>[]) false) (v:=.pointer (some ⟨w.heap.size,0,none⟩)) (fun b hb=>by simp[aa9]at hb;omega)
      (fun _ _=>⟨w.heap.size,none,#[],by simp[upd],by rw[hz];exact hh,.inr h.frame.size,.inl ⟨rfl,by rw[hz];rfl⟩,rfl⟩)
     exact⟨_,_,run_range_nilMap (P:=P) w t k el hu,_,by rw[pO];exact q1,by rw[pO];exact .ptr d 0 w.heap.size (by simp[upd])⟩
    | kmap _ _ b clock ents hD hb hl hkeys hc hv=>
     obtain⟨rfl,hborn⟩:=hc;have hh:(w.alloc (.mapIter (some b) (ks ()).length #[] (ks ()).length)).heap[w.heap.size]? = some (.mapIter (some b) (ks ()).length #[] (ks ()).length):=Go.heap_alloc_new w _;obtain⟨q1,q2⟩:=h.new (hn d (by simp)) (Grow.alloc w (.mapIter (some b) (ks ()).length #[] (ks ()).length)) (ob:=.it ks f (fun _=>[]) false) (v:=.pointer (some ⟨w.heap.size,0,none⟩)) (fun b hb=>by simp[aa9]at hb;omega)
      (fun _ hrd=>⟨w.heap.size,some b,#[],by simp[upd],hh,.inr h.frame.size,.inr ⟨b,rfl,hrd _ _ (.kmap _ _ b ents.size ents hD hb hl hkeys ⟨rfl,hborn⟩ hv)⟩,rfl⟩)
     refine⟨_,_,?_,_,by rw[pO];exact q1,by rw[pO];exact .ptr d 0 w.heap.size (by simp[upd])⟩;have:=run_range_map (P:=P) w t k el b ents ents.size hu hb;rw[hl];exact this
   ·have:=hy.ret;subst this;obtain rfl:=hx.nilm_inv;have hh:(w.alloc (.mapIter none 0 #[] 0)).heap[w.heap.size]? = some (.mapIter none 0 #[] 0):=Go.heap_alloc_new w _;obtain⟨q1,q2⟩:=h.new (hn d (by simp)) (Grow.alloc w (.mapIter none 0 #[] 0)) (ob:=.it (fun _=>[]) (fun _=>.any) (fun _=>[]) false) (v:=.pointer (some ⟨w.heap.size,0,none⟩)) (fun b hb=>by simp[aa9]at hb;omega)
     (fun _ _=>⟨w.heap.size,none,#[],by simp[upd],hh,.inr h.frame.size,.inl ⟨rfl,rfl⟩,rfl⟩)
    exact⟨_,_,run_range_nilMap (P:=P) w t k el hu,_,by rw[pO];exact q1,by rw[pO];exact .ptr d 0 w.heap.size (by simp[upd])⟩
   ·exact hy.fail.elim
  ·exact hy.fail.elim
 ·exact hy.fail.elim
def akR(h:RelB E S.tmps S.obj a w β){x:AV}{v:Value}{isS:Bool}{ty:TypeId}(hx:RX w (E.D w β S.obj) E.B β S.obj x v)
 (hy:Yld S (amD x isS) e):ae0 E S a e ((Instr.next v isS ty).run P w):=by
 unfold amD at hy;split at hy
 ·exact hy.fail.elim
 ·split at hy
  ·rename_i ob;have hy:=hy.obj;split at hy
   ·rename_i ks f seen hold;have:=hy.ret;subst this;obtain⟨b,hβ,rfl⟩:=hx.aa6;have ho:=h.objs ob;rw[hold]at ho;obtain⟨b',mb,sa,q1,q2,q3,q4,q5⟩:=ho;rw[hβ]at q1;simp only[Value.pointer.injEq,Option.some.injEq,Addr.mk.injEq,and_true]at q1;subst q1;have hlt:b<w.heap.size:=(Array.getElem?_eq_some_iff.1 q2).1;rcases q4 with⟨rfl,hl⟩|⟨m,rfl,hrd⟩
    ·-- a map that is nil
     obtain⟨g1,g2⟩:=h.turn (o:=ob) (by rw[hold];trivial) (w':=w) rfl rfl rfl (Nat.le_refl _) (fun _ _ _=>rfl) (ob:=.it ks f seen true) trivial (v:=β ob)
      (fun b hb=>.inl hb) (fun _ _=>rfl) (fun x t sz ver n f hf=>by rw[hold]at hf;cases hf) (fun cs hcs=>by rw[hold]at hcs;cases hcs)
      (fun _ hrd=>⟨b,none,sa,by simp[upd,hβ],q2,q3,.inl ⟨rfl,hl⟩,.inl ⟨q5,fun i hi=>absurd hi (by omega)⟩⟩) (fun ks f s p hf=>⟨_,_,_,_,rfl⟩)
     refine⟨.tuple #[.bool false],w,?_,_,by rw[pO];exact g1,.d (.nxt _ _ false _ rfl (fun q=>by cases q) (fun _ i hi=>absurd hi (by omega)))⟩;simp only[Instr.next,getObj,Sem.run_bind,Sem.run,q2,Result.andThen];rfl
    ·cases hrd with
     | kmap _ _ _ clock ents hD hb hl hkeys hc hv=>
      obtain⟨rfl,hborn⟩:=hc;rcases aiB (P:=P) w ty b m sa ents (by rw[<- hl];exact q2) hb hborn with⟨n1,n2⟩|⟨i,n1,n2,k,v,w1,n3,n4,n5,n6,n7⟩
      ·obtain⟨g1,g2⟩:=h.turn (o:=ob) (by rw[hold];trivial) (w':=w) rfl rfl rfl (Nat.le_refl _) (fun _ _ _=>rfl) (ob:=.it ks f seen true) trivial (v:=β ob)
        (fun b hb=>.inl hb) (fun _ _=>rfl) (fun x t sz ver n f hf=>by rw[hold]at hf;cases hf) (fun cs hcs=>by rw[hold]at hcs;cases hcs)
        (fun _ hrd=>⟨b,some m,sa,by simp[upd,hβ],q2,q3,.inr ⟨m,rfl,hrd _ _ (.kmap _ _ m ents.size ents hD hb hl hkeys ⟨rfl,hborn⟩ hv)⟩,.inl ⟨q5,fun i hi=>by rw[<- q5];exact n1 i (by omega)⟩⟩) (fun ks f s p hf=>⟨_,_,_,_,rfl⟩)
       exact⟨_,w,n2,_,by rw[pO];exact g1,.d (.nxt _ _ false _ rfl (fun q=>by cases q) (fun _ i hi=>by rw[<- q5];exact n1 i (by omega)))⟩
      ·have hw:(World.aed w1 b (.mapIter (some m) ents.size (sa.push i) ents.size)).heap=(World.aed w b (.mapIter (some m) ents.size (sa.push i) ents.size)).heap:=by
        unfold World.aed;rw[n3]
       obtain⟨g1,g2⟩:=h.turn (o:=ob) (by rw[hold];trivial) (w':=World.aed w1 b (.mapIter (some m) ents.size (sa.push i) ents.size)) n4 n5 n6 (by rw[akH,n3];exact Nat.le_refl _) (fun k _ hk=>by rw[hw];exact am1 _ (fun e=>hk (by rw[hβ,e];rfl))) (ob:=.it ks f seen true) trivial (v:=β ob)
        (fun b hb=>.inl hb) (fun _ _=>rfl) (fun x t sz ver n f hf=>by rw[hold]at hf;cases hf) (fun cs hcs=>by rw[hold]at hcs;cases hcs)
        (fun _ hrd=>⟨b,some m,sa.push i,by simp[upd,hβ],by rw[hw,am2 _ hlt,hl],q3,.inr ⟨m,rfl,hrd _ _ (.kmap _ _ m ents.size ents hD hb hl hkeys ⟨rfl,hborn⟩ hv)⟩,.inr ⟨i,by omega,by rw[<- q5];exact n2,by rw[Array.toList_push,q5]⟩⟩) (fun ks f s p hf=>⟨_,_,_,_,rfl⟩)
       exact⟨_,_,n7,_,by rw[pO];exact g1,.d (.nxt _ _ true _ rfl (fun _=>⟨i,by omega,by rw[<- q5];exact n2⟩) (fun q=>by cases q))⟩
   ·exact hy.fail.elim
  ·exact hy.fail.elim
def aj6(h:RelB E S.tmps S.obj a w β){x:AV}{v:Value}(hx:RX w (E.D w β S.obj) E.B β S.obj x v)
 (hy:Yld S (aj7 x) e):aau E S w β e ((Instr.entry v).run P w):=by
 unfold aj7 at hy;split at hy
 ·rename_i ob;have hy:=hy.obj;split at hy
  ·rename_i ks f seen hold;obtain⟨hc,hy⟩:=hy.cond;obtain rfl:=vI hy;obtain⟨b,hβ,rfl⟩:=hx.aa6;have ho:=h.objs ob;rw[hold]at ho;obtain⟨b',mb,sa,q1,q2,q3,q4,q5⟩:=ho;rw[hβ]at q1;simp only[Value.pointer.injEq,Option.some.injEq,Addr.mk.injEq,and_true]at q1;subst q1;rcases q4 with⟨rfl,hl⟩|⟨m,rfl,hrd⟩
   ·omega
   ·cases hrd with
    | kmap _ _ _ clock ents hD hb hl hkeys hcl hv=>
     obtain⟨rfl,hborn⟩:=hcl;have q5:sa.toList=seen ():=q5;have hne:seen ()≠[]:=fun q=>by rw[q]at hc;simp at hc
     obtain⟨i,hi⟩:∃i,(seen ()).getLastD (ks ()).length=i∧(seen ()).getLastD 0=i∧sa.back? = some i:=by
      obtain⟨l',i,hq⟩:∃l' i,seen ()=l'++[i]:=by
       rcases List.eq_nil_or_concat (seen ())with q|⟨l',i,q⟩
       ·exact absurd q hne
       ·exact⟨l',i,by rw[q,List.concat_eq_append]⟩
      refine⟨i,by rw[hq];simp,by rw[hq];simp,?_⟩;rw[<- Array.getLast?_toList,q5,hq];simp
     obtain⟨i1,i2,i3⟩:=hi;rw[i1]at hc;have hie:i<ents.size:=by omega
     have hbi:=hborn i ents[i] (Array.getElem?_eq_getElem hie);have hfind:ents.find? (·.born==i)=some ents[i]:=by
      have hn:(ents.toList.map (·.born)).Nodup:=by
       have:ents.toList.map (·.born)=List.range ents.size:=by
        refine List.ext_getElem (by simp) fun j h1 h2=>?_;have hj:j<ents.size:=by simpa using h1
        simp[hborn j ents[j] (Array.getElem?_eq_getElem hj)]
       rw[this];exact List.nodup_range
      have:=find_born ents[i] ents.toList hn (by simp);rw[hbi]at this;rw[<- Array.find?_toList];exact this
     have hk:=hkeys i ((ks ())[i]'(by omega)) ents[i] (List.getElem?_eq_getElem (by omega)) (Array.getElem?_eq_getElem hie);refine⟨.tuple #[ents[i].key,ents[i].val],?_,.tup _ _ rfl (fun j av u h1 h2=>?_),rfl,rfl,rfl⟩
     ·simp only[Instr.entry,getObj,Sem.run_bind,Sem.run,q2,hb,Result.andThen,i3,hl,bne_self_eq_false,Bool.false_eq_true,if_false,hfind];rfl
     ·rcases j with _|_|j
      ·simp only[List.getElem?_cons_zero,Option.some.injEq]at h1;subst h1;simp at h2;subst h2;rw[hk];have:(ks ())[i]'(by omega)=(ks ()).getD ((seen ()).getLastD 0) ⟨#[]⟩:=by rw[i2];simp[List.getD,show i<(ks ()).length by omega]
       rw[this];exact .d (.str fun _=>_)
      ·simp only[List.getElem?_cons_zero,List.getElem?_cons_succ,Option.some.injEq]at h1;subst h1;simp at h2;subst h2;have:=hv i ents[i] (Array.getElem?_eq_getElem hie)
       exact .d (by
        have e:(fun(_:Unit)=>(seen ()).getLastD 0)=fun _=>i:=by funext _;exact i2
        show RD _ _ _ (f fun _=>(seen ()).getLastD 0) _;rw[e];exact this)
      ·simp at h1
  ·exact hy.fail.elim
 ·exact hy.fail.elim
end
end Go.Ai

namespace Go.Ai
open Go
section
variable {P:Program}{E:Env}{S:AS}{a:Act}{w:World}{β:Nat->Value}{o:Oper}{e:Eff}{T:List (Nat×TI)}
def Goes.eff{s:Sem Value}(he:execOp a.eval o=do pure (.value (<- s)))(h:ae0 E S a e (s.run P w)):Goes P E S a w o e:=by
 obtain⟨u,w',hr,h⟩:=h;unfold Goes;rw[he];simp only[Sem.run_bind,hr,Result.andThen_ok];exact h
def Goes.unit{s:Sem Unit}(he:execOp a.eval o=do s;pure .skip){w':World}(hr:s.run P w=.ok () w')(h:After E S a e undef w'):Goes P E S a w o e:=by
 unfold Goes;rw[he];simp only[Sem.run_bind,hr,Result.andThen_ok];exact h
def afE(h:RelB E S.tmps S.obj a w β){g:Option (Unit->Bool)}(hg:∀b,g=some b->b ()=true){x:Option Operand}{av:Option AV}(hy:Yld S (opdO g x) av):
 (av=none∧x.map a.eval=none)∨∃av' u,av=some av'∧x.map a.eval=some u∧RX w (E.D w β S.obj) E.B β S.obj av' u:=by
 cases x with
 | none=>have:=hy.ret;subst this;exact .inl ⟨rfl,rfl⟩
 | some x=>
  obtain⟨v,h1,h2⟩:=hy.bind;have:=h2.ret;subst this;exact .inr ⟨v,_,rfl,rfl,oS h hg h1⟩
def ahr(ps:Array (Nat×Operand))(ev:Operand->Value):(ps.map fun p=>(p.1,ev p.2))=(ps.toList.map fun p=>(p.1,ev p.2)).toArray:=by
 apply Array.ext';simp
def args_one{c:Call}(h:c.args.toList.length=1):∃x,c.args=#[x]:=by
 obtain⟨x,hx⟩:=List.length_eq_one_iff.1 h;exact⟨x,Array.ext' (by simpa using hx)⟩
def agS{c:Call}(h:c.args.toList.length=2):∃x y,c.args=#[x,y]:=by
 generalize hl:c.args.toList=l at h
 match l,h with
 | [x,y],_=>exact⟨x,y,Array.ext' (by simpa using hl)⟩
def afM{mx:Bool}{vs:List AV}{e:Eff}(hy:Yld S (aeo mx vs) e):∃k m n,vs=[.int k m,.int k n]∧e=⟨.int k (fun _=>if mx then(if m ()<n ()then n ()else m ())else(if n ()<m ()then n ()else m ())),[],[],none⟩:=by
 unfold aeo at hy;split at hy
 ·rename_i k m k' n;replace hy:=yI hy;obtain⟨hk,hy⟩:=hy;subst hk;exact⟨k,m,n,rfl,vI hy⟩
 ·exact hy.fail.elim
def alc(h:RelB E S.tmps S.obj a w β){t:Nat}{x:AV}{v:Value}(hx:RX w (E.D w β S.obj) E.B β S.obj x v)(hc:x.cells.all AV.cell=true)(hp:AV.aae x.cells=true):
 ae0 E S a ⟨.eptr .any x.cells.length (fun _=>1) (fun _=>x.cells) (fun _=>0) 0,[],[],none⟩ ((Instr.box t v).run P w):=by
 obtain⟨hl,hel⟩:=aer hx hc;have hg:=h.grow (Grow.alloc w (.cells v.cells t));have hD:=hg.2.1 w.heap.size (Nat.le_refl _) (by simp);have hh:(w.alloc (.cells v.cells t)).heap[w.heap.size]? = some (.cells v.cells t (0,0)):=heap_alloc_new w _;have hs:RD (w.alloc (.cells v.cells t)) (E.D (w.alloc (.cells v.cells t)) β S.obj) E.B (.slc .any x.cells.length (fun _=>1) (fun _=>x.cells)) (.slice (some ⟨w.heap.size,0,none⟩) 1 1):=by
  refine .slc .any x.cells.length (fun _=>1) (fun _=>x.cells) w.heap.size 0 1 (fun k=>v.cells.getD k undef) (Nat.le_refl _) (by unfold maxLen;omega) hD trivial (fun k hk=>?_) (fun i hi=>rfl) (fun i hi=>hc) (fun i j av hi hj=>?_)
  ·have hk':k<v.cells.size:=by rw[<- hl];simpa using hk
   simp only[World.cell?,hh,Nat.zero_add];rw[Array.getD_eq_getD_getElem?,Array.getElem?_eq_getElem hk'];rfl
  ·have:i=0:=by simpa using hi
   subst this;have hjl:j<x.cells.length:=(List.getElem?_eq_some_iff.1 hj).1;have hjv:j<v.cells.size:=by rw[<- hl];exact hjl
   have q:=(hel j av _ hj (Array.getElem?_eq_getElem hjv)).pure (ace hp j av hj);have q2:=q.mono (w':=w.alloc (.cells v.cells t)) (D':=E.D (w.alloc (.cells v.cells t)) β S.obj) (B':=E.B) (fun b hb=>(Grow.alloc w (.cells v.cells t)).old b hb.lt) (fun b hb=>⟨hb.1,Nat.lt_of_lt_of_le hb.2.1 (Grow.alloc w (.cells v.cells t)).size,hb.2.2⟩) (Nat.le_refl _);simpa[Array.getD,hjv]using q2
 refine⟨.pointer (some ⟨w.heap.size,0,none⟩),w.alloc (.cells v.cells t),rfl,β,hg.1,?_⟩;rw[ajH];have:=RX.eptr (β:=β) (H:=S.obj) .any x.cells.length (fun _=>1) (fun _=>x.cells) (fun _=>0) 0 w.heap.size 0 1 (by simp) hs;simpa using this
def adT(hT:TOk P T)(h:RelB E S.tmps S.obj a w β){orc:Orc}{i:Nat}{g:Option (Unit->Bool)}(hg:∀b,g=some b->b ()=true)(hy:Yld S (exOp T orc i g o) e)(hn:∀k∈e.new,S.aak k=true)
 (hob:∀c,e.call=some c->Af P c.f c.args c.objs c.res c.objs'):Goes P E S a w o e:=by
 unfold exOp at hy;simp only at hy;split at hy
 ·-- move
  rename_i x ho;obtain⟨v,h1,hy⟩:=hy.bind;obtain rfl:=vI hy;exact Goes.value (v:=a.eval x) (by simp[execOp,ho]) h rfl (oS h hg h1)
 ·-- assign
  rename_i x ho;obtain⟨v,h1,hy⟩:=hy.bind;obtain rfl:=vI hy;exact Goes.value (v:=a.eval x) (by simp[execOp,ho]) h rfl (oS h hg h1)
 ·-- pick
  rename_i c x y ho;obtain⟨cv,h1,hy⟩:=hy.bind;obtain⟨xv,h2,hy⟩:=hy.bind;obtain⟨yv,h3,hy⟩:=hy.bind;obtain⟨u,hr,hx,hw,_⟩:=akM (P:=P) (oS h hg h1) (oS h (g:=none) (fun b hb=>by cases hb) h2) (oS h (g:=none) (fun b hb=>by cases hb) h3) hy;refine Goes.value (v:=u) ?_ h hw hx;simp only[execOp,ho];simp only[Sem.run_bind]at hr ⊢;cases hb:(asBool (a.eval c)).run P w with
  | ok b w1=>rw[hb]at hr;simp only[Result.andThen_ok]at hr ⊢;cases b<;>simp at hr ⊢<;>exact hr
  | halt x w1=>rw[hb]at hr;simp at hr
 ·-- alloc
  rename_i t ho;obtain⟨ht,hr,hy⟩:=aaO hT hy;split at hy
  ·rename_i d hd;have:=hy.ret;subst this;exact Goes.eff (s:=Instr.alloc t true (.tuple #[])) (by simp only[execOp,ho]) (ajm ht h (hn _ (by simp)))
  ·exact hy.fail.elim
 ·-- box
  rename_i t x ho;obtain⟨ht,hr,hy⟩:=aaO hT hy;obtain⟨v,h1,hy⟩:=hy.bind;split at hy
  ·rename_i d hd;replace hy:=yI hy;obtain⟨hc,hy⟩:=hy;split at hy
   ·replace hy:=yI hy;obtain⟨hp,hy⟩:=hy;simp only[Bool.and_eq_true]at hp;obtain rfl:=vI hy;exact Goes.eff (s:=Instr.box t (a.eval x)) (by simp only[execOp,ho]) (alc h (oS h hg h1) hc hp.1)
   have:=hy.ret;subst this;have hnd:=hn _ (List.mem_singleton.2 rfl);exact Goes.eff (s:=Instr.box t (a.eval x)) (by simp only[execOp,ho]) (anA h hnd (oS h hg h1) hc (amy hnd h1))
  ·exact hy.fail.elim
 ·-- build
  rename_i t ps ho;obtain⟨ht,hr,hy⟩:=aaO hT hy;obtain⟨vs,h1,hy⟩:=hy.bind;obtain⟨q1,q2⟩:=abr h hg h1;refine Goes.eff (s:=Instr.build t (ps.map fun(i,x)=>(i,a.eval x))) (by simp only[execOp,ho]) ?_;have:=ajg hT ht (agZ (ev:=a.eval) q1 q2) hy;rw[<- ahr]at this;exact this.eff h
 ·-- buildSlice
  rename_i t n ps ho;obtain⟨ht,hr,hy⟩:=aaO hT hy;obtain⟨vs,h1,hy⟩:=hy.bind;obtain⟨q1,q2⟩:=abr h hg h1;refine Goes.eff (s:=Instr.buildSlice t n (ps.map fun(i,x)=>(i,a.eval x))) (by simp only[execOp,ho]) ?_;have:=aeh hT ht h (agZ (ev:=a.eval) q1 q2) hy hn;rw[<- ahr]at this;exact this
 ·-- load
  rename_i t x ho;obtain⟨ht,hr,hy⟩:=aaO hT hy;obtain⟨v,h1,hy⟩:=hy.bind;have hp:aau E S w β e ((Instr.loadAt t (a.eval x)).run P w):=afO ht hr h (oS h hg h1) hy;exact Goes.eff (s:=Instr.loadAt t (a.eval x)) (by simp only[execOp,ho]) (hp.eff h)
 ·-- store
  rename_i t x y ho;obtain⟨ht,hr,hy⟩:=aaO hT hy;obtain⟨p,h1,hy⟩:=hy.bind;obtain⟨v,h2,hy⟩:=hy.bind;obtain⟨w',hr',ha⟩:=ais ht h (oS h hg h1) (oS h hg h2) hy;exact Goes.unit (s:=Instr.storeAt t (a.eval x) (a.eval y)) (by simp only[execOp,ho]) hr' ha
 ·-- nilCheck
  rename_i x ho;obtain⟨v,h1,hy⟩:=hy.bind;have hx:=oS h hg h1;split at hy
  ·obtain rfl:=vI hy;obtain⟨b,_,hv⟩:=hx.aa6;exact Goes.value (v:=a.eval x) (by simp[execOp,ho,hv]) h rfl hx
  ·obtain rfl:=vI hy;obtain⟨b,o',cap,_,_,hv⟩:=hx.acJ;exact Goes.value (v:=a.eval x) (by simp[execOp,ho,hv]) h rfl hx
  ·obtain rfl:=vI hy;obtain⟨vs,hv,_⟩:=hx.abL;exact Goes.value (v:=a.eval x) (by simp[execOp,ho,hv]) h rfl hx
  ·exact hy.fail.elim
 ·-- binOp
  rename_i op t x y t' ho;obtain⟨xv,h1,hy⟩:=hy.bind;obtain⟨yv,h2,hy⟩:=hy.bind;obtain⟨ht,hr,hy⟩:=aaO hT hy;have hp:=aib (P:=P) (S:=S) (E:=E) hT ht x y (fun hn=>by unfold nilC at hn;split at hn;rfl;cases hn) (oS h hg h1) (oS h hg h2) hy;exact Goes.eff (s:=do eqGuard op t x y (a.eval x) (a.eval y);binOp op t (a.eval x) (a.eval y)) (by simp only[execOp,ho]) (hp.eff h)
 ·-- unOp
  rename_i op t x ho;obtain⟨xv,h1,hy⟩:=hy.bind;have hp:=akn (P:=P) (S:=S) (E:=E) (oS h hg h1) hy;exact Goes.eff (s:=Op.unary op (a.eval x)) (by simp only[execOp,ho]) (hp.eff h)
 ·-- convert
  rename_i s t x ho;obtain⟨hs,_,hy⟩:=aaO hT hy;obtain⟨ht,_,hy⟩:=aaO hT hy;obtain⟨xv,h1,hy⟩:=hy.bind;exact Goes.eff (s:=convert s t (a.eval x)) (by simp only[execOp,ho]) (al8 hT hs ht h (oS h hg h1) hy)
 ·-- makeFunc
  rename_i fn first caps ho
  split at hy
  ·rename_i f;have hp:=afq (P:=P) (f:=f) h hg hy;exact Goes.eff (s:=Instr.makeFunc (.func f) #[] (caps.map a.eval)) (by simp only[execOp,ho];simp) (hp.eff h)
  ·rename_i f x;split at hy
   ·obtain⟨v,h2,hy⟩:=hy.bind;have hv:=oS h hg h2;split at hy
    ·rename_i o';obtain rfl:=vI hy;obtain⟨b,hβ,hx⟩:=hv.aa6;have hp:aau E S w β ⟨.bptr f o',[],[],none⟩ ((Instr.makeFunc (.func f) #[a.eval x] #[]).run P w):=
      ⟨.func (.func f) #[.pointer (some ⟨b,0,none⟩)] #[],by rw[hx];simp[Instr.makeFunc],.bptr _ _ b (.ptr _ _ b hβ),rfl,rfl,rfl⟩
     exact Goes.eff (s:=Instr.makeFunc (.func f) #[a.eval x] #[]) (by simp only[execOp,ho];simp) (hp.eff h)
    ·exact hy.fail.elim
   ·exact hy.fail.elim
  ·exact hy.fail.elim
 ·-- slice
  rename_i t x lo hi mx ho;obtain⟨ht,hr,hy⟩:=aaO hT hy;obtain⟨xv,h1,hy⟩:=hy.bind;obtain⟨lv,h2,hy⟩:=hy.bind;obtain⟨hv,h3,hy⟩:=hy.bind;split at hy
  ·exact Goes.eff (s:=Instr.sliceAt t (a.eval x) (lo.map a.eval) (hi.map a.eval) none) (by simp only[execOp,ho];rfl) (aiv hT ht h (oS h hg h1) (afE h hg h2) (afE h hg h3) hy)
  ·exact hy.fail.elim
 ·-- makeSlice
  rename_i t l c ho;obtain⟨ht,hr,hy⟩:=aaO hT hy;obtain⟨lv,h1,hy⟩:=hy.bind;obtain⟨cv,h2,hy⟩:=hy.bind;exact Goes.eff (s:=Instr.makeSlice t (a.eval l) (a.eval c)) (by simp only[execOp,ho]) (aeL hT ht h (oS h hg h1) (oS h hg h2) hy hn)
 ·-- lookup
  rename_i t x k ok ho;obtain⟨ht,hr,hy⟩:=aaO hT hy;obtain⟨xv,h1,hy⟩:=hy.bind;obtain⟨kv,h2,hy⟩:=hy.bind;unfold ahH at hy;split at hy
  ·exact Goes.eff (s:=Instr.lookup t (a.eval x) (a.eval k) ok) (by simp only[execOp,ho]) ((agw hT ht (oS h hg h1) (oS h hg h2) hy).eff h)
  ·cases ok with
   | true=>exact hy.fail.elim
   | false=>exact Goes.eff (s:=Instr.lookup t (a.eval x) (a.eval k) false) (by simp only[execOp,ho]) ((ahG hT ht (oS h hg h1) (oS h hg h2) (show Yld S (aep T (aa3 T t) xv kv) e by simpa using hy)).eff h)
 ·-- fieldAddr
  rename_i t x k ho;obtain⟨ht,hr,hy⟩:=aaO hT hy;obtain⟨xv,h1,hy⟩:=hy.bind;exact Goes.eff (s:=Instr.fieldAt t (a.eval x) k) (by simp only[execOp,ho]) ((aeZ ht (oS h hg h1) hy).eff h)
 ·-- indexAddr
  rename_i t x k ho;obtain⟨ht,hr,hy⟩:=aaO hT hy;obtain⟨xv,h1,hy⟩:=hy.bind;obtain⟨kv,h2,hy⟩:=hy.bind;exact Goes.eff (s:=Instr.indexAt t (a.eval x) (a.eval k)) (by simp only[execOp,ho]) ((aeT hT ht (oS h hg h1) (oS h hg h2) hy).eff h)
 ·-- index
  rename_i t x k ho;obtain⟨ht,hr,hy⟩:=aaO hT hy;obtain⟨xv,h1,hy⟩:=hy.bind;obtain⟨kv,h2,hy⟩:=hy.bind;exact Goes.eff (s:=Instr.index t (a.eval x) (a.eval k)) (by simp only[execOp,ho]) ((aj1 hT ht (oS h hg h1) (oS h hg h2) hy).eff h)
 ·-- field
  rename_i t x k ho;obtain⟨ht,hr,hy⟩:=aaO hT hy;obtain⟨xv,h1,hy⟩:=hy.bind;exact Goes.eff (s:=Instr.field t (a.eval x) k) (by simp only[execOp,ho]) ((aj3 hT ht (oS h hg h1) hy).eff h)
 ·-- extract
  rename_i x k ho;obtain⟨xv,h1,hy⟩:=hy.bind;exact Goes.eff (s:=Instr.extract (a.eval x) k) (by simp only[execOp,ho]) ((agJ (oS h hg h1) hy).eff h)
 ·-- range
  rename_i t x ho;obtain⟨ht,hr,hy⟩:=aaO hT hy;obtain⟨xv,h1,hy⟩:=hy.bind;exact Goes.eff (s:=Instr.range t (a.eval x)) (by simp only[execOp,ho]) (aiF ht h (oS h hg h1) hy hn)
 ·-- next
  rename_i x isS ho;obtain⟨xv,h1,hy⟩:=hy.bind;exact Goes.eff (s:=Instr.next (a.eval x) isS o.type) (by simp only[execOp,ho]) (akR h (oS h hg h1) hy)
 ·-- entry
  rename_i x ho;obtain⟨xv,h1,hy⟩:=hy.bind;exact Goes.eff (s:=Instr.entry (a.eval x)) (by simp only[execOp,ho]) ((aj6 h (oS h hg h1) hy).eff h)
 ·-- call
  rename_i c ho;obtain⟨vs,h1,hy⟩:=hy.bind;obtain⟨q1,q2⟩:=abr h hg h1;split at hy
  ·-- of a function value
   rename_i f hcal;obtain⟨fv,h2,hy⟩:=hy.bind;have hf:=oS h hg h2;unfold callV at hy;split at hy
   ·rename_i fid ob;obtain⟨b,hβ,hfe⟩:=hf.aeu
    have hcs:=ag3 (P:=P) (caps:=[]) h (vs:=#[.pointer (some ⟨b,0,none⟩)]++c.args.map a.eval) (by simp[q1];omega) (fun j av v hj hv=>by
     cases j with
     | zero=>
      rw[Array.getElem?_append_left (by simp)]at hv;simp at hj hv;subst hj;subst hv;exact .ptr _ _ b hβ
     | succ j=>
      simp only[List.append_nil,List.getElem?_cons_succ]at hj;rw[Array.getElem?_append_right (by simp)]at hv;simp at hv;obtain⟨x,hx,rfl⟩:=hv;exact q2 j av x hj (by simpa using hx)) hy hn hob
    obtain⟨hent,hcalls⟩:=hcs;unfold Goes;have hrun:(execOp a.eval o).run P w=.ok (.enter fid (#[.pointer (some ⟨b,0,none⟩)]++c.args.map a.eval)) w:=by
     have:=hent (#[.pointer (some ⟨b,0,none⟩)]++c.args.map a.eval) w;simp only[execOp,ho,resolve,hcal,hfe,Deferred.ofValue];simpa[invoke]using this
    rw[hrun];exact hcalls
   have hfun:∃fid caps,fv=.func fid caps:=by
    unfold ai8 at hy;split at hy
    ·exact⟨_,_,rfl⟩
    ·exact hy.fail.elim
   obtain⟨fid,caps,rfl⟩:=hfun
   obtain⟨cv,hfe,hcl,hcel⟩:=hf.abL
   have hcs:=ag3 (P:=P) h (vs:=c.args.map a.eval++cv) (by simp[q1,hcl]) (fun j av v hj hv=>by
    have hl2:vs.length=c.args.size:=by rw[q1];simp
    by_cases hjl:j<vs.length
    ·rw[List.getElem?_append_left hjl]at hj;rw[Array.getElem?_append_left (by simp;omega)]at hv;simp at hv;obtain⟨x,hx,rfl⟩:=hv;exact q2 j av x hj (by simpa using hx)
    ·rw[List.getElem?_append_right (by omega)]at hj;rw[Array.getElem?_append_right (by simp;omega)]at hv;simp only[Array.size_map]at hv;rw[<- hl2]at hv;exact hcel _ _ _ hj hv) hy hn hob
   obtain⟨hent,hcalls⟩:=hcs;unfold Goes;have hrun:(execOp a.eval o).run P w=.ok (.enter fid (c.args.map a.eval++cv)) w:=by
    have:=hent (c.args.map a.eval++cv) w;simp only[execOp,ho,resolve,hcal,hfe,Deferred.ofValue];simpa[invoke]using this
   rw[hrun];exact hcalls
  ·-- len
   rename_i hcal;split at hy
   ·rename_i v t rest hts;obtain⟨ht,hr,hy⟩:=aaO hT hy;have hargs:=args_one (c:=c) (by simpa using q1.symm);obtain⟨x,hx⟩:=hargs;have hts':c.argTypes=(t::rest).toArray:=by rw[<- hts]
    have hp:=amO (P:=P) (E:=E) (S:=S) (w:=w) (β:=β) (ty:=o.type) (rest:=rest) ht (q2 0 v x rfl (by rw[hx];rfl)) hy;refine Goes.eff (s:=Builtin.len_ c.argTypes o.type (c.args.map a.eval)) (by simp only[execOp,ho,resolve,hcal];rfl) ?_;rw[hts',hx,show(#[x]:Array Operand).map a.eval=#[a.eval x] by simp];exact hp.eff h
   ·exact hy.fail.elim
  ·-- append
   rename_i hcal;split at hy
   ·rename_i b x st xt hts;replace hy:=yI hy;obtain⟨hxt,hy⟩:=hy
    ·obtain⟨ht,hr,hy⟩:=aaO hT hy;have hargs:=agS (c:=c) (by simpa using q1.symm);obtain⟨xo,yo,hx⟩:=hargs;have hts':c.argTypes=#[st,xt]:=by rw[<- Array.toArray_toList (xs:=c.argTypes),hts]
     have hd2:∃d2,P.underlying xt=some d2∧ahB d2:=by
      rw[Bool.or_eq_true]at hxt;rcases hxt with h1|h1
      ·simp at h1;subst h1;have hk:∃el,(aa3 T xt).k=.slice el:=by
        unfold aev at hy;split at hy
        ·rename_i el hk;exact⟨el,hk⟩
        ·exact hy.fail.elim
       obtain⟨el,hk⟩:=hk;exact⟨_,ht.slice hk,.inl ⟨el,rfl⟩⟩
      ·have hk:(aa3 T xt).k=.str:=by
        cases hq:(aa3 T xt).k<;>rw[hq]at h1<;>first|rfl|exact absurd h1 Bool.false_ne_true
       have hreal:(aa3 T xt).real=true:=by unfold TI.real;rw[hk]
       exact⟨_,(hT.at xt hreal).str hk,.inr rfl⟩
     obtain⟨d2,hd2,hni⟩:=hd2;refine Goes.eff (s:=Builtin.append_ c.argTypes o.type (c.args.map a.eval)) (by simp only[execOp,ho,resolve,hcal];rfl) ?_;rw[hts',hx,show(#[xo,yo]:Array Operand).map a.eval=#[a.eval xo,a.eval yo] by simp];exact aii hT ht h hd2 hni (q2 0 b xo rfl (by rw[hx];rfl)) (q2 1 x yo rfl (by rw[hx];rfl)) hy hn
   ·exact hy.fail.elim
  ·-- min
   rename_i hcal;obtain⟨k,m,n,hvs,rfl⟩:=afM hy;subst hvs;have hargs:=agS (c:=c) (by simpa using q1.symm);obtain⟨xo,yo,hx⟩:=hargs;have e1:=(q2 0 _ xo rfl (by rw[hx];rfl)).aaq;have e2:=(q2 1 _ yo rfl (by rw[hx];rfl)).aaq;refine Goes.eff (s:=Builtin.min_ c.argTypes o.type (c.args.map a.eval)) (by simp only[execOp,ho,resolve,hcal];rfl) ?_;have hmap:c.args.map a.eval=#[.int k (m ()),.int k (n ())]:=by rw[hx];simp[e1,e2]
   rw[hmap,(afN (P:=P) (w:=w) k (m ()) (n ()) c.argTypes o.type).1];exact aau.eff h ⟨_,rfl,.d (.int k (fun _=>if n ()<m ()then n ()else m ())),rfl,rfl,rfl⟩
  ·-- max
   rename_i hcal;obtain⟨k,m,n,hvs,rfl⟩:=afM hy;subst hvs;have hargs:=agS (c:=c) (by simpa using q1.symm);obtain⟨xo,yo,hx⟩:=hargs;have e1:=(q2 0 _ xo rfl (by rw[hx];rfl)).aaq;have e2:=(q2 1 _ yo rfl (by rw[hx];rfl)).aaq;refine Goes.eff (s:=Builtin.max_ c.argTypes o.type (c.args.map a.eval)) (by simp only[execOp,ho,resolve,hcal];rfl) ?_;have hmap:c.args.map a.eval=#[.int k (m ()),.int k (n ())]:=by rw[hx];simp[e1,e2]
   rw[hmap,(afN (P:=P) (w:=w) k (m ()) (n ()) c.argTypes o.type).2];exact aau.eff h ⟨_,rfl,.d (.int k (fun _=>if m ()<n ()then n ()else m ())),rfl,rfl,rfl⟩
  ·exact hy.fail.elim
 ·exact hy.fail.elim
end
section
variable {P:Program}{E:Env}{S:AS}{a:Act}{w:World}{β:Nat->Value}{o:Oper}{e:Eff}{T:List (Nat×TI)}
def Yld.amq{α:Type}(a:α):Yld S (.ret a) a:=⟨⟨a,[],[],[]⟩,rfl,fun c hc=>by simp at hc,rfl⟩
def mixA_t{g:Unit->Bool}(hg:g ()=true):∀{a z m:AV},mixA g a z=some m->m=a:=by
 intro a z m h;unfold mixA at h;split at h
 ·split at h
  ·cases h;simp only[hg,if_true]
  ·cases h
 ·cases h;simp only[hg,if_true]
 ·cases h;simp only[hg,if_true]
 ·cases h;simp only[hg,if_true]
 ·split at h<;>cases h;rfl
 ·split at h<;>cases h;simp only[hg,if_true]
 all_goals cases h
 all_goals rfl
def mixA_f{g:Unit->Bool}(hg:g ()=false):∀{a z m:AV},mixA g a z=some m->m=z:=by
 intro a z m h;unfold mixA at h;split at h
 ·split at h
  ·rename_i e;subst e;cases h;simp only[hg,Bool.false_eq_true,if_false]
  ·cases h
 ·cases h;simp only[hg,Bool.false_eq_true,if_false]
 ·cases h;simp only[hg,Bool.false_eq_true,if_false]
 ·cases h;simp only[hg,Bool.false_eq_true,if_false]
 ·split at h
  ·rename_i e1 e2;cases Nat.eq_of_beq_eq_true e1;cases Nat.eq_of_beq_eq_true e2;cases h;rfl
  ·cases h
 ·split at h
  ·rename_i e1;cases Nat.eq_of_beq_eq_true e1;cases h;simp only[hg,Bool.false_eq_true,if_false]
  ·cases h
 all_goals cases h
 all_goals rfl
theorem aiS{g:Unit->Bool}:∀{l z m:List AV},mixL g l z=some m->(g ()=true->m=l)∧(g ()=false->m=z)
 | [],[],m,h=>by simp only[mixL,Option.some.injEq]at h;subst h;exact⟨fun _=>rfl,fun _=>rfl⟩
 | a::r,z::s,m,h=>by
  simp only[mixL]at h;split at h
  ·rename_i x y hx hy;cases h;have ih:=aiS hy;exact⟨fun e=>by rw[mixA_t e hx,ih.1 e],fun e=>by rw[mixA_f e hx,ih.2 e]⟩
  ·cases h
 | [],_::_,m,h=>by simp[mixL]at h
 | _::_,[],m,h=>by simp[mixL]at h
def ajT{g:Unit->Bool}{e:Eff}:∀{wo acc:List (Nat×AO)} {e':Eff},Yld S (mixW g e wo acc) e'->(g ()=true∧e'=e)∨∃l,e'={ e with dst:=.may g e.dst,wo:=acc++l }∧(g ()=true->l=wo)∧(g ()=false->∀p∈l,S.obj p.1=p.2)
 | [],acc,e',h=>by
  simp only[mixW]at h;have:=h.ret;subst this;exact .inr ⟨[],by simp,fun _=>rfl,fun _ p hp=>by cases hp⟩
 | (o,.box cs)::r,acc,e',h=>by
  simp only[mixW]at h;replace h:=h.obj;split at h
  ·rename_i zs hz;split at h
   ·rename_i m hm;rcases ajT h with h1|⟨l,h1,h2,h3⟩
    ·exact .inl h1
    refine .inr ⟨(o,.box m)::l,by rw[h1,List.append_assoc];rfl,fun hg=>by rw[h2 hg,(aiS hm).1 hg],fun hg p hp=>?_⟩;rcases List.mem_cons.1 hp with rfl|hp
    ·rw[(aiS hm).2 hg];exact hz
    ·exact h3 hg p hp
   ·obtain⟨hc,h⟩:=h.cond;exact .inl ⟨hc,h.ret.symm⟩
  ·obtain⟨hc,h⟩:=h.cond;exact .inl ⟨hc,h.ret.symm⟩
 | (o,.none)::r,acc,e',h=>by
  simp only[mixW]at h;obtain⟨hc,h⟩:=h.cond;exact .inl ⟨hc,h.ret.symm⟩
 | (o,.it ..)::r,acc,e',h=>by
  simp only[mixW]at h;obtain⟨hc,h⟩:=h.cond;exact .inl ⟨hc,h.ret.symm⟩
 | (o,.arr ..)::r,acc,e',h=>by
  simp only[mixW]at h;obtain⟨hc,h⟩:=h.cond;exact .inl ⟨hc,h.ret.symm⟩
theorem ajG{objs:List (Nat×AO)}:∀{wo:List (Nat×AO)} {l:List (Nat×AO)},(∀o,oL l o=oL objs o)->(∀p∈wo,oL objs p.1=p.2)->∀o,oL (aaE l wo) o=oL objs o
 | [],_,h,_,o=>h o
 | (k,v)::r,l,h,hw,o=>by
  simp only[aaE];refine ajG (fun o=>?_) (fun p hp=>hw p (List.mem_cons_of_mem _ hp)) o;rw[aaM];unfold upd;split
  ·rename_i e;subst e;exact(hw _ List.mem_cons_self).symm
  ·exact h o
theorem adf{g:Unit->Bool}:∀{m:M Eff} {e:Eff},Yld S (m.under g) e->(g ()=true∧Yld S m e)∨((g ()=false->(∃v,e.dst=.may g v)∧∀p∈e.wo,S.obj p.1=p.2)∧(g ()=true->∃e0,Yld S m e0∧e.dst=.may g e0.dst∧e.wo=e0.wo∧e.new=e0.new∧e.call=e0.call))
 | .ret e0,e,h=>by
  simp only[M.under]at h;split at h
  ·rename_i hw;have:=h.ret;subst this;exact .inr ⟨fun _=>⟨⟨_,rfl⟩,fun p hp=>by simp only[hw]at hp;cases hp⟩,fun _=>⟨e0,.amq e0,rfl,rfl,rfl,rfl⟩⟩
  ·rcases ajT h with⟨hg,rfl⟩|⟨l,rfl,h2,h3⟩
   ·exact .inl ⟨hg,.amq _⟩
   ·exact .inr ⟨fun hg=>⟨⟨_,rfl⟩,fun p hp=>h3 hg p (by simpa using hp)⟩,fun hg=>⟨e0,.amq e0,rfl,by simp[h2 hg],rfl,rfl⟩⟩
  ·obtain⟨hc,h⟩:=h.cond;exact .inl ⟨hc,h⟩
 | .fail,e,h=>h.fail.elim
 | @M.cond _ c _ k,e,h=>by
  obtain⟨hc,h⟩:=h.cond;rcases adf h with⟨hg,⟨r,hr,hcs,hra⟩⟩|⟨h1,h3⟩
  ·refine .inl ⟨hg,⟨{ r with conds:=c::r.conds },by simp[M.run,hr],fun c' hc'=>?_,hra⟩⟩;rcases List.mem_cons.1 hc' with rfl|hm
   ·exact hc hg
   ·exact hcs _ hm
  refine .inr ⟨h1,fun hg=>?_⟩;obtain⟨e0,⟨r,hr,hcs,hra⟩,q⟩:=h3 hg;refine⟨e0,⟨{ r with conds:=c::r.conds },by simp[M.run,hr],fun c' hc'=>?_,hra⟩,q⟩;rcases List.mem_cons.1 hc' with rfl|hm
  ·exact hc hg
  ·exact hcs _ hm
 | .tmp t k,e,h=>by
  rcases adf h.tmp with⟨hg,⟨r,hr,hcs,hra⟩⟩|⟨h1,h3⟩
  ·exact .inl ⟨hg,⟨{ r with rt:=t::r.rt },by simp[M.run,hr],hcs,hra⟩⟩
  refine .inr ⟨h1,fun hg=>?_⟩;obtain⟨e0,⟨r,hr,hcs,hra⟩,q⟩:=h3 hg;exact⟨e0,⟨{ r with rt:=t::r.rt },by simp[M.run,hr],hcs,hra⟩,q⟩
 | .obj t k,e,h=>by
  rcases adf h.obj with⟨hg,⟨r,hr,hcs,hra⟩⟩|⟨h1,h3⟩
  ·exact .inl ⟨hg,⟨{ r with ro:=t::r.ro },by simp[M.run,hr],hcs,hra⟩⟩
  refine .inr ⟨h1,fun hg=>?_⟩;obtain⟨e0,⟨r,hr,hcs,hra⟩,q⟩:=h3 hg;exact⟨e0,⟨{ r with ro:=t::r.ro },by simp[M.run,hr],hcs,hra⟩,q⟩
abbrev FW(ro:Option Nat):Fence:={ fn:=fun _=>True,depth:=none,alive:=false,round:=ro }
def adA{ro:Option Nat}{n:Nat}{f:FuncId}{args:Array Value}{R:Ending->World->Prop}:CallsIn (FW ro) n P f args w R↔Calls P f args w R:=callsIn_wide
def aiN{T:List (Nat×TI)}{orc:Orc}{i:Nat}{g:Option (Unit->Bool)}(hy:Yld S (exOp T orc i g o) e):∀c,o.op≠.defer c:=by
 intro c h;unfold exOp at hy;rw[h]at hy;exact hy.fail
def Goes.wp{ro:Option Nat}{n:Nat}(hd:∀c,o.op≠.defer c){K:Act->World->Prop}{Q:Exit->Act->World->Prop}(hg:Goes P E S a w o e)(hK:∀v w',After E S a e v w'->K (a.put o.dst v) w'):o.wpIn (FW ro) n P a w K Q:=by
 unfold Goes at hg;refine⟨fun _ _=>trivial,?_⟩;rw[Oper.semAt_eq _ _ _ hd];cases hr:(execOp a.eval o).run P w with
 | halt x w'=>rw[hr]at hg;exact hg.elim
 | ok n w'=>
  rw[hr]at hg;cases n with
  | value v=>exact hK _ _ hg
  | skip=>exact hK _ _ hg
  | enter f args=>
   rw[Oper.uponIn_enter];refine⟨(fun h=>by cases h),adA.2 (Calls.mono hg ?_)⟩;rintro en w'' ⟨v,rfl,ha⟩;exact hK _ _ ha
  | _=>exact hg.elim
def After.rel{v:Value}{w':World}(h:After E S a e v w'):Rel E (S.put (wtOf o e.dst) e.wo) (a.put o.dst v) w':=by
 obtain⟨β',h1,h2⟩:=h;refine⟨β',?_⟩;have hobj:(S.put (wtOf o e.dst) e.wo).obj=putH S e.wo:=rfl;have htm:(S.put (wtOf o e.dst) e.wo).tmps=match o.dst with|some d=>S.tmps.set d e.dst|none=>S.tmps:=by
  unfold AS.put wtOf;cases o.dst<;>rfl
 rw[hobj,htm];have:=RelB.put (S:=⟨S.tmps,aaE S.objs e.wo⟩) h1 h2 o.dst;exact this
def akz{g:Unit->Bool}{av:AV}(h:RelB E S.tmps S.obj a w β)(hw:∀p∈e.wo,S.obj p.1=p.2)(hd:e.dst=.may g av)(hg:g ()=false):After E S a e undef w:=by
 have hp:putH S e.wo=S.obj:=funext fun o=>ajG (fun _=>rfl) hw o;refine⟨β,by rw[hp];exact h,?_⟩;rw[hp,hd];exact .may g av undef (fun e=>by rw[hg]at e;cases e) (fun _=>rfl)
def amH{g:Unit->Bool}{e0:Eff}{v:Value}{w':World}(hd:e.dst=.may g e0.dst)(hw:e.wo=e0.wo)(hg:g ()=true)(h:After E S a e0 v w'):After E S a e v w':=by
 obtain⟨β',h1,h2⟩:=h;refine⟨β',by rw[hw];exact h1,?_⟩;rw[hw,hd];exact .may g _ v (fun _=>h2) (fun e=>by rw[hg]at e;cases e)
def CallOb.ok(P:Program)(c:Option (Unit->Bool)×CallOb):Prop:=(∀g,c.1=some g->g ()=true)->Af P c.2.f c.2.args c.2.objs c.2.res c.2.objs'
def ahv{ro:Option Nat}{n:Nat}(hT:TOk P T)(h:RelB E S.tmps S.obj a w β){orc:Orc}{ops:Array Oper}{i:Nat}(hi:ops[i]? = some o){g:Option (Unit->Bool)}(hy:Yld S (opA T orc ops i o) (g,e))(hn:∀k∈e.new,S.aak k=true)
 (hob:∀c,e.call=some c->CallOb.ok P (g,c)) {K:Act->World->Prop} {Q:Exit->Act->World->Prop} (hK:∀v w',Rel E (S.put (wtOf o e.dst) e.wo) (a.put o.dst v) w'->K (a.put o.dst v) w'):wpOpIn (FW ro) n P ops Q i K a w:=by
 unfold wpOpIn;rw[hi];simp only;unfold opA at hy;split at hy
 ·rename_i hgd;obtain⟨e0,h1,hy⟩:=hy.bind;have:=hy.ret;simp only[Prod.mk.injEq]at this;obtain⟨rfl,rfl⟩:=this;have hw:Region.wanted o (yielded ops a.tmps)=true:=by simp[Region.wanted,hgd]
  rw[if_pos hw];refine(Goes.wp (aiN h1) (adT hT h (g:=none) (fun b hb=>by cases hb) h1 hn (fun c hc=>hob c hc (fun g hg=>by cases hg))) fun v w' ha=>hK v w' ha.rel)
 ·rename_i j want hgd;split at hy
  ·exact hy.fail.elim
  ·rename_i d hd;replace hy:=hy.tmp;have hslot:=h.at d;have hyl:yielded ops a.tmps j=match a.tmps[d]? with|some (.bool b)=>some b|_=>none:=by
    unfold yielded;have:(ops[j]?).bind (·.dst)=some d:=by simpa using hd
    rw[this];rfl
   have key:∀(gd:Unit->Bool),(gd ()=true->Region.wanted o (yielded ops a.tmps)=true)->(gd ()=false->Region.wanted o (yielded ops a.tmps)=false) ->
    Yld S (((exOp T orc i (some gd) o).under gd).bind fun e=>M.ret (some gd,e)) (g,e) ->
    (if Region.wanted o (yielded ops a.tmps)=true then o.wpIn (FW ro) n P a w K Q else(∀f,o.about P w a.eval=some f->(FW ro).fn f)∧K (a.put o.dst undef) w):=by
    intro gd ht hf hy;obtain⟨e0,h1,hy⟩:=hy.bind;have:=hy.ret;simp only[Prod.mk.injEq]at this;obtain⟨rfl,rfl⟩:=this;rcases adf h1 with⟨hb,r1⟩|⟨q2,q3⟩
    ·rw[if_pos (ht hb)];exact Goes.wp (aiN r1) (adT hT h (g:=some gd) (fun b hb'=>by cases hb';exact hb) r1 hn (fun c hc=>hob c hc (fun g hg=>by cases hg;exact hb))) fun v w' ha=>hK v w' ha.rel
    cases hb:gd ()with
    | true=>
     rw[if_pos (ht hb)];obtain⟨e1,r1,r2,r3,r4,r5⟩:=q3 hb;refine(Goes.wp (aiN r1) (adT hT h (g:=some gd) (fun b hb'=>by cases hb';exact hb) r1 (fun k hk=>hn k (by rw[r4];exact hk)) (fun c hc=>hob c (by rw[r5];exact hc) (fun g hg=>by cases hg;exact hb))) fun v w' ha=>hK v w' (After.rel (amH r2 r3 hb ha)))
    | false=>
     rw[if_neg (by rw[hf hb];simp)];obtain⟨⟨v,hv⟩,hw⟩:=q2 hb;exact⟨fun _ _=>trivial,hK undef w (After.rel (akz h hw hv hb))⟩
   split at hy
   ·rename_i b hb;rw[hb]at hslot;have hv:=hslot.aao;have hyl2:yielded ops a.tmps j=some (b ()):=by
     rw[hyl];cases hq:a.tmps[d]? with
     | none=>simp[Array.getD_eq_getD_getElem?,hq,undef]at hv
     | some u=>simp[Array.getD_eq_getD_getElem?,hq]at hv;subst hv;rfl
    refine key (fun _=>b ()==want) (fun e=>?_) (fun e=>?_) hy
    ·simp[Region.wanted,hgd,hyl2];simpa using e
    ·simp[Region.wanted,hgd,hyl2];simpa using e
   ·rename_i g' b hb;rw[hb]at hslot;refine key (fun _=>g' ()&&b ()==want) (fun e=>?_) (fun e=>?_) hy
    ·simp only[Bool.and_eq_true,beq_iff_eq]at e;have hv:=(hslot.aeK e.1).aao;have hyl2:yielded ops a.tmps j=some (b ()):=by
      rw[hyl];cases hq:a.tmps[d]? with
      | none=>simp[Array.getD_eq_getD_getElem?,hq,undef]at hv
      | some u=>simp[Array.getD_eq_getD_getElem?,hq]at hv;subst hv;rfl
     simp[Region.wanted,hgd,hyl2,e.2]
    ·cases hg':g' ()with
     | false=>
      have hv:=hslot.amG hg';have hyl2:yielded ops a.tmps j=none:=by
       rw[hyl];cases hq:a.tmps[d]? with
       | none=>rfl
       | some u=>simp[Array.getD_eq_getD_getElem?,hq]at hv;subst hv;rfl
      simp[Region.wanted,hgd,hyl2]
     | true=>
      have hv:=(hslot.aeK hg').aao;have hyl2:yielded ops a.tmps j=some (b ()):=by
       rw[hyl];cases hq:a.tmps[d]? with
       | none=>simp[Array.getD_eq_getD_getElem?,hq,undef]at hv
       | some u=>simp[Array.getD_eq_getD_getElem?,hq]at hv;subst hv;rfl
      simp[Region.wanted,hgd,hyl2];simpa[hg']using e
   ·exact hy.fail.elim
end
def appl(E:Nat->Bool):Nat->List Log->AS->AS
 | _,[],S=>S
 | i,l::r,S=>appl E (i+1) r (if E i then S.put l.wt l.wo else S)
def agn(S:AS)(wt:List (Nat×AV))(wo:List (Nat×AO)):(S.put wt wo).tmps.length=S.tmps.length:=by
 unfold AS.put;cases wt with
 | nil=>rfl
 | cons p r=>obtain⟨t,v⟩:=p;simp
theorem abN(E:Nat->Bool):∀(logs:List Log) (i:Nat) (S:AS),(appl E i logs S).tmps.length=S.tmps.length
 | [],i,S=>rfl
 | l::r,i,S=>by
  simp only[appl];rw[abN E r];split
  ·exact agn _ _ _
  ·rfl
def ae2(S:AS){wt:List (Nat×AV)}(wo:List (Nat×AO)){t:Nat}(h:wt.length<=1)(ht:t∉wt.map (·.1)):(S.put wt wo).tmp t=S.tmp t:=by
 unfold AS.put AS.tmp
 match wt,h with
 | [],_=>rfl
 | [(t',v)],_=>
  simp at ht;simp only[List.getD_eq_getElem?_getD];rw[List.getElem?_set_ne (Ne.symm ht)]
theorem ac9:∀(wo l:List (Nat×AO)) {o:Nat},o∉wo.map (·.1)->oL (aaE l wo) o=oL l o
 | [],l,o,_=>rfl
 | (k,v)::r,l,o,h=>by
  simp at h;simp only[aaE];rw[ac9 r _ (by simpa using h.2),aaM];simp[upd,h.1]
theorem acd:∀(wo l l':List (Nat×AO)) {o:Nat},(o∈wo.map (·.1)∨oL l o=oL l' o)->oL (aaE l wo) o=oL (aaE l' wo) o
 | [],l,l',o,h=>by simpa[aaE]using h
 | (k,v)::r,l,l',o,h=>by
  simp only[aaE];refine acd r _ _ ?_;by_cases hk:o=k
  ·subst hk;right;rw[aaM,aaM];simp[upd]
  ·rcases h with h|h
   ·simp[hk]at h;exact .inl (by simpa using h)
   ·right;rw[aaM,aaM];simp[upd,hk,h]
def agm(S S':AS){wt:List (Nat×AV)}(wo wo':List (Nat×AO)){t:Nat}(hl:S.tmps.length=S'.tmps.length)(h:S.tmp t=S'.tmp t):(S.put wt wo).tmp t=(S'.put wt wo').tmp t:=by
 unfold AS.put AS.tmp at*;cases wt with
 | nil=>exact h
 | cons p r=>
  obtain⟨t',v⟩:=p;simp only[List.getD_eq_getElem?_getD,List.getElem?_set,hl]at*;split
  ·rfl
  ·exact h
theorem acN(E E':Nat->Bool){t:Nat}:∀(logs:List Log) (i:Nat) (S S':AS),(∀l∈logs,l.wt.length<=1)->(∀(k:Nat) (l:Log),logs[k]? = some l->t∈l.wt.map (·.1)->E (i+k)=E' (i+k))->S.tmps.length=S'.tmps.length->S.tmp t=S'.tmp t ->
 (appl E i logs S).tmp t=(appl E' i logs S').tmp t
 | [],i,S,S',_,_,_,h=>h
 | l::r,i,S,S',h1,h,hl,hs=>by
  simp only[appl];refine acN E E' r (i+1) _ _ (fun l hl=>h1 l (by simp[hl])) (fun k l hk ht=>by have:=h (k+1) l (by simpa using hk) ht;rwa [show i+(k+1)=i+1+k by omega]at this) (by split<;>split<;>simp[agn,hl]) ?_;by_cases ht:t∈l.wt.map (·.1)
  ·have:=h 0 l (by simp) ht;simp only[Nat.add_zero]at this;rw[this];split
   ·exact agm _ _ _ _ hl hs
   ·exact hs
  ·have hw:=h1 l (by simp);split<;>split<;>simp only[ae2 _ _ hw ht,hs]
theorem acO(E E':Nat->Bool){o:Nat}:∀(logs:List Log) (i:Nat) (S S':AS),(∀(k:Nat) (l:Log),logs[k]? = some l->o∈l.wo.map (·.1)->E (i+k)=E' (i+k))->S.obj o=S'.obj o ->
 (appl E i logs S).obj o=(appl E' i logs S').obj o
 | [],i,S,S',_,h=>h
 | l::r,i,S,S',h,hs=>by
  simp only[appl];refine acO E E' r (i+1) _ _ (fun k l hk ht=>by have:=h (k+1) l (by simpa using hk) ht;rwa [show i+(k+1)=i+1+k by omega]at this) ?_;by_cases ht:o∈l.wo.map (·.1)
  ·have:=h 0 l (by simp) ht;simp only[Nat.add_zero]at this;rw[this];split
   ·exact acd l.wo _ _ (.inl ht)
   ·exact hs
  ·have e:∀S:AS,(S.put l.wt l.wo).obj o=S.obj o:=fun S=>ac9 l.wo S.objs ht;split<;>split<;>simp only[e,hs]
theorem adD(E:Nat->Bool){t:Nat}:∀(logs:List Log) (i n:Nat) (S S':AS) (l:Log),(∀l∈logs,l.wt.length<=1)->logs[n]? = some l->t∈l.wt.map (·.1)->E (i+n)=true ->
 (∀(k:Nat) (m:Log),n<k->logs[k]? = some m->t∈m.wt.map (·.1)->E (i+k)=false)->S.tmps.length=S'.tmps.length->(appl E i logs S).tmp t=(S'.put l.wt l.wo).tmp t
 | [],i,n,S,S',l,_,h,_,_,_,_=>by simp at h
 | m::r,i,0,S,S',l,h1,h,ht,hE,hlater,hl=>by
  simp at h;subst h;simp only[appl];simp only[Nat.add_zero]at hE;rw[hE];simp only[if_true];have hself:(S.put m.wt m.wo).tmp t=(S'.put m.wt m.wo).tmp t:=by
   match hm:m.wt,h1 m (by simp)with
   | [],_=>rw[hm]at ht;simp at ht
   | [(t',v)],_=>
    rw[hm]at ht;simp at ht;subst ht;unfold AS.put AS.tmp;simp[List.getD_eq_getElem?_getD,List.getElem?_set,hl]
  rw[<- hself]
  have:=acN E (fun _=>false) (t:=t) r (i+1) (S.put m.wt m.wo) (S.put m.wt m.wo) (fun l hl=>h1 l (by simp[hl])) (fun k l hk ht'=>by
   have:=hlater (k+1) l (by omega) (by simpa using hk) ht'
   rwa [show i+(k+1)=i+1+k by omega]at this) rfl rfl
  rw[this];have hid:∀(logs:List Log) (i:Nat) (S:AS),appl (fun _=>false) i logs S=S:=by
   intro logs
   induction logs with
   | nil=>intro i S;rfl
   | cons l r ih=>intro i S;simp[appl,ih]
  rw[hid]
 | m::r,i,n+1,S,S',l,h1,h,ht,hE,hlater,hl=>by
  simp only[appl]
  refine adD E r (i+1) n _ S' l (fun l hl=>h1 l (by simp[hl])) (by simpa using h) ht (by rwa [show i+1+n=i+(n+1) by omega]) (fun k m hk hm ht'=>by
   have:=hlater (k+1) m (by omega) (by simpa using hm) ht'
   rwa [show i+(k+1)=i+1+k by omega]at this) (by split<;>simp[agn,hl])
theorem adE(E:Nat->Bool){o:Nat}:∀(logs:List Log) (i n:Nat) (S S':AS) (l:Log),logs[n]? = some l->o∈l.wo.map (·.1)->E (i+n)=true ->
 (∀(k:Nat) (m:Log),n<k->logs[k]? = some m->o∈m.wo.map (·.1)->E (i+k)=false)->(appl E i logs S).obj o=(S'.put l.wt l.wo).obj o
 | [],i,n,S,S',l,h,_,_,_=>by simp at h
 | m::r,i,0,S,S',l,h,ht,hE,hlater=>by
  simp at h;subst h;simp only[appl];simp only[Nat.add_zero]at hE;rw[hE];simp only[if_true];have hself:(S.put m.wt m.wo).obj o=(S'.put m.wt m.wo).obj o:=acd m.wo _ _ (.inl ht);rw[<- hself]
  have:=acO E (fun _=>false) (o:=o) r (i+1) (S.put m.wt m.wo) (S.put m.wt m.wo) (fun k l hk ht'=>by
   have:=hlater (k+1) l (by omega) (by simpa using hk) ht'
   rwa [show i+(k+1)=i+1+k by omega]at this) rfl
  rw[this];have hid:∀(logs:List Log) (i:Nat) (S:AS),appl (fun _=>false) i logs S=S:=by
   intro logs
   induction logs with
   | nil=>intro i S;rfl
   | cons l r ih=>intro i S;simp[appl,ih]
  rw[hid]
 | m::r,i,n+1,S,S',l,h,ht,hE,hlater=>by
  simp only[appl]
  refine adE E r (i+1) n _ S' l (by simpa using h) ht (by rwa [show i+1+n=i+(n+1) by omega]) (fun k m hk hm ht'=>by
   have:=hlater (k+1) m (by omega) (by simpa using hm) ht'
   rwa [show i+(k+1)=i+1+k by omega]at this)
theorem adj{α:Type}{S S':AS}:∀{m:M α} {r:Run α},m.run S=some r->(∀t∈r.rt,S'.tmp t=S.tmp t)->(∀o∈r.ro,S'.obj o=S.obj o)->m.run S'=some r
 | .ret a,r,h,_,_=>h
 | .fail,r,h,_,_=>by simp[M.run]at h
 | @M.cond _ c _ k,r,h,h1,h2=>by
  simp only[M.run]at h ⊢;split at h
  ·rename_i r' hr;simp at h;subst h;rw[adj hr h1 h2]
  ·cases h
 | .tmp t k,r,h,h1,h2=>by
  simp only[M.run]at h ⊢;split at h
  ·rename_i r' hr;simp at h;subst h;rw[h1 t (by simp),adj hr (fun t ht=>h1 t (by simp[ht])) h2]
  ·cases h
 | .obj o k,r,h,h1,h2=>by
  simp only[M.run]at h ⊢;split at h
  ·rename_i r' hr;simp at h;subst h;rw[h2 o (by simp),adj hr h1 (fun t ht=>h2 t (by simp[ht]))]
  ·cases h
theorem afJ{d:Nat}:∀{l:List AV} {t:Nat} {v:AV},AV.nL d l=true->AV.nL d [v]=true->AV.nL d (l.set t v)=true
 | [],t,v,h,_=>by simpa using h
 | c::r,0,v,h,hv=>aav.2 ⟨hv,(aav.1 h).2⟩
 | c::r,t+1,v,h,hv=>by
  rw[List.set_cons_succ];exact aav.2 ⟨(aav.1 h).1,afJ (aav.1 h).2 hv⟩
theorem afF{d:Nat}{v:AO}(hv:v.aak d=true):∀{l:List (Nat×AO)} {o:Nat},(l.all fun p=>p.2.aak d)=true->((oset l o v).all fun p=>p.2.aak d)=true
 | [],o,_=>by simp[oset,hv]
 | (i,x)::r,o,h=>by
  simp only[List.all_cons,Bool.and_eq_true]at h;simp only[oset];split
  ·simp only[List.all_cons,Bool.and_eq_true];exact⟨hv,h.2⟩
  ·simp only[List.all_cons,Bool.and_eq_true];exact⟨h.1,afF hv h.2⟩
theorem adp{d:Nat}:∀{wo l:List (Nat×AO)},(wo.all fun p=>p.2.aak d)=true->(l.all fun p=>p.2.aak d)=true->((aaE l wo).all fun p=>p.2.aak d)=true
 | [],l,_,h=>h
 | (o,v)::r,l,hw,h=>by
  simp only[List.all_cons,Bool.and_eq_true]at hw;simp only[aaE];exact adp hw.2 (afF hw.1 h)
def amx{S:AS}{l:Log}{d:Nat}(h:S.aak d=true)(hl:l.refers d=false):(S.put l.wt l.wo).aak d=true:=by
 simp only[Log.refers,Bool.not_eq_false',Bool.and_eq_true]at hl;simp only[AS.aak,Bool.and_eq_true]at h ⊢;refine⟨⟨?_,adp hl.2 h.1.2⟩,h.2⟩;unfold AS.put
 match hw:l.wt with
 | []=>exact h.1.1
 | (t,v)::r=>
  have h1:=hl.1;rw[hw]at h1;exact afJ h.1.1 (aav.1 (by simpa using h1)).1
theorem afH(E:Nat->Bool){d:Nat}:∀(logs:List Log) (i:Nat) (S:AS),S.aak d=true->(∀(k:Nat) (l:Log),logs[k]? = some l->E (i+k)=true->l.refers d=false)->(appl E i logs S).aak d=true
 | [],i,S,h,_=>h
 | l::r,i,S,h,hl=>by
  simp only[appl];refine afH E r (i+1) _ ?_ (fun k m hk hE=>hl (k+1) m (by simpa using hk) (by rwa [show i+(k+1)=i+1+k by omega]));split
  ·rename_i hE;exact amx h (hl 0 l (by simp) (by simpa using hE))
  ·exact h
structure StepAt(T:List (Nat×TI))(orc:Orc)(ops:Array Oper)(i:Nat)(o:Oper)(S:AS)(conds:List (Unit->Prop))(calls:List (Option (Unit->Bool)×CallOb))(l:Log):Prop where
 ex:∃g e cs,(opA T orc ops i o).run S=some ⟨(g,e),cs,l.rt,l.ro⟩∧(∀c∈cs,c∈conds)∧(∀c,e.call=some c->(g,c)∈calls)∧l.wt=wtOf o e.dst∧l.wo=e.wo∧l.new=e.new
theorem qZ3{T:List (Nat×TI)}{orc:Orc}{ops:Array Oper}:∀(l:List Oper) (i:Nat) (S:AS) (out:Out),aops T orc ops i l S=some out ->
 out.logs.length=l.length∧out.S=appl (fun _=>true) i out.logs S∧∀(k:Nat) (o:Oper),l[k]? = some o->∃lg,out.logs[k]? = some lg∧StepAt T orc ops (i+k) o (appl (fun j=>decide (j<i+k)) i out.logs S) out.conds out.calls lg
 | [],i,S,out,h=>by
  simp[aops]at h;subst h;exact⟨rfl,rfl,fun k o hk=>by simp at hk⟩
 | o::rest,i,S,out,h=>by
  simp only[aops]at h;split at h
  ·cases h
  ·rename_i g e conds rt ro hr;split at h
   ·cases h
   ·rename_i out' ho;simp at h;subst h;obtain⟨h1,h2,h3⟩:=qZ3 rest (i+1) _ out' ho;refine⟨by simp[h1],by simp[appl,h2],fun k o' hk=>?_⟩;cases k with
    | zero=>
     simp at hk;subst hk;refine⟨_,rfl,?_⟩;have hnone:∀(logs:List Log) (j:Nat) (S:AS),i<=j->appl (fun j=>decide (j<i+0)) j logs S=S:=by
      intro logs
      induction logs with
      | nil=>intro j S _;rfl
      | cons l r ih=>intro j S hj;simp only[appl];rw[if_neg (by simp;omega)];exact ih _ _ (by omega)
     rw[hnone _ _ _ (Nat.le_refl _)];exact⟨g,e,conds,by simpa using hr,fun c hc=>by simp[hc],fun c hc=>by simp[hc],rfl,rfl,rfl⟩
    | succ k=>
     obtain⟨lg,q1,⟨g',e',cs,q2,q3,q4,q5⟩⟩:=h3 k o' (by simpa using hk);refine⟨lg,by simpa using q1,⟨g',e',cs,?_,fun c hc=>by simp[q3 c hc],fun c hc=>by simp[q4 c hc],q5⟩⟩;simp only[appl];rw[if_pos (by simp)];rw[show i+(k+1)=i+1+k by omega];exact q2
section
variable {P:Program}{E:Env}{T:List (Nat×TI)}{orc:Orc}{ops:Array Oper}{S:AS}{bef:Nat->Nat->Bool}{out:Out}
def Rel.same{S S':AS}{a:Act}{w:World}(h:Rel E S a w)(hl:S.tmps.length=S'.tmps.length)(ht:∀t,S.tmp t=S'.tmp t)(ho:∀o,S.obj o=S'.obj o):Rel E S' a w:=by
 obtain⟨β,hb⟩:=h;have e1:S.tmps=S'.tmps:=by
  apply List.ext_getElem hl;intro i h1 h2;have:=ht i;simp only[AS.tmp,List.getD_eq_getElem?_getD,List.getElem?_eq_getElem h1,List.getElem?_eq_getElem h2,Option.getD_some]at this;exact this
 have e2:S.obj=S'.obj:=funext ho;exact⟨β,by rw[<- e1,<- e2];exact hb⟩
def aew{α:Type}{p:α×Nat->Bool}{l:List α}(h:l.zipIdx.all p=true){i:Nat}{x:α}(hi:l[i]? = some x):p (x,i)=true:=by
 rw[List.all_eq_true]at h;refine h _ (List.mem_of_getElem? (i:=i) ?_);rw[List.getElem?_zipIdx,hi];simp
def aju{ro:Option Nat}{n:Nat}(hT:TOk P T)(ho:aops T orc ops 0 ops.toList S=some out)(hok:acS S bef out.logs=true)(hc:∀c∈out.conds,c ())(hcl:∀c∈out.calls,CallOb.ok P c)
 {done:Nat->Bool} {i:Nat} {o:Oper} (hi:ops[i]? = some o) (hnd:done i=false) (h1:∀j,bef j i=true->done j=true) (h2:∀j,bef i j=true->done j=false)
 {a:Act} {w:World} (hr:Rel E (appl done 0 out.logs S) a w) {Q:Exit->Act->World->Prop} {K:Act->World->Prop} (hK:∀a' w',Rel E (appl (fun j=>done j||j==i) 0 out.logs S) a' w'->K a' w'):wpOpIn (FW ro) n P ops Q i K a w:=by
 obtain⟨q1,q2,q3⟩:=qZ3 _ _ _ _ ho;obtain⟨lg,hlg,⟨g,e,cs,hrun,hcs,hcall,hwt,hwo,hnew⟩⟩:=q3 i o (by simpa using hi);simp only[Nat.zero_add]at hrun;have hwt1:∀l∈out.logs,l.wt.length<=1:=by
  intro l hl;obtain⟨k,hk⟩:=List.getElem?_of_mem hl;have hkl:k<ops.toList.length:=by rw[<- q1];exact(List.getElem?_eq_some_iff.1 hk).1
  obtain⟨lg',hlg',⟨_,e',_,_,_,_,hw,_⟩⟩:=q3 k _ (List.getElem?_eq_getElem hkl);rw[hk]at hlg';cases hlg';rw[hw];unfold wtOf;split<;>simp
 have hpair:∀(j:Nat) (m:Log),out.logs[j]? = some m->j≠i->(lg.clash m=true->bef i j=true∨bef j i=true)∧(bef i j=true->i<j)∧(∀d∈lg.new,m.refers d=true->bef i j=true):=by
  intro j m hm hji;have:=aew hok hlg;simp only[Bool.and_eq_true]at this;have:=aew this.2 hm;simp only[Bool.and_eq_true]at this;obtain⟨⟨g1,g2⟩,g3⟩:=this;have hij:(i==j)=false:=by simp[Ne.symm hji]
  refine⟨fun hcl=>?_,fun hb=>?_,fun d hd hrf=>?_⟩
  ·rw[hij,hcl]at g2;simpa using g2
  ·rw[hb]at g1;simpa using g1
  ·rw[hij]at g3;simp only[Bool.false_or,List.all_eq_true]at g3;have:=g3 d hd;rw[hrf]at this;simpa using this
 have hrev:∀(j:Nat) (m:Log),out.logs[j]? = some m->j≠i->bef j i=true->j<i:=by
  intro j m hm hji hb;have:=aew hok hm;simp only[Bool.and_eq_true]at this;have:=aew this.2 hlg;simp only[Bool.and_eq_true]at this;rw[hb]at this;simpa using this.1.1
 have hit:∀{x y:List Nat} {t:Nat},t∈x->t∈y->hits x y=true:=fun h1 h2=>by
  unfold hits;rw[List.any_eq_true];exact⟨_,h1,by simpa using h2⟩
 have hagree:∀(j:Nat) (m:Log),out.logs[j]? = some m->(j=i∨lg.clash m=true)->done j=decide (j<i):=by
  intro j m hm hcase;by_cases hji:j=i
  ·subst hji;rw[hnd];simp
  ·obtain⟨c1,c2,_⟩:=hpair j m hm hji;rcases c1 (hcase.resolve_left hji)with hb|hb
   ·rw[h2 j hb];have:=c2 hb;simp;omega
   ·rw[h1 j hb];have:=hrev j m hm hji hb;simp;omega
 have htmp:∀t∈lg.rt,(appl done 0 out.logs S).tmp t=(appl (fun j=>decide (j<i)) 0 out.logs S).tmp t:=by
  intro t ht;refine acN _ _ out.logs 0 S S hwt1 (fun k m hm htm=>?_) rfl rfl;rw[Nat.zero_add];refine hagree k m hm (.inr ?_);unfold Log.clash;simp only[Bool.or_eq_true];exact .inl (.inl (.inr (hit ht htm)))
 have hobj:∀o'∈lg.ro,(appl done 0 out.logs S).obj o'=(appl (fun j=>decide (j<i)) 0 out.logs S).obj o':=by
  intro o' ho';refine acO _ _ out.logs 0 S S (fun k m hm htm=>?_) rfl;rw[Nat.zero_add];refine hagree k m hm (.inr ?_);unfold Log.clash;simp only[Bool.or_eq_true];exact .inr (hit ho' htm)
 have hrun2:=adj hrun htmp hobj;obtain⟨β,hb⟩:=hr;refine ahv hT (S:=appl done 0 out.logs S) hb hi (g:=g) (e:=e) ⟨_,hrun2,fun c hcm=>hc c (hcs c hcm),rfl⟩ (fun k hk=>?_) (fun c hcc=>hcl _ (hcall c hcc)) (fun v w' hrel=>hK _ _ ?_)
 ·-- what is new
  have hkn:k∈lg.new:=by rw[hnew];exact hk
  have:=aew hok hlg;simp only[Bool.and_eq_true]at this;have hS:S.aak k=true:=List.all_eq_true.1 this.1 k hkn;refine afH done out.logs 0 S hS (fun j m hm hdone=>?_);rw[Nat.zero_add]at hdone;have hji:j≠i:=by rintro rfl;rw[hnd]at hdone;cases hdone
  cases hrf:m.refers k with
  | false=>rfl
  | true=>
   have:=(hpair j m hm hji).2.2 k hkn hrf;rw[h2 j this]at hdone;cases hdone
 ·-- the state behind it
  rw[<- hwt,<- hwo]at hrel;refine hrel.same (by rw[agn,abN,abN]) (fun t=>?_) (fun o'=>?_)
  ·by_cases ht:t∈lg.wt.map (·.1)
   ·refine(adD (fun j=>done j||j==i) out.logs 0 i S (appl done 0 out.logs S) lg hwt1 hlg ht (by simp) (fun k m hk hm htm=>?_) (by rw[abN])).symm;have hki:k≠i:=by omega
    have hcl:lg.clash m=true:=by
     unfold Log.clash;simp only[Bool.or_eq_true];exact .inl (.inl (.inl (hit ht (List.mem_append_right _ htm))))
    have:=hagree k m hm (.inr hcl);simp[this];omega
   ·rw[ae2 _ _ (hwt1 lg (List.mem_of_getElem? hlg)) ht];refine acN _ _ out.logs 0 S S hwt1 (fun k m hm htm=>?_) rfl rfl;rw[Nat.zero_add];have hki:k≠i:=by
     rintro rfl;rw[hlg]at hm;cases hm;exact ht htm
    simp[hki]
  ·by_cases ht:o'∈lg.wo.map (·.1)
   ·refine(adE (fun j=>done j||j==i) out.logs 0 i S (appl done 0 out.logs S) lg hlg ht (by simp) (fun k m hk hm htm=>?_)).symm;have hki:k≠i:=by omega
    have hcl:lg.clash m=true:=by
     unfold Log.clash;simp only[Bool.or_eq_true];exact .inl (.inr (hit ht (List.mem_append_right _ htm)))
    have:=hagree k m hm (.inr hcl);simp[this];omega
   ·have e:((appl done 0 out.logs S).put lg.wt lg.wo).obj o'=(appl done 0 out.logs S).obj o':=ac9 lg.wo _ ht;rw[e];refine acO _ _ out.logs 0 S S (fun k m hm htm=>?_) rfl;rw[Nat.zero_add];have hki:k≠i:=by
     rintro rfl;rw[hlg]at hm;cases hm;exact ht htm
    simp[hki]
theorem aha{ro:Option Nat}{m:Nat}(hT:TOk P T)(ho:aops T orc ops 0 ops.toList S=some out)(hok:acS S (fun i j=>decide (i<j)) out.logs=true)(hc:∀c∈out.conds,c ())(hcl:∀c∈out.calls,CallOb.ok P c)
 {Q:Exit->Act->World->Prop} (hQ:∀a w,Rel E out.S a w->Q .normal a w):∀(n i:Nat) (a:Act) (w:World),i+n=ops.size->Rel E (appl (fun j=>decide (j<i)) 0 out.logs S) a w->wpOpsIn (FW ro) m P ops Q (List.range' i n) a w
 | 0,i,a,w,hn,hr=>by
  simp only[List.range'_zero,wpOpsIn];obtain⟨q1,q2,_⟩:=qZ3 _ _ _ _ ho;refine hQ _ _ ?_;rw[q2];refine hr.same (by rw[abN,abN]) (fun t=>?_) (fun o=>?_)
  ·refine acN _ _ out.logs 0 S S ?_ (fun k m hm _=>?_) rfl rfl
   ·intro l hl;obtain⟨k,hk⟩:=List.getElem?_of_mem hl;obtain⟨_,_,q3⟩:=qZ3 _ _ _ _ ho;have hkl:k<ops.toList.length:=by rw[<- q1];exact(List.getElem?_eq_some_iff.1 hk).1
    obtain⟨lg',hlg',⟨_,e',_,_,_,_,hw,_⟩⟩:=q3 k _ (List.getElem?_eq_getElem hkl);rw[hk]at hlg';cases hlg';rw[hw];unfold wtOf;split<;>simp
   ·have:=(List.getElem?_eq_some_iff.1 hm).1;rw[q1]at this;simp at this;simp;omega
  ·refine acO _ _ out.logs 0 S S (fun k m hm _=>?_) rfl;have:=(List.getElem?_eq_some_iff.1 hm).1;rw[q1]at this;simp at this;simp;omega
 | n+1,i,a,w,hn,hr=>by
  rw[List.range'_succ,wpOpsIn_cons];have hlt:i<ops.size:=by omega
  refine aju hT ho hok hc hcl (done:=fun j=>decide (j<i)) (i:=i) (o:=ops[i]) (by simp[hlt]) (by simp) (fun j hj=>by simpa using hj) (fun j hj=>by simp at hj ⊢;omega) hr (fun a' w' hr'=>?_);refine aha hT ho hok hc hcl hQ n (i+1) a' w' (by omega) ?_;have:(fun j=>decide (j<i)||j==i)=fun j=>decide (j<i+1):=by
   funext j;by_cases h1:j<i
   ·have:j<i+1:=by omega
    simp[h1,this]
   ·by_cases h2:j=i
    ·subst h2;simp
    ·have:¬j<i+1:=by omega
     simp[h1,h2,this]
  rw[this]at hr';exact hr'
theorem aff{acc:List Nat}{j:Nat}:∀{es:List Edge},(bits acc es).testBit j=true->∃e∈es,Region.binds .any e=true∧(e.on=j∨(acc.getD e.on 0).testBit j=true)
 | [],h=>by simp[bits]at h
 | e::r,h=>by
  simp only[bits]at h;split at h
  ·rename_i hb;rw[Nat.testBit_or,Nat.testBit_or,Bool.or_eq_true,Bool.or_eq_true]at h;rcases h with h|h|h
   ·obtain⟨e',h1,h2⟩:=aff h;exact⟨e',List.mem_cons_of_mem _ h1,h2⟩
   ·rw[Nat.testBit_two_pow]at h;exact⟨e,by simp,hb,.inl (by simpa using h)⟩
   ·exact⟨e,by simp,hb,.inr h⟩
  ·obtain⟨e',h1,h2⟩:=aff h;exact⟨e',List.mem_cons_of_mem _ h1,h2⟩
theorem ai1:∀(l:List Oper) (acc:List Nat),(∀k,k<acc.length->(clos l acc)[k]? = acc[k]?) ∧
 ∀k (o:Oper),l[k]? = some o->∃pre:List Nat,pre.length=acc.length+k∧(clos l acc)[acc.length+k]? = some (bits pre o.after.toList)∧∀m,m<pre.length->(clos l acc)[m]? = pre[m]?
 | [],acc=>⟨fun k _=>rfl,fun k o h=>by simp at h⟩
 | o::r,acc=>by
  obtain⟨h1,h2⟩:=ai1 r (acc++[bits acc o.after.toList]);refine⟨fun k hk=>?_,fun k o' hk=>?_⟩
  ·simp only[clos];rw[h1 k (by simp;omega),List.getElem?_append_left hk]
  ·cases k with
   | zero=>
    simp at hk;subst hk;refine⟨acc,rfl,?_,fun m hm=>?_⟩
    ·simp only[clos,Nat.add_zero];rw[h1 _ (by simp)];simp
    ·simp only[clos];rw[h1 m (by simp;omega),List.getElem?_append_left hm]
   | succ k=>
    obtain⟨pre,p1,p2,p3⟩:=h2 k o' (by simpa using hk);simp only[List.length_append,List.length_singleton]at p1 p2;refine⟨pre,by omega,?_,fun m hm=>?_⟩
    ·simp only[clos];rw[show acc.length+(k+1)=acc.length+1+k by omega];exact p2
    ·simp only[clos];exact p3 m hm
theorem adU:∀{l:List Oper} {i:Nat},abQ i l=true->∀(k:Nat) (o:Oper),l[k]? = some o->∀e∈o.after,Region.binds .any e=true->e.on<i+k
 | [],i,_,k,o,h=>by simp at h
 | o::r,i,h,k,o',hk=>by
  simp only[abQ,Bool.and_eq_true]at h;cases k with
  | zero=>
   simp at hk;subst hk;intro e he hb;have:=List.all_eq_true.1 h.1 e (by simpa using he);rw[hb]at this;simpa using this
  | succ k=>
   intro e he hb;have:=adU h.2 k o' (by simpa using hk) e he hb;omega
def adr{listed:Nat->Bool}(hed:abQ 0 ops.toList=true)(hcl:∀i o,ops[i]? = some o->listed i=true->∀e∈o.after,Region.binds .any e=true->listed e.on=true):
 ∀(n i j:Nat) (o:Oper),i<n->ops[i]? = some o->((clos ops.toList []).getD i 0).testBit j=true->(∀e∈o.after,Region.binds .any e=true->listed e.on=true)->listed j=true:=by
 intro n
 induction n with
 | zero=>intro i j o hi;omega
 | succ n ih=>
  intro i j o hi hio hb hed';obtain⟨_,h2⟩:=ai1 ops.toList [];obtain⟨pre,p1,p2,p3⟩:=h2 i o (by simpa using hio);simp only[List.length_nil,Nat.zero_add]at p1 p2;rw[List.getD_eq_getElem?_getD,p2,Option.getD_some]at hb;obtain⟨e,he,hbe,hcase⟩:=aff hb;have hlt:=adU hed i o (by simpa using hio) e (by simpa using he) hbe;have hle:=hed' e (by simpa using he) hbe;rcases hcase with rfl|hcase
  ·exact hle
  ·have hon:e.on<ops.size:=by
    have:=(Array.getElem?_eq_some_iff.1 hio).1;omega
   refine ih e.on j ops[e.on] (by omega) (by simp[hon]) ?_ (fun e' he' hb'=>hcl e.on _ (by simp[hon]) hle e' he' hb');rw[List.getD_eq_getElem?_getD]at hcase ⊢;rw[p3 e.on (by omega)];exact hcase
def al6{ro:Option Nat}{n:Nat}(hT:TOk P T)(ho:aops T orc ops 0 ops.toList S=some out)(hok:acS S (aif true ops.toList) out.logs=true)(hed:abQ 0 ops.toList=true)(hc:∀c∈out.conds,c ())(hcl:∀c∈out.calls,CallOb.ok P c)
 {Q:Exit->Act->World->Prop} (hQ:∀a w,Rel E out.S a w->Q .normal a w):∀(fuel:Nat) (listed:Array Bool) (a:Act) (w:World),listed.size=ops.size->(listed.toList.filter (fun b=>!b)).length<=fuel ->
  (∀i o,ops[i]? = some o->listed.getD i true=true->∀e∈o.after,Region.binds .any e=true->listed.getD e.on false=true) ->
  Rel E (appl (fun j=>listed.getD j true) 0 out.logs S) a w->wpAnyIn (FW ro) n P .any ops Q fuel listed a w:=by
 obtain⟨q1,q2,q3⟩:=qZ3 _ _ _ _ ho;have hwt1:∀l∈out.logs,l.wt.length<=1:=by
  intro l hl;obtain⟨k,hk⟩:=List.getElem?_of_mem hl;have hkl:k<ops.toList.length:=by rw[<- q1];exact(List.getElem?_eq_some_iff.1 hk).1
  obtain⟨lg',hlg',⟨_,e',_,_,_,_,hw,_⟩⟩:=q3 k _ (List.getElem?_eq_getElem hkl);rw[hk]at hlg';cases hlg';rw[hw];unfold wtOf;split<;>simp
 have hdone:∀(listed:Array Bool),listed.size=ops.size->Region.ready .any ops listed=[]->∀i,i<ops.size->listed.getD i true=true:=by
  intro listed hsz hrd;intro i
  induction i using Nat.strongRecOn with
  | _ i ih=>
   intro hi;cases hb:listed.getD i true with
   | true=>rfl
   | false=>
    exfalso;have hm:i∈Region.ready .any ops listed:=by
     unfold Region.ready;rw[List.mem_filter];refine⟨by simp[hi],?_⟩;rw[hb];rw[Bool.not_false,Bool.true_and,Array.getElem?_eq_getElem hi,Option.map_some,Option.getD_some];rw[Array.all_eq_true'];intro e he;cases hbe:Region.binds .any e with
     | false=>rfl
     | true=>
      have hlt:=adU hed i ops[i] (by simp[hi]) e he hbe;have:=ih e.on (by omega) (by omega);have hlt2:e.on<listed.size:=by omega
      simp[Array.getD,hlt2]at this ⊢;exact this
    rw[hrd]at hm;cases hm
 have hfin:∀(listed:Array Bool) (a:Act) (w:World),listed.size=ops.size->Region.ready .any ops listed=[]->Rel E (appl (fun j=>listed.getD j true) 0 out.logs S) a w->Q .normal a w:=by
  intro listed a w hsz hrd hr;refine hQ _ _ ?_;rw[q2];have hall:∀k,k<out.logs.length->listed.getD k true=true:=fun k hk=>hdone listed hsz hrd k (by rw[q1]at hk;simpa using hk);refine hr.same (by rw[abN,abN]) (fun t=>acN _ _ out.logs 0 S S hwt1 (fun k m hm _=>?_) rfl rfl) (fun o=>acO _ _ out.logs 0 S S (fun k m hm _=>?_) rfl)
  ·simpa using hall k (List.getElem?_eq_some_iff.1 hm).1
  ·simpa using hall k (List.getElem?_eq_some_iff.1 hm).1
 intro fuel
 induction fuel with
 | zero=>
  intro listed a w hsz hf hclo hr;have hrd:Region.ready .any ops listed=[]:=by
   rw[List.eq_nil_iff_forall_not_mem];intro i hi;unfold Region.ready at hi;rw[List.mem_filter]at hi;simp only[Bool.and_eq_true,Bool.not_eq_true']at hi;have hlt:i<listed.size:=by have:=hi.1;simp at this;omega
   have hfalse:listed[i]=false:=by have:=hi.2.1;simpa[Array.getD,hlt]using this
   have hnil:listed.toList.filter (fun b=>!b)=[]:=List.eq_nil_of_length_eq_zero (by omega);have:=List.filter_eq_nil_iff.1 hnil listed[i] (by simp);rw[hfalse]at this;simp at this
  exact⟨hrd,hfin listed a w hsz hrd hr⟩
 | succ fuel ih=>
  intro listed a w hsz hf hclo hr;refine⟨fun hrd=>hfin listed a w hsz hrd hr,fun i hi=>?_⟩;unfold Region.ready at hi;rw[List.mem_filter]at hi;simp only[Bool.and_eq_true,Bool.not_eq_true']at hi;obtain⟨hir,hil,hie⟩:=hi;have hlt:i<ops.size:=by simpa using hir
  have hlt2:i<listed.size:=by omega
  have hpre:∀e∈ops[i].after,Region.binds .any e=true->listed.getD e.on false=true:=by
   rw[Array.getElem?_eq_getElem hlt,Option.map_some,Option.getD_some]at hie;rw[Array.all_eq_true']at hie;intro e he hb;have:=hie e he;rw[hb]at this;simpa using this
  have hgd:∀j,listed.getD j false=true->listed.getD j true=true:=by
   intro j hj;by_cases h:j<listed.size
   ·simp[Array.getD,h]at hj ⊢;exact hj
   ·simp[Array.getD,h]
  refine aju hT ho hok hc hcl (done:=fun j=>listed.getD j true) (i:=i) (o:=ops[i]) (by simp[hlt]) hil (fun j hj=>?_) (fun j hj=>?_) hr (fun a' w' hr'=>?_)
  ·-- what it waits for is done
   simp only[aif,if_true]at hj;exact adr (listed:=fun j=>listed.getD j true) hed (fun i o hi hl e he hb=>hgd _ (hclo i o hi hl e he hb)) (i+1) i j ops[i] (by omega) (by simp[hlt]) hj (fun e he hb=>hgd _ (hpre e he hb))
  ·-- what waits for it is not
   simp only[aif,if_true]at hj;cases hb:listed.getD j true with
   | false=>rfl
   | true=>
    exfalso;by_cases hjl:j<ops.size
    ·have:=adr (listed:=fun j=>listed.getD j true) hed (fun i o hi hl e he hb=>hgd _ (hclo i o hi hl e he hb)) (j+1) j i ops[j] (by omega) (by simp[hjl]) hj (fun e he hbe=>hgd _ (hclo j _ (by simp[hjl]) hb e he hbe));rw[hil]at this;cases this
    ·have hlen:(clos ops.toList []).getD j 0=0:=by
      have hcl2:∀(l:List Oper) (acc:List Nat),(clos l acc).length=acc.length+l.length:=by
       intro l
       induction l with
       | nil=>intro acc;rfl
       | cons o r ih=>intro acc;simp only[clos];rw[ih];simp;omega
      rw[List.getD_eq_getElem?_getD,List.getElem?_eq_none (by rw[hcl2];simp;omega)];rfl
     rw[hlen]at hj;simp at hj
  ·refine ih (listed.setIfInBounds i true) a' w' (by simp[hsz]) ?_ (fun k o hk hl e he hb=>?_) ?_
   ·-- one less
    have hcnt:∀(l:List Bool) (i:Nat),l[i]? = some false->((l.set i true).filter (fun b=>!b)).length+1=(l.filter (fun b=>!b)).length:=by
     intro l
     induction l with
     | nil=>intro i h;simp at h
     | cons b r ihl=>
      intro i h;cases i with
      | zero=>simp at h;subst h;simp
      | succ i=>
       have:=ihl i (by simpa using h);cases b<;>simp[List.set_cons_succ]at this ⊢<;>omega
    have hfalse:listed.toList[i]? = some false:=by
     have:listed[i]=false:=by simpa[Array.getD,hlt2]using hil
     simp[hlt2,this]
    have:=hcnt listed.toList i hfalse;rw[Array.toList_setIfInBounds];omega
   ·by_cases hki:k=i
    ·subst hki;have:o=ops[k]:=by simp[hlt]at hk;exact hk.symm
     subst this;exact getD_set_true (hpre e he hb)
    ·have hl':listed.getD k true=true:=by
      rw[getD_set_ne _ (Ne.symm hki)]at hl;exact hl
     exact getD_set_true (hclo k o hk hl' e he hb)
   ·have:(fun j=>listed.getD j true||j==i)=fun j=>(listed.setIfInBounds i true).getD j true:=by
     funext j;by_cases hji:j=i
     ·subst hji;simp[Array.getD,hlt2]
     ·rw[getD_set_ne _ (Ne.symm hji)];simp[hji]
    rw[this]at hr';exact hr'
theorem agu{S:AS}:∀(rest seen:List Log),agv S seen rest=true->∀(i:Nat) (l:Log),rest[i]? = some l->∀d∈l.new,S.aak d=true∧(∀m∈seen,m.refers d=false)∧∀(j:Nat) (m:Log),j<i->rest[j]? = some m->m.refers d=false
 | [],seen,_,i,l,h=>by simp at h
 | x::r,seen,hk,i,l,h=>by
  simp only[agv,Bool.and_eq_true,List.all_eq_true,Bool.not_eq_true']at hk;obtain⟨h1,h2⟩:=hk;cases i with
  | zero=>
   simp at h;subst h;intro d hd;exact⟨(h1 d hd).1,(h1 d hd).2,fun j m hj=>by omega⟩
  | succ i=>
   intro d hd;obtain⟨q1,q2,q3⟩:=agu r (x::seen) h2 i l (by simpa using h) d hd;refine⟨q1,fun m hm=>q2 m (List.mem_cons_of_mem _ hm),fun j m hj hm=>?_⟩;cases j with
   | zero=>simp at hm;subst hm;exact q2 _ (List.mem_cons_self ..)
   | succ j=>exact q3 j m (by omega) (by simpa using hm)
def okSeq_ok{S:AS}{logs:List Log}(h:agv S [] logs=true):acS S (fun i j=>decide (i<j)) logs=true:=by
 unfold acS;rw[List.all_eq_true];rintro⟨l,i⟩ hl;have hi:logs[i]? = some l:=by
  have:=List.mem_zipIdx_iff_getElem?.1 hl;simpa using this
 simp only[Bool.and_eq_true,List.all_eq_true];refine⟨fun d hd=>(agu logs [] h i l hi d hd).1,?_⟩;rintro⟨m,j⟩ hm;have hj:logs[j]? = some m:=by
  have:=List.mem_zipIdx_iff_getElem?.1 hm;simpa using this
 simp only[Bool.and_eq_true,Bool.or_eq_true,Bool.not_eq_true',decide_eq_true_eq,decide_eq_false_iff_not,beq_iff_eq,List.all_eq_true];refine⟨⟨?_,?_⟩,?_⟩
 ·by_cases q:i<j
  ·exact .inr q
  ·exact .inl q
 ·by_cases q:i=j
  ·exact .inl (.inl (.inl q))
  ·rcases Nat.lt_or_gt_of_ne q with q|q
   ·exact .inl (.inr q)
   ·exact .inr q
 ·by_cases q:i=j
  ·exact .inl q
  ·refine .inr fun d hd=>?_;by_cases q2:i<j
   ·exact .inr q2
   ·exact .inl ((agu logs [] h i l hi d hd).2.2 j m (by omega) hj)
def ahh{ro:Option Nat}{n:Nat}(hT:TOk P T)(hm:P.follows .mixedOrders=true){id:Nat}{draw:Bool}{K:AS->Prop}(hv:adl (CallOb.ok P) T orc draw ops S K){a:Act}{w:World}(hr:Rel E S a w):
 (Code.region id ops draw).wpIn (FW ro) n P (fun e a' w'=>e=.normal∧∃S',K S'∧Rel E S' a' w') a w:=by
 unfold adl at hv;split at hv
 ·exact hv.elim
 ·rename_i S' conds calls logs ho;obtain⟨hok,hc,hcl,hK⟩:=hv;have hempty:∀(E:Nat->Bool) (logs:List Log),(∀k,k<logs.length->E k=false)->appl E 0 logs S=S:=by
   intro E logs
   suffices h:∀(logs:List Log) (i:Nat) (S:AS),(∀k,k<logs.length->E (i+k)=false)->appl E i logs S=S by
    intro hk;exact h logs 0 S (fun k hk'=>by simpa using hk k hk')
   intro logs
   induction logs with
   | nil=>intro i S _;rfl
   | cons l r ih=>
    intro i S hk;simp only[appl];have h0:=hk 0 (by simp);simp only[Nat.add_zero]at h0;rw[h0];exact ih (i+1) S (fun k hk'=>by have:=hk (k+1) (by simp;omega);rwa [show i+(k+1)=i+1+k by omega]at this)
  cases draw with
  | false=>
   refine wpIn_region ?_;rw[List.range_eq_range'];refine aha hT ho (okSeq_ok (by simpa using hok)) hc hcl (fun a w h=>⟨rfl,S',hK,h⟩) ops.size 0 a w (by omega) ?_;rw[hempty _ _ (fun k _=>by simp)];exact hr
  | true=>
   refine wpIn_region_any hm ?_;obtain⟨q1,_,_⟩:=qZ3 _ _ _ _ ho;simp only[if_true,Bool.and_eq_true]at hok;refine al6 hT ho hok.1 hok.2 hc hcl (fun a w h=>⟨rfl,S',hK,h⟩) ops.size _ a _ (by simp) ?_ (fun i o hi hl=>?_) ?_
   ·simp only[Array.toList_replicate];exact Nat.le_trans (List.length_filter_le _ _) (by simp)
   ·have:=(Array.getElem?_eq_some_iff.1 hi).1;simp[Array.getD,this]at hl
   ·rw[hempty _ _ (fun k hk=>by
     have:k<ops.size:=by rw[q1]at hk;simpa using hk
     simp[Array.getD,this])]
    obtain⟨β,hb⟩:=hr;obtain⟨h1,_,_⟩:=hb.grow (w':={ w with drawn:=w.drawn+1 }) ⟨rfl,rfl,rfl,Nat.le_refl _,fun _ _=>rfl⟩;exact⟨β,h1⟩
end
structure Ext(E E':Env):Prop where
 base:E.B<=E'.B
 pin:E'.pin=E.pin
 y:E'.Y=E.Y
 os:E'.w0.os=E.w0.os
 tape:E'.w0.tape=E.w0.tape
 output:E'.w0.output=E.w0.output
 size:E.N<=E'.N
 x:∀b,E'.X b->E.own b
 d:∀b,E'.D0 b->E.D0 b∨E.X b∨E.N<=b
 keep:∀b,b<E.N->¬E.X b->¬E.Y b->E'.w0.heap[b]? = E.w0.heap[b]?
 df:∀b,{ target:=.collected b,args:=#[] }∈E'.df->{ target:=.collected b,args:=#[] }∈E.df∨E.N<=b
def Ext.refl(E:Env):Ext E E:=⟨Nat.le_refl _,rfl,rfl,rfl,rfl,rfl,Nat.le_refl _,fun _ h=>.inl h,fun _ h=>.inl h,fun _ _ _ _=>rfl,fun _ h=>.inl h⟩
def Ext.own{E E':Env}(h:Ext E E'){b:Nat}(hb:E'.own b):E.own b:=hb.elim (h.x b) fun hb=>.inr (Nat.le_trans h.size hb)
def Ext.nx{E E':Env}(h:Ext E E'){b:Nat}(hb:b<E.N)(hx:¬E.X b):¬E'.X b:=fun hq=>(h.x b hq).elim hx fun hq=>by omega
def Ext.trans{E E' E'':Env}(h:Ext E E')(g:Ext E' E''):Ext E E'' where
 base:=Nat.le_trans h.base g.base
 pin:=g.pin.trans h.pin
 y:=g.y.trans h.y
 os:=g.os.trans h.os
 tape:=g.tape.trans h.tape
 output:=g.output.trans h.output
 size:=Nat.le_trans h.size g.size
 x:=fun b hb=>h.own (g.x b hb)
 d:=fun b hb=>(g.d b hb).elim (h.d b) fun hb=>(h.own hb).elim (fun q=>.inr (.inl q)) fun q=>.inr (.inr q)
 keep:=fun b hb hx hy=>(g.keep b (Nat.lt_of_lt_of_le hb h.size) (h.nx hb hx) (by rw[h.y];exact hy)).trans (h.keep b hb hx hy)
 df:=fun b hb=>(g.df b hb).elim (h.df b) fun hb=>.inr (Nat.le_trans h.size hb)
section
variable {E E':Env}{tmps:List AV}{H:Nat->AO}{a:Act}{w:World}{β:Nat->Value}
def Ext.dd(h:Ext E E'){b:Nat}(hb:E'.D w β H b):E.D w β H b:=
 ⟨hb.1.elim (h.d b) fun q=>(h.own q).elim (fun q=>.inr (.inl q)) fun q=>.inr (.inr q),hb.2⟩
def Ext.back(h:Ext E E')(hy:∀b,¬E.Y b)(hr:RelB E' tmps H a w β):RelB E tmps H { a with defers:=E.df } w β:=by
 have hrd:∀av v,RD w (E'.D w β H) E'.B av v->RD w (E.D w β H) E.B av v:=fun av v q=>q.mono (fun _ _=>rfl) (fun _=>h.dd) h.base;have hrx:∀av v,RX w (E'.D w β H) E'.B β H av v->RX w (E.D w β H) E.B β H av v:=fun av v q=>by
  exact q.map (fun av v q=>hrd av v q) (fun o off v q=>by
   obtain⟨b,h1,rfl⟩:=q.aa6;exact .ptr _ _ b h1) (fun o ver n v q=>by obtain⟨h1,h2⟩:=q.aI;exact .aref _ _ _ _ h1 h2) (fun o sz ver n i off v q=>by obtain⟨h1,h2,h3⟩:=q.aaF;exact .aptr _ _ _ _ _ _ _ h1 h2 h3)
 refine⟨rfl,hr.size,fun t av ht=>hrx _ _ (hr.tmps t av ht),fun o=>?_,hr.apart,⟨hr.frame.os.trans h.os,hr.frame.tape.trans h.tape,hr.frame.output.trans h.output,Nat.le_trans h.size hr.frame.size,fun b hb hx=>?_⟩,fun o v n0 hp=>hr.pin o v n0 (by rw[h.pin];exact hp)⟩
 ·have ho:=hr.objs o;cases hq:H o with
  | none=>trivial
  | box cs=>
   rw[hq]at ho;obtain⟨b,vs,ty,h1,h2,h3,h4,h5,h6⟩:=ho;exact⟨b,vs,ty,h1,h2,h.own h3,h4,fun i av v g1 g2=>hrx _ _ (h5 i av v g1 g2),h6⟩
  | it ks f seen pend=>
   rw[hq]at ho;obtain⟨b,mb,sa,h1,h2,h3,h4,h5⟩:=ho;exact⟨b,mb,sa,h1,h2,h.own h3,h4.imp id fun⟨m,q1,q2⟩=>⟨m,q1,hrd _ _ q2⟩,h5⟩
  | arr x t sz ver n f=>
   rw[hq]at ho;rcases ho with h1|⟨g,cap,cur,h1,h2,h3,h4,h5,h6,h7,h8⟩
   ·exact .inl h1
   ·exact .inr ⟨g,cap,cur,h1,h2,h3,h4,h5,fun e=>Nat.le_trans h.base (h6 e),h.own h7,fun i hi=>⟨(h8 i hi).1,(h8 i hi).2.1,fun j av v g1 g2=>hrd _ _ ((h8 i hi).2.2 j av v g1 g2)⟩⟩
 ·exact(hr.frame.block b (Nat.lt_of_lt_of_le hb h.size) (h.nx hb hx)).trans (h.keep b hb hx (hy b))
def RD.mono2{w w':World}{D D':Nat->Prop}{B:Nat}(hw:∀x v,w.cell? x=some v->w'.cell? x=some v)(hp:∀(b:Nat) (vs:Array Value) (ty:TypeId),w.heap[b]? = some (.cells vs ty (0,0))->w'.heap[b]? = some (.cells vs ty (0,0)))(hm:∀(b:Nat) (es:Array MapEntry) (c:Nat),w.heap[b]? = some (.map es c)->w'.heap[b]? = some (.map es c))(hD:∀b,D b->D' b){av:AV}{v:Value}(h:RD w D B av v):RD w' D' B av v:=by
 induction h with
 | any v=>exact .any v
 | val v=>exact .val v
 | int k n=>exact .int k n
 | bool b=>exact .bool b
 | str s=>exact .str s
 | nil=>exact .nil
 | nilf=>exact .nilf
 | nilp=>exact .nilp
 | tnil t=>exact .tnil t
 | nilm=>exact .nilm
 | anyb t f b ht hf=>exact .anyb t f b ht hf
 | ifc n v h=>exact .ifc n v h
 | empty fr sz n f p cap hn hc=>exact .empty fr sz n f p cap hn hc
 | slc fr sz n f b o cap c hn hc hDb hBb hcell hlen hone _ ih=>
  exact .slc fr sz n f b o cap c hn hc (hD _ hDb) (hBb.mono (hp b) (Nat.le_refl _)) (fun k hk=>hw _ _ (hcell k hk)) hlen hone ih
 | agg cs vs hl _ ih=>exact .agg cs vs hl ih
 | tup cs vs hl _ ih=>exact .tup cs vs hl ih
 | func fn cs vs hl _ ih=>exact .func fn cs vs hl ih
 | may g av v _ hu ih=>exact .may g av v ih hu
 | eptr fr sz n f i off b o cap hi _ ih=>exact .eptr fr sz n f i off b o cap hi ih
 | fmap es b clock ents hDb hb hl hk _ ih=>exact .fmap es b clock ents (hD _ hDb) (hm _ _ _ hb) hl hk ih
 | kmap ks f b clock ents hDb hb hl hk hc _ ih=>exact .kmap ks f b clock ents (hD _ hDb) (hm _ _ _ hb) hl hk hc ih
 | kmap0 ks f hz=>exact .kmap0 ks f hz
 | kmaps n ks f vs hl _ ih=>exact .kmaps n ks f vs hl ih
 | nxt t f b vs hb ht hf=>exact .nxt t f b vs hb ht hf
def aft{b:Nat}{o:Obj}(ho:w.heap[b]? = some o)(hn:o.isCells=false)(o':Obj):∀x v,w.cell? x=some v->(w.putObj b o').cell? x=some v:=by
 intro x v h;obtain⟨o2,h1,h2⟩:=cells_of_cell h;have hne:x.block≠b:=fun e=>by rw[e,ho]at h1;cases h1;rw[hn]at h2;cases h2
 exact(World.cell?_of_block (World.putObj_heap_other hne)).trans h
def RelB.shut(hr:RelB E tmps H a w β){b:Nat}{o:Obj}(hb:E.N<=b)(ho:w.heap[b]? = some o)(hn:o.isCells=false)(hm:∀es c,o≠.map es c)(o':Obj)(hi:∀a b c d,o≠.mapIter a b c d:=by intro _ _ _ _ q;cases q):RelB E tmps H a (w.putObj b o') β:=by
 have hsz:(w.putObj b o').heap.size=w.heap.size:=by simp[World.putObj]
 have hD:∀b',E.D w β H b'->E.D (w.putObj b o') β H b':=fun b' q=>⟨q.1,by rw[hsz];exact q.2.1,q.2.2⟩
 have hrd:∀av v,RD w (E.D w β H) E.B av v->RD (w.putObj b o') (E.D (w.putObj b o') β H) E.B av v:=fun av v q=>q.mono2 (aft ho hn o') (fun k vs ty hk=>by
  rw[World.putObj_heap_other (fun e=>?_)]
  ·exact hk
  ·rw[e,ho]at hk;cases hk;cases hn) (fun k es c hk=>by
  rw[World.putObj_heap_other (fun e=>?_)]
  ·exact hk
  ·rw[e,ho]at hk;cases hk;exact hm _ _ rfl) hD
 have ho':=ho;have hrx:∀av v,RX w (E.D w β H) E.B β H av v->RX (w.putObj b o') (E.D (w.putObj b o') β H) E.B β H av v:=fun av v q=>
  q.map hrd (fun o off v q=>by obtain⟨b,h1,rfl⟩:=q.aa6;exact .ptr _ _ b h1) (fun o ver n v q=>by obtain⟨h1,h2⟩:=q.aI;exact .aref _ _ _ _ h1 h2) (fun o sz ver n i off v q=>by obtain⟨h1,h2,h3⟩:=q.aaF;exact .aptr _ _ _ _ _ _ _ h1 h2 h3)
 have hcells:∀{k:Nat} {vs:Array Value} {ty:TypeId},w.heap[k]? = some (.cells vs ty (0,0))->(w.putObj b o').heap[k]? = some (.cells vs ty (0,0)):=by
  intro k vs ty hk;rw[World.putObj_heap_other (fun e=>?_)]
  ·exact hk
  ·rw[e,ho]at hk;cases hk;cases hn
 refine⟨hr.defers,hr.size,fun t av ht=>hrx _ _ (hr.tmps t av ht),fun o=>?_,hr.apart,⟨hr.frame.os,hr.frame.tape,hr.frame.output,by rw[hsz];exact hr.frame.size,fun b' hb' hx=>?_⟩,hr.pin⟩
 ·have ho:=hr.objs o;cases hq:H o with
  | none=>trivial
  | box cs=>
   rw[hq]at ho;obtain⟨b,vs,ty,h1,h2,h3,h4,h5,h6⟩:=ho;exact⟨b,vs,ty,h1,hcells h2,h3,h4,fun i av v g1 g2=>hrx _ _ (h5 i av v g1 g2),h6⟩
  | it ks f seen pend=>
   rw[hq]at ho;obtain⟨b2,mb,sa,h1,h2,h3,h4,h5⟩:=ho;exact⟨b2,mb,sa,h1,(World.putObj_heap_other (fun e=>by rw[e,ho']at h2;cases h2;exact hi _ _ _ _ rfl)).trans h2,h3,h4.imp id fun⟨m,q1,q2⟩=>⟨m,q1,hrd _ _ q2⟩,h5⟩
  | arr x t sz ver n f=>
   rw[hq]at ho;rcases ho with h1|⟨g,cap,cur,h1,h2,h3,h4,h5,h6,h7,h8⟩
   ·exact .inl h1
   ·exact .inr ⟨g,cap,cur,h1,hcells h2,h3,h4,h5,h6,h7,fun i hi=>⟨(h8 i hi).1,(h8 i hi).2.1,fun j av v g1 g2=>hrd _ _ ((h8 i hi).2.2 j av v g1 g2)⟩⟩
 ·rw[World.putObj_heap_other (by omega)];exact hr.frame.block b' hb' hx
end
def AWp(ro:Option Nat)(P:Program)(E:Env)(c:Code)(K:Exit->Env->AS->Prop)(S:AS):Prop:=
 ∀a w,Rel E S a w->c.wpIn (FW ro) 0 P (fun e a' w'=>∃E' S',Ext E E'∧K e E' S'∧Rel E' S' a' w') a w
def adh(n:Env->AS->Prop)(K:Exit->Env->AS->Prop):Exit->Env->AS->Prop
 | .normal,E,S=>n E S
 | e,E,S=>K e E S
def acV(id:Nat)(K:Exit->Env->AS->Prop):Exit->Env->AS->Prop
 | .exit id',E,S=>if id'=id then K .normal E S else K (.exit id') E S
 | e,E,S=>K e E S
def Weak(S S':AS):Prop:=∀E a w,Rel E S a w->Rel E S' a w
section
variable {ro:Option Nat}{P:Program}{E:Env}{K:Exit->Env->AS->Prop}{S:AS}
def AWp.mono{c:Code}{K':Exit->Env->AS->Prop}(h:AWp ro P E c K S)(hk:∀e E' S,Ext E E'->K e E' S->K' e E' S):AWp ro P E c K' S:=
 fun a w hr=>Go.wpIn_mono (h a w hr) fun e _ _ ⟨E',S',h0,h1,h2⟩=>⟨E',S',h0,hk e E' S' h0 h1,h2⟩
def AWp.weak{c:Code}{S':AS}(hw:Weak S S')(h:AWp ro P E c K S'):AWp ro P E c K S:=fun a w hr=>h a w (hw E a w hr)
def AWp.region{T:List (Nat×TI)}(hT:TOk P T)(hm:P.follows .mixedOrders=true)(orc:Orc){id:Nat}{draw:Bool}{ops:Array Oper}
 (h:∀(ob:Option (Unit->Bool)×CallOb->Prop) (K':AS->Prop),(∀c,CallOb.ok P c->ob c)->(∀S',K .normal E S'->K' S')->adl ob T orc draw ops S K'):
 AWp ro P E (.region id ops draw) K S:=
 fun a w hr=>Go.wpIn_mono (ahh hT hm (h (CallOb.ok P) (K .normal E) (fun _ h=>h) fun _ h=>h) hr) fun e _ _ ⟨he,S',h1,h2⟩=>⟨E,S',.refl E,he▸h1,h2⟩
def AWp.seq{x y:Code}(h:AWp ro P E x (adh (fun E' S'=>AWp ro P E' y K S') K) S):AWp ro P E (.seq x y) K S:=by
 refine fun a w hr=>wpIn_seq (Go.wpIn_mono (h a w hr) ?_);intro e a' w' ⟨E',S',h0,h1,h2⟩;cases e with
 | normal=>exact Go.wpIn_mono (h1 a' w' h2) fun e _ _ ⟨E'',S'',g0,g1,g2⟩=>⟨E'',S'',h0.trans g0,g1,g2⟩
 | exit id=>exact⟨E',S',h0,h1,h2⟩
 | goto l=>exact⟨E',S',h0,h1,h2⟩
 | ret=>exact⟨E',S',h0,h1,h2⟩
 | panic ch=>exact⟨E',S',h0,h1,h2⟩
 | outgrown=>exact⟨E',S',h0,h1,h2⟩
def AWp.cut{x y:Code}{ι:Type}(I:ι->AS)(Inv:ι->Env->Prop)(h:AWp ro P E x (adh (fun E' S'=>∃i,Inv i E'∧Weak S' (I i)) K) S)(h2:∀i E',Ext E E'->Inv i E'->AWp ro P E' y K (I i)):AWp ro P E (.seq x y) K S:=by
 refine .seq (h.mono ?_);intro e E' S' he;cases e with
 | normal=>exact fun⟨i,hi,hw⟩=>.weak hw (h2 i E' he hi)
 | _=>exact id
def AWp.cond{t:Tmp}{x y:Code}{b:Unit->Bool}(hb:S.tmp t=.bool b)(h1:b ()=true->AWp ro P E x K S)(h2:b ()=false->AWp ro P E y K S):AWp ro P E (.cond (.tmp t) x y) K S:=by
 intro a w hr;have⟨β,hB⟩:=hr;have h3:=hB.at t;rw[hb]at h3;exact wpIn_cond_split (t:=b ()) h3.aao (fun e=>h1 e a w hr) (fun e=>h2 e a w hr)
def AWp.cond_any{t:Tmp}{x y:Code}{p q:Unit->Prop}(hb:S.tmp t=.anyb p q)(h1:p ()->AWp ro P E x K S)(h2:q ()->AWp ro P E y K S):AWp ro P E (.cond (.tmp t) x y) K S:=by
 intro a w hr;have⟨β,hB⟩:=hr;have h3:=hB.at t;rw[hb]at h3;obtain⟨b,hv,hp,hq⟩:=h3.agW;exact wpIn_cond_split (t:=b) hv (fun e=>h1 (hp e) a w hr) (fun e=>h2 (hq e) a w hr)
def AWp.condT{x y:Code}(h1:AWp ro P E x K S):AWp ro P E (.cond (.const (.bool true)) x y) K S:=fun a w hr=>wpIn_cond_true rfl (h1 a w hr)
def AWp.condF{x y:Code}(h1:AWp ro P E y K S):AWp ro P E (.cond (.const (.bool false)) x y) K S:=fun a w hr=>wpIn_cond_false rfl (h1 a w hr)
def AWp.block{id:Nat}{c:Code}(h:AWp ro P E c (acV id K) S):AWp ro P E (.block id c) K S:=by
 refine fun a w hr=>wpIn_block (Go.wpIn_mono (h a w hr) ?_);intro e a' w' ⟨E',S',h0,h1,h2⟩;cases e with
 | exit id'=>
  simp only[acV]at h1;simp only[Exit.inBlock];split at h1
  ·rename_i e;rw[if_pos e];exact⟨E',S',h0,h1,h2⟩
  ·rename_i e;rw[if_neg e];exact⟨E',S',h0,h1,h2⟩
 | normal=>exact⟨E',S',h0,h1,h2⟩
 | goto l=>exact⟨E',S',h0,h1,h2⟩
 | ret=>exact⟨E',S',h0,h1,h2⟩
 | panic ch=>exact⟨E',S',h0,h1,h2⟩
 | outgrown=>exact⟨E',S',h0,h1,h2⟩
def AWp.skip(h:K .normal E S):AWp ro P E .skip K S:=fun _ _ hr=>wpIn_skip ⟨E,S,.refl E,h,hr⟩
def AWp.exit{id:Nat}(h:K (.exit id) E S):AWp ro P E (.exit id) K S:=fun _ _ hr=>wpIn_exit ⟨E,S,.refl E,h,hr⟩
def AWp.ret(h:K .ret E S):AWp ro P E .ret K S:=fun _ _ hr=>wpIn_ret ⟨E,S,.refl E,h,hr⟩
def AWp.loopE{c:Code}{ι:Type}(I:ι->AS)(Inv:ι->Env->Prop)(μ:ι->Nat)(h0:∃i,Inv i E∧Weak S (I i))
 (hr:∀i E',Ext E E'->Inv i E'->AWp ro P E' c (adh (fun E'' S'=>∃i',(Inv i' E''∧μ i'<μ i)∧Weak S' (I i')) K) (I i)):AWp ro P E (.loop c) K S:=by
 obtain⟨i0,hi0,hw0⟩:=h0;intro a w hrel;refine wpIn_loop (fun a w=>∃i E',Ext E E'∧Inv i E'∧Rel E' (I i) a w) (fun a w=>leastOf fun n=>∃i E',μ i=n∧Ext E E'∧Inv i E'∧Rel E' (I i) a w) ⟨i0,E,.refl E,hi0,hw0 _ _ _ hrel⟩ ?_;intro a w hI;obtain⟨i,E',hn,hE,hi,hR⟩:=(leastOf_spec (p:=fun n=>∃i E',μ i=n∧Ext E E'∧Inv i E'∧Rel E' (I i) a w) (by obtain⟨i,E',h⟩:=hI;exact⟨μ i,i,E',rfl,h⟩)).1;refine Go.wpIn_mono (hr i E' hE hi a w hR) ?_;intro e a' w' ⟨E'',S',h0,h1,h2⟩;cases e with
 | normal=>
  obtain⟨i',⟨hi',hlt⟩,hw⟩:=h1;have hex:∃i E',μ i=μ i'∧Ext E E'∧Inv i E'∧Rel E' (I i) a' w':=⟨i',E'',rfl,hE.trans h0,hi',hw _ _ _ h2⟩
  exact⟨⟨i',E'',hE.trans h0,hi',hw _ _ _ h2⟩,Nat.lt_of_le_of_lt ((leastOf_spec (p:=fun n=>∃i E',μ i=n∧Ext E E'∧Inv i E'∧Rel E' (I i) a' w') ⟨_,hex⟩).2 _ hex) (by rw[<- hn];exact hlt)⟩
 | exit id=>exact⟨E'',S',hE.trans h0,h1,h2⟩
 | goto l=>exact⟨E'',S',hE.trans h0,h1,h2⟩
 | ret=>exact⟨E'',S',hE.trans h0,h1,h2⟩
 | panic ch=>exact⟨E'',S',hE.trans h0,h1,h2⟩
 | outgrown=>exact⟨E'',S',hE.trans h0,h1,h2⟩
def AWp.loop{c:Code}{ι:Type}(I:ι->AS)(Inv:ι->Prop)(μ:ι->Nat)(h0:∃i,Inv i∧Weak S (I i))
 (hr:∀i E',Inv i->AWp ro P E' c (adh (fun _ S'=>∃i',(Inv i'∧μ i'<μ i)∧Weak S' (I i')) K) (I i)):AWp ro P E (.loop c) K S:=
 .loopE I (fun i _=>Inv i) μ h0 fun i E' _ hi=>hr i E' hi
end
def LeL(l l':List AV):Prop:=l.length=l'.length∧(l.all AV.cell=true->l'.all AV.cell=true)∧∀(w:World) (D:Nat->Prop) (B j:Nat) (av av':AV) (v:Value),l[j]? = some av->l'[j]? = some av'->RD w D B av v->RD w D B av' v
def LeL.of_eq{l l':List AV}(h:l=l'):LeL l l':=by
 subst h;exact⟨rfl,id,fun w D B j av av' v h1 h2 h3=>by rw[h1]at h2;cases h2;exact h3⟩
def AO.isB:AO->Bool
 | .none=>false
 | _=>true
def AO.ad4{o:AO}:o.isB=true↔o.is:=by cases o<;>simp[AO.isB,AO.is]
abbrev Cs:=Option (List (Unit->Prop))
def Cs.and(a b:Cs):Cs:=match a,b with|some a,some b=>some (a++b)|_,_=>none
def FB.le:FB->FB->Cs
 | _,.any=>some []
 | .new,.new=>some []
 | .sat p,.sat q=>some [fun _=>∀b,p b->q b]
 | .own p,.own q=>some [fun _=>∀b,p b->q b]
 | _,_=>none
def FB.amt:FB->Bool->Bool
 | .any,_=>true
 | .new,x=>!x
 | .sat _,_=>false
 | .own _,_=>false
def FB.isAny:FB->Bool
 | .any=>true
 | _=>false
def FB.isAny_eq{fr:FB}(h:fr.isAny=true):fr=.any:=by cases fr<;>first|rfl|cases h
def FB.le_ok{fr fr':FB}{l:List (Unit->Prop)}(h:fr.le fr'=some l)(hl:∀c∈l,c ()){w:World}{B b:Nat}(q:fr.ok w B b):fr'.ok w B b:=by
 cases fr' with
 | any=>trivial
 | new=>cases fr with
  | new=>exact q
  | _=>cases h
 | sat p=>cases fr with
  | sat p'=>simp only[FB.le,Option.some.injEq]at h;subst h;exact hl _ (List.mem_singleton.2 rfl) b q
  | _=>cases h
 | own p=>cases fr with
  | own p'=>simp only[FB.le,Option.some.injEq]at h;subst h;exact⟨hl _ (List.mem_singleton.2 rfl) b q.1,q.2⟩
  | _=>cases h
def wkA(O O':Nat->AO):AV->AV->Cs
 | _,.any=>some []
 | .int k a,.int k' b=>if k=k' then some [fun _=>a ()=b ()]else none
 | .bool a,.bool b=>some [fun _=>a ()=b ()]
 | .str a,.str b=>some [fun _=>a ()=b ()]
 | .nil,.nil=>some []
 | .nilf,.nilf=>some []
 | .nilp,.nilp=>some []
 | .tnil t,.tnil t'=>if t==t' then some []else none
 | .nilm,.nilm=>some []
 | .ifc a,.ifc b=>some [fun _=>a ()=b ()]
 | .val u,.val v=>some [fun _=>u=v]
 | .nil,.slc _ _ n _=>some [fun _=>n ()=0]
 | .slc fr sz n f,.slc fr' sz' n' f'=>match fr.le fr' with
  | some l=>if sz==sz' then some ((fun _=>n ()=n' ()∧∀i,i<n ()->LeL (f fun _=>i) (f' fun _=>i))::l)else none
  | none=>none
 | .ptr o off,.ptr o' off'=>if o==o'&&off==off'&&(O o).isB then some []else none
 | .bref o n,.bref o' n'=>if o==o'&&n==n'&&(O o).isB then some []else none
 | .bptr fn o,.bptr fn' o'=>if fn==fn'&&o==o'&&(O o).isB then some []else none
 | .aref o ver n,.aref o' ver' n'=>if o==o' then match O o,O' o with
  | .arr _ _ _ v m _,.arr _ _ _ v' m' _=>if v==ver&&v'==ver' then some [fun _=>n ()=n' (),fun _=>m ()=m' ()]else none
  | _,_=>none
  else none
 | .nil,.aref o' ver' n'=>match O o',O' o' with
  | .none,.arr _ _ _ v' m' _=>if v'==ver' then some [fun _=>n' ()=0,fun _=>m' ()=0]else none
  | _,_=>none
 | .aref o ver n,.slc fr sz n' f'=>match O o,O' o with
  | .arr x _ sz' v m f,.none=>if v==ver&&sz==sz'&&fr.amt x then some [fun _=>n ()=n' ()∧∀i,i<n ()->LeL (f fun _=>i) (f' fun _=>i)]else none
  | _,_=>none
 | .ptr o off,.eptr fr sz n f i off'=>match O o,O' o with
  | .box cs,.none=>if off==off'&&sz==cs.length&&fr.isAny&&AV.aae cs&&cs.all AV.cell then some [fun _=>n ()=1∧i ()=0∧LeL cs (f fun _=>0)]else none
  | _,_=>none
 | .eptr fr sz n f i off,.eptr fr' sz' n' f' i' off'=>match fr.le fr' with
  | some l=>if sz==sz'&&off==off' then some ((fun _=>i ()=i' ()∧n ()=n' ()∧∀k,k<n ()->LeL (f fun _=>k) (f' fun _=>k))::l)else none
  | none=>none
 | .kmap ks f,.kmap ks' f'=>some [fun _=>ks=ks'∧f=f']
 | .kmaps n ks f,.kmaps n' ks' f'=>some [fun _=>n=n'∧ks=ks'∧f=f']
 | _,_=>none
def wkL(O O':Nat->AO):List AV->List AV->Cs
 | [],[]=>some []
 | .agg cs::r,.agg cs'::r'=>(wkL O O' cs cs').and (wkL O O' r r')
 | .tup cs::r,.tup cs'::r'=>(wkL O O' cs cs').and (wkL O O' r r')
 | .func fn cs::r,.func fn' cs'::r'=>if fn==fn' then(wkL O O' cs cs').and (wkL O O' r r')else none
 | a::r,b::r'=>(wkA O O' a b).and (wkL O O' r r')
 | _,_=>none
def wkO(O O':Nat->AO)(o:Nat):AO->Cs
 | .none=>some []
 | .box cs'=>match O o with
  | .box cs=>wkL O O' cs cs'
  | _=>none
 | .arr x' t' sz' v' n' f'=>match O o with
  | .arr x t sz v n f=>if t==t'&&sz==sz'&&(x'||!x)&&(!abW o||!(v'==0)||v==0)then some [fun _=>n ()=n' (),fun _=>∀i,i<n ()->LeL (f fun _=>i) (f' fun _=>i)]else none
  | .none=>if !abW o then some [fun _=>n' ()=0]else none
  | _=>none
 | .it ks' f' seen' pend'=>match O o with
  | .it ks f seen pend=>if pend==pend' then some [fun _=>ks=ks'∧f=f'∧seen ()=seen' ()]else none
  | _=>none
def wkOs(O O':Nat->AO):List (Nat×AO)->Cs
 | []=>some []
 | (o,ob)::r=>(wkO O O' o ob).and (wkOs O O' r)
def acp(S S':AS):Prop:=
 match(wkL S.obj S'.obj S.tmps S'.tmps).and (wkOs S.obj S'.obj S'.objs)with
 | none=>False
 | some cs=>∀c∈cs,c ()
def Cs.and_some{a b:Cs}{l:List (Unit->Prop)}(h:Cs.and a b=some l):∃x y,a=some x∧b=some y∧l=x++y:=by
 unfold Cs.and at h;split at h
 ·cases h;exact⟨_,_,rfl,rfl,rfl⟩
 ·cases h
def Cs.all(a:Cs):Prop:=∃l,a=some l∧∀c∈l,c ()
def Cs.aaR{a b:Cs}(h:(Cs.and a b).all):a.all∧b.all:=by
 obtain⟨l,h1,h2⟩:=h;obtain⟨x,y,rfl,rfl,rfl⟩:=Cs.and_some h1;exact⟨⟨x,rfl,fun c hc=>h2 c (by simp[hc])⟩,⟨y,rfl,fun c hc=>h2 c (by simp[hc])⟩⟩
def Cs.all_some{l:List (Unit->Prop)}(h:Cs.all (some l)):∀c∈l,c ():=by
 obtain⟨l',h1,h2⟩:=h;cases h1;exact h2
section
variable {E:Env}{w:World}{β:Nat->Value}{O O':Nat->AO}{o:Nat}
def wβ(O:Nat->AO)(β:Nat->Value)(o:Nat):Value:=if(O o).isB then β o else .slice none 0 0
def aex{o:Nat}(h:(O o).is):wβ O β o=β o:=by simp[wβ,AO.ad4.2 h]
def ah0{o b:Nat}(h:aa9 (wβ O β o)=some b):(O o).is∧aa9 (β o)=some b:=by
 unfold wβ at h;split at h
 ·rename_i e;exact⟨AO.ad4.1 e,h⟩
 ·simp[aa9]at h
def wD{b:Nat}(h:E.D w β O b):E.D w (wβ O β) O' b:=
 ⟨h.1,h.2.1,fun o _ hb=>by obtain⟨h1,h2⟩:=ah0 hb;exact h.2.2 o h1 h2⟩
def wRD{av:AV}{v:Value}(h:RD w (E.D w β O) E.B av v):RD w (E.D w (wβ O β) O') E.B av v:=h.mono (fun _ _=>rfl) (fun _=>wD) (Nat.le_refl _)
def rdL{D:Nat->Prop}{B:Nat}{l l':List AV}(h:LeL l l'){f:Nat->Value}(hr:∀(j:Nat) (av:AV),l[j]? = some av->RD w D B av (f j)):∀(j:Nat) (av:AV),l'[j]? = some av->RD w D B av (f j):=by
 intro j av' hj;have hlt:j<l.length:=by rw[h.1];exact(List.getElem?_eq_some_iff.1 hj).1
 exact h.2.2 w D B j l[j] av' (f j) (List.getElem?_eq_getElem hlt) hj (hr j _ (List.getElem?_eq_getElem hlt))
def rd_slc{D:Nat->Prop}{B:Nat}{fr fr':FB}{sz:Nat}{n n':Unit->Nat}{f f':(Unit->Nat)->List AV}{v:Value}(h:RD w D B (.slc fr sz n f) v)(hf:∀b,fr.ok w B b->fr'.ok w B b)
 (hn:n ()=n' ()) (hl:∀i,i<n ()->LeL (f fun _=>i) (f' fun _=>i)):RD w D B (.slc fr' sz n' f') v:=by
 cases h with
 | empty _ _ _ _ p cap h0 hc=>exact .empty fr' sz n' f' p cap (by rw[<- hn];exact h0) hc
 | slc _ _ _ _ b o cap c h1 h2 h3 h4 h5 h6 h7 h8=>
  rw[hn];refine .slc fr' sz n' f' b o cap c (by rw[<- hn];exact h1) h2 h3 (hf _ h4) (by rw[<- hn];exact h5) (fun i hi=>?_) (fun i hi=>?_) (fun i j av hi hj=>?_)
  ·rw[<- hn]at hi;rw[<- (hl i hi).1];exact h6 i hi
  ·rw[<- hn]at hi;exact(hl i hi).2.1 (h7 i hi)
  ·rw[<- hn]at hi;exact rdL (hl i hi) (f:=fun j=>c (i*sz+j)) (fun j av hj=>h8 i j av hi hj) j av hj
structure WO(O O':Nat->AO)(o:Nat):Prop where
 c:(wkO O O' o (O' o)).all
def WO.arr(h:WO O O' o){x':Bool}{t' sz' v':Nat}{n':Unit->Nat}{f':(Unit->Nat)->List AV}(hq:O' o=.arr x' t' sz' v' n' f'){x:Bool}{t sz v:Nat}{n:Unit->Nat}{f:(Unit->Nat)->List AV}(hs:O o=.arr x t sz v n f):
 t=t'∧sz=sz'∧(x'=false->x=false)∧(abW o=true->v'=0->v=0)∧n ()=n' ()∧∀i,i<n ()->LeL (f fun _=>i) (f' fun _=>i):=by
 have:=h.c;rw[hq]at this;simp only[wkO,hs]at this;split at this
 ·rename_i hc;have hc':=Cs.all_some this;simp only[Bool.and_eq_true,beq_iff_eq,Bool.or_eq_true,Bool.not_eq_true',beq_eq_false_iff_ne]at hc;refine⟨hc.1.1.1,hc.1.1.2,fun e=>by rcases hc.1.2 with h|h<;>simp_all,fun e e'=>by rcases hc.2 with(h|h)|h<;>simp_all,hc' _ (List.mem_cons_self ..),hc' _ (List.mem_cons_of_mem _ (List.mem_singleton.2 rfl))⟩
 ·obtain⟨l,h1,_⟩:=this;cases h1
def WO.new(h:WO O O' o){x':Bool}{t' sz' v':Nat}{n':Unit->Nat}{f':(Unit->Nat)->List AV}(hq:O' o=.arr x' t' sz' v' n' f')(hs:O o=.none):abW o=false∧n' ()=0:=by
 have:=h.c;rw[hq]at this;simp only[wkO,hs]at this;split at this
 ·rename_i hc;exact⟨by simpa using hc,Cs.all_some this _ (List.mem_singleton.2 rfl)⟩
 ·obtain⟨l,h1,_⟩:=this;cases h1
def WO.nobox(h:WO O O' o){x':Bool}{t' sz' v':Nat}{n':Unit->Nat}{f':(Unit->Nat)->List AV}(hq:O' o=.arr x' t' sz' v' n' f'){cs:List AV}(hs:O o=.box cs):False:=by
 have:=h.c;rw[hq]at this;simp only[wkO,hs]at this;obtain⟨l,h1,_⟩:=this;cases h1
def wkA_tag{O O':Nat->AO}{a:AV}{t:Nat}{l:List (Unit->Prop)}(h:wkA O O' a (.tnil t)=some l):a=.tnil t:=by
 cases a<;>simp[wkA]at h ⊢;exact h.1
def wkL_tag{O O':Nat->AO}{cs cs':List AV}(h:(wkL O O' cs cs').all){t:Nat}(ht:cs'[0]? = some (.tnil t)):cs[0]? = some (.tnil t):=by
 obtain⟨l,h,_⟩:=h
 match cs,cs' with
 | [],[]=>simp at ht
 | [],b::r'=>simp[wkL]at h
 | a::r,[]=>simp at ht
 | a::r,b::r'=>
  simp at ht;subst ht;have h2:wkL O O' (a::r) (.tnil t::r')=(wkA O O' a (.tnil t)).and (wkL O O' r r'):=by
   cases a<;>simp[wkL]
  rw[h2]at h;cases hq:wkA O O' a (.tnil t)with
  | none=>rw[hq]at h;cases h
  | some l'=>rw[wkA_tag hq];rfl
def WO.noit(h:WO O O' o){x':Bool}{t' sz' v':Nat}{n':Unit->Nat}{f':(Unit->Nat)->List AV}(hq:O' o=.arr x' t' sz' v' n' f'){ks:Unit->List ByteArray}{f:(Unit->Nat)->AV}{sn:Unit->List Nat}{p:Bool}(hs:O o=.it ks f sn p):False:=by
 have:=h.c;rw[hq]at this;simp only[wkO,hs]at this;obtain⟨l,h1,_⟩:=this;cases h1
def WO.it(h:WO O O' o){ks':Unit->List ByteArray}{f':(Unit->Nat)->AV}{sn':Unit->List Nat}{p':Bool}(hq:O' o=.it ks' f' sn' p'):∃sn,O o=.it ks' f' sn p'∧sn ()=sn' ():=by
 have:=h.c;rw[hq]at this;simp only[wkO]at this;split at this
 ·rename_i ks f sn p hs;split at this
  ·rename_i e;simp only[beq_iff_eq]at e;obtain⟨e1,e2,e3⟩:=Cs.all_some this _ (List.mem_singleton.2 rfl);subst e;subst e1;subst e2;exact⟨sn,hs,e3⟩
  ·obtain⟨l,h1,_⟩:=this;cases h1
 ·obtain⟨l,h1,_⟩:=this;cases h1
def WO.box(h:WO O O' o){cs':List AV}(hq:O' o=.box cs'):∃cs,O o=.box cs∧(wkL O O' cs cs').all:=by
 have:=h.c;rw[hq]at this;simp only[wkO]at this;split at this
 ·rename_i cs hs;exact⟨cs,hs,this⟩
 ·obtain⟨l,h1,_⟩:=this;cases h1
def freeze(ho:∀o,OR E w β O o (O o))(ha:∀o o' b,o≠o'->(O o).is->(O o').is->aa9 (β o)=some b->aa9 (β o')=some b->False)
 {x:Bool} {t sz ver:Nat} {m n n':Unit->Nat} {f f':(Unit->Nat)->List AV} {fr:FB} {v:Value} (q1:O o=.arr x t sz ver m f) (q2:O' o=.none) (hx:fr.amt x=true) (h4:n ()=m ()) (h5:v=β o) (hn:n ()=n' ())
 (hl:∀i,i<n ()->LeL (f fun _=>i) (f' fun _=>i)):RD w (E.D w (wβ O β) O') E.B (.slc fr sz n' f') v:=by
 have hor:=ho o;rw[q1]at hor;rcases hor with⟨g1,g2⟩|⟨g,cap,cur,g1,g2,g3,g4,g5,g6,g7,g8⟩
 ·rw[h5,g1];exact .empty _ _ _ _ none 0 (by rw[<- hn,h4];exact g2) (Nat.zero_le _)
 ·rw [h5,g1,<- h4,hn];refine .slc _ _ _ _ g 0 cap (fun k=>cur.getD k undef) (by rw[<- hn,h4];exact g3) g4 ⟨g7.elim (fun h=>.inr (.inl h)) (fun h=>.inr (.inr h)),(Array.getElem?_eq_some_iff.1 g2).1,fun o2 hi2 hb2=>?_⟩ (by cases fr with|any=>trivial|new=>exact⟨g6 (by simpa[FB.amt]using hx),_,_,g2⟩|sat p=>simp[FB.amt]at hx|own p=>simp[FB.amt]at hx) (fun k hk=>?_) (fun i hi=>?_) (fun i hi=>?_) (fun i j av hi hj=>?_)
  ·obtain⟨i1,i2⟩:=ah0 hb2;by_cases e:o2=o
   ·subst e;rw[q2]at hi2;exact hi2
   ·exact ha o2 o g e i1 (by rw[q1];trivial) i2 (by rw[g1];rfl)
  ·have:k<cur.size:=by
    rw[g5];rw[<- hn,h4]at hk;exact Nat.lt_of_lt_of_le hk (Nat.mul_le_mul_right _ g3)
   simp[World.cell?,g2,this]
  ·rw[<- hn]at hi;rw[<- (hl i hi).1];exact(g8 i (by rw[<- h4];exact hi)).1
  ·rw[<- hn]at hi;exact(hl i hi).2.1 (g8 i (by rw[<- h4];exact hi)).2.1
  ·rw [<- hn]at hi;have hi':=hi;rw[h4]at hi';refine rdL (hl i hi) (f:=fun j=>cur.getD (i*sz+j) undef) (fun j av hj=>?_) j av hj;obtain⟨k1,k2,k3⟩:=g8 i hi';have hjl:j<(f fun _=>i).length:=(List.getElem?_eq_some_iff.1 hj).1;rw[k1]at hjl;have hlt2:i*sz+j<cur.size:=by
    rw[g5]
    calc i*sz+j<(i+1)*sz:=by rw[Nat.succ_mul];omega
     _<=cap*sz:=Nat.mul_le_mul_right _ (by omega)
   have:=k3 j av _ hj (Array.getElem?_eq_getElem hlt2);simpa[Array.getD,hlt2]using wRD this
def akJ{c:AV}{r:List AV}:AV.aae (c::r)=true↔AV.aae [c]=true∧AV.aae r=true:=by
 cases c<;>simp[AV.aae]
theorem abU:∀{cs:List AV},AV.aae cs=true->∀(i:Nat) (av:AV),cs[i]? = some av->AV.aae [av]=true
 | [],_,i,av,h=>by simp at h
 | c::r,hn,i,av,hi=>by
  obtain⟨h1,h2⟩:=akJ.1 hn;cases i with
  | zero=>simp at hi;subst hi;exact h1
  | succ i=>exact abU h2 i av (by simpa using hi)
def akZ(ho:∀o,OR E w β O o (O o))(ha:∀o o' b,o≠o'->(O o).is->(O o').is->aa9 (β o)=some b->aa9 (β o')=some b->False)
 {cs:List AV} {off:Nat} {n i:Unit->Nat} {f:(Unit->Nat)->List AV} {v:Value} (q1:O o=.box cs) (q2:O' o=.none) (hp:AV.aae cs=true) (hcl:cs.all AV.cell=true) (hn:n ()=1) (hi:i ()=0) (hl:LeL cs (f fun _=>0))
 (hv:RX w (E.D w β O) E.B β O (.ptr o off) v):RD w (E.D w (wβ O β) O') E.B (.eptr .any cs.length n f i off) v:=by
 have hor:=ho o;rw[q1]at hor;obtain⟨b,vs,ty,h1,h2,h3,h4,h5,_⟩:=hor;obtain⟨b',g1,rfl⟩:=hv.aa6;rw[h1]at g1;simp only[Value.pointer.injEq,Option.some.injEq,Addr.mk.injEq,and_true]at g1;subst g1;have e:off=0+i ()*cs.length+off:=by rw[hi];omega
 have hs:RD w (E.D w (wβ O β) O') E.B (.slc .any cs.length n f) (.slice (some ⟨b,0,none⟩) (n ()) 1):=by
  refine .slc _ _ _ _ b 0 1 (fun k=>vs.getD k undef) (by omega) (by unfold maxLen;omega) ⟨h3.elim (fun h=>.inr (.inl h)) (fun h=>.inr (.inr h)),(Array.getElem?_eq_some_iff.1 h2).1,fun o2 hi2 hb2=>?_⟩ trivial (fun k hk=>?_) (fun j hj=>?_) (fun j hj=>?_) (fun j k av hj hk=>?_)
  ·obtain⟨i1,i2⟩:=ah0 hb2;by_cases e:o2=o
   ·subst e;rw[q2]at hi2;exact hi2
   ·exact ha o2 o b e i1 (by rw[q1];trivial) i2 (by rw[h1];rfl)
  ·have:k<vs.size:=by rw[<- h4];rw[hn]at hk;omega
   simp[World.cell?,h2,this]
  ·have:j=0:=by omega
   subst this;exact hl.1.symm
  ·have:j=0:=by omega
   subst this;exact hl.2.1 hcl
  ·have:j=0:=by omega
   subst this;refine rdL hl (f:=fun j=>vs.getD (0*cs.length+j) undef) (fun j av hj=>?_) k av hk;have hjl:j<cs.length:=(List.getElem?_eq_some_iff.1 hj).1;have hjv:j<vs.size:=by rw[<- h4];exact hjl
   have q:=h5 j av _ hj (Array.getElem?_eq_getElem hjv);have:=wRD (O':=O') (q.pure (abU hp j av hj));simpa[Array.getD,hjv]using this
 have:=RD.eptr (w:=w) (D:=E.D w (wβ O β) O') (B:=E.B) .any cs.length n f i off b 0 1 (by omega) hs;rw[<- e]at this;exact this
def alo(ho:∀o,OR E w β O o (O o))(ha:∀o o' b,o≠o'->(O o).is->(O o').is->aa9 (β o)=some b->aa9 (β o')=some b->False)(hO:∀o,WO O O' o)
 {av av':AV} {v:Value} (hc:(wkA O O' av av').all) (h:RX w (E.D w β O) E.B β O av v):RX w (E.D w (wβ O β) O') E.B (wβ O β) O' av' v:=by
 have hno:∀{p:Prop},Cs.all none->p:=fun⟨l,h1,_⟩=>by cases h1
 unfold wkA at hc;split at hc
 ·exact .d (.any _)
 ·split at hc
  ·rename_i hk;subst hk;have:=Cs.all_some hc _ (List.mem_singleton.2 rfl);rw[h.aaq,this];exact .d (.int _ _)
  ·exact hno hc
 ·have:=Cs.all_some hc _ (List.mem_singleton.2 rfl);rw[h.aao,this];exact .d (.bool _)
 ·have:=Cs.all_some hc _ (List.mem_singleton.2 rfl);rw[h.aaI,this];exact .d (.str _)
 ·rw[h.ab2];exact .d .nil
 ·rw[h.aen];exact .d .nilf
 ·cases h with|d h=>exact .d (wRD h)
 ·split at hc
  ·rename_i q;have q:=eq_of_beq q;subst q;cases h with|d h=>exact .d (wRD h)
  ·exact hno hc
 ·cases h with|d h=>exact .d (wRD h)
 ·have e:=Cs.all_some hc _ (List.mem_singleton.2 rfl);exact .d (.ifc _ _ (by rw[<- e];exact h.agD))
 ·have:=Cs.all_some hc _ (List.mem_singleton.2 rfl);rw[h.vI,this];exact .d (.val _)
 ·have:=Cs.all_some hc _ (List.mem_singleton.2 rfl);rw[h.ab2];exact .d (.empty _ _ _ _ none 0 this (Nat.zero_le _))
 ·split at hc
  ·rename_i l hle;split at hc
   ·rename_i e;simp only[beq_iff_eq]at e;subst e;have hall:=Cs.all_some hc;obtain⟨h1,h2⟩:=hall _ (List.mem_cons_self ..);exact .d (rd_slc (wRD h.aaJ) (fun b q=>FB.le_ok hle (fun c hc=>hall c (List.mem_cons_of_mem _ hc)) q) h1 h2)
   ·exact hno hc
  ·exact hno hc
 ·split at hc
  ·rename_i e;simp only[Bool.and_eq_true,beq_iff_eq]at e;obtain⟨⟨rfl,rfl⟩,e3⟩:=e;obtain⟨b,h1,rfl⟩:=h.aa6;exact .ptr _ _ b (by rw[aex (AO.ad4.1 e3),h1])
  ·exact hno hc
 ·split at hc
  ·rename_i e;simp only[Bool.and_eq_true,beq_iff_eq]at e;obtain⟨⟨rfl,rfl⟩,e3⟩:=e;obtain⟨b,h1,rfl⟩:=h.agQ;exact .bref _ _ b (.ptr _ _ b (by rw[aex (AO.ad4.1 e3),h1]))
  ·exact hno hc
 ·split at hc
  ·rename_i e;simp only[Bool.and_eq_true,beq_iff_eq]at e;obtain⟨⟨rfl,rfl⟩,e3⟩:=e;obtain⟨b,h1,rfl⟩:=h.aeu;exact .bptr _ _ b (.ptr _ _ b (by rw[aex (AO.ad4.1 e3),h1]))
  ·exact hno hc
 ·split at hc
  ·rename_i e;simp only[beq_iff_eq]at e;subst e;split at hc
   ·rename_i q1 q2;split at hc
    ·rename_i e;simp only[Bool.and_eq_true,beq_iff_eq]at e;obtain⟨rfl,rfl⟩:=e;have hn:=Cs.all_some hc _ (List.mem_cons_self ..);have hm:=Cs.all_some hc _ (List.mem_cons_of_mem _ (List.mem_singleton.2 rfl));obtain⟨h1,h2⟩:=h.aI;refine .aref _ _ _ _ (by rw[<- hn];exact h1) (fun x t sz' ver' n' f hH=>?_);rw[q2]at hH;cases hH;obtain⟨_,h3⟩:=h2 _ _ _ _ _ _ q1;obtain⟨h4,h5⟩:=h3 rfl;exact⟨Nat.le_refl _,fun _=>⟨by rw[<- hn,<- hm];exact h4,by rw[aex (by rw[q1];trivial)];exact h5⟩⟩
    ·exact hno hc
   ·exact hno hc
  ·exact hno hc
 ·split at hc
  ·rename_i q1 q2;split at hc
   ·rename_i e;simp only[beq_iff_eq]at e;subst e;have hn:=Cs.all_some hc _ (List.mem_cons_self ..);have hm:=Cs.all_some hc _ (List.mem_cons_of_mem _ (List.mem_singleton.2 rfl));rw[h.ab2];refine .aref _ _ _ _ (.inl ⟨rfl,hn⟩) (fun x t sz' ver' n' f hH=>?_);rw[q2]at hH;cases hH;exact⟨Nat.le_refl _,fun _=>⟨by rw[hn,hm],by simp[wβ,q1,AO.isB]⟩⟩
   ·exact hno hc
  ·exact hno hc
 ·split at hc
  ·rename_i q1 q2;split at hc
   ·rename_i e;simp only[Bool.and_eq_true,beq_iff_eq,Bool.or_eq_true,Bool.not_eq_true']at e;obtain⟨⟨rfl,rfl⟩,e3⟩:=e;obtain⟨hn,hl⟩:=Cs.all_some hc _ (List.mem_singleton.2 rfl);obtain⟨h1,h2⟩:=h.aI;obtain⟨_,h3⟩:=h2 _ _ _ _ _ _ q1;obtain⟨h4,h5⟩:=h3 rfl;exact .d (freeze ho ha q1 q2 e3 h4 h5 hn hl)
   ·exact hno hc
  ·exact hno hc
 ·split at hc
  ·rename_i q1 q2;split at hc
   ·rename_i e;simp only[Bool.and_eq_true,beq_iff_eq,Bool.not_eq_true']at e;obtain⟨⟨⟨⟨rfl,rfl⟩,e3⟩,e4⟩,e5⟩:=e;obtain rfl:=FB.isAny_eq e3;obtain⟨hn,hi,hl⟩:=Cs.all_some hc _ (List.mem_singleton.2 rfl);exact .d (akZ ho ha q1 q2 e4 e5 hn hi hl h)
   ·exact hno hc
  ·exact hno hc
 ·split at hc
  ·rename_i l hle;split at hc
   ·rename_i e;simp only[Bool.and_eq_true,beq_iff_eq]at e;obtain⟨rfl,rfl⟩:=e;have hall:=Cs.all_some hc;obtain⟨hi,hn,hl⟩:=hall _ (List.mem_cons_self ..);obtain⟨b,o,cap,g1,g2,rfl⟩:=h.acJ;rw[hi];refine .d (.eptr _ _ _ _ _ _ b o cap (by rw[<- hi,<- hn];exact g1) ?_);rw[<- hn];exact rd_slc (wRD (O':=O') g2) (fun b q=>FB.le_ok hle (fun c hc=>hall c (List.mem_cons_of_mem _ hc)) q) hn hl
   ·exact hno hc
  ·exact hno hc
 ·obtain⟨rfl,rfl⟩:=Cs.all_some hc _ (List.mem_singleton.2 rfl);cases h with|d h=>exact .d (wRD h)
 ·obtain⟨rfl,rfl,rfl⟩:=Cs.all_some hc _ (List.mem_singleton.2 rfl);cases h with|d h=>exact .d (wRD h)
 ·exact hno hc
def aez(ho:∀o,OR E w β O o (O o))(ha:∀o o' b,o≠o'->(O o).is->(O o').is->aa9 (β o)=some b->aa9 (β o')=some b->False)(hO:∀o,WO O O' o):
 ∀(l l':List AV),(wkL O O' l l').all->l.length=l'.length∧∀(j:Nat) (av av':AV) (v:Value),l[j]? = some av->l'[j]? = some av'->RX w (E.D w β O) E.B β O av v->RX w (E.D w (wβ O β) O') E.B (wβ O β) O' av' v:=by
 have hno:∀{p:Prop},Cs.all none->p:=fun⟨l,h1,_⟩=>by cases h1
 have hcons:∀{a b:AV} {r r':List AV},(∀v,RX w (E.D w β O) E.B β O a v->RX w (E.D w (wβ O β) O') E.B (wβ O β) O' b v) ->
  (r.length=r'.length∧∀(j:Nat) (av av':AV) (v:Value),r[j]? = some av->r'[j]? = some av'->RX w (E.D w β O) E.B β O av v->RX w (E.D w (wβ O β) O') E.B (wβ O β) O' av' v) ->
  ((a::r).length=(b::r').length∧∀(j:Nat) (av av':AV) (v:Value),(a::r)[j]? = some av->(b::r')[j]? = some av'->RX w (E.D w β O) E.B β O av v->RX w (E.D w (wβ O β) O') E.B (wβ O β) O' av' v):=by
  intro a b r r' h1 h2;refine⟨by simp[h2.1],fun j av av' v e1 e2=>?_⟩;cases j with
  | zero=>simp at e1 e2;subst e1;subst e2;exact h1 v
  | succ j=>exact h2.2 j av av' v (by simpa using e1) (by simpa using e2)
 intro l l' hc
 induction l,l' using wkL.induct with
 | case1=>exact⟨rfl,fun j av av' v h=>by simp at h⟩
 | case2 cs r cs' r' ih1 ih2=>
  simp only[wkL]at hc;obtain⟨c1,c2⟩:=Cs.aaR hc;refine hcons (fun v hv=>?_) (ih2 c2);obtain⟨vs,rfl,hl,h1⟩:=hv.afk;obtain⟨i1,i2⟩:=ih1 c1
  exact .agg _ _ (by rw[<- i1];exact hl) (fun i av' v h2 h3=>by
   have:i<cs.length:=by rw[i1];exact(List.getElem?_eq_some_iff.1 h2).1
   exact i2 i _ av' v (List.getElem?_eq_getElem this) h2 (h1 i _ v (List.getElem?_eq_getElem this) h3))
 | case3 cs r cs' r' ih1 ih2=>
  simp only[wkL]at hc;obtain⟨c1,c2⟩:=Cs.aaR hc;refine hcons (fun v hv=>?_) (ih2 c2);obtain⟨vs,rfl,hl,h1⟩:=hv.aly;obtain⟨i1,i2⟩:=ih1 c1
  exact .tup _ _ (by rw[<- i1];exact hl) (fun i av' v h2 h3=>by
   have:i<cs.length:=by rw[i1];exact(List.getElem?_eq_some_iff.1 h2).1
   exact i2 i _ av' v (List.getElem?_eq_getElem this) h2 (h1 i _ v (List.getElem?_eq_getElem this) h3))
 | case4 fn cs r fn' cs' r' hfn ih1 ih2=>
  simp only[wkL,hfn,if_true]at hc;obtain⟨c1,c2⟩:=Cs.aaR hc;refine hcons (fun v hv=>?_) (ih2 c2);obtain⟨vs,rfl,hl,h1⟩:=hv.abL;obtain⟨i1,i2⟩:=ih1 c1;rw[eq_of_beq hfn]
  exact .func _ _ _ (by rw[<- i1];exact hl) (fun i av' v h2 h3=>by
   have:i<cs.length:=by rw[i1];exact(List.getElem?_eq_some_iff.1 h2).1
   exact i2 i _ av' v (List.getElem?_eq_getElem this) h2 (h1 i _ v (List.getElem?_eq_getElem this) h3))
 | case5 fn cs r fn' cs' r' hfn=>
  simp only[wkL,hfn,if_false]at hc;exact hno hc
 | case6 a r b r' h1 h2 h3 ih=>
  have e:wkL O O' (a::r) (b::r')=(wkA O O' a b).and (wkL O O' r r'):=by
   rw[wkL]
   ·exact h1
   ·exact h2
   ·exact h3
  rw[e]at hc;obtain⟨c1,c2⟩:=Cs.aaR hc;exact hcons (fun v hv=>alo ho ha hO c1 hv) (ih c2)
 | case7 l l' h1 h2 h3 h4 h5=>
  have e:wkL O O' l l'=none:=by
   rw[wkL]<;>assumption
  rw[e]at hc;exact hno hc
theorem ajo:∀{l:List (Nat×AO)} (_:(wkOs O O' l).all) {k:Nat} {ob:AO},(k,ob)∈l->(wkO O O' k ob).all
 | [],_,_,_,h=>by simp at h
 | (k,ob)::r,hc,k',ob',h=>by
  simp only[wkOs]at hc;obtain⟨c1,c2⟩:=Cs.aaR hc;rcases List.mem_cons.1 h with e|e
  ·cases e;exact c1
  ·exact ajo c2 e
end
def wkL_len{O O':Nat->AO}:∀(l l':List AV),(wkL O O' l l').all->l.length=l'.length:=by
 have hno:∀{p:Prop},Cs.all none->p:=fun⟨l,h1,_⟩=>by cases h1
 intro l l' hc
 induction l,l' using wkL.induct with
 | case1=>rfl
 | case2 cs r cs' r' ih1 ih2=>
  simp only[wkL]at hc;simp[ih2 (Cs.aaR hc).2]
 | case3 cs r cs' r' ih1 ih2=>
  simp only[wkL]at hc;simp[ih2 (Cs.aaR hc).2]
 | case4 fn cs r fn' cs' r' hfn ih1 ih2=>
  simp only[wkL,hfn,if_true]at hc;simp[ih2 (Cs.aaR hc).2]
 | case5 fn cs r fn' cs' r' hfn=>
  simp only[wkL,hfn,if_false]at hc;exact hno hc
 | case6 a r b r' h1 h2 h3 ih=>
  have e:wkL O O' (a::r) (b::r')=(wkA O O' a b).and (wkL O O' r r'):=by
   rw[wkL]
   ·exact h1
   ·exact h2
   ·exact h3
  rw[e]at hc;simp[ih (Cs.aaR hc).2]
 | case7 l l' h1 h2 h3 h4 h5=>
  have e:wkL O O' l l'=none:=by
   rw[wkL]<;>assumption
  rw[e]at hc;exact hno hc
def afu{S S':AS}(c2:(wkOs S.obj S'.obj S'.objs).all)(hl:S.tmps.length=S'.tmps.length)
 (hx:∀{E:Env} {w:World} {β:Nat->Value},(∀o,OR E w β S.obj o (S.obj o))->(∀o o' b,o≠o'->(S.obj o).is->(S.obj o').is->aa9 (β o)=some b->aa9 (β o')=some b->False)->(∀o,WO S.obj S'.obj o) ->
   ∀(t:Nat) (av':AV),S'.tmps[t]? = some av'->∃av,S.tmps[t]? = some av∧∀v,RX w (E.D w β S.obj) E.B β S.obj av v->RX w (E.D w (wβ S.obj β) S'.obj) E.B (wβ S.obj β) S'.obj av' v):∀E a w β,RelB E S.tmps S.obj a w β->RelB E S'.tmps S'.obj a w (wβ S.obj β):=by
 intro E a w β h;have hO:∀o,WO S.obj S'.obj o:=by
  intro o;refine⟨?_⟩;by_cases hi:(S'.obj o).is
  ·exact ajo c2 (aem hi)
  ·cases hq:S'.obj o with
   | none=>exact⟨[],rfl,fun c hc=>by simp at hc⟩
   | box cs=>rw[hq]at hi;exact(hi trivial).elim
   | arr x t sz ver n f=>rw[hq]at hi;exact(hi trivial).elim
   | it ks f seen pend=>rw[hq]at hi;exact(hi trivial).elim
 have g2:=hx h.objs h.apart hO;refine⟨h.defers,by rw[h.size,hl],fun t av' ht=>?_,fun o=>?_,fun o o' b hne hi hi' hb hb'=>?_,h.frame,fun o v n0 hp=>?_⟩
 ·obtain⟨av,h1,h2⟩:=g2 t av' ht;exact h2 _ (h.tmps t _ h1)
 ·have hso:=h.objs o;cases hq:S'.obj o with
  | none=>trivial
  | box cs'=>
   obtain⟨cs,hs,hcs⟩:=(hO o).box hq;obtain⟨i1,i2⟩:=aez h.objs h.apart hO _ _ hcs;rw[hs]at hso;obtain⟨b,vs,ty,k1,k2,k3,k4,k5,k6⟩:=hso;refine⟨b,vs,ty,by rw[aex (by rw[hs];trivial),k1],k2,k3,by rw[<- i1,k4],fun i av' v h1 h2=>?_,fun t ht=>k6 t (wkL_tag hcs ht)⟩;have hlt:i<cs.length:=by rw[i1];exact(List.getElem?_eq_some_iff.1 h1).1
   exact i2 i _ av' v (List.getElem?_eq_getElem hlt) h1 (k5 i _ v (List.getElem?_eq_getElem hlt) h2)
  | it ks f sn' p=>
   obtain⟨sn,hs,e⟩:=(hO o).it hq;rw[hs]at hso;obtain⟨b,mb,sa,k1,k2,k3,k4,k5⟩:=hso;exact⟨b,mb,sa,by rw[aex (by rw[hs];trivial),k1],k2,k3,k4.imp id fun⟨m,q1,q2⟩=>⟨m,q1,wRD q2⟩,by rw[<- e];exact k5⟩
  | arr x' t' sz' ver' n' f'=>
   cases hs:S.obj o with
   | none=>
    obtain⟨_,k2⟩:=(hO o).new hq hs;exact .inl ⟨by simp[wβ,hs,AO.isB],k2⟩
   | box cs=>exact((hO o).nobox hq hs).elim
   | it ks f sn p=>exact((hO o).noit hq hs).elim
   | arr x t sz ver n f=>
    obtain⟨rfl,rfl,k3,k4,k5,k6⟩:=(hO o).arr hq hs;rw[hs]at hso;rcases hso with⟨g1,g2⟩|⟨g,cap,cur,g1,g2,g3,g4,g5,g6,g7,g8⟩
    ·exact .inl ⟨by rw[aex (by rw[hs];trivial)];exact g1,by rw[<- k5];exact g2⟩
    ·refine .inr ⟨g,cap,cur,by rw[aex (by rw[hs];trivial),g1,k5],g2,by rw[<- k5];exact g3,g4,g5,fun e=>g6 (k3 e),g7,fun i hi=>?_⟩;rw[<- k5]at hi;obtain⟨m1,m2,m3⟩:=g8 i hi;have hl:=k6 i hi;refine⟨by rw[<- hl.1];exact m1,hl.2.1 m2,fun j av' v hj hv=>?_⟩;have hlt:j<(f fun _=>i).length:=by rw[hl.1];exact(List.getElem?_eq_some_iff.1 hj).1
     exact hl.2.2 _ _ _ j _ av' v (List.getElem?_eq_getElem hlt) hj (wRD (m3 j _ v (List.getElem?_eq_getElem hlt) hv))
 ·obtain⟨a1,a2⟩:=ah0 hb;obtain⟨b1,b2⟩:=ah0 hb';exact h.apart o o' b hne a1 b1 a2 b2
 ·obtain⟨p1,p2⟩:=h.pin o v n0 hp;refine⟨fun cs' hq=>?_,fun x' t' sz' ver' n' f' hq hv=>?_⟩
  ·obtain⟨cs,hs,_⟩:=(hO o).box hq;rw[aex (by rw[hs];trivial)];exact p1 cs hs
  ·cases hs:S.obj o with
   | none=>
    obtain⟨k1,_⟩:=(hO o).new hq hs;rw[E.hpin o _ hp]at k1;cases k1
   | box cs=>exact((hO o).nobox hq hs).elim
   | it ks f sn p=>exact((hO o).noit hq hs).elim
   | arr x t sz ver n f=>
    obtain⟨_,_,_,k4,k5,_⟩:=(hO o).arr hq hs;obtain⟨m1,m2⟩:=p2 _ _ _ _ _ _ hs (k4 (E.hpin o _ hp) hv);rw[aex (by rw[hs];trivial)];exact⟨m1,by rw[<- k5];exact m2⟩
def alr{S S':AS}(c2:(wkOs S.obj S'.obj S'.objs).all)(hl:S.tmps.length=S'.tmps.length)
 (hx:∀{E:Env} {w:World} {β:Nat->Value},(∀o,OR E w β S.obj o (S.obj o))->(∀o o' b,o≠o'->(S.obj o).is->(S.obj o').is->aa9 (β o)=some b->aa9 (β o')=some b->False)->(∀o,WO S.obj S'.obj o) ->
   ∀(t:Nat) (av':AV),S'.tmps[t]? = some av'->∃av,S.tmps[t]? = some av∧∀v,RX w (E.D w β S.obj) E.B β S.obj av v->RX w (E.D w (wβ S.obj β) S'.obj) E.B (wβ S.obj β) S'.obj av' v):Weak S S':=
 fun E a w ⟨β,h⟩=>⟨_,afu c2 hl hx E a w β h⟩
def aej{S S':AS}(hc:acp S S'):∀E a w β,RelB E S.tmps S.obj a w β->RelB E S'.tmps S'.obj a w (wβ S.obj β):=by
 have hcc:(Cs.and (wkL S.obj S'.obj S.tmps S'.tmps) (wkOs S.obj S'.obj S'.objs)).all:=by
  unfold acp at hc;split at hc
  ·exact hc.elim
  ·rename_i cs hq;exact⟨cs,hq,hc⟩
 obtain⟨c1,c2⟩:=Cs.aaR hcc;have hll:S.tmps.length=S'.tmps.length:=wkL_len _ _ c1;refine afu c2 hll fun ho ha hO t av' ht=>?_;obtain⟨g1,g2⟩:=aez ho ha hO _ _ c1;have hlt:t<S.tmps.length:=by rw[g1];exact(List.getElem?_eq_some_iff.1 ht).1
 exact⟨_,List.getElem?_eq_getElem hlt,fun v hv=>g2 t _ av' _ (List.getElem?_eq_getElem hlt) ht hv⟩
def aeA{S S':AS}(hc:acp S S'):Weak S S':=fun E a w ⟨β,h⟩=>⟨_,aej hc E a w β h⟩
def res1(T:List (Nat×TI))(S:AS):ResultVar->Option AV
 | .tmp t=>some (S.tmp t)
 | .cell p t=>match S.tmp p with
  | .ptr o off=>if(aa3 T t).real then match(ahI (aa3 T t) (.ptr o off)).run S with
   | some ⟨e,[],_,_⟩=>some e.dst
   | _=>none
   else none
  | _=>none
def resL(T:List (Nat×TI))(S:AS):List ResultVar->Option (List AV)
 | []=>some []
 | r::l=>match res1 T S r,resL T S l with
  | some v,some vs=>some (v::vs)
  | _,_=>none
def resO:List AV->AV
 | [v]=>v
 | vs=>.tup vs
def amN(objs':List (Nat×AO)):List (Nat×AO)->Bool
 | []=>true
 | (o,ob)::r=>abW o&&(match ob,oL objs' o with
  | .box _,.box _=>true
  | .arr x t sz v _ _,.arr x' t' sz' _ _ _=>x==x'&&t==t'&&sz==sz'&&v==0
  | _,_=>false)&&amN objs' r
def retK(T:List (Nat×TI))(rs:List ResultVar)(res:AV)(objs':List (Nat×AO)):Exit->Env->AS->Prop
 | .normal,_,S|.ret,_,S=>∃l,resL T S rs=some l∧Weak ⟨[resO l],S.objs⟩ ⟨[res],objs'⟩
 | _,_,_=>False
def alV(T:List (Nat×TI))(rs:List ResultVar)(res:AV)(objs':List (Nat×AO))(S:AS):Prop:=
 match resL T S rs with
 | none=>False
 | some l=>acp ⟨[resO l],S.objs⟩ ⟨[res],objs'⟩
def ajB{T:List (Nat×TI)}{rs:List ResultVar}{res:AV}{objs':List (Nat×AO)}{S:AS}(h:alV T rs res objs' S):∃l,resL T S rs=some l∧Weak ⟨[resO l],S.objs⟩ ⟨[res],objs'⟩:=by
 unfold alV at h;split at h
 ·exact h.elim
 ·rename_i l hl;exact⟨l,hl,aeA h⟩
theorem agx:∀{objs objs':List (Nat×AO)} (_:amN objs' objs=true) {o:Nat},(oL objs o).is->abW o=true ∧
 ((∃cs cs',oL objs o=.box cs∧oL objs' o=.box cs')∨∃x t sz n f ver' n' f',oL objs o=.arr x t sz 0 n f∧oL objs' o=.arr x t sz ver' n' f')
 | [],_,_,o,hi=>by simp[oL,AO.is]at hi
 | (o1,ob)::r,objs',h,o,hi=>by
  simp only[amN,Bool.and_eq_true]at h;obtain⟨⟨h1,h2⟩,h3⟩:=h;simp only[oL]at hi ⊢;by_cases e:o1=o
  ·subst e;simp only[if_true]at hi ⊢;refine⟨h1,?_⟩;split at h2
   ·rename_i cs cs' hq;exact .inl ⟨cs,cs',rfl,hq⟩
   ·rename_i x t sz v n f x' t' sz' v' n' f' hq;simp only[Bool.and_eq_true,beq_iff_eq]at h2;obtain⟨⟨⟨rfl,rfl⟩,rfl⟩,rfl⟩:=h2;exact .inr ⟨_,_,_,_,_,_,_,_,rfl,hq⟩
   ·cases h2
  ·simp only[if_neg e]at hi ⊢;exact agx h3 hi
def resG(tmps:Array Value):ResultVar->Sem Value
 | .tmp t=>pure (tmps.getD t undef)
 | .cell a t=>do loadVar t (<- asAddr (tmps.getD a undef))
def resV:List Value->Value
 | [v]=>v
 | vs=>.tuple vs.toArray
section
variable {P:Program}{E:Env}{T:List (Nat×TI)}{S:AS}{a:Act}{w:World}{β:Nat->Value}
def akF(hT:TOk P T)(h:RelB E S.tmps S.obj a w β){r:ResultVar}{av:AV}(hr:res1 T S r=some av):∃v,(resG a.tmps r).run P w=.ok v w∧RX w (E.D w β S.obj) E.B β S.obj av v:=by
 cases r with
 | tmp t=>
  simp only[res1,Option.some.injEq]at hr;subst hr;exact⟨_,by simp[resG],h.at t⟩
 | cell p t=>
  simp only[res1]at hr;split at hr
  ·rename_i o off hp;split at hr
   ·rename_i hreal;split at hr
    ·rename_i e _ _ hrun;simp only[Option.some.injEq]at hr;subst hr;have hx:=h.at p;rw[hp]at hx;obtain⟨u,h1,h2,_⟩:=afO (hT.at t hreal) hreal h hx ⟨_,hrun,fun c hc=>by simp at hc,rfl⟩;obtain⟨b,_,hv⟩:=hx.aa6;refine⟨u,?_,h2⟩;rw[hv]at h1;simp only[resG,hv];simpa[Instr.loadAt,Instr.sureAddr,asAddr]using h1
    ·cases hr
   ·cases hr
  ·cases hr
theorem afB(hT:TOk P T)(h:RelB E S.tmps S.obj a w β):∀{rs:List ResultVar} {l:List AV},resL T S rs=some l->∃vs,(rs.mapM (resG a.tmps)).run P w=.ok vs w∧l.length=vs.length ∧
 ∀(i:Nat) (av:AV) (v:Value),l[i]? = some av->vs[i]? = some v->RX w (E.D w β S.obj) E.B β S.obj av v
 | [],l,hr=>by
  simp only[resL,Option.some.injEq]at hr;subst hr;exact⟨[],by simp,rfl,fun i av v h=>by simp at h⟩
 | r::rs,l,hr=>by
  simp only[resL]at hr;split at hr
  ·rename_i v vs h1 h2;simp only[Option.some.injEq]at hr;subst hr;obtain⟨u,g1,g2⟩:=akF hT h h1;obtain⟨us,k1,k2,k3⟩:=afB hT h h2;refine⟨u::us,?_,by simp[k2],fun i av x ha hb=>?_⟩
   ·simp[List.mapM_cons,Sem.run_bind,g1,k1]
   ·cases i with
    | zero=>simp at ha hb;subst ha;subst hb;exact g2
    | succ i=>exact k3 i av x (by simpa using ha) (by simpa using hb)
  ·cases hr
def aiD(hT:TOk P T)(h:RelB E S.tmps S.obj a w β){fn:Func}{rs:List ResultVar}(hf:fn.results=rs.toArray){l:List AV}(hl:resL T S rs=some l):
 ∃v,(results fn a.tmps).run P w=.ok v w∧RX w (E.D w β S.obj) E.B β S.obj (resO l) v:=by
 obtain⟨vs,h1,h2,h3⟩:=afB hT h hl;have hrun:(results fn a.tmps).run P w=.ok (resV vs) w:=by
  have hm:fn.results.mapM (fun(x:ResultVar)=>(match x with|.tmp t=>(pure (a.tmps.getD t undef):Sem Value)|.cell p t=>do loadVar t (<- asAddr (a.tmps.getD p undef))))=List.toArray <$> rs.mapM (resG a.tmps):=by
   rw[hf,List.mapM_toArray];congr 1
  have hres:results fn a.tmps=(do
   let vs <- fn.results.mapM (fun(x:ResultVar)=>(match x with|.tmp t=>(pure (a.tmps.getD t undef):Sem Value)|.cell p t=>do loadVar t (<- asAddr (a.tmps.getD p undef))))
   pure (if h:vs.size=1 then vs[0]else .tuple vs)):=rfl
  rw[hres,hm];simp only[map_eq_pure_bind,bind_assoc,pure_bind,Sem.run_bind,h1,Result.andThen_ok]
  match vs with
  | []=>simp[resV]
  | [v]=>simp[resV]
  | v::u::r=>simp[resV]
 refine⟨_,hrun,?_⟩;have htup:∀{l:List AV} {vs:List Value},l.length=vs.length->(∀(i:Nat) (av:AV) (v:Value),l[i]? = some av->vs[i]? = some v->RX w (E.D w β S.obj) E.B β S.obj av v)->RX w (E.D w β S.obj) E.B β S.obj (.tup l) (.tuple vs.toArray):=by
  intro l vs g1 g2;exact .tup _ _ (by simpa using g1) (fun i av v a1 a2=>g2 i av v a1 (by simpa using a2))
 match l,vs,h2,h3 with
 | [],[],h2,h3=>exact htup h2 h3
 | [x],[v],h2,h3=>exact h3 0 x v rfl rfl
 | x::y::r,v::u::q,h2,h3=>exact htup h2 h3
def ae6{fn:Func}{R:Ending->World->Prop}{tmps:List AV}{H:Nat->AO}:∀(df:List Deferred) (w:World),(∀d∈df,∃b,d={ target:=.collected b,args:=#[] }∧E.N<=b∧w.heap[b]? = some (.deferred (some [])))->df.Nodup->RelB E tmps H a w β ->
 (∀w',RelB E tmps H a w' β->∃v,(results fn a.tmps).run P w'=.ok v w'∧R (.returned v) w')->LeavesInM (FW none) 0 P fn a.tmps R df .returning w
 | [],w,_,_,hr,h=>h w hr
 | d::ds,w,hd,hn,hr,h=>by
  obtain⟨b,rfl,hb,ho⟩:=hd d (List.mem_cons_self ..);refine⟨by simp,.inl ⟨b,w.putObj b (.deferred none),rfl,?_,?_⟩⟩
  ·exact run_takeDeferred ho
  ·rw[List.nodup_cons]at hn;refine ae6 ds _ (fun d' hd'=>?_) hn.2 (hr.shut hb ho rfl (fun _ _ q=>by cases q) _) h;obtain⟨b',rfl,hb',ho'⟩:=hd d' (List.mem_cons_of_mem _ hd');refine⟨b',rfl,hb',?_⟩;rw[World.putObj_heap_other]
   ·exact ho'
   ·rintro rfl;exact hn.1 hd'
def anM {f : FuncId} {fn : Func} {c : Code} {args : List AV} {objs objs' : List (Nat × AO)} {res : AV} {rs : List ResultVar} (hT : TOk P T) (hf : P.funcs[f]? = some fn) (hname : (fn.name == "runtime.NumGoroutine") = false) (hb : fn.body = some c)
 (hr:fn.results=rs.toArray) (hl:amN objs' objs=true) (h:∀E,AWp none P E c (retK T rs res objs') ⟨args++List.replicate (fn.ntmps-args.length) .any,objs⟩):Af P f args objs res objs':=by
 refine⟨aco hf hname hb,fun E β vs hpin hdf hY h0=>?_⟩
 let pinf:Nat->Option (Value×Nat):=fun o=>match oL objs o with|.none=>none|.it ..=>none|.box _=>some (β o,0)|.arr _ _ _ _ n _=>some (β o,n ())
 have hpp:∀o p,pinf o=some p->abW o=true:=fun o p hp=>by
  refine(agx hl (o:=o) ?_).1;simp only[pinf]at hp;split at hp
  ·cases hp
  ·cases hp
  ·rename_i hq;rw[hq];trivial
  ·rename_i hq;rw[hq];trivial
 let E':Env:=⟨E.w0,E.B,E.D0,E.X,pinf,hpp,E.Y,E.df,E.hB,E.hD,E.hX,E.hY,E.hdf,E.ndf,E.hT,E.hTD⟩
 have hsz:vs.size=args.length:=h0.size;have h1:RelB E' (args++List.replicate (fn.ntmps-args.length) .any) (oL objs) { tmps:=vs++Array.replicate (fn.ntmps-vs.size) undef,defers:=[] } E.w0 β:=by
  refine⟨hdf.symm,by simp[hsz],fun t av ht=>?_,h0.objs,h0.apart,⟨h0.frame.os,h0.frame.tape,h0.frame.output,h0.frame.size,h0.frame.block⟩,fun o v n0 hp=>?_⟩
  ·by_cases hlt:t<args.length
   ·rw[List.getElem?_append_left hlt]at ht;have:=h0.tmps t av ht;have h2:(vs++Array.replicate (fn.ntmps-vs.size) undef).getD t undef=vs.getD t undef:=by
     simp only[Array.getD_eq_getD_getElem?];rw[Array.getElem?_append_left (by rw[hsz];exact hlt)]
    rw[h2];exact this
   ·rw[List.getElem?_append_right (Nat.le_of_not_lt hlt),List.getElem?_replicate]at ht;split at ht
    ·cases ht;exact .d (.any _)
    ·cases ht
  ·simp only[E',pinf]at hp;split at hp
   ·cases hp
   ·cases hp
   ·rename_i cs hq;cases hp;exact⟨fun _ _=>rfl,fun x t sz ver n f hf=>by rw[hq]at hf;cases hf⟩
   ·rename_i x t sz ver n f hq;cases hp;exact⟨fun cs hf=>AO.noConfusion (hq.symm.trans hf),fun x t sz ver n f hf _=>by cases hq.symm.trans hf;exact⟨rfl,rfl⟩⟩
 refine adA.1 (callsIn_of_wp_marks (F:=FW none) (n:=0) hf hb trivial (Go.wpIn_mono (h E' _ _ ⟨β,h1⟩) ?_));rintro e a' w' ⟨E2,S',hE,hk,β1,hR⟩;have hend:∀(_:∃l,resL T S' rs=some l∧Weak ⟨[resO l],S'.objs⟩ ⟨[res],objs'⟩),LeavesInM (FW none) 0 P fn a'.tmps (fun e w'=>∃v β',e=.returned v∧RelB E [res] (oL objs') ⟨#[v],[]⟩ w' β'∧Link (oL objs) β (oL objs') β') a'.defers .returning w':=by
  rintro⟨l,hrl,hw⟩;have hB:=hE.back hY hR;have hmarks:∀d∈a'.defers,∃b,d={ target:=.collected b,args:=#[] }∧E'.N<=b∧w'.heap[b]? = some (.deferred (some [])):=by
   intro d hd;rw[hR.defers]at hd;obtain⟨b,rfl,hx,hy,hh⟩:=E2.hdf d hd;have hbl:b<E2.N:=(Array.getElem?_eq_some_iff.1 hh).1;refine⟨b,rfl,?_,?_⟩
   ·rcases hE.df b hd with q|q
    ·have:E'.df=[]:=hdf;rw[this]at q;cases q
    ·exact q
   ·rw[hR.frame.block b hbl hx];exact hh
  have key:=ae6 (P:=P) (fn:=fn) (E:=E') (a:={ a' with defers:=E'.df }) (R:=fun e w'=>∃v β',e=.returned v∧RelB E [res] (oL objs') ⟨#[v],[]⟩ w' β'∧Link (oL objs) β (oL objs') β') a'.defers w' hmarks (by rw[hR.defers];exact E2.ndf) hB (fun w2 hR2=>?_)
  ·exact key
  ·obtain⟨v,hrun,hrv⟩:=aiD hT (S:=S') hR2 hr hrl;refine⟨v,hrun,v,?_⟩
   obtain⟨β',h2⟩:=hw E' ⟨#[v],E'.df⟩ w2 ⟨β1,⟨rfl,rfl,fun t av ht=>by
    cases t with
    | zero=>simp at ht;subst ht;exact hrv
    | succ t=>simp at ht,hR2.objs,hR2.apart,hR2.frame,hR2.pin⟩⟩
   refine⟨β',rfl,⟨hdf.symm,h2.size,h2.tmps,h2.objs,h2.apart,⟨h2.frame.os,h2.frame.tape,h2.frame.output,h2.frame.size,h2.frame.block⟩,fun o v n0 hp=>by rw[hpin o]at hp;cases hp⟩,fun o hi=>?_⟩;obtain⟨_,hcase⟩:=agx hl hi;rcases hcase with⟨cs,cs',q1,q2⟩|⟨x,t,sz,n,f,ver',n',f',q1,q2⟩
   ·have hp:E'.pin o=some (β o,0):=by simp[E',pinf,q1]
    refine⟨by rw[q2];trivial,fun _ _=>⟨⟨cs',q2⟩,(h2.pin o _ _ hp).1 _ q2⟩,fun x t sz ver n f hf=>by rw[q1]at hf;cases hf⟩
   ·have hp:E'.pin o=some (β o,n ()):=by simp[E',pinf,q1]
    refine⟨by rw[q2];trivial,(fun cs hf=>by rw[q1]at hf;cases hf),fun x t sz ver n2 f hf=>?_⟩;rw[q1]at hf;cases hf;refine⟨ver',n',f',q2,?_⟩;rcases Nat.eq_zero_or_pos ver' with rfl|hpos
    ·have:=(h2.pin o _ _ hp).2 _ _ _ _ _ _ q2 rfl;exact .inl ⟨rfl,this.2,this.1⟩
    ·exact .inr hpos
 cases e with
 | normal=>exact hend hk
 | ret=>exact hend hk
 | exit id=>exact hk.elim
 | goto l=>exact hk.elim
 | panic ch=>exact hk.elim
 | outgrown=>exact hk.elim
end
end Go.Ai
