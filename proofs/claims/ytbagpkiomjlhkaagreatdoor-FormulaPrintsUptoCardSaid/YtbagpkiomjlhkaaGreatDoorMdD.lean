/- utf8.ValidString: a contract of the abstract machine's. -/
import Derived.Test.YtbagpkiomjlhkaaGreatDoorFnD
import Derived.Test.YtbagpkiomjlhkaaGreatDoorTabs
import Derived.Test.YtbagpkiomjlhkaaGreatDoorMdC
import Derived.Test.YtbagpkiomjlhkaaGreatDoorKnA
import Derived.Test.YtbagpkiomjlhkaaGreatDoorLit
set_option linter.all false
namespace Go.Ai
open Go Go.Proofs Go.RowKit
theorem Af.pureT {P:Program} {f:FuncId} {args:List AV} {vals:Array Value} {res:AV} {v:Value} {fn:Func} {c:Code} (hf:P.funcs[f]? = some fn) (ha:args.map scal=vals.toList.map some) (hr:scal res=some v)
 (h : ∀ w, Lib.Utf8Tabs tabA tabB w → Calls P f vals w fun e w' => e = .returned v ∧ Below w.heap.size w w') (hname : (fn.name == "runtime.NumGoroutine") = false := by rfl) (hb : fn.body = some c := by rfl) : Af P f args [] res [] := by
 refine ⟨aco hf hname hb,fun E β vs hpin hdf hY h0=>?_⟩
 have hlen:args.length=vals.size:=by simpa using congrArg List.length ha
 have hvs:vs=vals:=by
  refine Array.ext ?_ fun i h1 h2=>?_
  ·have:=h0.size;simp only at this;omega
  ·have hi:i<args.length:=by omega
   have h3:=h0.tmps i args[i] (List.getElem?_eq_getElem hi)
   have h4:=congrArg (fun l=>l[i]?) ha
   simp only [List.getElem?_map,List.getElem?_eq_getElem hi,Option.map_some] at h4
   have h5:vals.toList[i]? = some vals[i]:=by simp [h2]
   rw [h5] at h4
   simp only [Option.map_some,Option.some.injEq] at h4
   have:=agf h4 h3
   simpa [Array.getD,h1] using this
 subst hvs
 refine (h E.w0 E.hT.u).mono fun e w' ⟨he,hw⟩=>⟨v,β,he,?_,fun o hi=>hi.elim⟩
 obtain ⟨b1,b2,b3,b4,b5⟩:=hw
 refine ⟨hdf.symm,rfl,fun t av ht=>?_,fun o=>trivial,fun o o' b _ hi=>hi.elim,⟨b1,b2,b3,b4,fun b hb _=>b5 b hb⟩,fun o u n0 hp=>by rw [hpin o] at hp;cases hp⟩
 cases t with
 | zero=>simp at ht;subst ht;exact .d (alQ hr)
 | succ t=>simp at ht
theorem valid_ok (s:ByteArray) (hs:s.size≤9223372036854775807):Af Tryz.prog 207 [.str fun _=>s] [] (.bool fun _=>Lib.validD s.data.toList) [] :=
 Af.pureT (vals:=#[.string s]) Tryz.func207 rfl rfl fun w hT=>Tryz.utf8_ValidString s w hs hT
end Go.Ai

namespace Go.Ai
open Go Go.Proofs
set_option maxRecDepth 100000
set_option maxHeartbeats 4000000
structure OneF (ckv:V→Int) (pv:ByteArray→List Prt×Int) (x:X):Prop where
 op:1≤x.op∧x.op≤28
 text:abJ x.op=false→x.text.size=0
 int:aec x.op=false→x.int=0
 high:afs x.op=0→x.args.length=0
 low:lowX x.op≤x.args.length
 val:x.op=1→aea ckv x.value=0
 path:x.op≠1→abJ x.op=true→(pv x.text).2=0
 scal:x.op≠1→aec x.op=true→0≤x.int∧x.int≤12
theorem amn {ckv:V→Int} {pv:ByteArray→List Prt×Int} {x:X} (h:oneX ckv pv x=0):OneF ckv pv x:=by
 unfold oneX at h
 by_cases c1:x.op<1∨28<x.op
 ·rw [if_pos c1] at h;exact absurd h (by decide)
 rw [if_neg c1] at h
 by_cases c2:(x.op≠1∧0<x.value.length)∨(abJ x.op=false∧x.text.size≠0)∨(aec x.op=false∧x.int≠0)
 ·rw [if_pos c2] at h;exact absurd h (by decide)
 rw [if_neg c2] at h
 by_cases c3:afs x.op=0∧0<x.args.length
 ·rw [if_pos c3] at h;exact absurd h (by decide)
 rw [if_neg c3] at h
 by_cases c4:(x.args.length:Int)<lowX x.op
 ·rw [if_pos c4] at h;exact absurd h (by decide)
 rw [if_neg c4] at h
 by_cases c5:afs x.op<x.args.length∧x.op≠25
 ·rw [if_pos c5] at h;exact absurd h (by decide)
 rw [if_neg c5] at h
 have t1:abJ x.op=false→x.text.size=0:=fun q=>Decidable.byContradiction fun k=>c2 (.inr (.inl ⟨q,k⟩))
 have t2:aec x.op=false→x.int=0:=fun q=>Decidable.byContradiction fun k=>c2 (.inr (.inr ⟨q,k⟩))
 by_cases c6:x.op=1
 ·rw [if_pos c6] at h
  exact ⟨by omega,t1,t2,by omega,by omega,fun _=>h,fun q=>absurd c6 q,fun q=>absurd c6 q⟩
 rw [if_neg c6] at h
 by_cases c7:abJ x.op=true∧(pv x.text).2≠0
 ·rw [if_pos c7] at h;exact absurd h c7.2
 rw [if_neg c7] at h
 by_cases c8:abJ x.op=true∧(pv x.text).1.any allP≠(x.op == 26)
 ·rw [if_pos c8] at h;exact absurd h (by decide)
 rw [if_neg c8] at h
 by_cases c9:aec x.op=true∧(x.int<0∨12<x.int)
 ·rw [if_pos c9] at h;exact absurd h (by decide)
 exact ⟨by omega,t1,t2,by omega,by omega,fun q=>absurd q c6,fun _ q=>Decidable.byContradiction fun k=>c7 ⟨q,k⟩,fun _ q=>by
  have:¬(x.int<0∨12<x.int):=fun k=>c9 ⟨q,k⟩
  omega⟩
theorem sgn_low {op:Int} (h:0<sgnN op):lowX op=2:=by
 unfold sgnN at h
 repeat' split at h
 all_goals first|(subst op;rfl)|(rename_i q;rw [q];rfl)|omega
theorem low_pos {op:Int} (h1:¬op=1) (h2:¬op=2) (h3:¬op=22) (h4:¬op=26):1≤lowX op:=by
 unfold lowX
 rw [if_neg (by omega)]
 split
 ·omega
 split<;>omega
theorem af6 {ckv:V→Int} {l:List V} (h:aea ckv l=0):l.length=1∧ckv (l.getD 0 default)=0∧abA (l.getD 0 default).kind=true:=by
 unfold aea at h
 by_cases c1:l.length=0
 ·rw [if_pos c1] at h;exact absurd h (by decide)
 rw [if_neg c1] at h
 by_cases c2:l.length=1
 ·rw [if_pos c2] at h
  by_cases c3:ckv (l.getD 0 default)≠0
  ·rw [if_pos c3] at h;exact absurd h c3
  rw [if_neg c3] at h
  by_cases c4:abA (l.getD 0 default).kind=true
  ·exact ⟨c2,Decidable.byContradiction c3,c4⟩
  ·rw [if_neg c4] at h;exact absurd h (by decide)
 ·rw [if_neg c2] at h;exact absurd h (by decide)
theorem one_shp {ckv:V→Int} {pv:ByteArray→List Prt×Int} {x:X} (f:OneF ckv pv x):shpX x∧modX x:=by
 have hl:=f.low
 have hi:0≤x.int∧x.int≤12:=by
  cases hs:aec x.op with
  | true=>exact f.scal (fun q=>by rw [q] at hs;exact absurd hs (by decide)) hs
  | false=>have:=f.int hs;omega
 refine ⟨⟨fun q=>?_,fun o3 o16 o25 hb=>?_,hi.1,by omega,fun q=>?_⟩,f.op,hi,fun q=>f.high ?_,fun _ h1 h2 h3 h4=>?_⟩
 ·have:1≤lowX x.op:=by rcases q with q|q|q<;>rw [q]<;>decide
  omega
 ·have hp:0<sgnN x.op:=by
   rcases ac8 x.op with q|⟨_,q⟩
   ·exact q.1
   ·rw [if_neg o3,if_neg o25,if_neg o16] at q;omega
  rw [sgn_low hp] at hl;omega
 ·have:=(af6 (f.val q)).1;omega
 ·rcases q with q|q<;>rw [q]<;>decide
 ·have:=low_pos h1 h2 h3 h4;omega
def cntX:Nat→X→Int
 | 0,_=>0
 | k+1,x=>1+(x.args.map (cntX k)).sum
theorem ah2 {f:X→Int→Int×Int} {c:X→Int}:∀ {l:List X} {n:Int},(∀ y ∈ l,∀ m,(f y m).1=0→(f y m).2=m+c y)→(visL f l n).1=0→(visL f l n).2=n+(l.map c).sum∧∀ y ∈ l,∃ m,(f y m).1=0
 | [],n,_,_=>⟨by simp [visL],fun y hy=>by cases hy⟩
 | y :: r,n,hc,h=>by
  unfold visL at h ⊢
  by_cases q:(f y n).1≠0
  ·rw [if_pos q] at h;exact absurd h q
  rw [if_neg q] at h ⊢
  have q:=Decidable.byContradiction q
  have h1:=hc y List.mem_cons_self n q
  obtain ⟨h2,h3⟩:=ah2 (fun z hz=>hc z (List.mem_cons_of_mem _ hz)) h
  refine ⟨by rw [h2,h1,List.map_cons,List.sum_cons];omega,fun z hz=>?_⟩
  rcases List.mem_cons.1 hz with rfl|hz
  ·exact ⟨n,q⟩
  ·exact h3 z hz
theorem ajq (one:X→Int) (e:Nat):∀ (k D:Nat) (x:X) (lvl n:Int),lvl+k=10→X.le (e+1) D x→(visX one k x lvl n).1=0→(visX one k x lvl n).2=n+cntX k x∧(1≤k→X.all (fun x=>one x=0) k x∧X.le (e+1) k x)
 | 0,_,x,lvl,n,_,_,_=>⟨by simp [visX,cntX],fun h=>absurd h (by decide)⟩
 | k + 1,D,x,lvl,n,hl,hx,h=>by
  unfold visX at h ⊢
  by_cases c1:n=256
  ·rw [if_pos c1] at h;exact absurd h (by dsimp only;decide)
  rw [if_neg c1] at h ⊢
  by_cases c2:8<lvl
  ·rw [if_pos c2] at h;exact absurd h (by dsimp only;decide)
  rw [if_neg c2] at h ⊢
  by_cases c3:one x≠0
  ·rw [if_pos c3] at h;exact absurd h c3
  rw [if_neg c3] at h ⊢
  obtain ⟨D,rfl⟩:=X.lP hx
  obtain ⟨h1,h2,h3,h4,h5⟩:=hx
  have ih:∀ y ∈ x.args,∀ m,(visX one k y (lvl+1) m).1=0→_:=fun y hy m q=>ajq one e k D y (lvl+1) m (by omega) (h5 y hy) q
  obtain ⟨g1,g2⟩:=ah2 (f:=fun y m=>visX one k y (lvl+1) m) (c:=cntX k) (fun y hy m q=>(ih y hy m q).1) h
  refine ⟨by rw [g1];unfold cntX;omega,fun _=>⟨⟨Decidable.byContradiction c3,fun y hy=>?_⟩,h1,h2,h3,h4,fun y hy=>?_⟩⟩
  ·obtain ⟨m,q⟩:=g2 y hy
   exact ((ih y hy m q).2 (by omega)).1
  ·obtain ⟨m,q⟩:=g2 y hy
   exact ((ih y hy m q).2 (by omega)).2
theorem ck_zero {one:X→Int} {e D:Nat} {x:X} (hx:X.le (e+1) D x) (h:ckX one x=0):cntX 9 x≤256∧X.all (fun x=>one x=0) 9 x∧X.le (e+1) 9 x:=by
 obtain ⟨h1,h2⟩:=ajq one e 9 D x 1 0 (by omega) hx h
 have h3:=agb one 9 x 1 0 (by omega) (by omega)
 exact ⟨by omega,h2 (by decide)⟩
theorem wX_le {lit:V→ByteArray} (hl:∀ v,(lit v).size≤65536) {e:Nat}:∀ {k:Nat} {x:X},X.le e k x→X.all (fun x=>x.text.size≤200) k x→(wX lit k x:Int)+6≤65842 * cntX k x
 | 0,_,h,_=>h.elim
 | k + 1,x,hx,h=>by
  have h1:=h.1
  have h2:=hl (x.value.getD 0 default)
  have h3:∀ (l:List X),(∀ y ∈ l,X.le e k y∧X.all (fun x=>x.text.size≤200) k y)→((l.map fun y=>wX lit k y+6).sum:Int)≤65842 * (l.map (cntX k)).sum:=by
   intro l
   induction l with
   | nil=>intro _;simp
   | cons y r ih =>
    intro q
    have a:=wX_le hl (q y List.mem_cons_self).1 (q y List.mem_cons_self).2
    have b:=ih fun z hz=>q z (List.mem_cons_of_mem _ hz)
    simp only [List.map_cons,List.sum_cons]
    omega
  have h4:=h3 x.args fun y hy=>⟨hx.2.2.2.2 y hy,h.2 y hy⟩
  show ((100+x.text.size+(lit (x.value.getD 0 default)).size+(x.args.map fun y=>wX lit k y+6).sum:Nat):Int)+6≤65842 * (1+(x.args.map (cntX k)).sum)
  omega
theorem anf (n:Int×Int):(decT n).1.size≤200:=by
 unfold decT
 split
 ·exact Nat.zero_le _
 rename_i q
 have q:=Decidable.byContradiction q
 unfold numE at q
 split at q
 ·rename_i h
  have h1:absI n.1≤999999999999999∧0≤absI n.1:=by unfold absI;split<;>omega
  have h2:=abu (absI n.1) (by omega) (by omega)
  have h3:(padB n).size≤60:=by
   unfold padB
   rw [ByteArray.size_append,aeF]
   show _ * 1+_≤_
   omega
  have h4:(decS n).size≤130:=by
   unfold decS
   split
   ·rw [ByteArray.size_append,ByteArray.size_append,ByteArray.size_extract,ByteArray.size_extract]
    show _+1+_≤_
    omega
   ·omega
  dsimp only
  split
  ·rw [ByteArray.size_append]
   show 1+_≤_
   omega
  ·omega
 ·exact absurd q (by decide)
def vsB (s:ByteArray):Bool:=Lib.validD s.data.toList
def ckV (e:Nat) (v:V):Int:=ag1 vsB (preV (e+1) 1 v)
theorem ckV_ok (e:Nat) (he:e+1≤1073741824) (v:V) (hv:V.le (e+1) v):Af Tryz.prog 99 [encV (e+1) .any fun _=>v] [] (.int .i64 fun _=>ckV e v) [] :=
 agY vsB e v hv he fun p hp _=>valid_ok _ (by
  have:=aiH (e+1) 1 v hv p hp
  unfold V.le at this
  omega)
theorem own_zero {vs:ByteArray→Bool} {v:V} (h:ownE vs v=0) (hk:v.kind≤7):(1≤v.kind)∧(-9223372036854775808<v.int∧v.int≤9223372036854775807)∧v.text.size≤1024:=by
 unfold ownE at h
 by_cases c1:isNull v=true
 ·rw [if_pos c1] at h;exact absurd h (by decide)
 rw [if_neg c1] at h
 by_cases c2:v.kind<1∨10<v.kind
 ·rw [if_pos c2] at h;exact absurd h (by decide)
 rw [if_neg c2] at h
 by_cases c3:aip v=false
 ·rw [if_pos c3] at h;exact absurd h (by decide)
 rw [if_neg c3] at h
 simp only [Bool.not_eq_false,aip,Bool.and_eq_true,Bool.or_eq_true,beq_iff_eq] at c3
 obtain ⟨⟨⟨⟨u1,u2⟩,u3⟩,u4⟩,u5⟩:=c3
 have hb:∀ n lo hi:Int,between n lo hi=0→lo≤n∧n≤hi:=fun n lo hi q=>by
  unfold between at q
  split at q
  ·exact absurd q (by decide)
  ·omega
 have hs:∀ n m:Int,abT n m 5=0→n≤m:=fun n m q=>by
  unfold abT at q
  split at q
  ·exact absurd q (by decide)
  ·omega
 refine ⟨by omega,?_⟩
 rcases (by omega:v.kind=1∨v.kind=2∨v.kind=3∨v.kind=4∨v.kind=5∨v.kind=6∨v.kind=7) with k|k|k|k|k|k|k
 ·rw [ruleE1 k] at h;have:=hb _ _ _ h;omega
 ·rw [ruleE2 k] at h;have:=hb _ _ _ h;omega
 ·rw [ruleE3 k] at h
  split at h
  ·rename_i q;exact absurd h q
  ·rename_i q;have:=hb _ _ _ (Decidable.byContradiction q);omega
 ·unfold abe at h
  rw [if_neg (by omega),if_neg (by omega),if_neg (by omega),if_pos k] at h
  split at h
  ·exact absurd h (by decide)
  ·have:=hs _ _ h;omega
 ·unfold abe at h
  rw [if_neg (by omega),if_neg (by omega),if_neg (by omega),if_neg (by omega),if_pos k] at h
  have:=hs _ _ h;omega
 ·unfold abe at h
  rw [if_neg (by omega),if_neg (by omega),if_neg (by omega),if_neg (by omega),if_neg (by omega),if_pos k] at h
  have:=hb _ _ _ h;omega
 ·unfold abe at h
  rw [if_neg (by omega),if_neg (by omega),if_neg (by omega),if_neg (by omega),if_neg (by omega),if_neg (by omega),if_pos k] at h
  have:=hb _ _ _ h;omega
theorem val_lit (e:Nat) (he:e+1≤1073741824) (v:V) (hv:V.le (e+1) v) (hk:abA v.kind=true) (hc:ckV e v=0):∃ t:ByteArray,t.size≤65536∧∃ er,Af Tryz.prog 48 [encV (e+1) .any fun _=>v] [] (.tup [.str fun _=>t,.int .i64 fun _=>er]) []:=by
 have h0:ownE vsB v=0:=by
  unfold ckV ag1 at hc
  have:=ahP (k:=0) (by show 0<(preV (e+1) 1 v).length;rw [preV,List.length_cons];omega) hc
  exact this
 have hk:=of_decide_eq_true hk
 obtain ⟨g1,g2,g3⟩:=own_zero h0 hk.2
 obtain ⟨t,h2⟩:=amL e v ⟨by omega,hk.2⟩ g2 (by omega) fun _=>by have:=anf (v.int,v.scale);omega
 refine ⟨if t.size≤65536 then t else ⟨#[]⟩,?_,_,afP e v _ t (ckV_ok e he v hv) hc h2⟩
 split
 ·assumption
 ·exact Nat.zero_le _
theorem lit_all (e:Nat) (he:e+1≤1073741824):∃ lit:V→ByteArray,(∀ v,(lit v).size≤65536)∧∀ v,V.le (e+1) v→abA v.kind=true→ckV e v=0→∃ er,Af Tryz.prog 48 [encV (e+1) .any fun _=>v] [] (.tup [.str fun _=>lit v,.int .i64 fun _=>er]) []:=by
 have h:∀ v:V,∃ t:ByteArray,t.size≤65536∧(V.le (e+1) v→abA v.kind=true→ckV e v=0→∃ er,Af Tryz.prog 48 [encV (e+1) .any fun _=>v] [] (.tup [.str fun _=>t,.int .i64 fun _=>er]) []):=fun v=>by
  by_cases c:V.le (e+1) v∧abA v.kind=true∧ckV e v=0
  ·obtain ⟨t,h1,h2⟩:=val_lit e he v c.1 c.2.1 c.2.2
   exact ⟨t,h1,fun _ _ _=>h2⟩
  ·exact ⟨⟨#[]⟩,Nat.zero_le _,fun h1 h2 h3=>absurd ⟨h1,h2,h3⟩ c⟩
 exact ⟨fun v=>Classical.choose (h v),fun v=>(Classical.choose_spec (h v)).1,fun v=>(Classical.choose_spec (h v)).2⟩
theorem anc (s:ByteArray) (j:Nat):(⟨#[46]⟩++s:ByteArray).extract 1 (1+j)=s.extract 0 j:=by
 apply ByteArray.ext
 apply Array.ext'
 rw [ByteArray.data_extract,ByteArray.data_extract,ByteArray.data_append,Array.toList_extract,Array.toList_extract,Array.toList_append]
 simp [List.extract]
theorem ext_all (s:ByteArray):s.extract 0 s.size=s:=by
 apply ByteArray.ext
 rw [ByteArray.data_extract]
 exact Array.extract_size
theorem ahq:∀ (n:Nat) (l:List Prt) (r:ByteArray) (L:List Prt),acR n l r=some L→∃ m,L=l++m
 | 0,l,r,L,h=>by rw [acR] at h;cases h;exact ⟨[],by simp⟩
 | n + 1,l,r,L,h=>by
  rw [acR] at h
  split at h
  ·cases h;exact ⟨[],by simp⟩
  split at h
  ·cases h
  ·obtain ⟨m,rfl⟩:=ahq n _ _ L h
   exact ⟨_,List.append_assoc ..⟩
theorem akN {s:ByteArray} (h:(abo s).2=0):0<(abo s).1.length∧((abo s).1.getD 0 (0,0,⟨#[]⟩)).2.2=aeY s:=by
 unfold abo at h ⊢
 by_cases c1:s=⟨#[]⟩
 ·rw [if_pos c1] at h;exact absurd h (by dsimp only;decide)
 rw [if_neg c1] at h ⊢
 by_cases c2:200<s.size
 ·rw [if_pos c2] at h;exact absurd h (by dsimp only;decide)
 rw [if_neg c2] at h ⊢
 cases hp:acR 202 [] (⟨#[46]⟩++s) with
 | none=>rw [hp] at h;exact absurd h (by dsimp only;decide)
 | some l =>
  rw [hp] at h
  dsimp only at h ⊢
  by_cases c3:16<l.length
  ·rw [if_pos c3] at h;exact absurd h (by dsimp only;decide)
  rw [if_neg c3]
  dsimp only
  rw [acR] at hp
  have hd:(⟨#[46]⟩++s:ByteArray).size=s.size+1:=by rw [ByteArray.size_append];show 1+s.size=_;omega
  have h0:byt (⟨#[46]⟩++s) 0=46:=by
   unfold byt
   rw [ByteArray.data_append,Array.getElem?_append_left (by decide)]
   rfl
  have h1:aaK (⟨#[46]⟩++s) allT=false:=by
   rw [Bool.eq_false_iff]
   intro q
   unfold aaK at q
   have q1:=List.isPrefixOf_iff_prefix.1 q
   obtain ⟨t,ht⟩:=q1
   rw [ByteArray.data_append,Array.toList_append] at ht
   simp [allT] at ht
  have hne:¬(⟨#[46]⟩++s:ByteArray)=⟨#[]⟩:=fun q=>by rw [q] at hd;exact absurd hd (by show ¬ 0=_;omega)
  rw [if_neg hne] at hp
  have ht:acP (⟨#[46]⟩++s)=((1,0,(⟨#[46]⟩++s:ByteArray).extract 1 (endP (⟨#[46]⟩++s) 1).toNat),(⟨#[46]⟩++s:ByteArray).extract (endP (⟨#[46]⟩++s) 1).toNat (⟨#[46]⟩++s:ByteArray).size,true):=by
   unfold acP
   rw [if_neg (by rw [h1];exact Bool.false_ne_true),if_pos h0]
  rw [ht] at hp
  dsimp only at hp
  split at hp
  ·cases hp
  obtain ⟨m,rfl⟩:=ahq _ _ _ _ hp
  refine ⟨by simp,?_⟩
  show (⟨#[46]⟩++s:ByteArray).extract 1 (endP (⟨#[46]⟩++s) 1).toNat=_
  have e1:(⟨#[46]⟩++s:ByteArray).extract 1 (⟨#[46]⟩++s:ByteArray).size=s:=by
   rw [hd,show s.size+1=1+s.size by omega,anc,ext_all]
  unfold endP aeY
  rw [e1]
  by_cases c4:idxA s<0
  ·rw [if_pos c4,if_neg (by omega)]
   exact e1
  ·rw [if_neg c4,if_pos (by omega)]
   rw [show (((1:Nat):Int)+idxA s).toNat=1+(idxA s).toNat by omega,anc]
theorem an5 {ckv:V→Int} {e:Nat}:∀ {k:Nat} {x:X},X.le e k x→X.all (fun x=>OneF ckv abo x) k x→hidV k x=rsvX k x
 | 0,_,h,_=>h.elim
 | k + 1,x,hx,h=>by
  unfold hidV rsvX
  have f:=h.1
  by_cases c:abJ x.op=true
  ·rw [if_pos c]
   have o1:x.op≠1:=fun q=>by rw [q] at c;exact absurd c (by decide)
   have hh:afs x.op=0:=by
    simp only [abJ,Bool.or_eq_true,beq_iff_eq] at c
    rcases c with (c|c)|c<;>rw [c]<;>decide
   have ha:x.args=[]:=List.length_eq_zero_iff.1 (f.high hh)
   obtain ⟨g1,g2⟩:=akN (f.path o1 c)
   rw [ha,g2,decide_eq_true g1]
   simp
  ·rw [if_neg c]
   have ht:x.text=⟨#[]⟩:=ByteArray.ext (Array.eq_empty_of_size_eq_zero (f.text (by simpa using c)))
   rw [ht]
   have e0:resB (aeY ⟨#[]⟩)=false:=by rfl
   rw [e0,Bool.false_or]
   have hy:∀ y ∈ x.args,hidV k y=rsvX k y:=fun y hy=>an5 (hx.2.2.2.2 y hy) (h.2 y hy)
   have:∀ l:List X,(∀ y ∈ l,hidV k y=rsvX k y)→l.any (hidV k)=l.any (rsvX k):=by
    intro l
    induction l with
    | nil=>intro _;rfl
    | cons y r ih =>
     intro q
     rw [List.any_cons,List.any_cons,q y List.mem_cons_self,ih fun z hz=>q z (List.mem_cons_of_mem _ hz)]
   exact this _ hy
end Go.Ai
