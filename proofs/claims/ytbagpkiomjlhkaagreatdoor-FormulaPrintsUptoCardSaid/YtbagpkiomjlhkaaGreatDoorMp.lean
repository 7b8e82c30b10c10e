/- Chapter 17: the maps of operators and of calls. -/
import Derived.Test.YtbagpkiomjlhkaaGreatDoorEngC
import Derived.Test.YtbagpkiomjlhkaaGreatDoorLexA
import Derived.Carry
import Derived.MapKept
set_option linter.all false
namespace Go.Ai
open Go Go.Proofs
set_option maxRecDepth 100000
set_option maxHeartbeats 4000000
theorem aac {P:Program} {t kt et:TypeId} (ht:P.underlying t=some (.map kt et)) (hk:P.underlying kt=some .string) (W:World) (es:Array MapEntry) (c:Nat) (b:Nat) (hbW:b=W.heap.size) (k:ByteArray) (v:Value) (hf:Instr.findNow .string (.string k) es.toList 0=some none) :
 (Instr.mapUpdate t (.map (some b)) (.string k) v).run P (W.alloc (.map es c))=.ok () (W.alloc (.map (es.push { key:=.string k,val:=v,born:=c }) (c+1))):=by
 subst hbW
 have hb:(W.alloc (.map es c)).heap[W.heap.size]? = some (.map es c):=by
  show (W.heap.push _)[W.heap.size]? = _
  simp
 have hc:=MapKept.run_checkKey (w:=W.alloc (.map es c)) (d:=.string) (k:=.string k) hk trivial false 9999
 have hfk:(Instr.findKey kt (.string k) es.toList).run P (W.alloc (.map es c))=.ok none (W.alloc (.map es c)):=MapKept.run_findKey hk hf
 have hs:=MapKept.run_setObj_map (P:=P) (.map (es.push { key:=.string k,val:=v,born:=c }) (c+1)) hb
 have he:({ W.alloc (.map es c) with heap:=(W.alloc (.map es c)).heap.setIfInBounds W.heap.size (.map (es.push { key:=.string k,val:=v,born:=c }) (c+1)) }:World)=W.alloc (.map (es.push { key:=.string k,val:=v,born:=c }) (c+1)):=by
  have e:(W.heap.push (.map es c)).setIfInBounds W.heap.size (.map (es.push { key:=.string k,val:=v,born:=c }) (c+1))=W.heap.push (.map (es.push { key:=.string k,val:=v,born:=c }) (c+1)):=by
   apply Array.ext'
   simp
  show World.mk _ _ _ _ _=World.mk _ _ _ _ _
  simp only [World.alloc,e]
 rw [he] at hs
 simp only [Instr.mapUpdate,Sem.run_bind,run_underlying ht,Result.andThen_ok,MapKept.run_getObj_map hb]
 rw [show (10000:Nat)=9999+1 from rfl,hc]
 simp only [Result.andThen_ok,hfk]
 exact hs
theorem aaV {P:Program} (t:TypeId) (w:World):(Instr.makeMap t none).run P w=.ok (.map (some w.heap.size)) (w.alloc (.map #[] 0)):=rfl
def oEnts1:Array MapEntry:=#[{ key:=.string ⟨#[111,114]⟩,val:=.int .i64 5,born:=0 }]
def oEnts2:Array MapEntry:=#[{ key:=.string ⟨#[97,110,100]⟩,val:=.int .i64 4,born:=0 }]
def oEnts4:Array MapEntry:=#[{ key:=.string ⟨#[61]⟩,val:=.int .i64 6,born:=0 },{ key:=.string ⟨#[33,61]⟩,val:=.int .i64 7,born:=1 },{ key:=.string ⟨#[60]⟩,val:=.int .i64 8,born:=2 },{ key:=.string ⟨#[60,61]⟩,val:=.int .i64 9,born:=3 },{ key:=.string ⟨#[62]⟩,val:=.int .i64 10,born:=4 },{ key:=.string ⟨#[62,61]⟩,val:=.int .i64 11,born:=5 }]
def oEnts5:Array MapEntry:=#[{ key:=.string ⟨#[101,108,115,101]⟩,val:=.int .i64 23,born:=0 }]
def oEnts6:Array MapEntry:=#[{ key:=.string ⟨#[43]⟩,val:=.int .i64 12,born:=0 },{ key:=.string ⟨#[45]⟩,val:=.int .i64 13,born:=1 },{ key:=.string ⟨#[38]⟩,val:=.int .i64 17,born:=2 }]
def oEnts7:Array MapEntry:=#[{ key:=.string ⟨#[42]⟩,val:=.int .i64 14,born:=0 }]
def cEnts:Array MapEntry:=#[{ key:=.string ⟨#[108,101,110,103,116,104]⟩,val:=.agg #[.int .i64 18,.int .i64 1],born:=0 },{ key:=.string ⟨#[108,111,119,101,114]⟩,val:=.agg #[.int .i64 19,.int .i64 1],born:=1 },{ key:=.string ⟨#[117,112,112,101,114]⟩,val:=.agg #[.int .i64 20,.int .i64 1],born:=2 },{ key:=.string ⟨#[116,101,120,116]⟩,val:=.agg #[.int .i64 27,.int .i64 1],born:=3 },{ key:=.string ⟨#[110,117,109,98,101,114]⟩,val:=.agg #[.int .i64 28,.int .i64 1],born:=4 },{ key:=.string ⟨#[115,108,105,99,101]⟩,val:=.agg #[.int .i64 21,.int .i64 3],born:=5 },{ key:=.string ⟨#[105,102]⟩,val:=.agg #[.int .i64 24,.int .i64 3],born:=6 },{ key:=.string ⟨#[100,105,118,105,100,101]⟩,val:=.agg #[.int .i64 15,.int .i64 2],born:=7 },{ key:=.string ⟨#[104,97,115]⟩,val:=.agg #[.int .i64 22,.int .i64 0],born:=8 },{ key:=.string ⟨#[115,117,109]⟩,val:=.agg #[.int .i64 26,.int .i64 0],born:=9 }]
theorem asz (w:World) (o:Obj) (n:Nat) (h:w.heap.size=n):n+1=(w.alloc o).heap.size:=by subst h;exact (Array.size_push _).symm
theorem seven (W:World) (o0 o1 o2 o3 o4 o5 o6:Obj):W.heap.size≤(((((((W.alloc o0).alloc o1).alloc o2).alloc o3).alloc o4).alloc o5).alloc o6).heap.size∧(∀ x,x<W.heap.size→(((((((W.alloc o0).alloc o1).alloc o2).alloc o3).alloc o4).alloc o5).alloc o6).heap[x]? = W.heap[x]?) ∧
 (((((((W.alloc o0).alloc o1).alloc o2).alloc o3).alloc o4).alloc o5).alloc o6).heap[W.heap.size]? = some o0∧(((((((W.alloc o0).alloc o1).alloc o2).alloc o3).alloc o4).alloc o5).alloc o6).heap[W.heap.size+1]? = some o1∧(((((((W.alloc o0).alloc o1).alloc o2).alloc o3).alloc o4).alloc o5).alloc o6).heap[W.heap.size+2]? = some o2 ∧
 (((((((W.alloc o0).alloc o1).alloc o2).alloc o3).alloc o4).alloc o5).alloc o6).heap[W.heap.size+3]? = some o3∧(((((((W.alloc o0).alloc o1).alloc o2).alloc o3).alloc o4).alloc o5).alloc o6).heap[W.heap.size+4]? = some o4∧(((((((W.alloc o0).alloc o1).alloc o2).alloc o3).alloc o4).alloc o5).alloc o6).heap[W.heap.size+5]? = some o5 ∧
 (((((((W.alloc o0).alloc o1).alloc o2).alloc o3).alloc o4).alloc o5).alloc o6).heap[W.heap.size+6]? = some o6:=by
 have new:∀ (w:World) (o:Obj) (n:Nat),w.heap.size=n→(w.alloc o).heap.size=n+1∧(w.alloc o).heap[n]? = some o∧∀ x,x<n→(w.alloc o).heap[x]? = w.heap[x]? := fun w o n h=>by
  subst h
  refine ⟨Array.size_push _,?_,fun x hx=>?_⟩
  ·show (w.heap.push o)[w.heap.size]? = _
   simp
  ·show (w.heap.push o)[x]? = _
   rw [Array.getElem?_push,if_neg (by omega)]
 obtain ⟨a0,b0,c0⟩:=new W o0 _ rfl
 generalize W.alloc o0=W0 at *
 obtain ⟨a1,b1,c1⟩:=new W0 o1 _ a0
 generalize W0.alloc o1=W1 at *
 obtain ⟨a2,b2,c2⟩:=new W1 o2 _ a1
 generalize W1.alloc o2=W2 at *
 obtain ⟨a3,b3,c3⟩:=new W2 o3 _ a2
 generalize W2.alloc o3=W3 at *
 obtain ⟨a4,b4,c4⟩:=new W3 o4 _ a3
 generalize W3.alloc o4=W4 at *
 obtain ⟨a5,b5,c5⟩:=new W4 o5 _ a4
 generalize W4.alloc o5=W5 at *
 obtain ⟨a6,b6,c6⟩:=new W5 o6 _ a5
 generalize W5.alloc o6=W6 at *
 refine ⟨by omega,fun x hx=>?_,?_,?_,?_,?_,?_,?_,b6⟩
 ·rw [c6 x (by omega),c5 x (by omega),c4 x (by omega),c3 x (by omega),c2 x (by omega),c1 x (by omega),c0 x hx]
 ·rw [c6 _ (by omega),c5 _ (by omega),c4 _ (by omega),c3 _ (by omega),c2 _ (by omega),c1 _ (by omega),b0]
 ·rw [c6 _ (by omega),c5 _ (by omega),c4 _ (by omega),c3 _ (by omega),c2 _ (by omega),b1]
 ·rw [c6 _ (by omega),c5 _ (by omega),c4 _ (by omega),c3 _ (by omega),b2]
 ·rw [c6 _ (by omega),c5 _ (by omega),c4 _ (by omega),b3]
 ·rw [c6 _ (by omega),c5 _ (by omega),b4]
 ·rw [c6 _ (by omega),b5]
theorem ano (W:World):Calls Tryz.prog 90 #[] W fun e w'=>e=.returned (.map (some W.heap.size))∧w'=W.alloc (.map cEnts 10):=by
 go_enter Tryz.func90,Tryz.ntmps90
 go_wp2
 rw [aaV]
 simp only [Result.andThen_ok,Oper.upon_value]
 go_wp2
 iterate 10
  rw [aac Tryz.underlying105 Tryz.underlying9 _ _ _ _ rfl _ _ rfl]
  simp only [Result.andThen_ok,Oper.upon_skip]
  go_wp2
 go_ret
 exact ⟨rfl,rfl⟩
theorem agt (W:World):Calls Tryz.prog 137 #[] W fun e w'=>e=.returned (.agg #[.map none,.map (some (W.heap.size+1)),.map (some (W.heap.size+2)),.map none,.map (some (W.heap.size+3)),.map (some (W.heap.size+4)),.map (some (W.heap.size+5)),.map (some (W.heap.size+6)),.map none,.map none]) ∧
 ∃ h,w'={ W with heap:=h }∧W.heap.size≤h.size∧(∀ x,x<W.heap.size→h[x]? = W.heap[x]?)∧h[W.heap.size+1]? = some (.map oEnts1 1)∧h[W.heap.size+2]? = some (.map oEnts2 1)∧h[W.heap.size+3]? = some (.map oEnts4 6)∧h[W.heap.size+4]? = some (.map oEnts5 1)∧h[W.heap.size+5]? = some (.map oEnts6 3)∧h[W.heap.size+6]? = some (.map oEnts7 1):=by
 go_enter Tryz.func137,Tryz.ntmps137
 go_wp2
 rw [aaV]
 simp only [Result.andThen_ok,Oper.upon_value]
 go_wp2
 rw [aac Tryz.underlying152 Tryz.underlying9 _ _ _ _ ?hb _ _ ?hf]
 case hb=>exact asz _ _ _ rfl
 case hf=>rfl
 simp only [Result.andThen_ok,Oper.upon_skip]
 go_wp2
 rw [aaV]
 simp only [Result.andThen_ok,Oper.upon_value]
 go_wp2
 rw [aac Tryz.underlying152 Tryz.underlying9 _ _ _ _ ?hb _ _ ?hf]
 case hb=>exact asz _ _ _ (asz _ _ _ rfl).symm
 case hf=>rfl
 simp only [Result.andThen_ok,Oper.upon_skip]
 go_wp2
 rw [aaV]
 simp only [Result.andThen_ok,Oper.upon_value]
 go_wp2
 rw [aac Tryz.underlying152 Tryz.underlying9 _ _ _ _ ?hb _ _ ?hf]
 case hb=>exact asz _ _ _ (asz _ _ _ (asz _ _ _ rfl).symm).symm
 case hf=>rfl
 simp only [Result.andThen_ok,Oper.upon_skip]
 go_wp2
 rw [aac Tryz.underlying152 Tryz.underlying9 _ _ _ _ ?hb _ _ ?hf]
 case hb=>exact asz _ _ _ (asz _ _ _ (asz _ _ _ rfl).symm).symm
 case hf=>rfl
 simp only [Result.andThen_ok,Oper.upon_skip]
 go_wp2
 rw [aac Tryz.underlying152 Tryz.underlying9 _ _ _ _ ?hb _ _ ?hf]
 case hb=>exact asz _ _ _ (asz _ _ _ (asz _ _ _ rfl).symm).symm
 case hf=>rfl
 simp only [Result.andThen_ok,Oper.upon_skip]
 go_wp2
 rw [aac Tryz.underlying152 Tryz.underlying9 _ _ _ _ ?hb _ _ ?hf]
 case hb=>exact asz _ _ _ (asz _ _ _ (asz _ _ _ rfl).symm).symm
 case hf=>rfl
 simp only [Result.andThen_ok,Oper.upon_skip]
 go_wp2
 rw [aac Tryz.underlying152 Tryz.underlying9 _ _ _ _ ?hb _ _ ?hf]
 case hb=>exact asz _ _ _ (asz _ _ _ (asz _ _ _ rfl).symm).symm
 case hf=>rfl
 simp only [Result.andThen_ok,Oper.upon_skip]
 go_wp2
 rw [aac Tryz.underlying152 Tryz.underlying9 _ _ _ _ ?hb _ _ ?hf]
 case hb=>exact asz _ _ _ (asz _ _ _ (asz _ _ _ rfl).symm).symm
 case hf=>rfl
 simp only [Result.andThen_ok,Oper.upon_skip]
 go_wp2
 rw [aaV]
 simp only [Result.andThen_ok,Oper.upon_value]
 go_wp2
 rw [aac Tryz.underlying152 Tryz.underlying9 _ _ _ _ ?hb _ _ ?hf]
 case hb=>exact asz _ _ _ (asz _ _ _ (asz _ _ _ (asz _ _ _ rfl).symm).symm).symm
 case hf=>rfl
 simp only [Result.andThen_ok,Oper.upon_skip]
 go_wp2
 rw [aaV]
 simp only [Result.andThen_ok,Oper.upon_value]
 go_wp2
 rw [aac Tryz.underlying152 Tryz.underlying9 _ _ _ _ ?hb _ _ ?hf]
 case hb=>exact asz _ _ _ (asz _ _ _ (asz _ _ _ (asz _ _ _ (asz _ _ _ rfl).symm).symm).symm).symm
 case hf=>rfl
 simp only [Result.andThen_ok,Oper.upon_skip]
 go_wp2
 rw [aac Tryz.underlying152 Tryz.underlying9 _ _ _ _ ?hb _ _ ?hf]
 case hb=>exact asz _ _ _ (asz _ _ _ (asz _ _ _ (asz _ _ _ (asz _ _ _ rfl).symm).symm).symm).symm
 case hf=>rfl
 simp only [Result.andThen_ok,Oper.upon_skip]
 go_wp2
 rw [aac Tryz.underlying152 Tryz.underlying9 _ _ _ _ ?hb _ _ ?hf]
 case hb=>exact asz _ _ _ (asz _ _ _ (asz _ _ _ (asz _ _ _ (asz _ _ _ rfl).symm).symm).symm).symm
 case hf=>rfl
 simp only [Result.andThen_ok,Oper.upon_skip]
 go_wp2
 rw [aaV]
 simp only [Result.andThen_ok,Oper.upon_value]
 go_wp2
 rw [aac Tryz.underlying152 Tryz.underlying9 _ _ _ _ ?hb _ _ ?hf]
 case hb=>exact asz _ _ _ (asz _ _ _ (asz _ _ _ (asz _ _ _ (asz _ _ _ (asz _ _ _ rfl).symm).symm).symm).symm).symm
 case hf=>rfl
 simp only [Result.andThen_ok,Oper.upon_skip]
 go_wp2
 obtain ⟨f1,f2,f3,f4,f5,f6,f7,f8,f9⟩:=seven W _ _ _ _ _ _ _
 refine ⟨rfl,.agg #[.map none,.map (some (W.heap.size+1)),.map (some (W.heap.size+2)),.map none,.map (some (W.heap.size+3)),.map (some (W.heap.size+4)),.map (some (W.heap.size+5)),.map (some (W.heap.size+6)),.map none,.map none],?_,?_⟩
 rotate_left
 ·exact ⟨rfl,_,rfl,f1,f2,f4,f5,f6,f7,f8,f9⟩
 ·show (results Tryz.f137 _).run Tryz.prog _=_
  have hr:Tryz.f137.results=#[.cell 0 153]:=rfl
  have hl:=run_loadVar_row (P:=Tryz.prog) _ _ 153 153 _ _ _ f3 Tryz.underlying153 rfl (by kernel_rfl)
  generalize (((((((W.alloc _).alloc _).alloc _).alloc _).alloc _).alloc _).alloc _)=W7 at hl ⊢
  simp [results,hr,asAddr,hl]
def oMap (l:List (ByteArray×Int)):AV:=.kmap (fun _=>l.map (·.1)) fun i=>.int .i64 fun _=>(l.getD (i ()) default).2
def cMap (l:List (ByteArray×Int×Int)):AV:=.kmap (fun _=>l.map (·.1)) fun i=>.agg [.int .i64 fun _=>(l.getD (i ()) default).2.1,.int .i64 fun _=>(l.getD (i ()) default).2.2]
def amu (l:List (ByteArray×Int)):Array MapEntry:=((List.range l.length).map fun i=>({ key:=.string (l.getD i default).1,val:=.int .i64 (l.getD i default).2,born:=i }:MapEntry)).toArray
theorem adN {w:World} {D:Nat→Prop} {B b c:Nat} {l:List (ByteArray×Int)} (hD:D b) (h:w.heap[b]? = some (.map (amu l) c)) (hc:c=l.length:=by rfl):RD w D B (oMap l) (.map (some b)):=by
 have key:∀ i x,(amu l)[i]? = some x→i<l.length∧x={ key:=.string (l.getD i default).1,val:=.int .i64 (l.getD i default).2,born:=i }:=by
  intro i x hx
  unfold amu at hx
  rw [List.getElem?_toArray,List.getElem?_map] at hx
  by_cases hi:i<l.length
  ·rw [List.getElem?_range hi] at hx
   exact ⟨hi,(Option.some.inj hx).symm⟩
  ·rw [List.getElem?_eq_none (by rw [List.length_range];omega)] at hx
   cases hx
 refine .kmap _ _ b c _ hD h (by simp [amu]) (fun i k e h1 h2=>?_) ⟨by rw [hc];simp [amu],fun i e h2=>by obtain ⟨hi,rfl⟩:=key _ _ h2;rfl⟩ fun i e h2=>?_
 ·obtain ⟨hi,rfl⟩:=key _ _ h2
  rw [List.getElem?_map,List.getElem?_eq_getElem hi] at h1
  simp only [Option.map_some,Option.some.injEq] at h1
  rw [← h1]
  simp [List.getD,hi]
 ·obtain ⟨hi,rfl⟩:=key _ _ h2
  exact .int _ _
def af9 (l:List (ByteArray×Int×Int)):Array MapEntry:=((List.range l.length).map fun i=>({ key:=.string (l.getD i default).1,val:=.agg #[.int .i64 (l.getD i default).2.1,.int .i64 (l.getD i default).2.2],born:=i }:MapEntry)).toArray
theorem cMap_rd {w:World} {D:Nat→Prop} {B b c:Nat} {l:List (ByteArray×Int×Int)} (hD:D b) (h:w.heap[b]? = some (.map (af9 l) c)) (hc:c=l.length:=by rfl):RD w D B (cMap l) (.map (some b)):=by
 have key:∀ i x,(af9 l)[i]? = some x→i<l.length∧x={ key:=.string (l.getD i default).1,val:=.agg #[.int .i64 (l.getD i default).2.1,.int .i64 (l.getD i default).2.2],born:=i }:=by
  intro i x hx
  unfold af9 at hx
  rw [List.getElem?_toArray,List.getElem?_map] at hx
  by_cases hi:i<l.length
  ·rw [List.getElem?_range hi] at hx
   exact ⟨hi,(Option.some.inj hx).symm⟩
  ·rw [List.getElem?_eq_none (by rw [List.length_range];omega)] at hx
   cases hx
 refine .kmap _ _ b c _ hD h (by simp [af9]) (fun i k e h1 h2=>?_) ⟨by rw [hc];simp [af9],fun i e h2=>by obtain ⟨hi,rfl⟩:=key _ _ h2;rfl⟩ fun i e h2=>?_
 ·obtain ⟨hi,rfl⟩:=key _ _ h2
  rw [List.getElem?_map,List.getElem?_eq_getElem hi] at h1
  simp only [Option.map_some,Option.some.injEq] at h1
  rw [← h1]
  simp [List.getD,hi]
 ·obtain ⟨hi,rfl⟩:=key _ _ h2
  refine .agg _ _ rfl fun j av v h3 h4=>?_
  rcases j with _|_|j
  ·simp at h3 h4;subst h3;subst h4;exact .int .i64 fun _=>(l.getD i default).2.1
  ·simp at h3 h4;subst h3;subst h4;exact .int .i64 fun _=>(l.getD i default).2.2
  ·simp at h3
theorem akc:Af Tryz.prog 90 [] [] (cMap aa2) []:=by
 refine ⟨aco Tryz.func90 rfl rfl,fun E β vs hpin hdf hY h0=>?_⟩
 obtain rfl:vs=#[]:=Array.eq_empty_of_size_eq_zero h0.size
 refine (ano E.w0).mono fun e w' ⟨he,hw⟩=>⟨.map (some E.w0.heap.size),β,he,?_,fun o hi=>hi.elim⟩
 subst hw
 have hg:=Grow.alloc E.w0 (.map cEnts 10)
 have hh:(E.w0.alloc (.map cEnts 10)).heap[E.w0.heap.size]? = some (.map (af9 aa2) 10):=by
  show (E.w0.heap.push _)[E.w0.heap.size]? = _
  rw [show af9 aa2=cEnts from rfl]
  simp
 refine ⟨hdf.symm,rfl,fun t av ht=>?_,fun o=>trivial,fun o o' b _ hi=>hi.elim,⟨rfl,rfl,rfl,hg.size,fun b hb _=>hg.old b hb⟩,fun o u n0 hp=>by rw [hpin o] at hp;cases hp⟩
 cases t with
 | zero =>
  simp at ht;subst ht
  exact .d (cMap_rd ⟨.inr (.inr (Nat.le_refl _)),by show _<(E.w0.heap.push _).size;simp,fun o hi=>hi.elim⟩ hh)
 | succ t=>simp at ht
def opsA:List AV:=[.nilm,oMap (opsL 1),oMap (opsL 2),.nilm,oMap (opsL 4),oMap (opsL 5),oMap (opsL 6),oMap (opsL 7),.nilm,.nilm]
theorem aa7:Af Tryz.prog 137 [] [] (.agg opsA) []:=by
 refine ⟨aco Tryz.func137 rfl rfl,fun E β vs hpin hdf hY h0=>?_⟩
 obtain rfl:vs=#[]:=Array.eq_empty_of_size_eq_zero h0.size
 refine (agt E.w0).mono fun e w' ⟨he,h,hw,hs,hold,h1,h2,h4,h5,h6,h7⟩=>⟨_,β,he,?_,fun o hi=>hi.elim⟩
 subst hw
 refine ⟨hdf.symm,rfl,fun t av ht=>?_,fun o=>trivial,fun o o' b _ hi=>hi.elim,⟨rfl,rfl,rfl,hs,fun b hb _=>hold b hb⟩,fun o u n0 hp=>by rw [hpin o] at hp;cases hp⟩
 have hD:∀ k es c,h[E.w0.heap.size+k]? = some (.map es c)→E.D { E.w0 with heap:=h } β (oL []) (E.w0.heap.size+k):=fun k es c hk =>
  ⟨.inr (.inr (show E.w0.heap.size≤_ by omega)),(Array.getElem?_eq_some_iff.1 hk).1,fun o hi=>hi.elim⟩
 cases t with
 | zero =>
  simp at ht;subst ht
  refine .d (.agg _ _ rfl fun i av v g1 g2=>?_)
  rcases i with _|_|_|_|_|_|_|_|_|_|i
  ·simp [opsA] at g1 g2;subst g1;subst g2;exact .nilm
  ·simp [opsA] at g1 g2;subst g1;subst g2;exact adN (hD 1 _ _ h1) h1
  ·simp [opsA] at g1 g2;subst g1;subst g2;exact adN (hD 2 _ _ h2) h2
  ·simp [opsA] at g1 g2;subst g1;subst g2;exact .nilm
  ·simp [opsA] at g1 g2;subst g1;subst g2;exact adN (hD 3 _ _ h4) h4
  ·simp [opsA] at g1 g2;subst g1;subst g2;exact adN (hD 4 _ _ h5) h5
  ·simp [opsA] at g1 g2;subst g1;subst g2;exact adN (hD 5 _ _ h6) h6
  ·simp [opsA] at g1 g2;subst g1;subst g2;exact adN (hD 6 _ _ h7) h7
  ·simp [opsA] at g1 g2;subst g1;subst g2;exact .nilm
  ·simp [opsA] at g1 g2;subst g1;subst g2;exact .nilm
  ·simp [opsA] at g1
 | succ t=>simp at ht
end Go.Ai
