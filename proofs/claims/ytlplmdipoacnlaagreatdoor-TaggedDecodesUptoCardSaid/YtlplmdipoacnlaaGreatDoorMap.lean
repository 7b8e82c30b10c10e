/- Maps of functions that a function lays out. -/
import Derived.Test.YtlplmdipoacnlaaGreatDoorEngC
import Derived.Test.YtlplmdipoacnlaaGreatDoorFnA
import Derived.Carry
import Derived.MapKept
set_option linter.all false
namespace Go.Ai
open Go Go.Proofs
set_option maxRecDepth 100000
set_option maxHeartbeats 1000000
theorem insert_new {P:Program} {t kt et:TypeId} (ht:P.underlying t=some (.map kt et)) (hk:P.underlying kt=some (.int .i64)) (W:World) (es:Array MapEntry) (c:Nat) (k:Int) (v:Value) (hf:Instr.findNow (.int .i64) (.int .i64 k) es.toList 0=some none) :
    (Instr.mapUpdate t (.map (some W.heap.size)) (.int .i64 k) v).run P (W.alloc (.map es c))=.ok () (W.alloc (.map (es.push { key:=.int .i64 k,val:=v,born:=c }) (c+1))):=by
  have hb:(W.alloc (.map es c)).heap[W.heap.size]? = some (.map es c):=by
    show (W.heap.push _)[W.heap.size]? = _
    simp
  have hc:=MapKept.run_checkKey (w:=W.alloc (.map es c)) (k:=.int .i64 k) hk rfl false 9999
  have hfk:(Instr.findKey kt (.int .i64 k) es.toList).run P (W.alloc (.map es c))=.ok none (W.alloc (.map es c)):=by
    simp only [Instr.findKey,Sem.run_bind,run_underlying hk,Result.andThen_ok,hf]
    rfl
  have hs:=MapKept.run_setObj_map (P:=P) (.map (es.push { key:=.int .i64 k,val:=v,born:=c }) (c+1)) hb
  have he:({ W.alloc (.map es c) with heap:=(W.alloc (.map es c)).heap.setIfInBounds W.heap.size (.map (es.push { key:=.int .i64 k,val:=v,born:=c }) (c+1)) }:World)=W.alloc (.map (es.push { key:=.int .i64 k,val:=v,born:=c }) (c+1)):=by
    have e:(W.heap.push (.map es c)).setIfInBounds W.heap.size (.map (es.push { key:=.int .i64 k,val:=v,born:=c }) (c+1))=W.heap.push (.map (es.push { key:=.int .i64 k,val:=v,born:=c }) (c+1)):=by
      apply Array.ext'
      simp
    show World.mk _ _ _ _ _=World.mk _ _ _ _ _
    simp only [World.alloc,e]
  rw [he] at hs
  simp only [Instr.mapUpdate,Sem.run_bind,run_underlying ht,Result.andThen_ok,MapKept.run_getObj_map hb]
  rw [show (10000:Nat)=9999+1 from rfl,hc]
  simp only [Result.andThen_ok,hfk]
  exact hs
theorem makeMap_new {P:Program} (t:TypeId) (w:World):(Instr.makeMap t none).run P w=.ok (.map (some w.heap.size)) (w.alloc (.map #[] 0)):=rfl
def wEnts:Array MapEntry:=#[{ key:=.int .i64 1,val:=.func (.func 92) #[] #[],born:=0 },{ key:=.int .i64 2,val:=.func (.func 90) #[] #[],born:=1 },{ key:=.int .i64 3,val:=.func (.func 90) #[] #[],born:=2 },{ key:=.int .i64 6,val:=.func (.func 90) #[] #[],born:=3 },{ key:=.int .i64 7,val:=.func (.func 90) #[] #[],born:=4 },
  { key:=.int .i64 4,val:=.func (.func 91) #[] #[],born:=5 },{ key:=.int .i64 5,val:=.func (.func 91) #[] #[],born:=6 },{ key:=.int .i64 8,val:=.func (.func 93) #[] #[],born:=7 },{ key:=.int .i64 9,val:=.func (.func 94) #[] #[],born:=8 },{ key:=.int .i64 10,val:=.func (.func 95) #[] #[],born:=9 }]
theorem writers_raw (W:World):Calls Tryz.prog 67 #[] W fun e w'=>e=.returned (.map (some W.heap.size))∧w'=W.alloc (.map wEnts 10):=by
  go_enter Tryz.func67,Tryz.ntmps67
  go_wp2
  rw [makeMap_new]
  simp only [Result.andThen_ok,Oper.upon_value]
  go_wp2
  iterate 10
    rw [insert_new Tryz.underlying102 Tryz.underlying3 _ _ _ _ _ rfl]
    simp only [Result.andThen_ok,Oper.upon_skip]
    go_wp2
  go_ret
  exact ⟨rfl,rfl⟩
theorem Af.ofMap {P:Program} {f:FuncId} {es:List (Nat×AV)} {ents:Array MapEntry} {clock:Nat} {fn:Func} {c:Code} (hf:P.funcs[f]? = some fn) (h:∀ W,Calls P f #[] W fun e w'=>e=.returned (.map (some W.heap.size))∧w'=W.alloc (.map ents clock))
    (hl:es.length=ents.size) (hk:∀ (i k:Nat) (av:AV) (e:MapEntry),es[i]? = some (k,av)→ents[i]? = some e→e.key=.int .i64 k) (hv:∀ (i k:Nat) (av:AV) (e:MapEntry),es[i]? = some (k,av)→ents[i]? = some e→∀ w D B,RD w D B av e.val)
    (hname : (fn.name == "runtime.NumGoroutine") = false := by rfl) (hb : fn.body = some c := by rfl) : Af P f [] [] (.fmap es) [] := by
  refine ⟨ent_of hf hname hb,fun E β vs hpin hdf hY h0=>?_⟩
  have hvs:vs=#[]:=by
    have:=h0.size
    simp only [List.length_nil] at this
    exact Array.eq_empty_of_size_eq_zero this
  subst hvs
  refine (h E.w0).mono fun e w' ⟨he,hw⟩=>⟨.map (some E.w0.heap.size),β,he,?_,fun o hi=>hi.elim⟩
  subst hw
  have hg:=Grow.alloc E.w0 (.map ents clock)
  have hh:(E.w0.alloc (.map ents clock)).heap[E.w0.heap.size]? = some (.map ents clock):=by
    show (E.w0.heap.push _)[E.w0.heap.size]? = _
    simp
  refine ⟨hdf.symm,rfl,fun t av ht=>?_,fun o=>trivial,fun o o' b _ hi=>hi.elim,⟨rfl,rfl,rfl,hg.size,fun b hb _=>hg.old b hb⟩,fun o u n0 hp=>by rw [hpin o] at hp;cases hp⟩
  cases t with
  | zero =>
    simp at ht;subst ht
    exact .d (.fmap es E.w0.heap.size clock ents ⟨.inr (.inr (Nat.le_refl _)),by show _<(E.w0.heap.push _).size;simp,fun o hi=>hi.elim⟩ hh hl hk fun i k av e h1 h2=>hv i k av e h1 h2 _ _ _)
  | succ t=>simp at ht
def wMap:List (Nat×AV):=[(1,.func 92 []),(2,.func 90 []),(3,.func 90 []),(6,.func 90 []),(7,.func 90 []),(4,.func 91 []),(5,.func 91 []),(8,.func 93 []),(9,.func 94 []),(10,.func 95 [])]
theorem rd_func0 {w:World} {D:Nat→Prop} {B:Nat} (f:FuncId):RD w D B (.func f []) (.func (.func f) #[] #[]):=.func f [] #[] rfl (fun i av v h=>by simp at h)
theorem writers_ok:Af Tryz.prog 67 [] [] (.fmap wMap) []:=by
  refine Af.ofMap Tryz.func67 writers_raw rfl (fun i k av e h1 h2=>?_) (fun i k av e h1 h2 w D B=>?_)
  all_goals
    have hi:i<10:=by have:=(List.getElem?_eq_some_iff.1 h1).1;simpa [wMap] using this
    have:i=0∨i=1∨i=2∨i=3∨i=4∨i=5∨i=6∨i=7∨i=8∨i=9:=by omega
    rcases this with rfl|rfl|rfl|rfl|rfl|rfl|rfl|rfl|rfl|rfl<;>(simp [wMap,wEnts] at h1 h2;obtain ⟨rfl,rfl⟩:=h1;subst h2)
  all_goals first|rfl|exact rd_func0 _
end Go.Ai
