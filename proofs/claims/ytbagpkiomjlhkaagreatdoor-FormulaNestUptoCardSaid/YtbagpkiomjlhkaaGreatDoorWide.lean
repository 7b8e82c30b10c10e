/- Contracts of the library's functions on plain values, where variables of the whole program are read. -/
import Derived.Test.YtbagpkiomjlhkaaGreatDoorFnD
import Derived.Test.YtbagpkiomjlhkaaGreatDoorShB
import Derived.Lib.SmallJoins
import Derived.Lib.AppendIntMem
import Derived.Lib.LaidTab
set_option linter.all false
namespace Go.Ai
open Go Go.Proofs Go.RowKit
set_option maxRecDepth 100000
theorem Af.pureW {P:Program} {f:FuncId} {args:List AV} {vals:Array Value} {res:AV} {fn:Func} {c:Code} (hf:P.funcs[f]? = some fn) (ha:args.map scal=vals.toList.map some)
    (h : ∀ w, Tabs w → Calls P f vals w fun e w' => ∃ v, e = .returned v ∧ (∀ (w2 : World) (D : Nat → Prop) (B : Nat), RD w2 D B res v) ∧ Below w.heap.size w w') (hname : (fn.name == "runtime.NumGoroutine") = false := by rfl) (hb : fn.body = some c := by rfl) : Af P f args [] res [] := by
  refine ⟨ent_of hf hname hb,fun E β vs hpin hdf hY h0=>?_⟩
  have hlen:args.length=vals.size:=by simpa using congrArg List.length ha
  have hvs:vs=vals:=by
    refine Array.ext ?_ fun i h1 h2=>?_
    · have:=h0.size;simp only at this;omega
    · have hi:i<args.length:=by omega
      have h3:=h0.tmps i args[i] (List.getElem?_eq_getElem hi)
      have h4:=congrArg (fun l=>l[i]?) ha
      simp only [List.getElem?_map,List.getElem?_eq_getElem hi,Option.map_some] at h4
      have h5:vals.toList[i]? = some vals[i]:=by simp [h2]
      rw [h5] at h4
      simp only [Option.map_some,Option.some.injEq] at h4
      have:=scal_inv h4 h3
      simpa [Array.getD,h1] using this
  subst hvs
  refine (h E.w0 E.hT).mono fun e w' ⟨v,he,hr,hw⟩=>⟨v,β,he,?_,fun o hi=>hi.elim⟩
  obtain ⟨b1,b2,b3,b4,b5⟩:=hw
  refine ⟨hdf.symm,rfl,fun t av ht=>?_,fun o=>trivial,fun o o' b _ hi=>hi.elim,⟨b1,b2,b3,b4,fun b hb _=>b5 b hb⟩,fun o u n0 hp=>by rw [hpin o] at hp;cases hp⟩
  cases t with
  | zero=>simp at ht;subst ht;exact .d (hr _ _ _)
  | succ t=>simp at ht
def cutL (s sep:ByteArray):ByteArray×ByteArray×Bool:=(⟨(Lib.cut s.data.toList sep.data.toList).1.toArray⟩,⟨(Lib.cut s.data.toList sep.data.toList).2.1.toArray⟩,(Lib.cut s.data.toList sep.data.toList).2.2)
theorem Cut_ok (s sep:ByteArray) (hs:s.size≤1073741824):Af Tryz.prog 144 [.str fun _=>s,.str fun _=>sep] [] (.tup [.str fun _=>(cutL s sep).1,.str fun _=>(cutL s sep).2.1,.bool fun _=>(cutL s sep).2.2]) []:=by
  refine Af.pureW (vals:=#[.string s,.string sep]) Tryz.func144 rfl fun w hT=>?_
  obtain ⟨m,hm⟩:=hT.m
  refine (Any.strings_Cut Tryz.lays145 s sep m w (by omega) hm).mono fun e w' ⟨he,n,hw⟩=>⟨_,he,fun w2 D B=>?_,?_⟩
  · refine .tup _ _ rfl fun i av v h1 h2=>?_
    rcases i with _|_|_|i
    · simp at h1 h2;subst h1;subst h2;exact .str fun _=>(cutL s sep).1
    · simp at h1 h2;subst h1;subst h2;exact .str fun _=>(cutL s sep).2.1
    · simp at h1 h2;subst h1;subst h2;exact .bool fun _=>(cutL s sep).2.2
    · simp at h1
  · rw [hw];exact Joins.below_draws _ _ _
def itoaB (n:Int):ByteArray:=⟨(Lib.itoa n).toArray⟩
theorem Itoa_ok (n:Int) (h0 : -9223372036854775808≤n) (h1:n≤9223372036854775807):Af Tryz.prog 89 [.int .i64 fun _=>n] [] (.str fun _=>itoaB n) []:=by
  refine Af.pureW (vals:=#[.int .i64 n]) Tryz.func89 rfl fun w hT=>?_
  have htab : Lib.TabIs Tryz.prog w "internal/strconv.uint64pow10" .u64 Lib.pow10Tab := by
    obtain ⟨ty,fr,hf⟩:=hT.pw
    have hg : Tryz.prog.globalNamed "internal/strconv.uint64pow10" = some tabW := by kernel_rfl
    unfold Lib.TabIs World.var?
    rw [hg]
    show (match w.heap[tabW]? with|some (.cells cs _ _)=>some cs|_=>none)=_
    rw [hf]
    unfold Lib.pow10Tab
    rw [List.map_map]
    rfl
  refine (Any.strconv_Itoa Tryz.laysM171 n h0 h1 w htab).mono fun e w' ⟨he,k,os,hw⟩=>⟨_,he,fun w2 D B=>.str fun _=>itoaB n,?_⟩
  rw [hw];exact Lib.below_grow _ _ (Nat.le_refl _) _ _
def atoiV (s:ByteArray):Int×Bool:=match Lib.atoiAll s.data.toList with
  | .ok v=>(v,true)
  | .range=>(Lib.atoiSat s.data.toList,false)
  | _=>(0,false)
theorem Atoi_ok (s:ByteArray) (hs:s.size≤1073741824):Af Tryz.prog 145 [.str fun _=>s] [] (.tup [.int .i64 fun _=>(atoiV s).1,.ifc fun _=>(atoiV s).2]) []:=by
  refine Af.pureW (vals:=#[.string s]) Tryz.func145 rfl fun w hT=>?_
  have key:∀ (n:Int) (v:Value) (b:Bool),(atoiV s).1=n→(atoiV s).2=b→((b=true∧v=.nilIface)∨(b=false∧∃ t p,v=.iface t p))→∀ (w2:World) (D:Nat→Prop) (B:Nat),RD w2 D B (.tup [.int .i64 fun _=>(atoiV s).1,.ifc fun _=>(atoiV s).2]) (.tuple #[.int .i64 n,v]):=by
    intro n v b hn hb hv w2 D B
    refine .tup _ _ rfl fun i av u h1 h2=>?_
    rcases i with _|_|i
    · simp at h1 h2;subst h1;subst h2;rw [← hn];exact .int .i64 fun _=>(atoiV s).1
    · simp at h1 h2;subst h1;subst h2;exact .ifc _ _ (by rw [hb];exact hv)
    · simp at h1
  cases q:Lib.atoiAll s.data.toList with
  | ok n =>
    refine (Any.strconv_Atoi_ok Tryz.laysC172 s (by omega) n q w).mono fun e w' ⟨he,hw⟩=>⟨_,he,key n _ true (by unfold atoiV;rw [q]) (by unfold atoiV;rw [q]) (.inl ⟨rfl,rfl⟩),?_⟩
    rcases hw with rfl|⟨t,rfl⟩
    · exact Below.refl _ _
    · exact Joins.below_bytesWorld _ _ _ _ (Nat.le_refl _)
  | range =>
    obtain ⟨v,h6,g6⟩:=hT.e6
    refine (Any.strconv_Atoi_range Tryz.laysC172 s (by omega) q v w h6 g6).mono fun e w' ⟨N,he,_,_,hw⟩=>⟨_,he,key _ _ false (by unfold atoiV;rw [q]) (by unfold atoiV;rw [q]) (.inr ⟨rfl,_,_,rfl⟩),hw⟩
  | _ =>
    obtain ⟨v,h5,g5⟩:=hT.e5
    refine (Any.strconv_Atoi_syntax Tryz.laysC172 s (by omega) q v w h5 g5).mono fun e w' ⟨N,he,_,_,hw⟩=>⟨_,he,key 0 _ false (by unfold atoiV;rw [q]) (by unfold atoiV;rw [q]) (.inr ⟨rfl,_,_,rfl⟩),hw⟩
end Go.Ai
