/- The library's contracts at this dump, in plain words, as the kit's tool writes them. -/
import Derived.Shelf.Unicode.ValidAny
import Derived.Ground.Names2Prog
import Derived.Test.YtalghhdapjmbbaaGreatDoorProg
import Derived.Test.YtalghhdapjmbbaaGreatDoorFnD
set_option linter.all false
namespace Go.Proofs
open Go.Shelf
def Tryz.lays196_ren:Go.Shelf.Ren:=⟨fun|196=>170|259=>199|n=>n,fun|9=>9|4=>4|3=>3|5=>5|12=>12|119=>203|0=>0|46=>88|139=>206|138=>205|53=>136|n=>n,fun|3=>1|4=>2|n=>n⟩
theorem Tryz.lays196:Go.Proofs.Lays.n196 Tryz.prog Tryz.lays196_ren:={
  mixed:=by kernel_rfl
  f196:=Tryz.func170.trans (congrArg some (by kernel_rfl))
  f259:=Tryz.func199.trans (congrArg some (by kernel_rfl))
  t0:=Tryz.underlying0
  a0:=Tryz.isAgg0
  z0:=Tryz.sizeOf0
  v0:=Tryz.zeroValue0
  t3:=Tryz.underlying3
  a3:=Tryz.isAgg3
  z3:=Tryz.sizeOf3
  v3:=Tryz.zeroValue3
  t4:=Tryz.underlying4
  a4:=Tryz.isAgg4
  z4:=Tryz.sizeOf4
  v4:=Tryz.zeroValue4
  t5:=Tryz.underlying5
  a5:=Tryz.isAgg5
  z5:=Tryz.sizeOf5
  v5:=Tryz.zeroValue5
  t9:=Tryz.underlying9
  a9:=Tryz.isAgg9
  z9:=Tryz.sizeOf9
  v9:=Tryz.zeroValue9
  t12:=Tryz.underlying12
  a12:=Tryz.isAgg12
  z12:=Tryz.sizeOf12
  v12:=Tryz.zeroValue12
  t46:=Tryz.underlying88
  a46:=Tryz.isAgg88
  z46:=Tryz.sizeOf88
  v46:=Tryz.zeroValue88
  t53:=Tryz.underlying136
  a53:=Tryz.isAgg136
  z53:=Tryz.sizeOf136
  v53:=Tryz.zeroValue136
  t119:=Tryz.underlying203
  a119:=Tryz.isAgg203
  z119:=Tryz.sizeOf203
  t138:=Tryz.underlying205
  a138:=Tryz.isAgg205
  z138:=Tryz.sizeOf205
  v138:=Tryz.zeroValue205
  t139:=Tryz.underlying206
  a139:=Tryz.isAgg206
  z139:=Tryz.sizeOf206
  v139:=Tryz.zeroValue206
  g3:=by kernel_rfl
  g4:=by kernel_rfl }
end Go.Proofs
namespace Go.Proofs
open Go.RowKit
theorem Tryz.utf8_ValidString (s:ByteArray) (w:World) (hs:s.size≤9223372036854775807) (hT:Lib.Utf8Tabs (Tryz.lays196_ren.g 3) (Tryz.lays196_ren.g 4) w) :
    Calls Tryz.prog 170 #[.string s] w fun e w'=>e=.returned (.bool (Lib.validD s.data.toList))∧Below w.heap.size w w' :=
  Any.utf8_ValidString Tryz.lays196 s w hs hT
end Go.Proofs

namespace Go.Ai
open Go Go.Proofs Go.RowKit
theorem Af.pureT {P:Program} {f:FuncId} {args:List AV} {vals:Array Value} {res:AV} {v:Value} {fn:Func} {c:Code} (hf:P.funcs[f]? = some fn) (ha:args.map scal=vals.toList.map some) (hr:scal res=some v)
    (h : ∀ w, Lib.Utf8Tabs tabA tabB w → Calls P f vals w fun e w' => e = .returned v ∧ Below w.heap.size w w') (hname : (fn.name == "runtime.NumGoroutine") = false := by rfl) (hb : fn.body = some c := by rfl) : Af P f args [] res [] := by
  refine ⟨ent_of hf hname hb,fun E β vs hpin hdf hY h0=>?_⟩
  have hlen:args.length=vals.size:=by simpa using congrArg List.length ha
  have hvs:vs=vals:=by
    refine Array.ext ?_ fun i h1 h2=>?_
    · have:=h0.size;simp only at this;omega
    · have hi:i<args.length:=by omega
      have h3:=h0.tmps i args[i] (List.getElem?_eq_getElem hi)
      have h4:=congrArg (fun l=>l[i]?) ha
      simp only [List.getElem?_map,List.getElem?_eq_getElem hi,Option.map_some] at h4
      have h5:vals.toList[i]? = some vals[i]:=by simp [h2]
      rw [h5] at h4
      simp only [Option.map_some,Option.some.injEq] at h4
      have:=scal_inv h4 h3
      simpa [Array.getD,h1] using this
  subst hvs
  refine (h E.w0 E.hT).mono fun e w' ⟨he,hw⟩=>⟨v,β,he,?_,fun o hi=>hi.elim⟩
  obtain ⟨b1,b2,b3,b4,b5⟩:=hw
  refine ⟨hdf.symm,rfl,fun t av ht=>?_,fun o=>trivial,fun o o' b _ hi=>hi.elim,⟨b1,b2,b3,b4,fun b hb _=>b5 b hb⟩,fun o u n0 hp=>by rw [hpin o] at hp;cases hp⟩
  cases t with
  | zero=>simp at ht;subst ht;exact .d (scal_rd hr)
  | succ t=>simp at ht
theorem valid_ok (s:ByteArray) (hs:s.size≤9223372036854775807):Af Tryz.prog 170 [.str fun _=>s] [] (.bool fun _=>Lib.validD s.data.toList) [] :=
  Af.pureT (vals:=#[.string s]) Tryz.func170 rfl rfl fun w hT=>Tryz.utf8_ValidString s w hs hT
end Go.Ai
