/- The library's contracts at this dump, in plain words, as the kit's tool writes them. -/
import Derived.Shelf.Unicode.ValidAny
import Derived.Ground.Names2Prog
import Derived.Test.YtfphnecphebijaaDoorProg
import Derived.Test.YtfphnecphebijaaDoorNFnD
namespace Go.Proofs
open Go.Shelf
def Tryd.lays196_ren : Go.Shelf.Ren := ⟨fun | 196 => 78 | 259 => 97 | n => n, fun | 9 => 9 | 4 => 4 | 3 => 3 | 5 => 5 | 12 => 12 | 119 => 97 | 0 => 0 | 46 => 92 | 139 => 100 | 138 => 99 | 53 => 112 | n => n, fun | 3 => 0 | 4 => 1 | n => n⟩
theorem Tryd.lays196 : Go.Proofs.Lays.n196 Tryd.prog Tryd.lays196_ren := {
  mixed := by kernel_rfl
  f196 := Tryd.func78.trans (congrArg some (by kernel_rfl))
  f259 := Tryd.func97.trans (congrArg some (by kernel_rfl))
  t0 := Tryd.underlying0
  a0 := Tryd.isAgg0
  z0 := Tryd.sizeOf0
  v0 := Tryd.zeroValue0
  t3 := Tryd.underlying3
  a3 := Tryd.isAgg3
  z3 := Tryd.sizeOf3
  v3 := Tryd.zeroValue3
  t4 := Tryd.underlying4
  a4 := Tryd.isAgg4
  z4 := Tryd.sizeOf4
  v4 := Tryd.zeroValue4
  t5 := Tryd.underlying5
  a5 := Tryd.isAgg5
  z5 := Tryd.sizeOf5
  v5 := Tryd.zeroValue5
  t9 := Tryd.underlying9
  a9 := Tryd.isAgg9
  z9 := Tryd.sizeOf9
  v9 := Tryd.zeroValue9
  t12 := Tryd.underlying12
  a12 := Tryd.isAgg12
  z12 := Tryd.sizeOf12
  v12 := Tryd.zeroValue12
  t46 := Tryd.underlying92
  a46 := Tryd.isAgg92
  z46 := Tryd.sizeOf92
  v46 := Tryd.zeroValue92
  t53 := Tryd.underlying112
  a53 := Tryd.isAgg112
  z53 := Tryd.sizeOf112
  v53 := Tryd.zeroValue112
  t119 := Tryd.underlying97
  a119 := Tryd.isAgg97
  z119 := Tryd.sizeOf97
  t138 := Tryd.underlying99
  a138 := Tryd.isAgg99
  z138 := Tryd.sizeOf99
  v138 := Tryd.zeroValue99
  t139 := Tryd.underlying100
  a139 := Tryd.isAgg100
  z139 := Tryd.sizeOf100
  v139 := Tryd.zeroValue100
  g3 := by kernel_rfl
  g4 := by kernel_rfl }
end Go.Proofs
namespace Go.Proofs
open Go.RowKit
theorem Tryd.utf8_ValidString (s : ByteArray) (w : World) (hs : s.size ≤ 9223372036854775807) (hT : Lib.Utf8Tabs (Tryd.lays196_ren.g 3) (Tryd.lays196_ren.g 4) w) :
    Calls Tryd.prog 78 #[.string s] w fun e w' => e = .returned (.bool (Lib.validD s.data.toList)) ∧ Below w.heap.size w w' :=
  Any.utf8_ValidString Tryd.lays196 s w hs hT
end Go.Proofs

namespace Go.Ai
open Go Go.Proofs Go.RowKit

theorem AFun.pureT {P : Program} {f : FuncId} {args : List AV} {vals : Array Value} {res : AV} {v : Value} {fn : Func} {c : Code} (hf : P.funcs[f]? = some fn) (ha : args.map scal = vals.toList.map some) (hr : scal res = some v)
    (h : ∀ w, Lib.Utf8Tabs 0 1 w → Calls P f vals w fun e w' => e = .returned v ∧ Below w.heap.size w w') (hname : (fn.name == "runtime.NumGoroutine") = false := by rfl) (hb : fn.body = some c := by rfl) : AFun P f args [] res [] := by
  refine ⟨ent_of hf hname hb, fun E β vs hpin hdf hY h0 => ?_⟩
  have hlen : args.length = vals.size := by simpa using congrArg List.length ha
  have hvs : vs = vals := by
    refine Array.ext ?_ fun i h1 h2 => ?_
    · have := h0.size; simp only at this; omega
    · have hi : i < args.length := by omega
      have h3 := h0.tmps i args[i] (List.getElem?_eq_getElem hi)
      have h4 := congrArg (fun l => l[i]?) ha
      simp only [List.getElem?_map, List.getElem?_eq_getElem hi, Option.map_some] at h4
      have h5 : vals.toList[i]? = some vals[i] := by simp [h2]
      rw [h5] at h4
      simp only [Option.map_some, Option.some.injEq] at h4
      have := scal_inv h4 h3
      simpa [Array.getD, h1] using this
  subst hvs
  refine (h E.w0 E.hT).mono fun e w' ⟨he, hw⟩ => ⟨v, β, he, ?_, fun o hi => hi.elim⟩
  obtain ⟨b1, b2, b3, b4, b5⟩ := hw
  refine ⟨hdf.symm, rfl, fun t av ht => ?_, fun o => trivial, fun o o' b _ hi => hi.elim, ⟨b1, b2, b3, b4, fun b hb _ => b5 b hb⟩, fun o u n0 hp => by rw [hpin o] at hp; cases hp⟩
  cases t with
  | zero => simp at ht; subst ht; exact .d (scal_rd hr)
  | succ t => simp at ht

theorem valid_ok (s : ByteArray) (hs : s.size ≤ 9223372036854775807) : AFun Tryd.prog 78 [.str fun _ => s] [] (.bool fun _ => Lib.validD s.data.toList) [] :=
  AFun.pureT (vals := #[.string s]) Tryd.func78 rfl rfl fun w hT => Tryd.utf8_ValidString s w hs hT
end Go.Ai
