/- The library's contracts at this dump, in plain words, as the kit's tool writes them. -/
import Derived.Shelf.Unicode.ValidAny
import Derived.Ground.NamesProg
import Derived.Test.YtbagpkiomjlhkaaGreatDoorProg
import Derived.Lib.LaidU8T
import Derived.LaidLaws
import Derived.Shelf.Vars
import Derived.Lib.LaidTab
import Derived.Lib.TrailingZeros
import Derived.Test.YtbagpkiomjlhkaaGreatDoorEngA
import Derived.Test.YtbagpkiomjlhkaaGreatDoorRows
set_option linter.all false
namespace Go.Proofs
open Go.Shelf
def Tryz.ad2:Go.Shelf.Ren:=⟨fun|196=>207|259=>246|n=>n,fun|9=>9|4=>4|3=>3|5=>5|12=>12|119=>233|0=>0|46=>181|139=>236|138=>235|53=>220|n=>n,fun|3=>2|4=>3|n=>n⟩
theorem Tryz.amP:Go.Proofs.Lays.n196 Tryz.prog Tryz.ad2:={
 mixed:=by kernel_rfl
 f196:=Tryz.func207.trans (congrArg some (by kernel_rfl))
 f259:=Tryz.func246.trans (congrArg some (by kernel_rfl))
 t0:=Tryz.underlying0
 a0:=Tryz.isAgg0
 z0:=Tryz.sizeOf0
 v0:=Tryz.zeroValue0
 t3:=Tryz.underlying3
 a3:=Tryz.isAgg3
 z3:=Tryz.sizeOf3
 v3:=Tryz.zeroValue3
 t4:=Tryz.underlying4
 a4:=Tryz.isAgg4
 z4:=Tryz.sizeOf4
 v4:=Tryz.zeroValue4
 t5:=Tryz.underlying5
 a5:=Tryz.isAgg5
 z5:=Tryz.sizeOf5
 v5:=Tryz.zeroValue5
 t9:=Tryz.underlying9
 a9:=Tryz.isAgg9
 z9:=Tryz.sizeOf9
 v9:=Tryz.zeroValue9
 t12:=Tryz.underlying12
 a12:=Tryz.isAgg12
 z12:=Tryz.sizeOf12
 v12:=Tryz.zeroValue12
 t46:=Tryz.underlying181
 a46:=Tryz.isAgg181
 z46:=Tryz.sizeOf181
 v46:=Tryz.zeroValue181
 t53:=Tryz.underlying220
 a53:=Tryz.isAgg220
 z53:=Tryz.sizeOf220
 v53:=Tryz.zeroValue220
 t119:=Tryz.underlying233
 a119:=Tryz.isAgg233
 z119:=Tryz.sizeOf233
 t138:=Tryz.underlying235
 a138:=Tryz.isAgg235
 z138:=Tryz.sizeOf235
 v138:=Tryz.zeroValue235
 t139:=Tryz.underlying236
 a139:=Tryz.isAgg236
 z139:=Tryz.sizeOf236
 v139:=Tryz.zeroValue236
 g3:=by kernel_rfl
 g4:=by kernel_rfl }
end Go.Proofs
namespace Go.Proofs
open Go.RowKit
theorem Tryz.utf8_ValidString (s:ByteArray) (w:World) (hs:s.size≤9223372036854775807) (hT:Lib.Utf8Tabs (Tryz.ad2.g 3) (Tryz.ad2.g 4) w) :
 Calls Tryz.prog 207 #[.string s] w fun e w'=>e=.returned (.bool (Lib.validD s.data.toList))∧Below w.heap.size w w' :=
 Any.utf8_ValidString Tryz.amP s w hs hT
end Go.Proofs

namespace Go.Ai
open Go Go.Proofs Go.Shelf Go.Proofs.YtbagpkiomjlhkaaGreatDoor
set_option maxRecDepth 100000
theorem ah3 {W:World} {n:String} {g:Nat} {cs:Array Value} (hg:Tryz.prog.globalNamed n=some g) (hv:W.var? Tryz.prog n=some cs):∃ ty fr,W.heap[g]? = some (.cells cs ty fr):=by
 simp only [World.var?,hg,Option.bind_some] at hv
 split at hv
 ·rename_i cs' ty fr h
  obtain rfl:=Option.some.inj hv
  exact ⟨_,_,h⟩
 ·cases hv
theorem afU {W:World} {n:String} {g:Nat} {s:String} {d:DataW Unit} (hg:Tryz.prog.globalNamed n=some g) (hty:(Tryz.prog.globals[g]?).map (·.type)=some 160) (h:Lib.VarReads Tryz.prog W n (.iface s d)):∃ v,W.cell? ⟨g,0,none⟩=some v∧(v=.nilIface∨∃ te pe,v=.iface te pe):=by
 obtain ⟨g',t,cs,fuel,p,hg',hty',hvar,hd⟩:=h
 obtain rfl:=Option.some.inj (hg.symm.trans hg')
 obtain rfl:=Option.some.inj (hty.symm.trans hty')
 obtain ⟨_,u,v,hcs,_⟩:=iface_of_trod Tryz.underlying160 hd
 refine ⟨.iface u v,?_,.inr ⟨u,v,rfl⟩⟩
 rw [World.var?_cell hg hvar 0,← Array.getElem?_toList,hcs];rfl
theorem tabs_of {W:World} (hL:laidMetH Tryz.prog Rows.formulaReservedUptoRow.laid W) (hS:W.ShapedOpen Tryz.prog):Tabs W:=by
 have hL':laidMet Tryz.prog Rows.formulaReservedUptoRow.laid W:=hL
 have r:=fun n d=>Lib.laidMet.reads hL' (n:=n) (d:=d)
 refine ⟨utf8Tabs_of_readsT (U8Types.of196 Tryz.amP) ⟨by kernel_rfl,by kernel_rfl,by kernel_rfl,by kernel_rfl,by kernel_rfl,by kernel_rfl,by kernel_rfl⟩ (r _ _ (.tail _ (.tail _ (.tail _ (.tail _ (.tail _ (.tail _ (.tail _ (.head _)))))))) ) (r _ _ (.tail _ (.tail _ (.tail _ (.head _))))),fun i s hi=>?_,
  cell_of_shapedOpen_int (zero:=#[.int .i64 0]) (t:=3) hS (of_decide_eq_true (by kernel_rfl)) (by kernel_rfl) rfl (by kernel_rfl) (by kernel_rfl) Tryz.underlying3,
  afU (by kernel_rfl) (by kernel_rfl) (r _ _ (.tail _ (.tail _ (.tail _ (.tail _ (.tail _ (.head _))))))),afU (by kernel_rfl) (by kernel_rfl) (r _ _ (.tail _ (.tail _ (.tail _ (.tail _ (.head _)))))),?_,?_,?_⟩
 ·obtain ⟨g,t,cs,fuel,p,hg,hty,hvar,hd⟩:=r _ _ (.tail _ (.tail _ (.tail _ (.tail _ (.tail _ (.tail _ (.head _)))))))
  obtain rfl:g=tabP:=Option.some.inj (hg.symm.trans (by kernel_rfl))
  obtain rfl:t=187:=Option.some.inj (hty.symm.trans (by kernel_rfl))
  have hi5:i<5:=by
   have:=(List.getElem?_eq_some_iff.1 hi).1
   exact this
  obtain ⟨fuel',d,q,hdi,he⟩:=Lib.array_elem Tryz.underlying187 hd i hi5
  have hc:Tryz.prog.cellsOf 9=1:=by kernel_rfl
  rw [hc] at he
  obtain ⟨s',hs',hx,_⟩:=DataW.trod_string Tryz.underlying9 he
  rw [World.var?_cell hg hvar i,← Array.getElem?_toList]
  have e0:=congrArg (·[0]?) hs'
  simp only [List.getElem?_take,List.getElem?_drop,Nat.mul_one,Nat.add_zero] at e0
  have e1:cs.toList[i]? = some (.string s'):=by simpa using e0
  rw [e1]
  have hd1:d=.lit (.string s'.data.toList):=(Prod.mk.injEq _ _ _ _ ▸ hx).1
  rw [hd1] at hdi
  have key:∀ i,i<5→∀ s,ahu[i]? = some s→∀ l:List UInt8,([.lit (.string [45,62]),.lit (.string [33,61]),.lit (.string [60,61]),.lit (.string [62,61]),.lit (.string [46,46])]:List (DataW Unit))[i]? = some (.lit (.string l))→l=s.data.toList:=by
   intro i hi s hs l hl
   match i,hi with
   | 0,_|1,_|2,_|3,_|4,_=>simp [ahu] at hs hl;subst hs;subst hl;rfl
  have:=key i hi5 s hi _ hdi
  have:s'=s:=by
   apply ByteArray.ext
   exact Array.toList_inj.1 this
  rw [this]
 ·obtain ⟨g,t,cs,fuel,p,hg,hty,hvar,hd⟩:=r _ _ (.tail _ (.tail _ (.head _)))
  obtain rfl:g=tabW:=Option.some.inj (hg.symm.trans (by kernel_rfl))
  obtain ⟨ty,fr,hh⟩:=ah3 hg hvar
  obtain rfl:t=245:=Option.some.inj (hty.symm.trans (by kernel_rfl))
  have hcs:=Lib.cells_of_tab (zs:=(List.range 20).map fun i=>((10 ^ i:Nat):Int)) (k:=.u64) (e:=220) (n:=20) (cs:=cs.toList) Tryz.underlying245 Tryz.underlying220 (by kernel_rfl) (by kernel_rfl) hd
  refine ⟨ty,fr,?_⟩
  rw [hh]
  have:cs=((List.range 20).map fun i=>Value.int .u64 ((10 ^ i:Nat):Int)).toArray:=by
   apply Array.toList_inj.1
   rw [hcs,List.map_map];rfl
  rw [this]
 ·obtain ⟨g,t,cs,fuel,p,hg,hty,hvar,hd⟩:=r _ _ (.tail _ (.head _))
  obtain rfl:g=8:=Option.some.inj (hg.symm.trans (by kernel_rfl))
  obtain rfl:t=267:=Option.some.inj (hty.symm.trans (by kernel_rfl))
  have hcs:=Lib.cells_of_tab (zs:=Lib.deBruijn64tab.map fun (n:Nat)=>(n:Int)) (k:=.u8) (e:=5) (n:=64) (cs:=cs.toList) Tryz.underlying267 Tryz.underlying5 (by kernel_rfl) (by kernel_rfl) hd
  rw [World.var?_cell hg hvar 15,← Array.getElem?_toList,hcs]
  rfl
 ·obtain ⟨g,t,cs,fuel,p,hg,hty,hvar,hd⟩:=r _ _ (.tail _ (.head _))
  obtain rfl:g=8:=Option.some.inj (hg.symm.trans (by kernel_rfl))
  obtain ⟨ty,fr,hh⟩:=ah3 hg hvar
  have:=(Array.getElem?_eq_some_iff.1 hh).1
  omega
end Go.Ai
