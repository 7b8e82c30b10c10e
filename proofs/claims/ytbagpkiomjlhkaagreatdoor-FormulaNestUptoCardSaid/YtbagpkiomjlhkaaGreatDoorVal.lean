/- The library's contracts at this dump, in plain words, as the kit's tool writes them. -/
import Derived.Shelf.Unicode.ValidAny
import Derived.Ground.NamesProg
import Derived.Test.YtbagpkiomjlhkaaGreatDoorProg
set_option linter.all false
namespace Go.Proofs
open Go.Shelf
def Tryz.lays196_ren:Go.Shelf.Ren:=⟨fun|196=>207|259=>246|n=>n,fun|9=>9|4=>4|3=>3|5=>5|12=>12|119=>233|0=>0|46=>181|139=>236|138=>235|53=>220|n=>n,fun|3=>2|4=>3|n=>n⟩
theorem Tryz.lays196:Go.Proofs.Lays.n196 Tryz.prog Tryz.lays196_ren:={
  mixed:=by kernel_rfl
  f196:=Tryz.func207.trans (congrArg some (by kernel_rfl))
  f259:=Tryz.func246.trans (congrArg some (by kernel_rfl))
  t0:=Tryz.underlying0
  a0:=Tryz.isAgg0
  z0:=Tryz.sizeOf0
  v0:=Tryz.zeroValue0
  t3:=Tryz.underlying3
  a3:=Tryz.isAgg3
  z3:=Tryz.sizeOf3
  v3:=Tryz.zeroValue3
  t4:=Tryz.underlying4
  a4:=Tryz.isAgg4
  z4:=Tryz.sizeOf4
  v4:=Tryz.zeroValue4
  t5:=Tryz.underlying5
  a5:=Tryz.isAgg5
  z5:=Tryz.sizeOf5
  v5:=Tryz.zeroValue5
  t9:=Tryz.underlying9
  a9:=Tryz.isAgg9
  z9:=Tryz.sizeOf9
  v9:=Tryz.zeroValue9
  t12:=Tryz.underlying12
  a12:=Tryz.isAgg12
  z12:=Tryz.sizeOf12
  v12:=Tryz.zeroValue12
  t46:=Tryz.underlying181
  a46:=Tryz.isAgg181
  z46:=Tryz.sizeOf181
  v46:=Tryz.zeroValue181
  t53:=Tryz.underlying220
  a53:=Tryz.isAgg220
  z53:=Tryz.sizeOf220
  v53:=Tryz.zeroValue220
  t119:=Tryz.underlying233
  a119:=Tryz.isAgg233
  z119:=Tryz.sizeOf233
  t138:=Tryz.underlying235
  a138:=Tryz.isAgg235
  z138:=Tryz.sizeOf235
  v138:=Tryz.zeroValue235
  t139:=Tryz.underlying236
  a139:=Tryz.isAgg236
  z139:=Tryz.sizeOf236
  v139:=Tryz.zeroValue236
  g3:=by kernel_rfl
  g4:=by kernel_rfl }
end Go.Proofs
namespace Go.Proofs
open Go.RowKit
end Go.Proofs
