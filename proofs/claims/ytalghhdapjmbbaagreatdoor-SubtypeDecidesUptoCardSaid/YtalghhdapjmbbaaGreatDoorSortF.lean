/- The library's contracts at this dump, in plain words, as the kit's tool writes them. -/
import Derived.Shelf.SlGeneric
import Derived.Shelf.SlSortCmp.WholeK
import Derived.Ground.SlsfProg
import Derived.Test.YtalghhdapjmbbaaGreatDoorProg
set_option linter.all false
namespace Go.Proofs
open Go.Shelf
def Tryz.sortF_ren:Go.Shelf.Ren:=⟨fun|6=>125|15=>130|14=>149|28=>165|29=>166|20=>183|21=>184|22=>185|23=>186|24=>187|25=>188|26=>189|27=>190|46=>217|47=>194|48=>195|49=>218|50=>219|57=>222|n=>n,fun|22=>31|24=>50|25=>148|3=>3|39=>88|0=>0|53=>133|55=>136|4=>4|46=>175|45=>174|50=>107|5=>5|9=>9|66=>197|70=>60|76=>214|77=>57|n=>n,fun|n=>n⟩
theorem Tryz.sortF:Go.Proofs.SlLaysF0.n6 Tryz.prog Tryz.sortF_ren:={
  mixed:=by kernel_rfl
  f6:=⟨Tryz.f125.name,by decide,Tryz.func125.trans (congrArg some (by kernel_rfl))⟩
  f14:=⟨Tryz.f149.name,by decide,Tryz.func149.trans (congrArg some (by kernel_rfl))⟩
  f15:=Tryz.func130.trans (congrArg some (by kernel_rfl))
  f20:=⟨Tryz.f183.name,by decide,Tryz.func183.trans (congrArg some (by kernel_rfl))⟩
  f21:=⟨Tryz.f184.name,by decide,Tryz.func184.trans (congrArg some (by kernel_rfl))⟩
  f22:=⟨Tryz.f185.name,by decide,Tryz.func185.trans (congrArg some (by kernel_rfl))⟩
  f23:=⟨Tryz.f186.name,by decide,Tryz.func186.trans (congrArg some (by kernel_rfl))⟩
  f24:=⟨Tryz.f187.name,by decide,Tryz.func187.trans (congrArg some (by kernel_rfl))⟩
  f25:=⟨Tryz.f188.name,by decide,Tryz.func188.trans (congrArg some (by kernel_rfl))⟩
  f26:=⟨Tryz.f189.name,by decide,Tryz.func189.trans (congrArg some (by kernel_rfl))⟩
  f27:=⟨Tryz.f190.name,by decide,Tryz.func190.trans (congrArg some (by kernel_rfl))⟩
  f28:=Tryz.func165.trans (congrArg some (by kernel_rfl))
  f29:=Tryz.func166.trans (congrArg some (by kernel_rfl))
  f46:=⟨Tryz.f217.name,by decide,Tryz.func217.trans (congrArg some (by kernel_rfl))⟩
  f47:=Tryz.func194.trans (congrArg some (by kernel_rfl))
  f48:=Tryz.func195.trans (congrArg some (by kernel_rfl))
  f49:=⟨Tryz.f218.name,by decide,Tryz.func218.trans (congrArg some (by kernel_rfl))⟩
  f50:=⟨Tryz.f219.name,by decide,Tryz.func219.trans (congrArg some (by kernel_rfl))⟩
  f57:=⟨Tryz.f222.name,by decide,Tryz.func222.trans (congrArg some (by kernel_rfl))⟩
  t0:=Tryz.underlying0
  a0:=Tryz.isAgg0
  z0:=Tryz.sizeOf0
  v0:=Tryz.zeroValue0
  t3:=Tryz.underlying3
  a3:=Tryz.isAgg3
  z3:=Tryz.sizeOf3
  v3:=Tryz.zeroValue3
  t4:=Tryz.underlying4
  a4:=Tryz.isAgg4
  z4:=Tryz.sizeOf4
  v4:=Tryz.zeroValue4
  t5:=Tryz.underlying5
  a5:=Tryz.isAgg5
  z5:=Tryz.sizeOf5
  v5:=Tryz.zeroValue5
  t9:=Tryz.underlying9
  a9:=Tryz.isAgg9
  z9:=Tryz.sizeOf9
  v9:=Tryz.zeroValue9
  t22:=Tryz.underlying31
  a22:=Tryz.isAgg31
  z22:=Tryz.sizeOf31
  v22:=Tryz.zeroValue31
  t25:=Tryz.underlying148
  a25:=Tryz.isAgg148
  z25:=Tryz.sizeOf148
  v25:=Tryz.zeroValue148
  t39:=Tryz.underlying88
  a39:=Tryz.isAgg88
  z39:=Tryz.sizeOf88
  v39:=Tryz.zeroValue88
  t45:=Tryz.underlying174
  a45:=Tryz.isAgg174
  z45:=Tryz.sizeOf174
  v45:=Tryz.zeroValue174
  t46:=Tryz.underlying175
  a46:=Tryz.isAgg175
  z46:=Tryz.sizeOf175
  v46:=Tryz.zeroValue175
  t50:=Tryz.underlying107
  a50:=Tryz.isAgg107
  z50:=Tryz.sizeOf107
  v50:=Tryz.zeroValue107
  t53:=Tryz.underlying133
  a53:=Tryz.isAgg133
  z53:=Tryz.sizeOf133
  v53:=Tryz.zeroValue133
  t55:=Tryz.underlying136
  a55:=Tryz.isAgg136
  z55:=Tryz.sizeOf136
  v55:=Tryz.zeroValue136
  t66:=Tryz.underlying197
  a66:=Tryz.isAgg197
  z66:=Tryz.sizeOf197
  v66:=Tryz.zeroValue197
  t70:=Tryz.underlying60
  a70:=Tryz.isAgg60
  z70:=Tryz.sizeOf60
  v70:=Tryz.zeroValue60
  t76:=Tryz.underlying214
  a76:=Tryz.isAgg214
  z76:=Tryz.sizeOf214
  v76:=Tryz.zeroValue214
  t77:=Tryz.underlying57
  a77:=Tryz.isAgg57
  z77:=Tryz.sizeOf57
  v77:=Tryz.zeroValue57 }
end Go.Proofs
