/- slices.Sort at texts, laid at this seat: made by the kit's lay-shelf.mjs and lay-plain.mjs. -/
import Derived.Shelf.Sort.Plain
import Derived.Shelf.Slices.In.SortNone
import Derived.Test.YtalghhdapjmbbaaGreatDoorProg
set_option linter.all false
namespace Go.Proofs
open Go.Shelf
def Tryz.lays190_ren:Go.Shelf.Ren:=⟨fun|190=>93|125=>130|258=>129|128=>165|129=>166|302=>156|303=>157|304=>158|305=>159|306=>160|307=>161|308=>162|309=>163|310=>164|333=>193|329=>194|330=>195|334=>196|335=>197|336=>198|344=>220|n=>n,fun|31=>22|9=>9|3=>3|46=>88|0=>0|51=>133|53=>136|4=>4|183=>175|182=>174|131=>107|5=>5|218=>197|222=>60|228=>214|229=>57|n=>n,fun|n=>n⟩
theorem Tryz.lays190:Go.Proofs.Lays.n190 Tryz.prog Tryz.lays190_ren:={
  mixed:=by kernel_rfl
  f125:=Tryz.func130.trans (congrArg some (by kernel_rfl))
  f128:=Tryz.func165.trans (congrArg some (by kernel_rfl))
  f129:=Tryz.func166.trans (congrArg some (by kernel_rfl))
  f190:=Tryz.func93.trans (congrArg some (by kernel_rfl))
  f258:=Tryz.func129.trans (congrArg some (by kernel_rfl))
  f302:=Tryz.func156.trans (congrArg some (by kernel_rfl))
  f303:=Tryz.func157.trans (congrArg some (by kernel_rfl))
  f304:=Tryz.func158.trans (congrArg some (by kernel_rfl))
  f305:=Tryz.func159.trans (congrArg some (by kernel_rfl))
  f306:=Tryz.func160.trans (congrArg some (by kernel_rfl))
  f307:=Tryz.func161.trans (congrArg some (by kernel_rfl))
  f308:=Tryz.func162.trans (congrArg some (by kernel_rfl))
  f309:=Tryz.func163.trans (congrArg some (by kernel_rfl))
  f310:=Tryz.func164.trans (congrArg some (by kernel_rfl))
  f329:=Tryz.func194.trans (congrArg some (by kernel_rfl))
  f330:=Tryz.func195.trans (congrArg some (by kernel_rfl))
  f333:=Tryz.func193.trans (congrArg some (by kernel_rfl))
  f334:=Tryz.func196.trans (congrArg some (by kernel_rfl))
  f335:=Tryz.func197.trans (congrArg some (by kernel_rfl))
  f336:=Tryz.func198.trans (congrArg some (by kernel_rfl))
  f344:=Tryz.func220.trans (congrArg some (by kernel_rfl))
  t0:=Tryz.underlying0
  a0:=Tryz.isAgg0
  z0:=Tryz.sizeOf0
  v0:=Tryz.zeroValue0
  t3:=Tryz.underlying3
  a3:=Tryz.isAgg3
  z3:=Tryz.sizeOf3
  v3:=Tryz.zeroValue3
  t4:=Tryz.underlying4
  a4:=Tryz.isAgg4
  z4:=Tryz.sizeOf4
  v4:=Tryz.zeroValue4
  t5:=Tryz.underlying5
  a5:=Tryz.isAgg5
  z5:=Tryz.sizeOf5
  v5:=Tryz.zeroValue5
  t9:=Tryz.underlying9
  a9:=Tryz.isAgg9
  z9:=Tryz.sizeOf9
  v9:=Tryz.zeroValue9
  t31:=Tryz.underlying22
  a31:=Tryz.isAgg22
  z31:=Tryz.sizeOf22
  v31:=Tryz.zeroValue22
  t46:=Tryz.underlying88
  a46:=Tryz.isAgg88
  z46:=Tryz.sizeOf88
  v46:=Tryz.zeroValue88
  t51:=Tryz.underlying133
  a51:=Tryz.isAgg133
  z51:=Tryz.sizeOf133
  v51:=Tryz.zeroValue133
  t53:=Tryz.underlying136
  a53:=Tryz.isAgg136
  z53:=Tryz.sizeOf136
  v53:=Tryz.zeroValue136
  t131:=Tryz.underlying107
  a131:=Tryz.isAgg107
  z131:=Tryz.sizeOf107
  v131:=Tryz.zeroValue107
  t182:=Tryz.underlying174
  a182:=Tryz.isAgg174
  z182:=Tryz.sizeOf174
  v182:=Tryz.zeroValue174
  t183:=Tryz.underlying175
  a183:=Tryz.isAgg175
  z183:=Tryz.sizeOf175
  v183:=Tryz.zeroValue175
  t218:=Tryz.underlying197
  a218:=Tryz.isAgg197
  z218:=Tryz.sizeOf197
  v218:=Tryz.zeroValue197
  t222:=Tryz.underlying60
  a222:=Tryz.isAgg60
  z222:=Tryz.sizeOf60
  v222:=Tryz.zeroValue60
  t228:=Tryz.underlying214
  a228:=Tryz.isAgg214
  z228:=Tryz.sizeOf214
  v228:=Tryz.zeroValue214
  t229:=Tryz.underlying57
  a229:=Tryz.isAgg57
  z229:=Tryz.sizeOf57
  v229:=Tryz.zeroValue57 }
end Go.Proofs
