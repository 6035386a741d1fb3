/- Texts of one road. -/
import Derived.Shelf.Sort.Plain
import Derived.Shelf.Slices.In.SortNone
import Derived.Shelf.Bytes.SlEqualAll
import Derived.Shelf.Bytes.Small
import Derived.Test.YthebagfahkebiaaGreatProg
set_option linter.all false
set_option maxHeartbeats 8000000
set_option maxRecDepth 20000
namespace Go.Proofs
open Go.Shelf Go.Proofs.Tryz
def Tryz.sK:Go.Shelf.Ren:=⟨λ|189=>230|125=>275|257=>274|128=>309|129=>310|294=>300|295=>301|296=>302|297=>303|298=>304|299=>305|216=>306|300=>307|301=>308|328=>321|329=>322|330=>323|331=>324|332=>325|215=>255|343=>327|n=>n,λ|28=>147|3=>3|46=>289|0=>0|51=>290|53=>305|4=>4|183=>316|182=>315|131=>195|5=>5|9=>9|218=>336|222=>293|228=>343|229=>209|n=>n,λ|n=>n⟩
def Tryz.aO:Go.Proofs.Lays.n189 prog Tryz.sK:={
 mixed:=by kernel_rfl
 f125:=func275.trans (congrArg some (by kernel_rfl))
 f128:=func309.trans (congrArg some (by kernel_rfl))
 f129:=func310.trans (congrArg some (by kernel_rfl))
 f189:=func230.trans (congrArg some (by kernel_rfl))
 f215:=func255.trans (congrArg some (by kernel_rfl))
 f216:=func306.trans (congrArg some (by kernel_rfl))
 f257:=func274.trans (congrArg some (by kernel_rfl))
 f294:=func300.trans (congrArg some (by kernel_rfl))
 f295:=func301.trans (congrArg some (by kernel_rfl))
 f296:=func302.trans (congrArg some (by kernel_rfl))
 f297:=func303.trans (congrArg some (by kernel_rfl))
 f298:=func304.trans (congrArg some (by kernel_rfl))
 f299:=func305.trans (congrArg some (by kernel_rfl))
 f300:=func307.trans (congrArg some (by kernel_rfl))
 f301:=func308.trans (congrArg some (by kernel_rfl))
 f328:=func321.trans (congrArg some (by kernel_rfl))
 f329:=func322.trans (congrArg some (by kernel_rfl))
 f330:=func323.trans (congrArg some (by kernel_rfl))
 f331:=func324.trans (congrArg some (by kernel_rfl))
 f332:=func325.trans (congrArg some (by kernel_rfl))
 f343:=func327.trans (congrArg some (by kernel_rfl))
 t0:=underlying0
 a0:=isAgg0
 z0:=sizeOf0
 v0:=zeroValue0
 t3:=underlying3
 a3:=isAgg3
 z3:=sizeOf3
 v3:=zeroValue3
 t4:=underlying4
 a4:=isAgg4
 z4:=sizeOf4
 v4:=zeroValue4
 t5:=underlying5
 a5:=isAgg5
 z5:=sizeOf5
 v5:=zeroValue5
 t9:=underlying9
 a9:=isAgg9
 z9:=sizeOf9
 v9:=zeroValue9
 t28:=underlying147
 a28:=isAgg147
 z28:=sizeOf147
 v28:=zeroValue147
 t46:=underlying289
 a46:=isAgg289
 z46:=sizeOf289
 v46:=zeroValue289
 t51:=underlying290
 a51:=isAgg290
 z51:=sizeOf290
 v51:=zeroValue290
 t53:=underlying305
 a53:=isAgg305
 z53:=sizeOf305
 v53:=zeroValue305
 t131:=underlying195
 a131:=isAgg195
 z131:=sizeOf195
 v131:=zeroValue195
 t182:=underlying315
 a182:=isAgg315
 z182:=sizeOf315
 v182:=zeroValue315
 t183:=underlying316
 a183:=isAgg316
 z183:=sizeOf316
 v183:=zeroValue316
 t218:=underlying336
 a218:=isAgg336
 z218:=sizeOf336
 v218:=zeroValue336
 t222:=underlying293
 a222:=isAgg293
 z222:=sizeOf293
 v222:=zeroValue293
 t228:=underlying343
 a228:=isAgg343
 z228:=sizeOf343
 v228:=zeroValue343
 t229:=underlying209
 a229:=isAgg209
 z229:=sizeOf209
 v229:=zeroValue209}
open Go.Sort Go.RowKit in
def Tryz.slices_Sort_int(blk off cap:Nat)(zs:List Int)(w:World)(hH:Holds (Value.int .i64) w blk off zs.toArray)(hblk:blk<w.heap.size)(hsz:zs.length<4611686018427387904):
  Calls prog 230 #[.slice (some ⟨blk,off,none⟩) zs.length cap] w λe w'=>
   e= .returned (.tuple #[])/\∃n os,w'=grow (putRow (Value.int .i64) (Sort.ahead w n) blk off (zs.mergeSort λx y=>decide (x<=y)).toArray) os:=Any.slices_Sort_int Tryz.aO blk off cap zs w hH hblk hsz
open Go.RowKit Go.Sort in
def Tryz.slices_Sort_int_none(p:Option Addr)(cap:Nat)(w:World):
  Calls prog 230 #[.slice p 0 cap] w λe w'=>e= .returned (.tuple #[])/\w'=w:=Any.slices_Sort_int_none Tryz.aO p cap w
end Go.Proofs
