/- The shelf's contracts. -/
import Derived.Test.YtkencjbbibdamaaGreatDoorBase
import Derived.Shelf.Sort.Plain
import Derived.Ground.Names2Prog
import Derived.Shelf.Slices.CompactI
import Derived.Shelf.Slices.In.SortNone
import Derived.Test.YtkencjbbibdamaaGreatDoorProg
set_option linter.all false
namespace Go.Proofs
open Go.Abs
noncomputable section
open Go.Shelf
def Tryz.am5:Go.Shelf.Ren:=⟨λ|189=>28|125=>59|257=>58|128=>114|129=>115|294=>105|295=>106|296=>107|297=>108|298=>109|299=>110|216=>111|300=>112|301=>113|328=>155|329=>156|330=>157|331=>158|332=>159|215=>160|343=>218|n=>n,λ|28=>45|3=>3|46=>139|0=>0|51=>184|53=>52|4=>4|183=>177|182=>176|131=>181|5=>5|9=>9|218=>222|222=>226|228=>269|229=>270|n=>n,λ|n=>n⟩
theorem Tryz.aaB:Go.Proofs.Lays.n189 Tryz.prog Tryz.am5:={
 mixed:=by kernel_rfl
 f125:=Tryz.func59.trans (dc some (by kernel_rfl))
 f128:=Tryz.func114.trans (dc some (by kernel_rfl))
 f129:=Tryz.func115.trans (dc some (by kernel_rfl))
 f189:=Tryz.func28.trans (dc some (by kernel_rfl))
 f215:=Tryz.func160.trans (dc some (by kernel_rfl))
 f216:=Tryz.func111.trans (dc some (by kernel_rfl))
 f257:=Tryz.func58.trans (dc some (by kernel_rfl))
 f294:=Tryz.func105.trans (dc some (by kernel_rfl))
 f295:=Tryz.func106.trans (dc some (by kernel_rfl))
 f296:=Tryz.func107.trans (dc some (by kernel_rfl))
 f297:=Tryz.func108.trans (dc some (by kernel_rfl))
 f298:=Tryz.func109.trans (dc some (by kernel_rfl))
 f299:=Tryz.func110.trans (dc some (by kernel_rfl))
 f300:=Tryz.func112.trans (dc some (by kernel_rfl))
 f301:=Tryz.func113.trans (dc some (by kernel_rfl))
 f328:=Tryz.func155.trans (dc some (by kernel_rfl))
 f329:=Tryz.func156.trans (dc some (by kernel_rfl))
 f330:=Tryz.func157.trans (dc some (by kernel_rfl))
 f331:=Tryz.func158.trans (dc some (by kernel_rfl))
 f332:=Tryz.func159.trans (dc some (by kernel_rfl))
 f343:=Tryz.func218.trans (dc some (by kernel_rfl))
 t0:=Tryz.underlying0
 a0:=Tryz.isAgg0
 z0:=Tryz.sizeOf0
 v0:=Tryz.zeroValue0
 t3:=Tryz.underlying3
 a3:=Tryz.isAgg3
 z3:=Tryz.sizeOf3
 v3:=Tryz.zeroValue3
 t4:=Tryz.underlying4
 a4:=Tryz.isAgg4
 z4:=Tryz.sizeOf4
 v4:=Tryz.zeroValue4
 t5:=Tryz.underlying5
 a5:=Tryz.isAgg5
 z5:=Tryz.sizeOf5
 v5:=Tryz.zeroValue5
 t9:=Tryz.underlying9
 a9:=Tryz.isAgg9
 z9:=Tryz.sizeOf9
 v9:=Tryz.zeroValue9
 t28:=Tryz.underlying45
 a28:=Tryz.isAgg45
 z28:=Tryz.sizeOf45
 v28:=Tryz.zeroValue45
 t46:=Tryz.underlying139
 a46:=Tryz.isAgg139
 z46:=Tryz.sizeOf139
 v46:=Tryz.zeroValue139
 t51:=Tryz.underlying184
 a51:=Tryz.isAgg184
 z51:=Tryz.sizeOf184
 v51:=Tryz.zeroValue184
 t53:=Tryz.underlying52
 a53:=Tryz.isAgg52
 z53:=Tryz.sizeOf52
 v53:=Tryz.zeroValue52
 t131:=Tryz.underlying181
 a131:=Tryz.isAgg181
 z131:=Tryz.sizeOf181
 v131:=Tryz.zeroValue181
 t182:=Tryz.underlying176
 a182:=Tryz.isAgg176
 z182:=Tryz.sizeOf176
 v182:=Tryz.zeroValue176
 t183:=Tryz.underlying177
 a183:=Tryz.isAgg177
 z183:=Tryz.sizeOf177
 v183:=Tryz.zeroValue177
 t218:=Tryz.underlying222
 a218:=Tryz.isAgg222
 z218:=Tryz.sizeOf222
 v218:=Tryz.zeroValue222
 t222:=Tryz.underlying226
 a222:=Tryz.isAgg226
 z222:=Tryz.sizeOf226
 v222:=Tryz.zeroValue226
 t228:=Tryz.underlying269
 a228:=Tryz.isAgg269
 z228:=Tryz.sizeOf269
 v228:=Tryz.zeroValue269
 t229:=Tryz.underlying270
 a229:=Tryz.isAgg270
 z229:=Tryz.sizeOf270
 v229:=Tryz.zeroValue270}
open Go.Sort Go.RowKit in
theorem Tryz.slices_Sort_int(bC off cap:Nat)(zs:List Int)(w:World)(hH:Holds (Value.int .i64) w bC off zs.toArray)(hblk:bC<w.heap.size)(hsz:zs.length<4611686018427387904):Calls Tryz.prog 28 #[.slice (some ⟨bC,off,none⟩) zs.length cap] w λ e w'=>e=.returned (.tuple #[])/\∃n os,w'=grow (putRow (Value.int .i64) (Sort.ahead w n) bC off (zs.mergeSort λ x y=>decide (x<=y)).toArray) os:=Any.slices_Sort_int Tryz.aaB bC off cap zs w hH hblk hsz
def Tryz.avl:Go.Shelf.Ren:=⟨λ|20=>29|n=>n,λ|22=>45|3=>3|4=>4|0=>0|n=>n,λ|n=>n⟩
theorem Tryz.adh:Go.Proofs.Lays2.n20 Tryz.prog Tryz.avl:={
 mixed:=by kernel_rfl
 f20:=Tryz.func29.trans (dc some (by kernel_rfl))
 t0:=Tryz.underlying0
 a0:=Tryz.isAgg0
 z0:=Tryz.sizeOf0
 v0:=Tryz.zeroValue0
 t3:=Tryz.underlying3
 a3:=Tryz.isAgg3
 z3:=Tryz.sizeOf3
 v3:=Tryz.zeroValue3
 t4:=Tryz.underlying4
 a4:=Tryz.isAgg4
 z4:=Tryz.sizeOf4
 v4:=Tryz.zeroValue4
 t22:=Tryz.underlying45
 a22:=Tryz.isAgg45
 z22:=Tryz.sizeOf45
 v22:=Tryz.zeroValue45
 i3:=by kernel_rfl}
open Go.RowKit Go.Lib Go.Sort in
theorem Tryz.slices_Compact_int(bC off cap:Nat)(zs:List Int)(w:World)(hH:Holds (Value.int .i64) w bC off zs.toArray)(hsz:zs.length<=9223372036854775807)(hcap:zs.length<=cap):Calls Tryz.prog 29 #[.slice (some ⟨bC,off,none⟩) zs.length cap] w λ e w'=>e=.returned (.slice (some ⟨bC,off,none⟩) (Lib.compact zs).length cap)/\∃q,w'=putRow (Value.int .i64) (Sort.ahead w q) bC off (Lib.compact zs++List.replicate (zs.length-(Lib.compact zs).length) 0).toArray:=Any.slices_Compact_int Tryz.adh bC off cap zs w hH hsz hcap
open Go.RowKit Go.Lib Go.Sort in
theorem Tryz.slices_Compact_int_empty(a:Option Addr)(cap:Nat)(w:World):Calls Tryz.prog 29 #[.slice a 0 cap] w λ e w'=>e=.returned (.slice a 0 cap)/\w'=w:=Any.slices_Compact_int_empty Tryz.adh a cap w
open Go.RowKit Go.Sort in
theorem Tryz.slices_Sort_int_none(p:Option Addr)(cap:Nat)(w:World):Calls Tryz.prog 28 #[.slice p 0 cap] w λ e w'=>e=.returned (.tuple #[])/\w'=w:=Any.slices_Sort_int_none Tryz.aaB p cap w
end
end Go.Proofs
