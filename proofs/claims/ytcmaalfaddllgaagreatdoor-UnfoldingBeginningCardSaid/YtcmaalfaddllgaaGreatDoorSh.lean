/- The shelf's contracts. -/
import Derived.Test.YtcmaalfaddllgaaGreatDoorBase
import Derived.Shelf.Sort.Plain
import Derived.Ground.Names2Prog
import Derived.Shelf.Slices.CompactI
import Derived.Shelf.Slices.In.SortNone
import Derived.Test.YtcmaalfaddllgaaGreatDoorProg
set_option linter.all false
namespace Go.Proofs
open Go.Abs
noncomputable section
open Go.Shelf
def Tryz.am5:Go.Shelf.Ren:=⟨λ|189=>295|125=>344|257=>343|128=>371|129=>372|294=>363|295=>364|296=>365|297=>366|298=>367|299=>368|216=>293|300=>369|301=>370|328=>388|329=>389|330=>390|331=>391|332=>392|215=>342|343=>407|n=>n,λ|28=>51|3=>3|46=>210|0=>0|51=>326|53=>48|4=>4|183=>403|182=>402|131=>282|5=>5|9=>9|218=>424|222=>428|228=>444|229=>285|n=>n,λ|n=>n⟩
theorem Tryz.aaB:Go.Proofs.Lays.n189 Tryz.prog Tryz.am5:={
 mixed:=by kernel_rfl
 f125:=Tryz.func344.trans (dc some (by kernel_rfl))
 f128:=Tryz.func371.trans (dc some (by kernel_rfl))
 f129:=Tryz.func372.trans (dc some (by kernel_rfl))
 f189:=Tryz.func295.trans (dc some (by kernel_rfl))
 f215:=Tryz.func342.trans (dc some (by kernel_rfl))
 f216:=Tryz.func293.trans (dc some (by kernel_rfl))
 f257:=Tryz.func343.trans (dc some (by kernel_rfl))
 f294:=Tryz.func363.trans (dc some (by kernel_rfl))
 f295:=Tryz.func364.trans (dc some (by kernel_rfl))
 f296:=Tryz.func365.trans (dc some (by kernel_rfl))
 f297:=Tryz.func366.trans (dc some (by kernel_rfl))
 f298:=Tryz.func367.trans (dc some (by kernel_rfl))
 f299:=Tryz.func368.trans (dc some (by kernel_rfl))
 f300:=Tryz.func369.trans (dc some (by kernel_rfl))
 f301:=Tryz.func370.trans (dc some (by kernel_rfl))
 f328:=Tryz.func388.trans (dc some (by kernel_rfl))
 f329:=Tryz.func389.trans (dc some (by kernel_rfl))
 f330:=Tryz.func390.trans (dc some (by kernel_rfl))
 f331:=Tryz.func391.trans (dc some (by kernel_rfl))
 f332:=Tryz.func392.trans (dc some (by kernel_rfl))
 f343:=Tryz.func407.trans (dc some (by kernel_rfl))
 t0:=Tryz.underlying0
 a0:=Tryz.isAgg0
 z0:=Tryz.sizeOf0
 v0:=Tryz.zeroValue0
 t3:=Tryz.underlying3
 a3:=Tryz.isAgg3
 z3:=Tryz.sizeOf3
 v3:=Tryz.zeroValue3
 t4:=Tryz.underlying4
 a4:=Tryz.isAgg4
 z4:=Tryz.sizeOf4
 v4:=Tryz.zeroValue4
 t5:=Tryz.underlying5
 a5:=Tryz.isAgg5
 z5:=Tryz.sizeOf5
 v5:=Tryz.zeroValue5
 t9:=Tryz.underlying9
 a9:=Tryz.isAgg9
 z9:=Tryz.sizeOf9
 v9:=Tryz.zeroValue9
 t28:=Tryz.underlying51
 a28:=Tryz.isAgg51
 z28:=Tryz.sizeOf51
 v28:=Tryz.zeroValue51
 t46:=Tryz.underlying210
 a46:=Tryz.isAgg210
 z46:=Tryz.sizeOf210
 v46:=Tryz.zeroValue210
 t51:=Tryz.underlying326
 a51:=Tryz.isAgg326
 z51:=Tryz.sizeOf326
 v51:=Tryz.zeroValue326
 t53:=Tryz.underlying48
 a53:=Tryz.isAgg48
 z53:=Tryz.sizeOf48
 v53:=Tryz.zeroValue48
 t131:=Tryz.underlying282
 a131:=Tryz.isAgg282
 z131:=Tryz.sizeOf282
 v131:=Tryz.zeroValue282
 t182:=Tryz.underlying402
 a182:=Tryz.isAgg402
 z182:=Tryz.sizeOf402
 v182:=Tryz.zeroValue402
 t183:=Tryz.underlying403
 a183:=Tryz.isAgg403
 z183:=Tryz.sizeOf403
 v183:=Tryz.zeroValue403
 t218:=Tryz.underlying424
 a218:=Tryz.isAgg424
 z218:=Tryz.sizeOf424
 v218:=Tryz.zeroValue424
 t222:=Tryz.underlying428
 a222:=Tryz.isAgg428
 z222:=Tryz.sizeOf428
 v222:=Tryz.zeroValue428
 t228:=Tryz.underlying444
 a228:=Tryz.isAgg444
 z228:=Tryz.sizeOf444
 v228:=Tryz.zeroValue444
 t229:=Tryz.underlying285
 a229:=Tryz.isAgg285
 z229:=Tryz.sizeOf285
 v229:=Tryz.zeroValue285}
open Go.Sort Go.RowKit in
theorem Tryz.slices_Sort_int(bC off cap:Nat)(zs:List Int)(w:World)(hH:Holds (Value.int .i64) w bC off zs.toArray)(hblk:bC<w.heap.size)(hsz:zs.length<4611686018427387904):Calls Tryz.prog 295 #[.slice (some ⟨bC,off,none⟩) zs.length cap] w λ e w'=>e=.returned (.tuple #[])/\∃n os,w'=grow (putRow (Value.int .i64) (Sort.ahead w n) bC off (zs.mergeSort λ x y=>decide (x<=y)).toArray) os:=Any.slices_Sort_int Tryz.aaB bC off cap zs w hH hblk hsz
def Tryz.avl:Go.Shelf.Ren:=⟨λ|20=>296|n=>n,λ|22=>51|3=>3|4=>4|0=>0|n=>n,λ|n=>n⟩
theorem Tryz.adh:Go.Proofs.Lays2.n20 Tryz.prog Tryz.avl:={
 mixed:=by kernel_rfl
 f20:=Tryz.func296.trans (dc some (by kernel_rfl))
 t0:=Tryz.underlying0
 a0:=Tryz.isAgg0
 z0:=Tryz.sizeOf0
 v0:=Tryz.zeroValue0
 t3:=Tryz.underlying3
 a3:=Tryz.isAgg3
 z3:=Tryz.sizeOf3
 v3:=Tryz.zeroValue3
 t4:=Tryz.underlying4
 a4:=Tryz.isAgg4
 z4:=Tryz.sizeOf4
 v4:=Tryz.zeroValue4
 t22:=Tryz.underlying51
 a22:=Tryz.isAgg51
 z22:=Tryz.sizeOf51
 v22:=Tryz.zeroValue51
 i3:=by kernel_rfl}
open Go.RowKit Go.Lib Go.Sort in
theorem Tryz.slices_Compact_int(bC off cap:Nat)(zs:List Int)(w:World)(hH:Holds (Value.int .i64) w bC off zs.toArray)(hsz:zs.length<=9223372036854775807)(hcap:zs.length<=cap):Calls Tryz.prog 296 #[.slice (some ⟨bC,off,none⟩) zs.length cap] w λ e w'=>e=.returned (.slice (some ⟨bC,off,none⟩) (Lib.compact zs).length cap)/\∃q,w'=putRow (Value.int .i64) (Sort.ahead w q) bC off (Lib.compact zs++List.replicate (zs.length-(Lib.compact zs).length) 0).toArray:=Any.slices_Compact_int Tryz.adh bC off cap zs w hH hsz hcap
open Go.RowKit Go.Lib Go.Sort in
theorem Tryz.slices_Compact_int_empty(a:Option Addr)(cap:Nat)(w:World):Calls Tryz.prog 296 #[.slice a 0 cap] w λ e w'=>e=.returned (.slice a 0 cap)/\w'=w:=Any.slices_Compact_int_empty Tryz.adh a cap w
open Go.RowKit Go.Sort in
theorem Tryz.slices_Sort_int_none(p:Option Addr)(cap:Nat)(w:World):Calls Tryz.prog 295 #[.slice p 0 cap] w λ e w'=>e=.returned (.tuple #[])/\w'=w:=Any.slices_Sort_int_none Tryz.aaB p cap w
end
end Go.Proofs
