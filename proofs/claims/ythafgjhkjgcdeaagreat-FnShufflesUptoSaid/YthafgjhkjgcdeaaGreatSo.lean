/-
  The library's sort of integers: the contract of the shelf, laid at this program.
  No condition.
-/
import Derived.Shelf.Sort.Plain
import Derived.Shelf.Slices.In.SortNone
import Derived.Test.YthafgjhkjgcdeaaGreatPzA
import Derived.Test.YthafgjhkjgcdeaaGreatPS
namespace Go.Proofs
open Go.Shelf
def Tryz.lays189_ren:Go.Shelf.Ren:=⟨fun|189=>134|125=>168|257=>167|128=>188|129=>189|294=>179|295=>180|296=>181|297=>182|298=>183|299=>184|216=>185|300=>186|301=>187|328=>193|329=>194|330=>195|331=>196|332=>197|215=>198|343=>199|n=>n,fun|28=>26|3=>3|46=>161|0=>0|51=>188|53=>65|4=>4|183=>182|182=>181|131=>45|5=>5|9=>9|218=>194|222=>198|228=>200|229=>136|n=>n,fun|n=>n⟩
theorem Tryz.lays189:Go.Proofs.Lays.n189 Tryz.prog Tryz.lays189_ren:={
 mixed:=by kernel_rfl
 f125:=Tryz.func168.trans (congrArg some (by kernel_rfl))
 f128:=Tryz.func188.trans (congrArg some (by kernel_rfl))
 f129:=Tryz.func189.trans (congrArg some (by kernel_rfl))
 f189:=Tryz.func134.trans (congrArg some (by kernel_rfl))
 f215:=Tryz.func198.trans (congrArg some (by kernel_rfl))
 f216:=Tryz.func185.trans (congrArg some (by kernel_rfl))
 f257:=Tryz.func167.trans (congrArg some (by kernel_rfl))
 f294:=Tryz.func179.trans (congrArg some (by kernel_rfl))
 f295:=Tryz.func180.trans (congrArg some (by kernel_rfl))
 f296:=Tryz.func181.trans (congrArg some (by kernel_rfl))
 f297:=Tryz.func182.trans (congrArg some (by kernel_rfl))
 f298:=Tryz.func183.trans (congrArg some (by kernel_rfl))
 f299:=Tryz.func184.trans (congrArg some (by kernel_rfl))
 f300:=Tryz.func186.trans (congrArg some (by kernel_rfl))
 f301:=Tryz.func187.trans (congrArg some (by kernel_rfl))
 f328:=Tryz.func193.trans (congrArg some (by kernel_rfl))
 f329:=Tryz.func194.trans (congrArg some (by kernel_rfl))
 f330:=Tryz.func195.trans (congrArg some (by kernel_rfl))
 f331:=Tryz.func196.trans (congrArg some (by kernel_rfl))
 f332:=Tryz.func197.trans (congrArg some (by kernel_rfl))
 f343:=Tryz.func199.trans (congrArg some (by kernel_rfl))
 t0:=Tryz.underlying0
 a0:=Tryz.isAgg0
 z0:=Tryz.sizeOf0
 v0:=Tryz.zeroValue0
 t3:=Tryz.underlying3
 a3:=Tryz.isAgg3
 z3:=Tryz.sizeOf3
 v3:=Tryz.zeroValue3
 t4:=Tryz.underlying4
 a4:=Tryz.isAgg4
 z4:=Tryz.sizeOf4
 v4:=Tryz.zeroValue4
 t5:=Tryz.underlying5
 a5:=Tryz.isAgg5
 z5:=Tryz.sizeOf5
 v5:=Tryz.zeroValue5
 t9:=Tryz.underlying9
 a9:=Tryz.isAgg9
 z9:=Tryz.sizeOf9
 v9:=Tryz.zeroValue9
 t28:=Tryz.underlying26
 a28:=Tryz.isAgg26
 z28:=Tryz.sizeOf26
 v28:=Tryz.zeroValue26
 t46:=Tryz.underlying161
 a46:=Tryz.isAgg161
 z46:=Tryz.sizeOf161
 v46:=Tryz.zeroValue161
 t51:=Tryz.underlying188
 a51:=Tryz.isAgg188
 z51:=Tryz.sizeOf188
 v51:=Tryz.zeroValue188
 t53:=Tryz.underlying65
 a53:=Tryz.isAgg65
 z53:=Tryz.sizeOf65
 v53:=Tryz.zeroValue65
 t131:=Tryz.underlying45
 a131:=Tryz.isAgg45
 z131:=Tryz.sizeOf45
 v131:=Tryz.zeroValue45
 t182:=Tryz.underlying181
 a182:=Tryz.isAgg181
 z182:=Tryz.sizeOf181
 v182:=Tryz.zeroValue181
 t183:=Tryz.underlying182
 a183:=Tryz.isAgg182
 z183:=Tryz.sizeOf182
 v183:=Tryz.zeroValue182
 t218:=Tryz.underlying194
 a218:=Tryz.isAgg194
 z218:=Tryz.sizeOf194
 v218:=Tryz.zeroValue194
 t222:=Tryz.underlying198
 a222:=Tryz.isAgg198
 z222:=Tryz.sizeOf198
 v222:=Tryz.zeroValue198
 t228:=Tryz.underlying200
 a228:=Tryz.isAgg200
 z228:=Tryz.sizeOf200
 v228:=Tryz.zeroValue200
 t229:=Tryz.underlying136
 a229:=Tryz.isAgg136
 z229:=Tryz.sizeOf136
 v229:=Tryz.zeroValue136}
open Go.Sort Go.RowKit in
theorem Tryz.slices_Sort_int (blk off cap:Nat) (zs:List Int) (w:World) (hH:Holds (Value.int .i64) w blk off zs.toArray) (hblk:blk<w.heap.size) (hsz:zs.length<4611686018427387904):
 Calls Tryz.prog 134 #[.slice (some ⟨blk,off,none⟩) zs.length cap] w fun e w'=>
  e=.returned (.tuple #[])∧∃n os,w'=grow (putRow (Value.int .i64) (Sort.ahead w n) blk off (zs.mergeSort fun x y=>decide (x≤y)).toArray) os:=Any.slices_Sort_int Tryz.lays189 blk off cap zs w hH hblk hsz
open Go.RowKit Go.Sort in
theorem Tryz.slices_Sort_int_none (p:Option Addr) (cap:Nat) (w:World):
 Calls Tryz.prog 134 #[.slice p 0 cap] w fun e w'=>e=.returned (.tuple #[])∧w'=w:=Any.slices_Sort_int_none Tryz.lays189 p cap w
end Go.Proofs
namespace Go.Pm
theorem zCz:Go.Am.SortH Go.Proofs.Tryz.prog 134:=⟨zCU,Go.Proofs.Tryz.slices_Sort_int,Go.Proofs.Tryz.slices_Sort_int_none⟩
end Go.Pm
