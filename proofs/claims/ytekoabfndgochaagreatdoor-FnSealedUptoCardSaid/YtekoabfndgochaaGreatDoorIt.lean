/-
  The library's decimal text: the contract of the shelf, laid at this program.
  No condition.
-/
import Derived.Shelf.LaysM
import Derived.Test.YtekoabfndgochaaGreatDoorPzI
import Derived.Test.YtekoabfndgochaaGreatDoorPS
namespace Go.Proofs
open Go.Shelf Go.RowKit Go.Sort Go.Lib
def Tryz.laysM171_ren:Go.Shelf.Ren:=⟨fun|171=>122|243=>189|246=>223|283=>232|284=>233|285=>234|286=>235|129=>239|317=>238|318=>240|319=>241|320=>242|337=>243|338=>244|n=>n,fun|3=>3|9=>9|2=>2|4=>4|171=>198|0=>0|53=>63|37=>22|5=>5|173=>201|212=>206|51=>207|20=>20|213=>208|46=>168|232=>211|233=>212|n=>n,fun|17=>0|18=>1|19=>2|n=>n⟩
theorem Tryz.laysM171:Go.Proofs.LaysM.n171 Tryz.prog Tryz.laysM171_ren:={
 mixed:=by kernel_rfl
 f129:=Tryz.func239.trans (congrArg some (by kernel_rfl))
 f171:=Tryz.func122.trans (congrArg some (by kernel_rfl))
 f243:=Tryz.func189.trans (congrArg some (by kernel_rfl))
 f246:=Tryz.func223.trans (congrArg some (by kernel_rfl))
 f283:=Tryz.func232.trans (congrArg some (by kernel_rfl))
 f284:=Tryz.func233.trans (congrArg some (by kernel_rfl))
 f285:=Tryz.func234.trans (congrArg some (by kernel_rfl))
 f286:=Tryz.func235.trans (congrArg some (by kernel_rfl))
 f317:=Tryz.func238.trans (congrArg some (by kernel_rfl))
 f318:=Tryz.func240.trans (congrArg some (by kernel_rfl))
 f319:=Tryz.func241.trans (congrArg some (by kernel_rfl))
 f320:=Tryz.func242.trans (congrArg some (by kernel_rfl))
 f337:=Tryz.func243.trans (congrArg some (by kernel_rfl))
 f338:=Tryz.func244.trans (congrArg some (by kernel_rfl))
 t0:=Tryz.underlying0
 a0:=Tryz.isAgg0
 z0:=Tryz.sizeOf0
 v0:=Tryz.zeroValue0
 t2:=Tryz.underlying2
 a2:=Tryz.isAgg2
 z2:=Tryz.sizeOf2
 v2:=Tryz.zeroValue2
 t3:=Tryz.underlying3
 a3:=Tryz.isAgg3
 z3:=Tryz.sizeOf3
 v3:=Tryz.zeroValue3
 t4:=Tryz.underlying4
 a4:=Tryz.isAgg4
 z4:=Tryz.sizeOf4
 v4:=Tryz.zeroValue4
 t5:=Tryz.underlying5
 a5:=Tryz.isAgg5
 z5:=Tryz.sizeOf5
 v5:=Tryz.zeroValue5
 t9:=Tryz.underlying9
 a9:=Tryz.isAgg9
 z9:=Tryz.sizeOf9
 v9:=Tryz.zeroValue9
 t20:=Tryz.underlying20
 a20:=Tryz.isAgg20
 z20:=Tryz.sizeOf20
 v20:=Tryz.zeroValue20
 t37:=Tryz.underlying22
 a37:=Tryz.isAgg22
 z37:=Tryz.sizeOf22
 v37:=Tryz.zeroValue22
 t46:=Tryz.underlying168
 a46:=Tryz.isAgg168
 z46:=Tryz.sizeOf168
 v46:=Tryz.zeroValue168
 t51:=Tryz.underlying207
 a51:=Tryz.isAgg207
 z51:=Tryz.sizeOf207
 v51:=Tryz.zeroValue207
 t53:=Tryz.underlying63
 a53:=Tryz.isAgg63
 z53:=Tryz.sizeOf63
 v53:=Tryz.zeroValue63
 t171:=Tryz.underlying198
 a171:=Tryz.isAgg198
 z171:=Tryz.sizeOf198
 v171:=Tryz.zeroValue198
 t173:=Tryz.underlying201
 a173:=Tryz.isAgg201
 z173:=Tryz.sizeOf201
 v173:=Tryz.zeroValue201
 t212:=Tryz.underlying206
 a212:=Tryz.isAgg206
 z212:=Tryz.sizeOf206
 v212:=Tryz.zeroValue206
 t213:=Tryz.underlying208
 a213:=Tryz.isAgg208
 z213:=Tryz.sizeOf208
 t232:=Tryz.underlying211
 a232:=Tryz.isAgg211
 z232:=Tryz.sizeOf211
 v232:=Tryz.zeroValue211
 t233:=Tryz.underlying212
 a233:=Tryz.isAgg212
 z233:=Tryz.sizeOf212
 v233:=Tryz.zeroValue212
 g17:=by kernel_rfl
 g18:=by kernel_rfl
 g19:=by kernel_rfl
 i0:=by kernel_rfl
 i2:=by kernel_rfl
 i3:=by kernel_rfl
 i4:=by kernel_rfl
 i5:=by kernel_rfl
 i9:=by kernel_rfl
 i20:=by kernel_rfl
 i37:=by kernel_rfl
 i46:=by kernel_rfl
 i51:=by kernel_rfl
 i53:=by kernel_rfl
 i171:=by kernel_rfl
 i173:=by kernel_rfl
 i212:=by kernel_rfl
 i232:=by kernel_rfl
 i233:=by kernel_rfl
 m17:=by kernel_rfl
 m18:=by kernel_rfl
 m19:=by kernel_rfl}
theorem Tryz.strconv_Itoa (n:Int) (h0: -9223372036854775808≤n) (h1:n≤9223372036854775807) (w:World) (htab:Lib.TabIs Tryz.prog w "internal/strconv.uint64pow10" .u64 Lib.pow10Tab):
 Calls Tryz.prog 122 #[.int .i64 n] w fun e w'=>e=.returned (.string ⟨(Lib.itoa n).toArray⟩)∧∃k os,w'=grow (w.drewN k) os:=Any.strconv_Itoa Tryz.laysM171 n h0 h1 w htab
end Go.Proofs
namespace Go.Pm
open Go.Am
theorem zER:Go.Am.ItoaH Go.Proofs.Tryz.prog 122:=⟨zGt,⟨_,rfl,by kernel_rfl⟩,Go.Proofs.Tryz.strconv_Itoa⟩
end Go.Pm
