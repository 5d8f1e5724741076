/-
  The library's decimal text: the contract of the shelf, laid at this program.
  No condition.
-/
import Derived.Shelf.LaysM
import Derived.Test.YtplemekcclpaoaaGreatDoorPzI
import Derived.Test.YtplemekcclpaoaaGreatDoorPS
namespace Go.Proofs
open Go.Shelf Go.RowKit Go.Sort Go.Lib
def Tryz.laysM171_ren:Go.Shelf.Ren:=⟨fun|171=>180|243=>201|246=>208|283=>210|284=>211|285=>212|286=>213|129=>215|317=>214|318=>216|319=>217|320=>218|337=>219|338=>220|n=>n,fun|3=>3|9=>9|2=>2|4=>4|171=>229|0=>0|53=>173|37=>218|5=>5|173=>232|212=>235|51=>170|20=>20|213=>236|46=>130|232=>239|233=>240|n=>n,fun|17=>0|18=>1|19=>2|n=>n⟩
theorem Tryz.laysM171:Go.Proofs.LaysM.n171 Tryz.prog Tryz.laysM171_ren:={
 mixed:=by kernel_rfl
 f129:=Tryz.func215.trans (congrArg some (by kernel_rfl))
 f171:=Tryz.func180.trans (congrArg some (by kernel_rfl))
 f243:=Tryz.func201.trans (congrArg some (by kernel_rfl))
 f246:=Tryz.func208.trans (congrArg some (by kernel_rfl))
 f283:=Tryz.func210.trans (congrArg some (by kernel_rfl))
 f284:=Tryz.func211.trans (congrArg some (by kernel_rfl))
 f285:=Tryz.func212.trans (congrArg some (by kernel_rfl))
 f286:=Tryz.func213.trans (congrArg some (by kernel_rfl))
 f317:=Tryz.func214.trans (congrArg some (by kernel_rfl))
 f318:=Tryz.func216.trans (congrArg some (by kernel_rfl))
 f319:=Tryz.func217.trans (congrArg some (by kernel_rfl))
 f320:=Tryz.func218.trans (congrArg some (by kernel_rfl))
 f337:=Tryz.func219.trans (congrArg some (by kernel_rfl))
 f338:=Tryz.func220.trans (congrArg some (by kernel_rfl))
 t0:=Tryz.underlying0
 a0:=Tryz.isAgg0
 z0:=Tryz.sizeOf0
 v0:=Tryz.zeroValue0
 t2:=Tryz.underlying2
 a2:=Tryz.isAgg2
 z2:=Tryz.sizeOf2
 v2:=Tryz.zeroValue2
 t3:=Tryz.underlying3
 a3:=Tryz.isAgg3
 z3:=Tryz.sizeOf3
 v3:=Tryz.zeroValue3
 t4:=Tryz.underlying4
 a4:=Tryz.isAgg4
 z4:=Tryz.sizeOf4
 v4:=Tryz.zeroValue4
 t5:=Tryz.underlying5
 a5:=Tryz.isAgg5
 z5:=Tryz.sizeOf5
 v5:=Tryz.zeroValue5
 t9:=Tryz.underlying9
 a9:=Tryz.isAgg9
 z9:=Tryz.sizeOf9
 v9:=Tryz.zeroValue9
 t20:=Tryz.underlying20
 a20:=Tryz.isAgg20
 z20:=Tryz.sizeOf20
 v20:=Tryz.zeroValue20
 t37:=Tryz.underlying218
 a37:=Tryz.isAgg218
 z37:=Tryz.sizeOf218
 v37:=Tryz.zeroValue218
 t46:=Tryz.underlying130
 a46:=Tryz.isAgg130
 z46:=Tryz.sizeOf130
 v46:=Tryz.zeroValue130
 t51:=Tryz.underlying170
 a51:=Tryz.isAgg170
 z51:=Tryz.sizeOf170
 v51:=Tryz.zeroValue170
 t53:=Tryz.underlying173
 a53:=Tryz.isAgg173
 z53:=Tryz.sizeOf173
 v53:=Tryz.zeroValue173
 t171:=Tryz.underlying229
 a171:=Tryz.isAgg229
 z171:=Tryz.sizeOf229
 v171:=Tryz.zeroValue229
 t173:=Tryz.underlying232
 a173:=Tryz.isAgg232
 z173:=Tryz.sizeOf232
 v173:=Tryz.zeroValue232
 t212:=Tryz.underlying235
 a212:=Tryz.isAgg235
 z212:=Tryz.sizeOf235
 v212:=Tryz.zeroValue235
 t213:=Tryz.underlying236
 a213:=Tryz.isAgg236
 z213:=Tryz.sizeOf236
 t232:=Tryz.underlying239
 a232:=Tryz.isAgg239
 z232:=Tryz.sizeOf239
 v232:=Tryz.zeroValue239
 t233:=Tryz.underlying240
 a233:=Tryz.isAgg240
 z233:=Tryz.sizeOf240
 v233:=Tryz.zeroValue240
 g17:=by kernel_rfl
 g18:=by kernel_rfl
 g19:=by kernel_rfl
 i0:=by kernel_rfl
 i2:=by kernel_rfl
 i3:=by kernel_rfl
 i4:=by kernel_rfl
 i5:=by kernel_rfl
 i9:=by kernel_rfl
 i20:=by kernel_rfl
 i37:=by kernel_rfl
 i46:=by kernel_rfl
 i51:=by kernel_rfl
 i53:=by kernel_rfl
 i171:=by kernel_rfl
 i173:=by kernel_rfl
 i212:=by kernel_rfl
 i232:=by kernel_rfl
 i233:=by kernel_rfl
 m17:=by kernel_rfl
 m18:=by kernel_rfl
 m19:=by kernel_rfl}
theorem Tryz.strconv_Itoa (n:Int) (h0: -9223372036854775808≤n) (h1:n≤9223372036854775807) (w:World) (htab:Lib.TabIs Tryz.prog w "internal/strconv.uint64pow10" .u64 Lib.pow10Tab):
 Calls Tryz.prog 180 #[.int .i64 n] w fun e w'=>e=.returned (.string ⟨(Lib.itoa n).toArray⟩)∧∃k os,w'=grow (w.drewN k) os:=Any.strconv_Itoa Tryz.laysM171 n h0 h1 w htab
end Go.Proofs
namespace Go.Pm
open Go.Am
theorem zCj:Go.Am.ItoaH Go.Proofs.Tryz.prog 180:=⟨zCm,⟨_,rfl,by kernel_rfl⟩,Go.Proofs.Tryz.strconv_Itoa⟩
end Go.Pm
