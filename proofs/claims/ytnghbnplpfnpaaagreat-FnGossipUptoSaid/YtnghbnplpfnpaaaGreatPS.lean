import Derived.Test.YtnghbnplpfnpaaaGreatPmW
import Derived.Test.YtnghbnplpfnpaaaGreatProg
import Derived.KernelRfl
namespace Go.Pm
open Go.Am
open Go.Proofs
set_option maxRecDepth 100000
@[go_sem] theorem tk3 : tk Tryz.prog 3 = some (false, 1) := by kernel_rfl
@[go_sem] theorem zr3 : zr Tryz.prog 3 = some [.int .i64 0] := by kernel_rfl
@[go_sem] theorem ezT3 : ezT Tryz.prog 3 = 0 := by kernel_rfl
@[go_sem] theorem ity3 : intTy Tryz.prog 3 = some .i64 := by kernel_rfl
@[go_sem] theorem ist3 : isStrTy Tryz.prog 3 = false := by kernel_rfl
@[go_sem] theorem tk4 : tk Tryz.prog 4 = some (false, 1) := by kernel_rfl
@[go_sem] theorem zr4 : zr Tryz.prog 4 = some [.bool false] := by kernel_rfl
@[go_sem] theorem ezT4 : ezT Tryz.prog 4 = 0 := by kernel_rfl
@[go_sem] theorem ibt4 : isBoolTy Tryz.prog 4 = true := by kernel_rfl
@[go_sem] theorem tk5 : tk Tryz.prog 5 = some (false, 1) := by kernel_rfl
@[go_sem] theorem zr5 : zr Tryz.prog 5 = some [.int .u8 0] := by kernel_rfl
@[go_sem] theorem ezT5 : ezT Tryz.prog 5 = 0 := by kernel_rfl
@[go_sem] theorem ity5 : intTy Tryz.prog 5 = some .u8 := by kernel_rfl
@[go_sem] theorem ist5 : isStrTy Tryz.prog 5 = false := by kernel_rfl
@[go_sem] theorem tk9 : tk Tryz.prog 9 = some (false, 1) := by kernel_rfl
@[go_sem] theorem zr9 : zr Tryz.prog 9 = some [.str ⟨#[]⟩] := by kernel_rfl
@[go_sem] theorem ezT9 : ezT Tryz.prog 9 = 0 := by kernel_rfl
@[go_sem] theorem ist9 : isStrTy Tryz.prog 9 = true := by kernel_rfl
@[go_sem] theorem tk20 : tk Tryz.prog 20 = some (false, 1) := by kernel_rfl
@[go_sem] theorem zr20 : zr Tryz.prog 20 = some [.nili] := by kernel_rfl
@[go_sem] theorem ezT20 : ezT Tryz.prog 20 = 0 := by kernel_rfl
@[go_sem] theorem tk22 : tk Tryz.prog 22 = some (false, 1) := by kernel_rfl
@[go_sem] theorem zr22 : zr Tryz.prog 22 = some [.sl true 1 []] := by kernel_rfl
@[go_sem] theorem ezT22 : ezT Tryz.prog 22 = 1 := by kernel_rfl
@[go_sem] theorem ety22 : elemTy Tryz.prog 22 = some 5 := by kernel_rfl
@[go_sem] theorem ist22 : isStrTy Tryz.prog 22 = false := by kernel_rfl
@[go_sem] theorem esz22 : esz Tryz.prog 22 = some 1 := by kernel_rfl
@[go_sem] theorem ibs22 : isByS Tryz.prog 22 = true := by kernel_rfl
@[go_sem] theorem ez22 : ez Tryz.prog 22 = some (1, 1, [.int .u8 0]) := by kernel_rfl
@[go_sem] theorem fes22 {i : Nat} : fldEs Tryz.prog 22 i = 0 := by kernel_rfl
@[go_sem] theorem tk25 : tk Tryz.prog 25 = some (true, 3) := by kernel_rfl
@[go_sem] theorem zr25 : zr Tryz.prog 25 = some [.int .i64 0, .int .i64 0, .int .i64 0] := by kernel_rfl
@[go_sem] theorem ezT25 : ezT Tryz.prog 25 = 0 := by kernel_rfl
@[go_sem] theorem bld25 : bldP Tryz.prog 25 = some (fldOff Tryz.prog 25, [.int .i64 0, .int .i64 0, .int .i64 0]) := by kernel_rfl
@[go_sem] theorem fld25_0 : fldOff Tryz.prog 25 0 = some (0, 1) := by kernel_rfl
@[go_sem] theorem fes25_0 : fldEs Tryz.prog 25 0 = 0 := by kernel_rfl
@[go_sem] theorem fld25_1 : fldOff Tryz.prog 25 1 = some (1, 1) := by kernel_rfl
@[go_sem] theorem fes25_1 : fldEs Tryz.prog 25 1 = 0 := by kernel_rfl
@[go_sem] theorem fld25_2 : fldOff Tryz.prog 25 2 = some (2, 1) := by kernel_rfl
@[go_sem] theorem fes25_2 : fldEs Tryz.prog 25 2 = 0 := by kernel_rfl
@[go_sem] theorem tk26 : tk Tryz.prog 26 = some (false, 1) := by kernel_rfl
@[go_sem] theorem zr26 : zr Tryz.prog 26 = some [.sl true 1 []] := by kernel_rfl
@[go_sem] theorem ezT26 : ezT Tryz.prog 26 = 1 := by kernel_rfl
@[go_sem] theorem ety26 : elemTy Tryz.prog 26 = some 3 := by kernel_rfl
@[go_sem] theorem ist26 : isStrTy Tryz.prog 26 = false := by kernel_rfl
@[go_sem] theorem esz26 : esz Tryz.prog 26 = some 1 := by kernel_rfl
@[go_sem] theorem ez26 : ez Tryz.prog 26 = some (1, 8, [.int .i64 0]) := by kernel_rfl
@[go_sem] theorem fes26 {i : Nat} : fldEs Tryz.prog 26 i = 0 := by kernel_rfl
@[go_sem] theorem tk27 : tk Tryz.prog 27 = some (false, 1) := by kernel_rfl
@[go_sem] theorem zr27 : zr Tryz.prog 27 = some [.sl true 6 []] := by kernel_rfl
@[go_sem] theorem ezT27 : ezT Tryz.prog 27 = 6 := by kernel_rfl
@[go_sem] theorem ety27 : elemTy Tryz.prog 27 = some 33 := by kernel_rfl
@[go_sem] theorem ist27 : isStrTy Tryz.prog 27 = false := by kernel_rfl
@[go_sem] theorem esz27 : esz Tryz.prog 27 = some 6 := by kernel_rfl
@[go_sem] theorem ez27 : ez Tryz.prog 27 = some (6, 96, [.int .i64 0, .int .i64 0, .int .i64 0, .sl false 1 [], .sl false 1 [], .sl false 1 []]) := by kernel_rfl
@[go_sem] theorem fes27 {i : Nat} : fldEs Tryz.prog 27 i = 0 := by kernel_rfl
@[go_sem] theorem tk31 : tk Tryz.prog 31 = some (true, 3) := by kernel_rfl
@[go_sem] theorem zr31 : zr Tryz.prog 31 = some [.sl true 1 [], .sl true 1 [], .sl true 1 []] := by kernel_rfl
@[go_sem] theorem ezT31 : ezT Tryz.prog 31 = 0 := by kernel_rfl
@[go_sem] theorem bld31 : bldP Tryz.prog 31 = some (fldOff Tryz.prog 31, [.sl true 1 [], .sl true 1 [], .sl true 1 []]) := by kernel_rfl
@[go_sem] theorem fld31_0 : fldOff Tryz.prog 31 0 = some (0, 1) := by kernel_rfl
@[go_sem] theorem fes31_0 : fldEs Tryz.prog 31 0 = 1 := by kernel_rfl
@[go_sem] theorem fld31_1 : fldOff Tryz.prog 31 1 = some (1, 1) := by kernel_rfl
@[go_sem] theorem fes31_1 : fldEs Tryz.prog 31 1 = 1 := by kernel_rfl
@[go_sem] theorem fld31_2 : fldOff Tryz.prog 31 2 = some (2, 1) := by kernel_rfl
@[go_sem] theorem fes31_2 : fldEs Tryz.prog 31 2 = 1 := by kernel_rfl
@[go_sem] theorem tk33 : tk Tryz.prog 33 = some (true, 6) := by kernel_rfl
@[go_sem] theorem zr33 : zr Tryz.prog 33 = some [.int .i64 0, .int .i64 0, .int .i64 0, .sl true 1 [], .sl true 1 [], .sl true 1 []] := by kernel_rfl
@[go_sem] theorem ezT33 : ezT Tryz.prog 33 = 0 := by kernel_rfl
@[go_sem] theorem bld33 : bldP Tryz.prog 33 = some (fldOff Tryz.prog 33, [.int .i64 0, .int .i64 0, .int .i64 0, .sl true 1 [], .sl true 1 [], .sl true 1 []]) := by kernel_rfl
@[go_sem] theorem fld33_0 : fldOff Tryz.prog 33 0 = some (0, 1) := by kernel_rfl
@[go_sem] theorem fes33_0 : fldEs Tryz.prog 33 0 = 0 := by kernel_rfl
@[go_sem] theorem fld33_1 : fldOff Tryz.prog 33 1 = some (1, 1) := by kernel_rfl
@[go_sem] theorem fes33_1 : fldEs Tryz.prog 33 1 = 0 := by kernel_rfl
@[go_sem] theorem fld33_2 : fldOff Tryz.prog 33 2 = some (2, 1) := by kernel_rfl
@[go_sem] theorem fes33_2 : fldEs Tryz.prog 33 2 = 0 := by kernel_rfl
@[go_sem] theorem fld33_3 : fldOff Tryz.prog 33 3 = some (3, 3) := by kernel_rfl
@[go_sem] theorem fes33_3 : fldEs Tryz.prog 33 3 = 0 := by kernel_rfl
@[go_sem] theorem tk35 : tk Tryz.prog 35 = some (true, 12) := by kernel_rfl
@[go_sem] theorem zr35 : zr Tryz.prog 35 = some [.int .i64 0, .int .i64 0, .int .i64 0, .sl true 1 [], .sl true 1 [], .sl true 1 [], .int .i64 0, .int .i64 0, .int .i64 0, .sl true 1 [], .sl true 1 [], .sl true 1 []] := by kernel_rfl
@[go_sem] theorem ezT35 : ezT Tryz.prog 35 = 0 := by kernel_rfl
@[go_sem] theorem bld35 : bldP Tryz.prog 35 = some (fldOff Tryz.prog 35, [.int .i64 0, .int .i64 0, .int .i64 0, .sl true 1 [], .sl true 1 [], .sl true 1 [], .int .i64 0, .int .i64 0, .int .i64 0, .sl true 1 [], .sl true 1 [], .sl true 1 []]) := by kernel_rfl
@[go_sem] theorem fld35_0 : fldOff Tryz.prog 35 0 = some (0, 6) := by kernel_rfl
@[go_sem] theorem fes35_0 : fldEs Tryz.prog 35 0 = 0 := by kernel_rfl
@[go_sem] theorem fld35_1 : fldOff Tryz.prog 35 1 = some (6, 6) := by kernel_rfl
@[go_sem] theorem fes35_1 : fldEs Tryz.prog 35 1 = 0 := by kernel_rfl
@[go_sem] theorem tk46 : tk Tryz.prog 46 = some (false, 1) := by kernel_rfl
@[go_sem] theorem zr46 : zr Tryz.prog 46 = some [.sl true 1 []] := by kernel_rfl
@[go_sem] theorem ezT46 : ezT Tryz.prog 46 = 1 := by kernel_rfl
@[go_sem] theorem ety46 : elemTy Tryz.prog 46 = some 53 := by kernel_rfl
@[go_sem] theorem ist46 : isStrTy Tryz.prog 46 = false := by kernel_rfl
@[go_sem] theorem esz46 : esz Tryz.prog 46 = some 1 := by kernel_rfl
@[go_sem] theorem ez46 : ez Tryz.prog 46 = some (1, 24, [.sl false 6 []]) := by kernel_rfl
@[go_sem] theorem fes46 {i : Nat} : fldEs Tryz.prog 46 i = 0 := by kernel_rfl
@[go_sem] theorem tk47 : tk Tryz.prog 47 = some (false, 1) := by kernel_rfl
@[go_sem] theorem zr47 : zr Tryz.prog 47 = some [.sl true 1 []] := by kernel_rfl
@[go_sem] theorem ezT47 : ezT Tryz.prog 47 = 1 := by kernel_rfl
@[go_sem] theorem ety47 : elemTy Tryz.prog 47 = some 26 := by kernel_rfl
@[go_sem] theorem ist47 : isStrTy Tryz.prog 47 = false := by kernel_rfl
@[go_sem] theorem esz47 : esz Tryz.prog 47 = some 1 := by kernel_rfl
@[go_sem] theorem ez47 : ez Tryz.prog 47 = some (1, 24, [.sl false 1 []]) := by kernel_rfl
@[go_sem] theorem fes47 {i : Nat} : fldEs Tryz.prog 47 i = 1 := by kernel_rfl
@[go_sem] theorem tk53 : tk Tryz.prog 53 = some (true, 1) := by kernel_rfl
@[go_sem] theorem zr53 : zr Tryz.prog 53 = some [.sl true 6 []] := by kernel_rfl
@[go_sem] theorem ezT53 : ezT Tryz.prog 53 = 0 := by kernel_rfl
@[go_sem] theorem bld53 : bldP Tryz.prog 53 = some (fldOff Tryz.prog 53, [.sl true 6 []]) := by kernel_rfl
@[go_sem] theorem fld53_0 : fldOff Tryz.prog 53 0 = some (0, 1) := by kernel_rfl
@[go_sem] theorem fes53_0 : fldEs Tryz.prog 53 0 = 6 := by kernel_rfl
@[go_sem] theorem tk63 : tk Tryz.prog 63 = some (false, 1) := by kernel_rfl
@[go_sem] theorem zr63 : zr Tryz.prog 63 = some [.nilp] := by kernel_rfl
@[go_sem] theorem ezT63 : ezT Tryz.prog 63 = 0 := by kernel_rfl
@[go_sem] theorem tk64 : tk Tryz.prog 64 = some (false, 1) := by kernel_rfl
@[go_sem] theorem zr64 : zr Tryz.prog 64 = some [.int .u64 0] := by kernel_rfl
@[go_sem] theorem ezT64 : ezT Tryz.prog 64 = 0 := by kernel_rfl
@[go_sem] theorem ity64 : intTy Tryz.prog 64 = some .u64 := by kernel_rfl
@[go_sem] theorem ist64 : isStrTy Tryz.prog 64 = false := by kernel_rfl
@[go_sem] theorem tk66 : tk Tryz.prog 66 = some (true, 3) := by kernel_rfl
@[go_sem] theorem zr66 : zr Tryz.prog 66 = some [.sl true 1 [], .int .i64 0, .int .u64 0] := by kernel_rfl
@[go_sem] theorem ezT66 : ezT Tryz.prog 66 = 0 := by kernel_rfl
@[go_sem] theorem bld66 : bldP Tryz.prog 66 = some (fldOff Tryz.prog 66, [.sl true 1 [], .int .i64 0, .int .u64 0]) := by kernel_rfl
@[go_sem] theorem fld66_0 : fldOff Tryz.prog 66 0 = some (0, 1) := by kernel_rfl
@[go_sem] theorem fes66_0 : fldEs Tryz.prog 66 0 = 1 := by kernel_rfl
@[go_sem] theorem fld66_1 : fldOff Tryz.prog 66 1 = some (1, 1) := by kernel_rfl
@[go_sem] theorem fes66_1 : fldEs Tryz.prog 66 1 = 0 := by kernel_rfl
@[go_sem] theorem fld66_2 : fldOff Tryz.prog 66 2 = some (2, 1) := by kernel_rfl
@[go_sem] theorem fes66_2 : fldEs Tryz.prog 66 2 = 0 := by kernel_rfl
@[go_sem] theorem tk69 : tk Tryz.prog 69 = some (false, 1) := by kernel_rfl
@[go_sem] theorem zr69 : zr Tryz.prog 69 = some [.nilf] := by kernel_rfl
@[go_sem] theorem ezT69 : ezT Tryz.prog 69 = 0 := by kernel_rfl
@[go_sem] theorem tk76 : tk Tryz.prog 76 = some (false, 1) := by kernel_rfl
@[go_sem] theorem zr76 : zr Tryz.prog 76 = some [.nilf] := by kernel_rfl
@[go_sem] theorem ezT76 : ezT Tryz.prog 76 = 0 := by kernel_rfl
@[go_sem] theorem tk87 : tk Tryz.prog 87 = some (false, 1) := by kernel_rfl
@[go_sem] theorem zr87 : zr Tryz.prog 87 = some [.sl true 1 []] := by kernel_rfl
@[go_sem] theorem ezT87 : ezT Tryz.prog 87 = 1 := by kernel_rfl
@[go_sem] theorem ety87 : elemTy Tryz.prog 87 = some 4 := by kernel_rfl
@[go_sem] theorem ist87 : isStrTy Tryz.prog 87 = false := by kernel_rfl
@[go_sem] theorem esz87 : esz Tryz.prog 87 = some 1 := by kernel_rfl
@[go_sem] theorem ez87 : ez Tryz.prog 87 = some (1, 1, [.bool false]) := by kernel_rfl
@[go_sem] theorem fes87 {i : Nat} : fldEs Tryz.prog 87 i = 0 := by kernel_rfl
@[go_sem] theorem tk98 : tk Tryz.prog 98 = some (false, 1) := by kernel_rfl
@[go_sem] theorem zr98 : zr Tryz.prog 98 = some [.nilf] := by kernel_rfl
@[go_sem] theorem ezT98 : ezT Tryz.prog 98 = 0 := by kernel_rfl
@[go_sem] theorem tk107 : tk Tryz.prog 107 = some (false, 1) := by kernel_rfl
@[go_sem] theorem zr107 : zr Tryz.prog 107 = some [.nilf] := by kernel_rfl
@[go_sem] theorem ezT107 : ezT Tryz.prog 107 = 0 := by kernel_rfl
@[go_sem] theorem tk115 : tk Tryz.prog 115 = some (false, 1) := by kernel_rfl
@[go_sem] theorem zr115 : zr Tryz.prog 115 = some [.int .u64 0] := by kernel_rfl
@[go_sem] theorem ezT115 : ezT Tryz.prog 115 = 0 := by kernel_rfl
@[go_sem] theorem ity115 : intTy Tryz.prog 115 = some .u64 := by kernel_rfl
@[go_sem] theorem ist115 : isStrTy Tryz.prog 115 = false := by kernel_rfl
@[go_sem] theorem tk148 : tk Tryz.prog 148 = some (false, 1) := by kernel_rfl
@[go_sem] theorem zr148 : zr Tryz.prog 148 = some [.int .u32 0] := by kernel_rfl
@[go_sem] theorem ezT148 : ezT Tryz.prog 148 = 0 := by kernel_rfl
@[go_sem] theorem ity148 : intTy Tryz.prog 148 = some .u32 := by kernel_rfl
@[go_sem] theorem ist148 : isStrTy Tryz.prog 148 = false := by kernel_rfl
@[go_sem] theorem tk153 : tk Tryz.prog 153 = some (false, 1) := by kernel_rfl
@[go_sem] theorem zr153 : zr Tryz.prog 153 = some [.nilp] := by kernel_rfl
@[go_sem] theorem ezT153 : ezT Tryz.prog 153 = 0 := by kernel_rfl
@[go_sem] theorem tk155 : tk Tryz.prog 155 = some (true, 2) := by kernel_rfl
@[go_sem] theorem zr155 : zr Tryz.prog 155 = some [.int .i64 0, .int .i64 0] := by kernel_rfl
@[go_sem] theorem ezT155 : ezT Tryz.prog 155 = 0 := by kernel_rfl
@[go_sem] theorem bld155 : bldP Tryz.prog 155 = some (fldOff Tryz.prog 155, [.int .i64 0, .int .i64 0]) := by kernel_rfl
@[go_sem] theorem fld155_0 : fldOff Tryz.prog 155 0 = some (0, 1) := by kernel_rfl
@[go_sem] theorem fes155_0 : fldEs Tryz.prog 155 0 = 0 := by kernel_rfl
@[go_sem] theorem fld155_1 : fldOff Tryz.prog 155 1 = some (1, 1) := by kernel_rfl
@[go_sem] theorem fes155_1 : fldEs Tryz.prog 155 1 = 0 := by kernel_rfl
theorem follows : Tryz.prog.follows .mixedOrders = true := by kernel_rfl
theorem cl4 : Callable Tryz.prog 4 := fun args w => Tryz.call4 args w
theorem cl5 : Callable Tryz.prog 5 := fun args w => Tryz.call5 args w
theorem cl14 : Callable Tryz.prog 14 := fun args w => Tryz.call14 args w
theorem cl15 : Callable Tryz.prog 15 := fun args w => Tryz.call15 args w
theorem cl16 : Callable Tryz.prog 16 := fun args w => Tryz.call16 args w
theorem cl17 : Callable Tryz.prog 17 := fun args w => Tryz.call17 args w
theorem cl18 : Callable Tryz.prog 18 := fun args w => Tryz.call18 args w
theorem cl19 : Callable Tryz.prog 19 := fun args w => Tryz.call19 args w
theorem cl20 : Callable Tryz.prog 20 := fun args w => Tryz.call20 args w
theorem cl21 : Callable Tryz.prog 21 := fun args w => Tryz.call21 args w
theorem cl22 : Callable Tryz.prog 22 := fun args w => Tryz.call22 args w
theorem cl23 : Callable Tryz.prog 23 := fun args w => Tryz.call23 args w
theorem cl24 : Callable Tryz.prog 24 := fun args w => Tryz.call24 args w
theorem cl25 : Callable Tryz.prog 25 := fun args w => Tryz.call25 args w
theorem cl26 : Callable Tryz.prog 26 := fun args w => Tryz.call26 args w
theorem cl27 : Callable Tryz.prog 27 := fun args w => Tryz.call27 args w
theorem cl28 : Callable Tryz.prog 28 := fun args w => Tryz.call28 args w
theorem cl29 : Callable Tryz.prog 29 := fun args w => Tryz.call29 args w
theorem cl30 : Callable Tryz.prog 30 := fun args w => Tryz.call30 args w
theorem cl31 : Callable Tryz.prog 31 := fun args w => Tryz.call31 args w
theorem cl32 : Callable Tryz.prog 32 := fun args w => Tryz.call32 args w
theorem cl33 : Callable Tryz.prog 33 := fun args w => Tryz.call33 args w
theorem cl34 : Callable Tryz.prog 34 := fun args w => Tryz.call34 args w
theorem cl35 : Callable Tryz.prog 35 := fun args w => Tryz.call35 args w
theorem cl37 : Callable Tryz.prog 37 := fun args w => Tryz.call37 args w
theorem cl40 : Callable Tryz.prog 40 := fun args w => Tryz.call40 args w
theorem cl41 : Callable Tryz.prog 41 := fun args w => Tryz.call41 args w
theorem cl42 : Callable Tryz.prog 42 := fun args w => Tryz.call42 args w
theorem cl43 : Callable Tryz.prog 43 := fun args w => Tryz.call43 args w
theorem cl44 : Callable Tryz.prog 44 := fun args w => Tryz.call44 args w
theorem cl45 : Callable Tryz.prog 45 := fun args w => Tryz.call45 args w
theorem cl46 : Callable Tryz.prog 46 := fun args w => Tryz.call46 args w
theorem cl47 : Callable Tryz.prog 47 := fun args w => Tryz.call47 args w
theorem cl48 : Callable Tryz.prog 48 := fun args w => Tryz.call48 args w
theorem cl49 : Callable Tryz.prog 49 := fun args w => Tryz.call49 args w
theorem cl50 : Callable Tryz.prog 50 := fun args w => Tryz.call50 args w
theorem cl51 : Callable Tryz.prog 51 := fun args w => Tryz.call51 args w
theorem cl52 : Callable Tryz.prog 52 := fun args w => Tryz.call52 args w
theorem cl53 : Callable Tryz.prog 53 := fun args w => Tryz.call53 args w
theorem cl54 : Callable Tryz.prog 54 := fun args w => Tryz.call54 args w
theorem cl55 : Callable Tryz.prog 55 := fun args w => Tryz.call55 args w
theorem cl56 : Callable Tryz.prog 56 := fun args w => Tryz.call56 args w
theorem cl57 : Callable Tryz.prog 57 := fun args w => Tryz.call57 args w
theorem cl58 : Callable Tryz.prog 58 := fun args w => Tryz.call58 args w
theorem cl59 : Callable Tryz.prog 59 := fun args w => Tryz.call59 args w
theorem cl60 : Callable Tryz.prog 60 := fun args w => Tryz.call60 args w
theorem cl61 : Callable Tryz.prog 61 := fun args w => Tryz.call61 args w
theorem cl62 : Callable Tryz.prog 62 := fun args w => Tryz.call62 args w
theorem cl63 : Callable Tryz.prog 63 := fun args w => Tryz.call63 args w
theorem cl64 : Callable Tryz.prog 64 := fun args w => Tryz.call64 args w
theorem cl65 : Callable Tryz.prog 65 := fun args w => Tryz.call65 args w
theorem cl66 : Callable Tryz.prog 66 := fun args w => Tryz.call66 args w
theorem cl67 : Callable Tryz.prog 67 := fun args w => Tryz.call67 args w
theorem cl68 : Callable Tryz.prog 68 := fun args w => Tryz.call68 args w
theorem cl69 : Callable Tryz.prog 69 := fun args w => Tryz.call69 args w
theorem cl70 : Callable Tryz.prog 70 := fun args w => Tryz.call70 args w
theorem cl71 : Callable Tryz.prog 71 := fun args w => Tryz.call71 args w
theorem cl73 : Callable Tryz.prog 73 := fun args w => Tryz.call73 args w
theorem cl74 : Callable Tryz.prog 74 := fun args w => Tryz.call74 args w
theorem cl75 : Callable Tryz.prog 75 := fun args w => Tryz.call75 args w
theorem cl76 : Callable Tryz.prog 76 := fun args w => Tryz.call76 args w
theorem cl77 : Callable Tryz.prog 77 := fun args w => Tryz.call77 args w
theorem cl78 : Callable Tryz.prog 78 := fun args w => Tryz.call78 args w
theorem cl79 : Callable Tryz.prog 79 := fun args w => Tryz.call79 args w
theorem cl80 : Callable Tryz.prog 80 := fun args w => Tryz.call80 args w
theorem cl81 : Callable Tryz.prog 81 := fun args w => Tryz.call81 args w
theorem cl82 : Callable Tryz.prog 82 := fun args w => Tryz.call82 args w
theorem cl83 : Callable Tryz.prog 83 := fun args w => Tryz.call83 args w
theorem cl84 : Callable Tryz.prog 84 := fun args w => Tryz.call84 args w
theorem cl85 : Callable Tryz.prog 85 := fun args w => Tryz.call85 args w
theorem cl86 : Callable Tryz.prog 86 := fun args w => Tryz.call86 args w
theorem cl87 : Callable Tryz.prog 87 := fun args w => Tryz.call87 args w
theorem cl88 : Callable Tryz.prog 88 := fun args w => Tryz.call88 args w
theorem cl89 : Callable Tryz.prog 89 := fun args w => Tryz.call89 args w
theorem cl90 : Callable Tryz.prog 90 := fun args w => Tryz.call90 args w
theorem cl91 : Callable Tryz.prog 91 := fun args w => Tryz.call91 args w
theorem cl92 : Callable Tryz.prog 92 := fun args w => Tryz.call92 args w
theorem cl93 : Callable Tryz.prog 93 := fun args w => Tryz.call93 args w
theorem cl94 : Callable Tryz.prog 94 := fun args w => Tryz.call94 args w
theorem cl95 : Callable Tryz.prog 95 := fun args w => Tryz.call95 args w
theorem cl96 : Callable Tryz.prog 96 := fun args w => Tryz.call96 args w
theorem cl97 : Callable Tryz.prog 97 := fun args w => Tryz.call97 args w
theorem cl98 : Callable Tryz.prog 98 := fun args w => Tryz.call98 args w
theorem cl99 : Callable Tryz.prog 99 := fun args w => Tryz.call99 args w
theorem cl100 : Callable Tryz.prog 100 := fun args w => Tryz.call100 args w
theorem cl101 : Callable Tryz.prog 101 := fun args w => Tryz.call101 args w
theorem cl104 : Callable Tryz.prog 104 := fun args w => Tryz.call104 args w
theorem cl105 : Callable Tryz.prog 105 := fun args w => Tryz.call105 args w
theorem cl106 : Callable Tryz.prog 106 := fun args w => Tryz.call106 args w
theorem cl107 : Callable Tryz.prog 107 := fun args w => Tryz.call107 args w
theorem cl108 : Callable Tryz.prog 108 := fun args w => Tryz.call108 args w
theorem cl109 : Callable Tryz.prog 109 := fun args w => Tryz.call109 args w
theorem cl110 : Callable Tryz.prog 110 := fun args w => Tryz.call110 args w
theorem cl111 : Callable Tryz.prog 111 := fun args w => Tryz.call111 args w
theorem cl112 : Callable Tryz.prog 112 := fun args w => Tryz.call112 args w
theorem cl113 : Callable Tryz.prog 113 := fun args w => Tryz.call113 args w
theorem cl114 : Callable Tryz.prog 114 := fun args w => Tryz.call114 args w
theorem cl115 : Callable Tryz.prog 115 := fun args w => Tryz.call115 args w
theorem cl116 : Callable Tryz.prog 116 := fun args w => Tryz.call116 args w
theorem cl117 : Callable Tryz.prog 117 := fun args w => Tryz.call117 args w
theorem cl118 : Callable Tryz.prog 118 := fun args w => Tryz.call118 args w
theorem cl119 : Callable Tryz.prog 119 := fun args w => Tryz.call119 args w
theorem cl120 : Callable Tryz.prog 120 := fun args w => Tryz.call120 args w
theorem cl121 : Callable Tryz.prog 121 := fun args w => Tryz.call121 args w
theorem cl122 : Callable Tryz.prog 122 := fun args w => Tryz.call122 args w
theorem cl123 : Callable Tryz.prog 123 := fun args w => Tryz.call123 args w
theorem cl125 : Callable Tryz.prog 125 := fun args w => Tryz.call125 args w
theorem cl126 : Callable Tryz.prog 126 := fun args w => Tryz.call126 args w
theorem cl127 : Callable Tryz.prog 127 := fun args w => Tryz.call127 args w
theorem cl128 : Callable Tryz.prog 128 := fun args w => Tryz.call128 args w
theorem cl129 : Callable Tryz.prog 129 := fun args w => Tryz.call129 args w
theorem cl130 : Callable Tryz.prog 130 := fun args w => Tryz.call130 args w
theorem cl131 : Callable Tryz.prog 131 := fun args w => Tryz.call131 args w
theorem cl132 : Callable Tryz.prog 132 := fun args w => Tryz.call132 args w
theorem cl133 : Callable Tryz.prog 133 := fun args w => Tryz.call133 args w
theorem cl134 : Callable Tryz.prog 134 := fun args w => Tryz.call134 args w
theorem cl135 : Callable Tryz.prog 135 := fun args w => Tryz.call135 args w
theorem cl136 : Callable Tryz.prog 136 := fun args w => Tryz.call136 args w
theorem cl137 : Callable Tryz.prog 137 := fun args w => Tryz.call137 args w
theorem cl138 : Callable Tryz.prog 138 := fun args w => Tryz.call138 args w
theorem cl139 : Callable Tryz.prog 139 := fun args w => Tryz.call139 args w
theorem cl140 : Callable Tryz.prog 140 := fun args w => Tryz.call140 args w
theorem cl141 : Callable Tryz.prog 141 := fun args w => Tryz.call141 args w
theorem cl144 : Callable Tryz.prog 144 := fun args w => Tryz.call144 args w
theorem cl145 : Callable Tryz.prog 145 := fun args w => Tryz.call145 args w
theorem cl146 : Callable Tryz.prog 146 := fun args w => Tryz.call146 args w
theorem cl147 : Callable Tryz.prog 147 := fun args w => Tryz.call147 args w
theorem cl148 : Callable Tryz.prog 148 := fun args w => Tryz.call148 args w
theorem cl149 : Callable Tryz.prog 149 := fun args w => Tryz.call149 args w
theorem cl150 : Callable Tryz.prog 150 := fun args w => Tryz.call150 args w
theorem cl151 : Callable Tryz.prog 151 := fun args w => Tryz.call151 args w
theorem cl152 : Callable Tryz.prog 152 := fun args w => Tryz.call152 args w
theorem cl153 : Callable Tryz.prog 153 := fun args w => Tryz.call153 args w
theorem cl154 : Callable Tryz.prog 154 := fun args w => Tryz.call154 args w
theorem cl155 : Callable Tryz.prog 155 := fun args w => Tryz.call155 args w
theorem cl156 : Callable Tryz.prog 156 := fun args w => Tryz.call156 args w
theorem cl157 : Callable Tryz.prog 157 := fun args w => Tryz.call157 args w
end Go.Pm
