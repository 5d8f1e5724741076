import Derived.Test.YtoljmkdfamffmaaGreatPmW
import Derived.Test.YtoljmkdfamffmaaGreatProg
import Derived.KernelRfl
namespace Go.Pm
open Go.Am
open Go.Proofs
set_option maxRecDepth 100000
@[go_sem] theorem tk3 : tk Tryz.prog 3 = some (false, 1) := by kernel_rfl
@[go_sem] theorem zr3 : zr Tryz.prog 3 = some [.int .i64 0] := by kernel_rfl
@[go_sem] theorem ezT3 : ezT Tryz.prog 3 = 0 := by kernel_rfl
@[go_sem] theorem ity3 : intTy Tryz.prog 3 = some .i64 := by kernel_rfl
@[go_sem] theorem ist3 : isStrTy Tryz.prog 3 = false := by kernel_rfl
@[go_sem] theorem tk4 : tk Tryz.prog 4 = some (false, 1) := by kernel_rfl
@[go_sem] theorem zr4 : zr Tryz.prog 4 = some [.bool false] := by kernel_rfl
@[go_sem] theorem ezT4 : ezT Tryz.prog 4 = 0 := by kernel_rfl
@[go_sem] theorem ibt4 : isBoolTy Tryz.prog 4 = true := by kernel_rfl
@[go_sem] theorem tk5 : tk Tryz.prog 5 = some (false, 1) := by kernel_rfl
@[go_sem] theorem zr5 : zr Tryz.prog 5 = some [.int .u8 0] := by kernel_rfl
@[go_sem] theorem ezT5 : ezT Tryz.prog 5 = 0 := by kernel_rfl
@[go_sem] theorem ity5 : intTy Tryz.prog 5 = some .u8 := by kernel_rfl
@[go_sem] theorem ist5 : isStrTy Tryz.prog 5 = false := by kernel_rfl
@[go_sem] theorem tk9 : tk Tryz.prog 9 = some (false, 1) := by kernel_rfl
@[go_sem] theorem zr9 : zr Tryz.prog 9 = some [.str ⟨#[]⟩] := by kernel_rfl
@[go_sem] theorem ezT9 : ezT Tryz.prog 9 = 0 := by kernel_rfl
@[go_sem] theorem ist9 : isStrTy Tryz.prog 9 = true := by kernel_rfl
@[go_sem] theorem tk20 : tk Tryz.prog 20 = some (false, 1) := by kernel_rfl
@[go_sem] theorem zr20 : zr Tryz.prog 20 = some [.nili] := by kernel_rfl
@[go_sem] theorem ezT20 : ezT Tryz.prog 20 = 0 := by kernel_rfl
@[go_sem] theorem tk23 : tk Tryz.prog 23 = some (true, 3) := by kernel_rfl
@[go_sem] theorem zr23 : zr Tryz.prog 23 = some [.int .i64 0, .int .i64 0, .int .i64 0] := by kernel_rfl
@[go_sem] theorem ezT23 : ezT Tryz.prog 23 = 0 := by kernel_rfl
@[go_sem] theorem bld23 : bldP Tryz.prog 23 = some (fldOff Tryz.prog 23, [.int .i64 0, .int .i64 0, .int .i64 0]) := by kernel_rfl
@[go_sem] theorem fld23_0 : fldOff Tryz.prog 23 0 = some (0, 1) := by kernel_rfl
@[go_sem] theorem fes23_0 : fldEs Tryz.prog 23 0 = 0 := by kernel_rfl
@[go_sem] theorem fld23_1 : fldOff Tryz.prog 23 1 = some (1, 1) := by kernel_rfl
@[go_sem] theorem fes23_1 : fldEs Tryz.prog 23 1 = 0 := by kernel_rfl
@[go_sem] theorem fld23_2 : fldOff Tryz.prog 23 2 = some (2, 1) := by kernel_rfl
@[go_sem] theorem fes23_2 : fldEs Tryz.prog 23 2 = 0 := by kernel_rfl
@[go_sem] theorem tk24 : tk Tryz.prog 24 = some (false, 1) := by kernel_rfl
@[go_sem] theorem zr24 : zr Tryz.prog 24 = some [.sl true 1 []] := by kernel_rfl
@[go_sem] theorem ezT24 : ezT Tryz.prog 24 = 1 := by kernel_rfl
@[go_sem] theorem ety24 : elemTy Tryz.prog 24 = some 3 := by kernel_rfl
@[go_sem] theorem ist24 : isStrTy Tryz.prog 24 = false := by kernel_rfl
@[go_sem] theorem esz24 : esz Tryz.prog 24 = some 1 := by kernel_rfl
@[go_sem] theorem ez24 : ez Tryz.prog 24 = some (1, 8, [.int .i64 0]) := by kernel_rfl
@[go_sem] theorem fes24 {i : Nat} : fldEs Tryz.prog 24 i = 0 := by kernel_rfl
@[go_sem] theorem tk25 : tk Tryz.prog 25 = some (false, 1) := by kernel_rfl
@[go_sem] theorem zr25 : zr Tryz.prog 25 = some [.sl true 6 []] := by kernel_rfl
@[go_sem] theorem ezT25 : ezT Tryz.prog 25 = 6 := by kernel_rfl
@[go_sem] theorem ety25 : elemTy Tryz.prog 25 = some 303 := by kernel_rfl
@[go_sem] theorem ist25 : isStrTy Tryz.prog 25 = false := by kernel_rfl
@[go_sem] theorem esz25 : esz Tryz.prog 25 = some 6 := by kernel_rfl
@[go_sem] theorem ez25 : ez Tryz.prog 25 = some (6, 112, [.int .i64 0, .int .i64 0, .sl false 1 [], .sl false 1 [], .sl false 1 [], .sl false 1 []]) := by kernel_rfl
@[go_sem] theorem fes25 {i : Nat} : fldEs Tryz.prog 25 i = 0 := by kernel_rfl
@[go_sem] theorem tk27 : tk Tryz.prog 27 = some (true, 2) := by kernel_rfl
@[go_sem] theorem zr27 : zr Tryz.prog 27 = some [.sl true 1 [], .sl true 6 []] := by kernel_rfl
@[go_sem] theorem ezT27 : ezT Tryz.prog 27 = 0 := by kernel_rfl
@[go_sem] theorem bld27 : bldP Tryz.prog 27 = some (fldOff Tryz.prog 27, [.sl true 1 [], .sl true 6 []]) := by kernel_rfl
@[go_sem] theorem fld27_0 : fldOff Tryz.prog 27 0 = some (0, 1) := by kernel_rfl
@[go_sem] theorem fes27_0 : fldEs Tryz.prog 27 0 = 1 := by kernel_rfl
@[go_sem] theorem fld27_1 : fldOff Tryz.prog 27 1 = some (1, 1) := by kernel_rfl
@[go_sem] theorem fes27_1 : fldEs Tryz.prog 27 1 = 6 := by kernel_rfl
@[go_sem] theorem tk29 : tk Tryz.prog 29 = some (true, 3) := by kernel_rfl
@[go_sem] theorem zr29 : zr Tryz.prog 29 = some [.sl true 1 [], .sl true 1 [], .sl true 1 []] := by kernel_rfl
@[go_sem] theorem ezT29 : ezT Tryz.prog 29 = 0 := by kernel_rfl
@[go_sem] theorem bld29 : bldP Tryz.prog 29 = some (fldOff Tryz.prog 29, [.sl true 1 [], .sl true 1 [], .sl true 1 []]) := by kernel_rfl
@[go_sem] theorem fld29_0 : fldOff Tryz.prog 29 0 = some (0, 1) := by kernel_rfl
@[go_sem] theorem fes29_0 : fldEs Tryz.prog 29 0 = 1 := by kernel_rfl
@[go_sem] theorem fld29_1 : fldOff Tryz.prog 29 1 = some (1, 1) := by kernel_rfl
@[go_sem] theorem fes29_1 : fldEs Tryz.prog 29 1 = 1 := by kernel_rfl
@[go_sem] theorem fld29_2 : fldOff Tryz.prog 29 2 = some (2, 1) := by kernel_rfl
@[go_sem] theorem fes29_2 : fldEs Tryz.prog 29 2 = 1 := by kernel_rfl
@[go_sem] theorem tk31 : tk Tryz.prog 31 = some (true, 6) := by kernel_rfl
@[go_sem] theorem zr31 : zr Tryz.prog 31 = some [.int .i64 0, .int .i64 0, .int .i64 0, .sl true 1 [], .sl true 1 [], .sl true 1 []] := by kernel_rfl
@[go_sem] theorem ezT31 : ezT Tryz.prog 31 = 0 := by kernel_rfl
@[go_sem] theorem bld31 : bldP Tryz.prog 31 = some (fldOff Tryz.prog 31, [.int .i64 0, .int .i64 0, .int .i64 0, .sl true 1 [], .sl true 1 [], .sl true 1 []]) := by kernel_rfl
@[go_sem] theorem fld31_0 : fldOff Tryz.prog 31 0 = some (0, 1) := by kernel_rfl
@[go_sem] theorem fes31_0 : fldEs Tryz.prog 31 0 = 0 := by kernel_rfl
@[go_sem] theorem fld31_1 : fldOff Tryz.prog 31 1 = some (1, 1) := by kernel_rfl
@[go_sem] theorem fes31_1 : fldEs Tryz.prog 31 1 = 0 := by kernel_rfl
@[go_sem] theorem fld31_2 : fldOff Tryz.prog 31 2 = some (2, 1) := by kernel_rfl
@[go_sem] theorem fes31_2 : fldEs Tryz.prog 31 2 = 0 := by kernel_rfl
@[go_sem] theorem fld31_3 : fldOff Tryz.prog 31 3 = some (3, 3) := by kernel_rfl
@[go_sem] theorem fes31_3 : fldEs Tryz.prog 31 3 = 0 := by kernel_rfl
@[go_sem] theorem tk36 : tk Tryz.prog 36 = some (true, 3) := by kernel_rfl
@[go_sem] theorem zr36 : zr Tryz.prog 36 = some [.int .i64 0, .int .i64 0, .int .i64 0] := by kernel_rfl
@[go_sem] theorem ezT36 : ezT Tryz.prog 36 = 0 := by kernel_rfl
@[go_sem] theorem bld36 : bldP Tryz.prog 36 = some (fldOff Tryz.prog 36, [.int .i64 0, .int .i64 0, .int .i64 0]) := by kernel_rfl
@[go_sem] theorem fld36_0 : fldOff Tryz.prog 36 0 = some (0, 1) := by kernel_rfl
@[go_sem] theorem fes36_0 : fldEs Tryz.prog 36 0 = 0 := by kernel_rfl
@[go_sem] theorem fld36_1 : fldOff Tryz.prog 36 1 = some (1, 1) := by kernel_rfl
@[go_sem] theorem fes36_1 : fldEs Tryz.prog 36 1 = 0 := by kernel_rfl
@[go_sem] theorem fld36_2 : fldOff Tryz.prog 36 2 = some (2, 1) := by kernel_rfl
@[go_sem] theorem fes36_2 : fldEs Tryz.prog 36 2 = 0 := by kernel_rfl
@[go_sem] theorem tk38 : tk Tryz.prog 38 = some (false, 1) := by kernel_rfl
@[go_sem] theorem zr38 : zr Tryz.prog 38 = some [.sl true 6 []] := by kernel_rfl
@[go_sem] theorem ezT38 : ezT Tryz.prog 38 = 6 := by kernel_rfl
@[go_sem] theorem ety38 : elemTy Tryz.prog 38 = some 58 := by kernel_rfl
@[go_sem] theorem ist38 : isStrTy Tryz.prog 38 = false := by kernel_rfl
@[go_sem] theorem esz38 : esz Tryz.prog 38 = some 6 := by kernel_rfl
@[go_sem] theorem ez38 : ez Tryz.prog 38 = some (6, 112, [.int .i64 0, .int .i64 0, .sl false 1 [], .sl false 1 [], .sl false 1 [], .sl false 1 []]) := by kernel_rfl
@[go_sem] theorem fes38 {i : Nat} : fldEs Tryz.prog 38 i = 0 := by kernel_rfl
@[go_sem] theorem tk40 : tk Tryz.prog 40 = some (true, 2) := by kernel_rfl
@[go_sem] theorem zr40 : zr Tryz.prog 40 = some [.sl true 1 [], .sl true 6 []] := by kernel_rfl
@[go_sem] theorem ezT40 : ezT Tryz.prog 40 = 0 := by kernel_rfl
@[go_sem] theorem bld40 : bldP Tryz.prog 40 = some (fldOff Tryz.prog 40, [.sl true 1 [], .sl true 6 []]) := by kernel_rfl
@[go_sem] theorem fld40_0 : fldOff Tryz.prog 40 0 = some (0, 1) := by kernel_rfl
@[go_sem] theorem fes40_0 : fldEs Tryz.prog 40 0 = 1 := by kernel_rfl
@[go_sem] theorem fld40_1 : fldOff Tryz.prog 40 1 = some (1, 1) := by kernel_rfl
@[go_sem] theorem fes40_1 : fldEs Tryz.prog 40 1 = 6 := by kernel_rfl
@[go_sem] theorem tk42 : tk Tryz.prog 42 = some (true, 3) := by kernel_rfl
@[go_sem] theorem zr42 : zr Tryz.prog 42 = some [.sl true 1 [], .sl true 1 [], .sl true 1 []] := by kernel_rfl
@[go_sem] theorem ezT42 : ezT Tryz.prog 42 = 0 := by kernel_rfl
@[go_sem] theorem bld42 : bldP Tryz.prog 42 = some (fldOff Tryz.prog 42, [.sl true 1 [], .sl true 1 [], .sl true 1 []]) := by kernel_rfl
@[go_sem] theorem fld42_0 : fldOff Tryz.prog 42 0 = some (0, 1) := by kernel_rfl
@[go_sem] theorem fes42_0 : fldEs Tryz.prog 42 0 = 1 := by kernel_rfl
@[go_sem] theorem fld42_1 : fldOff Tryz.prog 42 1 = some (1, 1) := by kernel_rfl
@[go_sem] theorem fes42_1 : fldEs Tryz.prog 42 1 = 1 := by kernel_rfl
@[go_sem] theorem fld42_2 : fldOff Tryz.prog 42 2 = some (2, 1) := by kernel_rfl
@[go_sem] theorem fes42_2 : fldEs Tryz.prog 42 2 = 1 := by kernel_rfl
@[go_sem] theorem tk44 : tk Tryz.prog 44 = some (true, 6) := by kernel_rfl
@[go_sem] theorem zr44 : zr Tryz.prog 44 = some [.int .i64 0, .int .i64 0, .int .i64 0, .sl true 1 [], .sl true 1 [], .sl true 1 []] := by kernel_rfl
@[go_sem] theorem ezT44 : ezT Tryz.prog 44 = 0 := by kernel_rfl
@[go_sem] theorem bld44 : bldP Tryz.prog 44 = some (fldOff Tryz.prog 44, [.int .i64 0, .int .i64 0, .int .i64 0, .sl true 1 [], .sl true 1 [], .sl true 1 []]) := by kernel_rfl
@[go_sem] theorem fld44_0 : fldOff Tryz.prog 44 0 = some (0, 1) := by kernel_rfl
@[go_sem] theorem fes44_0 : fldEs Tryz.prog 44 0 = 0 := by kernel_rfl
@[go_sem] theorem fld44_1 : fldOff Tryz.prog 44 1 = some (1, 1) := by kernel_rfl
@[go_sem] theorem fes44_1 : fldEs Tryz.prog 44 1 = 0 := by kernel_rfl
@[go_sem] theorem fld44_2 : fldOff Tryz.prog 44 2 = some (2, 1) := by kernel_rfl
@[go_sem] theorem fes44_2 : fldEs Tryz.prog 44 2 = 0 := by kernel_rfl
@[go_sem] theorem fld44_3 : fldOff Tryz.prog 44 3 = some (3, 3) := by kernel_rfl
@[go_sem] theorem fes44_3 : fldEs Tryz.prog 44 3 = 0 := by kernel_rfl
@[go_sem] theorem tk53 : tk Tryz.prog 53 = some (false, 1) := by kernel_rfl
@[go_sem] theorem zr53 : zr Tryz.prog 53 = some [.sl true 1 []] := by kernel_rfl
@[go_sem] theorem ezT53 : ezT Tryz.prog 53 = 1 := by kernel_rfl
@[go_sem] theorem ety53 : elemTy Tryz.prog 53 = some 5 := by kernel_rfl
@[go_sem] theorem ist53 : isStrTy Tryz.prog 53 = false := by kernel_rfl
@[go_sem] theorem esz53 : esz Tryz.prog 53 = some 1 := by kernel_rfl
@[go_sem] theorem ibs53 : isByS Tryz.prog 53 = true := by kernel_rfl
@[go_sem] theorem ez53 : ez Tryz.prog 53 = some (1, 1, [.int .u8 0]) := by kernel_rfl
@[go_sem] theorem fes53 {i : Nat} : fldEs Tryz.prog 53 i = 0 := by kernel_rfl
@[go_sem] theorem tk58 : tk Tryz.prog 58 = some (true, 6) := by kernel_rfl
@[go_sem] theorem zr58 : zr Tryz.prog 58 = some [.int .i64 0, .int .i64 0, .sl true 1 [], .sl true 1 [], .sl true 1 [], .sl true 1 []] := by kernel_rfl
@[go_sem] theorem ezT58 : ezT Tryz.prog 58 = 0 := by kernel_rfl
@[go_sem] theorem bld58 : bldP Tryz.prog 58 = some (fldOff Tryz.prog 58, [.int .i64 0, .int .i64 0, .sl true 1 [], .sl true 1 [], .sl true 1 [], .sl true 1 []]) := by kernel_rfl
@[go_sem] theorem fld58_0 : fldOff Tryz.prog 58 0 = some (0, 1) := by kernel_rfl
@[go_sem] theorem fes58_0 : fldEs Tryz.prog 58 0 = 0 := by kernel_rfl
@[go_sem] theorem fld58_1 : fldOff Tryz.prog 58 1 = some (1, 1) := by kernel_rfl
@[go_sem] theorem fes58_1 : fldEs Tryz.prog 58 1 = 0 := by kernel_rfl
@[go_sem] theorem fld58_2 : fldOff Tryz.prog 58 2 = some (2, 1) := by kernel_rfl
@[go_sem] theorem fes58_2 : fldEs Tryz.prog 58 2 = 1 := by kernel_rfl
@[go_sem] theorem fld58_3 : fldOff Tryz.prog 58 3 = some (3, 3) := by kernel_rfl
@[go_sem] theorem fes58_3 : fldEs Tryz.prog 58 3 = 0 := by kernel_rfl
@[go_sem] theorem tk74 : tk Tryz.prog 74 = some (true, 5) := by kernel_rfl
@[go_sem] theorem zr74 : zr Tryz.prog 74 = some [.int .i64 0, .int .i64 0, .int .i64 0, .int .i64 0, .int .i64 0] := by kernel_rfl
@[go_sem] theorem ezT74 : ezT Tryz.prog 74 = 0 := by kernel_rfl
@[go_sem] theorem bld74 : bldP Tryz.prog 74 = some (fldOff Tryz.prog 74, [.int .i64 0, .int .i64 0, .int .i64 0, .int .i64 0, .int .i64 0]) := by kernel_rfl
@[go_sem] theorem fld74_0 : fldOff Tryz.prog 74 0 = some (0, 1) := by kernel_rfl
@[go_sem] theorem fes74_0 : fldEs Tryz.prog 74 0 = 0 := by kernel_rfl
@[go_sem] theorem fld74_1 : fldOff Tryz.prog 74 1 = some (1, 1) := by kernel_rfl
@[go_sem] theorem fes74_1 : fldEs Tryz.prog 74 1 = 0 := by kernel_rfl
@[go_sem] theorem fld74_2 : fldOff Tryz.prog 74 2 = some (2, 1) := by kernel_rfl
@[go_sem] theorem fes74_2 : fldEs Tryz.prog 74 2 = 0 := by kernel_rfl
@[go_sem] theorem fld74_3 : fldOff Tryz.prog 74 3 = some (3, 1) := by kernel_rfl
@[go_sem] theorem fes74_3 : fldEs Tryz.prog 74 3 = 0 := by kernel_rfl
@[go_sem] theorem fld74_4 : fldOff Tryz.prog 74 4 = some (4, 1) := by kernel_rfl
@[go_sem] theorem fes74_4 : fldEs Tryz.prog 74 4 = 0 := by kernel_rfl
@[go_sem] theorem tk77 : tk Tryz.prog 77 = some (false, 1) := by kernel_rfl
@[go_sem] theorem zr77 : zr Tryz.prog 77 = some [.sl true 2 []] := by kernel_rfl
@[go_sem] theorem ezT77 : ezT Tryz.prog 77 = 2 := by kernel_rfl
@[go_sem] theorem ety77 : elemTy Tryz.prog 77 = some 84 := by kernel_rfl
@[go_sem] theorem ist77 : isStrTy Tryz.prog 77 = false := by kernel_rfl
@[go_sem] theorem esz77 : esz Tryz.prog 77 = some 2 := by kernel_rfl
@[go_sem] theorem ez77 : ez Tryz.prog 77 = some (2, 16, [.int .i64 0, .int .i64 0]) := by kernel_rfl
@[go_sem] theorem fes77 {i : Nat} : fldEs Tryz.prog 77 i = 0 := by kernel_rfl
@[go_sem] theorem tk78 : tk Tryz.prog 78 = some (false, 1) := by kernel_rfl
@[go_sem] theorem zr78 : zr Tryz.prog 78 = some [.sl true 3 []] := by kernel_rfl
@[go_sem] theorem ezT78 : ezT Tryz.prog 78 = 3 := by kernel_rfl
@[go_sem] theorem ety78 : elemTy Tryz.prog 78 = some 42 := by kernel_rfl
@[go_sem] theorem ist78 : isStrTy Tryz.prog 78 = false := by kernel_rfl
@[go_sem] theorem esz78 : esz Tryz.prog 78 = some 3 := by kernel_rfl
@[go_sem] theorem ez78 : ez Tryz.prog 78 = some (3, 72, [.sl false 1 [], .sl false 1 [], .sl false 1 []]) := by kernel_rfl
@[go_sem] theorem fes78 {i : Nat} : fldEs Tryz.prog 78 i = 0 := by kernel_rfl
@[go_sem] theorem tk80 : tk Tryz.prog 80 = some (true, 6) := by kernel_rfl
@[go_sem] theorem zr80 : zr Tryz.prog 80 = some [.int .i64 0, .sl true 2 [], .sl true 3 [], .sl true 1 [], .sl true 1 [], .sl true 1 []] := by kernel_rfl
@[go_sem] theorem ezT80 : ezT Tryz.prog 80 = 0 := by kernel_rfl
@[go_sem] theorem bld80 : bldP Tryz.prog 80 = some (fldOff Tryz.prog 80, [.int .i64 0, .sl true 2 [], .sl true 3 [], .sl true 1 [], .sl true 1 [], .sl true 1 []]) := by kernel_rfl
@[go_sem] theorem fld80_0 : fldOff Tryz.prog 80 0 = some (0, 1) := by kernel_rfl
@[go_sem] theorem fes80_0 : fldEs Tryz.prog 80 0 = 0 := by kernel_rfl
@[go_sem] theorem fld80_1 : fldOff Tryz.prog 80 1 = some (1, 1) := by kernel_rfl
@[go_sem] theorem fes80_1 : fldEs Tryz.prog 80 1 = 2 := by kernel_rfl
@[go_sem] theorem fld80_2 : fldOff Tryz.prog 80 2 = some (2, 1) := by kernel_rfl
@[go_sem] theorem fes80_2 : fldEs Tryz.prog 80 2 = 3 := by kernel_rfl
@[go_sem] theorem fld80_3 : fldOff Tryz.prog 80 3 = some (3, 3) := by kernel_rfl
@[go_sem] theorem fes80_3 : fldEs Tryz.prog 80 3 = 0 := by kernel_rfl
@[go_sem] theorem tk84 : tk Tryz.prog 84 = some (true, 2) := by kernel_rfl
@[go_sem] theorem zr84 : zr Tryz.prog 84 = some [.int .i64 0, .int .i64 0] := by kernel_rfl
@[go_sem] theorem ezT84 : ezT Tryz.prog 84 = 0 := by kernel_rfl
@[go_sem] theorem bld84 : bldP Tryz.prog 84 = some (fldOff Tryz.prog 84, [.int .i64 0, .int .i64 0]) := by kernel_rfl
@[go_sem] theorem fld84_0 : fldOff Tryz.prog 84 0 = some (0, 1) := by kernel_rfl
@[go_sem] theorem fes84_0 : fldEs Tryz.prog 84 0 = 0 := by kernel_rfl
@[go_sem] theorem fld84_1 : fldOff Tryz.prog 84 1 = some (1, 1) := by kernel_rfl
@[go_sem] theorem fes84_1 : fldEs Tryz.prog 84 1 = 0 := by kernel_rfl
@[go_sem] theorem tk91 : tk Tryz.prog 91 = some (true, 13) := by kernel_rfl
@[go_sem] theorem zr91 : zr Tryz.prog 91 = some [.int .i64 0, .int .i64 0, .int .i64 0, .int .i64 0, .int .i64 0, .int .i64 0, .int .i64 0, .int .i64 0, .int .i64 0, .int .i64 0, .int .i64 0, .int .i64 0, .int .i64 0] := by kernel_rfl
@[go_sem] theorem ezT91 : ezT Tryz.prog 91 = 0 := by kernel_rfl
@[go_sem] theorem bld91 : bldP Tryz.prog 91 = some (fldOff Tryz.prog 91, [.int .i64 0, .int .i64 0, .int .i64 0, .int .i64 0, .int .i64 0, .int .i64 0, .int .i64 0, .int .i64 0, .int .i64 0, .int .i64 0, .int .i64 0, .int .i64 0, .int .i64 0]) := by kernel_rfl
@[go_sem] theorem fld91_0 : fldOff Tryz.prog 91 0 = some (0, 3) := by kernel_rfl
@[go_sem] theorem fes91_0 : fldEs Tryz.prog 91 0 = 0 := by kernel_rfl
@[go_sem] theorem fld91_1 : fldOff Tryz.prog 91 1 = some (3, 5) := by kernel_rfl
@[go_sem] theorem fes91_1 : fldEs Tryz.prog 91 1 = 0 := by kernel_rfl
@[go_sem] theorem fld91_2 : fldOff Tryz.prog 91 2 = some (8, 1) := by kernel_rfl
@[go_sem] theorem fes91_2 : fldEs Tryz.prog 91 2 = 0 := by kernel_rfl
@[go_sem] theorem fld91_3 : fldOff Tryz.prog 91 3 = some (9, 1) := by kernel_rfl
@[go_sem] theorem fes91_3 : fldEs Tryz.prog 91 3 = 0 := by kernel_rfl
@[go_sem] theorem fld91_4 : fldOff Tryz.prog 91 4 = some (10, 1) := by kernel_rfl
@[go_sem] theorem fes91_4 : fldEs Tryz.prog 91 4 = 0 := by kernel_rfl
@[go_sem] theorem fld91_5 : fldOff Tryz.prog 91 5 = some (11, 1) := by kernel_rfl
@[go_sem] theorem fes91_5 : fldEs Tryz.prog 91 5 = 0 := by kernel_rfl
@[go_sem] theorem fld91_6 : fldOff Tryz.prog 91 6 = some (12, 1) := by kernel_rfl
@[go_sem] theorem fes91_6 : fldEs Tryz.prog 91 6 = 0 := by kernel_rfl
@[go_sem] theorem tk100 : tk Tryz.prog 100 = some (false, 1) := by kernel_rfl
@[go_sem] theorem zr100 : zr Tryz.prog 100 = some [.sl true 6 []] := by kernel_rfl
@[go_sem] theorem ezT100 : ezT Tryz.prog 100 = 6 := by kernel_rfl
@[go_sem] theorem ety100 : elemTy Tryz.prog 100 = some 44 := by kernel_rfl
@[go_sem] theorem ist100 : isStrTy Tryz.prog 100 = false := by kernel_rfl
@[go_sem] theorem esz100 : esz Tryz.prog 100 = some 6 := by kernel_rfl
@[go_sem] theorem ez100 : ez Tryz.prog 100 = some (6, 96, [.int .i64 0, .int .i64 0, .int .i64 0, .sl false 1 [], .sl false 1 [], .sl false 1 []]) := by kernel_rfl
@[go_sem] theorem fes100 {i : Nat} : fldEs Tryz.prog 100 i = 0 := by kernel_rfl
@[go_sem] theorem tk104 : tk Tryz.prog 104 = some (true, 12) := by kernel_rfl
@[go_sem] theorem zr104 : zr Tryz.prog 104 = some [.int .i64 0, .int .i64 0, .int .i64 0, .sl true 1 [], .sl true 1 [], .sl true 1 [], .int .i64 0, .int .i64 0, .int .i64 0, .sl true 1 [], .sl true 1 [], .sl true 1 []] := by kernel_rfl
@[go_sem] theorem ezT104 : ezT Tryz.prog 104 = 0 := by kernel_rfl
@[go_sem] theorem bld104 : bldP Tryz.prog 104 = some (fldOff Tryz.prog 104, [.int .i64 0, .int .i64 0, .int .i64 0, .sl true 1 [], .sl true 1 [], .sl true 1 [], .int .i64 0, .int .i64 0, .int .i64 0, .sl true 1 [], .sl true 1 [], .sl true 1 []]) := by kernel_rfl
@[go_sem] theorem fld104_0 : fldOff Tryz.prog 104 0 = some (0, 6) := by kernel_rfl
@[go_sem] theorem fes104_0 : fldEs Tryz.prog 104 0 = 0 := by kernel_rfl
@[go_sem] theorem fld104_1 : fldOff Tryz.prog 104 1 = some (6, 6) := by kernel_rfl
@[go_sem] theorem fes104_1 : fldEs Tryz.prog 104 1 = 0 := by kernel_rfl
@[go_sem] theorem tk113 : tk Tryz.prog 113 = some (false, 1) := by kernel_rfl
@[go_sem] theorem zr113 : zr Tryz.prog 113 = some [.sl true 1 []] := by kernel_rfl
@[go_sem] theorem ezT113 : ezT Tryz.prog 113 = 1 := by kernel_rfl
@[go_sem] theorem ety113 : elemTy Tryz.prog 113 = some 24 := by kernel_rfl
@[go_sem] theorem ist113 : isStrTy Tryz.prog 113 = false := by kernel_rfl
@[go_sem] theorem esz113 : esz Tryz.prog 113 = some 1 := by kernel_rfl
@[go_sem] theorem ez113 : ez Tryz.prog 113 = some (1, 24, [.sl false 1 []]) := by kernel_rfl
@[go_sem] theorem fes113 {i : Nat} : fldEs Tryz.prog 113 i = 1 := by kernel_rfl
@[go_sem] theorem tk114 : tk Tryz.prog 114 = some (false, 1) := by kernel_rfl
@[go_sem] theorem zr114 : zr Tryz.prog 114 = some [.sl true 4 []] := by kernel_rfl
@[go_sem] theorem ezT114 : ezT Tryz.prog 114 = 4 := by kernel_rfl
@[go_sem] theorem ety114 : elemTy Tryz.prog 114 = some 254 := by kernel_rfl
@[go_sem] theorem ist114 : isStrTy Tryz.prog 114 = false := by kernel_rfl
@[go_sem] theorem esz114 : esz Tryz.prog 114 = some 4 := by kernel_rfl
@[go_sem] theorem ez114 : ez Tryz.prog 114 = some (4, 32, [.int .i64 0, .int .i64 0, .int .i64 0, .bool false]) := by kernel_rfl
@[go_sem] theorem fes114 {i : Nat} : fldEs Tryz.prog 114 i = 0 := by kernel_rfl
@[go_sem] theorem tk117 : tk Tryz.prog 117 = some (false, 1) := by kernel_rfl
@[go_sem] theorem zr117 : zr Tryz.prog 117 = some [.sl true 2 []] := by kernel_rfl
@[go_sem] theorem ezT117 : ezT Tryz.prog 117 = 2 := by kernel_rfl
@[go_sem] theorem ety117 : elemTy Tryz.prog 117 = some 121 := by kernel_rfl
@[go_sem] theorem ist117 : isStrTy Tryz.prog 117 = false := by kernel_rfl
@[go_sem] theorem esz117 : esz Tryz.prog 117 = some 2 := by kernel_rfl
@[go_sem] theorem ez117 : ez Tryz.prog 117 = some (2, 48, [.sl false 1 [], .sl false 1 []]) := by kernel_rfl
@[go_sem] theorem fes117 {i : Nat} : fldEs Tryz.prog 117 i = 0 := by kernel_rfl
@[go_sem] theorem tk121 : tk Tryz.prog 121 = some (true, 2) := by kernel_rfl
@[go_sem] theorem zr121 : zr Tryz.prog 121 = some [.sl true 1 [], .sl true 1 []] := by kernel_rfl
@[go_sem] theorem ezT121 : ezT Tryz.prog 121 = 0 := by kernel_rfl
@[go_sem] theorem bld121 : bldP Tryz.prog 121 = some (fldOff Tryz.prog 121, [.sl true 1 [], .sl true 1 []]) := by kernel_rfl
@[go_sem] theorem fld121_0 : fldOff Tryz.prog 121 0 = some (0, 1) := by kernel_rfl
@[go_sem] theorem fes121_0 : fldEs Tryz.prog 121 0 = 1 := by kernel_rfl
@[go_sem] theorem fld121_1 : fldOff Tryz.prog 121 1 = some (1, 1) := by kernel_rfl
@[go_sem] theorem fes121_1 : fldEs Tryz.prog 121 1 = 1 := by kernel_rfl
@[go_sem] theorem tk133 : tk Tryz.prog 133 = some (true, 9) := by kernel_rfl
@[go_sem] theorem zr133 : zr Tryz.prog 133 = some [.int .i64 0, .int .i64 0, .int .i64 0, .int .i64 0, .int .i64 0, .int .i64 0, .int .i64 0, .int .i64 0, .int .i64 0] := by kernel_rfl
@[go_sem] theorem ezT133 : ezT Tryz.prog 133 = 0 := by kernel_rfl
@[go_sem] theorem bld133 : bldP Tryz.prog 133 = some (fldOff Tryz.prog 133, [.int .i64 0, .int .i64 0, .int .i64 0, .int .i64 0, .int .i64 0, .int .i64 0, .int .i64 0, .int .i64 0, .int .i64 0]) := by kernel_rfl
@[go_sem] theorem fld133_0 : fldOff Tryz.prog 133 0 = some (0, 5) := by kernel_rfl
@[go_sem] theorem fes133_0 : fldEs Tryz.prog 133 0 = 0 := by kernel_rfl
@[go_sem] theorem fld133_1 : fldOff Tryz.prog 133 1 = some (5, 1) := by kernel_rfl
@[go_sem] theorem fes133_1 : fldEs Tryz.prog 133 1 = 0 := by kernel_rfl
@[go_sem] theorem fld133_2 : fldOff Tryz.prog 133 2 = some (6, 1) := by kernel_rfl
@[go_sem] theorem fes133_2 : fldEs Tryz.prog 133 2 = 0 := by kernel_rfl
@[go_sem] theorem fld133_3 : fldOff Tryz.prog 133 3 = some (7, 1) := by kernel_rfl
@[go_sem] theorem fes133_3 : fldEs Tryz.prog 133 3 = 0 := by kernel_rfl
@[go_sem] theorem fld133_4 : fldOff Tryz.prog 133 4 = some (8, 1) := by kernel_rfl
@[go_sem] theorem fes133_4 : fldEs Tryz.prog 133 4 = 0 := by kernel_rfl
@[go_sem] theorem tk138 : tk Tryz.prog 138 = some (false, 1) := by kernel_rfl
@[go_sem] theorem zr138 : zr Tryz.prog 138 = some [.sl true 1 []] := by kernel_rfl
@[go_sem] theorem ezT138 : ezT Tryz.prog 138 = 1 := by kernel_rfl
@[go_sem] theorem ety138 : elemTy Tryz.prog 138 = some 144 := by kernel_rfl
@[go_sem] theorem ist138 : isStrTy Tryz.prog 138 = false := by kernel_rfl
@[go_sem] theorem esz138 : esz Tryz.prog 138 = some 1 := by kernel_rfl
@[go_sem] theorem ez138 : ez Tryz.prog 138 = some (1, 24, [.sl false 6 []]) := by kernel_rfl
@[go_sem] theorem fes138 {i : Nat} : fldEs Tryz.prog 138 i = 0 := by kernel_rfl
@[go_sem] theorem tk144 : tk Tryz.prog 144 = some (true, 1) := by kernel_rfl
@[go_sem] theorem zr144 : zr Tryz.prog 144 = some [.sl true 6 []] := by kernel_rfl
@[go_sem] theorem ezT144 : ezT Tryz.prog 144 = 0 := by kernel_rfl
@[go_sem] theorem bld144 : bldP Tryz.prog 144 = some (fldOff Tryz.prog 144, [.sl true 6 []]) := by kernel_rfl
@[go_sem] theorem fld144_0 : fldOff Tryz.prog 144 0 = some (0, 1) := by kernel_rfl
@[go_sem] theorem fes144_0 : fldEs Tryz.prog 144 0 = 6 := by kernel_rfl
@[go_sem] theorem tk167 : tk Tryz.prog 167 = some (false, 1) := by kernel_rfl
@[go_sem] theorem zr167 : zr Tryz.prog 167 = some [.sl true 7 []] := by kernel_rfl
@[go_sem] theorem ezT167 : ezT Tryz.prog 167 = 7 := by kernel_rfl
@[go_sem] theorem ety167 : elemTy Tryz.prog 167 = some 174 := by kernel_rfl
@[go_sem] theorem ist167 : isStrTy Tryz.prog 167 = false := by kernel_rfl
@[go_sem] theorem esz167 : esz Tryz.prog 167 = some 7 := by kernel_rfl
@[go_sem] theorem ez167 : ez Tryz.prog 167 = some (7, 104, [.int .i64 0, .int .i64 0, .int .i64 0, .int .i64 0, .sl false 1 [], .sl false 1 [], .sl false 1 []]) := by kernel_rfl
@[go_sem] theorem fes167 {i : Nat} : fldEs Tryz.prog 167 i = 0 := by kernel_rfl
@[go_sem] theorem tk174 : tk Tryz.prog 174 = some (true, 7) := by kernel_rfl
@[go_sem] theorem zr174 : zr Tryz.prog 174 = some [.int .i64 0, .int .i64 0, .int .i64 0, .int .i64 0, .sl true 1 [], .sl true 1 [], .sl true 1 []] := by kernel_rfl
@[go_sem] theorem ezT174 : ezT Tryz.prog 174 = 0 := by kernel_rfl
@[go_sem] theorem bld174 : bldP Tryz.prog 174 = some (fldOff Tryz.prog 174, [.int .i64 0, .int .i64 0, .int .i64 0, .int .i64 0, .sl true 1 [], .sl true 1 [], .sl true 1 []]) := by kernel_rfl
@[go_sem] theorem fld174_0 : fldOff Tryz.prog 174 0 = some (0, 2) := by kernel_rfl
@[go_sem] theorem fes174_0 : fldEs Tryz.prog 174 0 = 0 := by kernel_rfl
@[go_sem] theorem fld174_1 : fldOff Tryz.prog 174 1 = some (2, 2) := by kernel_rfl
@[go_sem] theorem fes174_1 : fldEs Tryz.prog 174 1 = 0 := by kernel_rfl
@[go_sem] theorem fld174_2 : fldOff Tryz.prog 174 2 = some (4, 3) := by kernel_rfl
@[go_sem] theorem fes174_2 : fldEs Tryz.prog 174 2 = 0 := by kernel_rfl
@[go_sem] theorem tk191 : tk Tryz.prog 191 = some (false, 1) := by kernel_rfl
@[go_sem] theorem zr191 : zr Tryz.prog 191 = some [.nilp] := by kernel_rfl
@[go_sem] theorem ezT191 : ezT Tryz.prog 191 = 0 := by kernel_rfl
@[go_sem] theorem tk192 : tk Tryz.prog 192 = some (false, 1) := by kernel_rfl
@[go_sem] theorem zr192 : zr Tryz.prog 192 = some [.int .u64 0] := by kernel_rfl
@[go_sem] theorem ezT192 : ezT Tryz.prog 192 = 0 := by kernel_rfl
@[go_sem] theorem ity192 : intTy Tryz.prog 192 = some .u64 := by kernel_rfl
@[go_sem] theorem ist192 : isStrTy Tryz.prog 192 = false := by kernel_rfl
@[go_sem] theorem tk194 : tk Tryz.prog 194 = some (true, 3) := by kernel_rfl
@[go_sem] theorem zr194 : zr Tryz.prog 194 = some [.sl true 1 [], .int .i64 0, .int .u64 0] := by kernel_rfl
@[go_sem] theorem ezT194 : ezT Tryz.prog 194 = 0 := by kernel_rfl
@[go_sem] theorem bld194 : bldP Tryz.prog 194 = some (fldOff Tryz.prog 194, [.sl true 1 [], .int .i64 0, .int .u64 0]) := by kernel_rfl
@[go_sem] theorem fld194_0 : fldOff Tryz.prog 194 0 = some (0, 1) := by kernel_rfl
@[go_sem] theorem fes194_0 : fldEs Tryz.prog 194 0 = 1 := by kernel_rfl
@[go_sem] theorem fld194_1 : fldOff Tryz.prog 194 1 = some (1, 1) := by kernel_rfl
@[go_sem] theorem fes194_1 : fldEs Tryz.prog 194 1 = 0 := by kernel_rfl
@[go_sem] theorem fld194_2 : fldOff Tryz.prog 194 2 = some (2, 1) := by kernel_rfl
@[go_sem] theorem fes194_2 : fldEs Tryz.prog 194 2 = 0 := by kernel_rfl
@[go_sem] theorem tk205 : tk Tryz.prog 205 = some (false, 1) := by kernel_rfl
@[go_sem] theorem zr205 : zr Tryz.prog 205 = some [.nilf] := by kernel_rfl
@[go_sem] theorem ezT205 : ezT Tryz.prog 205 = 0 := by kernel_rfl
@[go_sem] theorem tk240 : tk Tryz.prog 240 = some (false, 1) := by kernel_rfl
@[go_sem] theorem zr240 : zr Tryz.prog 240 = some [.nilf] := by kernel_rfl
@[go_sem] theorem ezT240 : ezT Tryz.prog 240 = 0 := by kernel_rfl
@[go_sem] theorem tk254 : tk Tryz.prog 254 = some (true, 4) := by kernel_rfl
@[go_sem] theorem zr254 : zr Tryz.prog 254 = some [.int .i64 0, .int .i64 0, .int .i64 0, .bool false] := by kernel_rfl
@[go_sem] theorem ezT254 : ezT Tryz.prog 254 = 0 := by kernel_rfl
@[go_sem] theorem bld254 : bldP Tryz.prog 254 = some (fldOff Tryz.prog 254, [.int .i64 0, .int .i64 0, .int .i64 0, .bool false]) := by kernel_rfl
@[go_sem] theorem fld254_0 : fldOff Tryz.prog 254 0 = some (0, 1) := by kernel_rfl
@[go_sem] theorem fes254_0 : fldEs Tryz.prog 254 0 = 0 := by kernel_rfl
@[go_sem] theorem fld254_1 : fldOff Tryz.prog 254 1 = some (1, 1) := by kernel_rfl
@[go_sem] theorem fes254_1 : fldEs Tryz.prog 254 1 = 0 := by kernel_rfl
@[go_sem] theorem fld254_2 : fldOff Tryz.prog 254 2 = some (2, 1) := by kernel_rfl
@[go_sem] theorem fes254_2 : fldEs Tryz.prog 254 2 = 0 := by kernel_rfl
@[go_sem] theorem fld254_3 : fldOff Tryz.prog 254 3 = some (3, 1) := by kernel_rfl
@[go_sem] theorem fes254_3 : fldEs Tryz.prog 254 3 = 0 := by kernel_rfl
@[go_sem] theorem tk258 : tk Tryz.prog 258 = some (false, 1) := by kernel_rfl
@[go_sem] theorem zr258 : zr Tryz.prog 258 = some [.sl true 1 []] := by kernel_rfl
@[go_sem] theorem ezT258 : ezT Tryz.prog 258 = 1 := by kernel_rfl
@[go_sem] theorem ety258 : elemTy Tryz.prog 258 = some 4 := by kernel_rfl
@[go_sem] theorem ist258 : isStrTy Tryz.prog 258 = false := by kernel_rfl
@[go_sem] theorem esz258 : esz Tryz.prog 258 = some 1 := by kernel_rfl
@[go_sem] theorem ez258 : ez Tryz.prog 258 = some (1, 1, [.bool false]) := by kernel_rfl
@[go_sem] theorem fes258 {i : Nat} : fldEs Tryz.prog 258 i = 0 := by kernel_rfl
@[go_sem] theorem tk270 : tk Tryz.prog 270 = some (false, 1) := by kernel_rfl
@[go_sem] theorem zr270 : zr Tryz.prog 270 = some [.nilf] := by kernel_rfl
@[go_sem] theorem ezT270 : ezT Tryz.prog 270 = 0 := by kernel_rfl
@[go_sem] theorem tk286 : tk Tryz.prog 286 = some (false, 1) := by kernel_rfl
@[go_sem] theorem zr286 : zr Tryz.prog 286 = some [.nilf] := by kernel_rfl
@[go_sem] theorem ezT286 : ezT Tryz.prog 286 = 0 := by kernel_rfl
@[go_sem] theorem tk295 : tk Tryz.prog 295 = some (false, 1) := by kernel_rfl
@[go_sem] theorem zr295 : zr Tryz.prog 295 = some [.nilf] := by kernel_rfl
@[go_sem] theorem ezT295 : ezT Tryz.prog 295 = 0 := by kernel_rfl
@[go_sem] theorem tk303 : tk Tryz.prog 303 = some (true, 6) := by kernel_rfl
@[go_sem] theorem zr303 : zr Tryz.prog 303 = some [.int .i64 0, .int .i64 0, .sl true 1 [], .sl true 1 [], .sl true 1 [], .sl true 1 []] := by kernel_rfl
@[go_sem] theorem ezT303 : ezT Tryz.prog 303 = 0 := by kernel_rfl
@[go_sem] theorem bld303 : bldP Tryz.prog 303 = some (fldOff Tryz.prog 303, [.int .i64 0, .int .i64 0, .sl true 1 [], .sl true 1 [], .sl true 1 [], .sl true 1 []]) := by kernel_rfl
@[go_sem] theorem fld303_0 : fldOff Tryz.prog 303 0 = some (0, 1) := by kernel_rfl
@[go_sem] theorem fes303_0 : fldEs Tryz.prog 303 0 = 0 := by kernel_rfl
@[go_sem] theorem fld303_1 : fldOff Tryz.prog 303 1 = some (1, 1) := by kernel_rfl
@[go_sem] theorem fes303_1 : fldEs Tryz.prog 303 1 = 0 := by kernel_rfl
@[go_sem] theorem fld303_2 : fldOff Tryz.prog 303 2 = some (2, 1) := by kernel_rfl
@[go_sem] theorem fes303_2 : fldEs Tryz.prog 303 2 = 1 := by kernel_rfl
@[go_sem] theorem fld303_3 : fldOff Tryz.prog 303 3 = some (3, 3) := by kernel_rfl
@[go_sem] theorem fes303_3 : fldEs Tryz.prog 303 3 = 0 := by kernel_rfl
@[go_sem] theorem tk332 : tk Tryz.prog 332 = some (false, 1) := by kernel_rfl
@[go_sem] theorem zr332 : zr Tryz.prog 332 = some [.sl true 4 []] := by kernel_rfl
@[go_sem] theorem ezT332 : ezT Tryz.prog 332 = 4 := by kernel_rfl
@[go_sem] theorem ety332 : elemTy Tryz.prog 332 = some 392 := by kernel_rfl
@[go_sem] theorem ist332 : isStrTy Tryz.prog 332 = false := by kernel_rfl
@[go_sem] theorem esz332 : esz Tryz.prog 332 = some 4 := by kernel_rfl
@[go_sem] theorem ez332 : ez Tryz.prog 332 = some (4, 32, [.int .i64 0, .int .i64 0, .int .i64 0, .int .i64 0]) := by kernel_rfl
@[go_sem] theorem fes332 {i : Nat} : fldEs Tryz.prog 332 i = 0 := by kernel_rfl
@[go_sem] theorem tk336 : tk Tryz.prog 336 = some (false, 1) := by kernel_rfl
@[go_sem] theorem zr336 : zr Tryz.prog 336 = some [.nilf] := by kernel_rfl
@[go_sem] theorem ezT336 : ezT Tryz.prog 336 = 0 := by kernel_rfl
@[go_sem] theorem tk342 : tk Tryz.prog 342 = some (true, 2) := by kernel_rfl
@[go_sem] theorem zr342 : zr Tryz.prog 342 = some [.int .i64 0, .sl true 1 []] := by kernel_rfl
@[go_sem] theorem ezT342 : ezT Tryz.prog 342 = 0 := by kernel_rfl
@[go_sem] theorem bld342 : bldP Tryz.prog 342 = some (fldOff Tryz.prog 342, [.int .i64 0, .sl true 1 []]) := by kernel_rfl
@[go_sem] theorem fld342_0 : fldOff Tryz.prog 342 0 = some (0, 1) := by kernel_rfl
@[go_sem] theorem fes342_0 : fldEs Tryz.prog 342 0 = 0 := by kernel_rfl
@[go_sem] theorem fld342_1 : fldOff Tryz.prog 342 1 = some (1, 1) := by kernel_rfl
@[go_sem] theorem fes342_1 : fldEs Tryz.prog 342 1 = 1 := by kernel_rfl
@[go_sem] theorem tk348 : tk Tryz.prog 348 = some (false, 1) := by kernel_rfl
@[go_sem] theorem zr348 : zr Tryz.prog 348 = some [.sl true 1 []] := by kernel_rfl
@[go_sem] theorem ezT348 : ezT Tryz.prog 348 = 1 := by kernel_rfl
@[go_sem] theorem ety348 : elemTy Tryz.prog 348 = some 9 := by kernel_rfl
@[go_sem] theorem ist348 : isStrTy Tryz.prog 348 = false := by kernel_rfl
@[go_sem] theorem esz348 : esz Tryz.prog 348 = some 1 := by kernel_rfl
@[go_sem] theorem ez348 : ez Tryz.prog 348 = some (1, 16, [.str ⟨#[]⟩]) := by kernel_rfl
@[go_sem] theorem fes348 {i : Nat} : fldEs Tryz.prog 348 i = 0 := by kernel_rfl
@[go_sem] theorem tk359 : tk Tryz.prog 359 = some (false, 1) := by kernel_rfl
@[go_sem] theorem zr359 : zr Tryz.prog 359 = some [.nilf] := by kernel_rfl
@[go_sem] theorem ezT359 : ezT Tryz.prog 359 = 0 := by kernel_rfl
@[go_sem] theorem tk369 : tk Tryz.prog 369 = some (false, 1) := by kernel_rfl
@[go_sem] theorem zr369 : zr Tryz.prog 369 = some [.nilf] := by kernel_rfl
@[go_sem] theorem ezT369 : ezT Tryz.prog 369 = 0 := by kernel_rfl
@[go_sem] theorem tk378 : tk Tryz.prog 378 = some (false, 1) := by kernel_rfl
@[go_sem] theorem zr378 : zr Tryz.prog 378 = some [.int .u64 0] := by kernel_rfl
@[go_sem] theorem ezT378 : ezT Tryz.prog 378 = 0 := by kernel_rfl
@[go_sem] theorem ity378 : intTy Tryz.prog 378 = some .u64 := by kernel_rfl
@[go_sem] theorem ist378 : isStrTy Tryz.prog 378 = false := by kernel_rfl
@[go_sem] theorem tk386 : tk Tryz.prog 386 = some (false, 1) := by kernel_rfl
@[go_sem] theorem zr386 : zr Tryz.prog 386 = some [.sl true 1 []] := by kernel_rfl
@[go_sem] theorem ezT386 : ezT Tryz.prog 386 = 1 := by kernel_rfl
@[go_sem] theorem ety386 : elemTy Tryz.prog 386 = some 38 := by kernel_rfl
@[go_sem] theorem ist386 : isStrTy Tryz.prog 386 = false := by kernel_rfl
@[go_sem] theorem esz386 : esz Tryz.prog 386 = some 1 := by kernel_rfl
@[go_sem] theorem ez386 : ez Tryz.prog 386 = some (1, 24, [.sl false 6 []]) := by kernel_rfl
@[go_sem] theorem fes386 {i : Nat} : fldEs Tryz.prog 386 i = 6 := by kernel_rfl
@[go_sem] theorem tk392 : tk Tryz.prog 392 = some (true, 4) := by kernel_rfl
@[go_sem] theorem zr392 : zr Tryz.prog 392 = some [.int .i64 0, .int .i64 0, .int .i64 0, .int .i64 0] := by kernel_rfl
@[go_sem] theorem ezT392 : ezT Tryz.prog 392 = 0 := by kernel_rfl
@[go_sem] theorem bld392 : bldP Tryz.prog 392 = some (fldOff Tryz.prog 392, [.int .i64 0, .int .i64 0, .int .i64 0, .int .i64 0]) := by kernel_rfl
@[go_sem] theorem fld392_0 : fldOff Tryz.prog 392 0 = some (0, 1) := by kernel_rfl
@[go_sem] theorem fes392_0 : fldEs Tryz.prog 392 0 = 0 := by kernel_rfl
@[go_sem] theorem fld392_1 : fldOff Tryz.prog 392 1 = some (1, 1) := by kernel_rfl
@[go_sem] theorem fes392_1 : fldEs Tryz.prog 392 1 = 0 := by kernel_rfl
@[go_sem] theorem fld392_2 : fldOff Tryz.prog 392 2 = some (2, 1) := by kernel_rfl
@[go_sem] theorem fes392_2 : fldEs Tryz.prog 392 2 = 0 := by kernel_rfl
@[go_sem] theorem fld392_3 : fldOff Tryz.prog 392 3 = some (3, 1) := by kernel_rfl
@[go_sem] theorem fes392_3 : fldEs Tryz.prog 392 3 = 0 := by kernel_rfl
@[go_sem] theorem tk402 : tk Tryz.prog 402 = some (false, 1) := by kernel_rfl
@[go_sem] theorem zr402 : zr Tryz.prog 402 = some [.nilp] := by kernel_rfl
@[go_sem] theorem ezT402 : ezT Tryz.prog 402 = 0 := by kernel_rfl
@[go_sem] theorem tk404 : tk Tryz.prog 404 = some (true, 2) := by kernel_rfl
@[go_sem] theorem zr404 : zr Tryz.prog 404 = some [.int .i64 0, .int .i64 0] := by kernel_rfl
@[go_sem] theorem ezT404 : ezT Tryz.prog 404 = 0 := by kernel_rfl
@[go_sem] theorem bld404 : bldP Tryz.prog 404 = some (fldOff Tryz.prog 404, [.int .i64 0, .int .i64 0]) := by kernel_rfl
@[go_sem] theorem fld404_0 : fldOff Tryz.prog 404 0 = some (0, 1) := by kernel_rfl
@[go_sem] theorem fes404_0 : fldEs Tryz.prog 404 0 = 0 := by kernel_rfl
@[go_sem] theorem fld404_1 : fldOff Tryz.prog 404 1 = some (1, 1) := by kernel_rfl
@[go_sem] theorem fes404_1 : fldEs Tryz.prog 404 1 = 0 := by kernel_rfl
@[go_sem] theorem tk417 : tk Tryz.prog 417 = some (false, 1) := by kernel_rfl
@[go_sem] theorem zr417 : zr Tryz.prog 417 = some [.int .i64 0] := by kernel_rfl
@[go_sem] theorem ezT417 : ezT Tryz.prog 417 = 0 := by kernel_rfl
@[go_sem] theorem ity417 : intTy Tryz.prog 417 = some .i64 := by kernel_rfl
@[go_sem] theorem ist417 : isStrTy Tryz.prog 417 = false := by kernel_rfl
@[go_sem] theorem tk424 : tk Tryz.prog 424 = some (false, 1) := by kernel_rfl
@[go_sem] theorem zr424 : zr Tryz.prog 424 = some [.int .u32 0] := by kernel_rfl
@[go_sem] theorem ezT424 : ezT Tryz.prog 424 = 0 := by kernel_rfl
@[go_sem] theorem ity424 : intTy Tryz.prog 424 = some .u32 := by kernel_rfl
@[go_sem] theorem ist424 : isStrTy Tryz.prog 424 = false := by kernel_rfl
@[go_sem] theorem tk433 : tk Tryz.prog 433 = some (false, 1) := by kernel_rfl
@[go_sem] theorem zr433 : zr Tryz.prog 433 = some [.int .u64 0] := by kernel_rfl
@[go_sem] theorem ezT433 : ezT Tryz.prog 433 = 0 := by kernel_rfl
@[go_sem] theorem ity433 : intTy Tryz.prog 433 = some .u64 := by kernel_rfl
@[go_sem] theorem ist433 : isStrTy Tryz.prog 433 = false := by kernel_rfl
@[go_sem] theorem tk437 : tk Tryz.prog 437 = some (false, 1) := by kernel_rfl
@[go_sem] theorem zr437 : zr Tryz.prog 437 = some [.nilp] := by kernel_rfl
@[go_sem] theorem ezT437 : ezT Tryz.prog 437 = 0 := by kernel_rfl
@[go_sem] theorem tk440 : tk Tryz.prog 440 = some (false, 1) := by kernel_rfl
@[go_sem] theorem zr440 : zr Tryz.prog 440 = some [.nilp] := by kernel_rfl
@[go_sem] theorem ezT440 : ezT Tryz.prog 440 = 0 := by kernel_rfl
theorem follows : Tryz.prog.follows .mixedOrders = true := by kernel_rfl
theorem cl9 : Callable Tryz.prog 9 := fun args w => Tryz.call9 args w
theorem cl14 : Callable Tryz.prog 14 := fun args w => Tryz.call14 args w
theorem cl17 : Callable Tryz.prog 17 := fun args w => Tryz.call17 args w
theorem cl18 : Callable Tryz.prog 18 := fun args w => Tryz.call18 args w
theorem cl21 : Callable Tryz.prog 21 := fun args w => Tryz.call21 args w
theorem cl22 : Callable Tryz.prog 22 := fun args w => Tryz.call22 args w
theorem cl77 : Callable Tryz.prog 77 := fun args w => Tryz.call77 args w
theorem cl78 : Callable Tryz.prog 78 := fun args w => Tryz.call78 args w
theorem cl79 : Callable Tryz.prog 79 := fun args w => Tryz.call79 args w
theorem cl111 : Callable Tryz.prog 111 := fun args w => Tryz.call111 args w
theorem cl112 : Callable Tryz.prog 112 := fun args w => Tryz.call112 args w
theorem cl113 : Callable Tryz.prog 113 := fun args w => Tryz.call113 args w
theorem cl114 : Callable Tryz.prog 114 := fun args w => Tryz.call114 args w
theorem cl115 : Callable Tryz.prog 115 := fun args w => Tryz.call115 args w
theorem cl117 : Callable Tryz.prog 117 := fun args w => Tryz.call117 args w
theorem cl120 : Callable Tryz.prog 120 := fun args w => Tryz.call120 args w
theorem cl121 : Callable Tryz.prog 121 := fun args w => Tryz.call121 args w
theorem cl122 : Callable Tryz.prog 122 := fun args w => Tryz.call122 args w
theorem cl123 : Callable Tryz.prog 123 := fun args w => Tryz.call123 args w
theorem cl125 : Callable Tryz.prog 125 := fun args w => Tryz.call125 args w
theorem cl128 : Callable Tryz.prog 128 := fun args w => Tryz.call128 args w
theorem cl129 : Callable Tryz.prog 129 := fun args w => Tryz.call129 args w
theorem cl135 : Callable Tryz.prog 135 := fun args w => Tryz.call135 args w
theorem cl137 : Callable Tryz.prog 137 := fun args w => Tryz.call137 args w
theorem cl140 : Callable Tryz.prog 140 := fun args w => Tryz.call140 args w
theorem cl142 : Callable Tryz.prog 142 := fun args w => Tryz.call142 args w
theorem cl143 : Callable Tryz.prog 143 := fun args w => Tryz.call143 args w
theorem cl144 : Callable Tryz.prog 144 := fun args w => Tryz.call144 args w
theorem cl145 : Callable Tryz.prog 145 := fun args w => Tryz.call145 args w
theorem cl151 : Callable Tryz.prog 151 := fun args w => Tryz.call151 args w
theorem cl155 : Callable Tryz.prog 155 := fun args w => Tryz.call155 args w
theorem cl156 : Callable Tryz.prog 156 := fun args w => Tryz.call156 args w
theorem cl160 : Callable Tryz.prog 160 := fun args w => Tryz.call160 args w
theorem cl166 : Callable Tryz.prog 166 := fun args w => Tryz.call166 args w
theorem cl168 : Callable Tryz.prog 168 := fun args w => Tryz.call168 args w
theorem cl173 : Callable Tryz.prog 173 := fun args w => Tryz.call173 args w
theorem cl175 : Callable Tryz.prog 175 := fun args w => Tryz.call175 args w
theorem cl186 : Callable Tryz.prog 186 := fun args w => Tryz.call186 args w
theorem cl188 : Callable Tryz.prog 188 := fun args w => Tryz.call188 args w
theorem cl191 : Callable Tryz.prog 191 := fun args w => Tryz.call191 args w
theorem cl199 : Callable Tryz.prog 199 := fun args w => Tryz.call199 args w
theorem cl202 : Callable Tryz.prog 202 := fun args w => Tryz.call202 args w
theorem cl232 : Callable Tryz.prog 232 := fun args w => Tryz.call232 args w
theorem cl233 : Callable Tryz.prog 233 := fun args w => Tryz.call233 args w
theorem cl234 : Callable Tryz.prog 234 := fun args w => Tryz.call234 args w
theorem cl235 : Callable Tryz.prog 235 := fun args w => Tryz.call235 args w
theorem cl271 : Callable Tryz.prog 271 := fun args w => Tryz.call271 args w
theorem cl272 : Callable Tryz.prog 272 := fun args w => Tryz.call272 args w
theorem cl273 : Callable Tryz.prog 273 := fun args w => Tryz.call273 args w
theorem cl274 : Callable Tryz.prog 274 := fun args w => Tryz.call274 args w
theorem cl277 : Callable Tryz.prog 277 := fun args w => Tryz.call277 args w
theorem cl278 : Callable Tryz.prog 278 := fun args w => Tryz.call278 args w
theorem cl280 : Callable Tryz.prog 280 := fun args w => Tryz.call280 args w
theorem cl285 : Callable Tryz.prog 285 := fun args w => Tryz.call285 args w
theorem cl287 : Callable Tryz.prog 287 := fun args w => Tryz.call287 args w
theorem cl288 : Callable Tryz.prog 288 := fun args w => Tryz.call288 args w
theorem cl290 : Callable Tryz.prog 290 := fun args w => Tryz.call290 args w
theorem cl291 : Callable Tryz.prog 291 := fun args w => Tryz.call291 args w
theorem cl292 : Callable Tryz.prog 292 := fun args w => Tryz.call292 args w
theorem cl294 : Callable Tryz.prog 294 := fun args w => Tryz.call294 args w
theorem cl295 : Callable Tryz.prog 295 := fun args w => Tryz.call295 args w
theorem cl296 : Callable Tryz.prog 296 := fun args w => Tryz.call296 args w
theorem cl297 : Callable Tryz.prog 297 := fun args w => Tryz.call297 args w
theorem cl298 : Callable Tryz.prog 298 := fun args w => Tryz.call298 args w
theorem cl307 : Callable Tryz.prog 307 := fun args w => Tryz.call307 args w
theorem cl309 : Callable Tryz.prog 309 := fun args w => Tryz.call309 args w
theorem cl310 : Callable Tryz.prog 310 := fun args w => Tryz.call310 args w
theorem cl314 : Callable Tryz.prog 314 := fun args w => Tryz.call314 args w
theorem cl322 : Callable Tryz.prog 322 := fun args w => Tryz.call322 args w
theorem cl323 : Callable Tryz.prog 323 := fun args w => Tryz.call323 args w
theorem cl324 : Callable Tryz.prog 324 := fun args w => Tryz.call324 args w
theorem cl328 : Callable Tryz.prog 328 := fun args w => Tryz.call328 args w
theorem cl329 : Callable Tryz.prog 329 := fun args w => Tryz.call329 args w
theorem cl330 : Callable Tryz.prog 330 := fun args w => Tryz.call330 args w
theorem cl331 : Callable Tryz.prog 331 := fun args w => Tryz.call331 args w
theorem cl332 : Callable Tryz.prog 332 := fun args w => Tryz.call332 args w
theorem cl333 : Callable Tryz.prog 333 := fun args w => Tryz.call333 args w
theorem cl337 : Callable Tryz.prog 337 := fun args w => Tryz.call337 args w
theorem cl338 : Callable Tryz.prog 338 := fun args w => Tryz.call338 args w
theorem cl343 : Callable Tryz.prog 343 := fun args w => Tryz.call343 args w
theorem cl345 : Callable Tryz.prog 345 := fun args w => Tryz.call345 args w
theorem cl351 : Callable Tryz.prog 351 := fun args w => Tryz.call351 args w
theorem cl352 : Callable Tryz.prog 352 := fun args w => Tryz.call352 args w
theorem cl362 : Callable Tryz.prog 362 := fun args w => Tryz.call362 args w
theorem cl375 : Callable Tryz.prog 375 := fun args w => Tryz.call375 args w
theorem cl376 : Callable Tryz.prog 376 := fun args w => Tryz.call376 args w
theorem cl377 : Callable Tryz.prog 377 := fun args w => Tryz.call377 args w
theorem cl378 : Callable Tryz.prog 378 := fun args w => Tryz.call378 args w
theorem cl379 : Callable Tryz.prog 379 := fun args w => Tryz.call379 args w
theorem cl386 : Callable Tryz.prog 386 := fun args w => Tryz.call386 args w
theorem cl402 : Callable Tryz.prog 402 := fun args w => Tryz.call402 args w
theorem cl403 : Callable Tryz.prog 403 := fun args w => Tryz.call403 args w
theorem cl407 : Callable Tryz.prog 407 := fun args w => Tryz.call407 args w
theorem cl409 : Callable Tryz.prog 409 := fun args w => Tryz.call409 args w
theorem cl410 : Callable Tryz.prog 410 := fun args w => Tryz.call410 args w
theorem cl413 : Callable Tryz.prog 413 := fun args w => Tryz.call413 args w
theorem cl414 : Callable Tryz.prog 414 := fun args w => Tryz.call414 args w
theorem cl419 : Callable Tryz.prog 419 := fun args w => Tryz.call419 args w
theorem cl420 : Callable Tryz.prog 420 := fun args w => Tryz.call420 args w
theorem cl422 : Callable Tryz.prog 422 := fun args w => Tryz.call422 args w
theorem cl423 : Callable Tryz.prog 423 := fun args w => Tryz.call423 args w
theorem cl426 : Callable Tryz.prog 426 := fun args w => Tryz.call426 args w
theorem cl427 : Callable Tryz.prog 427 := fun args w => Tryz.call427 args w
theorem cl428 : Callable Tryz.prog 428 := fun args w => Tryz.call428 args w
theorem cl430 : Callable Tryz.prog 430 := fun args w => Tryz.call430 args w
theorem cl432 : Callable Tryz.prog 432 := fun args w => Tryz.call432 args w
theorem cl440 : Callable Tryz.prog 440 := fun args w => Tryz.call440 args w
theorem cl443 : Callable Tryz.prog 443 := fun args w => Tryz.call443 args w
theorem cl446 : Callable Tryz.prog 446 := fun args w => Tryz.call446 args w
theorem cl459 : Callable Tryz.prog 459 := fun args w => Tryz.call459 args w
theorem cl460 : Callable Tryz.prog 460 := fun args w => Tryz.call460 args w
theorem cl461 : Callable Tryz.prog 461 := fun args w => Tryz.call461 args w
theorem cl463 : Callable Tryz.prog 463 := fun args w => Tryz.call463 args w
theorem cl464 : Callable Tryz.prog 464 := fun args w => Tryz.call464 args w
theorem cl465 : Callable Tryz.prog 465 := fun args w => Tryz.call465 args w
theorem cl474 : Callable Tryz.prog 474 := fun args w => Tryz.call474 args w
end Go.Pm
