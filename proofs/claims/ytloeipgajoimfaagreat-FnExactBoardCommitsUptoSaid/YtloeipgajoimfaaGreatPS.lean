import Derived.Test.YtloeipgajoimfaaGreatPmW
import Derived.Test.YtloeipgajoimfaaGreatProg
import Derived.KernelRfl
namespace Go.Pm
open Go.Am
open Go.Proofs
set_option maxRecDepth 100000
@[go_sem] theorem tk3 : tk Tryz.prog 3 = some (false, 1) := by kernel_rfl
@[go_sem] theorem zr3 : zr Tryz.prog 3 = some [.int .i64 0] := by kernel_rfl
@[go_sem] theorem ezT3 : ezT Tryz.prog 3 = 0 := by kernel_rfl
@[go_sem] theorem ity3 : intTy Tryz.prog 3 = some .i64 := by kernel_rfl
@[go_sem] theorem ist3 : isStrTy Tryz.prog 3 = false := by kernel_rfl
@[go_sem] theorem tk4 : tk Tryz.prog 4 = some (false, 1) := by kernel_rfl
@[go_sem] theorem zr4 : zr Tryz.prog 4 = some [.bool false] := by kernel_rfl
@[go_sem] theorem ezT4 : ezT Tryz.prog 4 = 0 := by kernel_rfl
@[go_sem] theorem ibt4 : isBoolTy Tryz.prog 4 = true := by kernel_rfl
@[go_sem] theorem tk5 : tk Tryz.prog 5 = some (false, 1) := by kernel_rfl
@[go_sem] theorem zr5 : zr Tryz.prog 5 = some [.int .u8 0] := by kernel_rfl
@[go_sem] theorem ezT5 : ezT Tryz.prog 5 = 0 := by kernel_rfl
@[go_sem] theorem ity5 : intTy Tryz.prog 5 = some .u8 := by kernel_rfl
@[go_sem] theorem ist5 : isStrTy Tryz.prog 5 = false := by kernel_rfl
@[go_sem] theorem tk9 : tk Tryz.prog 9 = some (false, 1) := by kernel_rfl
@[go_sem] theorem zr9 : zr Tryz.prog 9 = some [.str ⟨#[]⟩] := by kernel_rfl
@[go_sem] theorem ezT9 : ezT Tryz.prog 9 = 0 := by kernel_rfl
@[go_sem] theorem ist9 : isStrTy Tryz.prog 9 = true := by kernel_rfl
@[go_sem] theorem tk20 : tk Tryz.prog 20 = some (false, 1) := by kernel_rfl
@[go_sem] theorem zr20 : zr Tryz.prog 20 = some [.nili] := by kernel_rfl
@[go_sem] theorem ezT20 : ezT Tryz.prog 20 = 0 := by kernel_rfl
@[go_sem] theorem tk23 : tk Tryz.prog 23 = some (true, 3) := by kernel_rfl
@[go_sem] theorem zr23 : zr Tryz.prog 23 = some [.int .i64 0, .int .i64 0, .int .i64 0] := by kernel_rfl
@[go_sem] theorem ezT23 : ezT Tryz.prog 23 = 0 := by kernel_rfl
@[go_sem] theorem bld23 : bldP Tryz.prog 23 = some (fldOff Tryz.prog 23, [.int .i64 0, .int .i64 0, .int .i64 0]) := by kernel_rfl
@[go_sem] theorem fld23_0 : fldOff Tryz.prog 23 0 = some (0, 1) := by kernel_rfl
@[go_sem] theorem fes23_0 : fldEs Tryz.prog 23 0 = 0 := by kernel_rfl
@[go_sem] theorem fld23_1 : fldOff Tryz.prog 23 1 = some (1, 1) := by kernel_rfl
@[go_sem] theorem fes23_1 : fldEs Tryz.prog 23 1 = 0 := by kernel_rfl
@[go_sem] theorem fld23_2 : fldOff Tryz.prog 23 2 = some (2, 1) := by kernel_rfl
@[go_sem] theorem fes23_2 : fldEs Tryz.prog 23 2 = 0 := by kernel_rfl
@[go_sem] theorem tk24 : tk Tryz.prog 24 = some (false, 1) := by kernel_rfl
@[go_sem] theorem zr24 : zr Tryz.prog 24 = some [.sl true 1 []] := by kernel_rfl
@[go_sem] theorem ezT24 : ezT Tryz.prog 24 = 1 := by kernel_rfl
@[go_sem] theorem ety24 : elemTy Tryz.prog 24 = some 3 := by kernel_rfl
@[go_sem] theorem ist24 : isStrTy Tryz.prog 24 = false := by kernel_rfl
@[go_sem] theorem esz24 : esz Tryz.prog 24 = some 1 := by kernel_rfl
@[go_sem] theorem ez24 : ez Tryz.prog 24 = some (1, 8, [.int .i64 0]) := by kernel_rfl
@[go_sem] theorem fes24 {i : Nat} : fldEs Tryz.prog 24 i = 0 := by kernel_rfl
@[go_sem] theorem tk25 : tk Tryz.prog 25 = some (false, 1) := by kernel_rfl
@[go_sem] theorem zr25 : zr Tryz.prog 25 = some [.sl true 6 []] := by kernel_rfl
@[go_sem] theorem ezT25 : ezT Tryz.prog 25 = 6 := by kernel_rfl
@[go_sem] theorem ety25 : elemTy Tryz.prog 25 = some 71 := by kernel_rfl
@[go_sem] theorem ist25 : isStrTy Tryz.prog 25 = false := by kernel_rfl
@[go_sem] theorem esz25 : esz Tryz.prog 25 = some 6 := by kernel_rfl
@[go_sem] theorem ez25 : ez Tryz.prog 25 = some (6, 112, [.int .i64 0, .int .i64 0, .sl false 1 [], .sl false 1 [], .sl false 1 [], .sl false 1 []]) := by kernel_rfl
@[go_sem] theorem fes25 {i : Nat} : fldEs Tryz.prog 25 i = 0 := by kernel_rfl
@[go_sem] theorem tk27 : tk Tryz.prog 27 = some (true, 2) := by kernel_rfl
@[go_sem] theorem zr27 : zr Tryz.prog 27 = some [.sl true 1 [], .sl true 6 []] := by kernel_rfl
@[go_sem] theorem ezT27 : ezT Tryz.prog 27 = 0 := by kernel_rfl
@[go_sem] theorem bld27 : bldP Tryz.prog 27 = some (fldOff Tryz.prog 27, [.sl true 1 [], .sl true 6 []]) := by kernel_rfl
@[go_sem] theorem fld27_0 : fldOff Tryz.prog 27 0 = some (0, 1) := by kernel_rfl
@[go_sem] theorem fes27_0 : fldEs Tryz.prog 27 0 = 1 := by kernel_rfl
@[go_sem] theorem fld27_1 : fldOff Tryz.prog 27 1 = some (1, 1) := by kernel_rfl
@[go_sem] theorem fes27_1 : fldEs Tryz.prog 27 1 = 6 := by kernel_rfl
@[go_sem] theorem tk31 : tk Tryz.prog 31 = some (true, 3) := by kernel_rfl
@[go_sem] theorem zr31 : zr Tryz.prog 31 = some [.int .i64 0, .int .i64 0, .int .i64 0] := by kernel_rfl
@[go_sem] theorem ezT31 : ezT Tryz.prog 31 = 0 := by kernel_rfl
@[go_sem] theorem bld31 : bldP Tryz.prog 31 = some (fldOff Tryz.prog 31, [.int .i64 0, .int .i64 0, .int .i64 0]) := by kernel_rfl
@[go_sem] theorem fld31_0 : fldOff Tryz.prog 31 0 = some (0, 1) := by kernel_rfl
@[go_sem] theorem fes31_0 : fldEs Tryz.prog 31 0 = 0 := by kernel_rfl
@[go_sem] theorem fld31_1 : fldOff Tryz.prog 31 1 = some (1, 1) := by kernel_rfl
@[go_sem] theorem fes31_1 : fldEs Tryz.prog 31 1 = 0 := by kernel_rfl
@[go_sem] theorem fld31_2 : fldOff Tryz.prog 31 2 = some (2, 1) := by kernel_rfl
@[go_sem] theorem fes31_2 : fldEs Tryz.prog 31 2 = 0 := by kernel_rfl
@[go_sem] theorem tk33 : tk Tryz.prog 33 = some (false, 1) := by kernel_rfl
@[go_sem] theorem zr33 : zr Tryz.prog 33 = some [.sl true 6 []] := by kernel_rfl
@[go_sem] theorem ezT33 : ezT Tryz.prog 33 = 6 := by kernel_rfl
@[go_sem] theorem ety33 : elemTy Tryz.prog 33 = some 61 := by kernel_rfl
@[go_sem] theorem ist33 : isStrTy Tryz.prog 33 = false := by kernel_rfl
@[go_sem] theorem esz33 : esz Tryz.prog 33 = some 6 := by kernel_rfl
@[go_sem] theorem ez33 : ez Tryz.prog 33 = some (6, 112, [.int .i64 0, .int .i64 0, .sl false 1 [], .sl false 1 [], .sl false 1 [], .sl false 1 []]) := by kernel_rfl
@[go_sem] theorem fes33 {i : Nat} : fldEs Tryz.prog 33 i = 0 := by kernel_rfl
@[go_sem] theorem tk35 : tk Tryz.prog 35 = some (true, 2) := by kernel_rfl
@[go_sem] theorem zr35 : zr Tryz.prog 35 = some [.sl true 1 [], .sl true 6 []] := by kernel_rfl
@[go_sem] theorem ezT35 : ezT Tryz.prog 35 = 0 := by kernel_rfl
@[go_sem] theorem bld35 : bldP Tryz.prog 35 = some (fldOff Tryz.prog 35, [.sl true 1 [], .sl true 6 []]) := by kernel_rfl
@[go_sem] theorem fld35_0 : fldOff Tryz.prog 35 0 = some (0, 1) := by kernel_rfl
@[go_sem] theorem fes35_0 : fldEs Tryz.prog 35 0 = 1 := by kernel_rfl
@[go_sem] theorem fld35_1 : fldOff Tryz.prog 35 1 = some (1, 1) := by kernel_rfl
@[go_sem] theorem fes35_1 : fldEs Tryz.prog 35 1 = 6 := by kernel_rfl
@[go_sem] theorem tk44 : tk Tryz.prog 44 = some (true, 5) := by kernel_rfl
@[go_sem] theorem zr44 : zr Tryz.prog 44 = some [.int .i64 0, .int .i64 0, .int .i64 0, .int .i64 0, .int .i64 0] := by kernel_rfl
@[go_sem] theorem ezT44 : ezT Tryz.prog 44 = 0 := by kernel_rfl
@[go_sem] theorem bld44 : bldP Tryz.prog 44 = some (fldOff Tryz.prog 44, [.int .i64 0, .int .i64 0, .int .i64 0, .int .i64 0, .int .i64 0]) := by kernel_rfl
@[go_sem] theorem fld44_0 : fldOff Tryz.prog 44 0 = some (0, 1) := by kernel_rfl
@[go_sem] theorem fes44_0 : fldEs Tryz.prog 44 0 = 0 := by kernel_rfl
@[go_sem] theorem fld44_1 : fldOff Tryz.prog 44 1 = some (1, 1) := by kernel_rfl
@[go_sem] theorem fes44_1 : fldEs Tryz.prog 44 1 = 0 := by kernel_rfl
@[go_sem] theorem fld44_2 : fldOff Tryz.prog 44 2 = some (2, 1) := by kernel_rfl
@[go_sem] theorem fes44_2 : fldEs Tryz.prog 44 2 = 0 := by kernel_rfl
@[go_sem] theorem fld44_3 : fldOff Tryz.prog 44 3 = some (3, 1) := by kernel_rfl
@[go_sem] theorem fes44_3 : fldEs Tryz.prog 44 3 = 0 := by kernel_rfl
@[go_sem] theorem fld44_4 : fldOff Tryz.prog 44 4 = some (4, 1) := by kernel_rfl
@[go_sem] theorem fes44_4 : fldEs Tryz.prog 44 4 = 0 := by kernel_rfl
@[go_sem] theorem tk46 : tk Tryz.prog 46 = some (true, 13) := by kernel_rfl
@[go_sem] theorem zr46 : zr Tryz.prog 46 = some [.int .i64 0, .int .i64 0, .int .i64 0, .int .i64 0, .int .i64 0, .int .i64 0, .int .i64 0, .int .i64 0, .int .i64 0, .int .i64 0, .int .i64 0, .int .i64 0, .int .i64 0] := by kernel_rfl
@[go_sem] theorem ezT46 : ezT Tryz.prog 46 = 0 := by kernel_rfl
@[go_sem] theorem bld46 : bldP Tryz.prog 46 = some (fldOff Tryz.prog 46, [.int .i64 0, .int .i64 0, .int .i64 0, .int .i64 0, .int .i64 0, .int .i64 0, .int .i64 0, .int .i64 0, .int .i64 0, .int .i64 0, .int .i64 0, .int .i64 0, .int .i64 0]) := by kernel_rfl
@[go_sem] theorem fld46_0 : fldOff Tryz.prog 46 0 = some (0, 3) := by kernel_rfl
@[go_sem] theorem fes46_0 : fldEs Tryz.prog 46 0 = 0 := by kernel_rfl
@[go_sem] theorem fld46_1 : fldOff Tryz.prog 46 1 = some (3, 5) := by kernel_rfl
@[go_sem] theorem fes46_1 : fldEs Tryz.prog 46 1 = 0 := by kernel_rfl
@[go_sem] theorem fld46_2 : fldOff Tryz.prog 46 2 = some (8, 1) := by kernel_rfl
@[go_sem] theorem fes46_2 : fldEs Tryz.prog 46 2 = 0 := by kernel_rfl
@[go_sem] theorem fld46_3 : fldOff Tryz.prog 46 3 = some (9, 1) := by kernel_rfl
@[go_sem] theorem fes46_3 : fldEs Tryz.prog 46 3 = 0 := by kernel_rfl
@[go_sem] theorem fld46_4 : fldOff Tryz.prog 46 4 = some (10, 1) := by kernel_rfl
@[go_sem] theorem fes46_4 : fldEs Tryz.prog 46 4 = 0 := by kernel_rfl
@[go_sem] theorem fld46_5 : fldOff Tryz.prog 46 5 = some (11, 1) := by kernel_rfl
@[go_sem] theorem fes46_5 : fldEs Tryz.prog 46 5 = 0 := by kernel_rfl
@[go_sem] theorem fld46_6 : fldOff Tryz.prog 46 6 = some (12, 1) := by kernel_rfl
@[go_sem] theorem fes46_6 : fldEs Tryz.prog 46 6 = 0 := by kernel_rfl
@[go_sem] theorem tk48 : tk Tryz.prog 48 = some (true, 14) := by kernel_rfl
@[go_sem] theorem zr48 : zr Tryz.prog 48 = some [.int .i64 0, .int .i64 0, .int .i64 0, .int .i64 0, .int .i64 0, .int .i64 0, .int .i64 0, .int .i64 0, .int .i64 0, .int .i64 0, .int .i64 0, .int .i64 0, .int .i64 0, .sl true 1 []] := by kernel_rfl
@[go_sem] theorem ezT48 : ezT Tryz.prog 48 = 0 := by kernel_rfl
@[go_sem] theorem bld48 : bldP Tryz.prog 48 = some (fldOff Tryz.prog 48, [.int .i64 0, .int .i64 0, .int .i64 0, .int .i64 0, .int .i64 0, .int .i64 0, .int .i64 0, .int .i64 0, .int .i64 0, .int .i64 0, .int .i64 0, .int .i64 0, .int .i64 0, .sl true 1 []]) := by kernel_rfl
@[go_sem] theorem fld48_0 : fldOff Tryz.prog 48 0 = some (0, 13) := by kernel_rfl
@[go_sem] theorem fes48_0 : fldEs Tryz.prog 48 0 = 0 := by kernel_rfl
@[go_sem] theorem fld48_1 : fldOff Tryz.prog 48 1 = some (13, 1) := by kernel_rfl
@[go_sem] theorem fes48_1 : fldEs Tryz.prog 48 1 = 1 := by kernel_rfl
@[go_sem] theorem tk54 : tk Tryz.prog 54 = some (true, 9) := by kernel_rfl
@[go_sem] theorem zr54 : zr Tryz.prog 54 = some [.int .i64 0, .int .i64 0, .int .i64 0, .int .i64 0, .int .i64 0, .int .i64 0, .int .i64 0, .int .i64 0, .int .i64 0] := by kernel_rfl
@[go_sem] theorem ezT54 : ezT Tryz.prog 54 = 0 := by kernel_rfl
@[go_sem] theorem bld54 : bldP Tryz.prog 54 = some (fldOff Tryz.prog 54, [.int .i64 0, .int .i64 0, .int .i64 0, .int .i64 0, .int .i64 0, .int .i64 0, .int .i64 0, .int .i64 0, .int .i64 0]) := by kernel_rfl
@[go_sem] theorem fld54_0 : fldOff Tryz.prog 54 0 = some (0, 5) := by kernel_rfl
@[go_sem] theorem fes54_0 : fldEs Tryz.prog 54 0 = 0 := by kernel_rfl
@[go_sem] theorem fld54_1 : fldOff Tryz.prog 54 1 = some (5, 1) := by kernel_rfl
@[go_sem] theorem fes54_1 : fldEs Tryz.prog 54 1 = 0 := by kernel_rfl
@[go_sem] theorem fld54_2 : fldOff Tryz.prog 54 2 = some (6, 1) := by kernel_rfl
@[go_sem] theorem fes54_2 : fldEs Tryz.prog 54 2 = 0 := by kernel_rfl
@[go_sem] theorem fld54_3 : fldOff Tryz.prog 54 3 = some (7, 1) := by kernel_rfl
@[go_sem] theorem fes54_3 : fldEs Tryz.prog 54 3 = 0 := by kernel_rfl
@[go_sem] theorem fld54_4 : fldOff Tryz.prog 54 4 = some (8, 1) := by kernel_rfl
@[go_sem] theorem fes54_4 : fldEs Tryz.prog 54 4 = 0 := by kernel_rfl
@[go_sem] theorem tk59 : tk Tryz.prog 59 = some (true, 3) := by kernel_rfl
@[go_sem] theorem zr59 : zr Tryz.prog 59 = some [.sl true 1 [], .sl true 1 [], .sl true 1 []] := by kernel_rfl
@[go_sem] theorem ezT59 : ezT Tryz.prog 59 = 0 := by kernel_rfl
@[go_sem] theorem bld59 : bldP Tryz.prog 59 = some (fldOff Tryz.prog 59, [.sl true 1 [], .sl true 1 [], .sl true 1 []]) := by kernel_rfl
@[go_sem] theorem fld59_0 : fldOff Tryz.prog 59 0 = some (0, 1) := by kernel_rfl
@[go_sem] theorem fes59_0 : fldEs Tryz.prog 59 0 = 1 := by kernel_rfl
@[go_sem] theorem fld59_1 : fldOff Tryz.prog 59 1 = some (1, 1) := by kernel_rfl
@[go_sem] theorem fes59_1 : fldEs Tryz.prog 59 1 = 1 := by kernel_rfl
@[go_sem] theorem fld59_2 : fldOff Tryz.prog 59 2 = some (2, 1) := by kernel_rfl
@[go_sem] theorem fes59_2 : fldEs Tryz.prog 59 2 = 1 := by kernel_rfl
@[go_sem] theorem tk61 : tk Tryz.prog 61 = some (true, 6) := by kernel_rfl
@[go_sem] theorem zr61 : zr Tryz.prog 61 = some [.int .i64 0, .int .i64 0, .sl true 1 [], .sl true 1 [], .sl true 1 [], .sl true 1 []] := by kernel_rfl
@[go_sem] theorem ezT61 : ezT Tryz.prog 61 = 0 := by kernel_rfl
@[go_sem] theorem bld61 : bldP Tryz.prog 61 = some (fldOff Tryz.prog 61, [.int .i64 0, .int .i64 0, .sl true 1 [], .sl true 1 [], .sl true 1 [], .sl true 1 []]) := by kernel_rfl
@[go_sem] theorem fld61_0 : fldOff Tryz.prog 61 0 = some (0, 1) := by kernel_rfl
@[go_sem] theorem fes61_0 : fldEs Tryz.prog 61 0 = 0 := by kernel_rfl
@[go_sem] theorem fld61_1 : fldOff Tryz.prog 61 1 = some (1, 1) := by kernel_rfl
@[go_sem] theorem fes61_1 : fldEs Tryz.prog 61 1 = 0 := by kernel_rfl
@[go_sem] theorem fld61_2 : fldOff Tryz.prog 61 2 = some (2, 1) := by kernel_rfl
@[go_sem] theorem fes61_2 : fldEs Tryz.prog 61 2 = 1 := by kernel_rfl
@[go_sem] theorem fld61_3 : fldOff Tryz.prog 61 3 = some (3, 3) := by kernel_rfl
@[go_sem] theorem fes61_3 : fldEs Tryz.prog 61 3 = 0 := by kernel_rfl
@[go_sem] theorem tk69 : tk Tryz.prog 69 = some (true, 3) := by kernel_rfl
@[go_sem] theorem zr69 : zr Tryz.prog 69 = some [.sl true 1 [], .sl true 1 [], .sl true 1 []] := by kernel_rfl
@[go_sem] theorem ezT69 : ezT Tryz.prog 69 = 0 := by kernel_rfl
@[go_sem] theorem bld69 : bldP Tryz.prog 69 = some (fldOff Tryz.prog 69, [.sl true 1 [], .sl true 1 [], .sl true 1 []]) := by kernel_rfl
@[go_sem] theorem fld69_0 : fldOff Tryz.prog 69 0 = some (0, 1) := by kernel_rfl
@[go_sem] theorem fes69_0 : fldEs Tryz.prog 69 0 = 1 := by kernel_rfl
@[go_sem] theorem fld69_1 : fldOff Tryz.prog 69 1 = some (1, 1) := by kernel_rfl
@[go_sem] theorem fes69_1 : fldEs Tryz.prog 69 1 = 1 := by kernel_rfl
@[go_sem] theorem fld69_2 : fldOff Tryz.prog 69 2 = some (2, 1) := by kernel_rfl
@[go_sem] theorem fes69_2 : fldEs Tryz.prog 69 2 = 1 := by kernel_rfl
@[go_sem] theorem tk71 : tk Tryz.prog 71 = some (true, 6) := by kernel_rfl
@[go_sem] theorem zr71 : zr Tryz.prog 71 = some [.int .i64 0, .int .i64 0, .sl true 1 [], .sl true 1 [], .sl true 1 [], .sl true 1 []] := by kernel_rfl
@[go_sem] theorem ezT71 : ezT Tryz.prog 71 = 0 := by kernel_rfl
@[go_sem] theorem bld71 : bldP Tryz.prog 71 = some (fldOff Tryz.prog 71, [.int .i64 0, .int .i64 0, .sl true 1 [], .sl true 1 [], .sl true 1 [], .sl true 1 []]) := by kernel_rfl
@[go_sem] theorem fld71_0 : fldOff Tryz.prog 71 0 = some (0, 1) := by kernel_rfl
@[go_sem] theorem fes71_0 : fldEs Tryz.prog 71 0 = 0 := by kernel_rfl
@[go_sem] theorem fld71_1 : fldOff Tryz.prog 71 1 = some (1, 1) := by kernel_rfl
@[go_sem] theorem fes71_1 : fldEs Tryz.prog 71 1 = 0 := by kernel_rfl
@[go_sem] theorem fld71_2 : fldOff Tryz.prog 71 2 = some (2, 1) := by kernel_rfl
@[go_sem] theorem fes71_2 : fldEs Tryz.prog 71 2 = 1 := by kernel_rfl
@[go_sem] theorem fld71_3 : fldOff Tryz.prog 71 3 = some (3, 3) := by kernel_rfl
@[go_sem] theorem fes71_3 : fldEs Tryz.prog 71 3 = 0 := by kernel_rfl
@[go_sem] theorem tk78 : tk Tryz.prog 78 = some (false, 1) := by kernel_rfl
@[go_sem] theorem zr78 : zr Tryz.prog 78 = some [.int .u64 0] := by kernel_rfl
@[go_sem] theorem ezT78 : ezT Tryz.prog 78 = 0 := by kernel_rfl
@[go_sem] theorem ity78 : intTy Tryz.prog 78 = some .u64 := by kernel_rfl
@[go_sem] theorem ist78 : isStrTy Tryz.prog 78 = false := by kernel_rfl
@[go_sem] theorem tk82 : tk Tryz.prog 82 = some (false, 1) := by kernel_rfl
@[go_sem] theorem zr82 : zr Tryz.prog 82 = some [.nilf] := by kernel_rfl
@[go_sem] theorem ezT82 : ezT Tryz.prog 82 = 0 := by kernel_rfl
@[go_sem] theorem tk97 : tk Tryz.prog 97 = some (false, 1) := by kernel_rfl
@[go_sem] theorem zr97 : zr Tryz.prog 97 = some [.int .u32 0] := by kernel_rfl
@[go_sem] theorem ezT97 : ezT Tryz.prog 97 = 0 := by kernel_rfl
@[go_sem] theorem ity97 : intTy Tryz.prog 97 = some .u32 := by kernel_rfl
@[go_sem] theorem ist97 : isStrTy Tryz.prog 97 = false := by kernel_rfl
@[go_sem] theorem tk100 : tk Tryz.prog 100 = some (false, 1) := by kernel_rfl
@[go_sem] theorem zr100 : zr Tryz.prog 100 = some [.int .u64 0] := by kernel_rfl
@[go_sem] theorem ezT100 : ezT Tryz.prog 100 = 0 := by kernel_rfl
@[go_sem] theorem ity100 : intTy Tryz.prog 100 = some .u64 := by kernel_rfl
@[go_sem] theorem ist100 : isStrTy Tryz.prog 100 = false := by kernel_rfl
@[go_sem] theorem tk110 : tk Tryz.prog 110 = some (true, 2) := by kernel_rfl
@[go_sem] theorem zr110 : zr Tryz.prog 110 = some [.int .i64 0, .sl true 1 []] := by kernel_rfl
@[go_sem] theorem ezT110 : ezT Tryz.prog 110 = 0 := by kernel_rfl
@[go_sem] theorem bld110 : bldP Tryz.prog 110 = some (fldOff Tryz.prog 110, [.int .i64 0, .sl true 1 []]) := by kernel_rfl
@[go_sem] theorem fld110_0 : fldOff Tryz.prog 110 0 = some (0, 1) := by kernel_rfl
@[go_sem] theorem fes110_0 : fldEs Tryz.prog 110 0 = 0 := by kernel_rfl
@[go_sem] theorem fld110_1 : fldOff Tryz.prog 110 1 = some (1, 1) := by kernel_rfl
@[go_sem] theorem fes110_1 : fldEs Tryz.prog 110 1 = 1 := by kernel_rfl
@[go_sem] theorem tk130 : tk Tryz.prog 130 = some (false, 1) := by kernel_rfl
@[go_sem] theorem zr130 : zr Tryz.prog 130 = some [.sl true 1 []] := by kernel_rfl
@[go_sem] theorem ezT130 : ezT Tryz.prog 130 = 1 := by kernel_rfl
@[go_sem] theorem ety130 : elemTy Tryz.prog 130 = some 24 := by kernel_rfl
@[go_sem] theorem ist130 : isStrTy Tryz.prog 130 = false := by kernel_rfl
@[go_sem] theorem esz130 : esz Tryz.prog 130 = some 1 := by kernel_rfl
@[go_sem] theorem ez130 : ez Tryz.prog 130 = some (1, 24, [.sl false 1 []]) := by kernel_rfl
@[go_sem] theorem fes130 {i : Nat} : fldEs Tryz.prog 130 i = 1 := by kernel_rfl
@[go_sem] theorem tk152 : tk Tryz.prog 152 = some (false, 1) := by kernel_rfl
@[go_sem] theorem zr152 : zr Tryz.prog 152 = some [.sl true 1 []] := by kernel_rfl
@[go_sem] theorem ezT152 : ezT Tryz.prog 152 = 1 := by kernel_rfl
@[go_sem] theorem ety152 : elemTy Tryz.prog 152 = some 5 := by kernel_rfl
@[go_sem] theorem ist152 : isStrTy Tryz.prog 152 = false := by kernel_rfl
@[go_sem] theorem esz152 : esz Tryz.prog 152 = some 1 := by kernel_rfl
@[go_sem] theorem ibs152 : isByS Tryz.prog 152 = true := by kernel_rfl
@[go_sem] theorem ez152 : ez Tryz.prog 152 = some (1, 1, [.int .u8 0]) := by kernel_rfl
@[go_sem] theorem fes152 {i : Nat} : fldEs Tryz.prog 152 i = 0 := by kernel_rfl
@[go_sem] theorem tk155 : tk Tryz.prog 155 = some (false, 1) := by kernel_rfl
@[go_sem] theorem zr155 : zr Tryz.prog 155 = some [.nilp] := by kernel_rfl
@[go_sem] theorem ezT155 : ezT Tryz.prog 155 = 0 := by kernel_rfl
@[go_sem] theorem tk157 : tk Tryz.prog 157 = some (true, 2) := by kernel_rfl
@[go_sem] theorem zr157 : zr Tryz.prog 157 = some [.int .i64 0, .int .i64 0] := by kernel_rfl
@[go_sem] theorem ezT157 : ezT Tryz.prog 157 = 0 := by kernel_rfl
@[go_sem] theorem bld157 : bldP Tryz.prog 157 = some (fldOff Tryz.prog 157, [.int .i64 0, .int .i64 0]) := by kernel_rfl
@[go_sem] theorem fld157_0 : fldOff Tryz.prog 157 0 = some (0, 1) := by kernel_rfl
@[go_sem] theorem fes157_0 : fldEs Tryz.prog 157 0 = 0 := by kernel_rfl
@[go_sem] theorem fld157_1 : fldOff Tryz.prog 157 1 = some (1, 1) := by kernel_rfl
@[go_sem] theorem fes157_1 : fldEs Tryz.prog 157 1 = 0 := by kernel_rfl
theorem follows : Tryz.prog.follows .mixedOrders = true := by kernel_rfl
theorem cl3 : Callable Tryz.prog 3 := fun args w => Tryz.call3 args w
theorem cl4 : Callable Tryz.prog 4 := fun args w => Tryz.call4 args w
theorem cl5 : Callable Tryz.prog 5 := fun args w => Tryz.call5 args w
theorem cl6 : Callable Tryz.prog 6 := fun args w => Tryz.call6 args w
theorem cl7 : Callable Tryz.prog 7 := fun args w => Tryz.call7 args w
theorem cl8 : Callable Tryz.prog 8 := fun args w => Tryz.call8 args w
theorem cl9 : Callable Tryz.prog 9 := fun args w => Tryz.call9 args w
theorem cl10 : Callable Tryz.prog 10 := fun args w => Tryz.call10 args w
theorem cl11 : Callable Tryz.prog 11 := fun args w => Tryz.call11 args w
theorem cl12 : Callable Tryz.prog 12 := fun args w => Tryz.call12 args w
theorem cl13 : Callable Tryz.prog 13 := fun args w => Tryz.call13 args w
theorem cl14 : Callable Tryz.prog 14 := fun args w => Tryz.call14 args w
theorem cl15 : Callable Tryz.prog 15 := fun args w => Tryz.call15 args w
theorem cl16 : Callable Tryz.prog 16 := fun args w => Tryz.call16 args w
theorem cl17 : Callable Tryz.prog 17 := fun args w => Tryz.call17 args w
theorem cl18 : Callable Tryz.prog 18 := fun args w => Tryz.call18 args w
theorem cl19 : Callable Tryz.prog 19 := fun args w => Tryz.call19 args w
theorem cl20 : Callable Tryz.prog 20 := fun args w => Tryz.call20 args w
theorem cl21 : Callable Tryz.prog 21 := fun args w => Tryz.call21 args w
theorem cl22 : Callable Tryz.prog 22 := fun args w => Tryz.call22 args w
theorem cl23 : Callable Tryz.prog 23 := fun args w => Tryz.call23 args w
theorem cl24 : Callable Tryz.prog 24 := fun args w => Tryz.call24 args w
theorem cl25 : Callable Tryz.prog 25 := fun args w => Tryz.call25 args w
theorem cl26 : Callable Tryz.prog 26 := fun args w => Tryz.call26 args w
theorem cl27 : Callable Tryz.prog 27 := fun args w => Tryz.call27 args w
theorem cl28 : Callable Tryz.prog 28 := fun args w => Tryz.call28 args w
theorem cl29 : Callable Tryz.prog 29 := fun args w => Tryz.call29 args w
theorem cl30 : Callable Tryz.prog 30 := fun args w => Tryz.call30 args w
theorem cl31 : Callable Tryz.prog 31 := fun args w => Tryz.call31 args w
theorem cl32 : Callable Tryz.prog 32 := fun args w => Tryz.call32 args w
theorem cl33 : Callable Tryz.prog 33 := fun args w => Tryz.call33 args w
theorem cl34 : Callable Tryz.prog 34 := fun args w => Tryz.call34 args w
theorem cl35 : Callable Tryz.prog 35 := fun args w => Tryz.call35 args w
theorem cl36 : Callable Tryz.prog 36 := fun args w => Tryz.call36 args w
theorem cl37 : Callable Tryz.prog 37 := fun args w => Tryz.call37 args w
theorem cl38 : Callable Tryz.prog 38 := fun args w => Tryz.call38 args w
theorem cl39 : Callable Tryz.prog 39 := fun args w => Tryz.call39 args w
theorem cl40 : Callable Tryz.prog 40 := fun args w => Tryz.call40 args w
theorem cl41 : Callable Tryz.prog 41 := fun args w => Tryz.call41 args w
theorem cl42 : Callable Tryz.prog 42 := fun args w => Tryz.call42 args w
theorem cl43 : Callable Tryz.prog 43 := fun args w => Tryz.call43 args w
theorem cl44 : Callable Tryz.prog 44 := fun args w => Tryz.call44 args w
theorem cl45 : Callable Tryz.prog 45 := fun args w => Tryz.call45 args w
theorem cl46 : Callable Tryz.prog 46 := fun args w => Tryz.call46 args w
theorem cl47 : Callable Tryz.prog 47 := fun args w => Tryz.call47 args w
theorem cl48 : Callable Tryz.prog 48 := fun args w => Tryz.call48 args w
theorem cl49 : Callable Tryz.prog 49 := fun args w => Tryz.call49 args w
theorem cl50 : Callable Tryz.prog 50 := fun args w => Tryz.call50 args w
theorem cl51 : Callable Tryz.prog 51 := fun args w => Tryz.call51 args w
theorem cl52 : Callable Tryz.prog 52 := fun args w => Tryz.call52 args w
theorem cl53 : Callable Tryz.prog 53 := fun args w => Tryz.call53 args w
theorem cl55 : Callable Tryz.prog 55 := fun args w => Tryz.call55 args w
theorem cl56 : Callable Tryz.prog 56 := fun args w => Tryz.call56 args w
theorem cl57 : Callable Tryz.prog 57 := fun args w => Tryz.call57 args w
theorem cl58 : Callable Tryz.prog 58 := fun args w => Tryz.call58 args w
theorem cl59 : Callable Tryz.prog 59 := fun args w => Tryz.call59 args w
theorem cl60 : Callable Tryz.prog 60 := fun args w => Tryz.call60 args w
theorem cl61 : Callable Tryz.prog 61 := fun args w => Tryz.call61 args w
theorem cl62 : Callable Tryz.prog 62 := fun args w => Tryz.call62 args w
theorem cl63 : Callable Tryz.prog 63 := fun args w => Tryz.call63 args w
theorem cl64 : Callable Tryz.prog 64 := fun args w => Tryz.call64 args w
theorem cl65 : Callable Tryz.prog 65 := fun args w => Tryz.call65 args w
theorem cl66 : Callable Tryz.prog 66 := fun args w => Tryz.call66 args w
theorem cl67 : Callable Tryz.prog 67 := fun args w => Tryz.call67 args w
theorem cl68 : Callable Tryz.prog 68 := fun args w => Tryz.call68 args w
theorem cl69 : Callable Tryz.prog 69 := fun args w => Tryz.call69 args w
theorem cl70 : Callable Tryz.prog 70 := fun args w => Tryz.call70 args w
theorem cl71 : Callable Tryz.prog 71 := fun args w => Tryz.call71 args w
theorem cl72 : Callable Tryz.prog 72 := fun args w => Tryz.call72 args w
theorem cl73 : Callable Tryz.prog 73 := fun args w => Tryz.call73 args w
theorem cl74 : Callable Tryz.prog 74 := fun args w => Tryz.call74 args w
theorem cl75 : Callable Tryz.prog 75 := fun args w => Tryz.call75 args w
theorem cl76 : Callable Tryz.prog 76 := fun args w => Tryz.call76 args w
theorem cl77 : Callable Tryz.prog 77 := fun args w => Tryz.call77 args w
theorem cl78 : Callable Tryz.prog 78 := fun args w => Tryz.call78 args w
theorem cl79 : Callable Tryz.prog 79 := fun args w => Tryz.call79 args w
theorem cl80 : Callable Tryz.prog 80 := fun args w => Tryz.call80 args w
theorem cl81 : Callable Tryz.prog 81 := fun args w => Tryz.call81 args w
theorem cl82 : Callable Tryz.prog 82 := fun args w => Tryz.call82 args w
theorem cl83 : Callable Tryz.prog 83 := fun args w => Tryz.call83 args w
theorem cl84 : Callable Tryz.prog 84 := fun args w => Tryz.call84 args w
theorem cl85 : Callable Tryz.prog 85 := fun args w => Tryz.call85 args w
theorem cl86 : Callable Tryz.prog 86 := fun args w => Tryz.call86 args w
theorem cl87 : Callable Tryz.prog 87 := fun args w => Tryz.call87 args w
theorem cl88 : Callable Tryz.prog 88 := fun args w => Tryz.call88 args w
theorem cl89 : Callable Tryz.prog 89 := fun args w => Tryz.call89 args w
theorem cl90 : Callable Tryz.prog 90 := fun args w => Tryz.call90 args w
theorem cl91 : Callable Tryz.prog 91 := fun args w => Tryz.call91 args w
theorem cl92 : Callable Tryz.prog 92 := fun args w => Tryz.call92 args w
theorem cl93 : Callable Tryz.prog 93 := fun args w => Tryz.call93 args w
theorem cl94 : Callable Tryz.prog 94 := fun args w => Tryz.call94 args w
theorem cl95 : Callable Tryz.prog 95 := fun args w => Tryz.call95 args w
theorem cl96 : Callable Tryz.prog 96 := fun args w => Tryz.call96 args w
theorem cl97 : Callable Tryz.prog 97 := fun args w => Tryz.call97 args w
theorem cl98 : Callable Tryz.prog 98 := fun args w => Tryz.call98 args w
theorem cl99 : Callable Tryz.prog 99 := fun args w => Tryz.call99 args w
theorem cl100 : Callable Tryz.prog 100 := fun args w => Tryz.call100 args w
theorem cl101 : Callable Tryz.prog 101 := fun args w => Tryz.call101 args w
theorem cl102 : Callable Tryz.prog 102 := fun args w => Tryz.call102 args w
theorem cl103 : Callable Tryz.prog 103 := fun args w => Tryz.call103 args w
theorem cl104 : Callable Tryz.prog 104 := fun args w => Tryz.call104 args w
theorem cl105 : Callable Tryz.prog 105 := fun args w => Tryz.call105 args w
theorem cl106 : Callable Tryz.prog 106 := fun args w => Tryz.call106 args w
theorem cl107 : Callable Tryz.prog 107 := fun args w => Tryz.call107 args w
theorem cl108 : Callable Tryz.prog 108 := fun args w => Tryz.call108 args w
theorem cl109 : Callable Tryz.prog 109 := fun args w => Tryz.call109 args w
theorem cl110 : Callable Tryz.prog 110 := fun args w => Tryz.call110 args w
theorem cl111 : Callable Tryz.prog 111 := fun args w => Tryz.call111 args w
theorem cl112 : Callable Tryz.prog 112 := fun args w => Tryz.call112 args w
theorem cl113 : Callable Tryz.prog 113 := fun args w => Tryz.call113 args w
theorem cl114 : Callable Tryz.prog 114 := fun args w => Tryz.call114 args w
theorem cl115 : Callable Tryz.prog 115 := fun args w => Tryz.call115 args w
theorem cl116 : Callable Tryz.prog 116 := fun args w => Tryz.call116 args w
theorem cl117 : Callable Tryz.prog 117 := fun args w => Tryz.call117 args w
theorem cl118 : Callable Tryz.prog 118 := fun args w => Tryz.call118 args w
theorem cl119 : Callable Tryz.prog 119 := fun args w => Tryz.call119 args w
theorem cl120 : Callable Tryz.prog 120 := fun args w => Tryz.call120 args w
theorem cl121 : Callable Tryz.prog 121 := fun args w => Tryz.call121 args w
theorem cl122 : Callable Tryz.prog 122 := fun args w => Tryz.call122 args w
theorem cl123 : Callable Tryz.prog 123 := fun args w => Tryz.call123 args w
theorem cl124 : Callable Tryz.prog 124 := fun args w => Tryz.call124 args w
theorem cl125 : Callable Tryz.prog 125 := fun args w => Tryz.call125 args w
theorem cl126 : Callable Tryz.prog 126 := fun args w => Tryz.call126 args w
theorem cl127 : Callable Tryz.prog 127 := fun args w => Tryz.call127 args w
theorem cl128 : Callable Tryz.prog 128 := fun args w => Tryz.call128 args w
theorem cl129 : Callable Tryz.prog 129 := fun args w => Tryz.call129 args w
theorem cl130 : Callable Tryz.prog 130 := fun args w => Tryz.call130 args w
end Go.Pm
