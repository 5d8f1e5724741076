import Derived.Test.YtanpbcjcbfhflaaGreatPmW
import Derived.Test.YtanpbcjcbfhflaaGreatProg
import Derived.KernelRfl
namespace Go.Pm
open Go.Am
open Go.Proofs
set_option maxRecDepth 100000
@[go_sem] theorem tk3 : tk Tryz.prog 3 = some (false, 1) := by kernel_rfl
@[go_sem] theorem zr3 : zr Tryz.prog 3 = some [.int .i64 0] := by kernel_rfl
@[go_sem] theorem ezT3 : ezT Tryz.prog 3 = 0 := by kernel_rfl
@[go_sem] theorem ity3 : intTy Tryz.prog 3 = some .i64 := by kernel_rfl
@[go_sem] theorem ist3 : isStrTy Tryz.prog 3 = false := by kernel_rfl
@[go_sem] theorem tk4 : tk Tryz.prog 4 = some (false, 1) := by kernel_rfl
@[go_sem] theorem zr4 : zr Tryz.prog 4 = some [.bool false] := by kernel_rfl
@[go_sem] theorem ezT4 : ezT Tryz.prog 4 = 0 := by kernel_rfl
@[go_sem] theorem ibt4 : isBoolTy Tryz.prog 4 = true := by kernel_rfl
@[go_sem] theorem tk5 : tk Tryz.prog 5 = some (false, 1) := by kernel_rfl
@[go_sem] theorem zr5 : zr Tryz.prog 5 = some [.int .u8 0] := by kernel_rfl
@[go_sem] theorem ezT5 : ezT Tryz.prog 5 = 0 := by kernel_rfl
@[go_sem] theorem ity5 : intTy Tryz.prog 5 = some .u8 := by kernel_rfl
@[go_sem] theorem ist5 : isStrTy Tryz.prog 5 = false := by kernel_rfl
@[go_sem] theorem tk9 : tk Tryz.prog 9 = some (false, 1) := by kernel_rfl
@[go_sem] theorem zr9 : zr Tryz.prog 9 = some [.str ⟨#[]⟩] := by kernel_rfl
@[go_sem] theorem ezT9 : ezT Tryz.prog 9 = 0 := by kernel_rfl
@[go_sem] theorem ist9 : isStrTy Tryz.prog 9 = true := by kernel_rfl
@[go_sem] theorem tk20 : tk Tryz.prog 20 = some (false, 1) := by kernel_rfl
@[go_sem] theorem zr20 : zr Tryz.prog 20 = some [.nili] := by kernel_rfl
@[go_sem] theorem ezT20 : ezT Tryz.prog 20 = 0 := by kernel_rfl
@[go_sem] theorem tk22 : tk Tryz.prog 22 = some (false, 1) := by kernel_rfl
@[go_sem] theorem zr22 : zr Tryz.prog 22 = some [.sl true 1 []] := by kernel_rfl
@[go_sem] theorem ezT22 : ezT Tryz.prog 22 = 1 := by kernel_rfl
@[go_sem] theorem ety22 : elemTy Tryz.prog 22 = some 5 := by kernel_rfl
@[go_sem] theorem ist22 : isStrTy Tryz.prog 22 = false := by kernel_rfl
@[go_sem] theorem esz22 : esz Tryz.prog 22 = some 1 := by kernel_rfl
@[go_sem] theorem ibs22 : isByS Tryz.prog 22 = true := by kernel_rfl
@[go_sem] theorem ez22 : ez Tryz.prog 22 = some (1, 1, [.int .u8 0]) := by kernel_rfl
@[go_sem] theorem fes22 {i : Nat} : fldEs Tryz.prog 22 i = 0 := by kernel_rfl
@[go_sem] theorem tk25 : tk Tryz.prog 25 = some (true, 3) := by kernel_rfl
@[go_sem] theorem zr25 : zr Tryz.prog 25 = some [.int .i64 0, .int .i64 0, .int .i64 0] := by kernel_rfl
@[go_sem] theorem ezT25 : ezT Tryz.prog 25 = 0 := by kernel_rfl
@[go_sem] theorem bld25 : bldP Tryz.prog 25 = some (fldOff Tryz.prog 25, [.int .i64 0, .int .i64 0, .int .i64 0]) := by kernel_rfl
@[go_sem] theorem fld25_0 : fldOff Tryz.prog 25 0 = some (0, 1) := by kernel_rfl
@[go_sem] theorem fes25_0 : fldEs Tryz.prog 25 0 = 0 := by kernel_rfl
@[go_sem] theorem fld25_1 : fldOff Tryz.prog 25 1 = some (1, 1) := by kernel_rfl
@[go_sem] theorem fes25_1 : fldEs Tryz.prog 25 1 = 0 := by kernel_rfl
@[go_sem] theorem fld25_2 : fldOff Tryz.prog 25 2 = some (2, 1) := by kernel_rfl
@[go_sem] theorem fes25_2 : fldEs Tryz.prog 25 2 = 0 := by kernel_rfl
@[go_sem] theorem tk27 : tk Tryz.prog 27 = some (true, 5) := by kernel_rfl
@[go_sem] theorem zr27 : zr Tryz.prog 27 = some [.int .i64 0, .int .i64 0, .int .i64 0, .int .i64 0, .int .i64 0] := by kernel_rfl
@[go_sem] theorem ezT27 : ezT Tryz.prog 27 = 0 := by kernel_rfl
@[go_sem] theorem bld27 : bldP Tryz.prog 27 = some (fldOff Tryz.prog 27, [.int .i64 0, .int .i64 0, .int .i64 0, .int .i64 0, .int .i64 0]) := by kernel_rfl
@[go_sem] theorem fld27_0 : fldOff Tryz.prog 27 0 = some (0, 1) := by kernel_rfl
@[go_sem] theorem fes27_0 : fldEs Tryz.prog 27 0 = 0 := by kernel_rfl
@[go_sem] theorem fld27_1 : fldOff Tryz.prog 27 1 = some (1, 1) := by kernel_rfl
@[go_sem] theorem fes27_1 : fldEs Tryz.prog 27 1 = 0 := by kernel_rfl
@[go_sem] theorem fld27_2 : fldOff Tryz.prog 27 2 = some (2, 1) := by kernel_rfl
@[go_sem] theorem fes27_2 : fldEs Tryz.prog 27 2 = 0 := by kernel_rfl
@[go_sem] theorem fld27_3 : fldOff Tryz.prog 27 3 = some (3, 1) := by kernel_rfl
@[go_sem] theorem fes27_3 : fldEs Tryz.prog 27 3 = 0 := by kernel_rfl
@[go_sem] theorem fld27_4 : fldOff Tryz.prog 27 4 = some (4, 1) := by kernel_rfl
@[go_sem] theorem fes27_4 : fldEs Tryz.prog 27 4 = 0 := by kernel_rfl
@[go_sem] theorem tk28 : tk Tryz.prog 28 = some (false, 1) := by kernel_rfl
@[go_sem] theorem zr28 : zr Tryz.prog 28 = some [.sl true 1 []] := by kernel_rfl
@[go_sem] theorem ezT28 : ezT Tryz.prog 28 = 1 := by kernel_rfl
@[go_sem] theorem ety28 : elemTy Tryz.prog 28 = some 3 := by kernel_rfl
@[go_sem] theorem ist28 : isStrTy Tryz.prog 28 = false := by kernel_rfl
@[go_sem] theorem esz28 : esz Tryz.prog 28 = some 1 := by kernel_rfl
@[go_sem] theorem ez28 : ez Tryz.prog 28 = some (1, 8, [.int .i64 0]) := by kernel_rfl
@[go_sem] theorem fes28 {i : Nat} : fldEs Tryz.prog 28 i = 0 := by kernel_rfl
@[go_sem] theorem tk33 : tk Tryz.prog 33 = some (false, 1) := by kernel_rfl
@[go_sem] theorem zr33 : zr Tryz.prog 33 = some [.sl true 2 []] := by kernel_rfl
@[go_sem] theorem ezT33 : ezT Tryz.prog 33 = 2 := by kernel_rfl
@[go_sem] theorem ety33 : elemTy Tryz.prog 33 = some 42 := by kernel_rfl
@[go_sem] theorem ist33 : isStrTy Tryz.prog 33 = false := by kernel_rfl
@[go_sem] theorem esz33 : esz Tryz.prog 33 = some 2 := by kernel_rfl
@[go_sem] theorem ez33 : ez Tryz.prog 33 = some (2, 16, [.int .i64 0, .int .i64 0]) := by kernel_rfl
@[go_sem] theorem fes33 {i : Nat} : fldEs Tryz.prog 33 i = 0 := by kernel_rfl
@[go_sem] theorem tk34 : tk Tryz.prog 34 = some (false, 1) := by kernel_rfl
@[go_sem] theorem zr34 : zr Tryz.prog 34 = some [.sl true 3 []] := by kernel_rfl
@[go_sem] theorem ezT34 : ezT Tryz.prog 34 = 3 := by kernel_rfl
@[go_sem] theorem ety34 : elemTy Tryz.prog 34 = some 36 := by kernel_rfl
@[go_sem] theorem ist34 : isStrTy Tryz.prog 34 = false := by kernel_rfl
@[go_sem] theorem esz34 : esz Tryz.prog 34 = some 3 := by kernel_rfl
@[go_sem] theorem ez34 : ez Tryz.prog 34 = some (3, 72, [.sl false 1 [], .sl false 1 [], .sl false 1 []]) := by kernel_rfl
@[go_sem] theorem fes34 {i : Nat} : fldEs Tryz.prog 34 i = 0 := by kernel_rfl
@[go_sem] theorem tk36 : tk Tryz.prog 36 = some (true, 3) := by kernel_rfl
@[go_sem] theorem zr36 : zr Tryz.prog 36 = some [.sl true 1 [], .sl true 1 [], .sl true 1 []] := by kernel_rfl
@[go_sem] theorem ezT36 : ezT Tryz.prog 36 = 0 := by kernel_rfl
@[go_sem] theorem bld36 : bldP Tryz.prog 36 = some (fldOff Tryz.prog 36, [.sl true 1 [], .sl true 1 [], .sl true 1 []]) := by kernel_rfl
@[go_sem] theorem fld36_0 : fldOff Tryz.prog 36 0 = some (0, 1) := by kernel_rfl
@[go_sem] theorem fes36_0 : fldEs Tryz.prog 36 0 = 1 := by kernel_rfl
@[go_sem] theorem fld36_1 : fldOff Tryz.prog 36 1 = some (1, 1) := by kernel_rfl
@[go_sem] theorem fes36_1 : fldEs Tryz.prog 36 1 = 1 := by kernel_rfl
@[go_sem] theorem fld36_2 : fldOff Tryz.prog 36 2 = some (2, 1) := by kernel_rfl
@[go_sem] theorem fes36_2 : fldEs Tryz.prog 36 2 = 1 := by kernel_rfl
@[go_sem] theorem tk38 : tk Tryz.prog 38 = some (true, 6) := by kernel_rfl
@[go_sem] theorem zr38 : zr Tryz.prog 38 = some [.int .i64 0, .sl true 2 [], .sl true 3 [], .sl true 1 [], .sl true 1 [], .sl true 1 []] := by kernel_rfl
@[go_sem] theorem ezT38 : ezT Tryz.prog 38 = 0 := by kernel_rfl
@[go_sem] theorem bld38 : bldP Tryz.prog 38 = some (fldOff Tryz.prog 38, [.int .i64 0, .sl true 2 [], .sl true 3 [], .sl true 1 [], .sl true 1 [], .sl true 1 []]) := by kernel_rfl
@[go_sem] theorem fld38_0 : fldOff Tryz.prog 38 0 = some (0, 1) := by kernel_rfl
@[go_sem] theorem fes38_0 : fldEs Tryz.prog 38 0 = 0 := by kernel_rfl
@[go_sem] theorem fld38_1 : fldOff Tryz.prog 38 1 = some (1, 1) := by kernel_rfl
@[go_sem] theorem fes38_1 : fldEs Tryz.prog 38 1 = 2 := by kernel_rfl
@[go_sem] theorem fld38_2 : fldOff Tryz.prog 38 2 = some (2, 1) := by kernel_rfl
@[go_sem] theorem fes38_2 : fldEs Tryz.prog 38 2 = 3 := by kernel_rfl
@[go_sem] theorem fld38_3 : fldOff Tryz.prog 38 3 = some (3, 3) := by kernel_rfl
@[go_sem] theorem fes38_3 : fldEs Tryz.prog 38 3 = 0 := by kernel_rfl
@[go_sem] theorem tk42 : tk Tryz.prog 42 = some (true, 2) := by kernel_rfl
@[go_sem] theorem zr42 : zr Tryz.prog 42 = some [.int .i64 0, .int .i64 0] := by kernel_rfl
@[go_sem] theorem ezT42 : ezT Tryz.prog 42 = 0 := by kernel_rfl
@[go_sem] theorem bld42 : bldP Tryz.prog 42 = some (fldOff Tryz.prog 42, [.int .i64 0, .int .i64 0]) := by kernel_rfl
@[go_sem] theorem fld42_0 : fldOff Tryz.prog 42 0 = some (0, 1) := by kernel_rfl
@[go_sem] theorem fes42_0 : fldEs Tryz.prog 42 0 = 0 := by kernel_rfl
@[go_sem] theorem fld42_1 : fldOff Tryz.prog 42 1 = some (1, 1) := by kernel_rfl
@[go_sem] theorem fes42_1 : fldEs Tryz.prog 42 1 = 0 := by kernel_rfl
@[go_sem] theorem tk51 : tk Tryz.prog 51 = some (true, 2) := by kernel_rfl
@[go_sem] theorem zr51 : zr Tryz.prog 51 = some [.sl true 1 [], .sl true 1 []] := by kernel_rfl
@[go_sem] theorem ezT51 : ezT Tryz.prog 51 = 0 := by kernel_rfl
@[go_sem] theorem bld51 : bldP Tryz.prog 51 = some (fldOff Tryz.prog 51, [.sl true 1 [], .sl true 1 []]) := by kernel_rfl
@[go_sem] theorem fld51_0 : fldOff Tryz.prog 51 0 = some (0, 1) := by kernel_rfl
@[go_sem] theorem fes51_0 : fldEs Tryz.prog 51 0 = 1 := by kernel_rfl
@[go_sem] theorem fld51_1 : fldOff Tryz.prog 51 1 = some (1, 1) := by kernel_rfl
@[go_sem] theorem fes51_1 : fldEs Tryz.prog 51 1 = 1 := by kernel_rfl
@[go_sem] theorem tk54 : tk Tryz.prog 54 = some (false, 1) := by kernel_rfl
@[go_sem] theorem zr54 : zr Tryz.prog 54 = some [.sl true 1 []] := by kernel_rfl
@[go_sem] theorem ezT54 : ezT Tryz.prog 54 = 1 := by kernel_rfl
@[go_sem] theorem ety54 : elemTy Tryz.prog 54 = some 63 := by kernel_rfl
@[go_sem] theorem ist54 : isStrTy Tryz.prog 54 = false := by kernel_rfl
@[go_sem] theorem esz54 : esz Tryz.prog 54 = some 1 := by kernel_rfl
@[go_sem] theorem ez54 : ez Tryz.prog 54 = some (1, 24, [.sl false 5 []]) := by kernel_rfl
@[go_sem] theorem fes54 {i : Nat} : fldEs Tryz.prog 54 i = 5 := by kernel_rfl
@[go_sem] theorem tk63 : tk Tryz.prog 63 = some (false, 1) := by kernel_rfl
@[go_sem] theorem zr63 : zr Tryz.prog 63 = some [.sl true 5 []] := by kernel_rfl
@[go_sem] theorem ezT63 : ezT Tryz.prog 63 = 5 := by kernel_rfl
@[go_sem] theorem ety63 : elemTy Tryz.prog 63 = some 69 := by kernel_rfl
@[go_sem] theorem ist63 : isStrTy Tryz.prog 63 = false := by kernel_rfl
@[go_sem] theorem esz63 : esz Tryz.prog 63 = some 5 := by kernel_rfl
@[go_sem] theorem ez63 : ez Tryz.prog 63 = some (5, 88, [.int .i64 0, .int .i64 0, .sl false 1 [], .sl false 1 [], .sl false 1 []]) := by kernel_rfl
@[go_sem] theorem fes63 {i : Nat} : fldEs Tryz.prog 63 i = 0 := by kernel_rfl
@[go_sem] theorem tk69 : tk Tryz.prog 69 = some (true, 5) := by kernel_rfl
@[go_sem] theorem zr69 : zr Tryz.prog 69 = some [.int .i64 0, .int .i64 0, .sl true 1 [], .sl true 1 [], .sl true 1 []] := by kernel_rfl
@[go_sem] theorem ezT69 : ezT Tryz.prog 69 = 0 := by kernel_rfl
@[go_sem] theorem bld69 : bldP Tryz.prog 69 = some (fldOff Tryz.prog 69, [.int .i64 0, .int .i64 0, .sl true 1 [], .sl true 1 [], .sl true 1 []]) := by kernel_rfl
@[go_sem] theorem fld69_0 : fldOff Tryz.prog 69 0 = some (0, 1) := by kernel_rfl
@[go_sem] theorem fes69_0 : fldEs Tryz.prog 69 0 = 0 := by kernel_rfl
@[go_sem] theorem fld69_1 : fldOff Tryz.prog 69 1 = some (1, 1) := by kernel_rfl
@[go_sem] theorem fes69_1 : fldEs Tryz.prog 69 1 = 0 := by kernel_rfl
@[go_sem] theorem fld69_2 : fldOff Tryz.prog 69 2 = some (2, 3) := by kernel_rfl
@[go_sem] theorem fes69_2 : fldEs Tryz.prog 69 2 = 0 := by kernel_rfl
@[go_sem] theorem tk70 : tk Tryz.prog 70 = some (false, 1) := by kernel_rfl
@[go_sem] theorem zr70 : zr Tryz.prog 70 = some [.nilp] := by kernel_rfl
@[go_sem] theorem ezT70 : ezT Tryz.prog 70 = 0 := by kernel_rfl
@[go_sem] theorem tk71 : tk Tryz.prog 71 = some (false, 1) := by kernel_rfl
@[go_sem] theorem zr71 : zr Tryz.prog 71 = some [.int .u64 0] := by kernel_rfl
@[go_sem] theorem ezT71 : ezT Tryz.prog 71 = 0 := by kernel_rfl
@[go_sem] theorem ity71 : intTy Tryz.prog 71 = some .u64 := by kernel_rfl
@[go_sem] theorem ist71 : isStrTy Tryz.prog 71 = false := by kernel_rfl
@[go_sem] theorem tk73 : tk Tryz.prog 73 = some (true, 3) := by kernel_rfl
@[go_sem] theorem zr73 : zr Tryz.prog 73 = some [.sl true 1 [], .int .i64 0, .int .u64 0] := by kernel_rfl
@[go_sem] theorem ezT73 : ezT Tryz.prog 73 = 0 := by kernel_rfl
@[go_sem] theorem bld73 : bldP Tryz.prog 73 = some (fldOff Tryz.prog 73, [.sl true 1 [], .int .i64 0, .int .u64 0]) := by kernel_rfl
@[go_sem] theorem fld73_0 : fldOff Tryz.prog 73 0 = some (0, 1) := by kernel_rfl
@[go_sem] theorem fes73_0 : fldEs Tryz.prog 73 0 = 1 := by kernel_rfl
@[go_sem] theorem fld73_1 : fldOff Tryz.prog 73 1 = some (1, 1) := by kernel_rfl
@[go_sem] theorem fes73_1 : fldEs Tryz.prog 73 1 = 0 := by kernel_rfl
@[go_sem] theorem fld73_2 : fldOff Tryz.prog 73 2 = some (2, 1) := by kernel_rfl
@[go_sem] theorem fes73_2 : fldEs Tryz.prog 73 2 = 0 := by kernel_rfl
@[go_sem] theorem tk101 : tk Tryz.prog 101 = some (false, 1) := by kernel_rfl
@[go_sem] theorem zr101 : zr Tryz.prog 101 = some [.nilf] := by kernel_rfl
@[go_sem] theorem ezT101 : ezT Tryz.prog 101 = 0 := by kernel_rfl
@[go_sem] theorem tk103 : tk Tryz.prog 103 = some (false, 1) := by kernel_rfl
@[go_sem] theorem zr103 : zr Tryz.prog 103 = some [.nilf] := by kernel_rfl
@[go_sem] theorem ezT103 : ezT Tryz.prog 103 = 0 := by kernel_rfl
@[go_sem] theorem tk119 : tk Tryz.prog 119 = some (false, 1) := by kernel_rfl
@[go_sem] theorem zr119 : zr Tryz.prog 119 = some [.sl true 1 []] := by kernel_rfl
@[go_sem] theorem ezT119 : ezT Tryz.prog 119 = 1 := by kernel_rfl
@[go_sem] theorem ety119 : elemTy Tryz.prog 119 = some 28 := by kernel_rfl
@[go_sem] theorem ist119 : isStrTy Tryz.prog 119 = false := by kernel_rfl
@[go_sem] theorem esz119 : esz Tryz.prog 119 = some 1 := by kernel_rfl
@[go_sem] theorem ez119 : ez Tryz.prog 119 = some (1, 24, [.sl false 1 []]) := by kernel_rfl
@[go_sem] theorem fes119 {i : Nat} : fldEs Tryz.prog 119 i = 1 := by kernel_rfl
@[go_sem] theorem tk122 : tk Tryz.prog 122 = some (false, 1) := by kernel_rfl
@[go_sem] theorem zr122 : zr Tryz.prog 122 = some [.sl true 4 []] := by kernel_rfl
@[go_sem] theorem ezT122 : ezT Tryz.prog 122 = 4 := by kernel_rfl
@[go_sem] theorem ety122 : elemTy Tryz.prog 122 = some 150 := by kernel_rfl
@[go_sem] theorem ist122 : isStrTy Tryz.prog 122 = false := by kernel_rfl
@[go_sem] theorem esz122 : esz Tryz.prog 122 = some 4 := by kernel_rfl
@[go_sem] theorem ez122 : ez Tryz.prog 122 = some (4, 32, [.int .i64 0, .int .i64 0, .int .i64 0, .int .i64 0]) := by kernel_rfl
@[go_sem] theorem fes122 {i : Nat} : fldEs Tryz.prog 122 i = 0 := by kernel_rfl
@[go_sem] theorem tk135 : tk Tryz.prog 135 = some (true, 4) := by kernel_rfl
@[go_sem] theorem zr135 : zr Tryz.prog 135 = some [.sl true 1 [], .int .i64 0, .sl true 1 [], .sl true 1 []] := by kernel_rfl
@[go_sem] theorem ezT135 : ezT Tryz.prog 135 = 0 := by kernel_rfl
@[go_sem] theorem bld135 : bldP Tryz.prog 135 = some (fldOff Tryz.prog 135, [.sl true 1 [], .int .i64 0, .sl true 1 [], .sl true 1 []]) := by kernel_rfl
@[go_sem] theorem fld135_0 : fldOff Tryz.prog 135 0 = some (0, 1) := by kernel_rfl
@[go_sem] theorem fes135_0 : fldEs Tryz.prog 135 0 = 1 := by kernel_rfl
@[go_sem] theorem fld135_1 : fldOff Tryz.prog 135 1 = some (1, 1) := by kernel_rfl
@[go_sem] theorem fes135_1 : fldEs Tryz.prog 135 1 = 0 := by kernel_rfl
@[go_sem] theorem fld135_2 : fldOff Tryz.prog 135 2 = some (2, 1) := by kernel_rfl
@[go_sem] theorem fes135_2 : fldEs Tryz.prog 135 2 = 1 := by kernel_rfl
@[go_sem] theorem fld135_3 : fldOff Tryz.prog 135 3 = some (3, 1) := by kernel_rfl
@[go_sem] theorem fes135_3 : fldEs Tryz.prog 135 3 = 1 := by kernel_rfl
@[go_sem] theorem tk150 : tk Tryz.prog 150 = some (true, 4) := by kernel_rfl
@[go_sem] theorem zr150 : zr Tryz.prog 150 = some [.int .i64 0, .int .i64 0, .int .i64 0, .int .i64 0] := by kernel_rfl
@[go_sem] theorem ezT150 : ezT Tryz.prog 150 = 0 := by kernel_rfl
@[go_sem] theorem bld150 : bldP Tryz.prog 150 = some (fldOff Tryz.prog 150, [.int .i64 0, .int .i64 0, .int .i64 0, .int .i64 0]) := by kernel_rfl
@[go_sem] theorem fld150_0 : fldOff Tryz.prog 150 0 = some (0, 1) := by kernel_rfl
@[go_sem] theorem fes150_0 : fldEs Tryz.prog 150 0 = 0 := by kernel_rfl
@[go_sem] theorem fld150_1 : fldOff Tryz.prog 150 1 = some (1, 1) := by kernel_rfl
@[go_sem] theorem fes150_1 : fldEs Tryz.prog 150 1 = 0 := by kernel_rfl
@[go_sem] theorem fld150_2 : fldOff Tryz.prog 150 2 = some (2, 1) := by kernel_rfl
@[go_sem] theorem fes150_2 : fldEs Tryz.prog 150 2 = 0 := by kernel_rfl
@[go_sem] theorem fld150_3 : fldOff Tryz.prog 150 3 = some (3, 1) := by kernel_rfl
@[go_sem] theorem fes150_3 : fldEs Tryz.prog 150 3 = 0 := by kernel_rfl
@[go_sem] theorem tk153 : tk Tryz.prog 153 = some (false, 1) := by kernel_rfl
@[go_sem] theorem zr153 : zr Tryz.prog 153 = some [.int .u64 0] := by kernel_rfl
@[go_sem] theorem ezT153 : ezT Tryz.prog 153 = 0 := by kernel_rfl
@[go_sem] theorem ity153 : intTy Tryz.prog 153 = some .u64 := by kernel_rfl
@[go_sem] theorem ist153 : isStrTy Tryz.prog 153 = false := by kernel_rfl
@[go_sem] theorem tk154 : tk Tryz.prog 154 = some (false, 1) := by kernel_rfl
@[go_sem] theorem zr154 : zr Tryz.prog 154 = some [.sl true 2 []] := by kernel_rfl
@[go_sem] theorem ezT154 : ezT Tryz.prog 154 = 2 := by kernel_rfl
@[go_sem] theorem ety154 : elemTy Tryz.prog 154 = some 51 := by kernel_rfl
@[go_sem] theorem ist154 : isStrTy Tryz.prog 154 = false := by kernel_rfl
@[go_sem] theorem esz154 : esz Tryz.prog 154 = some 2 := by kernel_rfl
@[go_sem] theorem ez154 : ez Tryz.prog 154 = some (2, 48, [.sl false 1 [], .sl false 1 []]) := by kernel_rfl
@[go_sem] theorem fes154 {i : Nat} : fldEs Tryz.prog 154 i = 0 := by kernel_rfl
@[go_sem] theorem tk175 : tk Tryz.prog 175 = some (false, 1) := by kernel_rfl
@[go_sem] theorem zr175 : zr Tryz.prog 175 = some [.sl true 4 []] := by kernel_rfl
@[go_sem] theorem ezT175 : ezT Tryz.prog 175 = 4 := by kernel_rfl
@[go_sem] theorem ety175 : elemTy Tryz.prog 175 = some 178 := by kernel_rfl
@[go_sem] theorem ist175 : isStrTy Tryz.prog 175 = false := by kernel_rfl
@[go_sem] theorem esz175 : esz Tryz.prog 175 = some 4 := by kernel_rfl
@[go_sem] theorem ez175 : ez Tryz.prog 175 = some (4, 32, [.int .i64 0, .int .i64 0, .int .i64 0, .bool false]) := by kernel_rfl
@[go_sem] theorem fes175 {i : Nat} : fldEs Tryz.prog 175 i = 0 := by kernel_rfl
@[go_sem] theorem tk176 : tk Tryz.prog 176 = some (false, 1) := by kernel_rfl
@[go_sem] theorem zr176 : zr Tryz.prog 176 = some [.sl true 1 []] := by kernel_rfl
@[go_sem] theorem ezT176 : ezT Tryz.prog 176 = 1 := by kernel_rfl
@[go_sem] theorem ety176 : elemTy Tryz.prog 176 = some 4 := by kernel_rfl
@[go_sem] theorem ist176 : isStrTy Tryz.prog 176 = false := by kernel_rfl
@[go_sem] theorem esz176 : esz Tryz.prog 176 = some 1 := by kernel_rfl
@[go_sem] theorem ez176 : ez Tryz.prog 176 = some (1, 1, [.bool false]) := by kernel_rfl
@[go_sem] theorem fes176 {i : Nat} : fldEs Tryz.prog 176 i = 0 := by kernel_rfl
@[go_sem] theorem tk178 : tk Tryz.prog 178 = some (true, 4) := by kernel_rfl
@[go_sem] theorem zr178 : zr Tryz.prog 178 = some [.int .i64 0, .int .i64 0, .int .i64 0, .bool false] := by kernel_rfl
@[go_sem] theorem ezT178 : ezT Tryz.prog 178 = 0 := by kernel_rfl
@[go_sem] theorem bld178 : bldP Tryz.prog 178 = some (fldOff Tryz.prog 178, [.int .i64 0, .int .i64 0, .int .i64 0, .bool false]) := by kernel_rfl
@[go_sem] theorem fld178_0 : fldOff Tryz.prog 178 0 = some (0, 1) := by kernel_rfl
@[go_sem] theorem fes178_0 : fldEs Tryz.prog 178 0 = 0 := by kernel_rfl
@[go_sem] theorem fld178_1 : fldOff Tryz.prog 178 1 = some (1, 1) := by kernel_rfl
@[go_sem] theorem fes178_1 : fldEs Tryz.prog 178 1 = 0 := by kernel_rfl
@[go_sem] theorem fld178_2 : fldOff Tryz.prog 178 2 = some (2, 1) := by kernel_rfl
@[go_sem] theorem fes178_2 : fldEs Tryz.prog 178 2 = 0 := by kernel_rfl
@[go_sem] theorem fld178_3 : fldOff Tryz.prog 178 3 = some (3, 1) := by kernel_rfl
@[go_sem] theorem fes178_3 : fldEs Tryz.prog 178 3 = 0 := by kernel_rfl
@[go_sem] theorem tk192 : tk Tryz.prog 192 = some (false, 1) := by kernel_rfl
@[go_sem] theorem zr192 : zr Tryz.prog 192 = some [.nilp] := by kernel_rfl
@[go_sem] theorem ezT192 : ezT Tryz.prog 192 = 0 := by kernel_rfl
@[go_sem] theorem tk194 : tk Tryz.prog 194 = some (true, 2) := by kernel_rfl
@[go_sem] theorem zr194 : zr Tryz.prog 194 = some [.int .i64 0, .int .i64 0] := by kernel_rfl
@[go_sem] theorem ezT194 : ezT Tryz.prog 194 = 0 := by kernel_rfl
@[go_sem] theorem bld194 : bldP Tryz.prog 194 = some (fldOff Tryz.prog 194, [.int .i64 0, .int .i64 0]) := by kernel_rfl
@[go_sem] theorem fld194_0 : fldOff Tryz.prog 194 0 = some (0, 1) := by kernel_rfl
@[go_sem] theorem fes194_0 : fldEs Tryz.prog 194 0 = 0 := by kernel_rfl
@[go_sem] theorem fld194_1 : fldOff Tryz.prog 194 1 = some (1, 1) := by kernel_rfl
@[go_sem] theorem fes194_1 : fldEs Tryz.prog 194 1 = 0 := by kernel_rfl
theorem follows : Tryz.prog.follows .mixedOrders = true := by kernel_rfl
theorem cl3 : Callable Tryz.prog 3 := fun args w => Tryz.call3 args w
theorem cl5 : Callable Tryz.prog 5 := fun args w => Tryz.call5 args w
theorem cl6 : Callable Tryz.prog 6 := fun args w => Tryz.call6 args w
theorem cl7 : Callable Tryz.prog 7 := fun args w => Tryz.call7 args w
theorem cl8 : Callable Tryz.prog 8 := fun args w => Tryz.call8 args w
theorem cl9 : Callable Tryz.prog 9 := fun args w => Tryz.call9 args w
theorem cl10 : Callable Tryz.prog 10 := fun args w => Tryz.call10 args w
theorem cl11 : Callable Tryz.prog 11 := fun args w => Tryz.call11 args w
theorem cl12 : Callable Tryz.prog 12 := fun args w => Tryz.call12 args w
theorem cl26 : Callable Tryz.prog 26 := fun args w => Tryz.call26 args w
theorem cl27 : Callable Tryz.prog 27 := fun args w => Tryz.call27 args w
theorem cl28 : Callable Tryz.prog 28 := fun args w => Tryz.call28 args w
theorem cl29 : Callable Tryz.prog 29 := fun args w => Tryz.call29 args w
theorem cl30 : Callable Tryz.prog 30 := fun args w => Tryz.call30 args w
theorem cl31 : Callable Tryz.prog 31 := fun args w => Tryz.call31 args w
theorem cl32 : Callable Tryz.prog 32 := fun args w => Tryz.call32 args w
theorem cl33 : Callable Tryz.prog 33 := fun args w => Tryz.call33 args w
theorem cl34 : Callable Tryz.prog 34 := fun args w => Tryz.call34 args w
theorem cl35 : Callable Tryz.prog 35 := fun args w => Tryz.call35 args w
theorem cl36 : Callable Tryz.prog 36 := fun args w => Tryz.call36 args w
theorem cl37 : Callable Tryz.prog 37 := fun args w => Tryz.call37 args w
theorem cl38 : Callable Tryz.prog 38 := fun args w => Tryz.call38 args w
theorem cl39 : Callable Tryz.prog 39 := fun args w => Tryz.call39 args w
theorem cl40 : Callable Tryz.prog 40 := fun args w => Tryz.call40 args w
theorem cl41 : Callable Tryz.prog 41 := fun args w => Tryz.call41 args w
theorem cl42 : Callable Tryz.prog 42 := fun args w => Tryz.call42 args w
theorem cl43 : Callable Tryz.prog 43 := fun args w => Tryz.call43 args w
theorem cl44 : Callable Tryz.prog 44 := fun args w => Tryz.call44 args w
theorem cl45 : Callable Tryz.prog 45 := fun args w => Tryz.call45 args w
theorem cl46 : Callable Tryz.prog 46 := fun args w => Tryz.call46 args w
theorem cl48 : Callable Tryz.prog 48 := fun args w => Tryz.call48 args w
theorem cl49 : Callable Tryz.prog 49 := fun args w => Tryz.call49 args w
theorem cl50 : Callable Tryz.prog 50 := fun args w => Tryz.call50 args w
theorem cl53 : Callable Tryz.prog 53 := fun args w => Tryz.call53 args w
theorem cl62 : Callable Tryz.prog 62 := fun args w => Tryz.call62 args w
theorem cl66 : Callable Tryz.prog 66 := fun args w => Tryz.call66 args w
theorem cl70 : Callable Tryz.prog 70 := fun args w => Tryz.call70 args w
theorem cl74 : Callable Tryz.prog 74 := fun args w => Tryz.call74 args w
theorem cl77 : Callable Tryz.prog 77 := fun args w => Tryz.call77 args w
theorem cl79 : Callable Tryz.prog 79 := fun args w => Tryz.call79 args w
theorem cl80 : Callable Tryz.prog 80 := fun args w => Tryz.call80 args w
theorem cl81 : Callable Tryz.prog 81 := fun args w => Tryz.call81 args w
theorem cl82 : Callable Tryz.prog 82 := fun args w => Tryz.call82 args w
theorem cl83 : Callable Tryz.prog 83 := fun args w => Tryz.call83 args w
theorem cl84 : Callable Tryz.prog 84 := fun args w => Tryz.call84 args w
theorem cl85 : Callable Tryz.prog 85 := fun args w => Tryz.call85 args w
theorem cl86 : Callable Tryz.prog 86 := fun args w => Tryz.call86 args w
theorem cl87 : Callable Tryz.prog 87 := fun args w => Tryz.call87 args w
theorem cl88 : Callable Tryz.prog 88 := fun args w => Tryz.call88 args w
theorem cl89 : Callable Tryz.prog 89 := fun args w => Tryz.call89 args w
theorem cl90 : Callable Tryz.prog 90 := fun args w => Tryz.call90 args w
theorem cl91 : Callable Tryz.prog 91 := fun args w => Tryz.call91 args w
theorem cl92 : Callable Tryz.prog 92 := fun args w => Tryz.call92 args w
theorem cl93 : Callable Tryz.prog 93 := fun args w => Tryz.call93 args w
theorem cl94 : Callable Tryz.prog 94 := fun args w => Tryz.call94 args w
theorem cl95 : Callable Tryz.prog 95 := fun args w => Tryz.call95 args w
theorem cl96 : Callable Tryz.prog 96 := fun args w => Tryz.call96 args w
theorem cl97 : Callable Tryz.prog 97 := fun args w => Tryz.call97 args w
theorem cl98 : Callable Tryz.prog 98 := fun args w => Tryz.call98 args w
theorem cl99 : Callable Tryz.prog 99 := fun args w => Tryz.call99 args w
theorem cl100 : Callable Tryz.prog 100 := fun args w => Tryz.call100 args w
theorem cl101 : Callable Tryz.prog 101 := fun args w => Tryz.call101 args w
theorem cl102 : Callable Tryz.prog 102 := fun args w => Tryz.call102 args w
theorem cl103 : Callable Tryz.prog 103 := fun args w => Tryz.call103 args w
theorem cl104 : Callable Tryz.prog 104 := fun args w => Tryz.call104 args w
theorem cl105 : Callable Tryz.prog 105 := fun args w => Tryz.call105 args w
theorem cl106 : Callable Tryz.prog 106 := fun args w => Tryz.call106 args w
theorem cl107 : Callable Tryz.prog 107 := fun args w => Tryz.call107 args w
theorem cl108 : Callable Tryz.prog 108 := fun args w => Tryz.call108 args w
theorem cl109 : Callable Tryz.prog 109 := fun args w => Tryz.call109 args w
theorem cl110 : Callable Tryz.prog 110 := fun args w => Tryz.call110 args w
theorem cl111 : Callable Tryz.prog 111 := fun args w => Tryz.call111 args w
theorem cl112 : Callable Tryz.prog 112 := fun args w => Tryz.call112 args w
theorem cl113 : Callable Tryz.prog 113 := fun args w => Tryz.call113 args w
theorem cl114 : Callable Tryz.prog 114 := fun args w => Tryz.call114 args w
theorem cl115 : Callable Tryz.prog 115 := fun args w => Tryz.call115 args w
theorem cl123 : Callable Tryz.prog 123 := fun args w => Tryz.call123 args w
theorem cl124 : Callable Tryz.prog 124 := fun args w => Tryz.call124 args w
theorem cl131 : Callable Tryz.prog 131 := fun args w => Tryz.call131 args w
theorem cl132 : Callable Tryz.prog 132 := fun args w => Tryz.call132 args w
theorem cl133 : Callable Tryz.prog 133 := fun args w => Tryz.call133 args w
theorem cl134 : Callable Tryz.prog 134 := fun args w => Tryz.call134 args w
theorem cl135 : Callable Tryz.prog 135 := fun args w => Tryz.call135 args w
theorem cl136 : Callable Tryz.prog 136 := fun args w => Tryz.call136 args w
theorem cl137 : Callable Tryz.prog 137 := fun args w => Tryz.call137 args w
theorem cl138 : Callable Tryz.prog 138 := fun args w => Tryz.call138 args w
theorem cl139 : Callable Tryz.prog 139 := fun args w => Tryz.call139 args w
theorem cl140 : Callable Tryz.prog 140 := fun args w => Tryz.call140 args w
theorem cl141 : Callable Tryz.prog 141 := fun args w => Tryz.call141 args w
theorem cl142 : Callable Tryz.prog 142 := fun args w => Tryz.call142 args w
theorem cl143 : Callable Tryz.prog 143 := fun args w => Tryz.call143 args w
theorem cl144 : Callable Tryz.prog 144 := fun args w => Tryz.call144 args w
theorem cl145 : Callable Tryz.prog 145 := fun args w => Tryz.call145 args w
theorem cl146 : Callable Tryz.prog 146 := fun args w => Tryz.call146 args w
theorem cl156 : Callable Tryz.prog 156 := fun args w => Tryz.call156 args w
theorem cl158 : Callable Tryz.prog 158 := fun args w => Tryz.call158 args w
theorem cl168 : Callable Tryz.prog 168 := fun args w => Tryz.call168 args w
theorem cl169 : Callable Tryz.prog 169 := fun args w => Tryz.call169 args w
theorem cl170 : Callable Tryz.prog 170 := fun args w => Tryz.call170 args w
theorem cl181 : Callable Tryz.prog 181 := fun args w => Tryz.call181 args w
theorem cl182 : Callable Tryz.prog 182 := fun args w => Tryz.call182 args w
theorem cl189 : Callable Tryz.prog 189 := fun args w => Tryz.call189 args w
end Go.Pm
