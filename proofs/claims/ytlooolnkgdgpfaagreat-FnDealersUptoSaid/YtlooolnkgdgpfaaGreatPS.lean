import Derived.Test.YtlooolnkgdgpfaaGreatPmW
import Derived.Test.YtlooolnkgdgpfaaGreatProg
import Derived.KernelRfl
namespace Go.Pm
open Go.Am
open Go.Proofs
set_option maxRecDepth 100000
@[go_sem] theorem tk3 : tk Tryz.prog 3 = some (false, 1) := by kernel_rfl
@[go_sem] theorem zr3 : zr Tryz.prog 3 = some [.int .i64 0] := by kernel_rfl
@[go_sem] theorem ezT3 : ezT Tryz.prog 3 = 0 := by kernel_rfl
@[go_sem] theorem ity3 : intTy Tryz.prog 3 = some .i64 := by kernel_rfl
@[go_sem] theorem ist3 : isStrTy Tryz.prog 3 = false := by kernel_rfl
@[go_sem] theorem tk4 : tk Tryz.prog 4 = some (false, 1) := by kernel_rfl
@[go_sem] theorem zr4 : zr Tryz.prog 4 = some [.bool false] := by kernel_rfl
@[go_sem] theorem ezT4 : ezT Tryz.prog 4 = 0 := by kernel_rfl
@[go_sem] theorem ibt4 : isBoolTy Tryz.prog 4 = true := by kernel_rfl
@[go_sem] theorem tk5 : tk Tryz.prog 5 = some (false, 1) := by kernel_rfl
@[go_sem] theorem zr5 : zr Tryz.prog 5 = some [.int .u8 0] := by kernel_rfl
@[go_sem] theorem ezT5 : ezT Tryz.prog 5 = 0 := by kernel_rfl
@[go_sem] theorem ity5 : intTy Tryz.prog 5 = some .u8 := by kernel_rfl
@[go_sem] theorem ist5 : isStrTy Tryz.prog 5 = false := by kernel_rfl
@[go_sem] theorem tk9 : tk Tryz.prog 9 = some (false, 1) := by kernel_rfl
@[go_sem] theorem zr9 : zr Tryz.prog 9 = some [.str ⟨#[]⟩] := by kernel_rfl
@[go_sem] theorem ezT9 : ezT Tryz.prog 9 = 0 := by kernel_rfl
@[go_sem] theorem ist9 : isStrTy Tryz.prog 9 = true := by kernel_rfl
@[go_sem] theorem tk20 : tk Tryz.prog 20 = some (false, 1) := by kernel_rfl
@[go_sem] theorem zr20 : zr Tryz.prog 20 = some [.nili] := by kernel_rfl
@[go_sem] theorem ezT20 : ezT Tryz.prog 20 = 0 := by kernel_rfl
@[go_sem] theorem tk22 : tk Tryz.prog 22 = some (false, 1) := by kernel_rfl
@[go_sem] theorem zr22 : zr Tryz.prog 22 = some [.sl true 1 []] := by kernel_rfl
@[go_sem] theorem ezT22 : ezT Tryz.prog 22 = 1 := by kernel_rfl
@[go_sem] theorem ety22 : elemTy Tryz.prog 22 = some 5 := by kernel_rfl
@[go_sem] theorem ist22 : isStrTy Tryz.prog 22 = false := by kernel_rfl
@[go_sem] theorem esz22 : esz Tryz.prog 22 = some 1 := by kernel_rfl
@[go_sem] theorem ibs22 : isByS Tryz.prog 22 = true := by kernel_rfl
@[go_sem] theorem ez22 : ez Tryz.prog 22 = some (1, 1, [.int .u8 0]) := by kernel_rfl
@[go_sem] theorem fes22 {i : Nat} : fldEs Tryz.prog 22 i = 0 := by kernel_rfl
@[go_sem] theorem tk24 : tk Tryz.prog 24 = some (true, 3) := by kernel_rfl
@[go_sem] theorem zr24 : zr Tryz.prog 24 = some [.int .i64 0, .int .i64 0, .int .i64 0] := by kernel_rfl
@[go_sem] theorem ezT24 : ezT Tryz.prog 24 = 0 := by kernel_rfl
@[go_sem] theorem bld24 : bldP Tryz.prog 24 = some (fldOff Tryz.prog 24, [.int .i64 0, .int .i64 0, .int .i64 0]) := by kernel_rfl
@[go_sem] theorem fld24_0 : fldOff Tryz.prog 24 0 = some (0, 1) := by kernel_rfl
@[go_sem] theorem fes24_0 : fldEs Tryz.prog 24 0 = 0 := by kernel_rfl
@[go_sem] theorem fld24_1 : fldOff Tryz.prog 24 1 = some (1, 1) := by kernel_rfl
@[go_sem] theorem fes24_1 : fldEs Tryz.prog 24 1 = 0 := by kernel_rfl
@[go_sem] theorem fld24_2 : fldOff Tryz.prog 24 2 = some (2, 1) := by kernel_rfl
@[go_sem] theorem fes24_2 : fldEs Tryz.prog 24 2 = 0 := by kernel_rfl
@[go_sem] theorem tk25 : tk Tryz.prog 25 = some (false, 1) := by kernel_rfl
@[go_sem] theorem zr25 : zr Tryz.prog 25 = some [.sl true 1 []] := by kernel_rfl
@[go_sem] theorem ezT25 : ezT Tryz.prog 25 = 1 := by kernel_rfl
@[go_sem] theorem ety25 : elemTy Tryz.prog 25 = some 32 := by kernel_rfl
@[go_sem] theorem ist25 : isStrTy Tryz.prog 25 = false := by kernel_rfl
@[go_sem] theorem esz25 : esz Tryz.prog 25 = some 1 := by kernel_rfl
@[go_sem] theorem ez25 : ez Tryz.prog 25 = some (1, 24, [.sl false 1 []]) := by kernel_rfl
@[go_sem] theorem fes25 {i : Nat} : fldEs Tryz.prog 25 i = 1 := by kernel_rfl
@[go_sem] theorem tk26 : tk Tryz.prog 26 = some (false, 1) := by kernel_rfl
@[go_sem] theorem zr26 : zr Tryz.prog 26 = some [.sl true 4 []] := by kernel_rfl
@[go_sem] theorem ezT26 : ezT Tryz.prog 26 = 4 := by kernel_rfl
@[go_sem] theorem ety26 : elemTy Tryz.prog 26 = some 121 := by kernel_rfl
@[go_sem] theorem ist26 : isStrTy Tryz.prog 26 = false := by kernel_rfl
@[go_sem] theorem esz26 : esz Tryz.prog 26 = some 4 := by kernel_rfl
@[go_sem] theorem ez26 : ez Tryz.prog 26 = some (4, 32, [.int .i64 0, .int .i64 0, .int .i64 0, .bool false]) := by kernel_rfl
@[go_sem] theorem fes26 {i : Nat} : fldEs Tryz.prog 26 i = 0 := by kernel_rfl
@[go_sem] theorem tk29 : tk Tryz.prog 29 = some (false, 1) := by kernel_rfl
@[go_sem] theorem zr29 : zr Tryz.prog 29 = some [.sl true 2 []] := by kernel_rfl
@[go_sem] theorem ezT29 : ezT Tryz.prog 29 = 2 := by kernel_rfl
@[go_sem] theorem ety29 : elemTy Tryz.prog 29 = some 34 := by kernel_rfl
@[go_sem] theorem ist29 : isStrTy Tryz.prog 29 = false := by kernel_rfl
@[go_sem] theorem esz29 : esz Tryz.prog 29 = some 2 := by kernel_rfl
@[go_sem] theorem ez29 : ez Tryz.prog 29 = some (2, 48, [.sl false 1 [], .sl false 1 []]) := by kernel_rfl
@[go_sem] theorem fes29 {i : Nat} : fldEs Tryz.prog 29 i = 0 := by kernel_rfl
@[go_sem] theorem tk32 : tk Tryz.prog 32 = some (false, 1) := by kernel_rfl
@[go_sem] theorem zr32 : zr Tryz.prog 32 = some [.sl true 1 []] := by kernel_rfl
@[go_sem] theorem ezT32 : ezT Tryz.prog 32 = 1 := by kernel_rfl
@[go_sem] theorem ety32 : elemTy Tryz.prog 32 = some 3 := by kernel_rfl
@[go_sem] theorem ist32 : isStrTy Tryz.prog 32 = false := by kernel_rfl
@[go_sem] theorem esz32 : esz Tryz.prog 32 = some 1 := by kernel_rfl
@[go_sem] theorem ez32 : ez Tryz.prog 32 = some (1, 8, [.int .i64 0]) := by kernel_rfl
@[go_sem] theorem fes32 {i : Nat} : fldEs Tryz.prog 32 i = 0 := by kernel_rfl
@[go_sem] theorem tk34 : tk Tryz.prog 34 = some (true, 2) := by kernel_rfl
@[go_sem] theorem zr34 : zr Tryz.prog 34 = some [.sl true 1 [], .sl true 1 []] := by kernel_rfl
@[go_sem] theorem ezT34 : ezT Tryz.prog 34 = 0 := by kernel_rfl
@[go_sem] theorem bld34 : bldP Tryz.prog 34 = some (fldOff Tryz.prog 34, [.sl true 1 [], .sl true 1 []]) := by kernel_rfl
@[go_sem] theorem fld34_0 : fldOff Tryz.prog 34 0 = some (0, 1) := by kernel_rfl
@[go_sem] theorem fes34_0 : fldEs Tryz.prog 34 0 = 1 := by kernel_rfl
@[go_sem] theorem fld34_1 : fldOff Tryz.prog 34 1 = some (1, 1) := by kernel_rfl
@[go_sem] theorem fes34_1 : fldEs Tryz.prog 34 1 = 1 := by kernel_rfl
@[go_sem] theorem tk36 : tk Tryz.prog 36 = some (true, 3) := by kernel_rfl
@[go_sem] theorem zr36 : zr Tryz.prog 36 = some [.sl true 1 [], .sl true 1 [], .sl true 1 []] := by kernel_rfl
@[go_sem] theorem ezT36 : ezT Tryz.prog 36 = 0 := by kernel_rfl
@[go_sem] theorem bld36 : bldP Tryz.prog 36 = some (fldOff Tryz.prog 36, [.sl true 1 [], .sl true 1 [], .sl true 1 []]) := by kernel_rfl
@[go_sem] theorem fld36_0 : fldOff Tryz.prog 36 0 = some (0, 1) := by kernel_rfl
@[go_sem] theorem fes36_0 : fldEs Tryz.prog 36 0 = 1 := by kernel_rfl
@[go_sem] theorem fld36_1 : fldOff Tryz.prog 36 1 = some (1, 1) := by kernel_rfl
@[go_sem] theorem fes36_1 : fldEs Tryz.prog 36 1 = 1 := by kernel_rfl
@[go_sem] theorem fld36_2 : fldOff Tryz.prog 36 2 = some (2, 1) := by kernel_rfl
@[go_sem] theorem fes36_2 : fldEs Tryz.prog 36 2 = 1 := by kernel_rfl
@[go_sem] theorem tk55 : tk Tryz.prog 55 = some (false, 1) := by kernel_rfl
@[go_sem] theorem zr55 : zr Tryz.prog 55 = some [.sl true 2 []] := by kernel_rfl
@[go_sem] theorem ezT55 : ezT Tryz.prog 55 = 2 := by kernel_rfl
@[go_sem] theorem ety55 : elemTy Tryz.prog 55 = some 61 := by kernel_rfl
@[go_sem] theorem ist55 : isStrTy Tryz.prog 55 = false := by kernel_rfl
@[go_sem] theorem esz55 : esz Tryz.prog 55 = some 2 := by kernel_rfl
@[go_sem] theorem ez55 : ez Tryz.prog 55 = some (2, 16, [.int .i64 0, .int .i64 0]) := by kernel_rfl
@[go_sem] theorem fes55 {i : Nat} : fldEs Tryz.prog 55 i = 0 := by kernel_rfl
@[go_sem] theorem tk56 : tk Tryz.prog 56 = some (false, 1) := by kernel_rfl
@[go_sem] theorem zr56 : zr Tryz.prog 56 = some [.sl true 1 []] := by kernel_rfl
@[go_sem] theorem ezT56 : ezT Tryz.prog 56 = 1 := by kernel_rfl
@[go_sem] theorem ety56 : elemTy Tryz.prog 56 = some 65 := by kernel_rfl
@[go_sem] theorem ist56 : isStrTy Tryz.prog 56 = false := by kernel_rfl
@[go_sem] theorem esz56 : esz Tryz.prog 56 = some 1 := by kernel_rfl
@[go_sem] theorem ez56 : ez Tryz.prog 56 = some (1, 24, [.sl false 5 []]) := by kernel_rfl
@[go_sem] theorem fes56 {i : Nat} : fldEs Tryz.prog 56 i = 5 := by kernel_rfl
@[go_sem] theorem tk61 : tk Tryz.prog 61 = some (true, 2) := by kernel_rfl
@[go_sem] theorem zr61 : zr Tryz.prog 61 = some [.int .i64 0, .int .i64 0] := by kernel_rfl
@[go_sem] theorem ezT61 : ezT Tryz.prog 61 = 0 := by kernel_rfl
@[go_sem] theorem bld61 : bldP Tryz.prog 61 = some (fldOff Tryz.prog 61, [.int .i64 0, .int .i64 0]) := by kernel_rfl
@[go_sem] theorem fld61_0 : fldOff Tryz.prog 61 0 = some (0, 1) := by kernel_rfl
@[go_sem] theorem fes61_0 : fldEs Tryz.prog 61 0 = 0 := by kernel_rfl
@[go_sem] theorem fld61_1 : fldOff Tryz.prog 61 1 = some (1, 1) := by kernel_rfl
@[go_sem] theorem fes61_1 : fldEs Tryz.prog 61 1 = 0 := by kernel_rfl
@[go_sem] theorem tk65 : tk Tryz.prog 65 = some (false, 1) := by kernel_rfl
@[go_sem] theorem zr65 : zr Tryz.prog 65 = some [.sl true 5 []] := by kernel_rfl
@[go_sem] theorem ezT65 : ezT Tryz.prog 65 = 5 := by kernel_rfl
@[go_sem] theorem ety65 : elemTy Tryz.prog 65 = some 72 := by kernel_rfl
@[go_sem] theorem ist65 : isStrTy Tryz.prog 65 = false := by kernel_rfl
@[go_sem] theorem esz65 : esz Tryz.prog 65 = some 5 := by kernel_rfl
@[go_sem] theorem ez65 : ez Tryz.prog 65 = some (5, 88, [.int .i64 0, .int .i64 0, .sl false 1 [], .sl false 1 [], .sl false 1 []]) := by kernel_rfl
@[go_sem] theorem fes65 {i : Nat} : fldEs Tryz.prog 65 i = 0 := by kernel_rfl
@[go_sem] theorem tk72 : tk Tryz.prog 72 = some (true, 5) := by kernel_rfl
@[go_sem] theorem zr72 : zr Tryz.prog 72 = some [.int .i64 0, .int .i64 0, .sl true 1 [], .sl true 1 [], .sl true 1 []] := by kernel_rfl
@[go_sem] theorem ezT72 : ezT Tryz.prog 72 = 0 := by kernel_rfl
@[go_sem] theorem bld72 : bldP Tryz.prog 72 = some (fldOff Tryz.prog 72, [.int .i64 0, .int .i64 0, .sl true 1 [], .sl true 1 [], .sl true 1 []]) := by kernel_rfl
@[go_sem] theorem fld72_0 : fldOff Tryz.prog 72 0 = some (0, 1) := by kernel_rfl
@[go_sem] theorem fes72_0 : fldEs Tryz.prog 72 0 = 0 := by kernel_rfl
@[go_sem] theorem fld72_1 : fldOff Tryz.prog 72 1 = some (1, 1) := by kernel_rfl
@[go_sem] theorem fes72_1 : fldEs Tryz.prog 72 1 = 0 := by kernel_rfl
@[go_sem] theorem fld72_2 : fldOff Tryz.prog 72 2 = some (2, 3) := by kernel_rfl
@[go_sem] theorem fes72_2 : fldEs Tryz.prog 72 2 = 0 := by kernel_rfl
@[go_sem] theorem tk76 : tk Tryz.prog 76 = some (true, 5) := by kernel_rfl
@[go_sem] theorem zr76 : zr Tryz.prog 76 = some [.sl true 1 [], .sl true 1 [], .sl true 1 [], .sl true 1 [], .sl true 1 []] := by kernel_rfl
@[go_sem] theorem ezT76 : ezT Tryz.prog 76 = 0 := by kernel_rfl
@[go_sem] theorem bld76 : bldP Tryz.prog 76 = some (fldOff Tryz.prog 76, [.sl true 1 [], .sl true 1 [], .sl true 1 [], .sl true 1 [], .sl true 1 []]) := by kernel_rfl
@[go_sem] theorem fld76_0 : fldOff Tryz.prog 76 0 = some (0, 1) := by kernel_rfl
@[go_sem] theorem fes76_0 : fldEs Tryz.prog 76 0 = 1 := by kernel_rfl
@[go_sem] theorem fld76_1 : fldOff Tryz.prog 76 1 = some (1, 1) := by kernel_rfl
@[go_sem] theorem fes76_1 : fldEs Tryz.prog 76 1 = 1 := by kernel_rfl
@[go_sem] theorem fld76_2 : fldOff Tryz.prog 76 2 = some (2, 3) := by kernel_rfl
@[go_sem] theorem fes76_2 : fldEs Tryz.prog 76 2 = 0 := by kernel_rfl
@[go_sem] theorem tk88 : tk Tryz.prog 88 = some (true, 6) := by kernel_rfl
@[go_sem] theorem zr88 : zr Tryz.prog 88 = some [.sl true 1 [], .sl true 1 [], .sl true 1 [], .sl true 1 [], .sl true 1 [], .sl true 1 []] := by kernel_rfl
@[go_sem] theorem ezT88 : ezT Tryz.prog 88 = 0 := by kernel_rfl
@[go_sem] theorem bld88 : bldP Tryz.prog 88 = some (fldOff Tryz.prog 88, [.sl true 1 [], .sl true 1 [], .sl true 1 [], .sl true 1 [], .sl true 1 [], .sl true 1 []]) := by kernel_rfl
@[go_sem] theorem fld88_0 : fldOff Tryz.prog 88 0 = some (0, 1) := by kernel_rfl
@[go_sem] theorem fes88_0 : fldEs Tryz.prog 88 0 = 1 := by kernel_rfl
@[go_sem] theorem fld88_1 : fldOff Tryz.prog 88 1 = some (1, 1) := by kernel_rfl
@[go_sem] theorem fes88_1 : fldEs Tryz.prog 88 1 = 1 := by kernel_rfl
@[go_sem] theorem fld88_2 : fldOff Tryz.prog 88 2 = some (2, 1) := by kernel_rfl
@[go_sem] theorem fes88_2 : fldEs Tryz.prog 88 2 = 1 := by kernel_rfl
@[go_sem] theorem fld88_3 : fldOff Tryz.prog 88 3 = some (3, 3) := by kernel_rfl
@[go_sem] theorem fes88_3 : fldEs Tryz.prog 88 3 = 0 := by kernel_rfl
@[go_sem] theorem tk98 : tk Tryz.prog 98 = some (false, 1) := by kernel_rfl
@[go_sem] theorem zr98 : zr Tryz.prog 98 = some [.sl true 6 []] := by kernel_rfl
@[go_sem] theorem ezT98 : ezT Tryz.prog 98 = 6 := by kernel_rfl
@[go_sem] theorem ety98 : elemTy Tryz.prog 98 = some 274 := by kernel_rfl
@[go_sem] theorem ist98 : isStrTy Tryz.prog 98 = false := by kernel_rfl
@[go_sem] theorem esz98 : esz Tryz.prog 98 = some 6 := by kernel_rfl
@[go_sem] theorem ez98 : ez Tryz.prog 98 = some (6, 96, [.int .i64 0, .int .i64 0, .int .i64 0, .sl false 1 [], .sl false 1 [], .sl false 1 []]) := by kernel_rfl
@[go_sem] theorem fes98 {i : Nat} : fldEs Tryz.prog 98 i = 0 := by kernel_rfl
@[go_sem] theorem tk108 : tk Tryz.prog 108 = some (false, 1) := by kernel_rfl
@[go_sem] theorem zr108 : zr Tryz.prog 108 = some [.nilp] := by kernel_rfl
@[go_sem] theorem ezT108 : ezT Tryz.prog 108 = 0 := by kernel_rfl
@[go_sem] theorem tk109 : tk Tryz.prog 109 = some (false, 1) := by kernel_rfl
@[go_sem] theorem zr109 : zr Tryz.prog 109 = some [.int .u64 0] := by kernel_rfl
@[go_sem] theorem ezT109 : ezT Tryz.prog 109 = 0 := by kernel_rfl
@[go_sem] theorem ity109 : intTy Tryz.prog 109 = some .u64 := by kernel_rfl
@[go_sem] theorem ist109 : isStrTy Tryz.prog 109 = false := by kernel_rfl
@[go_sem] theorem tk111 : tk Tryz.prog 111 = some (true, 3) := by kernel_rfl
@[go_sem] theorem zr111 : zr Tryz.prog 111 = some [.sl true 1 [], .int .i64 0, .int .u64 0] := by kernel_rfl
@[go_sem] theorem ezT111 : ezT Tryz.prog 111 = 0 := by kernel_rfl
@[go_sem] theorem bld111 : bldP Tryz.prog 111 = some (fldOff Tryz.prog 111, [.sl true 1 [], .int .i64 0, .int .u64 0]) := by kernel_rfl
@[go_sem] theorem fld111_0 : fldOff Tryz.prog 111 0 = some (0, 1) := by kernel_rfl
@[go_sem] theorem fes111_0 : fldEs Tryz.prog 111 0 = 1 := by kernel_rfl
@[go_sem] theorem fld111_1 : fldOff Tryz.prog 111 1 = some (1, 1) := by kernel_rfl
@[go_sem] theorem fes111_1 : fldEs Tryz.prog 111 1 = 0 := by kernel_rfl
@[go_sem] theorem fld111_2 : fldOff Tryz.prog 111 2 = some (2, 1) := by kernel_rfl
@[go_sem] theorem fes111_2 : fldEs Tryz.prog 111 2 = 0 := by kernel_rfl
@[go_sem] theorem tk121 : tk Tryz.prog 121 = some (true, 4) := by kernel_rfl
@[go_sem] theorem zr121 : zr Tryz.prog 121 = some [.int .i64 0, .int .i64 0, .int .i64 0, .bool false] := by kernel_rfl
@[go_sem] theorem ezT121 : ezT Tryz.prog 121 = 0 := by kernel_rfl
@[go_sem] theorem bld121 : bldP Tryz.prog 121 = some (fldOff Tryz.prog 121, [.int .i64 0, .int .i64 0, .int .i64 0, .bool false]) := by kernel_rfl
@[go_sem] theorem fld121_0 : fldOff Tryz.prog 121 0 = some (0, 1) := by kernel_rfl
@[go_sem] theorem fes121_0 : fldEs Tryz.prog 121 0 = 0 := by kernel_rfl
@[go_sem] theorem fld121_1 : fldOff Tryz.prog 121 1 = some (1, 1) := by kernel_rfl
@[go_sem] theorem fes121_1 : fldEs Tryz.prog 121 1 = 0 := by kernel_rfl
@[go_sem] theorem fld121_2 : fldOff Tryz.prog 121 2 = some (2, 1) := by kernel_rfl
@[go_sem] theorem fes121_2 : fldEs Tryz.prog 121 2 = 0 := by kernel_rfl
@[go_sem] theorem fld121_3 : fldOff Tryz.prog 121 3 = some (3, 1) := by kernel_rfl
@[go_sem] theorem fes121_3 : fldEs Tryz.prog 121 3 = 0 := by kernel_rfl
@[go_sem] theorem tk124 : tk Tryz.prog 124 = some (false, 1) := by kernel_rfl
@[go_sem] theorem zr124 : zr Tryz.prog 124 = some [.nilf] := by kernel_rfl
@[go_sem] theorem ezT124 : ezT Tryz.prog 124 = 0 := by kernel_rfl
@[go_sem] theorem tk127 : tk Tryz.prog 127 = some (false, 1) := by kernel_rfl
@[go_sem] theorem zr127 : zr Tryz.prog 127 = some [.sl true 1 []] := by kernel_rfl
@[go_sem] theorem ezT127 : ezT Tryz.prog 127 = 1 := by kernel_rfl
@[go_sem] theorem ety127 : elemTy Tryz.prog 127 = some 4 := by kernel_rfl
@[go_sem] theorem ist127 : isStrTy Tryz.prog 127 = false := by kernel_rfl
@[go_sem] theorem esz127 : esz Tryz.prog 127 = some 1 := by kernel_rfl
@[go_sem] theorem ez127 : ez Tryz.prog 127 = some (1, 1, [.bool false]) := by kernel_rfl
@[go_sem] theorem fes127 {i : Nat} : fldEs Tryz.prog 127 i = 0 := by kernel_rfl
@[go_sem] theorem tk130 : tk Tryz.prog 130 = some (false, 1) := by kernel_rfl
@[go_sem] theorem zr130 : zr Tryz.prog 130 = some [.nilf] := by kernel_rfl
@[go_sem] theorem ezT130 : ezT Tryz.prog 130 = 0 := by kernel_rfl
@[go_sem] theorem tk138 : tk Tryz.prog 138 = some (false, 1) := by kernel_rfl
@[go_sem] theorem zr138 : zr Tryz.prog 138 = some [.nilf] := by kernel_rfl
@[go_sem] theorem ezT138 : ezT Tryz.prog 138 = 0 := by kernel_rfl
@[go_sem] theorem tk144 : tk Tryz.prog 144 = some (false, 1) := by kernel_rfl
@[go_sem] theorem zr144 : zr Tryz.prog 144 = some [.nilf] := by kernel_rfl
@[go_sem] theorem ezT144 : ezT Tryz.prog 144 = 0 := by kernel_rfl
@[go_sem] theorem tk149 : tk Tryz.prog 149 = some (false, 1) := by kernel_rfl
@[go_sem] theorem zr149 : zr Tryz.prog 149 = some [.nilf] := by kernel_rfl
@[go_sem] theorem ezT149 : ezT Tryz.prog 149 = 0 := by kernel_rfl
@[go_sem] theorem tk159 : tk Tryz.prog 159 = some (true, 2) := by kernel_rfl
@[go_sem] theorem zr159 : zr Tryz.prog 159 = some [.int .i64 0, .sl true 1 []] := by kernel_rfl
@[go_sem] theorem ezT159 : ezT Tryz.prog 159 = 0 := by kernel_rfl
@[go_sem] theorem bld159 : bldP Tryz.prog 159 = some (fldOff Tryz.prog 159, [.int .i64 0, .sl true 1 []]) := by kernel_rfl
@[go_sem] theorem fld159_0 : fldOff Tryz.prog 159 0 = some (0, 1) := by kernel_rfl
@[go_sem] theorem fes159_0 : fldEs Tryz.prog 159 0 = 0 := by kernel_rfl
@[go_sem] theorem fld159_1 : fldOff Tryz.prog 159 1 = some (1, 1) := by kernel_rfl
@[go_sem] theorem fes159_1 : fldEs Tryz.prog 159 1 = 1 := by kernel_rfl
@[go_sem] theorem tk189 : tk Tryz.prog 189 = some (true, 4) := by kernel_rfl
@[go_sem] theorem zr189 : zr Tryz.prog 189 = some [.sl true 1 [], .int .i64 0, .sl true 1 [], .sl true 1 []] := by kernel_rfl
@[go_sem] theorem ezT189 : ezT Tryz.prog 189 = 0 := by kernel_rfl
@[go_sem] theorem bld189 : bldP Tryz.prog 189 = some (fldOff Tryz.prog 189, [.sl true 1 [], .int .i64 0, .sl true 1 [], .sl true 1 []]) := by kernel_rfl
@[go_sem] theorem fld189_0 : fldOff Tryz.prog 189 0 = some (0, 1) := by kernel_rfl
@[go_sem] theorem fes189_0 : fldEs Tryz.prog 189 0 = 1 := by kernel_rfl
@[go_sem] theorem fld189_1 : fldOff Tryz.prog 189 1 = some (1, 1) := by kernel_rfl
@[go_sem] theorem fes189_1 : fldEs Tryz.prog 189 1 = 0 := by kernel_rfl
@[go_sem] theorem fld189_2 : fldOff Tryz.prog 189 2 = some (2, 1) := by kernel_rfl
@[go_sem] theorem fes189_2 : fldEs Tryz.prog 189 2 = 1 := by kernel_rfl
@[go_sem] theorem fld189_3 : fldOff Tryz.prog 189 3 = some (3, 1) := by kernel_rfl
@[go_sem] theorem fes189_3 : fldEs Tryz.prog 189 3 = 1 := by kernel_rfl
@[go_sem] theorem tk204 : tk Tryz.prog 204 = some (true, 4) := by kernel_rfl
@[go_sem] theorem zr204 : zr Tryz.prog 204 = some [.int .i64 0, .int .i64 0, .int .i64 0, .int .i64 0] := by kernel_rfl
@[go_sem] theorem ezT204 : ezT Tryz.prog 204 = 0 := by kernel_rfl
@[go_sem] theorem bld204 : bldP Tryz.prog 204 = some (fldOff Tryz.prog 204, [.int .i64 0, .int .i64 0, .int .i64 0, .int .i64 0]) := by kernel_rfl
@[go_sem] theorem fld204_0 : fldOff Tryz.prog 204 0 = some (0, 1) := by kernel_rfl
@[go_sem] theorem fes204_0 : fldEs Tryz.prog 204 0 = 0 := by kernel_rfl
@[go_sem] theorem fld204_1 : fldOff Tryz.prog 204 1 = some (1, 1) := by kernel_rfl
@[go_sem] theorem fes204_1 : fldEs Tryz.prog 204 1 = 0 := by kernel_rfl
@[go_sem] theorem fld204_2 : fldOff Tryz.prog 204 2 = some (2, 1) := by kernel_rfl
@[go_sem] theorem fes204_2 : fldEs Tryz.prog 204 2 = 0 := by kernel_rfl
@[go_sem] theorem fld204_3 : fldOff Tryz.prog 204 3 = some (3, 1) := by kernel_rfl
@[go_sem] theorem fes204_3 : fldEs Tryz.prog 204 3 = 0 := by kernel_rfl
@[go_sem] theorem tk215 : tk Tryz.prog 215 = some (false, 1) := by kernel_rfl
@[go_sem] theorem zr215 : zr Tryz.prog 215 = some [.nilf] := by kernel_rfl
@[go_sem] theorem ezT215 : ezT Tryz.prog 215 = 0 := by kernel_rfl
@[go_sem] theorem tk233 : tk Tryz.prog 233 = some (false, 1) := by kernel_rfl
@[go_sem] theorem zr233 : zr Tryz.prog 233 = some [.nilp] := by kernel_rfl
@[go_sem] theorem ezT233 : ezT Tryz.prog 233 = 0 := by kernel_rfl
@[go_sem] theorem tk235 : tk Tryz.prog 235 = some (true, 1) := by kernel_rfl
@[go_sem] theorem zr235 : zr Tryz.prog 235 = some [.sl true 1 []] := by kernel_rfl
@[go_sem] theorem ezT235 : ezT Tryz.prog 235 = 0 := by kernel_rfl
@[go_sem] theorem bld235 : bldP Tryz.prog 235 = some (fldOff Tryz.prog 235, [.sl true 1 []]) := by kernel_rfl
@[go_sem] theorem fld235_0 : fldOff Tryz.prog 235 0 = some (0, 1) := by kernel_rfl
@[go_sem] theorem fes235_0 : fldEs Tryz.prog 235 0 = 1 := by kernel_rfl
@[go_sem] theorem tk256 : tk Tryz.prog 256 = some (true, 5) := by kernel_rfl
@[go_sem] theorem zr256 : zr Tryz.prog 256 = some [.sl true 1 [], .sl true 1 [], .sl true 1 [], .sl true 1 [], .sl true 1 []] := by kernel_rfl
@[go_sem] theorem ezT256 : ezT Tryz.prog 256 = 0 := by kernel_rfl
@[go_sem] theorem esz256 : esz Tryz.prog 256 = none := by kernel_rfl
@[go_sem] theorem asz256 : asz Tryz.prog 256 = some (5, 1) := by kernel_rfl
@[go_sem] theorem fes256 {i : Nat} : fldEs Tryz.prog 256 i = 1 := by kernel_rfl
@[go_sem] theorem bld256 : bldP Tryz.prog 256 = some (fun i => some (i * 1, 1), [.sl true 1 [], .sl true 1 [], .sl true 1 [], .sl true 1 [], .sl true 1 []]) := by kernel_rfl
@[go_sem] theorem tk266 : tk Tryz.prog 266 = some (false, 1) := by kernel_rfl
@[go_sem] theorem zr266 : zr Tryz.prog 266 = some [.nilf] := by kernel_rfl
@[go_sem] theorem ezT266 : ezT Tryz.prog 266 = 0 := by kernel_rfl
@[go_sem] theorem tk274 : tk Tryz.prog 274 = some (true, 6) := by kernel_rfl
@[go_sem] theorem zr274 : zr Tryz.prog 274 = some [.int .i64 0, .int .i64 0, .int .i64 0, .sl true 1 [], .sl true 1 [], .sl true 1 []] := by kernel_rfl
@[go_sem] theorem ezT274 : ezT Tryz.prog 274 = 0 := by kernel_rfl
@[go_sem] theorem bld274 : bldP Tryz.prog 274 = some (fldOff Tryz.prog 274, [.int .i64 0, .int .i64 0, .int .i64 0, .sl true 1 [], .sl true 1 [], .sl true 1 []]) := by kernel_rfl
@[go_sem] theorem fld274_0 : fldOff Tryz.prog 274 0 = some (0, 1) := by kernel_rfl
@[go_sem] theorem fes274_0 : fldEs Tryz.prog 274 0 = 0 := by kernel_rfl
@[go_sem] theorem fld274_1 : fldOff Tryz.prog 274 1 = some (1, 2) := by kernel_rfl
@[go_sem] theorem fes274_1 : fldEs Tryz.prog 274 1 = 0 := by kernel_rfl
@[go_sem] theorem fld274_2 : fldOff Tryz.prog 274 2 = some (3, 3) := by kernel_rfl
@[go_sem] theorem fes274_2 : fldEs Tryz.prog 274 2 = 0 := by kernel_rfl
@[go_sem] theorem tk283 : tk Tryz.prog 283 = some (false, 1) := by kernel_rfl
@[go_sem] theorem zr283 : zr Tryz.prog 283 = some [.int .u64 0] := by kernel_rfl
@[go_sem] theorem ezT283 : ezT Tryz.prog 283 = 0 := by kernel_rfl
@[go_sem] theorem ity283 : intTy Tryz.prog 283 = some .u64 := by kernel_rfl
@[go_sem] theorem ist283 : isStrTy Tryz.prog 283 = false := by kernel_rfl
@[go_sem] theorem tk316 : tk Tryz.prog 316 = some (false, 1) := by kernel_rfl
@[go_sem] theorem zr316 : zr Tryz.prog 316 = some [.nilp] := by kernel_rfl
@[go_sem] theorem ezT316 : ezT Tryz.prog 316 = 0 := by kernel_rfl
@[go_sem] theorem tk318 : tk Tryz.prog 318 = some (true, 2) := by kernel_rfl
@[go_sem] theorem zr318 : zr Tryz.prog 318 = some [.int .i64 0, .int .i64 0] := by kernel_rfl
@[go_sem] theorem ezT318 : ezT Tryz.prog 318 = 0 := by kernel_rfl
@[go_sem] theorem bld318 : bldP Tryz.prog 318 = some (fldOff Tryz.prog 318, [.int .i64 0, .int .i64 0]) := by kernel_rfl
@[go_sem] theorem fld318_0 : fldOff Tryz.prog 318 0 = some (0, 1) := by kernel_rfl
@[go_sem] theorem fes318_0 : fldEs Tryz.prog 318 0 = 0 := by kernel_rfl
@[go_sem] theorem fld318_1 : fldOff Tryz.prog 318 1 = some (1, 1) := by kernel_rfl
@[go_sem] theorem fes318_1 : fldEs Tryz.prog 318 1 = 0 := by kernel_rfl
theorem follows : Tryz.prog.follows .mixedOrders = true := by kernel_rfl
theorem cl3 : Callable Tryz.prog 3 := fun args w => Tryz.call3 args w
theorem cl8 : Callable Tryz.prog 8 := fun args w => Tryz.call8 args w
theorem cl9 : Callable Tryz.prog 9 := fun args w => Tryz.call9 args w
theorem cl10 : Callable Tryz.prog 10 := fun args w => Tryz.call10 args w
theorem cl11 : Callable Tryz.prog 11 := fun args w => Tryz.call11 args w
theorem cl12 : Callable Tryz.prog 12 := fun args w => Tryz.call12 args w
theorem cl13 : Callable Tryz.prog 13 := fun args w => Tryz.call13 args w
theorem cl14 : Callable Tryz.prog 14 := fun args w => Tryz.call14 args w
theorem cl15 : Callable Tryz.prog 15 := fun args w => Tryz.call15 args w
theorem cl16 : Callable Tryz.prog 16 := fun args w => Tryz.call16 args w
theorem cl17 : Callable Tryz.prog 17 := fun args w => Tryz.call17 args w
theorem cl18 : Callable Tryz.prog 18 := fun args w => Tryz.call18 args w
theorem cl19 : Callable Tryz.prog 19 := fun args w => Tryz.call19 args w
theorem cl60 : Callable Tryz.prog 60 := fun args w => Tryz.call60 args w
theorem cl61 : Callable Tryz.prog 61 := fun args w => Tryz.call61 args w
theorem cl62 : Callable Tryz.prog 62 := fun args w => Tryz.call62 args w
theorem cl63 : Callable Tryz.prog 63 := fun args w => Tryz.call63 args w
theorem cl64 : Callable Tryz.prog 64 := fun args w => Tryz.call64 args w
theorem cl65 : Callable Tryz.prog 65 := fun args w => Tryz.call65 args w
theorem cl66 : Callable Tryz.prog 66 := fun args w => Tryz.call66 args w
theorem cl67 : Callable Tryz.prog 67 := fun args w => Tryz.call67 args w
theorem cl68 : Callable Tryz.prog 68 := fun args w => Tryz.call68 args w
theorem cl69 : Callable Tryz.prog 69 := fun args w => Tryz.call69 args w
theorem cl70 : Callable Tryz.prog 70 := fun args w => Tryz.call70 args w
theorem cl71 : Callable Tryz.prog 71 := fun args w => Tryz.call71 args w
theorem cl72 : Callable Tryz.prog 72 := fun args w => Tryz.call72 args w
theorem cl73 : Callable Tryz.prog 73 := fun args w => Tryz.call73 args w
theorem cl74 : Callable Tryz.prog 74 := fun args w => Tryz.call74 args w
theorem cl75 : Callable Tryz.prog 75 := fun args w => Tryz.call75 args w
theorem cl76 : Callable Tryz.prog 76 := fun args w => Tryz.call76 args w
theorem cl77 : Callable Tryz.prog 77 := fun args w => Tryz.call77 args w
theorem cl78 : Callable Tryz.prog 78 := fun args w => Tryz.call78 args w
theorem cl79 : Callable Tryz.prog 79 := fun args w => Tryz.call79 args w
theorem cl80 : Callable Tryz.prog 80 := fun args w => Tryz.call80 args w
theorem cl81 : Callable Tryz.prog 81 := fun args w => Tryz.call81 args w
theorem cl82 : Callable Tryz.prog 82 := fun args w => Tryz.call82 args w
theorem cl83 : Callable Tryz.prog 83 := fun args w => Tryz.call83 args w
theorem cl84 : Callable Tryz.prog 84 := fun args w => Tryz.call84 args w
theorem cl85 : Callable Tryz.prog 85 := fun args w => Tryz.call85 args w
theorem cl86 : Callable Tryz.prog 86 := fun args w => Tryz.call86 args w
theorem cl87 : Callable Tryz.prog 87 := fun args w => Tryz.call87 args w
theorem cl88 : Callable Tryz.prog 88 := fun args w => Tryz.call88 args w
theorem cl89 : Callable Tryz.prog 89 := fun args w => Tryz.call89 args w
theorem cl90 : Callable Tryz.prog 90 := fun args w => Tryz.call90 args w
theorem cl91 : Callable Tryz.prog 91 := fun args w => Tryz.call91 args w
theorem cl92 : Callable Tryz.prog 92 := fun args w => Tryz.call92 args w
theorem cl93 : Callable Tryz.prog 93 := fun args w => Tryz.call93 args w
theorem cl94 : Callable Tryz.prog 94 := fun args w => Tryz.call94 args w
theorem cl95 : Callable Tryz.prog 95 := fun args w => Tryz.call95 args w
theorem cl96 : Callable Tryz.prog 96 := fun args w => Tryz.call96 args w
theorem cl99 : Callable Tryz.prog 99 := fun args w => Tryz.call99 args w
theorem cl101 : Callable Tryz.prog 101 := fun args w => Tryz.call101 args w
theorem cl104 : Callable Tryz.prog 104 := fun args w => Tryz.call104 args w
theorem cl105 : Callable Tryz.prog 105 := fun args w => Tryz.call105 args w
theorem cl106 : Callable Tryz.prog 106 := fun args w => Tryz.call106 args w
theorem cl112 : Callable Tryz.prog 112 := fun args w => Tryz.call112 args w
theorem cl114 : Callable Tryz.prog 114 := fun args w => Tryz.call114 args w
theorem cl116 : Callable Tryz.prog 116 := fun args w => Tryz.call116 args w
theorem cl119 : Callable Tryz.prog 119 := fun args w => Tryz.call119 args w
theorem cl150 : Callable Tryz.prog 150 := fun args w => Tryz.call150 args w
theorem cl159 : Callable Tryz.prog 159 := fun args w => Tryz.call159 args w
theorem cl168 : Callable Tryz.prog 168 := fun args w => Tryz.call168 args w
theorem cl169 : Callable Tryz.prog 169 := fun args w => Tryz.call169 args w
theorem cl170 : Callable Tryz.prog 170 := fun args w => Tryz.call170 args w
theorem cl175 : Callable Tryz.prog 175 := fun args w => Tryz.call175 args w
theorem cl178 : Callable Tryz.prog 178 := fun args w => Tryz.call178 args w
theorem cl179 : Callable Tryz.prog 179 := fun args w => Tryz.call179 args w
theorem cl180 : Callable Tryz.prog 180 := fun args w => Tryz.call180 args w
theorem cl181 : Callable Tryz.prog 181 := fun args w => Tryz.call181 args w
theorem cl182 : Callable Tryz.prog 182 := fun args w => Tryz.call182 args w
theorem cl183 : Callable Tryz.prog 183 := fun args w => Tryz.call183 args w
theorem cl184 : Callable Tryz.prog 184 := fun args w => Tryz.call184 args w
theorem cl185 : Callable Tryz.prog 185 := fun args w => Tryz.call185 args w
theorem cl186 : Callable Tryz.prog 186 := fun args w => Tryz.call186 args w
theorem cl187 : Callable Tryz.prog 187 := fun args w => Tryz.call187 args w
theorem cl188 : Callable Tryz.prog 188 := fun args w => Tryz.call188 args w
theorem cl189 : Callable Tryz.prog 189 := fun args w => Tryz.call189 args w
theorem cl190 : Callable Tryz.prog 190 := fun args w => Tryz.call190 args w
theorem cl191 : Callable Tryz.prog 191 := fun args w => Tryz.call191 args w
theorem cl192 : Callable Tryz.prog 192 := fun args w => Tryz.call192 args w
theorem cl193 : Callable Tryz.prog 193 := fun args w => Tryz.call193 args w
theorem cl194 : Callable Tryz.prog 194 := fun args w => Tryz.call194 args w
theorem cl195 : Callable Tryz.prog 195 := fun args w => Tryz.call195 args w
theorem cl196 : Callable Tryz.prog 196 := fun args w => Tryz.call196 args w
theorem cl197 : Callable Tryz.prog 197 := fun args w => Tryz.call197 args w
theorem cl198 : Callable Tryz.prog 198 := fun args w => Tryz.call198 args w
theorem cl199 : Callable Tryz.prog 199 := fun args w => Tryz.call199 args w
theorem cl200 : Callable Tryz.prog 200 := fun args w => Tryz.call200 args w
theorem cl201 : Callable Tryz.prog 201 := fun args w => Tryz.call201 args w
theorem cl202 : Callable Tryz.prog 202 := fun args w => Tryz.call202 args w
theorem cl203 : Callable Tryz.prog 203 := fun args w => Tryz.call203 args w
theorem cl207 : Callable Tryz.prog 207 := fun args w => Tryz.call207 args w
theorem cl208 : Callable Tryz.prog 208 := fun args w => Tryz.call208 args w
theorem cl209 : Callable Tryz.prog 209 := fun args w => Tryz.call209 args w
theorem cl211 : Callable Tryz.prog 211 := fun args w => Tryz.call211 args w
theorem cl216 : Callable Tryz.prog 216 := fun args w => Tryz.call216 args w
theorem cl223 : Callable Tryz.prog 223 := fun args w => Tryz.call223 args w
theorem cl234 : Callable Tryz.prog 234 := fun args w => Tryz.call234 args w
theorem cl235 : Callable Tryz.prog 235 := fun args w => Tryz.call235 args w
theorem cl249 : Callable Tryz.prog 249 := fun args w => Tryz.call249 args w
theorem cl253 : Callable Tryz.prog 253 := fun args w => Tryz.call253 args w
theorem cl260 : Callable Tryz.prog 260 := fun args w => Tryz.call260 args w
theorem cl274 : Callable Tryz.prog 274 := fun args w => Tryz.call274 args w
theorem cl275 : Callable Tryz.prog 275 := fun args w => Tryz.call275 args w
theorem cl276 : Callable Tryz.prog 276 := fun args w => Tryz.call276 args w
theorem cl277 : Callable Tryz.prog 277 := fun args w => Tryz.call277 args w
theorem cl278 : Callable Tryz.prog 278 := fun args w => Tryz.call278 args w
theorem cl279 : Callable Tryz.prog 279 := fun args w => Tryz.call279 args w
theorem cl280 : Callable Tryz.prog 280 := fun args w => Tryz.call280 args w
theorem cl281 : Callable Tryz.prog 281 := fun args w => Tryz.call281 args w
theorem cl282 : Callable Tryz.prog 282 := fun args w => Tryz.call282 args w
theorem cl283 : Callable Tryz.prog 283 := fun args w => Tryz.call283 args w
theorem cl284 : Callable Tryz.prog 284 := fun args w => Tryz.call284 args w
theorem cl285 : Callable Tryz.prog 285 := fun args w => Tryz.call285 args w
theorem cl286 : Callable Tryz.prog 286 := fun args w => Tryz.call286 args w
theorem cl287 : Callable Tryz.prog 287 := fun args w => Tryz.call287 args w
theorem cl288 : Callable Tryz.prog 288 := fun args w => Tryz.call288 args w
theorem cl289 : Callable Tryz.prog 289 := fun args w => Tryz.call289 args w
theorem cl290 : Callable Tryz.prog 290 := fun args w => Tryz.call290 args w
theorem cl292 : Callable Tryz.prog 292 := fun args w => Tryz.call292 args w
theorem cl293 : Callable Tryz.prog 293 := fun args w => Tryz.call293 args w
theorem cl299 : Callable Tryz.prog 299 := fun args w => Tryz.call299 args w
theorem cl301 : Callable Tryz.prog 301 := fun args w => Tryz.call301 args w
theorem cl305 : Callable Tryz.prog 305 := fun args w => Tryz.call305 args w
theorem cl306 : Callable Tryz.prog 306 := fun args w => Tryz.call306 args w
theorem cl307 : Callable Tryz.prog 307 := fun args w => Tryz.call307 args w
theorem cl318 : Callable Tryz.prog 318 := fun args w => Tryz.call318 args w
theorem cl319 : Callable Tryz.prog 319 := fun args w => Tryz.call319 args w
theorem cl320 : Callable Tryz.prog 320 := fun args w => Tryz.call320 args w
theorem cl321 : Callable Tryz.prog 321 := fun args w => Tryz.call321 args w
theorem cl322 : Callable Tryz.prog 322 := fun args w => Tryz.call322 args w
theorem cl323 : Callable Tryz.prog 323 := fun args w => Tryz.call323 args w
theorem cl325 : Callable Tryz.prog 325 := fun args w => Tryz.call325 args w
theorem cl326 : Callable Tryz.prog 326 := fun args w => Tryz.call326 args w
end Go.Pm
