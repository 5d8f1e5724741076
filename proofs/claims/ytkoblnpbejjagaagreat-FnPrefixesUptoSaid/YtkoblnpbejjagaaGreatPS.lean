import Derived.Test.YtkoblnpbejjagaaGreatPmW
import Derived.Test.YtkoblnpbejjagaaGreatProg
import Derived.KernelRfl
namespace Go.Pm
open Go.Am
open Go.Proofs
set_option maxRecDepth 100000
@[go_sem] theorem tk3 : tk Tryz.prog 3 = some (false, 1) := by kernel_rfl
@[go_sem] theorem zr3 : zr Tryz.prog 3 = some [.int .i64 0] := by kernel_rfl
@[go_sem] theorem ezT3 : ezT Tryz.prog 3 = 0 := by kernel_rfl
@[go_sem] theorem ity3 : intTy Tryz.prog 3 = some .i64 := by kernel_rfl
@[go_sem] theorem ist3 : isStrTy Tryz.prog 3 = false := by kernel_rfl
@[go_sem] theorem tk4 : tk Tryz.prog 4 = some (false, 1) := by kernel_rfl
@[go_sem] theorem zr4 : zr Tryz.prog 4 = some [.bool false] := by kernel_rfl
@[go_sem] theorem ezT4 : ezT Tryz.prog 4 = 0 := by kernel_rfl
@[go_sem] theorem ibt4 : isBoolTy Tryz.prog 4 = true := by kernel_rfl
@[go_sem] theorem tk5 : tk Tryz.prog 5 = some (false, 1) := by kernel_rfl
@[go_sem] theorem zr5 : zr Tryz.prog 5 = some [.int .u8 0] := by kernel_rfl
@[go_sem] theorem ezT5 : ezT Tryz.prog 5 = 0 := by kernel_rfl
@[go_sem] theorem ity5 : intTy Tryz.prog 5 = some .u8 := by kernel_rfl
@[go_sem] theorem ist5 : isStrTy Tryz.prog 5 = false := by kernel_rfl
@[go_sem] theorem tk9 : tk Tryz.prog 9 = some (false, 1) := by kernel_rfl
@[go_sem] theorem zr9 : zr Tryz.prog 9 = some [.str ⟨#[]⟩] := by kernel_rfl
@[go_sem] theorem ezT9 : ezT Tryz.prog 9 = 0 := by kernel_rfl
@[go_sem] theorem ist9 : isStrTy Tryz.prog 9 = true := by kernel_rfl
@[go_sem] theorem tk20 : tk Tryz.prog 20 = some (false, 1) := by kernel_rfl
@[go_sem] theorem zr20 : zr Tryz.prog 20 = some [.nili] := by kernel_rfl
@[go_sem] theorem ezT20 : ezT Tryz.prog 20 = 0 := by kernel_rfl
@[go_sem] theorem tk22 : tk Tryz.prog 22 = some (false, 1) := by kernel_rfl
@[go_sem] theorem zr22 : zr Tryz.prog 22 = some [.sl true 1 []] := by kernel_rfl
@[go_sem] theorem ezT22 : ezT Tryz.prog 22 = 1 := by kernel_rfl
@[go_sem] theorem ety22 : elemTy Tryz.prog 22 = some 5 := by kernel_rfl
@[go_sem] theorem ist22 : isStrTy Tryz.prog 22 = false := by kernel_rfl
@[go_sem] theorem esz22 : esz Tryz.prog 22 = some 1 := by kernel_rfl
@[go_sem] theorem ibs22 : isByS Tryz.prog 22 = true := by kernel_rfl
@[go_sem] theorem ez22 : ez Tryz.prog 22 = some (1, 1, [.int .u8 0]) := by kernel_rfl
@[go_sem] theorem fes22 {i : Nat} : fldEs Tryz.prog 22 i = 0 := by kernel_rfl
@[go_sem] theorem tk25 : tk Tryz.prog 25 = some (true, 3) := by kernel_rfl
@[go_sem] theorem zr25 : zr Tryz.prog 25 = some [.int .i64 0, .int .i64 0, .int .i64 0] := by kernel_rfl
@[go_sem] theorem ezT25 : ezT Tryz.prog 25 = 0 := by kernel_rfl
@[go_sem] theorem bld25 : bldP Tryz.prog 25 = some (fldOff Tryz.prog 25, [.int .i64 0, .int .i64 0, .int .i64 0]) := by kernel_rfl
@[go_sem] theorem fld25_0 : fldOff Tryz.prog 25 0 = some (0, 1) := by kernel_rfl
@[go_sem] theorem fes25_0 : fldEs Tryz.prog 25 0 = 0 := by kernel_rfl
@[go_sem] theorem fld25_1 : fldOff Tryz.prog 25 1 = some (1, 1) := by kernel_rfl
@[go_sem] theorem fes25_1 : fldEs Tryz.prog 25 1 = 0 := by kernel_rfl
@[go_sem] theorem fld25_2 : fldOff Tryz.prog 25 2 = some (2, 1) := by kernel_rfl
@[go_sem] theorem fes25_2 : fldEs Tryz.prog 25 2 = 0 := by kernel_rfl
@[go_sem] theorem tk26 : tk Tryz.prog 26 = some (false, 1) := by kernel_rfl
@[go_sem] theorem zr26 : zr Tryz.prog 26 = some [.sl true 1 []] := by kernel_rfl
@[go_sem] theorem ezT26 : ezT Tryz.prog 26 = 1 := by kernel_rfl
@[go_sem] theorem ety26 : elemTy Tryz.prog 26 = some 3 := by kernel_rfl
@[go_sem] theorem ist26 : isStrTy Tryz.prog 26 = false := by kernel_rfl
@[go_sem] theorem esz26 : esz Tryz.prog 26 = some 1 := by kernel_rfl
@[go_sem] theorem ez26 : ez Tryz.prog 26 = some (1, 8, [.int .i64 0]) := by kernel_rfl
@[go_sem] theorem fes26 {i : Nat} : fldEs Tryz.prog 26 i = 0 := by kernel_rfl
@[go_sem] theorem tk30 : tk Tryz.prog 30 = some (true, 3) := by kernel_rfl
@[go_sem] theorem zr30 : zr Tryz.prog 30 = some [.sl true 1 [], .sl true 1 [], .sl true 1 []] := by kernel_rfl
@[go_sem] theorem ezT30 : ezT Tryz.prog 30 = 0 := by kernel_rfl
@[go_sem] theorem bld30 : bldP Tryz.prog 30 = some (fldOff Tryz.prog 30, [.sl true 1 [], .sl true 1 [], .sl true 1 []]) := by kernel_rfl
@[go_sem] theorem fld30_0 : fldOff Tryz.prog 30 0 = some (0, 1) := by kernel_rfl
@[go_sem] theorem fes30_0 : fldEs Tryz.prog 30 0 = 1 := by kernel_rfl
@[go_sem] theorem fld30_1 : fldOff Tryz.prog 30 1 = some (1, 1) := by kernel_rfl
@[go_sem] theorem fes30_1 : fldEs Tryz.prog 30 1 = 1 := by kernel_rfl
@[go_sem] theorem fld30_2 : fldOff Tryz.prog 30 2 = some (2, 1) := by kernel_rfl
@[go_sem] theorem fes30_2 : fldEs Tryz.prog 30 2 = 1 := by kernel_rfl
@[go_sem] theorem tk32 : tk Tryz.prog 32 = some (true, 6) := by kernel_rfl
@[go_sem] theorem zr32 : zr Tryz.prog 32 = some [.int .i64 0, .int .i64 0, .sl true 1 [], .sl true 1 [], .sl true 1 [], .sl true 1 []] := by kernel_rfl
@[go_sem] theorem ezT32 : ezT Tryz.prog 32 = 0 := by kernel_rfl
@[go_sem] theorem bld32 : bldP Tryz.prog 32 = some (fldOff Tryz.prog 32, [.int .i64 0, .int .i64 0, .sl true 1 [], .sl true 1 [], .sl true 1 [], .sl true 1 []]) := by kernel_rfl
@[go_sem] theorem fld32_0 : fldOff Tryz.prog 32 0 = some (0, 1) := by kernel_rfl
@[go_sem] theorem fes32_0 : fldEs Tryz.prog 32 0 = 0 := by kernel_rfl
@[go_sem] theorem fld32_1 : fldOff Tryz.prog 32 1 = some (1, 1) := by kernel_rfl
@[go_sem] theorem fes32_1 : fldEs Tryz.prog 32 1 = 0 := by kernel_rfl
@[go_sem] theorem fld32_2 : fldOff Tryz.prog 32 2 = some (2, 1) := by kernel_rfl
@[go_sem] theorem fes32_2 : fldEs Tryz.prog 32 2 = 1 := by kernel_rfl
@[go_sem] theorem fld32_3 : fldOff Tryz.prog 32 3 = some (3, 3) := by kernel_rfl
@[go_sem] theorem fes32_3 : fldEs Tryz.prog 32 3 = 0 := by kernel_rfl
@[go_sem] theorem tk40 : tk Tryz.prog 40 = some (false, 1) := by kernel_rfl
@[go_sem] theorem zr40 : zr Tryz.prog 40 = some [.sl true 6 []] := by kernel_rfl
@[go_sem] theorem ezT40 : ezT Tryz.prog 40 = 6 := by kernel_rfl
@[go_sem] theorem ety40 : elemTy Tryz.prog 40 = some 32 := by kernel_rfl
@[go_sem] theorem ist40 : isStrTy Tryz.prog 40 = false := by kernel_rfl
@[go_sem] theorem esz40 : esz Tryz.prog 40 = some 6 := by kernel_rfl
@[go_sem] theorem ez40 : ez Tryz.prog 40 = some (6, 112, [.int .i64 0, .int .i64 0, .sl false 1 [], .sl false 1 [], .sl false 1 [], .sl false 1 []]) := by kernel_rfl
@[go_sem] theorem fes40 {i : Nat} : fldEs Tryz.prog 40 i = 0 := by kernel_rfl
@[go_sem] theorem tk42 : tk Tryz.prog 42 = some (true, 2) := by kernel_rfl
@[go_sem] theorem zr42 : zr Tryz.prog 42 = some [.sl true 1 [], .sl true 6 []] := by kernel_rfl
@[go_sem] theorem ezT42 : ezT Tryz.prog 42 = 0 := by kernel_rfl
@[go_sem] theorem bld42 : bldP Tryz.prog 42 = some (fldOff Tryz.prog 42, [.sl true 1 [], .sl true 6 []]) := by kernel_rfl
@[go_sem] theorem fld42_0 : fldOff Tryz.prog 42 0 = some (0, 1) := by kernel_rfl
@[go_sem] theorem fes42_0 : fldEs Tryz.prog 42 0 = 1 := by kernel_rfl
@[go_sem] theorem fld42_1 : fldOff Tryz.prog 42 1 = some (1, 1) := by kernel_rfl
@[go_sem] theorem fes42_1 : fldEs Tryz.prog 42 1 = 6 := by kernel_rfl
@[go_sem] theorem tk52 : tk Tryz.prog 52 = some (true, 6) := by kernel_rfl
@[go_sem] theorem zr52 : zr Tryz.prog 52 = some [.int .i64 0, .int .i64 0, .int .i64 0, .sl true 1 [], .sl true 1 [], .sl true 1 []] := by kernel_rfl
@[go_sem] theorem ezT52 : ezT Tryz.prog 52 = 0 := by kernel_rfl
@[go_sem] theorem bld52 : bldP Tryz.prog 52 = some (fldOff Tryz.prog 52, [.int .i64 0, .int .i64 0, .int .i64 0, .sl true 1 [], .sl true 1 [], .sl true 1 []]) := by kernel_rfl
@[go_sem] theorem fld52_0 : fldOff Tryz.prog 52 0 = some (0, 1) := by kernel_rfl
@[go_sem] theorem fes52_0 : fldEs Tryz.prog 52 0 = 0 := by kernel_rfl
@[go_sem] theorem fld52_1 : fldOff Tryz.prog 52 1 = some (1, 1) := by kernel_rfl
@[go_sem] theorem fes52_1 : fldEs Tryz.prog 52 1 = 0 := by kernel_rfl
@[go_sem] theorem fld52_2 : fldOff Tryz.prog 52 2 = some (2, 1) := by kernel_rfl
@[go_sem] theorem fes52_2 : fldEs Tryz.prog 52 2 = 0 := by kernel_rfl
@[go_sem] theorem fld52_3 : fldOff Tryz.prog 52 3 = some (3, 3) := by kernel_rfl
@[go_sem] theorem fes52_3 : fldEs Tryz.prog 52 3 = 0 := by kernel_rfl
@[go_sem] theorem tk59 : tk Tryz.prog 59 = some (false, 1) := by kernel_rfl
@[go_sem] theorem zr59 : zr Tryz.prog 59 = some [.sl true 6 []] := by kernel_rfl
@[go_sem] theorem ezT59 : ezT Tryz.prog 59 = 6 := by kernel_rfl
@[go_sem] theorem ety59 : elemTy Tryz.prog 59 = some 52 := by kernel_rfl
@[go_sem] theorem ist59 : isStrTy Tryz.prog 59 = false := by kernel_rfl
@[go_sem] theorem esz59 : esz Tryz.prog 59 = some 6 := by kernel_rfl
@[go_sem] theorem ez59 : ez Tryz.prog 59 = some (6, 96, [.int .i64 0, .int .i64 0, .int .i64 0, .sl false 1 [], .sl false 1 [], .sl false 1 []]) := by kernel_rfl
@[go_sem] theorem fes59 {i : Nat} : fldEs Tryz.prog 59 i = 0 := by kernel_rfl
@[go_sem] theorem tk74 : tk Tryz.prog 74 = some (false, 1) := by kernel_rfl
@[go_sem] theorem zr74 : zr Tryz.prog 74 = some [.nilp] := by kernel_rfl
@[go_sem] theorem ezT74 : ezT Tryz.prog 74 = 0 := by kernel_rfl
@[go_sem] theorem tk75 : tk Tryz.prog 75 = some (false, 1) := by kernel_rfl
@[go_sem] theorem zr75 : zr Tryz.prog 75 = some [.int .u64 0] := by kernel_rfl
@[go_sem] theorem ezT75 : ezT Tryz.prog 75 = 0 := by kernel_rfl
@[go_sem] theorem ity75 : intTy Tryz.prog 75 = some .u64 := by kernel_rfl
@[go_sem] theorem ist75 : isStrTy Tryz.prog 75 = false := by kernel_rfl
@[go_sem] theorem tk77 : tk Tryz.prog 77 = some (true, 3) := by kernel_rfl
@[go_sem] theorem zr77 : zr Tryz.prog 77 = some [.sl true 1 [], .int .i64 0, .int .u64 0] := by kernel_rfl
@[go_sem] theorem ezT77 : ezT Tryz.prog 77 = 0 := by kernel_rfl
@[go_sem] theorem bld77 : bldP Tryz.prog 77 = some (fldOff Tryz.prog 77, [.sl true 1 [], .int .i64 0, .int .u64 0]) := by kernel_rfl
@[go_sem] theorem fld77_0 : fldOff Tryz.prog 77 0 = some (0, 1) := by kernel_rfl
@[go_sem] theorem fes77_0 : fldEs Tryz.prog 77 0 = 1 := by kernel_rfl
@[go_sem] theorem fld77_1 : fldOff Tryz.prog 77 1 = some (1, 1) := by kernel_rfl
@[go_sem] theorem fes77_1 : fldEs Tryz.prog 77 1 = 0 := by kernel_rfl
@[go_sem] theorem fld77_2 : fldOff Tryz.prog 77 2 = some (2, 1) := by kernel_rfl
@[go_sem] theorem fes77_2 : fldEs Tryz.prog 77 2 = 0 := by kernel_rfl
@[go_sem] theorem tk91 : tk Tryz.prog 91 = some (false, 1) := by kernel_rfl
@[go_sem] theorem zr91 : zr Tryz.prog 91 = some [.nilf] := by kernel_rfl
@[go_sem] theorem ezT91 : ezT Tryz.prog 91 = 0 := by kernel_rfl
@[go_sem] theorem tk116 : tk Tryz.prog 116 = some (false, 1) := by kernel_rfl
@[go_sem] theorem zr116 : zr Tryz.prog 116 = some [.nilf] := by kernel_rfl
@[go_sem] theorem ezT116 : ezT Tryz.prog 116 = 0 := by kernel_rfl
@[go_sem] theorem tk125 : tk Tryz.prog 125 = some (false, 1) := by kernel_rfl
@[go_sem] theorem zr125 : zr Tryz.prog 125 = some [.sl true 1 []] := by kernel_rfl
@[go_sem] theorem ezT125 : ezT Tryz.prog 125 = 1 := by kernel_rfl
@[go_sem] theorem ety125 : elemTy Tryz.prog 125 = some 26 := by kernel_rfl
@[go_sem] theorem ist125 : isStrTy Tryz.prog 125 = false := by kernel_rfl
@[go_sem] theorem esz125 : esz Tryz.prog 125 = some 1 := by kernel_rfl
@[go_sem] theorem ez125 : ez Tryz.prog 125 = some (1, 24, [.sl false 1 []]) := by kernel_rfl
@[go_sem] theorem fes125 {i : Nat} : fldEs Tryz.prog 125 i = 1 := by kernel_rfl
@[go_sem] theorem tk139 : tk Tryz.prog 139 = some (false, 1) := by kernel_rfl
@[go_sem] theorem zr139 : zr Tryz.prog 139 = some [.nilf] := by kernel_rfl
@[go_sem] theorem ezT139 : ezT Tryz.prog 139 = 0 := by kernel_rfl
@[go_sem] theorem tk156 : tk Tryz.prog 156 = some (false, 1) := by kernel_rfl
@[go_sem] theorem zr156 : zr Tryz.prog 156 = some [.int .u64 0] := by kernel_rfl
@[go_sem] theorem ezT156 : ezT Tryz.prog 156 = 0 := by kernel_rfl
@[go_sem] theorem ity156 : intTy Tryz.prog 156 = some .u64 := by kernel_rfl
@[go_sem] theorem ist156 : isStrTy Tryz.prog 156 = false := by kernel_rfl
@[go_sem] theorem tk158 : tk Tryz.prog 158 = some (false, 1) := by kernel_rfl
@[go_sem] theorem zr158 : zr Tryz.prog 158 = some [.sl true 1 []] := by kernel_rfl
@[go_sem] theorem ezT158 : ezT Tryz.prog 158 = 1 := by kernel_rfl
@[go_sem] theorem ety158 : elemTy Tryz.prog 158 = some 40 := by kernel_rfl
@[go_sem] theorem ist158 : isStrTy Tryz.prog 158 = false := by kernel_rfl
@[go_sem] theorem esz158 : esz Tryz.prog 158 = some 1 := by kernel_rfl
@[go_sem] theorem ez158 : ez Tryz.prog 158 = some (1, 24, [.sl false 6 []]) := by kernel_rfl
@[go_sem] theorem fes158 {i : Nat} : fldEs Tryz.prog 158 i = 6 := by kernel_rfl
@[go_sem] theorem tk167 : tk Tryz.prog 167 = some (false, 1) := by kernel_rfl
@[go_sem] theorem zr167 : zr Tryz.prog 167 = some [.nilp] := by kernel_rfl
@[go_sem] theorem ezT167 : ezT Tryz.prog 167 = 0 := by kernel_rfl
@[go_sem] theorem tk169 : tk Tryz.prog 169 = some (true, 2) := by kernel_rfl
@[go_sem] theorem zr169 : zr Tryz.prog 169 = some [.int .i64 0, .int .i64 0] := by kernel_rfl
@[go_sem] theorem ezT169 : ezT Tryz.prog 169 = 0 := by kernel_rfl
@[go_sem] theorem bld169 : bldP Tryz.prog 169 = some (fldOff Tryz.prog 169, [.int .i64 0, .int .i64 0]) := by kernel_rfl
@[go_sem] theorem fld169_0 : fldOff Tryz.prog 169 0 = some (0, 1) := by kernel_rfl
@[go_sem] theorem fes169_0 : fldEs Tryz.prog 169 0 = 0 := by kernel_rfl
@[go_sem] theorem fld169_1 : fldOff Tryz.prog 169 1 = some (1, 1) := by kernel_rfl
@[go_sem] theorem fes169_1 : fldEs Tryz.prog 169 1 = 0 := by kernel_rfl
@[go_sem] theorem tk179 : tk Tryz.prog 179 = some (false, 1) := by kernel_rfl
@[go_sem] theorem zr179 : zr Tryz.prog 179 = some [.int .u32 0] := by kernel_rfl
@[go_sem] theorem ezT179 : ezT Tryz.prog 179 = 0 := by kernel_rfl
@[go_sem] theorem ity179 : intTy Tryz.prog 179 = some .u32 := by kernel_rfl
@[go_sem] theorem ist179 : isStrTy Tryz.prog 179 = false := by kernel_rfl
theorem follows : Tryz.prog.follows .mixedOrders = true := by kernel_rfl
theorem cl4 : Callable Tryz.prog 4 := fun args w => Tryz.call4 args w
theorem cl6 : Callable Tryz.prog 6 := fun args w => Tryz.call6 args w
theorem cl19 : Callable Tryz.prog 19 := fun args w => Tryz.call19 args w
theorem cl20 : Callable Tryz.prog 20 := fun args w => Tryz.call20 args w
theorem cl21 : Callable Tryz.prog 21 := fun args w => Tryz.call21 args w
theorem cl22 : Callable Tryz.prog 22 := fun args w => Tryz.call22 args w
theorem cl23 : Callable Tryz.prog 23 := fun args w => Tryz.call23 args w
theorem cl24 : Callable Tryz.prog 24 := fun args w => Tryz.call24 args w
theorem cl25 : Callable Tryz.prog 25 := fun args w => Tryz.call25 args w
theorem cl26 : Callable Tryz.prog 26 := fun args w => Tryz.call26 args w
theorem cl32 : Callable Tryz.prog 32 := fun args w => Tryz.call32 args w
theorem cl39 : Callable Tryz.prog 39 := fun args w => Tryz.call39 args w
theorem cl40 : Callable Tryz.prog 40 := fun args w => Tryz.call40 args w
theorem cl42 : Callable Tryz.prog 42 := fun args w => Tryz.call42 args w
theorem cl45 : Callable Tryz.prog 45 := fun args w => Tryz.call45 args w
theorem cl46 : Callable Tryz.prog 46 := fun args w => Tryz.call46 args w
theorem cl47 : Callable Tryz.prog 47 := fun args w => Tryz.call47 args w
theorem cl48 : Callable Tryz.prog 48 := fun args w => Tryz.call48 args w
theorem cl49 : Callable Tryz.prog 49 := fun args w => Tryz.call49 args w
theorem cl50 : Callable Tryz.prog 50 := fun args w => Tryz.call50 args w
theorem cl51 : Callable Tryz.prog 51 := fun args w => Tryz.call51 args w
theorem cl52 : Callable Tryz.prog 52 := fun args w => Tryz.call52 args w
theorem cl53 : Callable Tryz.prog 53 := fun args w => Tryz.call53 args w
theorem cl54 : Callable Tryz.prog 54 := fun args w => Tryz.call54 args w
theorem cl55 : Callable Tryz.prog 55 := fun args w => Tryz.call55 args w
theorem cl57 : Callable Tryz.prog 57 := fun args w => Tryz.call57 args w
theorem cl58 : Callable Tryz.prog 58 := fun args w => Tryz.call58 args w
theorem cl59 : Callable Tryz.prog 59 := fun args w => Tryz.call59 args w
theorem cl60 : Callable Tryz.prog 60 := fun args w => Tryz.call60 args w
theorem cl63 : Callable Tryz.prog 63 := fun args w => Tryz.call63 args w
theorem cl64 : Callable Tryz.prog 64 := fun args w => Tryz.call64 args w
theorem cl65 : Callable Tryz.prog 65 := fun args w => Tryz.call65 args w
theorem cl66 : Callable Tryz.prog 66 := fun args w => Tryz.call66 args w
theorem cl67 : Callable Tryz.prog 67 := fun args w => Tryz.call67 args w
theorem cl68 : Callable Tryz.prog 68 := fun args w => Tryz.call68 args w
theorem cl69 : Callable Tryz.prog 69 := fun args w => Tryz.call69 args w
theorem cl70 : Callable Tryz.prog 70 := fun args w => Tryz.call70 args w
theorem cl71 : Callable Tryz.prog 71 := fun args w => Tryz.call71 args w
theorem cl72 : Callable Tryz.prog 72 := fun args w => Tryz.call72 args w
theorem cl73 : Callable Tryz.prog 73 := fun args w => Tryz.call73 args w
theorem cl74 : Callable Tryz.prog 74 := fun args w => Tryz.call74 args w
theorem cl75 : Callable Tryz.prog 75 := fun args w => Tryz.call75 args w
theorem cl76 : Callable Tryz.prog 76 := fun args w => Tryz.call76 args w
theorem cl77 : Callable Tryz.prog 77 := fun args w => Tryz.call77 args w
theorem cl78 : Callable Tryz.prog 78 := fun args w => Tryz.call78 args w
theorem cl79 : Callable Tryz.prog 79 := fun args w => Tryz.call79 args w
theorem cl80 : Callable Tryz.prog 80 := fun args w => Tryz.call80 args w
theorem cl81 : Callable Tryz.prog 81 := fun args w => Tryz.call81 args w
theorem cl82 : Callable Tryz.prog 82 := fun args w => Tryz.call82 args w
theorem cl83 : Callable Tryz.prog 83 := fun args w => Tryz.call83 args w
theorem cl84 : Callable Tryz.prog 84 := fun args w => Tryz.call84 args w
theorem cl85 : Callable Tryz.prog 85 := fun args w => Tryz.call85 args w
theorem cl86 : Callable Tryz.prog 86 := fun args w => Tryz.call86 args w
theorem cl87 : Callable Tryz.prog 87 := fun args w => Tryz.call87 args w
theorem cl88 : Callable Tryz.prog 88 := fun args w => Tryz.call88 args w
theorem cl89 : Callable Tryz.prog 89 := fun args w => Tryz.call89 args w
theorem cl90 : Callable Tryz.prog 90 := fun args w => Tryz.call90 args w
theorem cl95 : Callable Tryz.prog 95 := fun args w => Tryz.call95 args w
theorem cl96 : Callable Tryz.prog 96 := fun args w => Tryz.call96 args w
theorem cl98 : Callable Tryz.prog 98 := fun args w => Tryz.call98 args w
theorem cl99 : Callable Tryz.prog 99 := fun args w => Tryz.call99 args w
theorem cl100 : Callable Tryz.prog 100 := fun args w => Tryz.call100 args w
theorem cl101 : Callable Tryz.prog 101 := fun args w => Tryz.call101 args w
theorem cl102 : Callable Tryz.prog 102 := fun args w => Tryz.call102 args w
theorem cl103 : Callable Tryz.prog 103 := fun args w => Tryz.call103 args w
theorem cl104 : Callable Tryz.prog 104 := fun args w => Tryz.call104 args w
theorem cl105 : Callable Tryz.prog 105 := fun args w => Tryz.call105 args w
theorem cl106 : Callable Tryz.prog 106 := fun args w => Tryz.call106 args w
theorem cl107 : Callable Tryz.prog 107 := fun args w => Tryz.call107 args w
theorem cl108 : Callable Tryz.prog 108 := fun args w => Tryz.call108 args w
theorem cl109 : Callable Tryz.prog 109 := fun args w => Tryz.call109 args w
theorem cl110 : Callable Tryz.prog 110 := fun args w => Tryz.call110 args w
theorem cl111 : Callable Tryz.prog 111 := fun args w => Tryz.call111 args w
theorem cl114 : Callable Tryz.prog 114 := fun args w => Tryz.call114 args w
theorem cl115 : Callable Tryz.prog 115 := fun args w => Tryz.call115 args w
theorem cl116 : Callable Tryz.prog 116 := fun args w => Tryz.call116 args w
theorem cl117 : Callable Tryz.prog 117 := fun args w => Tryz.call117 args w
theorem cl118 : Callable Tryz.prog 118 := fun args w => Tryz.call118 args w
theorem cl119 : Callable Tryz.prog 119 := fun args w => Tryz.call119 args w
theorem cl120 : Callable Tryz.prog 120 := fun args w => Tryz.call120 args w
theorem cl121 : Callable Tryz.prog 121 := fun args w => Tryz.call121 args w
theorem cl122 : Callable Tryz.prog 122 := fun args w => Tryz.call122 args w
theorem cl123 : Callable Tryz.prog 123 := fun args w => Tryz.call123 args w
theorem cl124 : Callable Tryz.prog 124 := fun args w => Tryz.call124 args w
theorem cl125 : Callable Tryz.prog 125 := fun args w => Tryz.call125 args w
theorem cl126 : Callable Tryz.prog 126 := fun args w => Tryz.call126 args w
theorem cl127 : Callable Tryz.prog 127 := fun args w => Tryz.call127 args w
theorem cl128 : Callable Tryz.prog 128 := fun args w => Tryz.call128 args w
theorem cl129 : Callable Tryz.prog 129 := fun args w => Tryz.call129 args w
theorem cl130 : Callable Tryz.prog 130 := fun args w => Tryz.call130 args w
theorem cl131 : Callable Tryz.prog 131 := fun args w => Tryz.call131 args w
theorem cl132 : Callable Tryz.prog 132 := fun args w => Tryz.call132 args w
theorem cl133 : Callable Tryz.prog 133 := fun args w => Tryz.call133 args w
theorem cl134 : Callable Tryz.prog 134 := fun args w => Tryz.call134 args w
theorem cl135 : Callable Tryz.prog 135 := fun args w => Tryz.call135 args w
theorem cl136 : Callable Tryz.prog 136 := fun args w => Tryz.call136 args w
theorem cl137 : Callable Tryz.prog 137 := fun args w => Tryz.call137 args w
theorem cl138 : Callable Tryz.prog 138 := fun args w => Tryz.call138 args w
theorem cl139 : Callable Tryz.prog 139 := fun args w => Tryz.call139 args w
theorem cl141 : Callable Tryz.prog 141 := fun args w => Tryz.call141 args w
theorem cl142 : Callable Tryz.prog 142 := fun args w => Tryz.call142 args w
theorem cl145 : Callable Tryz.prog 145 := fun args w => Tryz.call145 args w
theorem cl147 : Callable Tryz.prog 147 := fun args w => Tryz.call147 args w
theorem cl148 : Callable Tryz.prog 148 := fun args w => Tryz.call148 args w
theorem cl150 : Callable Tryz.prog 150 := fun args w => Tryz.call150 args w
theorem cl151 : Callable Tryz.prog 151 := fun args w => Tryz.call151 args w
theorem cl152 : Callable Tryz.prog 152 := fun args w => Tryz.call152 args w
theorem cl153 : Callable Tryz.prog 153 := fun args w => Tryz.call153 args w
theorem cl154 : Callable Tryz.prog 154 := fun args w => Tryz.call154 args w
theorem cl155 : Callable Tryz.prog 155 := fun args w => Tryz.call155 args w
theorem cl156 : Callable Tryz.prog 156 := fun args w => Tryz.call156 args w
theorem cl157 : Callable Tryz.prog 157 := fun args w => Tryz.call157 args w
theorem cl158 : Callable Tryz.prog 158 := fun args w => Tryz.call158 args w
theorem cl159 : Callable Tryz.prog 159 := fun args w => Tryz.call159 args w
theorem cl160 : Callable Tryz.prog 160 := fun args w => Tryz.call160 args w
theorem cl161 : Callable Tryz.prog 161 := fun args w => Tryz.call161 args w
theorem cl162 : Callable Tryz.prog 162 := fun args w => Tryz.call162 args w
theorem cl163 : Callable Tryz.prog 163 := fun args w => Tryz.call163 args w
theorem cl164 : Callable Tryz.prog 164 := fun args w => Tryz.call164 args w
theorem cl165 : Callable Tryz.prog 165 := fun args w => Tryz.call165 args w
theorem cl166 : Callable Tryz.prog 166 := fun args w => Tryz.call166 args w
theorem cl167 : Callable Tryz.prog 167 := fun args w => Tryz.call167 args w
theorem cl168 : Callable Tryz.prog 168 := fun args w => Tryz.call168 args w
theorem cl171 : Callable Tryz.prog 171 := fun args w => Tryz.call171 args w
theorem cl172 : Callable Tryz.prog 172 := fun args w => Tryz.call172 args w
theorem cl173 : Callable Tryz.prog 173 := fun args w => Tryz.call173 args w
theorem cl175 : Callable Tryz.prog 175 := fun args w => Tryz.call175 args w
theorem cl176 : Callable Tryz.prog 176 := fun args w => Tryz.call176 args w
theorem cl177 : Callable Tryz.prog 177 := fun args w => Tryz.call177 args w
theorem cl179 : Callable Tryz.prog 179 := fun args w => Tryz.call179 args w
theorem cl180 : Callable Tryz.prog 180 := fun args w => Tryz.call180 args w
theorem cl181 : Callable Tryz.prog 181 := fun args w => Tryz.call181 args w
theorem cl182 : Callable Tryz.prog 182 := fun args w => Tryz.call182 args w
theorem cl184 : Callable Tryz.prog 184 := fun args w => Tryz.call184 args w
theorem cl185 : Callable Tryz.prog 185 := fun args w => Tryz.call185 args w
theorem cl186 : Callable Tryz.prog 186 := fun args w => Tryz.call186 args w
end Go.Pm
