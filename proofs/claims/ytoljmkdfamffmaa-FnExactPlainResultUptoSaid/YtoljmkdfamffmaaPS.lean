import Derived.Test.YtoljmkdfamffmaaPmW
import Derived.Test.YtoljmkdfamffmaaProg
import Derived.KernelRfl
namespace Go.Pm
open Go.Am
open Go.Proofs
set_option maxRecDepth 100000
@[go_sem] theorem tk3 : tk Try.prog 3 = some (false, 1) := by kernel_rfl
@[go_sem] theorem zr3 : zr Try.prog 3 = some [.int .i64 0] := by kernel_rfl
@[go_sem] theorem ezT3 : ezT Try.prog 3 = 0 := by kernel_rfl
@[go_sem] theorem ity3 : intTy Try.prog 3 = some .i64 := by kernel_rfl
@[go_sem] theorem ist3 : isStrTy Try.prog 3 = false := by kernel_rfl
@[go_sem] theorem tk4 : tk Try.prog 4 = some (false, 1) := by kernel_rfl
@[go_sem] theorem zr4 : zr Try.prog 4 = some [.bool false] := by kernel_rfl
@[go_sem] theorem ezT4 : ezT Try.prog 4 = 0 := by kernel_rfl
@[go_sem] theorem ibt4 : isBoolTy Try.prog 4 = true := by kernel_rfl
@[go_sem] theorem tk5 : tk Try.prog 5 = some (false, 1) := by kernel_rfl
@[go_sem] theorem zr5 : zr Try.prog 5 = some [.int .u8 0] := by kernel_rfl
@[go_sem] theorem ezT5 : ezT Try.prog 5 = 0 := by kernel_rfl
@[go_sem] theorem ity5 : intTy Try.prog 5 = some .u8 := by kernel_rfl
@[go_sem] theorem ist5 : isStrTy Try.prog 5 = false := by kernel_rfl
@[go_sem] theorem tk9 : tk Try.prog 9 = some (false, 1) := by kernel_rfl
@[go_sem] theorem zr9 : zr Try.prog 9 = some [.str ⟨#[]⟩] := by kernel_rfl
@[go_sem] theorem ezT9 : ezT Try.prog 9 = 0 := by kernel_rfl
@[go_sem] theorem ist9 : isStrTy Try.prog 9 = true := by kernel_rfl
@[go_sem] theorem tk23 : tk Try.prog 23 = some (true, 3) := by kernel_rfl
@[go_sem] theorem zr23 : zr Try.prog 23 = some [.int .i64 0, .int .i64 0, .int .i64 0] := by kernel_rfl
@[go_sem] theorem ezT23 : ezT Try.prog 23 = 0 := by kernel_rfl
@[go_sem] theorem bld23 : bldP Try.prog 23 = some (fldOff Try.prog 23, [.int .i64 0, .int .i64 0, .int .i64 0]) := by kernel_rfl
@[go_sem] theorem fld23_0 : fldOff Try.prog 23 0 = some (0, 1) := by kernel_rfl
@[go_sem] theorem fes23_0 : fldEs Try.prog 23 0 = 0 := by kernel_rfl
@[go_sem] theorem fld23_1 : fldOff Try.prog 23 1 = some (1, 1) := by kernel_rfl
@[go_sem] theorem fes23_1 : fldEs Try.prog 23 1 = 0 := by kernel_rfl
@[go_sem] theorem fld23_2 : fldOff Try.prog 23 2 = some (2, 1) := by kernel_rfl
@[go_sem] theorem fes23_2 : fldEs Try.prog 23 2 = 0 := by kernel_rfl
@[go_sem] theorem tk25 : tk Try.prog 25 = some (true, 5) := by kernel_rfl
@[go_sem] theorem zr25 : zr Try.prog 25 = some [.int .i64 0, .int .i64 0, .int .i64 0, .int .i64 0, .int .i64 0] := by kernel_rfl
@[go_sem] theorem ezT25 : ezT Try.prog 25 = 0 := by kernel_rfl
@[go_sem] theorem bld25 : bldP Try.prog 25 = some (fldOff Try.prog 25, [.int .i64 0, .int .i64 0, .int .i64 0, .int .i64 0, .int .i64 0]) := by kernel_rfl
@[go_sem] theorem fld25_0 : fldOff Try.prog 25 0 = some (0, 1) := by kernel_rfl
@[go_sem] theorem fes25_0 : fldEs Try.prog 25 0 = 0 := by kernel_rfl
@[go_sem] theorem fld25_1 : fldOff Try.prog 25 1 = some (1, 1) := by kernel_rfl
@[go_sem] theorem fes25_1 : fldEs Try.prog 25 1 = 0 := by kernel_rfl
@[go_sem] theorem fld25_2 : fldOff Try.prog 25 2 = some (2, 1) := by kernel_rfl
@[go_sem] theorem fes25_2 : fldEs Try.prog 25 2 = 0 := by kernel_rfl
@[go_sem] theorem fld25_3 : fldOff Try.prog 25 3 = some (3, 1) := by kernel_rfl
@[go_sem] theorem fes25_3 : fldEs Try.prog 25 3 = 0 := by kernel_rfl
@[go_sem] theorem fld25_4 : fldOff Try.prog 25 4 = some (4, 1) := by kernel_rfl
@[go_sem] theorem fes25_4 : fldEs Try.prog 25 4 = 0 := by kernel_rfl
@[go_sem] theorem tk27 : tk Try.prog 27 = some (true, 13) := by kernel_rfl
@[go_sem] theorem zr27 : zr Try.prog 27 = some [.int .i64 0, .int .i64 0, .int .i64 0, .int .i64 0, .int .i64 0, .int .i64 0, .int .i64 0, .int .i64 0, .int .i64 0, .int .i64 0, .int .i64 0, .int .i64 0, .int .i64 0] := by kernel_rfl
@[go_sem] theorem ezT27 : ezT Try.prog 27 = 0 := by kernel_rfl
@[go_sem] theorem bld27 : bldP Try.prog 27 = some (fldOff Try.prog 27, [.int .i64 0, .int .i64 0, .int .i64 0, .int .i64 0, .int .i64 0, .int .i64 0, .int .i64 0, .int .i64 0, .int .i64 0, .int .i64 0, .int .i64 0, .int .i64 0, .int .i64 0]) := by kernel_rfl
@[go_sem] theorem fld27_0 : fldOff Try.prog 27 0 = some (0, 3) := by kernel_rfl
@[go_sem] theorem fes27_0 : fldEs Try.prog 27 0 = 0 := by kernel_rfl
@[go_sem] theorem fld27_1 : fldOff Try.prog 27 1 = some (3, 5) := by kernel_rfl
@[go_sem] theorem fes27_1 : fldEs Try.prog 27 1 = 0 := by kernel_rfl
@[go_sem] theorem fld27_2 : fldOff Try.prog 27 2 = some (8, 1) := by kernel_rfl
@[go_sem] theorem fes27_2 : fldEs Try.prog 27 2 = 0 := by kernel_rfl
@[go_sem] theorem fld27_3 : fldOff Try.prog 27 3 = some (9, 1) := by kernel_rfl
@[go_sem] theorem fes27_3 : fldEs Try.prog 27 3 = 0 := by kernel_rfl
@[go_sem] theorem fld27_4 : fldOff Try.prog 27 4 = some (10, 1) := by kernel_rfl
@[go_sem] theorem fes27_4 : fldEs Try.prog 27 4 = 0 := by kernel_rfl
@[go_sem] theorem fld27_5 : fldOff Try.prog 27 5 = some (11, 1) := by kernel_rfl
@[go_sem] theorem fes27_5 : fldEs Try.prog 27 5 = 0 := by kernel_rfl
@[go_sem] theorem fld27_6 : fldOff Try.prog 27 6 = some (12, 1) := by kernel_rfl
@[go_sem] theorem fes27_6 : fldEs Try.prog 27 6 = 0 := by kernel_rfl
@[go_sem] theorem tk28 : tk Try.prog 28 = some (false, 1) := by kernel_rfl
@[go_sem] theorem zr28 : zr Try.prog 28 = some [.sl true 2 []] := by kernel_rfl
@[go_sem] theorem ezT28 : ezT Try.prog 28 = 2 := by kernel_rfl
@[go_sem] theorem ety28 : elemTy Try.prog 28 = some 50 := by kernel_rfl
@[go_sem] theorem ist28 : isStrTy Try.prog 28 = false := by kernel_rfl
@[go_sem] theorem esz28 : esz Try.prog 28 = some 2 := by kernel_rfl
@[go_sem] theorem ez28 : ez Try.prog 28 = some (2, 32, [.int .i64 0, .sl false 1 []]) := by kernel_rfl
@[go_sem] theorem fes28 {i : Nat} : fldEs Try.prog 28 i = 0 := by kernel_rfl
@[go_sem] theorem tk30 : tk Try.prog 30 = some (false, 1) := by kernel_rfl
@[go_sem] theorem zr30 : zr Try.prog 30 = some [.sl true 1 []] := by kernel_rfl
@[go_sem] theorem ezT30 : ezT Try.prog 30 = 1 := by kernel_rfl
@[go_sem] theorem ety30 : elemTy Try.prog 30 = some 31 := by kernel_rfl
@[go_sem] theorem ist30 : isStrTy Try.prog 30 = false := by kernel_rfl
@[go_sem] theorem esz30 : esz Try.prog 30 = some 1 := by kernel_rfl
@[go_sem] theorem ez30 : ez Try.prog 30 = some (1, 24, [.sl false 1 []]) := by kernel_rfl
@[go_sem] theorem fes30 {i : Nat} : fldEs Try.prog 30 i = 1 := by kernel_rfl
@[go_sem] theorem tk31 : tk Try.prog 31 = some (false, 1) := by kernel_rfl
@[go_sem] theorem zr31 : zr Try.prog 31 = some [.sl true 1 []] := by kernel_rfl
@[go_sem] theorem ezT31 : ezT Try.prog 31 = 1 := by kernel_rfl
@[go_sem] theorem ety31 : elemTy Try.prog 31 = some 3 := by kernel_rfl
@[go_sem] theorem ist31 : isStrTy Try.prog 31 = false := by kernel_rfl
@[go_sem] theorem esz31 : esz Try.prog 31 = some 1 := by kernel_rfl
@[go_sem] theorem ez31 : ez Try.prog 31 = some (1, 8, [.int .i64 0]) := by kernel_rfl
@[go_sem] theorem fes31 {i : Nat} : fldEs Try.prog 31 i = 0 := by kernel_rfl
@[go_sem] theorem tk34 : tk Try.prog 34 = some (true, 3) := by kernel_rfl
@[go_sem] theorem zr34 : zr Try.prog 34 = some [.int .i64 0, .int .i64 0, .int .i64 0] := by kernel_rfl
@[go_sem] theorem ezT34 : ezT Try.prog 34 = 0 := by kernel_rfl
@[go_sem] theorem bld34 : bldP Try.prog 34 = some (fldOff Try.prog 34, [.int .i64 0, .int .i64 0, .int .i64 0]) := by kernel_rfl
@[go_sem] theorem fld34_0 : fldOff Try.prog 34 0 = some (0, 1) := by kernel_rfl
@[go_sem] theorem fes34_0 : fldEs Try.prog 34 0 = 0 := by kernel_rfl
@[go_sem] theorem fld34_1 : fldOff Try.prog 34 1 = some (1, 1) := by kernel_rfl
@[go_sem] theorem fes34_1 : fldEs Try.prog 34 1 = 0 := by kernel_rfl
@[go_sem] theorem fld34_2 : fldOff Try.prog 34 2 = some (2, 1) := by kernel_rfl
@[go_sem] theorem fes34_2 : fldEs Try.prog 34 2 = 0 := by kernel_rfl
@[go_sem] theorem tk35 : tk Try.prog 35 = some (true, 5) := by kernel_rfl
@[go_sem] theorem zr35 : zr Try.prog 35 = some [.int .i64 0, .int .i64 0, .int .i64 0, .int .i64 0, .int .i64 0] := by kernel_rfl
@[go_sem] theorem ezT35 : ezT Try.prog 35 = 0 := by kernel_rfl
@[go_sem] theorem bld35 : bldP Try.prog 35 = some (fldOff Try.prog 35, [.int .i64 0, .int .i64 0, .int .i64 0, .int .i64 0, .int .i64 0]) := by kernel_rfl
@[go_sem] theorem fld35_0 : fldOff Try.prog 35 0 = some (0, 1) := by kernel_rfl
@[go_sem] theorem fes35_0 : fldEs Try.prog 35 0 = 0 := by kernel_rfl
@[go_sem] theorem fld35_1 : fldOff Try.prog 35 1 = some (1, 1) := by kernel_rfl
@[go_sem] theorem fes35_1 : fldEs Try.prog 35 1 = 0 := by kernel_rfl
@[go_sem] theorem fld35_2 : fldOff Try.prog 35 2 = some (2, 1) := by kernel_rfl
@[go_sem] theorem fes35_2 : fldEs Try.prog 35 2 = 0 := by kernel_rfl
@[go_sem] theorem fld35_3 : fldOff Try.prog 35 3 = some (3, 1) := by kernel_rfl
@[go_sem] theorem fes35_3 : fldEs Try.prog 35 3 = 0 := by kernel_rfl
@[go_sem] theorem fld35_4 : fldOff Try.prog 35 4 = some (4, 1) := by kernel_rfl
@[go_sem] theorem fes35_4 : fldEs Try.prog 35 4 = 0 := by kernel_rfl
@[go_sem] theorem tk37 : tk Try.prog 37 = some (true, 13) := by kernel_rfl
@[go_sem] theorem zr37 : zr Try.prog 37 = some [.int .i64 0, .int .i64 0, .int .i64 0, .int .i64 0, .int .i64 0, .int .i64 0, .int .i64 0, .int .i64 0, .int .i64 0, .int .i64 0, .int .i64 0, .int .i64 0, .int .i64 0] := by kernel_rfl
@[go_sem] theorem ezT37 : ezT Try.prog 37 = 0 := by kernel_rfl
@[go_sem] theorem bld37 : bldP Try.prog 37 = some (fldOff Try.prog 37, [.int .i64 0, .int .i64 0, .int .i64 0, .int .i64 0, .int .i64 0, .int .i64 0, .int .i64 0, .int .i64 0, .int .i64 0, .int .i64 0, .int .i64 0, .int .i64 0, .int .i64 0]) := by kernel_rfl
@[go_sem] theorem fld37_0 : fldOff Try.prog 37 0 = some (0, 3) := by kernel_rfl
@[go_sem] theorem fes37_0 : fldEs Try.prog 37 0 = 0 := by kernel_rfl
@[go_sem] theorem fld37_1 : fldOff Try.prog 37 1 = some (3, 5) := by kernel_rfl
@[go_sem] theorem fes37_1 : fldEs Try.prog 37 1 = 0 := by kernel_rfl
@[go_sem] theorem fld37_2 : fldOff Try.prog 37 2 = some (8, 1) := by kernel_rfl
@[go_sem] theorem fes37_2 : fldEs Try.prog 37 2 = 0 := by kernel_rfl
@[go_sem] theorem fld37_3 : fldOff Try.prog 37 3 = some (9, 1) := by kernel_rfl
@[go_sem] theorem fes37_3 : fldEs Try.prog 37 3 = 0 := by kernel_rfl
@[go_sem] theorem fld37_4 : fldOff Try.prog 37 4 = some (10, 1) := by kernel_rfl
@[go_sem] theorem fes37_4 : fldEs Try.prog 37 4 = 0 := by kernel_rfl
@[go_sem] theorem fld37_5 : fldOff Try.prog 37 5 = some (11, 1) := by kernel_rfl
@[go_sem] theorem fes37_5 : fldEs Try.prog 37 5 = 0 := by kernel_rfl
@[go_sem] theorem fld37_6 : fldOff Try.prog 37 6 = some (12, 1) := by kernel_rfl
@[go_sem] theorem fes37_6 : fldEs Try.prog 37 6 = 0 := by kernel_rfl
@[go_sem] theorem tk39 : tk Try.prog 39 = some (false, 1) := by kernel_rfl
@[go_sem] theorem zr39 : zr Try.prog 39 = some [.sl true 2 []] := by kernel_rfl
@[go_sem] theorem ezT39 : ezT Try.prog 39 = 2 := by kernel_rfl
@[go_sem] theorem ety39 : elemTy Try.prog 39 = some 53 := by kernel_rfl
@[go_sem] theorem ist39 : isStrTy Try.prog 39 = false := by kernel_rfl
@[go_sem] theorem esz39 : esz Try.prog 39 = some 2 := by kernel_rfl
@[go_sem] theorem ez39 : ez Try.prog 39 = some (2, 32, [.int .i64 0, .sl false 1 []]) := by kernel_rfl
@[go_sem] theorem fes39 {i : Nat} : fldEs Try.prog 39 i = 0 := by kernel_rfl
@[go_sem] theorem tk50 : tk Try.prog 50 = some (true, 2) := by kernel_rfl
@[go_sem] theorem zr50 : zr Try.prog 50 = some [.int .i64 0, .sl true 1 []] := by kernel_rfl
@[go_sem] theorem ezT50 : ezT Try.prog 50 = 0 := by kernel_rfl
@[go_sem] theorem bld50 : bldP Try.prog 50 = some (fldOff Try.prog 50, [.int .i64 0, .sl true 1 []]) := by kernel_rfl
@[go_sem] theorem fld50_0 : fldOff Try.prog 50 0 = some (0, 1) := by kernel_rfl
@[go_sem] theorem fes50_0 : fldEs Try.prog 50 0 = 0 := by kernel_rfl
@[go_sem] theorem fld50_1 : fldOff Try.prog 50 1 = some (1, 1) := by kernel_rfl
@[go_sem] theorem fes50_1 : fldEs Try.prog 50 1 = 1 := by kernel_rfl
@[go_sem] theorem tk53 : tk Try.prog 53 = some (true, 2) := by kernel_rfl
@[go_sem] theorem zr53 : zr Try.prog 53 = some [.int .i64 0, .sl true 1 []] := by kernel_rfl
@[go_sem] theorem ezT53 : ezT Try.prog 53 = 0 := by kernel_rfl
@[go_sem] theorem bld53 : bldP Try.prog 53 = some (fldOff Try.prog 53, [.int .i64 0, .sl true 1 []]) := by kernel_rfl
@[go_sem] theorem fld53_0 : fldOff Try.prog 53 0 = some (0, 1) := by kernel_rfl
@[go_sem] theorem fes53_0 : fldEs Try.prog 53 0 = 0 := by kernel_rfl
@[go_sem] theorem fld53_1 : fldOff Try.prog 53 1 = some (1, 1) := by kernel_rfl
@[go_sem] theorem fes53_1 : fldEs Try.prog 53 1 = 1 := by kernel_rfl
@[go_sem] theorem tk67 : tk Try.prog 67 = some (false, 1) := by kernel_rfl
@[go_sem] theorem zr67 : zr Try.prog 67 = some [.nilf] := by kernel_rfl
@[go_sem] theorem ezT67 : ezT Try.prog 67 = 0 := by kernel_rfl
@[go_sem] theorem tk70 : tk Try.prog 70 = some (true, 2) := by kernel_rfl
@[go_sem] theorem zr70 : zr Try.prog 70 = some [.int .i64 0, .sl true 1 []] := by kernel_rfl
@[go_sem] theorem ezT70 : ezT Try.prog 70 = 0 := by kernel_rfl
@[go_sem] theorem bld70 : bldP Try.prog 70 = some (fldOff Try.prog 70, [.int .i64 0, .sl true 1 []]) := by kernel_rfl
@[go_sem] theorem fld70_0 : fldOff Try.prog 70 0 = some (0, 1) := by kernel_rfl
@[go_sem] theorem fes70_0 : fldEs Try.prog 70 0 = 0 := by kernel_rfl
@[go_sem] theorem fld70_1 : fldOff Try.prog 70 1 = some (1, 1) := by kernel_rfl
@[go_sem] theorem fes70_1 : fldEs Try.prog 70 1 = 1 := by kernel_rfl
@[go_sem] theorem tk79 : tk Try.prog 79 = some (false, 1) := by kernel_rfl
@[go_sem] theorem zr79 : zr Try.prog 79 = some [.nilf] := by kernel_rfl
@[go_sem] theorem ezT79 : ezT Try.prog 79 = 0 := by kernel_rfl
@[go_sem] theorem tk98 : tk Try.prog 98 = some (false, 1) := by kernel_rfl
@[go_sem] theorem zr98 : zr Try.prog 98 = some [.int .u64 0] := by kernel_rfl
@[go_sem] theorem ezT98 : ezT Try.prog 98 = 0 := by kernel_rfl
@[go_sem] theorem ity98 : intTy Try.prog 98 = some .u64 := by kernel_rfl
@[go_sem] theorem ist98 : isStrTy Try.prog 98 = false := by kernel_rfl
@[go_sem] theorem tk102 : tk Try.prog 102 = some (false, 1) := by kernel_rfl
@[go_sem] theorem zr102 : zr Try.prog 102 = some [.nilp] := by kernel_rfl
@[go_sem] theorem ezT102 : ezT Try.prog 102 = 0 := by kernel_rfl
@[go_sem] theorem tk104 : tk Try.prog 104 = some (true, 2) := by kernel_rfl
@[go_sem] theorem zr104 : zr Try.prog 104 = some [.int .i64 0, .int .i64 0] := by kernel_rfl
@[go_sem] theorem ezT104 : ezT Try.prog 104 = 0 := by kernel_rfl
@[go_sem] theorem bld104 : bldP Try.prog 104 = some (fldOff Try.prog 104, [.int .i64 0, .int .i64 0]) := by kernel_rfl
@[go_sem] theorem fld104_0 : fldOff Try.prog 104 0 = some (0, 1) := by kernel_rfl
@[go_sem] theorem fes104_0 : fldEs Try.prog 104 0 = 0 := by kernel_rfl
@[go_sem] theorem fld104_1 : fldOff Try.prog 104 1 = some (1, 1) := by kernel_rfl
@[go_sem] theorem fes104_1 : fldEs Try.prog 104 1 = 0 := by kernel_rfl
theorem follows : Try.prog.follows .mixedOrders = true := by kernel_rfl
theorem cl3 : Callable Try.prog 3 := fun args w => Try.call3 args w
theorem cl4 : Callable Try.prog 4 := fun args w => Try.call4 args w
theorem cl5 : Callable Try.prog 5 := fun args w => Try.call5 args w
theorem cl6 : Callable Try.prog 6 := fun args w => Try.call6 args w
theorem cl7 : Callable Try.prog 7 := fun args w => Try.call7 args w
theorem cl8 : Callable Try.prog 8 := fun args w => Try.call8 args w
theorem cl9 : Callable Try.prog 9 := fun args w => Try.call9 args w
theorem cl10 : Callable Try.prog 10 := fun args w => Try.call10 args w
theorem cl11 : Callable Try.prog 11 := fun args w => Try.call11 args w
theorem cl12 : Callable Try.prog 12 := fun args w => Try.call12 args w
theorem cl13 : Callable Try.prog 13 := fun args w => Try.call13 args w
theorem cl14 : Callable Try.prog 14 := fun args w => Try.call14 args w
theorem cl15 : Callable Try.prog 15 := fun args w => Try.call15 args w
theorem cl16 : Callable Try.prog 16 := fun args w => Try.call16 args w
theorem cl17 : Callable Try.prog 17 := fun args w => Try.call17 args w
theorem cl18 : Callable Try.prog 18 := fun args w => Try.call18 args w
theorem cl19 : Callable Try.prog 19 := fun args w => Try.call19 args w
theorem cl20 : Callable Try.prog 20 := fun args w => Try.call20 args w
theorem cl21 : Callable Try.prog 21 := fun args w => Try.call21 args w
theorem cl22 : Callable Try.prog 22 := fun args w => Try.call22 args w
theorem cl23 : Callable Try.prog 23 := fun args w => Try.call23 args w
theorem cl24 : Callable Try.prog 24 := fun args w => Try.call24 args w
theorem cl25 : Callable Try.prog 25 := fun args w => Try.call25 args w
theorem cl26 : Callable Try.prog 26 := fun args w => Try.call26 args w
theorem cl27 : Callable Try.prog 27 := fun args w => Try.call27 args w
theorem cl28 : Callable Try.prog 28 := fun args w => Try.call28 args w
theorem cl29 : Callable Try.prog 29 := fun args w => Try.call29 args w
theorem cl30 : Callable Try.prog 30 := fun args w => Try.call30 args w
theorem cl31 : Callable Try.prog 31 := fun args w => Try.call31 args w
theorem cl32 : Callable Try.prog 32 := fun args w => Try.call32 args w
theorem cl33 : Callable Try.prog 33 := fun args w => Try.call33 args w
theorem cl34 : Callable Try.prog 34 := fun args w => Try.call34 args w
theorem cl35 : Callable Try.prog 35 := fun args w => Try.call35 args w
theorem cl36 : Callable Try.prog 36 := fun args w => Try.call36 args w
theorem cl37 : Callable Try.prog 37 := fun args w => Try.call37 args w
theorem cl38 : Callable Try.prog 38 := fun args w => Try.call38 args w
theorem cl39 : Callable Try.prog 39 := fun args w => Try.call39 args w
theorem cl40 : Callable Try.prog 40 := fun args w => Try.call40 args w
theorem cl41 : Callable Try.prog 41 := fun args w => Try.call41 args w
theorem cl42 : Callable Try.prog 42 := fun args w => Try.call42 args w
theorem cl43 : Callable Try.prog 43 := fun args w => Try.call43 args w
theorem cl44 : Callable Try.prog 44 := fun args w => Try.call44 args w
theorem cl45 : Callable Try.prog 45 := fun args w => Try.call45 args w
theorem cl46 : Callable Try.prog 46 := fun args w => Try.call46 args w
theorem cl47 : Callable Try.prog 47 := fun args w => Try.call47 args w
theorem cl48 : Callable Try.prog 48 := fun args w => Try.call48 args w
theorem cl49 : Callable Try.prog 49 := fun args w => Try.call49 args w
theorem cl50 : Callable Try.prog 50 := fun args w => Try.call50 args w
theorem cl51 : Callable Try.prog 51 := fun args w => Try.call51 args w
theorem cl52 : Callable Try.prog 52 := fun args w => Try.call52 args w
theorem cl53 : Callable Try.prog 53 := fun args w => Try.call53 args w
theorem cl54 : Callable Try.prog 54 := fun args w => Try.call54 args w
theorem cl55 : Callable Try.prog 55 := fun args w => Try.call55 args w
theorem cl56 : Callable Try.prog 56 := fun args w => Try.call56 args w
theorem cl57 : Callable Try.prog 57 := fun args w => Try.call57 args w
theorem cl58 : Callable Try.prog 58 := fun args w => Try.call58 args w
theorem cl59 : Callable Try.prog 59 := fun args w => Try.call59 args w
theorem cl60 : Callable Try.prog 60 := fun args w => Try.call60 args w
theorem cl61 : Callable Try.prog 61 := fun args w => Try.call61 args w
theorem cl62 : Callable Try.prog 62 := fun args w => Try.call62 args w
theorem cl63 : Callable Try.prog 63 := fun args w => Try.call63 args w
theorem cl64 : Callable Try.prog 64 := fun args w => Try.call64 args w
theorem cl65 : Callable Try.prog 65 := fun args w => Try.call65 args w
theorem cl66 : Callable Try.prog 66 := fun args w => Try.call66 args w
theorem cl67 : Callable Try.prog 67 := fun args w => Try.call67 args w
theorem cl68 : Callable Try.prog 68 := fun args w => Try.call68 args w
theorem cl69 : Callable Try.prog 69 := fun args w => Try.call69 args w
theorem cl70 : Callable Try.prog 70 := fun args w => Try.call70 args w
theorem cl71 : Callable Try.prog 71 := fun args w => Try.call71 args w
theorem cl72 : Callable Try.prog 72 := fun args w => Try.call72 args w
theorem cl73 : Callable Try.prog 73 := fun args w => Try.call73 args w
theorem cl74 : Callable Try.prog 74 := fun args w => Try.call74 args w
theorem cl75 : Callable Try.prog 75 := fun args w => Try.call75 args w
theorem cl76 : Callable Try.prog 76 := fun args w => Try.call76 args w
theorem cl77 : Callable Try.prog 77 := fun args w => Try.call77 args w
theorem cl78 : Callable Try.prog 78 := fun args w => Try.call78 args w
theorem cl79 : Callable Try.prog 79 := fun args w => Try.call79 args w
theorem cl80 : Callable Try.prog 80 := fun args w => Try.call80 args w
theorem cl81 : Callable Try.prog 81 := fun args w => Try.call81 args w
theorem cl82 : Callable Try.prog 82 := fun args w => Try.call82 args w
theorem cl83 : Callable Try.prog 83 := fun args w => Try.call83 args w
theorem cl84 : Callable Try.prog 84 := fun args w => Try.call84 args w
theorem cl85 : Callable Try.prog 85 := fun args w => Try.call85 args w
theorem cl86 : Callable Try.prog 86 := fun args w => Try.call86 args w
theorem cl87 : Callable Try.prog 87 := fun args w => Try.call87 args w
theorem cl88 : Callable Try.prog 88 := fun args w => Try.call88 args w
theorem cl89 : Callable Try.prog 89 := fun args w => Try.call89 args w
theorem cl90 : Callable Try.prog 90 := fun args w => Try.call90 args w
theorem cl91 : Callable Try.prog 91 := fun args w => Try.call91 args w
theorem cl92 : Callable Try.prog 92 := fun args w => Try.call92 args w
theorem cl93 : Callable Try.prog 93 := fun args w => Try.call93 args w
theorem cl94 : Callable Try.prog 94 := fun args w => Try.call94 args w
theorem cl95 : Callable Try.prog 95 := fun args w => Try.call95 args w
theorem cl96 : Callable Try.prog 96 := fun args w => Try.call96 args w
theorem cl97 : Callable Try.prog 97 := fun args w => Try.call97 args w
theorem cl98 : Callable Try.prog 98 := fun args w => Try.call98 args w
theorem cl99 : Callable Try.prog 99 := fun args w => Try.call99 args w
theorem cl100 : Callable Try.prog 100 := fun args w => Try.call100 args w
end Go.Pm
