import Derived.Test.YtpiihmmnhgnnjaaGreatPmW
import Derived.Test.YtpiihmmnhgnnjaaGreatProg
import Derived.KernelRfl
namespace Go.Pm
open Go.Am
open Go.Proofs
set_option maxRecDepth 100000
@[go_sem] theorem tk3 : tk Tryz.prog 3 = some (false, 1) := by kernel_rfl
@[go_sem] theorem zr3 : zr Tryz.prog 3 = some [.int .i64 0] := by kernel_rfl
@[go_sem] theorem ezT3 : ezT Tryz.prog 3 = 0 := by kernel_rfl
@[go_sem] theorem ity3 : intTy Tryz.prog 3 = some .i64 := by kernel_rfl
@[go_sem] theorem ist3 : isStrTy Tryz.prog 3 = false := by kernel_rfl
@[go_sem] theorem tk4 : tk Tryz.prog 4 = some (false, 1) := by kernel_rfl
@[go_sem] theorem zr4 : zr Tryz.prog 4 = some [.bool false] := by kernel_rfl
@[go_sem] theorem ezT4 : ezT Tryz.prog 4 = 0 := by kernel_rfl
@[go_sem] theorem ibt4 : isBoolTy Tryz.prog 4 = true := by kernel_rfl
@[go_sem] theorem tk5 : tk Tryz.prog 5 = some (false, 1) := by kernel_rfl
@[go_sem] theorem zr5 : zr Tryz.prog 5 = some [.int .u8 0] := by kernel_rfl
@[go_sem] theorem ezT5 : ezT Tryz.prog 5 = 0 := by kernel_rfl
@[go_sem] theorem ity5 : intTy Tryz.prog 5 = some .u8 := by kernel_rfl
@[go_sem] theorem ist5 : isStrTy Tryz.prog 5 = false := by kernel_rfl
@[go_sem] theorem tk9 : tk Tryz.prog 9 = some (false, 1) := by kernel_rfl
@[go_sem] theorem zr9 : zr Tryz.prog 9 = some [.str ⟨#[]⟩] := by kernel_rfl
@[go_sem] theorem ezT9 : ezT Tryz.prog 9 = 0 := by kernel_rfl
@[go_sem] theorem ist9 : isStrTy Tryz.prog 9 = true := by kernel_rfl
@[go_sem] theorem tk20 : tk Tryz.prog 20 = some (false, 1) := by kernel_rfl
@[go_sem] theorem zr20 : zr Tryz.prog 20 = some [.nili] := by kernel_rfl
@[go_sem] theorem ezT20 : ezT Tryz.prog 20 = 0 := by kernel_rfl
@[go_sem] theorem tk22 : tk Tryz.prog 22 = some (false, 1) := by kernel_rfl
@[go_sem] theorem zr22 : zr Tryz.prog 22 = some [.sl true 1 []] := by kernel_rfl
@[go_sem] theorem ezT22 : ezT Tryz.prog 22 = 1 := by kernel_rfl
@[go_sem] theorem ety22 : elemTy Tryz.prog 22 = some 5 := by kernel_rfl
@[go_sem] theorem ist22 : isStrTy Tryz.prog 22 = false := by kernel_rfl
@[go_sem] theorem esz22 : esz Tryz.prog 22 = some 1 := by kernel_rfl
@[go_sem] theorem ibs22 : isByS Tryz.prog 22 = true := by kernel_rfl
@[go_sem] theorem ez22 : ez Tryz.prog 22 = some (1, 1, [.int .u8 0]) := by kernel_rfl
@[go_sem] theorem fes22 {i : Nat} : fldEs Tryz.prog 22 i = 0 := by kernel_rfl
@[go_sem] theorem tk25 : tk Tryz.prog 25 = some (true, 3) := by kernel_rfl
@[go_sem] theorem zr25 : zr Tryz.prog 25 = some [.int .i64 0, .int .i64 0, .int .i64 0] := by kernel_rfl
@[go_sem] theorem ezT25 : ezT Tryz.prog 25 = 0 := by kernel_rfl
@[go_sem] theorem bld25 : bldP Tryz.prog 25 = some (fldOff Tryz.prog 25, [.int .i64 0, .int .i64 0, .int .i64 0]) := by kernel_rfl
@[go_sem] theorem fld25_0 : fldOff Tryz.prog 25 0 = some (0, 1) := by kernel_rfl
@[go_sem] theorem fes25_0 : fldEs Tryz.prog 25 0 = 0 := by kernel_rfl
@[go_sem] theorem fld25_1 : fldOff Tryz.prog 25 1 = some (1, 1) := by kernel_rfl
@[go_sem] theorem fes25_1 : fldEs Tryz.prog 25 1 = 0 := by kernel_rfl
@[go_sem] theorem fld25_2 : fldOff Tryz.prog 25 2 = some (2, 1) := by kernel_rfl
@[go_sem] theorem fes25_2 : fldEs Tryz.prog 25 2 = 0 := by kernel_rfl
@[go_sem] theorem tk27 : tk Tryz.prog 27 = some (true, 5) := by kernel_rfl
@[go_sem] theorem zr27 : zr Tryz.prog 27 = some [.int .i64 0, .int .i64 0, .int .i64 0, .int .i64 0, .int .i64 0] := by kernel_rfl
@[go_sem] theorem ezT27 : ezT Tryz.prog 27 = 0 := by kernel_rfl
@[go_sem] theorem bld27 : bldP Tryz.prog 27 = some (fldOff Tryz.prog 27, [.int .i64 0, .int .i64 0, .int .i64 0, .int .i64 0, .int .i64 0]) := by kernel_rfl
@[go_sem] theorem fld27_0 : fldOff Tryz.prog 27 0 = some (0, 1) := by kernel_rfl
@[go_sem] theorem fes27_0 : fldEs Tryz.prog 27 0 = 0 := by kernel_rfl
@[go_sem] theorem fld27_1 : fldOff Tryz.prog 27 1 = some (1, 1) := by kernel_rfl
@[go_sem] theorem fes27_1 : fldEs Tryz.prog 27 1 = 0 := by kernel_rfl
@[go_sem] theorem fld27_2 : fldOff Tryz.prog 27 2 = some (2, 1) := by kernel_rfl
@[go_sem] theorem fes27_2 : fldEs Tryz.prog 27 2 = 0 := by kernel_rfl
@[go_sem] theorem fld27_3 : fldOff Tryz.prog 27 3 = some (3, 1) := by kernel_rfl
@[go_sem] theorem fes27_3 : fldEs Tryz.prog 27 3 = 0 := by kernel_rfl
@[go_sem] theorem fld27_4 : fldOff Tryz.prog 27 4 = some (4, 1) := by kernel_rfl
@[go_sem] theorem fes27_4 : fldEs Tryz.prog 27 4 = 0 := by kernel_rfl
@[go_sem] theorem tk29 : tk Tryz.prog 29 = some (true, 13) := by kernel_rfl
@[go_sem] theorem zr29 : zr Tryz.prog 29 = some [.int .i64 0, .int .i64 0, .int .i64 0, .int .i64 0, .int .i64 0, .int .i64 0, .int .i64 0, .int .i64 0, .int .i64 0, .int .i64 0, .int .i64 0, .int .i64 0, .int .i64 0] := by kernel_rfl
@[go_sem] theorem ezT29 : ezT Tryz.prog 29 = 0 := by kernel_rfl
@[go_sem] theorem bld29 : bldP Tryz.prog 29 = some (fldOff Tryz.prog 29, [.int .i64 0, .int .i64 0, .int .i64 0, .int .i64 0, .int .i64 0, .int .i64 0, .int .i64 0, .int .i64 0, .int .i64 0, .int .i64 0, .int .i64 0, .int .i64 0, .int .i64 0]) := by kernel_rfl
@[go_sem] theorem fld29_0 : fldOff Tryz.prog 29 0 = some (0, 3) := by kernel_rfl
@[go_sem] theorem fes29_0 : fldEs Tryz.prog 29 0 = 0 := by kernel_rfl
@[go_sem] theorem fld29_1 : fldOff Tryz.prog 29 1 = some (3, 5) := by kernel_rfl
@[go_sem] theorem fes29_1 : fldEs Tryz.prog 29 1 = 0 := by kernel_rfl
@[go_sem] theorem fld29_2 : fldOff Tryz.prog 29 2 = some (8, 1) := by kernel_rfl
@[go_sem] theorem fes29_2 : fldEs Tryz.prog 29 2 = 0 := by kernel_rfl
@[go_sem] theorem fld29_3 : fldOff Tryz.prog 29 3 = some (9, 1) := by kernel_rfl
@[go_sem] theorem fes29_3 : fldEs Tryz.prog 29 3 = 0 := by kernel_rfl
@[go_sem] theorem fld29_4 : fldOff Tryz.prog 29 4 = some (10, 1) := by kernel_rfl
@[go_sem] theorem fes29_4 : fldEs Tryz.prog 29 4 = 0 := by kernel_rfl
@[go_sem] theorem fld29_5 : fldOff Tryz.prog 29 5 = some (11, 1) := by kernel_rfl
@[go_sem] theorem fes29_5 : fldEs Tryz.prog 29 5 = 0 := by kernel_rfl
@[go_sem] theorem fld29_6 : fldOff Tryz.prog 29 6 = some (12, 1) := by kernel_rfl
@[go_sem] theorem fes29_6 : fldEs Tryz.prog 29 6 = 0 := by kernel_rfl
@[go_sem] theorem tk34 : tk Tryz.prog 34 = some (false, 1) := by kernel_rfl
@[go_sem] theorem zr34 : zr Tryz.prog 34 = some [.sl true 1 []] := by kernel_rfl
@[go_sem] theorem ezT34 : ezT Tryz.prog 34 = 1 := by kernel_rfl
@[go_sem] theorem ety34 : elemTy Tryz.prog 34 = some 3 := by kernel_rfl
@[go_sem] theorem ist34 : isStrTy Tryz.prog 34 = false := by kernel_rfl
@[go_sem] theorem esz34 : esz Tryz.prog 34 = some 1 := by kernel_rfl
@[go_sem] theorem ez34 : ez Tryz.prog 34 = some (1, 8, [.int .i64 0]) := by kernel_rfl
@[go_sem] theorem fes34 {i : Nat} : fldEs Tryz.prog 34 i = 0 := by kernel_rfl
@[go_sem] theorem tk43 : tk Tryz.prog 43 = some (false, 1) := by kernel_rfl
@[go_sem] theorem zr43 : zr Tryz.prog 43 = some [.nilp] := by kernel_rfl
@[go_sem] theorem ezT43 : ezT Tryz.prog 43 = 0 := by kernel_rfl
@[go_sem] theorem tk44 : tk Tryz.prog 44 = some (false, 1) := by kernel_rfl
@[go_sem] theorem zr44 : zr Tryz.prog 44 = some [.int .u64 0] := by kernel_rfl
@[go_sem] theorem ezT44 : ezT Tryz.prog 44 = 0 := by kernel_rfl
@[go_sem] theorem ity44 : intTy Tryz.prog 44 = some .u64 := by kernel_rfl
@[go_sem] theorem ist44 : isStrTy Tryz.prog 44 = false := by kernel_rfl
@[go_sem] theorem tk46 : tk Tryz.prog 46 = some (true, 3) := by kernel_rfl
@[go_sem] theorem zr46 : zr Tryz.prog 46 = some [.sl true 1 [], .int .i64 0, .int .u64 0] := by kernel_rfl
@[go_sem] theorem ezT46 : ezT Tryz.prog 46 = 0 := by kernel_rfl
@[go_sem] theorem bld46 : bldP Tryz.prog 46 = some (fldOff Tryz.prog 46, [.sl true 1 [], .int .i64 0, .int .u64 0]) := by kernel_rfl
@[go_sem] theorem fld46_0 : fldOff Tryz.prog 46 0 = some (0, 1) := by kernel_rfl
@[go_sem] theorem fes46_0 : fldEs Tryz.prog 46 0 = 1 := by kernel_rfl
@[go_sem] theorem fld46_1 : fldOff Tryz.prog 46 1 = some (1, 1) := by kernel_rfl
@[go_sem] theorem fes46_1 : fldEs Tryz.prog 46 1 = 0 := by kernel_rfl
@[go_sem] theorem fld46_2 : fldOff Tryz.prog 46 2 = some (2, 1) := by kernel_rfl
@[go_sem] theorem fes46_2 : fldEs Tryz.prog 46 2 = 0 := by kernel_rfl
@[go_sem] theorem tk63 : tk Tryz.prog 63 = some (false, 1) := by kernel_rfl
@[go_sem] theorem zr63 : zr Tryz.prog 63 = some [.nilf] := by kernel_rfl
@[go_sem] theorem ezT63 : ezT Tryz.prog 63 = 0 := by kernel_rfl
@[go_sem] theorem tk71 : tk Tryz.prog 71 = some (true, 2) := by kernel_rfl
@[go_sem] theorem zr71 : zr Tryz.prog 71 = some [.int .i64 0, .sl true 1 []] := by kernel_rfl
@[go_sem] theorem ezT71 : ezT Tryz.prog 71 = 0 := by kernel_rfl
@[go_sem] theorem bld71 : bldP Tryz.prog 71 = some (fldOff Tryz.prog 71, [.int .i64 0, .sl true 1 []]) := by kernel_rfl
@[go_sem] theorem fld71_0 : fldOff Tryz.prog 71 0 = some (0, 1) := by kernel_rfl
@[go_sem] theorem fes71_0 : fldEs Tryz.prog 71 0 = 0 := by kernel_rfl
@[go_sem] theorem fld71_1 : fldOff Tryz.prog 71 1 = some (1, 1) := by kernel_rfl
@[go_sem] theorem fes71_1 : fldEs Tryz.prog 71 1 = 1 := by kernel_rfl
@[go_sem] theorem tk86 : tk Tryz.prog 86 = some (false, 1) := by kernel_rfl
@[go_sem] theorem zr86 : zr Tryz.prog 86 = some [.sl true 1 []] := by kernel_rfl
@[go_sem] theorem ezT86 : ezT Tryz.prog 86 = 1 := by kernel_rfl
@[go_sem] theorem ety86 : elemTy Tryz.prog 86 = some 9 := by kernel_rfl
@[go_sem] theorem ist86 : isStrTy Tryz.prog 86 = false := by kernel_rfl
@[go_sem] theorem esz86 : esz Tryz.prog 86 = some 1 := by kernel_rfl
@[go_sem] theorem ez86 : ez Tryz.prog 86 = some (1, 16, [.str ⟨#[]⟩]) := by kernel_rfl
@[go_sem] theorem fes86 {i : Nat} : fldEs Tryz.prog 86 i = 0 := by kernel_rfl
@[go_sem] theorem tk91 : tk Tryz.prog 91 = some (false, 1) := by kernel_rfl
@[go_sem] theorem zr91 : zr Tryz.prog 91 = some [.int .u64 0] := by kernel_rfl
@[go_sem] theorem ezT91 : ezT Tryz.prog 91 = 0 := by kernel_rfl
@[go_sem] theorem ity91 : intTy Tryz.prog 91 = some .u64 := by kernel_rfl
@[go_sem] theorem ist91 : isStrTy Tryz.prog 91 = false := by kernel_rfl
@[go_sem] theorem tk97 : tk Tryz.prog 97 = some (false, 1) := by kernel_rfl
@[go_sem] theorem zr97 : zr Tryz.prog 97 = some [.nilp] := by kernel_rfl
@[go_sem] theorem ezT97 : ezT Tryz.prog 97 = 0 := by kernel_rfl
@[go_sem] theorem tk99 : tk Tryz.prog 99 = some (true, 2) := by kernel_rfl
@[go_sem] theorem zr99 : zr Tryz.prog 99 = some [.int .i64 0, .int .i64 0] := by kernel_rfl
@[go_sem] theorem ezT99 : ezT Tryz.prog 99 = 0 := by kernel_rfl
@[go_sem] theorem bld99 : bldP Tryz.prog 99 = some (fldOff Tryz.prog 99, [.int .i64 0, .int .i64 0]) := by kernel_rfl
@[go_sem] theorem fld99_0 : fldOff Tryz.prog 99 0 = some (0, 1) := by kernel_rfl
@[go_sem] theorem fes99_0 : fldEs Tryz.prog 99 0 = 0 := by kernel_rfl
@[go_sem] theorem fld99_1 : fldOff Tryz.prog 99 1 = some (1, 1) := by kernel_rfl
@[go_sem] theorem fes99_1 : fldEs Tryz.prog 99 1 = 0 := by kernel_rfl
@[go_sem] theorem tk109 : tk Tryz.prog 109 = some (false, 1) := by kernel_rfl
@[go_sem] theorem zr109 : zr Tryz.prog 109 = some [.int .u32 0] := by kernel_rfl
@[go_sem] theorem ezT109 : ezT Tryz.prog 109 = 0 := by kernel_rfl
@[go_sem] theorem ity109 : intTy Tryz.prog 109 = some .u32 := by kernel_rfl
@[go_sem] theorem ist109 : isStrTy Tryz.prog 109 = false := by kernel_rfl
theorem follows : Tryz.prog.follows .mixedOrders = true := by kernel_rfl
theorem cl3 : Callable Tryz.prog 3 := fun args w => Tryz.call3 args w
theorem cl4 : Callable Tryz.prog 4 := fun args w => Tryz.call4 args w
theorem cl5 : Callable Tryz.prog 5 := fun args w => Tryz.call5 args w
theorem cl6 : Callable Tryz.prog 6 := fun args w => Tryz.call6 args w
theorem cl7 : Callable Tryz.prog 7 := fun args w => Tryz.call7 args w
theorem cl8 : Callable Tryz.prog 8 := fun args w => Tryz.call8 args w
theorem cl9 : Callable Tryz.prog 9 := fun args w => Tryz.call9 args w
theorem cl10 : Callable Tryz.prog 10 := fun args w => Tryz.call10 args w
theorem cl11 : Callable Tryz.prog 11 := fun args w => Tryz.call11 args w
theorem cl12 : Callable Tryz.prog 12 := fun args w => Tryz.call12 args w
theorem cl13 : Callable Tryz.prog 13 := fun args w => Tryz.call13 args w
theorem cl14 : Callable Tryz.prog 14 := fun args w => Tryz.call14 args w
theorem cl15 : Callable Tryz.prog 15 := fun args w => Tryz.call15 args w
theorem cl16 : Callable Tryz.prog 16 := fun args w => Tryz.call16 args w
theorem cl17 : Callable Tryz.prog 17 := fun args w => Tryz.call17 args w
theorem cl18 : Callable Tryz.prog 18 := fun args w => Tryz.call18 args w
theorem cl19 : Callable Tryz.prog 19 := fun args w => Tryz.call19 args w
theorem cl20 : Callable Tryz.prog 20 := fun args w => Tryz.call20 args w
theorem cl21 : Callable Tryz.prog 21 := fun args w => Tryz.call21 args w
theorem cl22 : Callable Tryz.prog 22 := fun args w => Tryz.call22 args w
theorem cl23 : Callable Tryz.prog 23 := fun args w => Tryz.call23 args w
theorem cl24 : Callable Tryz.prog 24 := fun args w => Tryz.call24 args w
theorem cl25 : Callable Tryz.prog 25 := fun args w => Tryz.call25 args w
theorem cl26 : Callable Tryz.prog 26 := fun args w => Tryz.call26 args w
theorem cl27 : Callable Tryz.prog 27 := fun args w => Tryz.call27 args w
theorem cl28 : Callable Tryz.prog 28 := fun args w => Tryz.call28 args w
theorem cl29 : Callable Tryz.prog 29 := fun args w => Tryz.call29 args w
theorem cl30 : Callable Tryz.prog 30 := fun args w => Tryz.call30 args w
theorem cl31 : Callable Tryz.prog 31 := fun args w => Tryz.call31 args w
theorem cl32 : Callable Tryz.prog 32 := fun args w => Tryz.call32 args w
theorem cl33 : Callable Tryz.prog 33 := fun args w => Tryz.call33 args w
theorem cl34 : Callable Tryz.prog 34 := fun args w => Tryz.call34 args w
theorem cl35 : Callable Tryz.prog 35 := fun args w => Tryz.call35 args w
theorem cl36 : Callable Tryz.prog 36 := fun args w => Tryz.call36 args w
theorem cl37 : Callable Tryz.prog 37 := fun args w => Tryz.call37 args w
theorem cl38 : Callable Tryz.prog 38 := fun args w => Tryz.call38 args w
theorem cl39 : Callable Tryz.prog 39 := fun args w => Tryz.call39 args w
theorem cl40 : Callable Tryz.prog 40 := fun args w => Tryz.call40 args w
theorem cl41 : Callable Tryz.prog 41 := fun args w => Tryz.call41 args w
theorem cl42 : Callable Tryz.prog 42 := fun args w => Tryz.call42 args w
theorem cl43 : Callable Tryz.prog 43 := fun args w => Tryz.call43 args w
theorem cl44 : Callable Tryz.prog 44 := fun args w => Tryz.call44 args w
theorem cl45 : Callable Tryz.prog 45 := fun args w => Tryz.call45 args w
theorem cl46 : Callable Tryz.prog 46 := fun args w => Tryz.call46 args w
theorem cl47 : Callable Tryz.prog 47 := fun args w => Tryz.call47 args w
theorem cl48 : Callable Tryz.prog 48 := fun args w => Tryz.call48 args w
theorem cl49 : Callable Tryz.prog 49 := fun args w => Tryz.call49 args w
theorem cl50 : Callable Tryz.prog 50 := fun args w => Tryz.call50 args w
theorem cl51 : Callable Tryz.prog 51 := fun args w => Tryz.call51 args w
theorem cl52 : Callable Tryz.prog 52 := fun args w => Tryz.call52 args w
theorem cl53 : Callable Tryz.prog 53 := fun args w => Tryz.call53 args w
theorem cl54 : Callable Tryz.prog 54 := fun args w => Tryz.call54 args w
theorem cl55 : Callable Tryz.prog 55 := fun args w => Tryz.call55 args w
theorem cl56 : Callable Tryz.prog 56 := fun args w => Tryz.call56 args w
theorem cl57 : Callable Tryz.prog 57 := fun args w => Tryz.call57 args w
theorem cl58 : Callable Tryz.prog 58 := fun args w => Tryz.call58 args w
theorem cl59 : Callable Tryz.prog 59 := fun args w => Tryz.call59 args w
theorem cl60 : Callable Tryz.prog 60 := fun args w => Tryz.call60 args w
theorem cl61 : Callable Tryz.prog 61 := fun args w => Tryz.call61 args w
theorem cl62 : Callable Tryz.prog 62 := fun args w => Tryz.call62 args w
theorem cl63 : Callable Tryz.prog 63 := fun args w => Tryz.call63 args w
theorem cl64 : Callable Tryz.prog 64 := fun args w => Tryz.call64 args w
theorem cl65 : Callable Tryz.prog 65 := fun args w => Tryz.call65 args w
theorem cl66 : Callable Tryz.prog 66 := fun args w => Tryz.call66 args w
theorem cl67 : Callable Tryz.prog 67 := fun args w => Tryz.call67 args w
theorem cl68 : Callable Tryz.prog 68 := fun args w => Tryz.call68 args w
theorem cl69 : Callable Tryz.prog 69 := fun args w => Tryz.call69 args w
theorem cl70 : Callable Tryz.prog 70 := fun args w => Tryz.call70 args w
theorem cl71 : Callable Tryz.prog 71 := fun args w => Tryz.call71 args w
theorem cl72 : Callable Tryz.prog 72 := fun args w => Tryz.call72 args w
theorem cl73 : Callable Tryz.prog 73 := fun args w => Tryz.call73 args w
theorem cl74 : Callable Tryz.prog 74 := fun args w => Tryz.call74 args w
theorem cl75 : Callable Tryz.prog 75 := fun args w => Tryz.call75 args w
theorem cl76 : Callable Tryz.prog 76 := fun args w => Tryz.call76 args w
theorem cl77 : Callable Tryz.prog 77 := fun args w => Tryz.call77 args w
theorem cl78 : Callable Tryz.prog 78 := fun args w => Tryz.call78 args w
theorem cl79 : Callable Tryz.prog 79 := fun args w => Tryz.call79 args w
theorem cl80 : Callable Tryz.prog 80 := fun args w => Tryz.call80 args w
theorem cl81 : Callable Tryz.prog 81 := fun args w => Tryz.call81 args w
theorem cl82 : Callable Tryz.prog 82 := fun args w => Tryz.call82 args w
theorem cl83 : Callable Tryz.prog 83 := fun args w => Tryz.call83 args w
theorem cl84 : Callable Tryz.prog 84 := fun args w => Tryz.call84 args w
theorem cl85 : Callable Tryz.prog 85 := fun args w => Tryz.call85 args w
theorem cl86 : Callable Tryz.prog 86 := fun args w => Tryz.call86 args w
theorem cl87 : Callable Tryz.prog 87 := fun args w => Tryz.call87 args w
theorem cl88 : Callable Tryz.prog 88 := fun args w => Tryz.call88 args w
theorem cl89 : Callable Tryz.prog 89 := fun args w => Tryz.call89 args w
theorem cl90 : Callable Tryz.prog 90 := fun args w => Tryz.call90 args w
theorem cl91 : Callable Tryz.prog 91 := fun args w => Tryz.call91 args w
theorem cl92 : Callable Tryz.prog 92 := fun args w => Tryz.call92 args w
theorem cl93 : Callable Tryz.prog 93 := fun args w => Tryz.call93 args w
theorem cl94 : Callable Tryz.prog 94 := fun args w => Tryz.call94 args w
theorem cl95 : Callable Tryz.prog 95 := fun args w => Tryz.call95 args w
theorem cl96 : Callable Tryz.prog 96 := fun args w => Tryz.call96 args w
theorem cl98 : Callable Tryz.prog 98 := fun args w => Tryz.call98 args w
theorem cl99 : Callable Tryz.prog 99 := fun args w => Tryz.call99 args w
theorem cl100 : Callable Tryz.prog 100 := fun args w => Tryz.call100 args w
theorem cl101 : Callable Tryz.prog 101 := fun args w => Tryz.call101 args w
theorem cl102 : Callable Tryz.prog 102 := fun args w => Tryz.call102 args w
theorem cl103 : Callable Tryz.prog 103 := fun args w => Tryz.call103 args w
theorem cl104 : Callable Tryz.prog 104 := fun args w => Tryz.call104 args w
theorem cl105 : Callable Tryz.prog 105 := fun args w => Tryz.call105 args w
theorem cl106 : Callable Tryz.prog 106 := fun args w => Tryz.call106 args w
theorem cl107 : Callable Tryz.prog 107 := fun args w => Tryz.call107 args w
theorem cl108 : Callable Tryz.prog 108 := fun args w => Tryz.call108 args w
end Go.Pm
