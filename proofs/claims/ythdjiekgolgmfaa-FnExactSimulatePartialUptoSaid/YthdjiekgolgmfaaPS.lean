/-
  Facts of the program: types, callables, regions whose order is drawn. Written by wip/tools/pgen.py.
-/
import Derived.Test.YthdjiekgolgmfaaPmW
import Derived.Test.YthdjiekgolgmfaaProg
import Derived.KernelRfl
namespace Go.Pm
open Go.Am
open Go.Proofs
set_option maxRecDepth 100000
@[go_sem] theorem tk3 : tk Try.prog 3 = some (false, 1) := by kernel_rfl
@[go_sem] theorem zr3 : zr Try.prog 3 = some [.int .i64 0] := by kernel_rfl
@[go_sem] theorem ezT3 : ezT Try.prog 3 = 0 := by kernel_rfl
@[go_sem] theorem ity3 : intTy Try.prog 3 = some .i64 := by kernel_rfl
@[go_sem] theorem tk4 : tk Try.prog 4 = some (false, 1) := by kernel_rfl
@[go_sem] theorem zr4 : zr Try.prog 4 = some [.bool false] := by kernel_rfl
@[go_sem] theorem ezT4 : ezT Try.prog 4 = 0 := by kernel_rfl
@[go_sem] theorem ibt4 : isBoolTy Try.prog 4 = true := by kernel_rfl
@[go_sem] theorem tk9 : tk Try.prog 9 = some (false, 1) := by kernel_rfl
@[go_sem] theorem zr9 : zr Try.prog 9 = some [.str ⟨#[]⟩] := by kernel_rfl
@[go_sem] theorem ezT9 : ezT Try.prog 9 = 0 := by kernel_rfl
@[go_sem] theorem ist9 : isStrTy Try.prog 9 = true := by kernel_rfl
@[go_sem] theorem tk20 : tk Try.prog 20 = some (false, 1) := by kernel_rfl
@[go_sem] theorem zr20 : zr Try.prog 20 = some [.nili] := by kernel_rfl
@[go_sem] theorem ezT20 : ezT Try.prog 20 = 0 := by kernel_rfl
@[go_sem] theorem tk22 : tk Try.prog 22 = some (false, 1) := by kernel_rfl
@[go_sem] theorem zr22 : zr Try.prog 22 = some [.sl true 2 []] := by kernel_rfl
@[go_sem] theorem ezT22 : ezT Try.prog 22 = 2 := by kernel_rfl
@[go_sem] theorem ety22 : elemTy Try.prog 22 = some 61 := by kernel_rfl
@[go_sem] theorem ist22 : isStrTy Try.prog 22 = false := by kernel_rfl
@[go_sem] theorem esz22 : esz Try.prog 22 = some 2 := by kernel_rfl
@[go_sem] theorem ez22 : ez Try.prog 22 = some (2, 32, [.sl false 1 [], .int .i64 0]) := by kernel_rfl
@[go_sem] theorem fes22 {i : Nat} : fldEs Try.prog 22 i = 0 := by kernel_rfl
@[go_sem] theorem tk25 : tk Try.prog 25 = some (false, 1) := by kernel_rfl
@[go_sem] theorem zr25 : zr Try.prog 25 = some [.sl true 2 []] := by kernel_rfl
@[go_sem] theorem ezT25 : ezT Try.prog 25 = 2 := by kernel_rfl
@[go_sem] theorem ety25 : elemTy Try.prog 25 = some 62 := by kernel_rfl
@[go_sem] theorem ist25 : isStrTy Try.prog 25 = false := by kernel_rfl
@[go_sem] theorem esz25 : esz Try.prog 25 = some 2 := by kernel_rfl
@[go_sem] theorem ez25 : ez Try.prog 25 = some (2, 32, [.sl false 1 [], .int .i64 0]) := by kernel_rfl
@[go_sem] theorem fes25 {i : Nat} : fldEs Try.prog 25 i = 0 := by kernel_rfl
@[go_sem] theorem tk33 : tk Try.prog 33 = some (true, 3) := by kernel_rfl
@[go_sem] theorem zr33 : zr Try.prog 33 = some [.int .i64 0, .int .i64 0, .int .i64 0] := by kernel_rfl
@[go_sem] theorem ezT33 : ezT Try.prog 33 = 0 := by kernel_rfl
@[go_sem] theorem bld33 : bldP Try.prog 33 = some (fldOff Try.prog 33, [.int .i64 0, .int .i64 0, .int .i64 0]) := by kernel_rfl
@[go_sem] theorem fld33_0 : fldOff Try.prog 33 0 = some (0, 1) := by kernel_rfl
@[go_sem] theorem fes33_0 : fldEs Try.prog 33 0 = 0 := by kernel_rfl
@[go_sem] theorem fld33_1 : fldOff Try.prog 33 1 = some (1, 1) := by kernel_rfl
@[go_sem] theorem fes33_1 : fldEs Try.prog 33 1 = 0 := by kernel_rfl
@[go_sem] theorem fld33_2 : fldOff Try.prog 33 2 = some (2, 1) := by kernel_rfl
@[go_sem] theorem fes33_2 : fldEs Try.prog 33 2 = 0 := by kernel_rfl
@[go_sem] theorem tk35 : tk Try.prog 35 = some (true, 2) := by kernel_rfl
@[go_sem] theorem zr35 : zr Try.prog 35 = some [.int .i64 0, .int .i64 0] := by kernel_rfl
@[go_sem] theorem ezT35 : ezT Try.prog 35 = 0 := by kernel_rfl
@[go_sem] theorem bld35 : bldP Try.prog 35 = some (fldOff Try.prog 35, [.int .i64 0, .int .i64 0]) := by kernel_rfl
@[go_sem] theorem fld35_0 : fldOff Try.prog 35 0 = some (0, 1) := by kernel_rfl
@[go_sem] theorem fes35_0 : fldEs Try.prog 35 0 = 0 := by kernel_rfl
@[go_sem] theorem fld35_1 : fldOff Try.prog 35 1 = some (1, 1) := by kernel_rfl
@[go_sem] theorem fes35_1 : fldEs Try.prog 35 1 = 0 := by kernel_rfl
@[go_sem] theorem tk36 : tk Try.prog 36 = some (false, 1) := by kernel_rfl
@[go_sem] theorem zr36 : zr Try.prog 36 = some [.sl true 1 []] := by kernel_rfl
@[go_sem] theorem ezT36 : ezT Try.prog 36 = 1 := by kernel_rfl
@[go_sem] theorem ety36 : elemTy Try.prog 36 = some 3 := by kernel_rfl
@[go_sem] theorem ist36 : isStrTy Try.prog 36 = false := by kernel_rfl
@[go_sem] theorem esz36 : esz Try.prog 36 = some 1 := by kernel_rfl
@[go_sem] theorem ez36 : ez Try.prog 36 = some (1, 8, [.int .i64 0]) := by kernel_rfl
@[go_sem] theorem fes36 {i : Nat} : fldEs Try.prog 36 i = 0 := by kernel_rfl
@[go_sem] theorem tk39 : tk Try.prog 39 = some (true, 3) := by kernel_rfl
@[go_sem] theorem zr39 : zr Try.prog 39 = some [.int .i64 0, .int .i64 0, .int .i64 0] := by kernel_rfl
@[go_sem] theorem ezT39 : ezT Try.prog 39 = 0 := by kernel_rfl
@[go_sem] theorem bld39 : bldP Try.prog 39 = some (fldOff Try.prog 39, [.int .i64 0, .int .i64 0, .int .i64 0]) := by kernel_rfl
@[go_sem] theorem fld39_0 : fldOff Try.prog 39 0 = some (0, 1) := by kernel_rfl
@[go_sem] theorem fes39_0 : fldEs Try.prog 39 0 = 0 := by kernel_rfl
@[go_sem] theorem fld39_1 : fldOff Try.prog 39 1 = some (1, 1) := by kernel_rfl
@[go_sem] theorem fes39_1 : fldEs Try.prog 39 1 = 0 := by kernel_rfl
@[go_sem] theorem fld39_2 : fldOff Try.prog 39 2 = some (2, 1) := by kernel_rfl
@[go_sem] theorem fes39_2 : fldEs Try.prog 39 2 = 0 := by kernel_rfl
@[go_sem] theorem tk41 : tk Try.prog 41 = some (true, 2) := by kernel_rfl
@[go_sem] theorem zr41 : zr Try.prog 41 = some [.int .i64 0, .int .i64 0] := by kernel_rfl
@[go_sem] theorem ezT41 : ezT Try.prog 41 = 0 := by kernel_rfl
@[go_sem] theorem bld41 : bldP Try.prog 41 = some (fldOff Try.prog 41, [.int .i64 0, .int .i64 0]) := by kernel_rfl
@[go_sem] theorem fld41_0 : fldOff Try.prog 41 0 = some (0, 1) := by kernel_rfl
@[go_sem] theorem fes41_0 : fldEs Try.prog 41 0 = 0 := by kernel_rfl
@[go_sem] theorem fld41_1 : fldOff Try.prog 41 1 = some (1, 1) := by kernel_rfl
@[go_sem] theorem fes41_1 : fldEs Try.prog 41 1 = 0 := by kernel_rfl
@[go_sem] theorem tk52 : tk Try.prog 52 = some (false, 1) := by kernel_rfl
@[go_sem] theorem zr52 : zr Try.prog 52 = some [.sl true 1 []] := by kernel_rfl
@[go_sem] theorem ezT52 : ezT Try.prog 52 = 1 := by kernel_rfl
@[go_sem] theorem ety52 : elemTy Try.prog 52 = some 36 := by kernel_rfl
@[go_sem] theorem ist52 : isStrTy Try.prog 52 = false := by kernel_rfl
@[go_sem] theorem esz52 : esz Try.prog 52 = some 1 := by kernel_rfl
@[go_sem] theorem ez52 : ez Try.prog 52 = some (1, 24, [.sl false 1 []]) := by kernel_rfl
@[go_sem] theorem fes52 {i : Nat} : fldEs Try.prog 52 i = 1 := by kernel_rfl
@[go_sem] theorem tk61 : tk Try.prog 61 = some (true, 2) := by kernel_rfl
@[go_sem] theorem zr61 : zr Try.prog 61 = some [.sl true 1 [], .int .i64 0] := by kernel_rfl
@[go_sem] theorem ezT61 : ezT Try.prog 61 = 0 := by kernel_rfl
@[go_sem] theorem bld61 : bldP Try.prog 61 = some (fldOff Try.prog 61, [.sl true 1 [], .int .i64 0]) := by kernel_rfl
@[go_sem] theorem fld61_0 : fldOff Try.prog 61 0 = some (0, 1) := by kernel_rfl
@[go_sem] theorem fes61_0 : fldEs Try.prog 61 0 = 1 := by kernel_rfl
@[go_sem] theorem fld61_1 : fldOff Try.prog 61 1 = some (1, 1) := by kernel_rfl
@[go_sem] theorem fes61_1 : fldEs Try.prog 61 1 = 0 := by kernel_rfl
@[go_sem] theorem tk62 : tk Try.prog 62 = some (true, 2) := by kernel_rfl
@[go_sem] theorem zr62 : zr Try.prog 62 = some [.sl true 1 [], .int .i64 0] := by kernel_rfl
@[go_sem] theorem ezT62 : ezT Try.prog 62 = 0 := by kernel_rfl
@[go_sem] theorem bld62 : bldP Try.prog 62 = some (fldOff Try.prog 62, [.sl true 1 [], .int .i64 0]) := by kernel_rfl
@[go_sem] theorem fld62_0 : fldOff Try.prog 62 0 = some (0, 1) := by kernel_rfl
@[go_sem] theorem fes62_0 : fldEs Try.prog 62 0 = 1 := by kernel_rfl
@[go_sem] theorem fld62_1 : fldOff Try.prog 62 1 = some (1, 1) := by kernel_rfl
@[go_sem] theorem fes62_1 : fldEs Try.prog 62 1 = 0 := by kernel_rfl
@[go_sem] theorem tk80 : tk Try.prog 80 = some (false, 1) := by kernel_rfl
@[go_sem] theorem zr80 : zr Try.prog 80 = some [.nilf] := by kernel_rfl
@[go_sem] theorem ezT80 : ezT Try.prog 80 = 0 := by kernel_rfl
@[go_sem] theorem tk90 : tk Try.prog 90 = some (false, 1) := by kernel_rfl
@[go_sem] theorem zr90 : zr Try.prog 90 = some [.nilf] := by kernel_rfl
@[go_sem] theorem ezT90 : ezT Try.prog 90 = 0 := by kernel_rfl
@[go_sem] theorem tk91 : tk Try.prog 91 = some (false, 1) := by kernel_rfl
@[go_sem] theorem zr91 : zr Try.prog 91 = some [.sl true 2 []] := by kernel_rfl
@[go_sem] theorem ezT91 : ezT Try.prog 91 = 2 := by kernel_rfl
@[go_sem] theorem ety91 : elemTy Try.prog 91 = some 41 := by kernel_rfl
@[go_sem] theorem ist91 : isStrTy Try.prog 91 = false := by kernel_rfl
@[go_sem] theorem esz91 : esz Try.prog 91 = some 2 := by kernel_rfl
@[go_sem] theorem ez91 : ez Try.prog 91 = some (2, 16, [.int .i64 0, .int .i64 0]) := by kernel_rfl
@[go_sem] theorem fes91 {i : Nat} : fldEs Try.prog 91 i = 0 := by kernel_rfl
@[go_sem] theorem tk100 : tk Try.prog 100 = some (false, 1) := by kernel_rfl
@[go_sem] theorem zr100 : zr Try.prog 100 = some [.nilf] := by kernel_rfl
@[go_sem] theorem ezT100 : ezT Try.prog 100 = 0 := by kernel_rfl
@[go_sem] theorem tk101 : tk Try.prog 101 = some (false, 1) := by kernel_rfl
@[go_sem] theorem zr101 : zr Try.prog 101 = some [.sl true 1 []] := by kernel_rfl
@[go_sem] theorem ezT101 : ezT Try.prog 101 = 1 := by kernel_rfl
@[go_sem] theorem ety101 : elemTy Try.prog 101 = some 25 := by kernel_rfl
@[go_sem] theorem ist101 : isStrTy Try.prog 101 = false := by kernel_rfl
@[go_sem] theorem esz101 : esz Try.prog 101 = some 1 := by kernel_rfl
@[go_sem] theorem ez101 : ez Try.prog 101 = some (1, 24, [.sl false 2 []]) := by kernel_rfl
@[go_sem] theorem fes101 {i : Nat} : fldEs Try.prog 101 i = 2 := by kernel_rfl
@[go_sem] theorem tk103 : tk Try.prog 103 = some (false, 1) := by kernel_rfl
@[go_sem] theorem zr103 : zr Try.prog 103 = some [.int .u64 0] := by kernel_rfl
@[go_sem] theorem ezT103 : ezT Try.prog 103 = 0 := by kernel_rfl
@[go_sem] theorem ity103 : intTy Try.prog 103 = some .u64 := by kernel_rfl
theorem follows : Try.prog.follows .mixedOrders = true := by kernel_rfl
theorem cl3 : Callable Try.prog 3 := fun args w => Try.call3 args w
theorem cl4 : Callable Try.prog 4 := fun args w => Try.call4 args w
theorem cl5 : Callable Try.prog 5 := fun args w => Try.call5 args w
def D5_5 : List DE := [⟨0, [6], [6], some 6, false, false, false⟩, ⟨2, [7], [7], some 7, false, false, false⟩, ⟨4, [2], [], none, false, false, false⟩, ⟨5, [3], [], none, false, false, false⟩, ⟨7, [4], [], none, false, false, false⟩, ⟨9, [5], [], none, false, false, false⟩, ⟨1, [26], [], none, false, true, true⟩, ⟨3, [28], [], none, false, true, true⟩, ⟨6, [31], [], none, false, true, true⟩, ⟨8, [33], [], none, false, true, true⟩, ⟨10, [27, 29, 30, 32, 34, 35], [], none, false, true, true⟩, ⟨11, [36], [], none, false, false, false⟩, ⟨12, [25], [], none, false, false, false⟩, ⟨13, [25], [], none, false, false, false⟩, ⟨14, [37], [], none, false, false, false⟩, ⟨15, [38], [], none, false, false, false⟩]
def D5_8 : List DE := [⟨0, [6], [6], some 6, false, false, false⟩, ⟨2, [7], [7], some 7, false, false, false⟩, ⟨4, [2], [], none, false, false, false⟩, ⟨5, [15], [], none, false, false, false⟩, ⟨6, [16], [], none, false, false, false⟩, ⟨7, [5], [], none, false, false, false⟩, ⟨1, [44], [], none, false, true, true⟩, ⟨3, [46], [], none, false, true, true⟩, ⟨8, [45, 47, 48, 49, 50, 51], [], none, false, true, true⟩, ⟨9, [52], [], none, false, false, false⟩, ⟨10, [43], [], none, false, false, false⟩, ⟨11, [43], [], none, false, false, false⟩, ⟨12, [53], [], none, false, false, false⟩, ⟨13, [54], [], none, false, false, false⟩]
theorem cl6 : Callable Try.prog 6 := fun args w => Try.call6 args w
theorem cl7 : Callable Try.prog 7 := fun args w => Try.call7 args w
theorem cl8 : Callable Try.prog 8 := fun args w => Try.call8 args w
theorem cl9 : Callable Try.prog 9 := fun args w => Try.call9 args w
theorem cl10 : Callable Try.prog 10 := fun args w => Try.call10 args w
theorem cl11 : Callable Try.prog 11 := fun args w => Try.call11 args w
theorem cl12 : Callable Try.prog 12 := fun args w => Try.call12 args w
theorem cl13 : Callable Try.prog 13 := fun args w => Try.call13 args w
theorem cl14 : Callable Try.prog 14 := fun args w => Try.call14 args w
def D14_6 : List DE := [⟨0, [0], [], none, false, false, false⟩, ⟨1, [5], [], none, false, false, false⟩, ⟨2, [17, 18], [], none, false, false, false⟩, ⟨3, [19], [], none, false, false, false⟩, ⟨4, [1], [], none, false, false, false⟩, ⟨5, [5], [], none, false, false, false⟩, ⟨6, [21, 22], [], none, false, false, false⟩, ⟨7, [23], [], none, false, false, false⟩, ⟨8, [20, 24], [], none, false, true, true⟩, ⟨9, [25], [], none, false, false, false⟩]
theorem cl15 : Callable Try.prog 15 := fun args w => Try.call15 args w
def D15_8 : List DE := [⟨0, [11], [11], none, false, false, false⟩, ⟨1, [44], [11], some 44, false, false, false⟩, ⟨2, [8], [], none, false, false, false⟩, ⟨3, [45, 46], [], none, false, false, false⟩, ⟨4, [1], [], none, false, false, false⟩, ⟨5, [11], [11], none, false, false, false⟩, ⟨6, [49], [11], some 49, false, false, false⟩, ⟨8, [7], [], none, false, false, false⟩, ⟨7, [48, 50], [], none, false, true, true⟩, ⟨9, [51, 52], [], none, false, false, false⟩, ⟨10, [47, 53], [], none, false, false, false⟩, ⟨11, [54], [], none, false, false, false⟩]
def D15_18 : List DE := [⟨0, [9], [], none, false, false, false⟩, ⟨1, [15], [], none, false, false, false⟩, ⟨2, [86, 87], [], none, false, false, false⟩, ⟨3, [7], [], none, false, false, false⟩, ⟨4, [89], [], none, false, false, false⟩, ⟨5, [8], [], none, false, false, false⟩, ⟨6, [90, 91], [], none, false, false, false⟩, ⟨7, [15], [], none, false, false, false⟩, ⟨8, [92, 93], [], none, false, false, false⟩, ⟨9, [88], [], none, false, false, false⟩, ⟨10, [94], [], none, false, false, false⟩, ⟨11, [], [], none, false, false, false⟩]
theorem cl16 : Callable Try.prog 16 := fun args w => Try.call16 args w
def D16_7 : List DE := [⟨0, [11], [11], none, false, false, false⟩, ⟨1, [45], [11], some 45, false, false, false⟩, ⟨2, [8], [], none, false, false, false⟩, ⟨3, [46, 47], [], none, false, false, false⟩, ⟨4, [1], [], none, false, false, false⟩, ⟨5, [11], [11], none, false, false, false⟩, ⟨6, [50], [11], some 50, false, false, false⟩, ⟨8, [7], [], none, false, false, false⟩, ⟨7, [49, 51], [], none, false, true, true⟩, ⟨9, [52, 53], [], none, false, false, false⟩, ⟨10, [48, 54], [], none, false, false, false⟩, ⟨11, [55], [], none, false, false, false⟩]
theorem cl17 : Callable Try.prog 17 := fun args w => Try.call17 args w
def D17_3 : List DE := [⟨0, [6], [6], none, false, false, false⟩, ⟨1, [63], [6], some 63, false, false, false⟩, ⟨2, [], [], none, false, false, false⟩, ⟨3, [3], [], none, false, false, false⟩, ⟨5, [5], [], none, false, false, false⟩, ⟨4, [65, 66], [], none, true, false, false⟩, ⟨6, [64, 67, 68], [], none, false, true, true⟩, ⟨7, [69], [], none, false, false, false⟩]
def D17_4 : List DE := [⟨0, [6], [6], some 6, false, false, false⟩, ⟨1, [6], [6], some 6, false, false, false⟩, ⟨2, [7], [7], none, false, false, false⟩, ⟨3, [72], [7], some 72, false, false, false⟩, ⟨4, [6], [6], some 6, false, false, false⟩, ⟨5, [2], [], none, false, false, false⟩, ⟨9, [14], [], none, false, false, false⟩, ⟨10, [79], [], none, false, false, false⟩, ⟨11, [80], [], none, false, false, false⟩, ⟨6, [74, 75], [], none, false, true, false⟩, ⟨7, [73, 76], [], none, false, false, false⟩, ⟨8, [71, 77], [], none, true, true, false⟩, ⟨12, [70, 78, 81], [], none, false, true, true⟩, ⟨13, [82], [], none, false, false, false⟩]
def D17_8 : List DE := [⟨0, [6], [6], some 6, false, false, false⟩, ⟨1, [15], [], none, false, false, false⟩, ⟨2, [6], [6], some 6, false, false, false⟩, ⟨3, [7], [7], none, false, false, false⟩, ⟨4, [93], [7], some 93, false, false, false⟩, ⟨5, [17], [], none, false, false, false⟩, ⟨6, [14], [], none, false, false, false⟩, ⟨7, [16], [], none, false, false, false⟩, ⟨8, [97], [], none, false, false, false⟩, ⟨9, [96, 98], [], none, false, false, false⟩, ⟨10, [99], [], none, false, false, false⟩, ⟨11, [95, 100], [], none, false, false, false⟩, ⟨12, [92, 94, 101], [], none, false, true, true⟩, ⟨13, [91, 102], [], none, false, false, false⟩, ⟨14, [90, 103], [], none, true, true, true⟩, ⟨15, [104], [], none, false, false, false⟩]
theorem cl18 : Callable Try.prog 18 := fun args w => Try.call18 args w
theorem cl19 : Callable Try.prog 19 := fun args w => Try.call19 args w
theorem cl20 : Callable Try.prog 20 := fun args w => Try.call20 args w
theorem cl21 : Callable Try.prog 21 := fun args w => Try.call21 args w
def D21_3 : List DE := [⟨0, [6], [6], none, false, false, false⟩, ⟨1, [61], [6], some 61, false, false, false⟩, ⟨2, [], [], none, false, false, false⟩, ⟨3, [3], [], none, false, false, false⟩, ⟨5, [5], [], none, false, false, false⟩, ⟨4, [63, 64], [], none, true, false, false⟩, ⟨6, [62, 65, 66], [], none, false, true, true⟩, ⟨7, [67], [], none, false, false, false⟩]
def D21_4 : List DE := [⟨0, [6], [6], some 6, false, false, false⟩, ⟨1, [6], [6], some 6, false, false, false⟩, ⟨2, [7], [7], none, false, false, false⟩, ⟨3, [70], [7], some 70, false, false, false⟩, ⟨4, [2], [], none, false, false, false⟩, ⟨6, [14], [], none, false, false, false⟩, ⟨7, [74], [], none, false, false, false⟩, ⟨8, [75], [], none, false, false, false⟩, ⟨5, [69, 71, 72], [], none, false, true, false⟩, ⟨9, [68, 73, 76], [], none, false, true, true⟩, ⟨10, [77], [], none, false, false, false⟩]
def D21_8 : List DE := [⟨0, [6], [6], some 6, false, false, false⟩, ⟨1, [15], [], none, false, false, false⟩, ⟨2, [6], [6], some 6, false, false, false⟩, ⟨3, [6], [6], some 6, false, false, false⟩, ⟨4, [7], [7], none, false, false, false⟩, ⟨5, [89], [7], some 89, false, false, false⟩, ⟨6, [17], [], none, false, false, false⟩, ⟨8, [14], [], none, false, false, false⟩, ⟨9, [16], [], none, false, false, false⟩, ⟨10, [94], [], none, false, false, false⟩, ⟨11, [93, 95], [], none, false, false, false⟩, ⟨12, [96], [], none, false, false, false⟩, ⟨7, [88, 90, 91], [], none, false, true, false⟩, ⟨13, [87, 92, 97], [], none, false, true, true⟩, ⟨14, [86, 98], [], none, false, false, false⟩, ⟨15, [85, 99], [], none, true, true, true⟩, ⟨16, [100], [], none, false, false, false⟩]
theorem cl22 : Callable Try.prog 22 := fun args w => Try.call22 args w
def D22_6 : List DE := [⟨0, [0], [], none, false, false, false⟩, ⟨1, [5], [], none, false, false, false⟩, ⟨2, [17, 18], [], none, false, false, false⟩, ⟨3, [19], [], none, false, false, false⟩, ⟨4, [1], [], none, false, false, false⟩, ⟨5, [5], [], none, false, false, false⟩, ⟨6, [21, 22], [], none, false, false, false⟩, ⟨7, [23], [], none, false, false, false⟩, ⟨8, [20, 24], [], none, false, false, false⟩]
theorem cl23 : Callable Try.prog 23 := fun args w => Try.call23 args w
theorem cl24 : Callable Try.prog 24 := fun args w => Try.call24 args w
def D24_14 : List DE := [⟨0, [12], [], none, false, false, false⟩, ⟨1, [50], [], none, false, false, false⟩, ⟨2, [13], [], none, false, false, false⟩, ⟨3, [0], [], none, false, false, false⟩, ⟨4, [53], [], none, false, false, false⟩, ⟨5, [52, 54], [], none, false, false, false⟩, ⟨6, [51], [], none, false, false, false⟩, ⟨7, [55], [], none, false, false, false⟩]
theorem cl25 : Callable Try.prog 25 := fun args w => Try.call25 args w
theorem cl26 : Callable Try.prog 26 := fun args w => Try.call26 args w
theorem cl27 : Callable Try.prog 27 := fun args w => Try.call27 args w
def D27_8 : List DE := [⟨0, [8], [], none, false, false, false⟩, ⟨1, [10], [10], none, false, false, false⟩, ⟨2, [36], [10], some 36, false, false, false⟩, ⟨3, [1], [], none, false, false, false⟩, ⟨4, [11], [], none, false, false, false⟩, ⟨6, [2], [], none, false, false, false⟩, ⟨7, [11], [], none, false, false, false⟩, ⟨10, [10], [10], none, false, false, false⟩, ⟨11, [45], [10], some 45, false, false, false⟩, ⟨5, [38, 39], [], none, false, true, true⟩, ⟨8, [41, 42], [], none, false, true, true⟩, ⟨9, [37, 40, 43], [], none, false, false, false⟩, ⟨12, [35, 44, 46], [], none, false, true, true⟩, ⟨13, [47], [], none, false, false, false⟩]
theorem cl28 : Callable Try.prog 28 := fun args w => Try.call28 args w
def D28_8 : List DE := [⟨0, [8], [], none, false, false, false⟩, ⟨1, [10], [10], none, false, false, false⟩, ⟨2, [37], [10], some 37, false, false, false⟩, ⟨3, [1], [], none, false, false, false⟩, ⟨4, [11], [], none, false, false, false⟩, ⟨5, [39, 40], [], none, false, false, false⟩, ⟨6, [2], [], none, false, false, false⟩, ⟨7, [11], [], none, false, false, false⟩, ⟨8, [42, 43], [], none, false, false, false⟩, ⟨9, [38, 41, 44], [], none, false, false, false⟩, ⟨10, [10], [10], none, false, false, false⟩, ⟨11, [46], [10], some 46, false, false, false⟩, ⟨12, [45, 47], [], none, false, false, false⟩, ⟨13, [48], [], none, false, false, false⟩, ⟨14, [36, 49], [], none, true, false, false⟩, ⟨15, [50], [], none, false, false, false⟩]
theorem cl29 : Callable Try.prog 29 := fun args w => Try.call29 args w
theorem cl30 : Callable Try.prog 30 := fun args w => Try.call30 args w
theorem cl31 : Callable Try.prog 31 := fun args w => Try.call31 args w
theorem cl32 : Callable Try.prog 32 := fun args w => Try.call32 args w
theorem cl33 : Callable Try.prog 33 := fun args w => Try.call33 args w
def D33_6 : List DE := [⟨0, [0], [], none, false, false, false⟩, ⟨1, [5], [], none, false, false, false⟩, ⟨2, [17, 18], [], none, false, false, false⟩, ⟨3, [19], [], none, false, false, false⟩, ⟨4, [1], [], none, false, false, false⟩, ⟨5, [5], [], none, false, false, false⟩, ⟨6, [21, 22], [], none, false, false, false⟩, ⟨7, [23], [], none, false, false, false⟩, ⟨8, [20, 24], [], none, false, true, true⟩, ⟨9, [25], [], none, false, false, false⟩]
theorem cl34 : Callable Try.prog 34 := fun args w => Try.call34 args w
theorem cl35 : Callable Try.prog 35 := fun args w => Try.call35 args w
theorem cl36 : Callable Try.prog 36 := fun args w => Try.call36 args w
theorem cl37 : Callable Try.prog 37 := fun args w => Try.call37 args w
theorem cl38 : Callable Try.prog 38 := fun args w => Try.call38 args w
def D38_6 : List DE := [⟨0, [4], [4], none, false, false, false⟩, ⟨1, [15], [4], some 15, false, false, false⟩, ⟨2, [16], [], none, false, true, true⟩, ⟨3, [17], [], none, false, false, false⟩, ⟨4, [18], [], none, false, false, false⟩, ⟨5, [4, 19], [4], none, false, false, false⟩, ⟨6, [20, 19], [4], some 20, false, false, false⟩, ⟨7, [21, 19], [], none, false, false, false⟩, ⟨8, [22, 19], [], none, false, false, false⟩, ⟨9, [19, 23], [], none, false, false, false⟩, ⟨10, [24], [], none, false, false, false⟩, ⟨11, [3, 25], [], none, false, false, false⟩, ⟨12, [26, 25], [], none, false, false, false⟩, ⟨13, [27, 25], [], none, false, false, false⟩, ⟨14, [0, 28], [], none, false, false, false⟩, ⟨15, [3, 28], [], none, false, false, false⟩, ⟨16, [30, 28], [], none, false, false, false⟩, ⟨17, [29, 31, 28], [], none, false, false, false⟩, ⟨18, [32, 28], [], none, false, false, false⟩, ⟨19, [33, 28], [], none, false, false, false⟩, ⟨20, [4, 28], [4], none, false, false, false⟩, ⟨21, [35, 28], [4], some 35, false, false, false⟩, ⟨22, [34, 36, 28], [], none, false, true, true⟩, ⟨23, [37, 28], [], none, false, false, false⟩, ⟨24, [28, 38, 25], [], none, false, false, false⟩, ⟨25, [25, 39], [], none, false, false, false⟩]
theorem cl39 : Callable Try.prog 39 := fun args w => Try.call39 args w
theorem cl40 : Callable Try.prog 40 := fun args w => Try.call40 args w
def D40_7 : List DE := [⟨0, [5], [5], none, false, false, false⟩, ⟨1, [16], [5], some 16, false, false, false⟩, ⟨2, [17], [], none, false, false, false⟩, ⟨3, [18], [], none, false, false, false⟩, ⟨4, [19], [], none, false, false, false⟩, ⟨5, [5, 20], [5], none, false, false, false⟩, ⟨6, [21, 20], [5], some 21, false, false, false⟩, ⟨7, [3, 20], [], none, false, false, false⟩, ⟨8, [23, 20], [], none, false, false, false⟩, ⟨9, [22, 24, 20], [], none, false, true, true⟩, ⟨10, [25, 20], [], none, false, false, false⟩, ⟨11, [20, 26], [], none, false, false, false⟩, ⟨12, [27], [], none, false, false, false⟩, ⟨13, [4, 28], [], none, false, false, false⟩, ⟨14, [29, 28], [], none, false, false, false⟩, ⟨15, [30, 28], [], none, false, false, false⟩, ⟨16, [0, 31], [], none, false, false, false⟩, ⟨17, [4, 31], [], none, false, false, false⟩, ⟨18, [33, 31], [], none, false, false, false⟩, ⟨19, [32, 34, 31], [], none, false, false, false⟩, ⟨20, [35, 31], [], none, false, false, false⟩, ⟨21, [36, 31], [], none, false, false, false⟩, ⟨22, [5, 31], [5], none, false, false, false⟩, ⟨23, [38, 31], [5], some 38, false, false, false⟩, ⟨24, [37, 39, 31], [], none, false, true, true⟩, ⟨25, [40, 31], [], none, false, false, false⟩, ⟨26, [31, 41, 28], [], none, false, false, false⟩, ⟨27, [28, 42], [], none, false, false, false⟩]
theorem cl41 : Callable Try.prog 41 := fun args w => Try.call41 args w
theorem cl42 : Callable Try.prog 42 := fun args w => Try.call42 args w
theorem cl43 : Callable Try.prog 43 := fun args w => Try.call43 args w
theorem cl44 : Callable Try.prog 44 := fun args w => Try.call44 args w
theorem cl45 : Callable Try.prog 45 := fun args w => Try.call45 args w
theorem cl46 : Callable Try.prog 46 := fun args w => Try.call46 args w
theorem cl47 : Callable Try.prog 47 := fun args w => Try.call47 args w
theorem cl48 : Callable Try.prog 48 := fun args w => Try.call48 args w
def D48_3 : List DE := [⟨0, [7], [], none, false, false, false⟩, ⟨1, [6], [], none, false, false, false⟩, ⟨2, [7], [], none, false, false, false⟩, ⟨3, [13, 14], [], none, false, false, false⟩, ⟨4, [12], [], none, false, false, false⟩, ⟨5, [15], [], none, false, false, false⟩]
def D48_4 : List DE := [⟨0, [0], [], none, false, false, false⟩, ⟨1, [6], [], none, false, false, false⟩, ⟨2, [16, 17], [], none, false, false, false⟩, ⟨3, [1], [], none, false, false, false⟩, ⟨4, [6], [], none, false, false, false⟩, ⟨5, [19, 20], [], none, false, false, false⟩, ⟨6, [18], [], none, false, false, false⟩, ⟨7, [21], [], none, false, false, false⟩]
theorem cl49 : Callable Try.prog 49 := fun args w => Try.call49 args w
theorem cl50 : Callable Try.prog 50 := fun args w => Try.call50 args w
theorem cl51 : Callable Try.prog 51 := fun args w => Try.call51 args w
theorem cl52 : Callable Try.prog 52 := fun args w => Try.call52 args w
theorem cl53 : Callable Try.prog 53 := fun args w => Try.call53 args w
theorem cl54 : Callable Try.prog 54 := fun args w => Try.call54 args w
theorem cl55 : Callable Try.prog 55 := fun args w => Try.call55 args w
theorem cl56 : Callable Try.prog 56 := fun args w => Try.call56 args w
theorem cl57 : Callable Try.prog 57 := fun args w => Try.call57 args w
def D57_1 : List DE := [⟨0, [1], [], none, false, false, false⟩, ⟨1, [2], [], none, false, false, false⟩, ⟨2, [3], [3], none, false, false, false⟩, ⟨3, [9], [3], some 9, false, false, false⟩, ⟨5, [3], [3], none, false, false, false⟩, ⟨6, [12], [3], some 12, false, false, false⟩, ⟨4, [8, 10], [], none, false, true, true⟩, ⟨7, [7, 11, 13], [], none, false, true, true⟩, ⟨8, [14], [], none, false, false, false⟩]
theorem cl58 : Callable Try.prog 58 := fun args w => Try.call58 args w
theorem cl59 : Callable Try.prog 59 := fun args w => Try.call59 args w
theorem cl60 : Callable Try.prog 60 := fun args w => Try.call60 args w
theorem cl61 : Callable Try.prog 61 := fun args w => Try.call61 args w
theorem cl62 : Callable Try.prog 62 := fun args w => Try.call62 args w
theorem cl63 : Callable Try.prog 63 := fun args w => Try.call63 args w
theorem cl64 : Callable Try.prog 64 := fun args w => Try.call64 args w
theorem cl65 : Callable Try.prog 65 := fun args w => Try.call65 args w
theorem cl66 : Callable Try.prog 66 := fun args w => Try.call66 args w
theorem cl67 : Callable Try.prog 67 := fun args w => Try.call67 args w
theorem cl68 : Callable Try.prog 68 := fun args w => Try.call68 args w
def D68_1 : List DE := [⟨0, [1], [], none, false, false, false⟩, ⟨1, [2], [], none, false, false, false⟩, ⟨2, [3], [3], none, false, false, false⟩, ⟨3, [9], [3], some 9, false, false, false⟩, ⟨5, [3], [3], none, false, false, false⟩, ⟨6, [12], [3], some 12, false, false, false⟩, ⟨4, [8, 10], [], none, false, true, true⟩, ⟨7, [7, 11, 13], [], none, false, true, true⟩, ⟨8, [14], [], none, false, false, false⟩]
theorem cl69 : Callable Try.prog 69 := fun args w => Try.call69 args w
def D69_1 : List DE := [⟨0, [3], [3], some 3, false, false, false⟩, ⟨1, [1], [], none, false, false, false⟩, ⟨2, [3], [3], some 3, false, false, false⟩, ⟨3, [2], [], none, false, false, false⟩, ⟨4, [9, 10], [], none, false, true, true⟩, ⟨5, [8, 11], [], none, false, false, false⟩, ⟨6, [7, 12], [], none, true, true, true⟩, ⟨7, [13], [], none, false, false, false⟩]
theorem cl70 : Callable Try.prog 70 := fun args w => Try.call70 args w
theorem cl71 : Callable Try.prog 71 := fun args w => Try.call71 args w
theorem cl72 : Callable Try.prog 72 := fun args w => Try.call72 args w
def D72_8 : List DE := [⟨0, [0], [], none, false, false, false⟩, ⟨1, [7], [], none, false, false, false⟩, ⟨2, [0], [], none, false, false, false⟩, ⟨3, [7], [], none, false, false, false⟩, ⟨4, [45, 46], [], none, false, false, false⟩, ⟨5, [47], [], none, false, false, false⟩, ⟨6, [48], [], none, false, false, false⟩, ⟨7, [0], [], none, false, false, false⟩, ⟨8, [7], [], none, false, false, false⟩, ⟨9, [50, 51], [], none, false, false, false⟩, ⟨10, [52], [], none, false, false, false⟩, ⟨11, [53], [], none, false, false, false⟩, ⟨12, [2], [], none, false, false, false⟩, ⟨13, [54, 55], [], none, false, false, false⟩, ⟨14, [49, 56], [], none, false, false, false⟩, ⟨15, [43, 44], [], none, false, false, false⟩, ⟨16, [58, 57], [], none, false, false, false⟩]
theorem cl73 : Callable Try.prog 73 := fun args w => Try.call73 args w
theorem cl74 : Callable Try.prog 74 := fun args w => Try.call74 args w
theorem cl75 : Callable Try.prog 75 := fun args w => Try.call75 args w
theorem cl76 : Callable Try.prog 76 := fun args w => Try.call76 args w
theorem cl77 : Callable Try.prog 77 := fun args w => Try.call77 args w
theorem cl78 : Callable Try.prog 78 := fun args w => Try.call78 args w
theorem cl79 : Callable Try.prog 79 := fun args w => Try.call79 args w
def D79_8 : List DE := [⟨0, [8], [], none, false, false, false⟩, ⟨1, [23], [], none, false, false, false⟩, ⟨2, [24], [], none, false, false, false⟩, ⟨3, [5, 25], [], none, false, false, false⟩, ⟨4, [8, 25], [], none, false, false, false⟩, ⟨5, [26, 27, 25], [], none, false, false, false⟩, ⟨6, [28, 25], [], none, false, false, false⟩, ⟨7, [29, 25], [], none, false, false, false⟩, ⟨8, [7, 25], [7], none, false, false, false⟩, ⟨9, [31, 25], [7], some 31, false, false, false⟩, ⟨10, [30, 32, 25], [], none, false, true, true⟩, ⟨11, [25, 33], [], none, false, false, false⟩]
def D79_9 : List DE := [⟨0, [5], [], none, false, false, false⟩, ⟨1, [8], [], none, false, false, false⟩, ⟨2, [35, 36], [], none, false, false, false⟩, ⟨3, [37], [], none, false, false, false⟩, ⟨4, [38], [], none, false, false, false⟩, ⟨5, [7], [7], none, false, false, false⟩, ⟨6, [40], [7], some 40, false, false, false⟩, ⟨7, [39, 41], [], none, false, false, false⟩, ⟨8, [35, 36], [], none, false, false, false⟩, ⟨9, [43], [], none, false, false, false⟩, ⟨10, [44, 42], [], none, false, false, false⟩]
def D79_10 : List DE := [⟨0, [5], [], none, false, false, false⟩, ⟨1, [7], [7], none, false, false, false⟩, ⟨2, [46], [7], some 46, false, false, false⟩, ⟨4, [7], [7], none, false, false, false⟩, ⟨5, [49], [7], some 49, false, false, false⟩, ⟨3, [47], [], none, false, true, true⟩, ⟨6, [48, 50], [], none, false, false, false⟩, ⟨7, [51], [], none, false, false, false⟩, ⟨8, [45, 52], [], none, true, false, false⟩, ⟨9, [53], [], none, false, false, false⟩]
theorem cl80 : Callable Try.prog 80 := fun args w => Try.call80 args w
theorem cl81 : Callable Try.prog 81 := fun args w => Try.call81 args w
theorem cl82 : Callable Try.prog 82 := fun args w => Try.call82 args w
theorem cl83 : Callable Try.prog 83 := fun args w => Try.call83 args w
theorem cl84 : Callable Try.prog 84 := fun args w => Try.call84 args w
def D84_6 : List DE := [⟨0, [0], [], none, false, false, false⟩, ⟨1, [5], [], none, false, false, false⟩, ⟨2, [15, 16], [], none, false, false, false⟩, ⟨3, [17], [], none, false, false, false⟩, ⟨4, [1], [], none, false, false, false⟩, ⟨5, [5], [], none, false, false, false⟩, ⟨6, [19, 20], [], none, false, false, false⟩, ⟨7, [21], [], none, false, false, false⟩, ⟨8, [18, 22], [], none, false, false, false⟩]
def D84_7 : List DE := [⟨0, [0], [], none, false, false, false⟩, ⟨1, [5], [], none, false, false, false⟩, ⟨2, [24, 25], [], none, false, false, false⟩, ⟨3, [26], [], none, false, false, false⟩, ⟨4, [1], [], none, false, false, false⟩, ⟨5, [5], [], none, false, false, false⟩, ⟨6, [28, 29], [], none, false, false, false⟩, ⟨7, [30], [], none, false, false, false⟩, ⟨8, [27, 31], [], none, false, false, false⟩, ⟨9, [32], [], none, false, false, false⟩]
theorem cl85 : Callable Try.prog 85 := fun args w => Try.call85 args w
theorem cl86 : Callable Try.prog 86 := fun args w => Try.call86 args w
def D86_6 : List DE := [⟨0, [0], [], none, false, false, false⟩, ⟨1, [5], [], none, false, false, false⟩, ⟨2, [16, 17], [], none, false, false, false⟩, ⟨3, [18], [], none, false, false, false⟩, ⟨4, [1], [], none, false, false, false⟩, ⟨5, [5], [], none, false, false, false⟩, ⟨6, [20, 21], [], none, false, false, false⟩, ⟨7, [22], [], none, false, false, false⟩, ⟨8, [19, 23], [], none, false, false, false⟩]
theorem cl87 : Callable Try.prog 87 := fun args w => Try.call87 args w
theorem cl88 : Callable Try.prog 88 := fun args w => Try.call88 args w
theorem cl89 : Callable Try.prog 89 := fun args w => Try.call89 args w
theorem cl90 : Callable Try.prog 90 := fun args w => Try.call90 args w
theorem cl91 : Callable Try.prog 91 := fun args w => Try.call91 args w
theorem cl92 : Callable Try.prog 92 := fun args w => Try.call92 args w
theorem cl93 : Callable Try.prog 93 := fun args w => Try.call93 args w
theorem cl94 : Callable Try.prog 94 := fun args w => Try.call94 args w
theorem cl95 : Callable Try.prog 95 := fun args w => Try.call95 args w
theorem cl96 : Callable Try.prog 96 := fun args w => Try.call96 args w
theorem cl97 : Callable Try.prog 97 := fun args w => Try.call97 args w
theorem cl98 : Callable Try.prog 98 := fun args w => Try.call98 args w
theorem cl99 : Callable Try.prog 99 := fun args w => Try.call99 args w
theorem cl100 : Callable Try.prog 100 := fun args w => Try.call100 args w
theorem cl101 : Callable Try.prog 101 := fun args w => Try.call101 args w
def D101_5 : List DE := [⟨0, [7], [], none, false, false, false⟩, ⟨1, [2], [], none, false, false, false⟩, ⟨2, [16, 17], [], none, false, false, false⟩, ⟨3, [0], [], none, false, false, false⟩, ⟨4, [18, 19], [], none, false, false, false⟩, ⟨5, [1], [], none, false, false, false⟩, ⟨6, [8], [], none, false, false, false⟩, ⟨7, [21, 22], [], none, false, false, false⟩, ⟨8, [23], [], none, false, false, false⟩, ⟨9, [20, 24], [], none, false, false, false⟩, ⟨10, [0], [], none, false, false, false⟩, ⟨11, [25, 26], [], none, false, false, false⟩, ⟨12, [27], [], none, false, false, false⟩]
theorem cl102 : Callable Try.prog 102 := fun args w => Try.call102 args w
theorem cl103 : Callable Try.prog 103 := fun args w => Try.call103 args w
theorem cl104 : Callable Try.prog 104 := fun args w => Try.call104 args w
theorem cl105 : Callable Try.prog 105 := fun args w => Try.call105 args w
theorem cl106 : Callable Try.prog 106 := fun args w => Try.call106 args w
theorem cl107 : Callable Try.prog 107 := fun args w => Try.call107 args w
theorem cl108 : Callable Try.prog 108 := fun args w => Try.call108 args w
theorem cl109 : Callable Try.prog 109 := fun args w => Try.call109 args w
theorem cl110 : Callable Try.prog 110 := fun args w => Try.call110 args w
def D110_6 : List DE := [⟨0, [0], [], none, false, false, false⟩, ⟨1, [5], [], none, false, false, false⟩, ⟨2, [16, 17], [], none, false, false, false⟩, ⟨3, [18], [], none, false, false, false⟩, ⟨4, [1], [], none, false, false, false⟩, ⟨5, [5], [], none, false, false, false⟩, ⟨6, [20, 21], [], none, false, false, false⟩, ⟨7, [22], [], none, false, false, false⟩, ⟨8, [19, 23], [], none, false, false, false⟩]
theorem cl111 : Callable Try.prog 111 := fun args w => Try.call111 args w
theorem cl112 : Callable Try.prog 112 := fun args w => Try.call112 args w
theorem cl113 : Callable Try.prog 113 := fun args w => Try.call113 args w
theorem cl114 : Callable Try.prog 114 := fun args w => Try.call114 args w
theorem cl115 : Callable Try.prog 115 := fun args w => Try.call115 args w
theorem cl116 : Callable Try.prog 116 := fun args w => Try.call116 args w
def D116_5 : List DE := [⟨0, [0], [], none, false, false, false⟩, ⟨1, [1], [], none, false, false, false⟩, ⟨2, [20, 21], [], none, false, false, false⟩, ⟨3, [0], [], none, false, false, false⟩, ⟨4, [2], [], none, false, false, false⟩, ⟨5, [23, 24], [], none, false, false, false⟩, ⟨6, [22, 25], [], none, false, false, false⟩, ⟨7, [26], [], none, false, false, false⟩]
theorem cl117 : Callable Try.prog 117 := fun args w => Try.call117 args w
theorem cl118 : Callable Try.prog 118 := fun args w => Try.call118 args w
def D118_10 : List DE := [⟨0, [7], [], none, false, false, false⟩, ⟨1, [8], [], none, false, false, false⟩, ⟨2, [10], [], none, false, false, false⟩, ⟨3, [42, 43], [], none, false, false, false⟩, ⟨4, [7], [], none, false, false, false⟩, ⟨5, [8], [], none, false, false, false⟩, ⟨6, [10], [], none, false, false, false⟩, ⟨7, [46, 47], [], none, false, false, false⟩, ⟨8, [45, 48], [], none, false, false, false⟩, ⟨9, [49], [], none, false, false, false⟩, ⟨10, [9], [], none, false, false, false⟩, ⟨11, [11], [], none, false, false, false⟩, ⟨12, [51, 52], [], none, false, false, false⟩, ⟨13, [0], [], none, false, false, false⟩, ⟨14, [53, 54], [], none, false, false, false⟩, ⟨15, [50, 55], [], none, false, false, false⟩, ⟨16, [0], [], none, false, false, false⟩, ⟨17, [56, 57], [], none, false, false, false⟩, ⟨18, [41, 44], [], none, false, false, false⟩, ⟨19, [59, 58], [], none, false, false, false⟩]
theorem cl119 : Callable Try.prog 119 := fun args w => Try.call119 args w
theorem cl120 : Callable Try.prog 120 := fun args w => Try.call120 args w
theorem cl121 : Callable Try.prog 121 := fun args w => Try.call121 args w
theorem cl122 : Callable Try.prog 122 := fun args w => Try.call122 args w
theorem cl123 : Callable Try.prog 123 := fun args w => Try.call123 args w
def D123_4 : List DE := [⟨0, [9], [], none, false, false, false⟩, ⟨1, [1], [], none, false, false, false⟩, ⟨2, [18, 19], [], none, false, false, false⟩, ⟨3, [20], [], none, false, false, false⟩, ⟨4, [3, 21], [], none, false, false, false⟩, ⟨5, [0, 21], [], none, false, false, false⟩, ⟨6, [9, 21], [], none, false, false, false⟩, ⟨7, [23, 24, 21], [], none, false, false, false⟩, ⟨8, [25, 21], [], none, false, false, false⟩, ⟨9, [0, 21], [], none, false, false, false⟩, ⟨10, [9, 21], [], none, false, false, false⟩, ⟨11, [28, 21], [], none, false, false, false⟩, ⟨12, [27, 29, 21], [], none, false, false, false⟩, ⟨13, [30, 21], [], none, false, false, false⟩, ⟨14, [22, 26, 31, 21], [], none, false, true, true⟩, ⟨15, [32, 21], [], none, false, false, false⟩, ⟨16, [21, 33], [], none, false, false, false⟩]
def D123_6 : List DE := [⟨0, [0], [], none, false, false, false⟩, ⟨1, [9], [], none, false, false, false⟩, ⟨2, [0], [], none, false, false, false⟩, ⟨3, [9], [], none, false, false, false⟩, ⟨4, [40], [], none, false, false, false⟩, ⟨5, [0], [], none, false, false, false⟩, ⟨6, [9], [], none, false, false, false⟩, ⟨7, [43], [], none, false, false, false⟩, ⟨8, [42, 44], [], none, false, false, false⟩, ⟨9, [45], [], none, false, false, false⟩, ⟨10, [0], [], none, false, false, false⟩, ⟨11, [9], [], none, false, false, false⟩, ⟨12, [47, 48], [], none, false, false, false⟩, ⟨13, [49], [], none, false, false, false⟩, ⟨14, [37, 38], [], none, false, false, false⟩, ⟨15, [51, 46], [], none, false, false, false⟩, ⟨16, [39, 41], [], none, false, false, false⟩, ⟨17, [52, 50], [], none, false, false, false⟩]
theorem cl124 : Callable Try.prog 124 := fun args w => Try.call124 args w
def D124_5 : List DE := [⟨0, [4], [], none, false, false, false⟩, ⟨1, [0], [], none, false, false, false⟩, ⟨2, [12], [], none, false, false, false⟩, ⟨3, [41, 42], [], none, false, false, false⟩, ⟨4, [43], [], none, false, false, false⟩, ⟨5, [0], [], none, false, false, false⟩, ⟨6, [1], [], none, false, false, false⟩, ⟨7, [45, 46], [], none, false, false, false⟩, ⟨8, [47], [], none, false, false, false⟩, ⟨9, [40, 44, 48], [], none, false, true, true⟩, ⟨10, [49], [], none, false, false, false⟩]
def D124_11 : List DE := [⟨0, [0], [], none, false, false, false⟩, ⟨1, [13], [], none, false, false, false⟩, ⟨2, [0], [], none, false, false, false⟩, ⟨3, [13], [], none, false, false, false⟩, ⟨4, [64], [], none, false, false, false⟩, ⟨5, [0], [], none, false, false, false⟩, ⟨6, [13], [], none, false, false, false⟩, ⟨7, [67], [], none, false, false, false⟩, ⟨8, [66, 68], [], none, false, false, false⟩, ⟨9, [69], [], none, false, false, false⟩, ⟨10, [0], [], none, false, false, false⟩, ⟨11, [13], [], none, false, false, false⟩, ⟨12, [71, 72], [], none, false, false, false⟩, ⟨13, [73], [], none, false, false, false⟩, ⟨14, [61, 62], [], none, false, false, false⟩, ⟨15, [75, 70], [], none, false, false, false⟩, ⟨16, [63, 65], [], none, false, false, false⟩, ⟨17, [76, 74], [], none, false, false, false⟩]
def D124_17 : List DE := [⟨0, [4], [], none, false, false, false⟩, ⟨1, [0], [], none, false, false, false⟩, ⟨2, [2], [], none, false, false, false⟩, ⟨3, [93, 94], [], none, false, false, false⟩, ⟨4, [95], [], none, false, false, false⟩, ⟨5, [0], [], none, false, false, false⟩, ⟨6, [16], [], none, false, false, false⟩, ⟨7, [97, 98], [], none, false, false, false⟩, ⟨8, [99], [], none, false, false, false⟩, ⟨9, [92, 96, 100], [], none, false, true, true⟩, ⟨10, [101], [], none, false, false, false⟩, ⟨11, [102], [], none, false, false, false⟩]
def D124_23 : List DE := [⟨0, [0], [], none, false, false, false⟩, ⟨1, [17], [], none, false, false, false⟩, ⟨2, [0], [], none, false, false, false⟩, ⟨3, [17], [], none, false, false, false⟩, ⟨4, [116], [], none, false, false, false⟩, ⟨5, [0], [], none, false, false, false⟩, ⟨6, [17], [], none, false, false, false⟩, ⟨7, [119], [], none, false, false, false⟩, ⟨8, [118, 120], [], none, false, false, false⟩, ⟨9, [121], [], none, false, false, false⟩, ⟨10, [0], [], none, false, false, false⟩, ⟨11, [17], [], none, false, false, false⟩, ⟨12, [123, 124], [], none, false, false, false⟩, ⟨13, [125], [], none, false, false, false⟩, ⟨14, [113, 114], [], none, false, false, false⟩, ⟨15, [127, 122], [], none, false, false, false⟩, ⟨16, [115, 117], [], none, false, false, false⟩, ⟨17, [128, 126], [], none, false, false, false⟩]
def D124_35 : List DE := [⟨0, [4], [], none, false, false, false⟩, ⟨1, [0], [], none, false, false, false⟩, ⟨2, [22], [], none, false, false, false⟩, ⟨3, [23], [], none, false, false, false⟩, ⟨4, [160, 161], [], none, false, false, false⟩, ⟨5, [159, 162], [], none, false, false, false⟩, ⟨6, [163], [], none, false, false, false⟩, ⟨7, [0], [], none, false, false, false⟩, ⟨8, [23], [], none, false, false, false⟩, ⟨9, [165, 166], [], none, false, false, false⟩, ⟨10, [167], [], none, false, false, false⟩, ⟨11, [158, 164, 168], [], none, false, true, true⟩, ⟨12, [169], [], none, false, false, false⟩, ⟨13, [170], [], none, false, false, false⟩]
theorem cl125 : Callable Try.prog 125 := fun args w => Try.call125 args w
theorem cl126 : Callable Try.prog 126 := fun args w => Try.call126 args w
def D126_3 : List DE := [⟨0, [0], [], none, false, false, false⟩, ⟨1, [1], [], none, false, false, false⟩, ⟨2, [10], [], none, false, false, false⟩, ⟨3, [17, 18], [], none, false, false, false⟩, ⟨4, [0], [], none, false, false, false⟩, ⟨5, [2], [], none, false, false, false⟩, ⟨6, [10], [], none, false, false, false⟩, ⟨7, [21, 22], [], none, false, false, false⟩, ⟨8, [0], [], none, false, false, false⟩, ⟨9, [2], [], none, false, false, false⟩, ⟨10, [10], [], none, false, false, false⟩, ⟨11, [25, 26], [], none, false, false, false⟩, ⟨12, [24, 27], [], none, false, false, false⟩, ⟨13, [28], [], none, false, false, false⟩, ⟨14, [0], [], none, false, false, false⟩, ⟨15, [1], [], none, false, false, false⟩, ⟨16, [10], [], none, false, false, false⟩, ⟨17, [31, 32], [], none, false, false, false⟩, ⟨18, [30, 33], [], none, false, false, false⟩, ⟨19, [34], [], none, false, false, false⟩, ⟨20, [16, 19], [], none, false, false, false⟩, ⟨21, [36, 29], [], none, false, false, false⟩, ⟨22, [20, 23], [], none, false, false, false⟩, ⟨23, [37, 35], [], none, false, false, false⟩]
end Go.Pm
