import Derived.Test.YtpbhnggmbnfemaaPmW
import Derived.Test.YtpbhnggmbnfemaaProg
import Derived.KernelRfl
namespace Go.Pm
open Go.Am
open Go.Proofs
set_option maxRecDepth 100000
@[go_sem] theorem tk3 : tk Try.prog 3 = some (false, 1) := by kernel_rfl
@[go_sem] theorem zr3 : zr Try.prog 3 = some [.int .i64 0] := by kernel_rfl
@[go_sem] theorem ezT3 : ezT Try.prog 3 = 0 := by kernel_rfl
@[go_sem] theorem ity3 : intTy Try.prog 3 = some .i64 := by kernel_rfl
@[go_sem] theorem tk4 : tk Try.prog 4 = some (false, 1) := by kernel_rfl
@[go_sem] theorem zr4 : zr Try.prog 4 = some [.bool false] := by kernel_rfl
@[go_sem] theorem ezT4 : ezT Try.prog 4 = 0 := by kernel_rfl
@[go_sem] theorem ibt4 : isBoolTy Try.prog 4 = true := by kernel_rfl
@[go_sem] theorem tk5 : tk Try.prog 5 = some (false, 1) := by kernel_rfl
@[go_sem] theorem zr5 : zr Try.prog 5 = some [.int .u8 0] := by kernel_rfl
@[go_sem] theorem ezT5 : ezT Try.prog 5 = 0 := by kernel_rfl
@[go_sem] theorem ity5 : intTy Try.prog 5 = some .u8 := by kernel_rfl
@[go_sem] theorem tk9 : tk Try.prog 9 = some (false, 1) := by kernel_rfl
@[go_sem] theorem zr9 : zr Try.prog 9 = some [.str ⟨#[]⟩] := by kernel_rfl
@[go_sem] theorem ezT9 : ezT Try.prog 9 = 0 := by kernel_rfl
@[go_sem] theorem ist9 : isStrTy Try.prog 9 = true := by kernel_rfl
@[go_sem] theorem tk20 : tk Try.prog 20 = some (false, 1) := by kernel_rfl
@[go_sem] theorem zr20 : zr Try.prog 20 = some [.nili] := by kernel_rfl
@[go_sem] theorem ezT20 : ezT Try.prog 20 = 0 := by kernel_rfl
@[go_sem] theorem tk23 : tk Try.prog 23 = some (true, 3) := by kernel_rfl
@[go_sem] theorem zr23 : zr Try.prog 23 = some [.int .i64 0, .int .i64 0, .int .i64 0] := by kernel_rfl
@[go_sem] theorem ezT23 : ezT Try.prog 23 = 0 := by kernel_rfl
@[go_sem] theorem bld23 : bldP Try.prog 23 = some (fldOff Try.prog 23, [.int .i64 0, .int .i64 0, .int .i64 0]) := by kernel_rfl
@[go_sem] theorem fld23_0 : fldOff Try.prog 23 0 = some (0, 1) := by kernel_rfl
@[go_sem] theorem fes23_0 : fldEs Try.prog 23 0 = 0 := by kernel_rfl
@[go_sem] theorem fld23_1 : fldOff Try.prog 23 1 = some (1, 1) := by kernel_rfl
@[go_sem] theorem fes23_1 : fldEs Try.prog 23 1 = 0 := by kernel_rfl
@[go_sem] theorem fld23_2 : fldOff Try.prog 23 2 = some (2, 1) := by kernel_rfl
@[go_sem] theorem fes23_2 : fldEs Try.prog 23 2 = 0 := by kernel_rfl
@[go_sem] theorem tk24 : tk Try.prog 24 = some (false, 1) := by kernel_rfl
@[go_sem] theorem zr24 : zr Try.prog 24 = some [.sl true 2 []] := by kernel_rfl
@[go_sem] theorem ezT24 : ezT Try.prog 24 = 2 := by kernel_rfl
@[go_sem] theorem ety24 : elemTy Try.prog 24 = some 41 := by kernel_rfl
@[go_sem] theorem ist24 : isStrTy Try.prog 24 = false := by kernel_rfl
@[go_sem] theorem esz24 : esz Try.prog 24 = some 2 := by kernel_rfl
@[go_sem] theorem ez24 : ez Try.prog 24 = some (2, 32, [.sl false 1 [], .int .i64 0]) := by kernel_rfl
@[go_sem] theorem fes24 {i : Nat} : fldEs Try.prog 24 i = 0 := by kernel_rfl
@[go_sem] theorem tk27 : tk Try.prog 27 = some (true, 3) := by kernel_rfl
@[go_sem] theorem zr27 : zr Try.prog 27 = some [.int .i64 0, .int .i64 0, .int .i64 0] := by kernel_rfl
@[go_sem] theorem ezT27 : ezT Try.prog 27 = 0 := by kernel_rfl
@[go_sem] theorem bld27 : bldP Try.prog 27 = some (fldOff Try.prog 27, [.int .i64 0, .int .i64 0, .int .i64 0]) := by kernel_rfl
@[go_sem] theorem fld27_0 : fldOff Try.prog 27 0 = some (0, 1) := by kernel_rfl
@[go_sem] theorem fes27_0 : fldEs Try.prog 27 0 = 0 := by kernel_rfl
@[go_sem] theorem fld27_1 : fldOff Try.prog 27 1 = some (1, 1) := by kernel_rfl
@[go_sem] theorem fes27_1 : fldEs Try.prog 27 1 = 0 := by kernel_rfl
@[go_sem] theorem fld27_2 : fldOff Try.prog 27 2 = some (2, 1) := by kernel_rfl
@[go_sem] theorem fes27_2 : fldEs Try.prog 27 2 = 0 := by kernel_rfl
@[go_sem] theorem tk32 : tk Try.prog 32 = some (false, 1) := by kernel_rfl
@[go_sem] theorem zr32 : zr Try.prog 32 = some [.sl true 1 []] := by kernel_rfl
@[go_sem] theorem ezT32 : ezT Try.prog 32 = 1 := by kernel_rfl
@[go_sem] theorem ety32 : elemTy Try.prog 32 = some 5 := by kernel_rfl
@[go_sem] theorem ist32 : isStrTy Try.prog 32 = false := by kernel_rfl
@[go_sem] theorem esz32 : esz Try.prog 32 = some 1 := by kernel_rfl
@[go_sem] theorem ez32 : ez Try.prog 32 = some (1, 1, [.int .u8 0]) := by kernel_rfl
@[go_sem] theorem fes32 {i : Nat} : fldEs Try.prog 32 i = 0 := by kernel_rfl
@[go_sem] theorem tk39 : tk Try.prog 39 = some (false, 1) := by kernel_rfl
@[go_sem] theorem zr39 : zr Try.prog 39 = some [.sl true 1 []] := by kernel_rfl
@[go_sem] theorem ezT39 : ezT Try.prog 39 = 1 := by kernel_rfl
@[go_sem] theorem ety39 : elemTy Try.prog 39 = some 3 := by kernel_rfl
@[go_sem] theorem ist39 : isStrTy Try.prog 39 = false := by kernel_rfl
@[go_sem] theorem esz39 : esz Try.prog 39 = some 1 := by kernel_rfl
@[go_sem] theorem ez39 : ez Try.prog 39 = some (1, 8, [.int .i64 0]) := by kernel_rfl
@[go_sem] theorem fes39 {i : Nat} : fldEs Try.prog 39 i = 0 := by kernel_rfl
@[go_sem] theorem tk41 : tk Try.prog 41 = some (true, 2) := by kernel_rfl
@[go_sem] theorem zr41 : zr Try.prog 41 = some [.sl true 1 [], .int .i64 0] := by kernel_rfl
@[go_sem] theorem ezT41 : ezT Try.prog 41 = 0 := by kernel_rfl
@[go_sem] theorem bld41 : bldP Try.prog 41 = some (fldOff Try.prog 41, [.sl true 1 [], .int .i64 0]) := by kernel_rfl
@[go_sem] theorem fld41_0 : fldOff Try.prog 41 0 = some (0, 1) := by kernel_rfl
@[go_sem] theorem fes41_0 : fldEs Try.prog 41 0 = 1 := by kernel_rfl
@[go_sem] theorem fld41_1 : fldOff Try.prog 41 1 = some (1, 1) := by kernel_rfl
@[go_sem] theorem fes41_1 : fldEs Try.prog 41 1 = 0 := by kernel_rfl
@[go_sem] theorem tk47 : tk Try.prog 47 = some (false, 1) := by kernel_rfl
@[go_sem] theorem zr47 : zr Try.prog 47 = some [.sl true 1 []] := by kernel_rfl
@[go_sem] theorem ezT47 : ezT Try.prog 47 = 1 := by kernel_rfl
@[go_sem] theorem ety47 : elemTy Try.prog 47 = some 39 := by kernel_rfl
@[go_sem] theorem ist47 : isStrTy Try.prog 47 = false := by kernel_rfl
@[go_sem] theorem esz47 : esz Try.prog 47 = some 1 := by kernel_rfl
@[go_sem] theorem ez47 : ez Try.prog 47 = some (1, 24, [.sl false 1 []]) := by kernel_rfl
@[go_sem] theorem fes47 {i : Nat} : fldEs Try.prog 47 i = 1 := by kernel_rfl
@[go_sem] theorem tk54 : tk Try.prog 54 = some (false, 1) := by kernel_rfl
@[go_sem] theorem zr54 : zr Try.prog 54 = some [.sl true 2 []] := by kernel_rfl
@[go_sem] theorem ezT54 : ezT Try.prog 54 = 2 := by kernel_rfl
@[go_sem] theorem ety54 : elemTy Try.prog 54 = some 66 := by kernel_rfl
@[go_sem] theorem ist54 : isStrTy Try.prog 54 = false := by kernel_rfl
@[go_sem] theorem esz54 : esz Try.prog 54 = some 2 := by kernel_rfl
@[go_sem] theorem ez54 : ez Try.prog 54 = some (2, 16, [.int .i64 0, .int .i64 0]) := by kernel_rfl
@[go_sem] theorem fes54 {i : Nat} : fldEs Try.prog 54 i = 0 := by kernel_rfl
@[go_sem] theorem tk66 : tk Try.prog 66 = some (true, 2) := by kernel_rfl
@[go_sem] theorem zr66 : zr Try.prog 66 = some [.int .i64 0, .int .i64 0] := by kernel_rfl
@[go_sem] theorem ezT66 : ezT Try.prog 66 = 0 := by kernel_rfl
@[go_sem] theorem bld66 : bldP Try.prog 66 = some (fldOff Try.prog 66, [.int .i64 0, .int .i64 0]) := by kernel_rfl
@[go_sem] theorem fld66_0 : fldOff Try.prog 66 0 = some (0, 1) := by kernel_rfl
@[go_sem] theorem fes66_0 : fldEs Try.prog 66 0 = 0 := by kernel_rfl
@[go_sem] theorem fld66_1 : fldOff Try.prog 66 1 = some (1, 1) := by kernel_rfl
@[go_sem] theorem fes66_1 : fldEs Try.prog 66 1 = 0 := by kernel_rfl
@[go_sem] theorem tk76 : tk Try.prog 76 = some (false, 1) := by kernel_rfl
@[go_sem] theorem zr76 : zr Try.prog 76 = some [.nilf] := by kernel_rfl
@[go_sem] theorem ezT76 : ezT Try.prog 76 = 0 := by kernel_rfl
@[go_sem] theorem tk83 : tk Try.prog 83 = some (false, 1) := by kernel_rfl
@[go_sem] theorem zr83 : zr Try.prog 83 = some [.nilp] := by kernel_rfl
@[go_sem] theorem ezT83 : ezT Try.prog 83 = 0 := by kernel_rfl
@[go_sem] theorem tk84 : tk Try.prog 84 = some (false, 1) := by kernel_rfl
@[go_sem] theorem zr84 : zr Try.prog 84 = some [.int .u64 0] := by kernel_rfl
@[go_sem] theorem ezT84 : ezT Try.prog 84 = 0 := by kernel_rfl
@[go_sem] theorem ity84 : intTy Try.prog 84 = some .u64 := by kernel_rfl
@[go_sem] theorem tk86 : tk Try.prog 86 = some (true, 3) := by kernel_rfl
@[go_sem] theorem zr86 : zr Try.prog 86 = some [.sl true 1 [], .int .i64 0, .int .u64 0] := by kernel_rfl
@[go_sem] theorem ezT86 : ezT Try.prog 86 = 0 := by kernel_rfl
@[go_sem] theorem bld86 : bldP Try.prog 86 = some (fldOff Try.prog 86, [.sl true 1 [], .int .i64 0, .int .u64 0]) := by kernel_rfl
@[go_sem] theorem fld86_0 : fldOff Try.prog 86 0 = some (0, 1) := by kernel_rfl
@[go_sem] theorem fes86_0 : fldEs Try.prog 86 0 = 1 := by kernel_rfl
@[go_sem] theorem fld86_1 : fldOff Try.prog 86 1 = some (1, 1) := by kernel_rfl
@[go_sem] theorem fes86_1 : fldEs Try.prog 86 1 = 0 := by kernel_rfl
@[go_sem] theorem fld86_2 : fldOff Try.prog 86 2 = some (2, 1) := by kernel_rfl
@[go_sem] theorem fes86_2 : fldEs Try.prog 86 2 = 0 := by kernel_rfl
@[go_sem] theorem tk109 : tk Try.prog 109 = some (false, 1) := by kernel_rfl
@[go_sem] theorem zr109 : zr Try.prog 109 = some [.nilf] := by kernel_rfl
@[go_sem] theorem ezT109 : ezT Try.prog 109 = 0 := by kernel_rfl
@[go_sem] theorem tk111 : tk Try.prog 111 = some (true, 2) := by kernel_rfl
@[go_sem] theorem zr111 : zr Try.prog 111 = some [.sl true 1 [], .sl true 1 []] := by kernel_rfl
@[go_sem] theorem ezT111 : ezT Try.prog 111 = 0 := by kernel_rfl
@[go_sem] theorem bld111 : bldP Try.prog 111 = some (fldOff Try.prog 111, [.sl true 1 [], .sl true 1 []]) := by kernel_rfl
@[go_sem] theorem fld111_0 : fldOff Try.prog 111 0 = some (0, 1) := by kernel_rfl
@[go_sem] theorem fes111_0 : fldEs Try.prog 111 0 = 1 := by kernel_rfl
@[go_sem] theorem fld111_1 : fldOff Try.prog 111 1 = some (1, 1) := by kernel_rfl
@[go_sem] theorem fes111_1 : fldEs Try.prog 111 1 = 1 := by kernel_rfl
@[go_sem] theorem tk123 : tk Try.prog 123 = some (false, 1) := by kernel_rfl
@[go_sem] theorem zr123 : zr Try.prog 123 = some [.nilf] := by kernel_rfl
@[go_sem] theorem ezT123 : ezT Try.prog 123 = 0 := by kernel_rfl
@[go_sem] theorem tk126 : tk Try.prog 126 = some (false, 1) := by kernel_rfl
@[go_sem] theorem zr126 : zr Try.prog 126 = some [.nilf] := by kernel_rfl
@[go_sem] theorem ezT126 : ezT Try.prog 126 = 0 := by kernel_rfl
@[go_sem] theorem tk127 : tk Try.prog 127 = some (false, 1) := by kernel_rfl
@[go_sem] theorem zr127 : zr Try.prog 127 = some [.sl true 1 []] := by kernel_rfl
@[go_sem] theorem ezT127 : ezT Try.prog 127 = 1 := by kernel_rfl
@[go_sem] theorem ety127 : elemTy Try.prog 127 = some 24 := by kernel_rfl
@[go_sem] theorem ist127 : isStrTy Try.prog 127 = false := by kernel_rfl
@[go_sem] theorem esz127 : esz Try.prog 127 = some 1 := by kernel_rfl
@[go_sem] theorem ez127 : ez Try.prog 127 = some (1, 24, [.sl false 2 []]) := by kernel_rfl
@[go_sem] theorem fes127 {i : Nat} : fldEs Try.prog 127 i = 2 := by kernel_rfl
@[go_sem] theorem tk139 : tk Try.prog 139 = some (false, 1) := by kernel_rfl
@[go_sem] theorem zr139 : zr Try.prog 139 = some [.int .u64 0] := by kernel_rfl
@[go_sem] theorem ezT139 : ezT Try.prog 139 = 0 := by kernel_rfl
@[go_sem] theorem ity139 : intTy Try.prog 139 = some .u64 := by kernel_rfl
theorem follows : Try.prog.follows .mixedOrders = true := by kernel_rfl
theorem cl9 : Callable Try.prog 9 := fun args w => Try.call9 args w
def D9_14 : List DE := [⟨0, [16], [], none, false, false, false⟩, ⟨1, [20], [], none, false, false, false⟩, ⟨2, [103, 104], [], none, false, false, false⟩, ⟨3, [105], [], none, false, false, false⟩, ⟨4, [106], [], none, false, false, false⟩, ⟨5, [18], [], none, false, false, false⟩, ⟨6, [20], [], none, false, false, false⟩, ⟨7, [108, 109], [], none, false, false, false⟩, ⟨8, [110], [], none, false, false, false⟩, ⟨9, [111], [], none, false, false, false⟩, ⟨10, [107, 112], [], none, false, true, true⟩, ⟨11, [113], [], none, false, false, false⟩, ⟨12, [114], [], none, false, false, false⟩, ⟨13, [16, 115], [], none, false, false, false⟩, ⟨14, [20, 115], [], none, false, false, false⟩, ⟨15, [116, 117, 115], [], none, false, false, false⟩, ⟨16, [118, 115], [], none, false, false, false⟩, ⟨17, [119, 115], [], none, false, false, false⟩, ⟨18, [18, 115], [], none, false, false, false⟩, ⟨19, [20, 115], [], none, false, false, false⟩, ⟨20, [121, 122, 115], [], none, false, false, false⟩, ⟨21, [123, 115], [], none, false, false, false⟩, ⟨22, [124, 115], [], none, false, false, false⟩, ⟨23, [120, 125, 115], [], none, false, false, false⟩, ⟨24, [115, 126], [], none, false, false, false⟩]
def D9_18 : List DE := [⟨0, [12], [12], some 12, false, false, false⟩, ⟨1, [13], [], none, false, false, false⟩, ⟨2, [14], [], none, false, false, false⟩, ⟨3, [139], [], none, false, false, false⟩, ⟨4, [12], [12], none, false, false, false⟩, ⟨5, [141], [12], some 141, false, false, false⟩, ⟨6, [140, 142], [], none, false, false, false⟩, ⟨7, [15], [], none, false, false, false⟩, ⟨8, [137, 138, 143, 144], [], none, false, true, true⟩, ⟨9, [145], [], none, false, false, false⟩, ⟨10, [136], [], none, false, false, false⟩, ⟨11, [136], [], none, false, false, false⟩, ⟨12, [146], [], none, false, false, false⟩, ⟨13, [147], [], none, false, false, false⟩]
theorem cl19 : Callable Try.prog 19 := fun args w => Try.call19 args w
def D19_7 : List DE := [⟨0, [11], [11], none, false, false, false⟩, ⟨1, [45], [11], some 45, false, false, false⟩, ⟨2, [8], [], none, false, false, false⟩, ⟨3, [46, 47], [], none, false, false, false⟩, ⟨4, [1], [], none, false, false, false⟩, ⟨5, [11], [11], none, false, false, false⟩, ⟨6, [50], [11], some 50, false, false, false⟩, ⟨8, [7], [], none, false, false, false⟩, ⟨7, [49, 51], [], none, false, true, true⟩, ⟨9, [52, 53], [], none, false, false, false⟩, ⟨10, [48, 54], [], none, false, false, false⟩, ⟨11, [55], [], none, false, false, false⟩]
theorem cl24 : Callable Try.prog 24 := fun args w => Try.call24 args w
def D24_6 : List DE := [⟨0, [0], [], none, false, false, false⟩, ⟨1, [5], [], none, false, false, false⟩, ⟨2, [16, 17], [], none, false, false, false⟩, ⟨3, [18], [], none, false, false, false⟩, ⟨4, [1], [], none, false, false, false⟩, ⟨5, [5], [], none, false, false, false⟩, ⟨6, [20, 21], [], none, false, false, false⟩, ⟨7, [22], [], none, false, false, false⟩, ⟨8, [19, 23], [], none, false, false, false⟩]
theorem cl25 : Callable Try.prog 25 := fun args w => Try.call25 args w
def D25_8 : List DE := [⟨0, [10], [], none, false, false, false⟩, ⟨1, [4], [4], none, false, false, false⟩, ⟨2, [52], [4], some 52, false, false, false⟩, ⟨3, [2], [], none, false, false, false⟩, ⟨4, [54], [], none, false, false, false⟩, ⟨5, [11], [], none, false, false, false⟩, ⟨7, [3], [], none, false, false, false⟩, ⟨6, [55, 56], [], none, true, false, false⟩, ⟨8, [53, 57, 58], [], none, false, true, true⟩, ⟨9, [51, 59], [], none, false, true, true⟩, ⟨10, [60], [], none, false, false, false⟩]
theorem cl27 : Callable Try.prog 27 := fun args w => Try.call27 args w
theorem cl44 : Callable Try.prog 44 := fun args w => Try.call44 args w
def D44_5 : List DE := [⟨0, [6], [6], some 6, false, false, false⟩, ⟨1, [7], [], none, false, false, false⟩, ⟨2, [8], [8], none, false, false, false⟩, ⟨3, [22], [8], some 22, false, false, false⟩, ⟨4, [5], [], none, false, false, false⟩, ⟨5, [8], [8], none, false, false, false⟩, ⟨6, [25], [8], some 25, false, false, false⟩, ⟨7, [26], [], none, false, false, false⟩, ⟨8, [27], [], none, false, false, false⟩, ⟨9, [24, 28], [], none, false, true, true⟩, ⟨10, [23, 29], [], none, false, false, false⟩, ⟨11, [2, 20], [2], some 2, false, false, false⟩, ⟨12, [21], [], none, false, false, false⟩, ⟨13, [30], [], none, false, false, false⟩]
theorem cl45 : Callable Try.prog 45 := fun args w => Try.call45 args w
theorem cl46 : Callable Try.prog 46 := fun args w => Try.call46 args w
theorem cl47 : Callable Try.prog 47 := fun args w => Try.call47 args w
def D47_10 : List DE := [⟨0, [7], [7], some 7, false, false, false⟩, ⟨1, [6], [], none, false, false, false⟩, ⟨2, [], [], none, false, false, false⟩, ⟨4, [6], [], none, false, false, false⟩, ⟨5, [7], [7], some 7, false, false, false⟩, ⟨7, [9], [], none, false, false, false⟩, ⟨3, [37, 38], [], none, true, true, true⟩, ⟨6, [40, 41], [], none, false, true, true⟩, ⟨8, [2, 36], [2], some 2, false, false, false⟩, ⟨9, [39], [], none, false, false, false⟩, ⟨10, [42], [], none, false, false, false⟩, ⟨11, [43], [], none, false, false, false⟩]
theorem cl48 : Callable Try.prog 48 := fun args w => Try.call48 args w
theorem cl50 : Callable Try.prog 50 := fun args w => Try.call50 args w
theorem cl51 : Callable Try.prog 51 := fun args w => Try.call51 args w
def D51_8 : List DE := [⟨0, [0], [], none, false, false, false⟩, ⟨1, [7], [], none, false, false, false⟩, ⟨2, [0], [], none, false, false, false⟩, ⟨3, [7], [], none, false, false, false⟩, ⟨4, [45, 46], [], none, false, false, false⟩, ⟨5, [47], [], none, false, false, false⟩, ⟨6, [48], [], none, false, false, false⟩, ⟨7, [0], [], none, false, false, false⟩, ⟨8, [7], [], none, false, false, false⟩, ⟨9, [50, 51], [], none, false, false, false⟩, ⟨10, [52], [], none, false, false, false⟩, ⟨11, [53], [], none, false, false, false⟩, ⟨12, [2], [], none, false, false, false⟩, ⟨13, [54, 55], [], none, false, false, false⟩, ⟨14, [49, 56], [], none, false, false, false⟩, ⟨15, [43, 44], [], none, false, false, false⟩, ⟨16, [58, 57], [], none, false, false, false⟩]
theorem cl53 : Callable Try.prog 53 := fun args w => Try.call53 args w
theorem cl55 : Callable Try.prog 55 := fun args w => Try.call55 args w
theorem cl58 : Callable Try.prog 58 := fun args w => Try.call58 args w
theorem cl65 : Callable Try.prog 65 := fun args w => Try.call65 args w
theorem cl66 : Callable Try.prog 66 := fun args w => Try.call66 args w
def D66_7 : List DE := [⟨0, [5], [5], none, false, false, false⟩, ⟨1, [16], [5], some 16, false, false, false⟩, ⟨2, [17], [], none, false, false, false⟩, ⟨3, [18], [], none, false, false, false⟩, ⟨4, [19], [], none, false, false, false⟩, ⟨5, [5, 20], [5], none, false, false, false⟩, ⟨6, [21, 20], [5], some 21, false, false, false⟩, ⟨7, [3, 20], [], none, false, false, false⟩, ⟨8, [23, 20], [], none, false, false, false⟩, ⟨9, [22, 24, 20], [], none, false, true, true⟩, ⟨10, [25, 20], [], none, false, false, false⟩, ⟨11, [20, 26], [], none, false, false, false⟩, ⟨12, [27], [], none, false, false, false⟩, ⟨13, [4, 28], [], none, false, false, false⟩, ⟨14, [29, 28], [], none, false, false, false⟩, ⟨15, [30, 28], [], none, false, false, false⟩, ⟨16, [0, 31], [], none, false, false, false⟩, ⟨17, [4, 31], [], none, false, false, false⟩, ⟨18, [33, 31], [], none, false, false, false⟩, ⟨19, [32, 34, 31], [], none, false, false, false⟩, ⟨20, [35, 31], [], none, false, false, false⟩, ⟨21, [36, 31], [], none, false, false, false⟩, ⟨22, [5, 31], [5], none, false, false, false⟩, ⟨23, [38, 31], [5], some 38, false, false, false⟩, ⟨24, [37, 39, 31], [], none, false, true, true⟩, ⟨25, [40, 31], [], none, false, false, false⟩, ⟨26, [31, 41, 28], [], none, false, false, false⟩, ⟨27, [28, 42], [], none, false, false, false⟩]
theorem cl67 : Callable Try.prog 67 := fun args w => Try.call67 args w
theorem cl68 : Callable Try.prog 68 := fun args w => Try.call68 args w
theorem cl69 : Callable Try.prog 69 := fun args w => Try.call69 args w
def D69_3 : List DE := [⟨0, [7], [], none, false, false, false⟩, ⟨1, [6], [], none, false, false, false⟩, ⟨2, [7], [], none, false, false, false⟩, ⟨3, [13, 14], [], none, false, false, false⟩, ⟨4, [12], [], none, false, false, false⟩, ⟨5, [15], [], none, false, false, false⟩]
def D69_4 : List DE := [⟨0, [0], [], none, false, false, false⟩, ⟨1, [6], [], none, false, false, false⟩, ⟨2, [16, 17], [], none, false, false, false⟩, ⟨3, [1], [], none, false, false, false⟩, ⟨4, [6], [], none, false, false, false⟩, ⟨5, [19, 20], [], none, false, false, false⟩, ⟨6, [18], [], none, false, false, false⟩, ⟨7, [21], [], none, false, false, false⟩]
theorem cl70 : Callable Try.prog 70 := fun args w => Try.call70 args w
def D70_6 : List DE := [⟨0, [4], [4], none, false, false, false⟩, ⟨1, [15], [4], some 15, false, false, false⟩, ⟨2, [16], [], none, false, true, true⟩, ⟨3, [17], [], none, false, false, false⟩, ⟨4, [18], [], none, false, false, false⟩, ⟨5, [4, 19], [4], none, false, false, false⟩, ⟨6, [20, 19], [4], some 20, false, false, false⟩, ⟨7, [21, 19], [], none, false, false, false⟩, ⟨8, [22, 19], [], none, false, false, false⟩, ⟨9, [19, 23], [], none, false, false, false⟩, ⟨10, [24], [], none, false, false, false⟩, ⟨11, [3, 25], [], none, false, false, false⟩, ⟨12, [26, 25], [], none, false, false, false⟩, ⟨13, [27, 25], [], none, false, false, false⟩, ⟨14, [0, 28], [], none, false, false, false⟩, ⟨15, [3, 28], [], none, false, false, false⟩, ⟨16, [30, 28], [], none, false, false, false⟩, ⟨17, [29, 31, 28], [], none, false, false, false⟩, ⟨18, [32, 28], [], none, false, false, false⟩, ⟨19, [33, 28], [], none, false, false, false⟩, ⟨20, [4, 28], [4], none, false, false, false⟩, ⟨21, [35, 28], [4], some 35, false, false, false⟩, ⟨22, [34, 36, 28], [], none, false, true, true⟩, ⟨23, [37, 28], [], none, false, false, false⟩, ⟨24, [28, 38, 25], [], none, false, false, false⟩, ⟨25, [25, 39], [], none, false, false, false⟩]
theorem cl71 : Callable Try.prog 71 := fun args w => Try.call71 args w
theorem cl75 : Callable Try.prog 75 := fun args w => Try.call75 args w
def D75_8 : List DE := [⟨0, [8], [], none, false, false, false⟩, ⟨1, [23], [], none, false, false, false⟩, ⟨2, [24], [], none, false, false, false⟩, ⟨3, [5, 25], [], none, false, false, false⟩, ⟨4, [8, 25], [], none, false, false, false⟩, ⟨5, [26, 27, 25], [], none, false, false, false⟩, ⟨6, [28, 25], [], none, false, false, false⟩, ⟨7, [29, 25], [], none, false, false, false⟩, ⟨8, [7, 25], [7], none, false, false, false⟩, ⟨9, [31, 25], [7], some 31, false, false, false⟩, ⟨10, [30, 32, 25], [], none, false, true, true⟩, ⟨11, [25, 33], [], none, false, false, false⟩]
def D75_9 : List DE := [⟨0, [5], [], none, false, false, false⟩, ⟨1, [8], [], none, false, false, false⟩, ⟨2, [35, 36], [], none, false, false, false⟩, ⟨3, [37], [], none, false, false, false⟩, ⟨4, [38], [], none, false, false, false⟩, ⟨5, [7], [7], none, false, false, false⟩, ⟨6, [40], [7], some 40, false, false, false⟩, ⟨7, [39, 41], [], none, false, false, false⟩, ⟨8, [35, 36], [], none, false, false, false⟩, ⟨9, [43], [], none, false, false, false⟩, ⟨10, [44, 42], [], none, false, false, false⟩]
def D75_10 : List DE := [⟨0, [5], [], none, false, false, false⟩, ⟨1, [7], [7], none, false, false, false⟩, ⟨2, [46], [7], some 46, false, false, false⟩, ⟨4, [7], [7], none, false, false, false⟩, ⟨5, [49], [7], some 49, false, false, false⟩, ⟨3, [47], [], none, false, true, true⟩, ⟨6, [48, 50], [], none, false, false, false⟩, ⟨7, [51], [], none, false, false, false⟩, ⟨8, [45, 52], [], none, true, false, false⟩, ⟨9, [53], [], none, false, false, false⟩]
theorem cl77 : Callable Try.prog 77 := fun args w => Try.call77 args w
theorem cl79 : Callable Try.prog 79 := fun args w => Try.call79 args w
theorem cl80 : Callable Try.prog 80 := fun args w => Try.call80 args w
theorem cl81 : Callable Try.prog 81 := fun args w => Try.call81 args w
theorem cl82 : Callable Try.prog 82 := fun args w => Try.call82 args w
theorem cl83 : Callable Try.prog 83 := fun args w => Try.call83 args w
theorem cl84 : Callable Try.prog 84 := fun args w => Try.call84 args w
theorem cl85 : Callable Try.prog 85 := fun args w => Try.call85 args w
theorem cl86 : Callable Try.prog 86 := fun args w => Try.call86 args w
def D86_5 : List DE := [⟨0, [7], [], none, false, false, false⟩, ⟨1, [2], [], none, false, false, false⟩, ⟨2, [16, 17], [], none, false, false, false⟩, ⟨3, [0], [], none, false, false, false⟩, ⟨4, [18, 19], [], none, false, false, false⟩, ⟨5, [1], [], none, false, false, false⟩, ⟨6, [8], [], none, false, false, false⟩, ⟨7, [21, 22], [], none, false, false, false⟩, ⟨8, [23], [], none, false, false, false⟩, ⟨9, [20, 24], [], none, false, false, false⟩, ⟨10, [0], [], none, false, false, false⟩, ⟨11, [25, 26], [], none, false, false, false⟩, ⟨12, [27], [], none, false, false, false⟩]
theorem cl90 : Callable Try.prog 90 := fun args w => Try.call90 args w
theorem cl92 : Callable Try.prog 92 := fun args w => Try.call92 args w
theorem cl95 : Callable Try.prog 95 := fun args w => Try.call95 args w
theorem cl96 : Callable Try.prog 96 := fun args w => Try.call96 args w
theorem cl99 : Callable Try.prog 99 := fun args w => Try.call99 args w
theorem cl100 : Callable Try.prog 100 := fun args w => Try.call100 args w
theorem cl101 : Callable Try.prog 101 := fun args w => Try.call101 args w
theorem cl103 : Callable Try.prog 103 := fun args w => Try.call103 args w
theorem cl104 : Callable Try.prog 104 := fun args w => Try.call104 args w
def D104_4 : List DE := [⟨0, [3], [3], some 3, false, false, false⟩, ⟨1, [0], [], none, false, false, false⟩, ⟨2, [3], [3], some 3, false, false, false⟩, ⟨3, [0], [], none, false, false, false⟩, ⟨4, [5], [], none, false, false, false⟩, ⟨8, [5], [], none, false, false, false⟩, ⟨5, [18, 19], [], none, false, true, true⟩, ⟨6, [20], [], none, false, false, false⟩, ⟨7, [16, 17, 21], [], none, false, true, true⟩, ⟨9, [15, 22, 23], [], none, false, true, true⟩, ⟨10, [4, 24], [4], some 4, false, false, false⟩]
theorem cl105 : Callable Try.prog 105 := fun args w => Try.call105 args w
theorem cl106 : Callable Try.prog 106 := fun args w => Try.call106 args w
theorem cl107 : Callable Try.prog 107 := fun args w => Try.call107 args w
theorem cl108 : Callable Try.prog 108 := fun args w => Try.call108 args w
theorem cl109 : Callable Try.prog 109 := fun args w => Try.call109 args w
theorem cl110 : Callable Try.prog 110 := fun args w => Try.call110 args w
theorem cl111 : Callable Try.prog 111 := fun args w => Try.call111 args w
theorem cl112 : Callable Try.prog 112 := fun args w => Try.call112 args w
def D112_6 : List DE := [⟨0, [0], [], none, false, false, false⟩, ⟨1, [5], [], none, false, false, false⟩, ⟨2, [15, 16], [], none, false, false, false⟩, ⟨3, [17], [], none, false, false, false⟩, ⟨4, [1], [], none, false, false, false⟩, ⟨5, [5], [], none, false, false, false⟩, ⟨6, [19, 20], [], none, false, false, false⟩, ⟨7, [21], [], none, false, false, false⟩, ⟨8, [18, 22], [], none, false, false, false⟩]
def D112_7 : List DE := [⟨0, [0], [], none, false, false, false⟩, ⟨1, [5], [], none, false, false, false⟩, ⟨2, [24, 25], [], none, false, false, false⟩, ⟨3, [26], [], none, false, false, false⟩, ⟨4, [1], [], none, false, false, false⟩, ⟨5, [5], [], none, false, false, false⟩, ⟨6, [28, 29], [], none, false, false, false⟩, ⟨7, [30], [], none, false, false, false⟩, ⟨8, [27, 31], [], none, false, false, false⟩, ⟨9, [32], [], none, false, false, false⟩]
theorem cl113 : Callable Try.prog 113 := fun args w => Try.call113 args w
def D113_6 : List DE := [⟨0, [0], [], none, false, false, false⟩, ⟨1, [5], [], none, false, false, false⟩, ⟨2, [16, 17], [], none, false, false, false⟩, ⟨3, [18], [], none, false, false, false⟩, ⟨4, [1], [], none, false, false, false⟩, ⟨5, [5], [], none, false, false, false⟩, ⟨6, [20, 21], [], none, false, false, false⟩, ⟨7, [22], [], none, false, false, false⟩, ⟨8, [19, 23], [], none, false, false, false⟩]
theorem cl114 : Callable Try.prog 114 := fun args w => Try.call114 args w
theorem cl116 : Callable Try.prog 116 := fun args w => Try.call116 args w
def D116_1 : List DE := [⟨0, [1], [], none, false, false, false⟩, ⟨1, [2], [], none, false, false, false⟩, ⟨2, [3], [3], none, false, false, false⟩, ⟨3, [9], [3], some 9, false, false, false⟩, ⟨5, [3], [3], none, false, false, false⟩, ⟨6, [12], [3], some 12, false, false, false⟩, ⟨4, [8, 10], [], none, false, true, true⟩, ⟨7, [7, 11, 13], [], none, false, true, true⟩, ⟨8, [14], [], none, false, false, false⟩]
theorem cl117 : Callable Try.prog 117 := fun args w => Try.call117 args w
theorem cl119 : Callable Try.prog 119 := fun args w => Try.call119 args w
theorem cl120 : Callable Try.prog 120 := fun args w => Try.call120 args w
theorem cl121 : Callable Try.prog 121 := fun args w => Try.call121 args w
theorem cl122 : Callable Try.prog 122 := fun args w => Try.call122 args w
theorem cl123 : Callable Try.prog 123 := fun args w => Try.call123 args w
theorem cl124 : Callable Try.prog 124 := fun args w => Try.call124 args w
theorem cl125 : Callable Try.prog 125 := fun args w => Try.call125 args w
theorem cl126 : Callable Try.prog 126 := fun args w => Try.call126 args w
def D126_6 : List DE := [⟨0, [0], [], none, false, false, false⟩, ⟨1, [5], [], none, false, false, false⟩, ⟨2, [16, 17], [], none, false, false, false⟩, ⟨3, [18], [], none, false, false, false⟩, ⟨4, [1], [], none, false, false, false⟩, ⟨5, [5], [], none, false, false, false⟩, ⟨6, [20, 21], [], none, false, false, false⟩, ⟨7, [22], [], none, false, false, false⟩, ⟨8, [19, 23], [], none, false, false, false⟩]
theorem cl127 : Callable Try.prog 127 := fun args w => Try.call127 args w
theorem cl129 : Callable Try.prog 129 := fun args w => Try.call129 args w
theorem cl130 : Callable Try.prog 130 := fun args w => Try.call130 args w
theorem cl131 : Callable Try.prog 131 := fun args w => Try.call131 args w
theorem cl132 : Callable Try.prog 132 := fun args w => Try.call132 args w
theorem cl133 : Callable Try.prog 133 := fun args w => Try.call133 args w
theorem cl135 : Callable Try.prog 135 := fun args w => Try.call135 args w
def D135_3 : List DE := [⟨0, [0], [], none, false, false, false⟩, ⟨3, [0], [], none, false, false, false⟩, ⟨6, [3], [3], none, false, false, false⟩, ⟨7, [14], [3], some 14, false, false, false⟩, ⟨1, [8], [], none, false, true, true⟩, ⟨2, [9], [], none, false, false, false⟩, ⟨4, [11], [], none, false, true, true⟩, ⟨5, [10, 12], [], none, false, false, false⟩, ⟨8, [13, 15], [], none, false, false, false⟩, ⟨9, [16], [], none, false, false, false⟩]
theorem cl143 : Callable Try.prog 143 := fun args w => Try.call143 args w
theorem cl144 : Callable Try.prog 144 := fun args w => Try.call144 args w
def D144_5 : List DE := [⟨0, [7], [7], none, false, false, false⟩, ⟨1, [17], [7], some 17, false, false, false⟩, ⟨2, [3], [3], some 3, false, false, false⟩, ⟨3, [3], [3], none, false, false, false⟩, ⟨4, [20], [3], some 20, false, false, false⟩, ⟨5, [9], [], none, false, false, false⟩, ⟨6, [19, 21, 22], [], none, false, true, true⟩, ⟨7, [23], [], none, false, false, false⟩, ⟨8, [18, 24], [], none, true, false, false⟩, ⟨9, [7], [7], none, false, false, false⟩, ⟨10, [26, 25], [7], some 26, false, false, false⟩]
def D144_10 : List DE := [⟨0, [7], [7], none, false, false, false⟩, ⟨1, [33], [7], some 33, false, false, false⟩, ⟨2, [3], [3], none, false, false, false⟩, ⟨3, [35], [3], some 35, false, false, false⟩, ⟨4, [1], [], none, false, false, false⟩, ⟨5, [10], [], none, false, false, false⟩, ⟨6, [36, 37, 38], [], none, false, true, true⟩, ⟨7, [39], [], none, false, false, false⟩, ⟨8, [34, 40], [], none, true, false, false⟩, ⟨9, [7], [7], none, false, false, false⟩, ⟨10, [42, 41], [7], some 42, false, false, false⟩]
theorem cl145 : Callable Try.prog 145 := fun args w => Try.call145 args w
theorem cl146 : Callable Try.prog 146 := fun args w => Try.call146 args w
def D146_2 : List DE := [⟨0, [0], [], none, false, false, false⟩, ⟨1, [4], [], none, false, false, false⟩, ⟨2, [5], [], none, false, false, false⟩, ⟨3, [6], [], none, false, false, false⟩, ⟨4, [0], [], none, false, false, false⟩, ⟨5, [8], [], none, false, false, false⟩, ⟨6, [9], [], none, false, false, false⟩, ⟨7, [10], [], none, false, false, false⟩, ⟨8, [11], [], none, false, false, false⟩, ⟨9, [7, 12], [], none, false, false, false⟩]
def D146_3 : List DE := [⟨0, [0], [], none, false, false, false⟩, ⟨1, [14], [], none, false, false, false⟩, ⟨2, [15], [], none, false, false, false⟩, ⟨3, [16], [], none, false, false, false⟩, ⟨4, [0], [], none, false, false, false⟩, ⟨5, [18], [], none, false, false, false⟩, ⟨6, [19], [], none, false, false, false⟩, ⟨7, [20], [], none, false, false, false⟩, ⟨8, [17, 21], [], none, false, false, false⟩, ⟨9, [22], [], none, false, false, false⟩, ⟨10, [23], [], none, false, false, false⟩, ⟨11, [24], [], none, false, false, false⟩]
def D146_6 : List DE := [⟨0, [0], [], none, false, false, false⟩, ⟨1, [44], [], none, false, false, false⟩, ⟨2, [45], [], none, false, false, false⟩, ⟨3, [46], [], none, false, false, false⟩, ⟨4, [0], [], none, false, false, false⟩, ⟨5, [48], [], none, false, false, false⟩, ⟨6, [49], [], none, false, false, false⟩, ⟨7, [50], [], none, false, false, false⟩, ⟨8, [51], [], none, false, false, false⟩, ⟨9, [47, 52], [], none, false, false, false⟩]
theorem cl147 : Callable Try.prog 147 := fun args w => Try.call147 args w
theorem cl148 : Callable Try.prog 148 := fun args w => Try.call148 args w
theorem cl149 : Callable Try.prog 149 := fun args w => Try.call149 args w
theorem cl150 : Callable Try.prog 150 := fun args w => Try.call150 args w
theorem cl151 : Callable Try.prog 151 := fun args w => Try.call151 args w
theorem cl152 : Callable Try.prog 152 := fun args w => Try.call152 args w
theorem cl153 : Callable Try.prog 153 := fun args w => Try.call153 args w
theorem cl154 : Callable Try.prog 154 := fun args w => Try.call154 args w
def D154_8 : List DE := [⟨0, [5], [5], some 5, false, false, false⟩, ⟨1, [5], [5], none, false, false, false⟩, ⟨2, [24], [5], some 24, false, false, false⟩, ⟨3, [0], [], none, false, false, false⟩, ⟨4, [5], [5], none, false, false, false⟩, ⟨5, [27], [5], some 27, false, false, false⟩, ⟨6, [28], [], none, false, false, false⟩, ⟨7, [26, 29], [], none, false, true, true⟩, ⟨8, [30], [], none, false, false, false⟩, ⟨9, [23, 25, 31], [], none, false, true, true⟩, ⟨10, [5], [5], none, false, false, false⟩, ⟨11, [33, 32], [5], some 33, false, false, false⟩]
theorem cl162 : Callable Try.prog 162 := fun args w => Try.call162 args w
theorem cl163 : Callable Try.prog 163 := fun args w => Try.call163 args w
theorem cl164 : Callable Try.prog 164 := fun args w => Try.call164 args w
def D164_4 : List DE := [⟨0, [9], [], none, false, false, false⟩, ⟨1, [1], [], none, false, false, false⟩, ⟨2, [18, 19], [], none, false, false, false⟩, ⟨3, [20], [], none, false, false, false⟩, ⟨4, [3, 21], [], none, false, false, false⟩, ⟨5, [0, 21], [], none, false, false, false⟩, ⟨6, [9, 21], [], none, false, false, false⟩, ⟨7, [23, 24, 21], [], none, false, false, false⟩, ⟨8, [25, 21], [], none, false, false, false⟩, ⟨9, [0, 21], [], none, false, false, false⟩, ⟨10, [9, 21], [], none, false, false, false⟩, ⟨11, [28, 21], [], none, false, false, false⟩, ⟨12, [27, 29, 21], [], none, false, false, false⟩, ⟨13, [30, 21], [], none, false, false, false⟩, ⟨14, [22, 26, 31, 21], [], none, false, true, true⟩, ⟨15, [32, 21], [], none, false, false, false⟩, ⟨16, [21, 33], [], none, false, false, false⟩]
def D164_6 : List DE := [⟨0, [0], [], none, false, false, false⟩, ⟨1, [9], [], none, false, false, false⟩, ⟨2, [0], [], none, false, false, false⟩, ⟨3, [9], [], none, false, false, false⟩, ⟨4, [40], [], none, false, false, false⟩, ⟨5, [0], [], none, false, false, false⟩, ⟨6, [9], [], none, false, false, false⟩, ⟨7, [43], [], none, false, false, false⟩, ⟨8, [42, 44], [], none, false, false, false⟩, ⟨9, [45], [], none, false, false, false⟩, ⟨10, [0], [], none, false, false, false⟩, ⟨11, [9], [], none, false, false, false⟩, ⟨12, [47, 48], [], none, false, false, false⟩, ⟨13, [49], [], none, false, false, false⟩, ⟨14, [37, 38], [], none, false, false, false⟩, ⟨15, [51, 46], [], none, false, false, false⟩, ⟨16, [39, 41], [], none, false, false, false⟩, ⟨17, [52, 50], [], none, false, false, false⟩]
theorem cl165 : Callable Try.prog 165 := fun args w => Try.call165 args w
def D165_5 : List DE := [⟨0, [4], [], none, false, false, false⟩, ⟨1, [0], [], none, false, false, false⟩, ⟨2, [12], [], none, false, false, false⟩, ⟨3, [41, 42], [], none, false, false, false⟩, ⟨4, [43], [], none, false, false, false⟩, ⟨5, [0], [], none, false, false, false⟩, ⟨6, [1], [], none, false, false, false⟩, ⟨7, [45, 46], [], none, false, false, false⟩, ⟨8, [47], [], none, false, false, false⟩, ⟨9, [40, 44, 48], [], none, false, true, true⟩, ⟨10, [49], [], none, false, false, false⟩]
def D165_11 : List DE := [⟨0, [0], [], none, false, false, false⟩, ⟨1, [13], [], none, false, false, false⟩, ⟨2, [0], [], none, false, false, false⟩, ⟨3, [13], [], none, false, false, false⟩, ⟨4, [64], [], none, false, false, false⟩, ⟨5, [0], [], none, false, false, false⟩, ⟨6, [13], [], none, false, false, false⟩, ⟨7, [67], [], none, false, false, false⟩, ⟨8, [66, 68], [], none, false, false, false⟩, ⟨9, [69], [], none, false, false, false⟩, ⟨10, [0], [], none, false, false, false⟩, ⟨11, [13], [], none, false, false, false⟩, ⟨12, [71, 72], [], none, false, false, false⟩, ⟨13, [73], [], none, false, false, false⟩, ⟨14, [61, 62], [], none, false, false, false⟩, ⟨15, [75, 70], [], none, false, false, false⟩, ⟨16, [63, 65], [], none, false, false, false⟩, ⟨17, [76, 74], [], none, false, false, false⟩]
def D165_17 : List DE := [⟨0, [4], [], none, false, false, false⟩, ⟨1, [0], [], none, false, false, false⟩, ⟨2, [2], [], none, false, false, false⟩, ⟨3, [93, 94], [], none, false, false, false⟩, ⟨4, [95], [], none, false, false, false⟩, ⟨5, [0], [], none, false, false, false⟩, ⟨6, [16], [], none, false, false, false⟩, ⟨7, [97, 98], [], none, false, false, false⟩, ⟨8, [99], [], none, false, false, false⟩, ⟨9, [92, 96, 100], [], none, false, true, true⟩, ⟨10, [101], [], none, false, false, false⟩, ⟨11, [102], [], none, false, false, false⟩]
def D165_23 : List DE := [⟨0, [0], [], none, false, false, false⟩, ⟨1, [17], [], none, false, false, false⟩, ⟨2, [0], [], none, false, false, false⟩, ⟨3, [17], [], none, false, false, false⟩, ⟨4, [116], [], none, false, false, false⟩, ⟨5, [0], [], none, false, false, false⟩, ⟨6, [17], [], none, false, false, false⟩, ⟨7, [119], [], none, false, false, false⟩, ⟨8, [118, 120], [], none, false, false, false⟩, ⟨9, [121], [], none, false, false, false⟩, ⟨10, [0], [], none, false, false, false⟩, ⟨11, [17], [], none, false, false, false⟩, ⟨12, [123, 124], [], none, false, false, false⟩, ⟨13, [125], [], none, false, false, false⟩, ⟨14, [113, 114], [], none, false, false, false⟩, ⟨15, [127, 122], [], none, false, false, false⟩, ⟨16, [115, 117], [], none, false, false, false⟩, ⟨17, [128, 126], [], none, false, false, false⟩]
def D165_35 : List DE := [⟨0, [4], [], none, false, false, false⟩, ⟨1, [0], [], none, false, false, false⟩, ⟨2, [22], [], none, false, false, false⟩, ⟨3, [23], [], none, false, false, false⟩, ⟨4, [160, 161], [], none, false, false, false⟩, ⟨5, [159, 162], [], none, false, false, false⟩, ⟨6, [163], [], none, false, false, false⟩, ⟨7, [0], [], none, false, false, false⟩, ⟨8, [23], [], none, false, false, false⟩, ⟨9, [165, 166], [], none, false, false, false⟩, ⟨10, [167], [], none, false, false, false⟩, ⟨11, [158, 164, 168], [], none, false, true, true⟩, ⟨12, [169], [], none, false, false, false⟩, ⟨13, [170], [], none, false, false, false⟩]
theorem cl168 : Callable Try.prog 168 := fun args w => Try.call168 args w
theorem cl170 : Callable Try.prog 170 := fun args w => Try.call170 args w
def D170_3 : List DE := [⟨0, [0], [], none, false, false, false⟩, ⟨1, [1], [], none, false, false, false⟩, ⟨2, [10], [], none, false, false, false⟩, ⟨3, [17, 18], [], none, false, false, false⟩, ⟨4, [0], [], none, false, false, false⟩, ⟨5, [2], [], none, false, false, false⟩, ⟨6, [10], [], none, false, false, false⟩, ⟨7, [21, 22], [], none, false, false, false⟩, ⟨8, [0], [], none, false, false, false⟩, ⟨9, [2], [], none, false, false, false⟩, ⟨10, [10], [], none, false, false, false⟩, ⟨11, [25, 26], [], none, false, false, false⟩, ⟨12, [24, 27], [], none, false, false, false⟩, ⟨13, [28], [], none, false, false, false⟩, ⟨14, [0], [], none, false, false, false⟩, ⟨15, [1], [], none, false, false, false⟩, ⟨16, [10], [], none, false, false, false⟩, ⟨17, [31, 32], [], none, false, false, false⟩, ⟨18, [30, 33], [], none, false, false, false⟩, ⟨19, [34], [], none, false, false, false⟩, ⟨20, [16, 19], [], none, false, false, false⟩, ⟨21, [36, 29], [], none, false, false, false⟩, ⟨22, [20, 23], [], none, false, false, false⟩, ⟨23, [37, 35], [], none, false, false, false⟩]
end Go.Pm
