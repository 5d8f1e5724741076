import Derived.Test.YtikiohlamlipnaaGreatPmW
import Derived.Test.YtikiohlamlipnaaGreatProg
import Derived.KernelRfl
namespace Go.Pm
open Go.Am
open Go.Proofs
set_option maxRecDepth 100000
@[go_sem] theorem tk3 : tk Tryz.prog 3 = some (false, 1) := by kernel_rfl
@[go_sem] theorem zLC : ezT Tryz.prog 3 = 0 := by kernel_rfl
@[go_sem] theorem zLM : zdI Tryz.prog 3 = some .i64 := by kernel_rfl
@[go_sem] theorem zLG : zaO Tryz.prog 3 = false := by kernel_rfl
@[go_sem] theorem tk4 : tk Tryz.prog 4 = some (false, 1) := by kernel_rfl
@[go_sem] theorem zLB : ezT Tryz.prog 4 = 0 := by kernel_rfl
@[go_sem] theorem zLH : zhg Tryz.prog 4 = true := by kernel_rfl
@[go_sem] theorem tk5 : tk Tryz.prog 5 = some (false, 1) := by kernel_rfl
@[go_sem] theorem zLD : zdI Tryz.prog 5 = some .u8 := by kernel_rfl
@[go_sem] theorem zLR : ezT Tryz.prog 9 = 0 := by kernel_rfl
@[go_sem] theorem zLE : zaO Tryz.prog 9 = true := by kernel_rfl
@[go_sem] theorem zLK : tk Tryz.prog 22 = some (false, 1) := by kernel_rfl
@[go_sem] theorem zKR : ezT Tryz.prog 22 = 1 := by kernel_rfl
@[go_sem] theorem zJY : zax Tryz.prog 22 = some 5 := by kernel_rfl
@[go_sem] theorem zLw : zaO Tryz.prog 22 = false := by kernel_rfl
@[go_sem] theorem zKr : esz Tryz.prog 22 = some 1 := by kernel_rfl
@[go_sem] theorem zLN : tk Tryz.prog 24 = some (true, 3) := by kernel_rfl
@[go_sem] theorem zLL : zr Tryz.prog 24 = some [.int .i64 0, .int .i64 0, .int .i64 0] := by kernel_rfl
@[go_sem] theorem zKi : ezT Tryz.prog 24 = 0 := by kernel_rfl
@[go_sem] theorem zKj : zgO Tryz.prog 24 = some (zaH Tryz.prog 24, [.int .i64 0, .int .i64 0, .int .i64 0]) := by kernel_rfl
@[go_sem] theorem zGG : zaH Tryz.prog 24 0 = some (0, 1) := by kernel_rfl
@[go_sem] theorem zHW : zbp Tryz.prog 24 0 = 0 := by kernel_rfl
@[go_sem] theorem zGr : zaH Tryz.prog 24 1 = some (1, 1) := by kernel_rfl
@[go_sem] theorem zIe : zbp Tryz.prog 24 1 = 0 := by kernel_rfl
@[go_sem] theorem zHo : zaH Tryz.prog 24 2 = some (2, 1) := by kernel_rfl
@[go_sem] theorem zGS : zbp Tryz.prog 24 2 = 0 := by kernel_rfl
@[go_sem] theorem zKD : ezT Tryz.prog 25 = 2 := by kernel_rfl
@[go_sem] theorem zK4 : zax Tryz.prog 25 = some 36 := by kernel_rfl
@[go_sem] theorem zKw : zaO Tryz.prog 25 = false := by kernel_rfl
@[go_sem] theorem zK9 : esz Tryz.prog 25 = some 2 := by kernel_rfl
@[go_sem] theorem zLI : ez Tryz.prog 25 = some (2, 16, [.int .i64 0, .int .i64 0]) := by kernel_rfl
@[go_sem] theorem zLk {i : Nat} : zbp Tryz.prog 25 i = 0 := by kernel_rfl
@[go_sem] theorem zLU : tk Tryz.prog 29 = some (false, 1) := by kernel_rfl
@[go_sem] theorem zJW : ezT Tryz.prog 29 = 1 := by kernel_rfl
@[go_sem] theorem zJ1 : zax Tryz.prog 29 = some 3 := by kernel_rfl
@[go_sem] theorem zKf : zaO Tryz.prog 29 = false := by kernel_rfl
@[go_sem] theorem zLc : esz Tryz.prog 29 = some 1 := by kernel_rfl
@[go_sem] theorem zEm : ez Tryz.prog 29 = some (1, 8, [.int .i64 0]) := by kernel_rfl
@[go_sem] theorem zLv {i : Nat} : zbp Tryz.prog 29 i = 0 := by kernel_rfl
@[go_sem] theorem zLQ : tk Tryz.prog 36 = some (true, 2) := by kernel_rfl
@[go_sem] theorem zLP : zr Tryz.prog 36 = some [.int .i64 0, .int .i64 0] := by kernel_rfl
@[go_sem] theorem zKz : ezT Tryz.prog 36 = 0 := by kernel_rfl
@[go_sem] theorem zK3 : zgO Tryz.prog 36 = some (zaH Tryz.prog 36, [.int .i64 0, .int .i64 0]) := by kernel_rfl
@[go_sem] theorem zGe : zaH Tryz.prog 36 0 = some (0, 1) := by kernel_rfl
@[go_sem] theorem zHh : zbp Tryz.prog 36 0 = 0 := by kernel_rfl
@[go_sem] theorem zHS : zaH Tryz.prog 36 1 = some (1, 1) := by kernel_rfl
@[go_sem] theorem zHw : zbp Tryz.prog 36 1 = 0 := by kernel_rfl
@[go_sem] theorem zLS : tk Tryz.prog 38 = some (true, 3) := by kernel_rfl
@[go_sem] theorem zLz : zr Tryz.prog 38 = some [.sl true 1 [], .sl true 1 [], .sl true 1 []] := by kernel_rfl
@[go_sem] theorem zJX : ezT Tryz.prog 38 = 0 := by kernel_rfl
@[go_sem] theorem zKt : zgO Tryz.prog 38 = some (zaH Tryz.prog 38, [.sl true 1 [], .sl true 1 [], .sl true 1 []]) := by kernel_rfl
@[go_sem] theorem zIo : zaH Tryz.prog 38 0 = some (0, 1) := by kernel_rfl
@[go_sem] theorem zIf : zbp Tryz.prog 38 0 = 1 := by kernel_rfl
@[go_sem] theorem zH7 : zaH Tryz.prog 38 1 = some (1, 1) := by kernel_rfl
@[go_sem] theorem zHn : zbp Tryz.prog 38 1 = 1 := by kernel_rfl
@[go_sem] theorem zIr : zaH Tryz.prog 38 2 = some (2, 1) := by kernel_rfl
@[go_sem] theorem zGl : zbp Tryz.prog 38 2 = 1 := by kernel_rfl
@[go_sem] theorem zLe : ezT Tryz.prog 43 = 5 := by kernel_rfl
@[go_sem] theorem zKF : zax Tryz.prog 43 = some 51 := by kernel_rfl
@[go_sem] theorem zKK : zaO Tryz.prog 43 = false := by kernel_rfl
@[go_sem] theorem zLd : esz Tryz.prog 43 = some 5 := by kernel_rfl
@[go_sem] theorem zLA : ez Tryz.prog 43 = some (5, 88, [.int .i64 0, .int .i64 0, .sl false 1 [], .sl false 1 [], .sl false 1 []]) := by kernel_rfl
@[go_sem] theorem zKO {i : Nat} : zbp Tryz.prog 43 i = 0 := by kernel_rfl
@[go_sem] theorem zLJ : tk Tryz.prog 51 = some (true, 5) := by kernel_rfl
@[go_sem] theorem zLO : zr Tryz.prog 51 = some [.int .i64 0, .int .i64 0, .sl true 1 [], .sl true 1 [], .sl true 1 []] := by kernel_rfl
@[go_sem] theorem zK2 : ezT Tryz.prog 51 = 0 := by kernel_rfl
@[go_sem] theorem zLu : zgO Tryz.prog 51 = some (zaH Tryz.prog 51, [.int .i64 0, .int .i64 0, .sl true 1 [], .sl true 1 [], .sl true 1 []]) := by kernel_rfl
@[go_sem] theorem zHM : zaH Tryz.prog 51 0 = some (0, 1) := by kernel_rfl
@[go_sem] theorem zGN : zbp Tryz.prog 51 0 = 0 := by kernel_rfl
@[go_sem] theorem zGL : zaH Tryz.prog 51 1 = some (1, 1) := by kernel_rfl
@[go_sem] theorem zHy : zbp Tryz.prog 51 1 = 0 := by kernel_rfl
@[go_sem] theorem zGz : zaH Tryz.prog 51 2 = some (2, 3) := by kernel_rfl
@[go_sem] theorem zHc : zbp Tryz.prog 51 2 = 0 := by kernel_rfl
@[go_sem] theorem zLg : ezT Tryz.prog 60 = 0 := by kernel_rfl
@[go_sem] theorem zLT : tk Tryz.prog 61 = some (false, 1) := by kernel_rfl
@[go_sem] theorem zKL : ezT Tryz.prog 61 = 0 := by kernel_rfl
@[go_sem] theorem zKW : zdI Tryz.prog 61 = some .u64 := by kernel_rfl
@[go_sem] theorem zKa : zaO Tryz.prog 61 = false := by kernel_rfl
@[go_sem] theorem zLy : tk Tryz.prog 63 = some (true, 3) := by kernel_rfl
@[go_sem] theorem zJZ : ezT Tryz.prog 63 = 0 := by kernel_rfl
@[go_sem] theorem zKs : zgO Tryz.prog 63 = some (zaH Tryz.prog 63, [.sl true 1 [], .int .i64 0, .int .u64 0]) := by kernel_rfl
@[go_sem] theorem zGp : zaH Tryz.prog 63 0 = some (0, 1) := by kernel_rfl
@[go_sem] theorem zHP : zbp Tryz.prog 63 0 = 1 := by kernel_rfl
@[go_sem] theorem zH8 : zaH Tryz.prog 63 1 = some (1, 1) := by kernel_rfl
@[go_sem] theorem zH2 : zaH Tryz.prog 63 2 = some (2, 1) := by kernel_rfl
@[go_sem] theorem zLF : tk Tryz.prog 65 = some (false, 1) := by kernel_rfl
@[go_sem] theorem zKd : ezT Tryz.prog 65 = 0 := by kernel_rfl
@[go_sem] theorem zKE : tk Tryz.prog 120 = some (true, 4) := by kernel_rfl
@[go_sem] theorem zKC : zr Tryz.prog 120 = some [.sl true 1 [], .int .i64 0, .sl true 1 [], .sl true 1 []] := by kernel_rfl
@[go_sem] theorem zJr : ezT Tryz.prog 120 = 0 := by kernel_rfl
@[go_sem] theorem zJx : zgO Tryz.prog 120 = some (zaH Tryz.prog 120, [.sl true 1 [], .int .i64 0, .sl true 1 [], .sl true 1 []]) := by kernel_rfl
@[go_sem] theorem zFO : zaH Tryz.prog 120 0 = some (0, 1) := by kernel_rfl
@[go_sem] theorem zFT : zbp Tryz.prog 120 0 = 1 := by kernel_rfl
@[go_sem] theorem zD8 : zaH Tryz.prog 120 1 = some (1, 1) := by kernel_rfl
@[go_sem] theorem zDA : zbp Tryz.prog 120 1 = 0 := by kernel_rfl
@[go_sem] theorem zF7 : zaH Tryz.prog 120 2 = some (2, 1) := by kernel_rfl
@[go_sem] theorem zEj : zbp Tryz.prog 120 2 = 1 := by kernel_rfl
@[go_sem] theorem zFo : zaH Tryz.prog 120 3 = some (3, 1) := by kernel_rfl
@[go_sem] theorem zDb : zbp Tryz.prog 120 3 = 1 := by kernel_rfl
@[go_sem] theorem zJq : ezT Tryz.prog 131 = 1 := by kernel_rfl
@[go_sem] theorem zJM : zax Tryz.prog 131 = some 29 := by kernel_rfl
@[go_sem] theorem zIN : zaO Tryz.prog 131 = false := by kernel_rfl
@[go_sem] theorem zJQ : esz Tryz.prog 131 = some 1 := by kernel_rfl
@[go_sem] theorem zKM : ez Tryz.prog 131 = some (1, 24, [.sl false 1 []]) := by kernel_rfl
@[go_sem] theorem zJE {i : Nat} : zbp Tryz.prog 131 i = 1 := by kernel_rfl
@[go_sem] theorem zK7 : tk Tryz.prog 142 = some (true, 4) := by kernel_rfl
@[go_sem] theorem zIM : ezT Tryz.prog 142 = 0 := by kernel_rfl
@[go_sem] theorem zIW : zgO Tryz.prog 142 = some (zaH Tryz.prog 142, [.int .i64 0, .int .i64 0, .int .i64 0, .int .i64 0]) := by kernel_rfl
@[go_sem] theorem zGc : zaH Tryz.prog 142 0 = some (0, 1) := by kernel_rfl
@[go_sem] theorem zEb : zbp Tryz.prog 142 0 = 0 := by kernel_rfl
@[go_sem] theorem zCS : zaH Tryz.prog 142 1 = some (1, 1) := by kernel_rfl
@[go_sem] theorem zFb : zbp Tryz.prog 142 1 = 0 := by kernel_rfl
@[go_sem] theorem zDF : zaH Tryz.prog 142 2 = some (2, 1) := by kernel_rfl
@[go_sem] theorem zDL : zbp Tryz.prog 142 2 = 0 := by kernel_rfl
@[go_sem] theorem zCT : zaH Tryz.prog 142 3 = some (3, 1) := by kernel_rfl
@[go_sem] theorem zEu : zbp Tryz.prog 142 3 = 0 := by kernel_rfl
@[go_sem] theorem zJv : ezT Tryz.prog 158 = 2 := by kernel_rfl
@[go_sem] theorem zJu : zax Tryz.prog 158 = some 182 := by kernel_rfl
@[go_sem] theorem zJH : zaO Tryz.prog 158 = false := by kernel_rfl
@[go_sem] theorem zJt : esz Tryz.prog 158 = some 2 := by kernel_rfl
@[go_sem] theorem zKv : ez Tryz.prog 158 = some (2, 48, [.sl false 1 [], .sl false 1 []]) := by kernel_rfl
@[go_sem] theorem zIZ {i : Nat} : zbp Tryz.prog 158 i = 0 := by kernel_rfl
@[go_sem] theorem zJc : ezT Tryz.prog 180 = 4 := by kernel_rfl
@[go_sem] theorem zJp : zax Tryz.prog 180 = some 186 := by kernel_rfl
@[go_sem] theorem zJf : zaO Tryz.prog 180 = false := by kernel_rfl
@[go_sem] theorem zI7 : esz Tryz.prog 180 = some 4 := by kernel_rfl
@[go_sem] theorem zK0 : tk Tryz.prog 182 = some (true, 2) := by kernel_rfl
@[go_sem] theorem zLf : zr Tryz.prog 182 = some [.sl true 1 [], .sl true 1 []] := by kernel_rfl
@[go_sem] theorem zJn : ezT Tryz.prog 182 = 0 := by kernel_rfl
@[go_sem] theorem zIw : zgO Tryz.prog 182 = some (zaH Tryz.prog 182, [.sl true 1 [], .sl true 1 []]) := by kernel_rfl
@[go_sem] theorem zFF : zaH Tryz.prog 182 0 = some (0, 1) := by kernel_rfl
@[go_sem] theorem zFK : zbp Tryz.prog 182 0 = 1 := by kernel_rfl
@[go_sem] theorem zEU : zaH Tryz.prog 182 1 = some (1, 1) := by kernel_rfl
@[go_sem] theorem zEN : zbp Tryz.prog 182 1 = 1 := by kernel_rfl
@[go_sem] theorem zIV : ezT Tryz.prog 184 = 1 := by kernel_rfl
@[go_sem] theorem zIX : esz Tryz.prog 184 = some 1 := by kernel_rfl
@[go_sem] theorem zLa : ez Tryz.prog 184 = some (1, 1, [.bool false]) := by kernel_rfl
@[go_sem] theorem zJV : tk Tryz.prog 186 = some (true, 4) := by kernel_rfl
@[go_sem] theorem zKe : zr Tryz.prog 186 = some [.int .i64 0, .int .i64 0, .int .i64 0, .bool false] := by kernel_rfl
@[go_sem] theorem zIB : ezT Tryz.prog 186 = 0 := by kernel_rfl
@[go_sem] theorem zFl : zaH Tryz.prog 186 0 = some (0, 1) := by kernel_rfl
@[go_sem] theorem zF4 : zaH Tryz.prog 186 1 = some (1, 1) := by kernel_rfl
@[go_sem] theorem zC6 : zaH Tryz.prog 186 2 = some (2, 1) := by kernel_rfl
@[go_sem] theorem zFs : zaH Tryz.prog 186 3 = some (3, 1) := by kernel_rfl
@[go_sem] theorem zI6 : ezT Tryz.prog 201 = 0 := by kernel_rfl
@[go_sem] theorem zKU : tk Tryz.prog 203 = some (true, 2) := by kernel_rfl
@[go_sem] theorem zJl : ezT Tryz.prog 203 = 0 := by kernel_rfl
@[go_sem] theorem zJF : zgO Tryz.prog 203 = some (zaH Tryz.prog 203, [.int .i64 0, .int .i64 0]) := by kernel_rfl
@[go_sem] theorem zF6 : zaH Tryz.prog 203 0 = some (0, 1) := by kernel_rfl
@[go_sem] theorem zEh : zbp Tryz.prog 203 0 = 0 := by kernel_rfl
@[go_sem] theorem zC3 : zaH Tryz.prog 203 1 = some (1, 1) := by kernel_rfl
@[go_sem] theorem zDP : zbp Tryz.prog 203 1 = 0 := by kernel_rfl
theorem follows : Tryz.prog.follows .mixedOrders = true := by kernel_rfl
theorem cl4 : zae Tryz.prog 4 := fun args w => Tryz.call4 args w
theorem zCV : zae Tryz.prog 11 := fun args w => Tryz.call11 args w
theorem zCJ : zae Tryz.prog 14 := fun args w => Tryz.call14 args w
theorem zD1 : zae Tryz.prog 15 := fun args w => Tryz.call15 args w
theorem zD2 : zae Tryz.prog 16 := fun args w => Tryz.call16 args w
theorem zF3 : zae Tryz.prog 17 := fun args w => Tryz.call17 args w
theorem zEq : zae Tryz.prog 18 := fun args w => Tryz.call18 args w
theorem zF8 : zae Tryz.prog 19 := fun args w => Tryz.call19 args w
theorem zFz : zae Tryz.prog 20 := fun args w => Tryz.call20 args w
theorem zDB : zae Tryz.prog 21 := fun args w => Tryz.call21 args w
theorem zEk : zae Tryz.prog 22 := fun args w => Tryz.call22 args w
theorem zEX : zae Tryz.prog 23 := fun args w => Tryz.call23 args w
theorem zEF : zae Tryz.prog 24 := fun args w => Tryz.call24 args w
theorem zFq : zae Tryz.prog 25 := fun args w => Tryz.call25 args w
theorem zDU : zae Tryz.prog 26 := fun args w => Tryz.call26 args w
theorem zCU : zae Tryz.prog 27 := fun args w => Tryz.call27 args w
theorem zD6 : zae Tryz.prog 28 := fun args w => Tryz.call28 args w
theorem zFk : zae Tryz.prog 29 := fun args w => Tryz.call29 args w
theorem zC1 : zae Tryz.prog 32 := fun args w => Tryz.call32 args w
theorem zEP : zae Tryz.prog 40 := fun args w => Tryz.call40 args w
theorem zEt : zae Tryz.prog 43 := fun args w => Tryz.call43 args w
theorem zEr : zae Tryz.prog 44 := fun args w => Tryz.call44 args w
theorem zD3 : zae Tryz.prog 45 := fun args w => Tryz.call45 args w
theorem zDc : zae Tryz.prog 46 := fun args w => Tryz.call46 args w
theorem zE1 : zae Tryz.prog 47 := fun args w => Tryz.call47 args w
theorem zEB : zae Tryz.prog 48 := fun args w => Tryz.call48 args w
theorem zCQ : zae Tryz.prog 49 := fun args w => Tryz.call49 args w
theorem zCZ : zae Tryz.prog 50 := fun args w => Tryz.call50 args w
theorem zFa : zae Tryz.prog 51 := fun args w => Tryz.call51 args w
theorem zFS : zae Tryz.prog 52 := fun args w => Tryz.call52 args w
theorem zCF : zae Tryz.prog 53 := fun args w => Tryz.call53 args w
theorem zDy : zae Tryz.prog 54 := fun args w => Tryz.call54 args w
theorem zCM : zae Tryz.prog 55 := fun args w => Tryz.call55 args w
theorem zDx : zae Tryz.prog 56 := fun args w => Tryz.call56 args w
theorem zCG : zae Tryz.prog 57 := fun args w => Tryz.call57 args w
theorem zEd : zae Tryz.prog 58 := fun args w => Tryz.call58 args w
theorem zDt : zae Tryz.prog 59 := fun args w => Tryz.call59 args w
theorem zEc : zae Tryz.prog 60 := fun args w => Tryz.call60 args w
theorem zFX : zae Tryz.prog 61 := fun args w => Tryz.call61 args w
theorem zDm : zae Tryz.prog 62 := fun args w => Tryz.call62 args w
theorem zDT : zae Tryz.prog 63 := fun args w => Tryz.call63 args w
theorem zFR : zae Tryz.prog 64 := fun args w => Tryz.call64 args w
theorem zF9 : zae Tryz.prog 65 := fun args w => Tryz.call65 args w
theorem zEL : zae Tryz.prog 66 := fun args w => Tryz.call66 args w
theorem zE5 : zae Tryz.prog 67 := fun args w => Tryz.call67 args w
theorem zCH : zae Tryz.prog 68 := fun args w => Tryz.call68 args w
theorem zCI : zae Tryz.prog 69 := fun args w => Tryz.call69 args w
theorem zDu : zae Tryz.prog 70 := fun args w => Tryz.call70 args w
theorem zDC : zae Tryz.prog 71 := fun args w => Tryz.call71 args w
theorem zCL : zae Tryz.prog 72 := fun args w => Tryz.call72 args w
theorem zE8 : zae Tryz.prog 73 := fun args w => Tryz.call73 args w
theorem zDR : zae Tryz.prog 74 := fun args w => Tryz.call74 args w
theorem zD7 : zae Tryz.prog 75 := fun args w => Tryz.call75 args w
theorem zFg : zae Tryz.prog 76 := fun args w => Tryz.call76 args w
theorem zx8 : zae Tryz.prog 77 := fun args w => Tryz.call77 args w
theorem zGb : zae Tryz.prog 78 := fun args w => Tryz.call78 args w
theorem zF0 : zae Tryz.prog 79 := fun args w => Tryz.call79 args w
theorem zE7 : zae Tryz.prog 80 := fun args w => Tryz.call80 args w
theorem zFD : zae Tryz.prog 81 := fun args w => Tryz.call81 args w
theorem zE4 : zae Tryz.prog 83 := fun args w => Tryz.call83 args w
theorem zEi : zae Tryz.prog 86 := fun args w => Tryz.call86 args w
theorem zFr : zae Tryz.prog 87 := fun args w => Tryz.call87 args w
theorem zDY : zae Tryz.prog 88 := fun args w => Tryz.call88 args w
theorem zFj : zae Tryz.prog 92 := fun args w => Tryz.call92 args w
theorem zCX : zae Tryz.prog 94 := fun args w => Tryz.call94 args w
theorem zC2 : zae Tryz.prog 98 := fun args w => Tryz.call98 args w
theorem zzy : zae Tryz.prog 101 := fun args w => Tryz.call101 args w
theorem zAb : zae Tryz.prog 102 := fun args w => Tryz.call102 args w
theorem zz0 : zae Tryz.prog 103 := fun args w => Tryz.call103 args w
theorem zBl : zae Tryz.prog 104 := fun args w => Tryz.call104 args w
theorem zBD : zae Tryz.prog 105 := fun args w => Tryz.call105 args w
theorem zz4 : zae Tryz.prog 106 := fun args w => Tryz.call106 args w
theorem zBu : zae Tryz.prog 107 := fun args w => Tryz.call107 args w
theorem zzB : zae Tryz.prog 108 := fun args w => Tryz.call108 args w
theorem zAi : zae Tryz.prog 109 := fun args w => Tryz.call109 args w
theorem zAQ : zae Tryz.prog 110 := fun args w => Tryz.call110 args w
theorem zAB : zae Tryz.prog 111 := fun args w => Tryz.call111 args w
theorem zAl : zae Tryz.prog 112 := fun args w => Tryz.call112 args w
theorem zzk : zae Tryz.prog 113 := fun args w => Tryz.call113 args w
theorem zrC : zae Tryz.prog 114 := fun args w => Tryz.call114 args w
theorem zvI : zae Tryz.prog 115 := fun args w => Tryz.call115 args w
theorem zAL : zae Tryz.prog 116 := fun args w => Tryz.call116 args w
theorem zAk : zae Tryz.prog 117 := fun args w => Tryz.call117 args w
theorem zz5 : zae Tryz.prog 118 := fun args w => Tryz.call118 args w
theorem zz9 : zae Tryz.prog 119 := fun args w => Tryz.call119 args w
theorem zAq : zae Tryz.prog 120 := fun args w => Tryz.call120 args w
theorem zzh : zae Tryz.prog 121 := fun args w => Tryz.call121 args w
theorem zAf : zae Tryz.prog 122 := fun args w => Tryz.call122 args w
theorem zzE : zae Tryz.prog 123 := fun args w => Tryz.call123 args w
theorem zBm : zae Tryz.prog 124 := fun args w => Tryz.call124 args w
theorem zzl : zae Tryz.prog 125 := fun args w => Tryz.call125 args w
theorem zAt : zae Tryz.prog 126 := fun args w => Tryz.call126 args w
theorem zzG : zae Tryz.prog 127 := fun args w => Tryz.call127 args w
theorem zz6 : zae Tryz.prog 128 := fun args w => Tryz.call128 args w
theorem zBC : zae Tryz.prog 129 := fun args w => Tryz.call129 args w
theorem zBz : zae Tryz.prog 132 := fun args w => Tryz.call132 args w
theorem zzQ : zae Tryz.prog 133 := fun args w => Tryz.call133 args w
theorem zAe : zae Tryz.prog 135 := fun args w => Tryz.call135 args w
theorem zAF : zae Tryz.prog 148 := fun args w => Tryz.call148 args w
theorem zzA : zae Tryz.prog 149 := fun args w => Tryz.call149 args w
theorem zzY : zae Tryz.prog 150 := fun args w => Tryz.call150 args w
theorem zvC : zae Tryz.prog 151 := fun args w => Tryz.call151 args w
theorem zAW : zae Tryz.prog 152 := fun args w => Tryz.call152 args w
theorem zA7 : zae Tryz.prog 153 := fun args w => Tryz.call153 args w
theorem zzH : zae Tryz.prog 154 := fun args w => Tryz.call154 args w
theorem zzF : zae Tryz.prog 155 := fun args w => Tryz.call155 args w
theorem zAv : zae Tryz.prog 156 := fun args w => Tryz.call156 args w
theorem zr0 : zae Tryz.prog 157 := fun args w => Tryz.call157 args w
theorem zsl : zae Tryz.prog 158 := fun args w => Tryz.call158 args w
theorem zAs : zae Tryz.prog 159 := fun args w => Tryz.call159 args w
theorem zzs : zae Tryz.prog 160 := fun args w => Tryz.call160 args w
theorem zBh : zae Tryz.prog 161 := fun args w => Tryz.call161 args w
theorem zAr : zae Tryz.prog 162 := fun args w => Tryz.call162 args w
theorem zAN : zae Tryz.prog 163 := fun args w => Tryz.call163 args w
theorem zAI : zae Tryz.prog 164 := fun args w => Tryz.call164 args w
theorem zBw : zae Tryz.prog 165 := fun args w => Tryz.call165 args w
theorem zBy : zae Tryz.prog 166 := fun args w => Tryz.call166 args w
theorem zzZ : zae Tryz.prog 167 := fun args w => Tryz.call167 args w
theorem zBa : zae Tryz.prog 174 := fun args w => Tryz.call174 args w
theorem zzX : zae Tryz.prog 175 := fun args w => Tryz.call175 args w
theorem zzm : zae Tryz.prog 176 := fun args w => Tryz.call176 args w
theorem zAO : zae Tryz.prog 177 := fun args w => Tryz.call177 args w
theorem zAH : zae Tryz.prog 178 := fun args w => Tryz.call178 args w
theorem zrA : zae Tryz.prog 179 := fun args w => Tryz.call179 args w
theorem zzp : zae Tryz.prog 180 := fun args w => Tryz.call180 args w
theorem zAJ : zae Tryz.prog 181 := fun args w => Tryz.call181 args w
theorem zBe : zae Tryz.prog 182 := fun args w => Tryz.call182 args w
theorem zBi : zae Tryz.prog 183 := fun args w => Tryz.call183 args w
theorem zzS : zae Tryz.prog 185 := fun args w => Tryz.call185 args w
theorem zzD : zae Tryz.prog 186 := fun args w => Tryz.call186 args w
theorem zAD : zae Tryz.prog 187 := fun args w => Tryz.call187 args w
theorem zAT : zae Tryz.prog 188 := fun args w => Tryz.call188 args w
theorem zA4 : zae Tryz.prog 189 := fun args w => Tryz.call189 args w
theorem zAV : zae Tryz.prog 190 := fun args w => Tryz.call190 args w
theorem zBb : zae Tryz.prog 191 := fun args w => Tryz.call191 args w
theorem zAj : zae Tryz.prog 192 := fun args w => Tryz.call192 args w
end Go.Pm
