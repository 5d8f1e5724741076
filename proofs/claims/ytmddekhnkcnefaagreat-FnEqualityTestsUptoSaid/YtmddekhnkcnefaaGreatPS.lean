import Derived.Test.YtmddekhnkcnefaaGreatPmW
import Derived.Test.YtmddekhnkcnefaaGreatProg
import Derived.KernelRfl
namespace Go.Pm
open Go.Am
open Go.Proofs
set_option maxRecDepth 100000
@[go_sem] theorem tk3 : tk Tryz.prog 3 = some (false, 1) := by kernel_rfl
@[go_sem] theorem zNq : ezT Tryz.prog 3 = 0 := by kernel_rfl
@[go_sem] theorem zNC : zec Tryz.prog 3 = some .i64 := by kernel_rfl
@[go_sem] theorem zNy : zaO Tryz.prog 3 = false := by kernel_rfl
@[go_sem] theorem tk4 : tk Tryz.prog 4 = some (false, 1) := by kernel_rfl
@[go_sem] theorem zNi : ezT Tryz.prog 4 = 0 := by kernel_rfl
@[go_sem] theorem zNB : ziG Tryz.prog 4 = true := by kernel_rfl
@[go_sem] theorem tk5 : tk Tryz.prog 5 = some (false, 1) := by kernel_rfl
@[go_sem] theorem zNo : zec Tryz.prog 5 = some .u8 := by kernel_rfl
@[go_sem] theorem zNA : ezT Tryz.prog 9 = 0 := by kernel_rfl
@[go_sem] theorem zNs : zaO Tryz.prog 9 = true := by kernel_rfl
@[go_sem] theorem zNI : tk Tryz.prog 22 = some (false, 1) := by kernel_rfl
@[go_sem] theorem zMC : ezT Tryz.prog 22 = 1 := by kernel_rfl
@[go_sem] theorem zMQ : zaw Tryz.prog 22 = some 5 := by kernel_rfl
@[go_sem] theorem zMa : zaO Tryz.prog 22 = false := by kernel_rfl
@[go_sem] theorem zLB : esz Tryz.prog 22 = some 1 := by kernel_rfl
@[go_sem] theorem zNx : tk Tryz.prog 24 = some (true, 3) := by kernel_rfl
@[go_sem] theorem zNh : zr Tryz.prog 24 = some [.int .i64 0, .int .i64 0, .int .i64 0] := by kernel_rfl
@[go_sem] theorem zLM : ezT Tryz.prog 24 = 0 := by kernel_rfl
@[go_sem] theorem zMI : zgR Tryz.prog 24 = some (zaE Tryz.prog 24, [.int .i64 0, .int .i64 0, .int .i64 0]) := by kernel_rfl
@[go_sem] theorem zIR : zaE Tryz.prog 24 0 = some (0, 1) := by kernel_rfl
@[go_sem] theorem zIH : zbj Tryz.prog 24 0 = 0 := by kernel_rfl
@[go_sem] theorem zHI : zaE Tryz.prog 24 1 = some (1, 1) := by kernel_rfl
@[go_sem] theorem zHD : zbj Tryz.prog 24 1 = 0 := by kernel_rfl
@[go_sem] theorem zJU : zaE Tryz.prog 24 2 = some (2, 1) := by kernel_rfl
@[go_sem] theorem zJp : zbj Tryz.prog 24 2 = 0 := by kernel_rfl
@[go_sem] theorem zNm : tk Tryz.prog 25 = some (false, 1) := by kernel_rfl
@[go_sem] theorem zLQ : ezT Tryz.prog 25 = 1 := by kernel_rfl
@[go_sem] theorem zLR : zaw Tryz.prog 25 = some 3 := by kernel_rfl
@[go_sem] theorem zMh : zaO Tryz.prog 25 = false := by kernel_rfl
@[go_sem] theorem zL7 : esz Tryz.prog 25 = some 1 := by kernel_rfl
@[go_sem] theorem zEb : ez Tryz.prog 25 = some (1, 8, [.int .i64 0]) := by kernel_rfl
@[go_sem] theorem zMA {i : Nat} : zbj Tryz.prog 25 i = 0 := by kernel_rfl
@[go_sem] theorem zNE : tk Tryz.prog 27 = some (true, 2) := by kernel_rfl
@[go_sem] theorem zNu : zr Tryz.prog 27 = some [.int .i64 0, .int .i64 0] := by kernel_rfl
@[go_sem] theorem zMH : ezT Tryz.prog 27 = 0 := by kernel_rfl
@[go_sem] theorem zM2 : zkH Tryz.prog 27 = some [0, 1] := by kernel_rfl
@[go_sem] theorem zLp : zgR Tryz.prog 27 = some (zaE Tryz.prog 27, [.int .i64 0, .int .i64 0]) := by kernel_rfl
@[go_sem] theorem zJi : zaE Tryz.prog 27 0 = some (0, 1) := by kernel_rfl
@[go_sem] theorem zIL : zbj Tryz.prog 27 0 = 0 := by kernel_rfl
@[go_sem] theorem zJf : zaE Tryz.prog 27 1 = some (1, 1) := by kernel_rfl
@[go_sem] theorem zIQ : zbj Tryz.prog 27 1 = 0 := by kernel_rfl
@[go_sem] theorem zMq : ezT Tryz.prog 28 = 6 := by kernel_rfl
@[go_sem] theorem zL0 : zaw Tryz.prog 28 = some 101 := by kernel_rfl
@[go_sem] theorem zLv : zaO Tryz.prog 28 = false := by kernel_rfl
@[go_sem] theorem zLs : esz Tryz.prog 28 = some 6 := by kernel_rfl
@[go_sem] theorem zNJ : ez Tryz.prog 28 = some (6, 96, [.int .i64 0, .int .i64 0, .int .i64 0, .sl false 1 [], .sl false 1 [], .sl false 1 []]) := by kernel_rfl
@[go_sem] theorem zLV {i : Nat} : zbj Tryz.prog 28 i = 0 := by kernel_rfl
@[go_sem] theorem zMo : ezT Tryz.prog 29 = 5 := by kernel_rfl
@[go_sem] theorem zME : zaw Tryz.prog 29 = some 65 := by kernel_rfl
@[go_sem] theorem zMF : zaO Tryz.prog 29 = false := by kernel_rfl
@[go_sem] theorem zMS : esz Tryz.prog 29 = some 5 := by kernel_rfl
@[go_sem] theorem zNt : ez Tryz.prog 29 = some (5, 88, [.int .i64 0, .int .i64 0, .sl false 1 [], .sl false 1 [], .sl false 1 []]) := by kernel_rfl
@[go_sem] theorem zLZ {i : Nat} : zbj Tryz.prog 29 i = 0 := by kernel_rfl
@[go_sem] theorem zNr : tk Tryz.prog 37 = some (true, 3) := by kernel_rfl
@[go_sem] theorem zNw : zr Tryz.prog 37 = some [.sl true 1 [], .sl true 1 [], .sl true 1 []] := by kernel_rfl
@[go_sem] theorem zLA : ezT Tryz.prog 37 = 0 := by kernel_rfl
@[go_sem] theorem zNb : zgR Tryz.prog 37 = some (zaE Tryz.prog 37, [.sl true 1 [], .sl true 1 [], .sl true 1 []]) := by kernel_rfl
@[go_sem] theorem zJQ : zaE Tryz.prog 37 0 = some (0, 1) := by kernel_rfl
@[go_sem] theorem zIy : zbj Tryz.prog 37 0 = 1 := by kernel_rfl
@[go_sem] theorem zJO : zaE Tryz.prog 37 1 = some (1, 1) := by kernel_rfl
@[go_sem] theorem zHU : zbj Tryz.prog 37 1 = 1 := by kernel_rfl
@[go_sem] theorem zIx : zaE Tryz.prog 37 2 = some (2, 1) := by kernel_rfl
@[go_sem] theorem zH6 : zbj Tryz.prog 37 2 = 1 := by kernel_rfl
@[go_sem] theorem zMJ : ezT Tryz.prog 46 = 0 := by kernel_rfl
@[go_sem] theorem zNH : tk Tryz.prog 47 = some (false, 1) := by kernel_rfl
@[go_sem] theorem zMi : ezT Tryz.prog 47 = 0 := by kernel_rfl
@[go_sem] theorem zMD : zec Tryz.prog 47 = some .u64 := by kernel_rfl
@[go_sem] theorem zM9 : zaO Tryz.prog 47 = false := by kernel_rfl
@[go_sem] theorem zNl : tk Tryz.prog 49 = some (true, 3) := by kernel_rfl
@[go_sem] theorem zLx : ezT Tryz.prog 49 = 0 := by kernel_rfl
@[go_sem] theorem zNe : zgR Tryz.prog 49 = some (zaE Tryz.prog 49, [.sl true 1 [], .int .i64 0, .int .u64 0]) := by kernel_rfl
@[go_sem] theorem zJs : zaE Tryz.prog 49 0 = some (0, 1) := by kernel_rfl
@[go_sem] theorem zH4 : zbj Tryz.prog 49 0 = 1 := by kernel_rfl
@[go_sem] theorem zIj : zaE Tryz.prog 49 1 = some (1, 1) := by kernel_rfl
@[go_sem] theorem zHz : zaE Tryz.prog 49 2 = some (2, 1) := by kernel_rfl
@[go_sem] theorem zNg : tk Tryz.prog 52 = some (true, 4) := by kernel_rfl
@[go_sem] theorem zNn : zr Tryz.prog 52 = some [.sl true 1 [], .int .i64 0, .sl true 1 [], .sl true 1 []] := by kernel_rfl
@[go_sem] theorem zMY : ezT Tryz.prog 52 = 0 := by kernel_rfl
@[go_sem] theorem zLD : zgR Tryz.prog 52 = some (zaE Tryz.prog 52, [.sl true 1 [], .int .i64 0, .sl true 1 [], .sl true 1 []]) := by kernel_rfl
@[go_sem] theorem zHX : zaE Tryz.prog 52 0 = some (0, 1) := by kernel_rfl
@[go_sem] theorem zIX : zbj Tryz.prog 52 0 = 1 := by kernel_rfl
@[go_sem] theorem zHR : zaE Tryz.prog 52 1 = some (1, 1) := by kernel_rfl
@[go_sem] theorem zIJ : zbj Tryz.prog 52 1 = 0 := by kernel_rfl
@[go_sem] theorem zJD : zaE Tryz.prog 52 2 = some (2, 1) := by kernel_rfl
@[go_sem] theorem zH3 : zbj Tryz.prog 52 2 = 1 := by kernel_rfl
@[go_sem] theorem zHH : zaE Tryz.prog 52 3 = some (3, 1) := by kernel_rfl
@[go_sem] theorem zJM : zbj Tryz.prog 52 3 = 1 := by kernel_rfl
@[go_sem] theorem zNj : tk Tryz.prog 56 = some (false, 1) := by kernel_rfl
@[go_sem] theorem zMw : ezT Tryz.prog 56 = 0 := by kernel_rfl
@[go_sem] theorem zNk : tk Tryz.prog 65 = some (true, 5) := by kernel_rfl
@[go_sem] theorem zNF : zr Tryz.prog 65 = some [.int .i64 0, .int .i64 0, .sl true 1 [], .sl true 1 [], .sl true 1 []] := by kernel_rfl
@[go_sem] theorem zNc : ezT Tryz.prog 65 = 0 := by kernel_rfl
@[go_sem] theorem zMx : zgR Tryz.prog 65 = some (zaE Tryz.prog 65, [.int .i64 0, .int .i64 0, .sl true 1 [], .sl true 1 [], .sl true 1 []]) := by kernel_rfl
@[go_sem] theorem zJk : zaE Tryz.prog 65 0 = some (0, 1) := by kernel_rfl
@[go_sem] theorem zHx : zbj Tryz.prog 65 0 = 0 := by kernel_rfl
@[go_sem] theorem zHq : zaE Tryz.prog 65 1 = some (1, 1) := by kernel_rfl
@[go_sem] theorem zIg : zbj Tryz.prog 65 1 = 0 := by kernel_rfl
@[go_sem] theorem zJy : zaE Tryz.prog 65 2 = some (2, 3) := by kernel_rfl
@[go_sem] theorem zI0 : zbj Tryz.prog 65 2 = 0 := by kernel_rfl
@[go_sem] theorem zNz : tk Tryz.prog 77 = some (true, 4) := by kernel_rfl
@[go_sem] theorem zNp : zr Tryz.prog 77 = some [.int .i64 0, .int .i64 0, .int .i64 0, .int .i64 0] := by kernel_rfl
@[go_sem] theorem zMy : ezT Tryz.prog 77 = 0 := by kernel_rfl
@[go_sem] theorem zM8 : zgR Tryz.prog 77 = some (zaE Tryz.prog 77, [.int .i64 0, .int .i64 0, .int .i64 0, .int .i64 0]) := by kernel_rfl
@[go_sem] theorem zH7 : zaE Tryz.prog 77 0 = some (0, 1) := by kernel_rfl
@[go_sem] theorem zHY : zbj Tryz.prog 77 0 = 0 := by kernel_rfl
@[go_sem] theorem zJX : zaE Tryz.prog 77 1 = some (1, 1) := by kernel_rfl
@[go_sem] theorem zIY : zbj Tryz.prog 77 1 = 0 := by kernel_rfl
@[go_sem] theorem zHv : zaE Tryz.prog 77 2 = some (2, 1) := by kernel_rfl
@[go_sem] theorem zH9 : zbj Tryz.prog 77 2 = 0 := by kernel_rfl
@[go_sem] theorem zIe : zaE Tryz.prog 77 3 = some (3, 1) := by kernel_rfl
@[go_sem] theorem zIv : zbj Tryz.prog 77 3 = 0 := by kernel_rfl
@[go_sem] theorem zNG : tk Tryz.prog 82 = some (false, 1) := by kernel_rfl
@[go_sem] theorem zLW : ezT Tryz.prog 82 = 1 := by kernel_rfl
@[go_sem] theorem zLq : zaw Tryz.prog 82 = some 25 := by kernel_rfl
@[go_sem] theorem zMm : zaO Tryz.prog 82 = false := by kernel_rfl
@[go_sem] theorem zMn : esz Tryz.prog 82 = some 1 := by kernel_rfl
@[go_sem] theorem zNv : ez Tryz.prog 82 = some (1, 24, [.sl false 1 []]) := by kernel_rfl
@[go_sem] theorem zMt {i : Nat} : zbj Tryz.prog 82 i = 1 := by kernel_rfl
@[go_sem] theorem zMk : ezT Tryz.prog 92 = 2 := by kernel_rfl
@[go_sem] theorem zMW : zaw Tryz.prog 92 = some 135 := by kernel_rfl
@[go_sem] theorem zMR : zaO Tryz.prog 92 = false := by kernel_rfl
@[go_sem] theorem zM3 : esz Tryz.prog 92 = some 2 := by kernel_rfl
@[go_sem] theorem zND : ez Tryz.prog 92 = some (2, 48, [.sl false 1 [], .sl false 1 []]) := by kernel_rfl
@[go_sem] theorem zMb {i : Nat} : zbj Tryz.prog 92 i = 0 := by kernel_rfl
@[go_sem] theorem zLT : tk Tryz.prog 101 = some (true, 6) := by kernel_rfl
@[go_sem] theorem zML : zr Tryz.prog 101 = some [.int .i64 0, .int .i64 0, .int .i64 0, .sl true 1 [], .sl true 1 [], .sl true 1 []] := by kernel_rfl
@[go_sem] theorem zKw : ezT Tryz.prog 101 = 0 := by kernel_rfl
@[go_sem] theorem zJ6 : zgR Tryz.prog 101 = some (zaE Tryz.prog 101, [.int .i64 0, .int .i64 0, .int .i64 0, .sl true 1 [], .sl true 1 [], .sl true 1 []]) := by kernel_rfl
@[go_sem] theorem zFY : zaE Tryz.prog 101 0 = some (0, 1) := by kernel_rfl
@[go_sem] theorem zED : zbj Tryz.prog 101 0 = 0 := by kernel_rfl
@[go_sem] theorem zFg : zaE Tryz.prog 101 1 = some (1, 2) := by kernel_rfl
@[go_sem] theorem zEB : zbj Tryz.prog 101 1 = 0 := by kernel_rfl
@[go_sem] theorem zGC : zaE Tryz.prog 101 2 = some (3, 3) := by kernel_rfl
@[go_sem] theorem zD7 : zbj Tryz.prog 101 2 = 0 := by kernel_rfl
@[go_sem] theorem zLj : ezT Tryz.prog 117 = 2 := by kernel_rfl
@[go_sem] theorem zJ2 : zaw Tryz.prog 117 = some 27 := by kernel_rfl
@[go_sem] theorem zLk : zaO Tryz.prog 117 = false := by kernel_rfl
@[go_sem] theorem zKU : esz Tryz.prog 117 = some 2 := by kernel_rfl
@[go_sem] theorem zM0 : ez Tryz.prog 117 = some (2, 16, [.int .i64 0, .int .i64 0]) := by kernel_rfl
@[go_sem] theorem zKR {i : Nat} : zbj Tryz.prog 117 i = 0 := by kernel_rfl
@[go_sem] theorem zKx : ezT Tryz.prog 133 = 4 := by kernel_rfl
@[go_sem] theorem zKg : zaw Tryz.prog 133 = some 139 := by kernel_rfl
@[go_sem] theorem zKP : zaO Tryz.prog 133 = false := by kernel_rfl
@[go_sem] theorem zKm : esz Tryz.prog 133 = some 4 := by kernel_rfl
@[go_sem] theorem zM1 : tk Tryz.prog 135 = some (true, 2) := by kernel_rfl
@[go_sem] theorem zMZ : zr Tryz.prog 135 = some [.sl true 1 [], .sl true 1 []] := by kernel_rfl
@[go_sem] theorem zKf : ezT Tryz.prog 135 = 0 := by kernel_rfl
@[go_sem] theorem zKA : zgR Tryz.prog 135 = some (zaE Tryz.prog 135, [.sl true 1 [], .sl true 1 []]) := by kernel_rfl
@[go_sem] theorem zDH : zaE Tryz.prog 135 0 = some (0, 1) := by kernel_rfl
@[go_sem] theorem zFV : zbj Tryz.prog 135 0 = 1 := by kernel_rfl
@[go_sem] theorem zES : zaE Tryz.prog 135 1 = some (1, 1) := by kernel_rfl
@[go_sem] theorem zEp : zbj Tryz.prog 135 1 = 1 := by kernel_rfl
@[go_sem] theorem zKo : ezT Tryz.prog 137 = 1 := by kernel_rfl
@[go_sem] theorem zKM : esz Tryz.prog 137 = some 1 := by kernel_rfl
@[go_sem] theorem zLU : ez Tryz.prog 137 = some (1, 1, [.bool false]) := by kernel_rfl
@[go_sem] theorem zMV : tk Tryz.prog 139 = some (true, 4) := by kernel_rfl
@[go_sem] theorem zL5 : zr Tryz.prog 139 = some [.int .i64 0, .int .i64 0, .int .i64 0, .bool false] := by kernel_rfl
@[go_sem] theorem zKZ : ezT Tryz.prog 139 = 0 := by kernel_rfl
@[go_sem] theorem zDN : zaE Tryz.prog 139 0 = some (0, 1) := by kernel_rfl
@[go_sem] theorem zF4 : zaE Tryz.prog 139 1 = some (1, 1) := by kernel_rfl
@[go_sem] theorem zG9 : zaE Tryz.prog 139 2 = some (2, 1) := by kernel_rfl
@[go_sem] theorem zHd : zaE Tryz.prog 139 3 = some (3, 1) := by kernel_rfl
@[go_sem] theorem zKu : ezT Tryz.prog 167 = 0 := by kernel_rfl
@[go_sem] theorem zLa : ezT Tryz.prog 181 = 0 := by kernel_rfl
@[go_sem] theorem zLy : tk Tryz.prog 183 = some (true, 2) := by kernel_rfl
@[go_sem] theorem zKN : ezT Tryz.prog 183 = 0 := by kernel_rfl
@[go_sem] theorem zKk : zgR Tryz.prog 183 = some (zaE Tryz.prog 183, [.int .i64 0, .int .i64 0]) := by kernel_rfl
@[go_sem] theorem zGf : zaE Tryz.prog 183 0 = some (0, 1) := by kernel_rfl
@[go_sem] theorem zGs : zbj Tryz.prog 183 0 = 0 := by kernel_rfl
@[go_sem] theorem zG7 : zaE Tryz.prog 183 1 = some (1, 1) := by kernel_rfl
@[go_sem] theorem zG3 : zbj Tryz.prog 183 1 = 0 := by kernel_rfl
theorem follows : Tryz.prog.follows .mixedOrders = true := by kernel_rfl
theorem cl3 : zad Tryz.prog 3 := fun args w => Tryz.call3 args w
theorem cl4 : zad Tryz.prog 4 := fun args w => Tryz.call4 args w
theorem cl5 : zad Tryz.prog 5 := fun args w => Tryz.call5 args w
theorem cl6 : zad Tryz.prog 6 := fun args w => Tryz.call6 args w
theorem cl7 : zad Tryz.prog 7 := fun args w => Tryz.call7 args w
theorem cl8 : zad Tryz.prog 8 := fun args w => Tryz.call8 args w
theorem cl9 : zad Tryz.prog 9 := fun args w => Tryz.call9 args w
theorem zFG : zad Tryz.prog 10 := fun args w => Tryz.call10 args w
theorem zFh : zad Tryz.prog 11 := fun args w => Tryz.call11 args w
theorem zEM : zad Tryz.prog 12 := fun args w => Tryz.call12 args w
theorem zET : zad Tryz.prog 13 := fun args w => Tryz.call13 args w
theorem zGv : zad Tryz.prog 14 := fun args w => Tryz.call14 args w
theorem zHf : zad Tryz.prog 15 := fun args w => Tryz.call15 args w
theorem zGB : zad Tryz.prog 16 := fun args w => Tryz.call16 args w
theorem zFS : zad Tryz.prog 17 := fun args w => Tryz.call17 args w
theorem zEJ : zad Tryz.prog 18 := fun args w => Tryz.call18 args w
theorem zFl : zad Tryz.prog 19 := fun args w => Tryz.call19 args w
theorem zEQ : zad Tryz.prog 20 := fun args w => Tryz.call20 args w
theorem zGR : zad Tryz.prog 21 := fun args w => Tryz.call21 args w
theorem zGz : zad Tryz.prog 22 := fun args w => Tryz.call22 args w
theorem zG4 : zad Tryz.prog 23 := fun args w => Tryz.call23 args w
theorem zF9 : zad Tryz.prog 24 := fun args w => Tryz.call24 args w
theorem zHp : zad Tryz.prog 25 := fun args w => Tryz.call25 args w
theorem zE6 : zad Tryz.prog 26 := fun args w => Tryz.call26 args w
theorem zGU : zad Tryz.prog 27 := fun args w => Tryz.call27 args w
theorem zFu : zad Tryz.prog 28 := fun args w => Tryz.call28 args w
theorem zEG : zad Tryz.prog 29 := fun args w => Tryz.call29 args w
theorem zFa : zad Tryz.prog 30 := fun args w => Tryz.call30 args w
theorem zFU : zad Tryz.prog 31 := fun args w => Tryz.call31 args w
theorem zFB : zad Tryz.prog 32 := fun args w => Tryz.call32 args w
theorem zGV : zad Tryz.prog 33 := fun args w => Tryz.call33 args w
theorem zEv : zad Tryz.prog 34 := fun args w => Tryz.call34 args w
theorem zE7 : zad Tryz.prog 35 := fun args w => Tryz.call35 args w
theorem zFw : zad Tryz.prog 36 := fun args w => Tryz.call36 args w
theorem zD1 : zad Tryz.prog 37 := fun args w => Tryz.call37 args w
theorem zD4 : zad Tryz.prog 38 := fun args w => Tryz.call38 args w
theorem zDL : zad Tryz.prog 39 := fun args w => Tryz.call39 args w
theorem zEH : zad Tryz.prog 40 := fun args w => Tryz.call40 args w
theorem zFM : zad Tryz.prog 41 := fun args w => Tryz.call41 args w
theorem zEK : zad Tryz.prog 42 := fun args w => Tryz.call42 args w
theorem zEP : zad Tryz.prog 43 := fun args w => Tryz.call43 args w
theorem zFA : zad Tryz.prog 44 := fun args w => Tryz.call44 args w
theorem zHj : zad Tryz.prog 45 := fun args w => Tryz.call45 args w
theorem zDZ : zad Tryz.prog 46 := fun args w => Tryz.call46 args w
theorem zDT : zad Tryz.prog 47 := fun args w => Tryz.call47 args w
theorem zGp : zad Tryz.prog 48 := fun args w => Tryz.call48 args w
theorem zGX : zad Tryz.prog 49 := fun args w => Tryz.call49 args w
theorem zHb : zad Tryz.prog 50 := fun args w => Tryz.call50 args w
theorem zFH : zad Tryz.prog 51 := fun args w => Tryz.call51 args w
theorem zEr : zad Tryz.prog 52 := fun args w => Tryz.call52 args w
theorem zx6 : zad Tryz.prog 53 := fun args w => Tryz.call53 args w
theorem zGg : zad Tryz.prog 54 := fun args w => Tryz.call54 args w
theorem zF6 : zad Tryz.prog 55 := fun args w => Tryz.call55 args w
theorem zEa : zad Tryz.prog 56 := fun args w => Tryz.call56 args w
theorem zFc : zad Tryz.prog 57 := fun args w => Tryz.call57 args w
theorem zHn : zad Tryz.prog 58 := fun args w => Tryz.call58 args w
theorem zEi : zad Tryz.prog 59 := fun args w => Tryz.call59 args w
theorem zF8 : zad Tryz.prog 60 := fun args w => Tryz.call60 args w
theorem zFk : zad Tryz.prog 61 := fun args w => Tryz.call61 args w
theorem zDA : zad Tryz.prog 62 := fun args w => Tryz.call62 args w
theorem zEd : zad Tryz.prog 63 := fun args w => Tryz.call63 args w
theorem zGZ : zad Tryz.prog 64 := fun args w => Tryz.call64 args w
theorem zFn : zad Tryz.prog 65 := fun args w => Tryz.call65 args w
theorem zF7 : zad Tryz.prog 66 := fun args w => Tryz.call66 args w
theorem zG2 : zad Tryz.prog 67 := fun args w => Tryz.call67 args w
theorem zEe : zad Tryz.prog 68 := fun args w => Tryz.call68 args w
theorem zGF : zad Tryz.prog 69 := fun args w => Tryz.call69 args w
theorem zFo : zad Tryz.prog 70 := fun args w => Tryz.call70 args w
theorem zFi : zad Tryz.prog 71 := fun args w => Tryz.call71 args w
theorem zFe : zad Tryz.prog 72 := fun args w => Tryz.call72 args w
theorem zEj : zad Tryz.prog 73 := fun args w => Tryz.call73 args w
theorem zGu : zad Tryz.prog 74 := fun args w => Tryz.call74 args w
theorem zGP : zad Tryz.prog 75 := fun args w => Tryz.call75 args w
theorem zHk : zad Tryz.prog 76 := fun args w => Tryz.call76 args w
theorem zEY : zad Tryz.prog 77 := fun args w => Tryz.call77 args w
theorem zGn : zad Tryz.prog 78 := fun args w => Tryz.call78 args w
theorem zDX : zad Tryz.prog 79 := fun args w => Tryz.call79 args w
theorem zFx : zad Tryz.prog 80 := fun args w => Tryz.call80 args w
theorem zGW : zad Tryz.prog 81 := fun args w => Tryz.call81 args w
theorem zGj : zad Tryz.prog 82 := fun args w => Tryz.call82 args w
theorem zFZ : zad Tryz.prog 83 := fun args w => Tryz.call83 args w
theorem zHm : zad Tryz.prog 84 := fun args w => Tryz.call84 args w
theorem zyB : zad Tryz.prog 85 := fun args w => Tryz.call85 args w
theorem zFq : zad Tryz.prog 86 := fun args w => Tryz.call86 args w
theorem zGI : zad Tryz.prog 87 := fun args w => Tryz.call87 args w
theorem zDO : zad Tryz.prog 88 := fun args w => Tryz.call88 args w
theorem zD5 : zad Tryz.prog 89 := fun args w => Tryz.call89 args w
theorem zG5 : zad Tryz.prog 90 := fun args w => Tryz.call90 args w
theorem zE1 : zad Tryz.prog 91 := fun args w => Tryz.call91 args w
theorem zDQ : zad Tryz.prog 92 := fun args w => Tryz.call92 args w
theorem zFs : zad Tryz.prog 93 := fun args w => Tryz.call93 args w
theorem zDD : zad Tryz.prog 94 := fun args w => Tryz.call94 args w
theorem zHl : zad Tryz.prog 95 := fun args w => Tryz.call95 args w
theorem zvJ : zad Tryz.prog 96 := fun args w => Tryz.call96 args w
theorem zGy : zad Tryz.prog 97 := fun args w => Tryz.call97 args w
theorem zGw : zad Tryz.prog 98 := fun args w => Tryz.call98 args w
theorem zFr : zad Tryz.prog 99 := fun args w => Tryz.call99 args w
theorem zAS : zad Tryz.prog 100 := fun args w => Tryz.call100 args w
theorem zA0 : zad Tryz.prog 101 := fun args w => Tryz.call101 args w
theorem zAc : zad Tryz.prog 102 := fun args w => Tryz.call102 args w
theorem zAh : zad Tryz.prog 103 := fun args w => Tryz.call103 args w
theorem zBi : zad Tryz.prog 104 := fun args w => Tryz.call104 args w
theorem zB3 : zad Tryz.prog 105 := fun args w => Tryz.call105 args w
theorem zz4 : zad Tryz.prog 106 := fun args w => Tryz.call106 args w
theorem zCp : zad Tryz.prog 107 := fun args w => Tryz.call107 args w
theorem zBq : zad Tryz.prog 108 := fun args w => Tryz.call108 args w
theorem zAG : zad Tryz.prog 109 := fun args w => Tryz.call109 args w
theorem zCx : zad Tryz.prog 110 := fun args w => Tryz.call110 args w
theorem zCu : zad Tryz.prog 111 := fun args w => Tryz.call111 args w
theorem zAj : zad Tryz.prog 112 := fun args w => Tryz.call112 args w
theorem zCw : zad Tryz.prog 113 := fun args w => Tryz.call113 args w
theorem zz3 : zad Tryz.prog 114 := fun args w => Tryz.call114 args w
theorem zBC : zad Tryz.prog 115 := fun args w => Tryz.call115 args w
theorem zAr : zad Tryz.prog 116 := fun args w => Tryz.call116 args w
theorem zz0 : zad Tryz.prog 117 := fun args w => Tryz.call117 args w
theorem zzV : zad Tryz.prog 118 := fun args w => Tryz.call118 args w
theorem zCr : zad Tryz.prog 119 := fun args w => Tryz.call119 args w
theorem zAZ : zad Tryz.prog 120 := fun args w => Tryz.call120 args w
theorem zAU : zad Tryz.prog 121 := fun args w => Tryz.call121 args w
theorem zBp : zad Tryz.prog 122 := fun args w => Tryz.call122 args w
theorem zAJ : zad Tryz.prog 123 := fun args w => Tryz.call123 args w
theorem zAv : zad Tryz.prog 124 := fun args w => Tryz.call124 args w
theorem zBU : zad Tryz.prog 125 := fun args w => Tryz.call125 args w
theorem zCj : zad Tryz.prog 126 := fun args w => Tryz.call126 args w
theorem zB1 : zad Tryz.prog 127 := fun args w => Tryz.call127 args w
theorem zzU : zad Tryz.prog 128 := fun args w => Tryz.call128 args w
theorem zBa : zad Tryz.prog 129 := fun args w => Tryz.call129 args w
theorem zBj : zad Tryz.prog 130 := fun args w => Tryz.call130 args w
theorem zs0 : zad Tryz.prog 131 := fun args w => Tryz.call131 args w
theorem ztk : zad Tryz.prog 132 := fun args w => Tryz.call132 args w
theorem zBs : zad Tryz.prog 133 := fun args w => Tryz.call133 args w
theorem zBJ : zad Tryz.prog 134 := fun args w => Tryz.call134 args w
theorem zAW : zad Tryz.prog 135 := fun args w => Tryz.call135 args w
theorem zCi : zad Tryz.prog 136 := fun args w => Tryz.call136 args w
theorem zBO : zad Tryz.prog 137 := fun args w => Tryz.call137 args w
theorem zBY : zad Tryz.prog 138 := fun args w => Tryz.call138 args w
theorem zwe : zad Tryz.prog 139 := fun args w => Tryz.call139 args w
theorem zBD : zad Tryz.prog 140 := fun args w => Tryz.call140 args w
theorem zBB : zad Tryz.prog 141 := fun args w => Tryz.call141 args w
theorem zBN : zad Tryz.prog 142 := fun args w => Tryz.call142 args w
theorem zAN : zad Tryz.prog 143 := fun args w => Tryz.call143 args w
theorem zBz : zad Tryz.prog 144 := fun args w => Tryz.call144 args w
theorem zA2 : zad Tryz.prog 145 := fun args w => Tryz.call145 args w
theorem zCq : zad Tryz.prog 146 := fun args w => Tryz.call146 args w
theorem zAT : zad Tryz.prog 147 := fun args w => Tryz.call147 args w
theorem zz5 : zad Tryz.prog 148 := fun args w => Tryz.call148 args w
theorem zBV : zad Tryz.prog 149 := fun args w => Tryz.call149 args w
theorem zA7 : zad Tryz.prog 150 := fun args w => Tryz.call150 args w
theorem zB7 : zad Tryz.prog 151 := fun args w => Tryz.call151 args w
theorem zBA : zad Tryz.prog 152 := fun args w => Tryz.call152 args w
theorem zsN : zad Tryz.prog 153 := fun args w => Tryz.call153 args w
theorem zAO : zad Tryz.prog 154 := fun args w => Tryz.call154 args w
theorem zBx : zad Tryz.prog 155 := fun args w => Tryz.call155 args w
theorem zzZ : zad Tryz.prog 156 := fun args w => Tryz.call156 args w
theorem zCs : zad Tryz.prog 157 := fun args w => Tryz.call157 args w
theorem zAa : zad Tryz.prog 158 := fun args w => Tryz.call158 args w
theorem zA1 : zad Tryz.prog 159 := fun args w => Tryz.call159 args w
theorem zBP : zad Tryz.prog 160 := fun args w => Tryz.call160 args w
theorem zCe : zad Tryz.prog 161 := fun args w => Tryz.call161 args w
theorem zzX : zad Tryz.prog 162 := fun args w => Tryz.call162 args w
theorem zAY : zad Tryz.prog 163 := fun args w => Tryz.call163 args w
end Go.Pm
