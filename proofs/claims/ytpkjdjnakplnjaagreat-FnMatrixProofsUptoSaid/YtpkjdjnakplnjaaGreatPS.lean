import Derived.Test.YtpkjdjnakplnjaaGreatPmW
import Derived.Test.YtpkjdjnakplnjaaGreatProg
import Derived.KernelRfl
namespace Go.Pm
open Go.Am
open Go.Proofs
set_option maxRecDepth 100000
@[go_sem] theorem tk3 : tk Tryz.prog 3 = some (false, 1) := by kernel_rfl
@[go_sem] theorem zr3 : zr Tryz.prog 3 = some [.int .i64 0] := by kernel_rfl
@[go_sem] theorem zPo : ezT Tryz.prog 3 = 0 := by kernel_rfl
@[go_sem] theorem zPh : zel Tryz.prog 3 = some .i64 := by kernel_rfl
@[go_sem] theorem zOZ : zaN Tryz.prog 3 = false := by kernel_rfl
@[go_sem] theorem tk4 : tk Tryz.prog 4 = some (false, 1) := by kernel_rfl
@[go_sem] theorem zr4 : zr Tryz.prog 4 = some [.bool false] := by kernel_rfl
@[go_sem] theorem zO5 : ezT Tryz.prog 4 = 0 := by kernel_rfl
@[go_sem] theorem zOH : zho Tryz.prog 4 = true := by kernel_rfl
@[go_sem] theorem tk5 : tk Tryz.prog 5 = some (false, 1) := by kernel_rfl
@[go_sem] theorem zr5 : zr Tryz.prog 5 = some [.int .u8 0] := by kernel_rfl
@[go_sem] theorem zO7 : ezT Tryz.prog 5 = 0 := by kernel_rfl
@[go_sem] theorem zOV : zel Tryz.prog 5 = some .u8 := by kernel_rfl
@[go_sem] theorem zOM : zaN Tryz.prog 5 = false := by kernel_rfl
@[go_sem] theorem tk9 : tk Tryz.prog 9 = some (false, 1) := by kernel_rfl
@[go_sem] theorem zr9 : zr Tryz.prog 9 = some [.str ⟨#[]⟩] := by kernel_rfl
@[go_sem] theorem zOO : ezT Tryz.prog 9 = 0 := by kernel_rfl
@[go_sem] theorem zOW : zaN Tryz.prog 9 = true := by kernel_rfl
@[go_sem] theorem zOR : tk Tryz.prog 20 = some (false, 1) := by kernel_rfl
@[go_sem] theorem zPm : zr Tryz.prog 20 = some [.nili] := by kernel_rfl
@[go_sem] theorem zN4 : ezT Tryz.prog 20 = 0 := by kernel_rfl
@[go_sem] theorem zOF : tk Tryz.prog 22 = some (false, 1) := by kernel_rfl
@[go_sem] theorem zPi : zr Tryz.prog 22 = some [.sl true 1 []] := by kernel_rfl
@[go_sem] theorem zMY : ezT Tryz.prog 22 = 1 := by kernel_rfl
@[go_sem] theorem zNK : zaB Tryz.prog 22 = some 5 := by kernel_rfl
@[go_sem] theorem zN8 : zaN Tryz.prog 22 = false := by kernel_rfl
@[go_sem] theorem zM2 : esz Tryz.prog 22 = some 1 := by kernel_rfl
@[go_sem] theorem zNk : zgU Tryz.prog 22 = true := by kernel_rfl
@[go_sem] theorem zO1 : ez Tryz.prog 22 = some (1, 1, [.int .u8 0]) := by kernel_rfl
@[go_sem] theorem zNL {i : Nat} : za0 Tryz.prog 22 i = 0 := by kernel_rfl
@[go_sem] theorem zOT : tk Tryz.prog 24 = some (true, 3) := by kernel_rfl
@[go_sem] theorem zO4 : zr Tryz.prog 24 = some [.int .i64 0, .int .i64 0, .int .i64 0] := by kernel_rfl
@[go_sem] theorem zOl : ezT Tryz.prog 24 = 0 := by kernel_rfl
@[go_sem] theorem zMB : zfJ Tryz.prog 24 = some (zaE Tryz.prog 24, [.int .i64 0, .int .i64 0, .int .i64 0]) := by kernel_rfl
@[go_sem] theorem zJK : zaE Tryz.prog 24 0 = some (0, 1) := by kernel_rfl
@[go_sem] theorem zIM : za0 Tryz.prog 24 0 = 0 := by kernel_rfl
@[go_sem] theorem zHM : zaE Tryz.prog 24 1 = some (1, 1) := by kernel_rfl
@[go_sem] theorem zHj : za0 Tryz.prog 24 1 = 0 := by kernel_rfl
@[go_sem] theorem zHE : zaE Tryz.prog 24 2 = some (2, 1) := by kernel_rfl
@[go_sem] theorem zJC : za0 Tryz.prog 24 2 = 0 := by kernel_rfl
@[go_sem] theorem zPd : tk Tryz.prog 25 = some (false, 1) := by kernel_rfl
@[go_sem] theorem zOA : zr Tryz.prog 25 = some [.sl true 1 []] := by kernel_rfl
@[go_sem] theorem zMR : ezT Tryz.prog 25 = 1 := by kernel_rfl
@[go_sem] theorem zMq : zaB Tryz.prog 25 = some 3 := by kernel_rfl
@[go_sem] theorem zNR : zaN Tryz.prog 25 = false := by kernel_rfl
@[go_sem] theorem zNA : esz Tryz.prog 25 = some 1 := by kernel_rfl
@[go_sem] theorem zDO : ez Tryz.prog 25 = some (1, 8, [.int .i64 0]) := by kernel_rfl
@[go_sem] theorem zMu {i : Nat} : za0 Tryz.prog 25 i = 0 := by kernel_rfl
@[go_sem] theorem zOE : tk Tryz.prog 29 = some (true, 2) := by kernel_rfl
@[go_sem] theorem zOX : zr Tryz.prog 29 = some [.sl true 1 [], .sl true 1 []] := by kernel_rfl
@[go_sem] theorem zNC : ezT Tryz.prog 29 = 0 := by kernel_rfl
@[go_sem] theorem zNM : zfJ Tryz.prog 29 = some (zaE Tryz.prog 29, [.sl true 1 [], .sl true 1 []]) := by kernel_rfl
@[go_sem] theorem zHS : zaE Tryz.prog 29 0 = some (0, 1) := by kernel_rfl
@[go_sem] theorem zJQ : za0 Tryz.prog 29 0 = 1 := by kernel_rfl
@[go_sem] theorem zJE : zaE Tryz.prog 29 1 = some (1, 1) := by kernel_rfl
@[go_sem] theorem zHn : za0 Tryz.prog 29 1 = 1 := by kernel_rfl
@[go_sem] theorem zOI : tk Tryz.prog 32 = some (false, 1) := by kernel_rfl
@[go_sem] theorem zPn : zr Tryz.prog 32 = some [.sl true 2 []] := by kernel_rfl
@[go_sem] theorem zOy : ezT Tryz.prog 32 = 2 := by kernel_rfl
@[go_sem] theorem zOj : zaB Tryz.prog 32 = some 41 := by kernel_rfl
@[go_sem] theorem zNw : zaN Tryz.prog 32 = false := by kernel_rfl
@[go_sem] theorem zMH : esz Tryz.prog 32 = some 2 := by kernel_rfl
@[go_sem] theorem zO0 : ez Tryz.prog 32 = some (2, 16, [.int .i64 0, .int .i64 0]) := by kernel_rfl
@[go_sem] theorem zMv {i : Nat} : za0 Tryz.prog 32 i = 0 := by kernel_rfl
@[go_sem] theorem zOC : tk Tryz.prog 33 = some (false, 1) := by kernel_rfl
@[go_sem] theorem zOY : zr Tryz.prog 33 = some [.sl true 1 []] := by kernel_rfl
@[go_sem] theorem zOk : ezT Tryz.prog 33 = 1 := by kernel_rfl
@[go_sem] theorem zNs : zaB Tryz.prog 33 = some 45 := by kernel_rfl
@[go_sem] theorem zMF : zaN Tryz.prog 33 = false := by kernel_rfl
@[go_sem] theorem zOe : esz Tryz.prog 33 = some 1 := by kernel_rfl
@[go_sem] theorem zOK : ez Tryz.prog 33 = some (1, 24, [.sl false 5 []]) := by kernel_rfl
@[go_sem] theorem zN2 {i : Nat} : za0 Tryz.prog 33 i = 5 := by kernel_rfl
@[go_sem] theorem zPe : tk Tryz.prog 41 = some (true, 2) := by kernel_rfl
@[go_sem] theorem zPa : zr Tryz.prog 41 = some [.int .i64 0, .int .i64 0] := by kernel_rfl
@[go_sem] theorem zNX : ezT Tryz.prog 41 = 0 := by kernel_rfl
@[go_sem] theorem zNh : zfJ Tryz.prog 41 = some (zaE Tryz.prog 41, [.int .i64 0, .int .i64 0]) := by kernel_rfl
@[go_sem] theorem zIr : zaE Tryz.prog 41 0 = some (0, 1) := by kernel_rfl
@[go_sem] theorem zJj : za0 Tryz.prog 41 0 = 0 := by kernel_rfl
@[go_sem] theorem zIX : zaE Tryz.prog 41 1 = some (1, 1) := by kernel_rfl
@[go_sem] theorem zIC : za0 Tryz.prog 41 1 = 0 := by kernel_rfl
@[go_sem] theorem zOG : tk Tryz.prog 45 = some (false, 1) := by kernel_rfl
@[go_sem] theorem zPj : zr Tryz.prog 45 = some [.sl true 5 []] := by kernel_rfl
@[go_sem] theorem zNZ : ezT Tryz.prog 45 = 5 := by kernel_rfl
@[go_sem] theorem zOp : zaB Tryz.prog 45 = some 54 := by kernel_rfl
@[go_sem] theorem zMV : zaN Tryz.prog 45 = false := by kernel_rfl
@[go_sem] theorem zNV : esz Tryz.prog 45 = some 5 := by kernel_rfl
@[go_sem] theorem zOL : ez Tryz.prog 45 = some (5, 88, [.int .i64 0, .int .i64 0, .sl false 1 [], .sl false 1 [], .sl false 1 []]) := by kernel_rfl
@[go_sem] theorem zNW {i : Nat} : za0 Tryz.prog 45 i = 0 := by kernel_rfl
@[go_sem] theorem zO9 : tk Tryz.prog 52 = some (true, 3) := by kernel_rfl
@[go_sem] theorem zPc : zr Tryz.prog 52 = some [.sl true 1 [], .sl true 1 [], .sl true 1 []] := by kernel_rfl
@[go_sem] theorem zN3 : ezT Tryz.prog 52 = 0 := by kernel_rfl
@[go_sem] theorem zNU : zfJ Tryz.prog 52 = some (zaE Tryz.prog 52, [.sl true 1 [], .sl true 1 [], .sl true 1 []]) := by kernel_rfl
@[go_sem] theorem zI3 : zaE Tryz.prog 52 0 = some (0, 1) := by kernel_rfl
@[go_sem] theorem zHK : za0 Tryz.prog 52 0 = 1 := by kernel_rfl
@[go_sem] theorem zJY : zaE Tryz.prog 52 1 = some (1, 1) := by kernel_rfl
@[go_sem] theorem zHP : za0 Tryz.prog 52 1 = 1 := by kernel_rfl
@[go_sem] theorem zH8 : zaE Tryz.prog 52 2 = some (2, 1) := by kernel_rfl
@[go_sem] theorem zHz : za0 Tryz.prog 52 2 = 1 := by kernel_rfl
@[go_sem] theorem zOU : tk Tryz.prog 54 = some (true, 5) := by kernel_rfl
@[go_sem] theorem zPp : zr Tryz.prog 54 = some [.int .i64 0, .int .i64 0, .sl true 1 [], .sl true 1 [], .sl true 1 []] := by kernel_rfl
@[go_sem] theorem zNF : ezT Tryz.prog 54 = 0 := by kernel_rfl
@[go_sem] theorem zM1 : zfJ Tryz.prog 54 = some (zaE Tryz.prog 54, [.int .i64 0, .int .i64 0, .sl true 1 [], .sl true 1 [], .sl true 1 []]) := by kernel_rfl
@[go_sem] theorem zHt : zaE Tryz.prog 54 0 = some (0, 1) := by kernel_rfl
@[go_sem] theorem zKj : za0 Tryz.prog 54 0 = 0 := by kernel_rfl
@[go_sem] theorem zKn : zaE Tryz.prog 54 1 = some (1, 1) := by kernel_rfl
@[go_sem] theorem zI4 : za0 Tryz.prog 54 1 = 0 := by kernel_rfl
@[go_sem] theorem zHO : zaE Tryz.prog 54 2 = some (2, 3) := by kernel_rfl
@[go_sem] theorem zJ2 : za0 Tryz.prog 54 2 = 0 := by kernel_rfl
@[go_sem] theorem zOJ : tk Tryz.prog 59 = some (true, 5) := by kernel_rfl
@[go_sem] theorem zPb : zr Tryz.prog 59 = some [.sl true 1 [], .sl true 1 [], .sl true 1 [], .sl true 1 [], .sl true 1 []] := by kernel_rfl
@[go_sem] theorem zMW : ezT Tryz.prog 59 = 0 := by kernel_rfl
@[go_sem] theorem zNv : zfJ Tryz.prog 59 = some (zaE Tryz.prog 59, [.sl true 1 [], .sl true 1 [], .sl true 1 [], .sl true 1 [], .sl true 1 []]) := by kernel_rfl
@[go_sem] theorem zIo : zaE Tryz.prog 59 0 = some (0, 1) := by kernel_rfl
@[go_sem] theorem zKb : za0 Tryz.prog 59 0 = 1 := by kernel_rfl
@[go_sem] theorem zHR : zaE Tryz.prog 59 1 = some (1, 1) := by kernel_rfl
@[go_sem] theorem zHx : za0 Tryz.prog 59 1 = 1 := by kernel_rfl
@[go_sem] theorem zIy : zaE Tryz.prog 59 2 = some (2, 3) := by kernel_rfl
@[go_sem] theorem zIh : za0 Tryz.prog 59 2 = 0 := by kernel_rfl
@[go_sem] theorem zOS : tk Tryz.prog 71 = some (false, 1) := by kernel_rfl
@[go_sem] theorem zPk : zr Tryz.prog 71 = some [.nilp] := by kernel_rfl
@[go_sem] theorem zM7 : ezT Tryz.prog 71 = 0 := by kernel_rfl
@[go_sem] theorem zOB : tk Tryz.prog 72 = some (false, 1) := by kernel_rfl
@[go_sem] theorem zOQ : zr Tryz.prog 72 = some [.int .u64 0] := by kernel_rfl
@[go_sem] theorem zNu : ezT Tryz.prog 72 = 0 := by kernel_rfl
@[go_sem] theorem zN5 : zel Tryz.prog 72 = some .u64 := by kernel_rfl
@[go_sem] theorem zNP : zaN Tryz.prog 72 = false := by kernel_rfl
@[go_sem] theorem zO6 : tk Tryz.prog 74 = some (true, 3) := by kernel_rfl
@[go_sem] theorem zPl : zr Tryz.prog 74 = some [.sl true 1 [], .int .i64 0, .int .u64 0] := by kernel_rfl
@[go_sem] theorem zOs : ezT Tryz.prog 74 = 0 := by kernel_rfl
@[go_sem] theorem zMZ : zfJ Tryz.prog 74 = some (zaE Tryz.prog 74, [.sl true 1 [], .int .i64 0, .int .u64 0]) := by kernel_rfl
@[go_sem] theorem zJp : zaE Tryz.prog 74 0 = some (0, 1) := by kernel_rfl
@[go_sem] theorem zH6 : za0 Tryz.prog 74 0 = 1 := by kernel_rfl
@[go_sem] theorem zI0 : zaE Tryz.prog 74 1 = some (1, 1) := by kernel_rfl
@[go_sem] theorem zKi : za0 Tryz.prog 74 1 = 0 := by kernel_rfl
@[go_sem] theorem zIq : zaE Tryz.prog 74 2 = some (2, 1) := by kernel_rfl
@[go_sem] theorem zId : za0 Tryz.prog 74 2 = 0 := by kernel_rfl
@[go_sem] theorem zPg : tk Tryz.prog 80 = some (false, 1) := by kernel_rfl
@[go_sem] theorem zOD : zr Tryz.prog 80 = some [.nilf] := by kernel_rfl
@[go_sem] theorem zMr : ezT Tryz.prog 80 = 0 := by kernel_rfl
@[go_sem] theorem zON : tk Tryz.prog 91 = some (false, 1) := by kernel_rfl
@[go_sem] theorem zO8 : zr Tryz.prog 91 = some [.nilf] := by kernel_rfl
@[go_sem] theorem zNl : ezT Tryz.prog 91 = 0 := by kernel_rfl
@[go_sem] theorem zO2 : tk Tryz.prog 93 = some (false, 1) := by kernel_rfl
@[go_sem] theorem zO3 : zr Tryz.prog 93 = some [.nilf] := by kernel_rfl
@[go_sem] theorem zML : ezT Tryz.prog 93 = 0 := by kernel_rfl
@[go_sem] theorem zMQ : tk Tryz.prog 103 = some (true, 2) := by kernel_rfl
@[go_sem] theorem zNd : zr Tryz.prog 103 = some [.int .i64 0, .sl true 1 []] := by kernel_rfl
@[go_sem] theorem zMn : ezT Tryz.prog 103 = 0 := by kernel_rfl
@[go_sem] theorem zKp : zfJ Tryz.prog 103 = some (zaE Tryz.prog 103, [.int .i64 0, .sl true 1 []]) := by kernel_rfl
@[go_sem] theorem zFc : zaE Tryz.prog 103 0 = some (0, 1) := by kernel_rfl
@[go_sem] theorem zFk : za0 Tryz.prog 103 0 = 0 := by kernel_rfl
@[go_sem] theorem zFJ : zaE Tryz.prog 103 1 = some (1, 1) := by kernel_rfl
@[go_sem] theorem zEh : za0 Tryz.prog 103 1 = 1 := by kernel_rfl
@[go_sem] theorem zNf : tk Tryz.prog 130 = some (true, 4) := by kernel_rfl
@[go_sem] theorem zNO : zr Tryz.prog 130 = some [.sl true 1 [], .int .i64 0, .sl true 1 [], .sl true 1 []] := by kernel_rfl
@[go_sem] theorem zKV : ezT Tryz.prog 130 = 0 := by kernel_rfl
@[go_sem] theorem zLk : zfJ Tryz.prog 130 = some (zaE Tryz.prog 130, [.sl true 1 [], .int .i64 0, .sl true 1 [], .sl true 1 []]) := by kernel_rfl
@[go_sem] theorem zDx : zaE Tryz.prog 130 0 = some (0, 1) := by kernel_rfl
@[go_sem] theorem zGJ : za0 Tryz.prog 130 0 = 1 := by kernel_rfl
@[go_sem] theorem zGM : zaE Tryz.prog 130 1 = some (1, 1) := by kernel_rfl
@[go_sem] theorem zEZ : za0 Tryz.prog 130 1 = 0 := by kernel_rfl
@[go_sem] theorem zDG : zaE Tryz.prog 130 2 = some (2, 1) := by kernel_rfl
@[go_sem] theorem zGq : za0 Tryz.prog 130 2 = 1 := by kernel_rfl
@[go_sem] theorem zG3 : zaE Tryz.prog 130 3 = some (3, 1) := by kernel_rfl
@[go_sem] theorem zE8 : za0 Tryz.prog 130 3 = 1 := by kernel_rfl
@[go_sem] theorem zNa : tk Tryz.prog 137 = some (false, 1) := by kernel_rfl
@[go_sem] theorem zOu : zr Tryz.prog 137 = some [.sl true 1 []] := by kernel_rfl
@[go_sem] theorem zKZ : ezT Tryz.prog 137 = 1 := by kernel_rfl
@[go_sem] theorem zLv : zaB Tryz.prog 137 = some 25 := by kernel_rfl
@[go_sem] theorem zKv : zaN Tryz.prog 137 = false := by kernel_rfl
@[go_sem] theorem zKs : esz Tryz.prog 137 = some 1 := by kernel_rfl
@[go_sem] theorem zNI : ez Tryz.prog 137 = some (1, 24, [.sl false 1 []]) := by kernel_rfl
@[go_sem] theorem zLa {i : Nat} : za0 Tryz.prog 137 i = 1 := by kernel_rfl
@[go_sem] theorem zNp : tk Tryz.prog 145 = some (false, 1) := by kernel_rfl
@[go_sem] theorem zMJ : zr Tryz.prog 145 = some [.nilp] := by kernel_rfl
@[go_sem] theorem zLm : ezT Tryz.prog 145 = 0 := by kernel_rfl
@[go_sem] theorem zNS : tk Tryz.prog 147 = some (true, 1) := by kernel_rfl
@[go_sem] theorem zNt : zr Tryz.prog 147 = some [.sl true 1 []] := by kernel_rfl
@[go_sem] theorem zLu : ezT Tryz.prog 147 = 0 := by kernel_rfl
@[go_sem] theorem zLt : zfJ Tryz.prog 147 = some (zaE Tryz.prog 147, [.sl true 1 []]) := by kernel_rfl
@[go_sem] theorem zGz : zaE Tryz.prog 147 0 = some (0, 1) := by kernel_rfl
@[go_sem] theorem zDu : za0 Tryz.prog 147 0 = 1 := by kernel_rfl
@[go_sem] theorem zMI : tk Tryz.prog 171 = some (false, 1) := by kernel_rfl
@[go_sem] theorem zNH : zr Tryz.prog 171 = some [.int .u64 0] := by kernel_rfl
@[go_sem] theorem zKN : ezT Tryz.prog 171 = 0 := by kernel_rfl
@[go_sem] theorem zLq : zel Tryz.prog 171 = some .u64 := by kernel_rfl
@[go_sem] theorem zKA : zaN Tryz.prog 171 = false := by kernel_rfl
@[go_sem] theorem zMC : tk Tryz.prog 172 = some (false, 1) := by kernel_rfl
@[go_sem] theorem zMy : zr Tryz.prog 172 = some [.sl true 2 []] := by kernel_rfl
@[go_sem] theorem zLX : ezT Tryz.prog 172 = 2 := by kernel_rfl
@[go_sem] theorem zLK : zaB Tryz.prog 172 = some 29 := by kernel_rfl
@[go_sem] theorem zLS : zaN Tryz.prog 172 = false := by kernel_rfl
@[go_sem] theorem zL2 : esz Tryz.prog 172 = some 2 := by kernel_rfl
@[go_sem] theorem zOz : ez Tryz.prog 172 = some (2, 48, [.sl false 1 [], .sl false 1 []]) := by kernel_rfl
@[go_sem] theorem zKr {i : Nat} : za0 Tryz.prog 172 i = 0 := by kernel_rfl
@[go_sem] theorem zNJ : tk Tryz.prog 194 = some (false, 1) := by kernel_rfl
@[go_sem] theorem zM0 : zr Tryz.prog 194 = some [.sl true 4 []] := by kernel_rfl
@[go_sem] theorem zK2 : ezT Tryz.prog 194 = 4 := by kernel_rfl
@[go_sem] theorem zK3 : zaB Tryz.prog 194 = some 197 := by kernel_rfl
@[go_sem] theorem zMf : zaN Tryz.prog 194 = false := by kernel_rfl
@[go_sem] theorem zK5 : esz Tryz.prog 194 = some 4 := by kernel_rfl
@[go_sem] theorem zNj : ez Tryz.prog 194 = some (4, 32, [.int .i64 0, .int .i64 0, .int .i64 0, .bool false]) := by kernel_rfl
@[go_sem] theorem zLH {i : Nat} : za0 Tryz.prog 194 i = 0 := by kernel_rfl
@[go_sem] theorem zNy : tk Tryz.prog 195 = some (false, 1) := by kernel_rfl
@[go_sem] theorem zOt : zr Tryz.prog 195 = some [.sl true 1 []] := by kernel_rfl
@[go_sem] theorem zLZ : ezT Tryz.prog 195 = 1 := by kernel_rfl
@[go_sem] theorem zLA : zaB Tryz.prog 195 = some 4 := by kernel_rfl
@[go_sem] theorem zKX : zaN Tryz.prog 195 = false := by kernel_rfl
@[go_sem] theorem zLw : esz Tryz.prog 195 = some 1 := by kernel_rfl
@[go_sem] theorem zM4 : ez Tryz.prog 195 = some (1, 1, [.bool false]) := by kernel_rfl
@[go_sem] theorem zLd {i : Nat} : za0 Tryz.prog 195 i = 0 := by kernel_rfl
@[go_sem] theorem zMt : tk Tryz.prog 197 = some (true, 4) := by kernel_rfl
@[go_sem] theorem zMM : zr Tryz.prog 197 = some [.int .i64 0, .int .i64 0, .int .i64 0, .bool false] := by kernel_rfl
@[go_sem] theorem zLf : ezT Tryz.prog 197 = 0 := by kernel_rfl
@[go_sem] theorem zLy : zfJ Tryz.prog 197 = some (zaE Tryz.prog 197, [.int .i64 0, .int .i64 0, .int .i64 0, .bool false]) := by kernel_rfl
@[go_sem] theorem zEA : zaE Tryz.prog 197 0 = some (0, 1) := by kernel_rfl
@[go_sem] theorem zGI : za0 Tryz.prog 197 0 = 0 := by kernel_rfl
@[go_sem] theorem zFZ : zaE Tryz.prog 197 1 = some (1, 1) := by kernel_rfl
@[go_sem] theorem zF1 : za0 Tryz.prog 197 1 = 0 := by kernel_rfl
@[go_sem] theorem zEt : zaE Tryz.prog 197 2 = some (2, 1) := by kernel_rfl
@[go_sem] theorem zGt : za0 Tryz.prog 197 2 = 0 := by kernel_rfl
@[go_sem] theorem zFS : zaE Tryz.prog 197 3 = some (3, 1) := by kernel_rfl
@[go_sem] theorem zET : za0 Tryz.prog 197 3 = 0 := by kernel_rfl
@[go_sem] theorem zN6 : tk Tryz.prog 217 = some (true, 4) := by kernel_rfl
@[go_sem] theorem zMU : zr Tryz.prog 217 = some [.int .i64 0, .int .i64 0, .int .i64 0, .int .i64 0] := by kernel_rfl
@[go_sem] theorem zKP : ezT Tryz.prog 217 = 0 := by kernel_rfl
@[go_sem] theorem zKx : zfJ Tryz.prog 217 = some (zaE Tryz.prog 217, [.int .i64 0, .int .i64 0, .int .i64 0, .int .i64 0]) := by kernel_rfl
@[go_sem] theorem zEx : zaE Tryz.prog 217 0 = some (0, 1) := by kernel_rfl
@[go_sem] theorem zDT : za0 Tryz.prog 217 0 = 0 := by kernel_rfl
@[go_sem] theorem zEq : zaE Tryz.prog 217 1 = some (1, 1) := by kernel_rfl
@[go_sem] theorem zDs : za0 Tryz.prog 217 1 = 0 := by kernel_rfl
@[go_sem] theorem zG1 : zaE Tryz.prog 217 2 = some (2, 1) := by kernel_rfl
@[go_sem] theorem zDR : za0 Tryz.prog 217 2 = 0 := by kernel_rfl
@[go_sem] theorem zGP : zaE Tryz.prog 217 3 = some (3, 1) := by kernel_rfl
@[go_sem] theorem zDV : za0 Tryz.prog 217 3 = 0 := by kernel_rfl
@[go_sem] theorem zMP : tk Tryz.prog 219 = some (false, 1) := by kernel_rfl
@[go_sem] theorem zOa : zr Tryz.prog 219 = some [.nilp] := by kernel_rfl
@[go_sem] theorem zLO : ezT Tryz.prog 219 = 0 := by kernel_rfl
@[go_sem] theorem zOd : tk Tryz.prog 221 = some (true, 2) := by kernel_rfl
@[go_sem] theorem zNc : zr Tryz.prog 221 = some [.int .i64 0, .int .i64 0] := by kernel_rfl
@[go_sem] theorem zLs : ezT Tryz.prog 221 = 0 := by kernel_rfl
@[go_sem] theorem zMk : zfJ Tryz.prog 221 = some (zaE Tryz.prog 221, [.int .i64 0, .int .i64 0]) := by kernel_rfl
@[go_sem] theorem zFN : zaE Tryz.prog 221 0 = some (0, 1) := by kernel_rfl
@[go_sem] theorem zEI : za0 Tryz.prog 221 0 = 0 := by kernel_rfl
@[go_sem] theorem zEU : zaE Tryz.prog 221 1 = some (1, 1) := by kernel_rfl
@[go_sem] theorem zGB : za0 Tryz.prog 221 1 = 0 := by kernel_rfl
theorem follows : Tryz.prog.follows .mixedOrders = true := by kernel_rfl
theorem cl4 : zae Tryz.prog 4 := fun args w => Tryz.call4 args w
theorem zFb : zae Tryz.prog 12 := fun args w => Tryz.call12 args w
theorem zEa : zae Tryz.prog 18 := fun args w => Tryz.call18 args w
theorem zDJ : zae Tryz.prog 19 := fun args w => Tryz.call19 args w
theorem zEK : zae Tryz.prog 20 := fun args w => Tryz.call20 args w
theorem zEG : zae Tryz.prog 21 := fun args w => Tryz.call21 args w
theorem zGo : zae Tryz.prog 22 := fun args w => Tryz.call22 args w
theorem zGe : zae Tryz.prog 23 := fun args w => Tryz.call23 args w
theorem zD4 : zae Tryz.prog 24 := fun args w => Tryz.call24 args w
theorem zFO : zae Tryz.prog 25 := fun args w => Tryz.call25 args w
theorem zF0 : zae Tryz.prog 26 := fun args w => Tryz.call26 args w
theorem zE5 : zae Tryz.prog 27 := fun args w => Tryz.call27 args w
theorem zEb : zae Tryz.prog 28 := fun args w => Tryz.call28 args w
theorem zw1 : zae Tryz.prog 30 := fun args w => Tryz.call30 args w
theorem zFX : zae Tryz.prog 31 := fun args w => Tryz.call31 args w
theorem zFV : zae Tryz.prog 32 := fun args w => Tryz.call32 args w
theorem zGb : zae Tryz.prog 35 := fun args w => Tryz.call35 args w
theorem zF2 : zae Tryz.prog 36 := fun args w => Tryz.call36 args w
theorem zGR : zae Tryz.prog 39 := fun args w => Tryz.call39 args w
theorem zGk : zae Tryz.prog 40 := fun args w => Tryz.call40 args w
theorem zFH : zae Tryz.prog 44 := fun args w => Tryz.call44 args w
theorem zEu : zae Tryz.prog 46 := fun args w => Tryz.call46 args w
theorem zDL : zae Tryz.prog 48 := fun args w => Tryz.call48 args w
theorem zDn : zae Tryz.prog 49 := fun args w => Tryz.call49 args w
theorem zE0 : zae Tryz.prog 50 := fun args w => Tryz.call50 args w
theorem zGH : zae Tryz.prog 51 := fun args w => Tryz.call51 args w
theorem zFx : zae Tryz.prog 52 := fun args w => Tryz.call52 args w
theorem zDM : zae Tryz.prog 56 := fun args w => Tryz.call56 args w
theorem zF4 : zae Tryz.prog 57 := fun args w => Tryz.call57 args w
theorem zFp : zae Tryz.prog 58 := fun args w => Tryz.call58 args w
theorem zD2 : zae Tryz.prog 60 := fun args w => Tryz.call60 args w
theorem zEr : zae Tryz.prog 62 := fun args w => Tryz.call62 args w
theorem zGm : zae Tryz.prog 63 := fun args w => Tryz.call63 args w
theorem zGW : zae Tryz.prog 64 := fun args w => Tryz.call64 args w
theorem zDN : zae Tryz.prog 65 := fun args w => Tryz.call65 args w
theorem zHh : zae Tryz.prog 66 := fun args w => Tryz.call66 args w
theorem zFi : zae Tryz.prog 67 := fun args w => Tryz.call67 args w
theorem zFK : zae Tryz.prog 68 := fun args w => Tryz.call68 args w
theorem zEj : zae Tryz.prog 69 := fun args w => Tryz.call69 args w
theorem zFE : zae Tryz.prog 70 := fun args w => Tryz.call70 args w
theorem zDc : zae Tryz.prog 71 := fun args w => Tryz.call71 args w
theorem zER : zae Tryz.prog 72 := fun args w => Tryz.call72 args w
theorem zGg : zae Tryz.prog 73 := fun args w => Tryz.call73 args w
theorem zGS : zae Tryz.prog 74 := fun args w => Tryz.call74 args w
theorem zDq : zae Tryz.prog 75 := fun args w => Tryz.call75 args w
theorem zGY : zae Tryz.prog 76 := fun args w => Tryz.call76 args w
theorem zD3 : zae Tryz.prog 77 := fun args w => Tryz.call77 args w
theorem zGw : zae Tryz.prog 78 := fun args w => Tryz.call78 args w
theorem zF3 : zae Tryz.prog 79 := fun args w => Tryz.call79 args w
theorem zEd : zae Tryz.prog 80 := fun args w => Tryz.call80 args w
theorem zFR : zae Tryz.prog 81 := fun args w => Tryz.call81 args w
theorem zGs : zae Tryz.prog 82 := fun args w => Tryz.call82 args w
theorem zDQ : zae Tryz.prog 83 := fun args w => Tryz.call83 args w
theorem zGc : zae Tryz.prog 84 := fun args w => Tryz.call84 args w
theorem zFQ : zae Tryz.prog 85 := fun args w => Tryz.call85 args w
theorem zEC : zae Tryz.prog 86 := fun args w => Tryz.call86 args w
theorem zDE : zae Tryz.prog 87 := fun args w => Tryz.call87 args w
theorem zGx : zae Tryz.prog 88 := fun args w => Tryz.call88 args w
theorem zFo : zae Tryz.prog 89 := fun args w => Tryz.call89 args w
theorem zDB : zae Tryz.prog 90 := fun args w => Tryz.call90 args w
theorem zru : zae Tryz.prog 91 := fun args w => Tryz.call91 args w
theorem zHc : zae Tryz.prog 93 := fun args w => Tryz.call93 args w
theorem zGj : zae Tryz.prog 94 := fun args w => Tryz.call94 args w
theorem zF5 : zae Tryz.prog 95 := fun args w => Tryz.call95 args w
theorem zDY : zae Tryz.prog 99 := fun args w => Tryz.call99 args w
theorem zAp : zae Tryz.prog 100 := fun args w => Tryz.call100 args w
theorem zAI : zae Tryz.prog 101 := fun args w => Tryz.call101 args w
theorem zBH : zae Tryz.prog 104 := fun args w => Tryz.call104 args w
theorem zzJ : zae Tryz.prog 105 := fun args w => Tryz.call105 args w
theorem zzo : zae Tryz.prog 106 := fun args w => Tryz.call106 args w
theorem zz3 : zae Tryz.prog 111 := fun args w => Tryz.call111 args w
theorem zBw : zae Tryz.prog 112 := fun args w => Tryz.call112 args w
theorem zzF : zae Tryz.prog 113 := fun args w => Tryz.call113 args w
theorem zAV : zae Tryz.prog 114 := fun args w => Tryz.call114 args w
theorem zzZ : zae Tryz.prog 115 := fun args w => Tryz.call115 args w
theorem zzt : zae Tryz.prog 116 := fun args w => Tryz.call116 args w
theorem zBx : zae Tryz.prog 117 := fun args w => Tryz.call117 args w
theorem zAh : zae Tryz.prog 118 := fun args w => Tryz.call118 args w
theorem zAa : zae Tryz.prog 119 := fun args w => Tryz.call119 args w
theorem zAP : zae Tryz.prog 120 := fun args w => Tryz.call120 args w
theorem zAi : zae Tryz.prog 121 := fun args w => Tryz.call121 args w
theorem zAJ : zae Tryz.prog 122 := fun args w => Tryz.call122 args w
theorem zzN : zae Tryz.prog 123 := fun args w => Tryz.call123 args w
theorem zzj : zae Tryz.prog 124 := fun args w => Tryz.call124 args w
theorem zBc : zae Tryz.prog 125 := fun args w => Tryz.call125 args w
theorem zzQ : zae Tryz.prog 126 := fun args w => Tryz.call126 args w
theorem zzK : zae Tryz.prog 127 := fun args w => Tryz.call127 args w
theorem zzq : zae Tryz.prog 128 := fun args w => Tryz.call128 args w
theorem zAe : zae Tryz.prog 129 := fun args w => Tryz.call129 args w
theorem zz1 : zae Tryz.prog 130 := fun args w => Tryz.call130 args w
theorem zyQ : zae Tryz.prog 131 := fun args w => Tryz.call131 args w
theorem zzp : zae Tryz.prog 132 := fun args w => Tryz.call132 args w
theorem zBf : zae Tryz.prog 133 := fun args w => Tryz.call133 args w
theorem zy4 : zae Tryz.prog 134 := fun args w => Tryz.call134 args w
theorem zzx : zae Tryz.prog 135 := fun args w => Tryz.call135 args w
theorem zz9 : zae Tryz.prog 136 := fun args w => Tryz.call136 args w
theorem zAQ : zae Tryz.prog 137 := fun args w => Tryz.call137 args w
theorem zAE : zae Tryz.prog 138 := fun args w => Tryz.call138 args w
theorem zBa : zae Tryz.prog 139 := fun args w => Tryz.call139 args w
theorem zBz : zae Tryz.prog 140 := fun args w => Tryz.call140 args w
theorem zBI : zae Tryz.prog 141 := fun args w => Tryz.call141 args w
theorem zBg : zae Tryz.prog 142 := fun args w => Tryz.call142 args w
theorem zBn : zae Tryz.prog 143 := fun args w => Tryz.call143 args w
theorem zzu : zae Tryz.prog 144 := fun args w => Tryz.call144 args w
theorem zzW : zae Tryz.prog 145 := fun args w => Tryz.call145 args w
theorem zzV : zae Tryz.prog 146 := fun args w => Tryz.call146 args w
theorem zBj : zae Tryz.prog 147 := fun args w => Tryz.call147 args w
theorem zzh : zae Tryz.prog 148 := fun args w => Tryz.call148 args w
theorem zzs : zae Tryz.prog 149 := fun args w => Tryz.call149 args w
theorem zzI : zae Tryz.prog 150 := fun args w => Tryz.call150 args w
theorem zAs : zae Tryz.prog 151 := fun args w => Tryz.call151 args w
theorem zAG : zae Tryz.prog 152 := fun args w => Tryz.call152 args w
theorem zBO : zae Tryz.prog 153 := fun args w => Tryz.call153 args w
theorem zol : zae Tryz.prog 154 := fun args w => Tryz.call154 args w
theorem zot : zae Tryz.prog 155 := fun args w => Tryz.call155 args w
theorem zBq : zae Tryz.prog 156 := fun args w => Tryz.call156 args w
theorem zzB : zae Tryz.prog 160 := fun args w => Tryz.call160 args w
theorem zyS : zae Tryz.prog 162 := fun args w => Tryz.call162 args w
theorem zzr : zae Tryz.prog 165 := fun args w => Tryz.call165 args w
theorem zBm : zae Tryz.prog 172 := fun args w => Tryz.call172 args w
theorem zz8 : zae Tryz.prog 173 := fun args w => Tryz.call173 args w
theorem zBd : zae Tryz.prog 174 := fun args w => Tryz.call174 args w
theorem zAB : zae Tryz.prog 175 := fun args w => Tryz.call175 args w
theorem zAq : zae Tryz.prog 176 := fun args w => Tryz.call176 args w
theorem zAU : zae Tryz.prog 177 := fun args w => Tryz.call177 args w
theorem zAR : zae Tryz.prog 178 := fun args w => Tryz.call178 args w
theorem zzy : zae Tryz.prog 179 := fun args w => Tryz.call179 args w
theorem zBy : zae Tryz.prog 180 := fun args w => Tryz.call180 args w
theorem zy5 : zae Tryz.prog 181 := fun args w => Tryz.call181 args w
theorem zzm : zae Tryz.prog 182 := fun args w => Tryz.call182 args w
theorem zAz : zae Tryz.prog 183 := fun args w => Tryz.call183 args w
theorem zBA : zae Tryz.prog 184 := fun args w => Tryz.call184 args w
theorem zoA : zae Tryz.prog 185 := fun args w => Tryz.call185 args w
theorem zAD : zae Tryz.prog 194 := fun args w => Tryz.call194 args w
theorem zBp : zae Tryz.prog 195 := fun args w => Tryz.call195 args w
theorem zBK : zae Tryz.prog 196 := fun args w => Tryz.call196 args w
theorem zAw : zae Tryz.prog 197 := fun args w => Tryz.call197 args w
theorem zBJ : zae Tryz.prog 204 := fun args w => Tryz.call204 args w
theorem zAO : zae Tryz.prog 205 := fun args w => Tryz.call205 args w
theorem zAm : zae Tryz.prog 206 := fun args w => Tryz.call206 args w
theorem zAT : zae Tryz.prog 207 := fun args w => Tryz.call207 args w
theorem zAS : zae Tryz.prog 209 := fun args w => Tryz.call209 args w
theorem zz7 : zae Tryz.prog 210 := fun args w => Tryz.call210 args w
end Go.Pm
