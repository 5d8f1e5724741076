import Derived.Test.YtpkjdjnakplnjaaGreatPmW
import Derived.Test.YtpkjdjnakplnjaaGreatProg
import Derived.KernelRfl
namespace Go.Pm
open Go.Am
open Go.Proofs
set_option maxRecDepth 100000
@[go_sem] theorem tk3 : tk Tryz.prog 3 = some (false, 1) := by kernel_rfl
@[go_sem] theorem zr3 : zr Tryz.prog 3 = some [.int .i64 0] := by kernel_rfl
@[go_sem] theorem zQo : ezT Tryz.prog 3 = 0 := by kernel_rfl
@[go_sem] theorem zQc : zdI Tryz.prog 3 = some .i64 := by kernel_rfl
@[go_sem] theorem zP8 : zaI Tryz.prog 3 = false := by kernel_rfl
@[go_sem] theorem tk4 : tk Tryz.prog 4 = some (false, 1) := by kernel_rfl
@[go_sem] theorem zr4 : zr Tryz.prog 4 = some [.bool false] := by kernel_rfl
@[go_sem] theorem zQQ : ezT Tryz.prog 4 = 0 := by kernel_rfl
@[go_sem] theorem zQH : zhJ Tryz.prog 4 = true := by kernel_rfl
@[go_sem] theorem tk5 : tk Tryz.prog 5 = some (false, 1) := by kernel_rfl
@[go_sem] theorem zr5 : zr Tryz.prog 5 = some [.int .u8 0] := by kernel_rfl
@[go_sem] theorem zQF : ezT Tryz.prog 5 = 0 := by kernel_rfl
@[go_sem] theorem zQj : zdI Tryz.prog 5 = some .u8 := by kernel_rfl
@[go_sem] theorem zQT : zaI Tryz.prog 5 = false := by kernel_rfl
@[go_sem] theorem tk9 : tk Tryz.prog 9 = some (false, 1) := by kernel_rfl
@[go_sem] theorem zr9 : zr Tryz.prog 9 = some [.str ⟨#[]⟩] := by kernel_rfl
@[go_sem] theorem zQN : ezT Tryz.prog 9 = 0 := by kernel_rfl
@[go_sem] theorem zQO : zaI Tryz.prog 9 = true := by kernel_rfl
@[go_sem] theorem zQz : tk Tryz.prog 20 = some (false, 1) := by kernel_rfl
@[go_sem] theorem zQS : zr Tryz.prog 20 = some [.nili] := by kernel_rfl
@[go_sem] theorem zPM : ezT Tryz.prog 20 = 0 := by kernel_rfl
@[go_sem] theorem zQw : tk Tryz.prog 22 = some (false, 1) := by kernel_rfl
@[go_sem] theorem zQL : zr Tryz.prog 22 = some [.sl true 1 []] := by kernel_rfl
@[go_sem] theorem zOp : ezT Tryz.prog 22 = 1 := by kernel_rfl
@[go_sem] theorem zNI : zay Tryz.prog 22 = some 5 := by kernel_rfl
@[go_sem] theorem zOO : zaI Tryz.prog 22 = false := by kernel_rfl
@[go_sem] theorem zNN : esz Tryz.prog 22 = some 1 := by kernel_rfl
@[go_sem] theorem zPe : zha Tryz.prog 22 = true := by kernel_rfl
@[go_sem] theorem zQk : ez Tryz.prog 22 = some (1, 1, [.int .u8 0]) := by kernel_rfl
@[go_sem] theorem zNY {i : Nat} : zaQ Tryz.prog 22 i = 0 := by kernel_rfl
@[go_sem] theorem zP6 : tk Tryz.prog 24 = some (true, 3) := by kernel_rfl
@[go_sem] theorem zQA : zr Tryz.prog 24 = some [.int .i64 0, .int .i64 0, .int .i64 0] := by kernel_rfl
@[go_sem] theorem zPb : ezT Tryz.prog 24 = 0 := by kernel_rfl
@[go_sem] theorem zO3 : zfN Tryz.prog 24 = some (zaA Tryz.prog 24, [.int .i64 0, .int .i64 0, .int .i64 0]) := by kernel_rfl
@[go_sem] theorem zJt : zaA Tryz.prog 24 0 = some (0, 1) := by kernel_rfl
@[go_sem] theorem zJW : zaQ Tryz.prog 24 0 = 0 := by kernel_rfl
@[go_sem] theorem zJY : zaA Tryz.prog 24 1 = some (1, 1) := by kernel_rfl
@[go_sem] theorem zIZ : zaQ Tryz.prog 24 1 = 0 := by kernel_rfl
@[go_sem] theorem zKZ : zaA Tryz.prog 24 2 = some (2, 1) := by kernel_rfl
@[go_sem] theorem zJK : zaQ Tryz.prog 24 2 = 0 := by kernel_rfl
@[go_sem] theorem zQa : tk Tryz.prog 25 = some (false, 1) := by kernel_rfl
@[go_sem] theorem zQn : zr Tryz.prog 25 = some [.sl true 1 []] := by kernel_rfl
@[go_sem] theorem zOi : ezT Tryz.prog 25 = 1 := by kernel_rfl
@[go_sem] theorem zNT : zay Tryz.prog 25 = some 3 := by kernel_rfl
@[go_sem] theorem zPT : zaI Tryz.prog 25 = false := by kernel_rfl
@[go_sem] theorem zPO : esz Tryz.prog 25 = some 1 := by kernel_rfl
@[go_sem] theorem zGb : ez Tryz.prog 25 = some (1, 8, [.int .i64 0]) := by kernel_rfl
@[go_sem] theorem zNK {i : Nat} : zaQ Tryz.prog 25 i = 0 := by kernel_rfl
@[go_sem] theorem zQu : tk Tryz.prog 29 = some (true, 2) := by kernel_rfl
@[go_sem] theorem zQr : zr Tryz.prog 29 = some [.sl true 1 [], .sl true 1 []] := by kernel_rfl
@[go_sem] theorem zP3 : ezT Tryz.prog 29 = 0 := by kernel_rfl
@[go_sem] theorem zOg : zfN Tryz.prog 29 = some (zaA Tryz.prog 29, [.sl true 1 [], .sl true 1 []]) := by kernel_rfl
@[go_sem] theorem zJl : zaA Tryz.prog 29 0 = some (0, 1) := by kernel_rfl
@[go_sem] theorem zIK : zaQ Tryz.prog 29 0 = 1 := by kernel_rfl
@[go_sem] theorem zLf : zaA Tryz.prog 29 1 = some (1, 1) := by kernel_rfl
@[go_sem] theorem zI7 : zaQ Tryz.prog 29 1 = 1 := by kernel_rfl
@[go_sem] theorem zQE : tk Tryz.prog 32 = some (false, 1) := by kernel_rfl
@[go_sem] theorem zQp : zr Tryz.prog 32 = some [.sl true 2 []] := by kernel_rfl
@[go_sem] theorem zPq : ezT Tryz.prog 32 = 2 := by kernel_rfl
@[go_sem] theorem zOX : zay Tryz.prog 32 = some 41 := by kernel_rfl
@[go_sem] theorem zPm : zaI Tryz.prog 32 = false := by kernel_rfl
@[go_sem] theorem zN4 : esz Tryz.prog 32 = some 2 := by kernel_rfl
@[go_sem] theorem zQi : ez Tryz.prog 32 = some (2, 16, [.int .i64 0, .int .i64 0]) := by kernel_rfl
@[go_sem] theorem zO4 {i : Nat} : zaQ Tryz.prog 32 i = 0 := by kernel_rfl
@[go_sem] theorem zP9 : tk Tryz.prog 33 = some (false, 1) := by kernel_rfl
@[go_sem] theorem zQf : zr Tryz.prog 33 = some [.sl true 1 []] := by kernel_rfl
@[go_sem] theorem zPt : ezT Tryz.prog 33 = 1 := by kernel_rfl
@[go_sem] theorem zNR : zay Tryz.prog 33 = some 45 := by kernel_rfl
@[go_sem] theorem zPF : zaI Tryz.prog 33 = false := by kernel_rfl
@[go_sem] theorem zO9 : esz Tryz.prog 33 = some 1 := by kernel_rfl
@[go_sem] theorem zQs : ez Tryz.prog 33 = some (1, 24, [.sl false 5 []]) := by kernel_rfl
@[go_sem] theorem zPr {i : Nat} : zaQ Tryz.prog 33 i = 5 := by kernel_rfl
@[go_sem] theorem zQD : tk Tryz.prog 41 = some (true, 2) := by kernel_rfl
@[go_sem] theorem zQR : zr Tryz.prog 41 = some [.int .i64 0, .int .i64 0] := by kernel_rfl
@[go_sem] theorem zPw : ezT Tryz.prog 41 = 0 := by kernel_rfl
@[go_sem] theorem zOD : zfN Tryz.prog 41 = some (zaA Tryz.prog 41, [.int .i64 0, .int .i64 0]) := by kernel_rfl
@[go_sem] theorem zIQ : zaA Tryz.prog 41 0 = some (0, 1) := by kernel_rfl
@[go_sem] theorem zKW : zaQ Tryz.prog 41 0 = 0 := by kernel_rfl
@[go_sem] theorem zJ6 : zaA Tryz.prog 41 1 = some (1, 1) := by kernel_rfl
@[go_sem] theorem zLq : zaQ Tryz.prog 41 1 = 0 := by kernel_rfl
@[go_sem] theorem zQB : tk Tryz.prog 45 = some (false, 1) := by kernel_rfl
@[go_sem] theorem zQU : zr Tryz.prog 45 = some [.sl true 5 []] := by kernel_rfl
@[go_sem] theorem zOj : ezT Tryz.prog 45 = 5 := by kernel_rfl
@[go_sem] theorem zNS : zay Tryz.prog 45 = some 54 := by kernel_rfl
@[go_sem] theorem zPi : zaI Tryz.prog 45 = false := by kernel_rfl
@[go_sem] theorem zOK : esz Tryz.prog 45 = some 5 := by kernel_rfl
@[go_sem] theorem zQt : ez Tryz.prog 45 = some (5, 88, [.int .i64 0, .int .i64 0, .sl false 1 [], .sl false 1 [], .sl false 1 []]) := by kernel_rfl
@[go_sem] theorem zNZ {i : Nat} : zaQ Tryz.prog 45 i = 0 := by kernel_rfl
@[go_sem] theorem zQM : tk Tryz.prog 52 = some (true, 3) := by kernel_rfl
@[go_sem] theorem zQC : zr Tryz.prog 52 = some [.sl true 1 [], .sl true 1 [], .sl true 1 []] := by kernel_rfl
@[go_sem] theorem zPR : ezT Tryz.prog 52 = 0 := by kernel_rfl
@[go_sem] theorem zPA : zfN Tryz.prog 52 = some (zaA Tryz.prog 52, [.sl true 1 [], .sl true 1 [], .sl true 1 []]) := by kernel_rfl
@[go_sem] theorem zLg : zaA Tryz.prog 52 0 = some (0, 1) := by kernel_rfl
@[go_sem] theorem zKS : zaQ Tryz.prog 52 0 = 1 := by kernel_rfl
@[go_sem] theorem zJM : zaA Tryz.prog 52 1 = some (1, 1) := by kernel_rfl
@[go_sem] theorem zIG : zaQ Tryz.prog 52 1 = 1 := by kernel_rfl
@[go_sem] theorem zKt : zaA Tryz.prog 52 2 = some (2, 1) := by kernel_rfl
@[go_sem] theorem zIC : zaQ Tryz.prog 52 2 = 1 := by kernel_rfl
@[go_sem] theorem zQx : tk Tryz.prog 54 = some (true, 5) := by kernel_rfl
@[go_sem] theorem zQq : zr Tryz.prog 54 = some [.int .i64 0, .int .i64 0, .sl true 1 [], .sl true 1 [], .sl true 1 []] := by kernel_rfl
@[go_sem] theorem zOE : ezT Tryz.prog 54 = 0 := by kernel_rfl
@[go_sem] theorem zO0 : zfN Tryz.prog 54 = some (zaA Tryz.prog 54, [.int .i64 0, .int .i64 0, .sl true 1 [], .sl true 1 [], .sl true 1 []]) := by kernel_rfl
@[go_sem] theorem zKI : zaA Tryz.prog 54 0 = some (0, 1) := by kernel_rfl
@[go_sem] theorem zKH : zaQ Tryz.prog 54 0 = 0 := by kernel_rfl
@[go_sem] theorem zLi : zaA Tryz.prog 54 1 = some (1, 1) := by kernel_rfl
@[go_sem] theorem zJR : zaQ Tryz.prog 54 1 = 0 := by kernel_rfl
@[go_sem] theorem zKU : zaA Tryz.prog 54 2 = some (2, 3) := by kernel_rfl
@[go_sem] theorem zKk : zaQ Tryz.prog 54 2 = 0 := by kernel_rfl
@[go_sem] theorem zP5 : tk Tryz.prog 59 = some (true, 5) := by kernel_rfl
@[go_sem] theorem zQl : zr Tryz.prog 59 = some [.sl true 1 [], .sl true 1 [], .sl true 1 [], .sl true 1 [], .sl true 1 []] := by kernel_rfl
@[go_sem] theorem zNX : ezT Tryz.prog 59 = 0 := by kernel_rfl
@[go_sem] theorem zOq : zfN Tryz.prog 59 = some (zaA Tryz.prog 59, [.sl true 1 [], .sl true 1 [], .sl true 1 [], .sl true 1 [], .sl true 1 []]) := by kernel_rfl
@[go_sem] theorem zJV : zaA Tryz.prog 59 0 = some (0, 1) := by kernel_rfl
@[go_sem] theorem zIY : zaQ Tryz.prog 59 0 = 1 := by kernel_rfl
@[go_sem] theorem zK2 : zaA Tryz.prog 59 1 = some (1, 1) := by kernel_rfl
@[go_sem] theorem zLk : zaQ Tryz.prog 59 1 = 1 := by kernel_rfl
@[go_sem] theorem zJX : zaA Tryz.prog 59 2 = some (2, 3) := by kernel_rfl
@[go_sem] theorem zKD : zaQ Tryz.prog 59 2 = 0 := by kernel_rfl
@[go_sem] theorem zQg : tk Tryz.prog 71 = some (false, 1) := by kernel_rfl
@[go_sem] theorem zQm : zr Tryz.prog 71 = some [.nilp] := by kernel_rfl
@[go_sem] theorem zNM : ezT Tryz.prog 71 = 0 := by kernel_rfl
@[go_sem] theorem zQI : tk Tryz.prog 72 = some (false, 1) := by kernel_rfl
@[go_sem] theorem zQb : zr Tryz.prog 72 = some [.int .u64 0] := by kernel_rfl
@[go_sem] theorem zO8 : ezT Tryz.prog 72 = 0 := by kernel_rfl
@[go_sem] theorem zPW : zdI Tryz.prog 72 = some .u64 := by kernel_rfl
@[go_sem] theorem zPJ : zaI Tryz.prog 72 = false := by kernel_rfl
@[go_sem] theorem zP7 : tk Tryz.prog 74 = some (true, 3) := by kernel_rfl
@[go_sem] theorem zQv : zr Tryz.prog 74 = some [.sl true 1 [], .int .i64 0, .int .u64 0] := by kernel_rfl
@[go_sem] theorem zOJ : ezT Tryz.prog 74 = 0 := by kernel_rfl
@[go_sem] theorem zPV : zfN Tryz.prog 74 = some (zaA Tryz.prog 74, [.sl true 1 [], .int .i64 0, .int .u64 0]) := by kernel_rfl
@[go_sem] theorem zKq : zaA Tryz.prog 74 0 = some (0, 1) := by kernel_rfl
@[go_sem] theorem zKs : zaQ Tryz.prog 74 0 = 1 := by kernel_rfl
@[go_sem] theorem zJL : zaA Tryz.prog 74 1 = some (1, 1) := by kernel_rfl
@[go_sem] theorem zKK : zaQ Tryz.prog 74 1 = 0 := by kernel_rfl
@[go_sem] theorem zJ3 : zaA Tryz.prog 74 2 = some (2, 1) := by kernel_rfl
@[go_sem] theorem zJ8 : zaQ Tryz.prog 74 2 = 0 := by kernel_rfl
@[go_sem] theorem zQh : tk Tryz.prog 80 = some (false, 1) := by kernel_rfl
@[go_sem] theorem zQG : zr Tryz.prog 80 = some [.nilf] := by kernel_rfl
@[go_sem] theorem zPP : ezT Tryz.prog 80 = 0 := by kernel_rfl
@[go_sem] theorem zQJ : tk Tryz.prog 91 = some (false, 1) := by kernel_rfl
@[go_sem] theorem zQK : zr Tryz.prog 91 = some [.nilf] := by kernel_rfl
@[go_sem] theorem zOh : ezT Tryz.prog 91 = 0 := by kernel_rfl
@[go_sem] theorem zQd : tk Tryz.prog 93 = some (false, 1) := by kernel_rfl
@[go_sem] theorem zQP : zr Tryz.prog 93 = some [.nilf] := by kernel_rfl
@[go_sem] theorem zNV : ezT Tryz.prog 93 = 0 := by kernel_rfl
@[go_sem] theorem zPn : tk Tryz.prog 103 = some (true, 2) := by kernel_rfl
@[go_sem] theorem zPz : zr Tryz.prog 103 = some [.int .i64 0, .sl true 1 []] := by kernel_rfl
@[go_sem] theorem zMp : ezT Tryz.prog 103 = 0 := by kernel_rfl
@[go_sem] theorem zMj : zfN Tryz.prog 103 = some (zaA Tryz.prog 103, [.int .i64 0, .sl true 1 []]) := by kernel_rfl
@[go_sem] theorem zGU : zaA Tryz.prog 103 0 = some (0, 1) := by kernel_rfl
@[go_sem] theorem zFo : zaQ Tryz.prog 103 0 = 0 := by kernel_rfl
@[go_sem] theorem zEB : zaA Tryz.prog 103 1 = some (1, 1) := by kernel_rfl
@[go_sem] theorem zFQ : zaQ Tryz.prog 103 1 = 1 := by kernel_rfl
@[go_sem] theorem zPX : tk Tryz.prog 130 = some (true, 4) := by kernel_rfl
@[go_sem] theorem zPl : zr Tryz.prog 130 = some [.sl true 1 [], .int .i64 0, .sl true 1 [], .sl true 1 []] := by kernel_rfl
@[go_sem] theorem zNG : ezT Tryz.prog 130 = 0 := by kernel_rfl
@[go_sem] theorem zMP : zfN Tryz.prog 130 = some (zaA Tryz.prog 130, [.sl true 1 [], .int .i64 0, .sl true 1 [], .sl true 1 []]) := by kernel_rfl
@[go_sem] theorem zEw : zaA Tryz.prog 130 0 = some (0, 1) := by kernel_rfl
@[go_sem] theorem zFp : zaQ Tryz.prog 130 0 = 1 := by kernel_rfl
@[go_sem] theorem zIl : zaA Tryz.prog 130 1 = some (1, 1) := by kernel_rfl
@[go_sem] theorem zGt : zaQ Tryz.prog 130 1 = 0 := by kernel_rfl
@[go_sem] theorem zFM : zaA Tryz.prog 130 2 = some (2, 1) := by kernel_rfl
@[go_sem] theorem zF0 : zaQ Tryz.prog 130 2 = 1 := by kernel_rfl
@[go_sem] theorem zIw : zaA Tryz.prog 130 3 = some (3, 1) := by kernel_rfl
@[go_sem] theorem zFU : zaQ Tryz.prog 130 3 = 1 := by kernel_rfl
@[go_sem] theorem zN8 : tk Tryz.prog 137 = some (false, 1) := by kernel_rfl
@[go_sem] theorem zOu : zr Tryz.prog 137 = some [.sl true 1 []] := by kernel_rfl
@[go_sem] theorem zNH : ezT Tryz.prog 137 = 1 := by kernel_rfl
@[go_sem] theorem zNi : zay Tryz.prog 137 = some 25 := by kernel_rfl
@[go_sem] theorem zNd : zaI Tryz.prog 137 = false := by kernel_rfl
@[go_sem] theorem zMh : esz Tryz.prog 137 = some 1 := by kernel_rfl
@[go_sem] theorem zOt : ez Tryz.prog 137 = some (1, 24, [.sl false 1 []]) := by kernel_rfl
@[go_sem] theorem zMI {i : Nat} : zaQ Tryz.prog 137 i = 1 := by kernel_rfl
@[go_sem] theorem zNL : tk Tryz.prog 145 = some (false, 1) := by kernel_rfl
@[go_sem] theorem zO2 : zr Tryz.prog 145 = some [.nilp] := by kernel_rfl
@[go_sem] theorem zNq : ezT Tryz.prog 145 = 0 := by kernel_rfl
@[go_sem] theorem zPk : tk Tryz.prog 147 = some (true, 1) := by kernel_rfl
@[go_sem] theorem zN2 : zr Tryz.prog 147 = some [.sl true 1 []] := by kernel_rfl
@[go_sem] theorem zL5 : ezT Tryz.prog 147 = 0 := by kernel_rfl
@[go_sem] theorem zMk : zfN Tryz.prog 147 = some (zaA Tryz.prog 147, [.sl true 1 []]) := by kernel_rfl
@[go_sem] theorem zFu : zaA Tryz.prog 147 0 = some (0, 1) := by kernel_rfl
@[go_sem] theorem zHg : zaQ Tryz.prog 147 0 = 1 := by kernel_rfl
@[go_sem] theorem zOQ : tk Tryz.prog 171 = some (false, 1) := by kernel_rfl
@[go_sem] theorem zP1 : zr Tryz.prog 171 = some [.int .u64 0] := by kernel_rfl
@[go_sem] theorem zMf : ezT Tryz.prog 171 = 0 := by kernel_rfl
@[go_sem] theorem zMv : zdI Tryz.prog 171 = some .u64 := by kernel_rfl
@[go_sem] theorem zMz : zaI Tryz.prog 171 = false := by kernel_rfl
@[go_sem] theorem zOF : tk Tryz.prog 172 = some (false, 1) := by kernel_rfl
@[go_sem] theorem zPd : zr Tryz.prog 172 = some [.sl true 2 []] := by kernel_rfl
@[go_sem] theorem zNe : ezT Tryz.prog 172 = 2 := by kernel_rfl
@[go_sem] theorem zLY : zay Tryz.prog 172 = some 29 := by kernel_rfl
@[go_sem] theorem zMt : zaI Tryz.prog 172 = false := by kernel_rfl
@[go_sem] theorem zNj : esz Tryz.prog 172 = some 2 := by kernel_rfl
@[go_sem] theorem zP4 : ez Tryz.prog 172 = some (2, 48, [.sl false 1 [], .sl false 1 []]) := by kernel_rfl
@[go_sem] theorem zL2 {i : Nat} : zaQ Tryz.prog 172 i = 0 := by kernel_rfl
@[go_sem] theorem zOl : tk Tryz.prog 194 = some (false, 1) := by kernel_rfl
@[go_sem] theorem zOk : zr Tryz.prog 194 = some [.sl true 4 []] := by kernel_rfl
@[go_sem] theorem zLG : ezT Tryz.prog 194 = 4 := by kernel_rfl
@[go_sem] theorem zM4 : zay Tryz.prog 194 = some 197 := by kernel_rfl
@[go_sem] theorem zL8 : zaI Tryz.prog 194 = false := by kernel_rfl
@[go_sem] theorem zL6 : esz Tryz.prog 194 = some 4 := by kernel_rfl
@[go_sem] theorem zN1 : ez Tryz.prog 194 = some (4, 32, [.int .i64 0, .int .i64 0, .int .i64 0, .bool false]) := by kernel_rfl
@[go_sem] theorem zLP {i : Nat} : zaQ Tryz.prog 194 i = 0 := by kernel_rfl
@[go_sem] theorem zN3 : tk Tryz.prog 195 = some (false, 1) := by kernel_rfl
@[go_sem] theorem zN5 : zr Tryz.prog 195 = some [.sl true 1 []] := by kernel_rfl
@[go_sem] theorem zMc : ezT Tryz.prog 195 = 1 := by kernel_rfl
@[go_sem] theorem zMF : zay Tryz.prog 195 = some 4 := by kernel_rfl
@[go_sem] theorem zNk : zaI Tryz.prog 195 = false := by kernel_rfl
@[go_sem] theorem zNt : esz Tryz.prog 195 = some 1 := by kernel_rfl
@[go_sem] theorem zPs : ez Tryz.prog 195 = some (1, 1, [.bool false]) := by kernel_rfl
@[go_sem] theorem zND {i : Nat} : zaQ Tryz.prog 195 i = 0 := by kernel_rfl
@[go_sem] theorem zPf : tk Tryz.prog 197 = some (true, 4) := by kernel_rfl
@[go_sem] theorem zOR : zr Tryz.prog 197 = some [.int .i64 0, .int .i64 0, .int .i64 0, .bool false] := by kernel_rfl
@[go_sem] theorem zNB : ezT Tryz.prog 197 = 0 := by kernel_rfl
@[go_sem] theorem zLS : zfN Tryz.prog 197 = some (zaA Tryz.prog 197, [.int .i64 0, .int .i64 0, .int .i64 0, .bool false]) := by kernel_rfl
@[go_sem] theorem zFv : zaA Tryz.prog 197 0 = some (0, 1) := by kernel_rfl
@[go_sem] theorem zEo : zaQ Tryz.prog 197 0 = 0 := by kernel_rfl
@[go_sem] theorem zFT : zaA Tryz.prog 197 1 = some (1, 1) := by kernel_rfl
@[go_sem] theorem zGa : zaQ Tryz.prog 197 1 = 0 := by kernel_rfl
@[go_sem] theorem zFm : zaA Tryz.prog 197 2 = some (2, 1) := by kernel_rfl
@[go_sem] theorem zHV : zaQ Tryz.prog 197 2 = 0 := by kernel_rfl
@[go_sem] theorem zHu : zaA Tryz.prog 197 3 = some (3, 1) := by kernel_rfl
@[go_sem] theorem zEW : zaQ Tryz.prog 197 3 = 0 := by kernel_rfl
@[go_sem] theorem zOY : tk Tryz.prog 217 = some (true, 4) := by kernel_rfl
@[go_sem] theorem zPQ : zr Tryz.prog 217 = some [.int .i64 0, .int .i64 0, .int .i64 0, .int .i64 0] := by kernel_rfl
@[go_sem] theorem zMo : ezT Tryz.prog 217 = 0 := by kernel_rfl
@[go_sem] theorem zNr : zfN Tryz.prog 217 = some (zaA Tryz.prog 217, [.int .i64 0, .int .i64 0, .int .i64 0, .int .i64 0]) := by kernel_rfl
@[go_sem] theorem zHH : zaA Tryz.prog 217 0 = some (0, 1) := by kernel_rfl
@[go_sem] theorem zG2 : zaQ Tryz.prog 217 0 = 0 := by kernel_rfl
@[go_sem] theorem zHo : zaA Tryz.prog 217 1 = some (1, 1) := by kernel_rfl
@[go_sem] theorem zGn : zaQ Tryz.prog 217 1 = 0 := by kernel_rfl
@[go_sem] theorem zGW : zaA Tryz.prog 217 2 = some (2, 1) := by kernel_rfl
@[go_sem] theorem zEG : zaQ Tryz.prog 217 2 = 0 := by kernel_rfl
@[go_sem] theorem zFD : zaA Tryz.prog 217 3 = some (3, 1) := by kernel_rfl
@[go_sem] theorem zHf : zaQ Tryz.prog 217 3 = 0 := by kernel_rfl
@[go_sem] theorem zOL : tk Tryz.prog 219 = some (false, 1) := by kernel_rfl
@[go_sem] theorem zN0 : zr Tryz.prog 219 = some [.nilp] := by kernel_rfl
@[go_sem] theorem zNw : ezT Tryz.prog 219 = 0 := by kernel_rfl
@[go_sem] theorem zPu : tk Tryz.prog 221 = some (true, 2) := by kernel_rfl
@[go_sem] theorem zPN : zr Tryz.prog 221 = some [.int .i64 0, .int .i64 0] := by kernel_rfl
@[go_sem] theorem zM8 : ezT Tryz.prog 221 = 0 := by kernel_rfl
@[go_sem] theorem zMX : zfN Tryz.prog 221 = some (zaA Tryz.prog 221, [.int .i64 0, .int .i64 0]) := by kernel_rfl
@[go_sem] theorem zHO : zaA Tryz.prog 221 0 = some (0, 1) := by kernel_rfl
@[go_sem] theorem zHl : zaQ Tryz.prog 221 0 = 0 := by kernel_rfl
@[go_sem] theorem zFg : zaA Tryz.prog 221 1 = some (1, 1) := by kernel_rfl
@[go_sem] theorem zHR : zaQ Tryz.prog 221 1 = 0 := by kernel_rfl
theorem follows : Tryz.prog.follows .mixedOrders = true := by kernel_rfl
theorem cl3 : zae Tryz.prog 3 := fun args w => Tryz.call3 args w
theorem cl5 : zae Tryz.prog 5 := fun args w => Tryz.call5 args w
theorem cl6 : zae Tryz.prog 6 := fun args w => Tryz.call6 args w
theorem cl7 : zae Tryz.prog 7 := fun args w => Tryz.call7 args w
theorem cl8 : zae Tryz.prog 8 := fun args w => Tryz.call8 args w
theorem cl9 : zae Tryz.prog 9 := fun args w => Tryz.call9 args w
theorem zGw : zae Tryz.prog 10 := fun args w => Tryz.call10 args w
theorem zGe : zae Tryz.prog 11 := fun args w => Tryz.call11 args w
theorem zH1 : zae Tryz.prog 12 := fun args w => Tryz.call12 args w
theorem zHx : zae Tryz.prog 13 := fun args w => Tryz.call13 args w
theorem zHL : zae Tryz.prog 14 := fun args w => Tryz.call14 args w
theorem zFR : zae Tryz.prog 15 := fun args w => Tryz.call15 args w
theorem zE2 : zae Tryz.prog 16 := fun args w => Tryz.call16 args w
theorem zFN : zae Tryz.prog 17 := fun args w => Tryz.call17 args w
theorem zFA : zae Tryz.prog 29 := fun args w => Tryz.call29 args w
theorem zyr : zae Tryz.prog 30 := fun args w => Tryz.call30 args w
theorem zHB : zae Tryz.prog 31 := fun args w => Tryz.call31 args w
theorem zHU : zae Tryz.prog 32 := fun args w => Tryz.call32 args w
theorem zGo : zae Tryz.prog 33 := fun args w => Tryz.call33 args w
theorem zEs : zae Tryz.prog 34 := fun args w => Tryz.call34 args w
theorem zEE : zae Tryz.prog 35 := fun args w => Tryz.call35 args w
theorem zHC : zae Tryz.prog 36 := fun args w => Tryz.call36 args w
theorem zES : zae Tryz.prog 37 := fun args w => Tryz.call37 args w
theorem zH9 : zae Tryz.prog 38 := fun args w => Tryz.call38 args w
theorem zFs : zae Tryz.prog 39 := fun args w => Tryz.call39 args w
theorem zF3 : zae Tryz.prog 40 := fun args w => Tryz.call40 args w
theorem zFb : zae Tryz.prog 41 := fun args w => Tryz.call41 args w
theorem zEt : zae Tryz.prog 42 := fun args w => Tryz.call42 args w
theorem zGI : zae Tryz.prog 43 := fun args w => Tryz.call43 args w
theorem zFV : zae Tryz.prog 44 := fun args w => Tryz.call44 args w
theorem zFy : zae Tryz.prog 45 := fun args w => Tryz.call45 args w
theorem zGz : zae Tryz.prog 46 := fun args w => Tryz.call46 args w
theorem zGS : zae Tryz.prog 47 := fun args w => Tryz.call47 args w
theorem zGY : zae Tryz.prog 48 := fun args w => Tryz.call48 args w
theorem zF9 : zae Tryz.prog 49 := fun args w => Tryz.call49 args w
theorem zGN : zae Tryz.prog 50 := fun args w => Tryz.call50 args w
theorem zIc : zae Tryz.prog 51 := fun args w => Tryz.call51 args w
theorem zIv : zae Tryz.prog 52 := fun args w => Tryz.call52 args w
theorem zGE : zae Tryz.prog 53 := fun args w => Tryz.call53 args w
theorem zFk : zae Tryz.prog 54 := fun args w => Tryz.call54 args w
theorem zFH : zae Tryz.prog 55 := fun args w => Tryz.call55 args w
theorem zHe : zae Tryz.prog 56 := fun args w => Tryz.call56 args w
theorem zEr : zae Tryz.prog 57 := fun args w => Tryz.call57 args w
theorem zGr : zae Tryz.prog 58 := fun args w => Tryz.call58 args w
theorem zFW : zae Tryz.prog 59 := fun args w => Tryz.call59 args w
theorem zE7 : zae Tryz.prog 60 := fun args w => Tryz.call60 args w
theorem zF4 : zae Tryz.prog 61 := fun args w => Tryz.call61 args w
theorem zG9 : zae Tryz.prog 62 := fun args w => Tryz.call62 args w
theorem zGs : zae Tryz.prog 63 := fun args w => Tryz.call63 args w
theorem zE0 : zae Tryz.prog 64 := fun args w => Tryz.call64 args w
theorem zGB : zae Tryz.prog 74 := fun args w => Tryz.call74 args w
theorem zIh : zae Tryz.prog 87 := fun args w => Tryz.call87 args w
theorem zGq : zae Tryz.prog 88 := fun args w => Tryz.call88 args w
theorem zIr : zae Tryz.prog 89 := fun args w => Tryz.call89 args w
theorem zFe : zae Tryz.prog 90 := fun args w => Tryz.call90 args w
theorem zsq : zae Tryz.prog 91 := fun args w => Tryz.call91 args w
theorem zER : zae Tryz.prog 92 := fun args w => Tryz.call92 args w
theorem zHI : zae Tryz.prog 93 := fun args w => Tryz.call93 args w
theorem zGd : zae Tryz.prog 94 := fun args w => Tryz.call94 args w
theorem zE4 : zae Tryz.prog 95 := fun args w => Tryz.call95 args w
theorem zFh : zae Tryz.prog 96 := fun args w => Tryz.call96 args w
theorem zET : zae Tryz.prog 97 := fun args w => Tryz.call97 args w
theorem zH7 : zae Tryz.prog 98 := fun args w => Tryz.call98 args w
theorem zEv : zae Tryz.prog 99 := fun args w => Tryz.call99 args w
theorem zCi : zae Tryz.prog 100 := fun args w => Tryz.call100 args w
theorem zAu : zae Tryz.prog 101 := fun args w => Tryz.call101 args w
theorem zAh : zae Tryz.prog 102 := fun args w => Tryz.call102 args w
theorem zA7 : zae Tryz.prog 103 := fun args w => Tryz.call103 args w
theorem zAx : zae Tryz.prog 104 := fun args w => Tryz.call104 args w
theorem zAt : zae Tryz.prog 105 := fun args w => Tryz.call105 args w
theorem zBb : zae Tryz.prog 106 := fun args w => Tryz.call106 args w
theorem zwb : zae Tryz.prog 107 := fun args w => Tryz.call107 args w
theorem zBK : zae Tryz.prog 108 := fun args w => Tryz.call108 args w
theorem zCy : zae Tryz.prog 109 := fun args w => Tryz.call109 args w
theorem zB6 : zae Tryz.prog 110 := fun args w => Tryz.call110 args w
theorem zBt : zae Tryz.prog 111 := fun args w => Tryz.call111 args w
theorem zCQ : zae Tryz.prog 112 := fun args w => Tryz.call112 args w
theorem zBH : zae Tryz.prog 113 := fun args w => Tryz.call113 args w
theorem zAZ : zae Tryz.prog 114 := fun args w => Tryz.call114 args w
theorem zAV : zae Tryz.prog 116 := fun args w => Tryz.call116 args w
theorem zBy : zae Tryz.prog 121 := fun args w => Tryz.call121 args w
theorem zAS : zae Tryz.prog 123 := fun args w => Tryz.call123 args w
theorem zCH : zae Tryz.prog 124 := fun args w => Tryz.call124 args w
theorem zCe : zae Tryz.prog 136 := fun args w => Tryz.call136 args w
theorem zCM : zae Tryz.prog 137 := fun args w => Tryz.call137 args w
theorem zCm : zae Tryz.prog 141 := fun args w => Tryz.call141 args w
theorem zAr : zae Tryz.prog 142 := fun args w => Tryz.call142 args w
theorem zAo : zae Tryz.prog 146 := fun args w => Tryz.call146 args w
theorem zCE : zae Tryz.prog 149 := fun args w => Tryz.call149 args w
theorem zAD : zae Tryz.prog 151 := fun args w => Tryz.call151 args w
theorem zCD : zae Tryz.prog 152 := fun args w => Tryz.call152 args w
theorem zBV : zae Tryz.prog 153 := fun args w => Tryz.call153 args w
theorem zo3 : zae Tryz.prog 154 := fun args w => Tryz.call154 args w
theorem zoQ : zae Tryz.prog 155 := fun args w => Tryz.call155 args w
theorem zCB : zae Tryz.prog 156 := fun args w => Tryz.call156 args w
theorem zAz : zae Tryz.prog 157 := fun args w => Tryz.call157 args w
theorem zBj : zae Tryz.prog 158 := fun args w => Tryz.call158 args w
theorem zCL : zae Tryz.prog 159 := fun args w => Tryz.call159 args w
theorem zAT : zae Tryz.prog 160 := fun args w => Tryz.call160 args w
theorem zBE : zae Tryz.prog 161 := fun args w => Tryz.call161 args w
theorem zBr : zae Tryz.prog 162 := fun args w => Tryz.call162 args w
theorem zBU : zae Tryz.prog 163 := fun args w => Tryz.call163 args w
theorem zBR : zae Tryz.prog 164 := fun args w => Tryz.call164 args w
theorem zAd : zae Tryz.prog 165 := fun args w => Tryz.call165 args w
theorem zB8 : zae Tryz.prog 166 := fun args w => Tryz.call166 args w
theorem zB7 : zae Tryz.prog 167 := fun args w => Tryz.call167 args w
theorem zwc : zae Tryz.prog 168 := fun args w => Tryz.call168 args w
theorem zCv : zae Tryz.prog 169 := fun args w => Tryz.call169 args w
theorem zCd : zae Tryz.prog 170 := fun args w => Tryz.call170 args w
theorem zBl : zae Tryz.prog 171 := fun args w => Tryz.call171 args w
theorem zBf : zae Tryz.prog 172 := fun args w => Tryz.call172 args w
theorem zBk : zae Tryz.prog 173 := fun args w => Tryz.call173 args w
theorem zCo : zae Tryz.prog 175 := fun args w => Tryz.call175 args w
theorem zBu : zae Tryz.prog 176 := fun args w => Tryz.call176 args w
theorem zBC : zae Tryz.prog 177 := fun args w => Tryz.call177 args w
theorem zAy : zae Tryz.prog 183 := fun args w => Tryz.call183 args w
theorem zo0 : zae Tryz.prog 185 := fun args w => Tryz.call185 args w
theorem zBs : zae Tryz.prog 186 := fun args w => Tryz.call186 args w
theorem zBc : zae Tryz.prog 187 := fun args w => Tryz.call187 args w
theorem zAw : zae Tryz.prog 188 := fun args w => Tryz.call188 args w
theorem zCF : zae Tryz.prog 189 := fun args w => Tryz.call189 args w
theorem zAF : zae Tryz.prog 190 := fun args w => Tryz.call190 args w
theorem zBo : zae Tryz.prog 191 := fun args w => Tryz.call191 args w
theorem zAQ : zae Tryz.prog 192 := fun args w => Tryz.call192 args w
theorem zCU : zae Tryz.prog 193 := fun args w => Tryz.call193 args w
theorem zA2 : zae Tryz.prog 194 := fun args w => Tryz.call194 args w
theorem zCT : zae Tryz.prog 195 := fun args w => Tryz.call195 args w
theorem zAE : zae Tryz.prog 196 := fun args w => Tryz.call196 args w
theorem zCl : zae Tryz.prog 198 := fun args w => Tryz.call198 args w
theorem zCt : zae Tryz.prog 199 := fun args w => Tryz.call199 args w
theorem zCw : zae Tryz.prog 200 := fun args w => Tryz.call200 args w
theorem zCG : zae Tryz.prog 201 := fun args w => Tryz.call201 args w
theorem zBO : zae Tryz.prog 202 := fun args w => Tryz.call202 args w
theorem zBF : zae Tryz.prog 203 := fun args w => Tryz.call203 args w
theorem zBT : zae Tryz.prog 204 := fun args w => Tryz.call204 args w
theorem zBv : zae Tryz.prog 205 := fun args w => Tryz.call205 args w
theorem zBA : zae Tryz.prog 206 := fun args w => Tryz.call206 args w
theorem zB0 : zae Tryz.prog 207 := fun args w => Tryz.call207 args w
theorem zBi : zae Tryz.prog 208 := fun args w => Tryz.call208 args w
theorem zCN : zae Tryz.prog 209 := fun args w => Tryz.call209 args w
theorem zBn : zae Tryz.prog 210 := fun args w => Tryz.call210 args w
end Go.Pm
