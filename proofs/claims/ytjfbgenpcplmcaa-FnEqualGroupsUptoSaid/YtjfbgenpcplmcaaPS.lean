import Derived.Test.YtjfbgenpcplmcaaPmW
import Derived.Test.YtjfbgenpcplmcaaProg
import Derived.KernelRfl
namespace Go.Pm
open Go.Am
open Go.Proofs
set_option maxRecDepth 100000
@[go_sem] theorem tk3 : tk Try.prog 3 = some (false, 1) := by kernel_rfl
@[go_sem] theorem zr3 : zr Try.prog 3 = some [.int .i64 0] := by kernel_rfl
@[go_sem] theorem ezT3 : ezT Try.prog 3 = 0 := by kernel_rfl
@[go_sem] theorem ity3 : intTy Try.prog 3 = some .i64 := by kernel_rfl
@[go_sem] theorem ist3 : isStrTy Try.prog 3 = false := by kernel_rfl
@[go_sem] theorem tk4 : tk Try.prog 4 = some (false, 1) := by kernel_rfl
@[go_sem] theorem zr4 : zr Try.prog 4 = some [.bool false] := by kernel_rfl
@[go_sem] theorem ezT4 : ezT Try.prog 4 = 0 := by kernel_rfl
@[go_sem] theorem ibt4 : isBoolTy Try.prog 4 = true := by kernel_rfl
@[go_sem] theorem tk5 : tk Try.prog 5 = some (false, 1) := by kernel_rfl
@[go_sem] theorem zr5 : zr Try.prog 5 = some [.int .u8 0] := by kernel_rfl
@[go_sem] theorem ezT5 : ezT Try.prog 5 = 0 := by kernel_rfl
@[go_sem] theorem ity5 : intTy Try.prog 5 = some .u8 := by kernel_rfl
@[go_sem] theorem ist5 : isStrTy Try.prog 5 = false := by kernel_rfl
@[go_sem] theorem tk9 : tk Try.prog 9 = some (false, 1) := by kernel_rfl
@[go_sem] theorem zr9 : zr Try.prog 9 = some [.str ⟨#[]⟩] := by kernel_rfl
@[go_sem] theorem ezT9 : ezT Try.prog 9 = 0 := by kernel_rfl
@[go_sem] theorem ist9 : isStrTy Try.prog 9 = true := by kernel_rfl
@[go_sem] theorem tk20 : tk Try.prog 20 = some (false, 1) := by kernel_rfl
@[go_sem] theorem zr20 : zr Try.prog 20 = some [.nili] := by kernel_rfl
@[go_sem] theorem ezT20 : ezT Try.prog 20 = 0 := by kernel_rfl
@[go_sem] theorem tk22 : tk Try.prog 22 = some (false, 1) := by kernel_rfl
@[go_sem] theorem zr22 : zr Try.prog 22 = some [.sl true 1 []] := by kernel_rfl
@[go_sem] theorem ezT22 : ezT Try.prog 22 = 1 := by kernel_rfl
@[go_sem] theorem ety22 : elemTy Try.prog 22 = some 5 := by kernel_rfl
@[go_sem] theorem ist22 : isStrTy Try.prog 22 = false := by kernel_rfl
@[go_sem] theorem esz22 : esz Try.prog 22 = some 1 := by kernel_rfl
@[go_sem] theorem ibs22 : isByS Try.prog 22 = true := by kernel_rfl
@[go_sem] theorem ez22 : ez Try.prog 22 = some (1, 1, [.int .u8 0]) := by kernel_rfl
@[go_sem] theorem fes22 {i : Nat} : fldEs Try.prog 22 i = 0 := by kernel_rfl
@[go_sem] theorem tk23 : tk Try.prog 23 = some (false, 1) := by kernel_rfl
@[go_sem] theorem zr23 : zr Try.prog 23 = some [.sl true 2 []] := by kernel_rfl
@[go_sem] theorem ezT23 : ezT Try.prog 23 = 2 := by kernel_rfl
@[go_sem] theorem ety23 : elemTy Try.prog 23 = some 33 := by kernel_rfl
@[go_sem] theorem ist23 : isStrTy Try.prog 23 = false := by kernel_rfl
@[go_sem] theorem esz23 : esz Try.prog 23 = some 2 := by kernel_rfl
@[go_sem] theorem ez23 : ez Try.prog 23 = some (2, 32, [.sl false 1 [], .int .i64 0]) := by kernel_rfl
@[go_sem] theorem fes23 {i : Nat} : fldEs Try.prog 23 i = 0 := by kernel_rfl
@[go_sem] theorem tk31 : tk Try.prog 31 = some (false, 1) := by kernel_rfl
@[go_sem] theorem zr31 : zr Try.prog 31 = some [.sl true 1 []] := by kernel_rfl
@[go_sem] theorem ezT31 : ezT Try.prog 31 = 1 := by kernel_rfl
@[go_sem] theorem ety31 : elemTy Try.prog 31 = some 3 := by kernel_rfl
@[go_sem] theorem ist31 : isStrTy Try.prog 31 = false := by kernel_rfl
@[go_sem] theorem esz31 : esz Try.prog 31 = some 1 := by kernel_rfl
@[go_sem] theorem ez31 : ez Try.prog 31 = some (1, 8, [.int .i64 0]) := by kernel_rfl
@[go_sem] theorem fes31 {i : Nat} : fldEs Try.prog 31 i = 0 := by kernel_rfl
@[go_sem] theorem tk33 : tk Try.prog 33 = some (true, 2) := by kernel_rfl
@[go_sem] theorem zr33 : zr Try.prog 33 = some [.sl true 1 [], .int .i64 0] := by kernel_rfl
@[go_sem] theorem ezT33 : ezT Try.prog 33 = 0 := by kernel_rfl
@[go_sem] theorem bld33 : bldP Try.prog 33 = some (fldOff Try.prog 33, [.sl true 1 [], .int .i64 0]) := by kernel_rfl
@[go_sem] theorem fld33_0 : fldOff Try.prog 33 0 = some (0, 1) := by kernel_rfl
@[go_sem] theorem fes33_0 : fldEs Try.prog 33 0 = 1 := by kernel_rfl
@[go_sem] theorem fld33_1 : fldOff Try.prog 33 1 = some (1, 1) := by kernel_rfl
@[go_sem] theorem fes33_1 : fldEs Try.prog 33 1 = 0 := by kernel_rfl
@[go_sem] theorem tk35 : tk Try.prog 35 = some (false, 1) := by kernel_rfl
@[go_sem] theorem zr35 : zr Try.prog 35 = some [.sl true 1 []] := by kernel_rfl
@[go_sem] theorem ezT35 : ezT Try.prog 35 = 1 := by kernel_rfl
@[go_sem] theorem ety35 : elemTy Try.prog 35 = some 31 := by kernel_rfl
@[go_sem] theorem ist35 : isStrTy Try.prog 35 = false := by kernel_rfl
@[go_sem] theorem esz35 : esz Try.prog 35 = some 1 := by kernel_rfl
@[go_sem] theorem ez35 : ez Try.prog 35 = some (1, 24, [.sl false 1 []]) := by kernel_rfl
@[go_sem] theorem fes35 {i : Nat} : fldEs Try.prog 35 i = 1 := by kernel_rfl
@[go_sem] theorem tk39 : tk Try.prog 39 = some (true, 3) := by kernel_rfl
@[go_sem] theorem zr39 : zr Try.prog 39 = some [.int .i64 0, .int .i64 0, .int .i64 0] := by kernel_rfl
@[go_sem] theorem ezT39 : ezT Try.prog 39 = 0 := by kernel_rfl
@[go_sem] theorem bld39 : bldP Try.prog 39 = some (fldOff Try.prog 39, [.int .i64 0, .int .i64 0, .int .i64 0]) := by kernel_rfl
@[go_sem] theorem fld39_0 : fldOff Try.prog 39 0 = some (0, 1) := by kernel_rfl
@[go_sem] theorem fes39_0 : fldEs Try.prog 39 0 = 0 := by kernel_rfl
@[go_sem] theorem fld39_1 : fldOff Try.prog 39 1 = some (1, 1) := by kernel_rfl
@[go_sem] theorem fes39_1 : fldEs Try.prog 39 1 = 0 := by kernel_rfl
@[go_sem] theorem fld39_2 : fldOff Try.prog 39 2 = some (2, 1) := by kernel_rfl
@[go_sem] theorem fes39_2 : fldEs Try.prog 39 2 = 0 := by kernel_rfl
@[go_sem] theorem tk45 : tk Try.prog 45 = some (false, 1) := by kernel_rfl
@[go_sem] theorem zr45 : zr Try.prog 45 = some [.sl true 2 []] := by kernel_rfl
@[go_sem] theorem ezT45 : ezT Try.prog 45 = 2 := by kernel_rfl
@[go_sem] theorem ety45 : elemTy Try.prog 45 = some 57 := by kernel_rfl
@[go_sem] theorem ist45 : isStrTy Try.prog 45 = false := by kernel_rfl
@[go_sem] theorem esz45 : esz Try.prog 45 = some 2 := by kernel_rfl
@[go_sem] theorem ez45 : ez Try.prog 45 = some (2, 16, [.int .i64 0, .int .i64 0]) := by kernel_rfl
@[go_sem] theorem fes45 {i : Nat} : fldEs Try.prog 45 i = 0 := by kernel_rfl
@[go_sem] theorem tk57 : tk Try.prog 57 = some (true, 2) := by kernel_rfl
@[go_sem] theorem zr57 : zr Try.prog 57 = some [.int .i64 0, .int .i64 0] := by kernel_rfl
@[go_sem] theorem ezT57 : ezT Try.prog 57 = 0 := by kernel_rfl
@[go_sem] theorem bld57 : bldP Try.prog 57 = some (fldOff Try.prog 57, [.int .i64 0, .int .i64 0]) := by kernel_rfl
@[go_sem] theorem fld57_0 : fldOff Try.prog 57 0 = some (0, 1) := by kernel_rfl
@[go_sem] theorem fes57_0 : fldEs Try.prog 57 0 = 0 := by kernel_rfl
@[go_sem] theorem fld57_1 : fldOff Try.prog 57 1 = some (1, 1) := by kernel_rfl
@[go_sem] theorem fes57_1 : fldEs Try.prog 57 1 = 0 := by kernel_rfl
@[go_sem] theorem tk58 : tk Try.prog 58 = some (true, 3) := by kernel_rfl
@[go_sem] theorem zr58 : zr Try.prog 58 = some [.int .i64 0, .int .i64 0, .int .i64 0] := by kernel_rfl
@[go_sem] theorem ezT58 : ezT Try.prog 58 = 0 := by kernel_rfl
@[go_sem] theorem bld58 : bldP Try.prog 58 = some (fldOff Try.prog 58, [.int .i64 0, .int .i64 0, .int .i64 0]) := by kernel_rfl
@[go_sem] theorem fld58_0 : fldOff Try.prog 58 0 = some (0, 1) := by kernel_rfl
@[go_sem] theorem fes58_0 : fldEs Try.prog 58 0 = 0 := by kernel_rfl
@[go_sem] theorem fld58_1 : fldOff Try.prog 58 1 = some (1, 1) := by kernel_rfl
@[go_sem] theorem fes58_1 : fldEs Try.prog 58 1 = 0 := by kernel_rfl
@[go_sem] theorem fld58_2 : fldOff Try.prog 58 2 = some (2, 1) := by kernel_rfl
@[go_sem] theorem fes58_2 : fldEs Try.prog 58 2 = 0 := by kernel_rfl
@[go_sem] theorem tk60 : tk Try.prog 60 = some (true, 5) := by kernel_rfl
@[go_sem] theorem zr60 : zr Try.prog 60 = some [.int .i64 0, .int .i64 0, .int .i64 0, .int .i64 0, .int .i64 0] := by kernel_rfl
@[go_sem] theorem ezT60 : ezT Try.prog 60 = 0 := by kernel_rfl
@[go_sem] theorem bld60 : bldP Try.prog 60 = some (fldOff Try.prog 60, [.int .i64 0, .int .i64 0, .int .i64 0, .int .i64 0, .int .i64 0]) := by kernel_rfl
@[go_sem] theorem fld60_0 : fldOff Try.prog 60 0 = some (0, 1) := by kernel_rfl
@[go_sem] theorem fes60_0 : fldEs Try.prog 60 0 = 0 := by kernel_rfl
@[go_sem] theorem fld60_1 : fldOff Try.prog 60 1 = some (1, 1) := by kernel_rfl
@[go_sem] theorem fes60_1 : fldEs Try.prog 60 1 = 0 := by kernel_rfl
@[go_sem] theorem fld60_2 : fldOff Try.prog 60 2 = some (2, 1) := by kernel_rfl
@[go_sem] theorem fes60_2 : fldEs Try.prog 60 2 = 0 := by kernel_rfl
@[go_sem] theorem fld60_3 : fldOff Try.prog 60 3 = some (3, 1) := by kernel_rfl
@[go_sem] theorem fes60_3 : fldEs Try.prog 60 3 = 0 := by kernel_rfl
@[go_sem] theorem fld60_4 : fldOff Try.prog 60 4 = some (4, 1) := by kernel_rfl
@[go_sem] theorem fes60_4 : fldEs Try.prog 60 4 = 0 := by kernel_rfl
@[go_sem] theorem tk62 : tk Try.prog 62 = some (true, 13) := by kernel_rfl
@[go_sem] theorem zr62 : zr Try.prog 62 = some [.int .i64 0, .int .i64 0, .int .i64 0, .int .i64 0, .int .i64 0, .int .i64 0, .int .i64 0, .int .i64 0, .int .i64 0, .int .i64 0, .int .i64 0, .int .i64 0, .int .i64 0] := by kernel_rfl
@[go_sem] theorem ezT62 : ezT Try.prog 62 = 0 := by kernel_rfl
@[go_sem] theorem bld62 : bldP Try.prog 62 = some (fldOff Try.prog 62, [.int .i64 0, .int .i64 0, .int .i64 0, .int .i64 0, .int .i64 0, .int .i64 0, .int .i64 0, .int .i64 0, .int .i64 0, .int .i64 0, .int .i64 0, .int .i64 0, .int .i64 0]) := by kernel_rfl
@[go_sem] theorem fld62_0 : fldOff Try.prog 62 0 = some (0, 3) := by kernel_rfl
@[go_sem] theorem fes62_0 : fldEs Try.prog 62 0 = 0 := by kernel_rfl
@[go_sem] theorem fld62_1 : fldOff Try.prog 62 1 = some (3, 5) := by kernel_rfl
@[go_sem] theorem fes62_1 : fldEs Try.prog 62 1 = 0 := by kernel_rfl
@[go_sem] theorem fld62_2 : fldOff Try.prog 62 2 = some (8, 1) := by kernel_rfl
@[go_sem] theorem fes62_2 : fldEs Try.prog 62 2 = 0 := by kernel_rfl
@[go_sem] theorem fld62_3 : fldOff Try.prog 62 3 = some (9, 1) := by kernel_rfl
@[go_sem] theorem fes62_3 : fldEs Try.prog 62 3 = 0 := by kernel_rfl
@[go_sem] theorem fld62_4 : fldOff Try.prog 62 4 = some (10, 1) := by kernel_rfl
@[go_sem] theorem fes62_4 : fldEs Try.prog 62 4 = 0 := by kernel_rfl
@[go_sem] theorem fld62_5 : fldOff Try.prog 62 5 = some (11, 1) := by kernel_rfl
@[go_sem] theorem fes62_5 : fldEs Try.prog 62 5 = 0 := by kernel_rfl
@[go_sem] theorem fld62_6 : fldOff Try.prog 62 6 = some (12, 1) := by kernel_rfl
@[go_sem] theorem fes62_6 : fldEs Try.prog 62 6 = 0 := by kernel_rfl
@[go_sem] theorem tk63 : tk Try.prog 63 = some (false, 1) := by kernel_rfl
@[go_sem] theorem zr63 : zr Try.prog 63 = some [.sl true 2 []] := by kernel_rfl
@[go_sem] theorem ezT63 : ezT Try.prog 63 = 2 := by kernel_rfl
@[go_sem] theorem ety63 : elemTy Try.prog 63 = some 111 := by kernel_rfl
@[go_sem] theorem ist63 : isStrTy Try.prog 63 = false := by kernel_rfl
@[go_sem] theorem esz63 : esz Try.prog 63 = some 2 := by kernel_rfl
@[go_sem] theorem ez63 : ez Try.prog 63 = some (2, 32, [.int .i64 0, .sl false 1 []]) := by kernel_rfl
@[go_sem] theorem fes63 {i : Nat} : fldEs Try.prog 63 i = 0 := by kernel_rfl
@[go_sem] theorem tk67 : tk Try.prog 67 = some (true, 5) := by kernel_rfl
@[go_sem] theorem zr67 : zr Try.prog 67 = some [.int .i64 0, .int .i64 0, .int .i64 0, .int .i64 0, .int .i64 0] := by kernel_rfl
@[go_sem] theorem ezT67 : ezT Try.prog 67 = 0 := by kernel_rfl
@[go_sem] theorem bld67 : bldP Try.prog 67 = some (fldOff Try.prog 67, [.int .i64 0, .int .i64 0, .int .i64 0, .int .i64 0, .int .i64 0]) := by kernel_rfl
@[go_sem] theorem fld67_0 : fldOff Try.prog 67 0 = some (0, 1) := by kernel_rfl
@[go_sem] theorem fes67_0 : fldEs Try.prog 67 0 = 0 := by kernel_rfl
@[go_sem] theorem fld67_1 : fldOff Try.prog 67 1 = some (1, 1) := by kernel_rfl
@[go_sem] theorem fes67_1 : fldEs Try.prog 67 1 = 0 := by kernel_rfl
@[go_sem] theorem fld67_2 : fldOff Try.prog 67 2 = some (2, 1) := by kernel_rfl
@[go_sem] theorem fes67_2 : fldEs Try.prog 67 2 = 0 := by kernel_rfl
@[go_sem] theorem fld67_3 : fldOff Try.prog 67 3 = some (3, 1) := by kernel_rfl
@[go_sem] theorem fes67_3 : fldEs Try.prog 67 3 = 0 := by kernel_rfl
@[go_sem] theorem fld67_4 : fldOff Try.prog 67 4 = some (4, 1) := by kernel_rfl
@[go_sem] theorem fes67_4 : fldEs Try.prog 67 4 = 0 := by kernel_rfl
@[go_sem] theorem tk69 : tk Try.prog 69 = some (true, 13) := by kernel_rfl
@[go_sem] theorem zr69 : zr Try.prog 69 = some [.int .i64 0, .int .i64 0, .int .i64 0, .int .i64 0, .int .i64 0, .int .i64 0, .int .i64 0, .int .i64 0, .int .i64 0, .int .i64 0, .int .i64 0, .int .i64 0, .int .i64 0] := by kernel_rfl
@[go_sem] theorem ezT69 : ezT Try.prog 69 = 0 := by kernel_rfl
@[go_sem] theorem bld69 : bldP Try.prog 69 = some (fldOff Try.prog 69, [.int .i64 0, .int .i64 0, .int .i64 0, .int .i64 0, .int .i64 0, .int .i64 0, .int .i64 0, .int .i64 0, .int .i64 0, .int .i64 0, .int .i64 0, .int .i64 0, .int .i64 0]) := by kernel_rfl
@[go_sem] theorem fld69_0 : fldOff Try.prog 69 0 = some (0, 3) := by kernel_rfl
@[go_sem] theorem fes69_0 : fldEs Try.prog 69 0 = 0 := by kernel_rfl
@[go_sem] theorem fld69_1 : fldOff Try.prog 69 1 = some (3, 5) := by kernel_rfl
@[go_sem] theorem fes69_1 : fldEs Try.prog 69 1 = 0 := by kernel_rfl
@[go_sem] theorem fld69_2 : fldOff Try.prog 69 2 = some (8, 1) := by kernel_rfl
@[go_sem] theorem fes69_2 : fldEs Try.prog 69 2 = 0 := by kernel_rfl
@[go_sem] theorem fld69_3 : fldOff Try.prog 69 3 = some (9, 1) := by kernel_rfl
@[go_sem] theorem fes69_3 : fldEs Try.prog 69 3 = 0 := by kernel_rfl
@[go_sem] theorem fld69_4 : fldOff Try.prog 69 4 = some (10, 1) := by kernel_rfl
@[go_sem] theorem fes69_4 : fldEs Try.prog 69 4 = 0 := by kernel_rfl
@[go_sem] theorem fld69_5 : fldOff Try.prog 69 5 = some (11, 1) := by kernel_rfl
@[go_sem] theorem fes69_5 : fldEs Try.prog 69 5 = 0 := by kernel_rfl
@[go_sem] theorem fld69_6 : fldOff Try.prog 69 6 = some (12, 1) := by kernel_rfl
@[go_sem] theorem fes69_6 : fldEs Try.prog 69 6 = 0 := by kernel_rfl
@[go_sem] theorem tk71 : tk Try.prog 71 = some (false, 1) := by kernel_rfl
@[go_sem] theorem zr71 : zr Try.prog 71 = some [.sl true 2 []] := by kernel_rfl
@[go_sem] theorem ezT71 : ezT Try.prog 71 = 2 := by kernel_rfl
@[go_sem] theorem ety71 : elemTy Try.prog 71 = some 114 := by kernel_rfl
@[go_sem] theorem ist71 : isStrTy Try.prog 71 = false := by kernel_rfl
@[go_sem] theorem esz71 : esz Try.prog 71 = some 2 := by kernel_rfl
@[go_sem] theorem ez71 : ez Try.prog 71 = some (2, 32, [.int .i64 0, .sl false 1 []]) := by kernel_rfl
@[go_sem] theorem fes71 {i : Nat} : fldEs Try.prog 71 i = 0 := by kernel_rfl
@[go_sem] theorem tk79 : tk Try.prog 79 = some (false, 1) := by kernel_rfl
@[go_sem] theorem zr79 : zr Try.prog 79 = some [.nilp] := by kernel_rfl
@[go_sem] theorem ezT79 : ezT Try.prog 79 = 0 := by kernel_rfl
@[go_sem] theorem tk80 : tk Try.prog 80 = some (false, 1) := by kernel_rfl
@[go_sem] theorem zr80 : zr Try.prog 80 = some [.int .u64 0] := by kernel_rfl
@[go_sem] theorem ezT80 : ezT Try.prog 80 = 0 := by kernel_rfl
@[go_sem] theorem ity80 : intTy Try.prog 80 = some .u64 := by kernel_rfl
@[go_sem] theorem ist80 : isStrTy Try.prog 80 = false := by kernel_rfl
@[go_sem] theorem tk82 : tk Try.prog 82 = some (true, 3) := by kernel_rfl
@[go_sem] theorem zr82 : zr Try.prog 82 = some [.sl true 1 [], .int .i64 0, .int .u64 0] := by kernel_rfl
@[go_sem] theorem ezT82 : ezT Try.prog 82 = 0 := by kernel_rfl
@[go_sem] theorem bld82 : bldP Try.prog 82 = some (fldOff Try.prog 82, [.sl true 1 [], .int .i64 0, .int .u64 0]) := by kernel_rfl
@[go_sem] theorem fld82_0 : fldOff Try.prog 82 0 = some (0, 1) := by kernel_rfl
@[go_sem] theorem fes82_0 : fldEs Try.prog 82 0 = 1 := by kernel_rfl
@[go_sem] theorem fld82_1 : fldOff Try.prog 82 1 = some (1, 1) := by kernel_rfl
@[go_sem] theorem fes82_1 : fldEs Try.prog 82 1 = 0 := by kernel_rfl
@[go_sem] theorem fld82_2 : fldOff Try.prog 82 2 = some (2, 1) := by kernel_rfl
@[go_sem] theorem fes82_2 : fldEs Try.prog 82 2 = 0 := by kernel_rfl
@[go_sem] theorem tk84 : tk Try.prog 84 = some (false, 1) := by kernel_rfl
@[go_sem] theorem zr84 : zr Try.prog 84 = some [.nilf] := by kernel_rfl
@[go_sem] theorem ezT84 : ezT Try.prog 84 = 0 := by kernel_rfl
@[go_sem] theorem tk108 : tk Try.prog 108 = some (false, 1) := by kernel_rfl
@[go_sem] theorem zr108 : zr Try.prog 108 = some [.nilf] := by kernel_rfl
@[go_sem] theorem ezT108 : ezT Try.prog 108 = 0 := by kernel_rfl
@[go_sem] theorem tk111 : tk Try.prog 111 = some (true, 2) := by kernel_rfl
@[go_sem] theorem zr111 : zr Try.prog 111 = some [.int .i64 0, .sl true 1 []] := by kernel_rfl
@[go_sem] theorem ezT111 : ezT Try.prog 111 = 0 := by kernel_rfl
@[go_sem] theorem bld111 : bldP Try.prog 111 = some (fldOff Try.prog 111, [.int .i64 0, .sl true 1 []]) := by kernel_rfl
@[go_sem] theorem fld111_0 : fldOff Try.prog 111 0 = some (0, 1) := by kernel_rfl
@[go_sem] theorem fes111_0 : fldEs Try.prog 111 0 = 0 := by kernel_rfl
@[go_sem] theorem fld111_1 : fldOff Try.prog 111 1 = some (1, 1) := by kernel_rfl
@[go_sem] theorem fes111_1 : fldEs Try.prog 111 1 = 1 := by kernel_rfl
@[go_sem] theorem tk114 : tk Try.prog 114 = some (true, 2) := by kernel_rfl
@[go_sem] theorem zr114 : zr Try.prog 114 = some [.int .i64 0, .sl true 1 []] := by kernel_rfl
@[go_sem] theorem ezT114 : ezT Try.prog 114 = 0 := by kernel_rfl
@[go_sem] theorem bld114 : bldP Try.prog 114 = some (fldOff Try.prog 114, [.int .i64 0, .sl true 1 []]) := by kernel_rfl
@[go_sem] theorem fld114_0 : fldOff Try.prog 114 0 = some (0, 1) := by kernel_rfl
@[go_sem] theorem fes114_0 : fldEs Try.prog 114 0 = 0 := by kernel_rfl
@[go_sem] theorem fld114_1 : fldOff Try.prog 114 1 = some (1, 1) := by kernel_rfl
@[go_sem] theorem fes114_1 : fldEs Try.prog 114 1 = 1 := by kernel_rfl
@[go_sem] theorem tk128 : tk Try.prog 128 = some (false, 1) := by kernel_rfl
@[go_sem] theorem zr128 : zr Try.prog 128 = some [.nilf] := by kernel_rfl
@[go_sem] theorem ezT128 : ezT Try.prog 128 = 0 := by kernel_rfl
@[go_sem] theorem tk131 : tk Try.prog 131 = some (false, 1) := by kernel_rfl
@[go_sem] theorem zr131 : zr Try.prog 131 = some [.nilf] := by kernel_rfl
@[go_sem] theorem ezT131 : ezT Try.prog 131 = 0 := by kernel_rfl
@[go_sem] theorem tk132 : tk Try.prog 132 = some (false, 1) := by kernel_rfl
@[go_sem] theorem zr132 : zr Try.prog 132 = some [.sl true 1 []] := by kernel_rfl
@[go_sem] theorem ezT132 : ezT Try.prog 132 = 1 := by kernel_rfl
@[go_sem] theorem ety132 : elemTy Try.prog 132 = some 23 := by kernel_rfl
@[go_sem] theorem ist132 : isStrTy Try.prog 132 = false := by kernel_rfl
@[go_sem] theorem esz132 : esz Try.prog 132 = some 1 := by kernel_rfl
@[go_sem] theorem ez132 : ez Try.prog 132 = some (1, 24, [.sl false 2 []]) := by kernel_rfl
@[go_sem] theorem fes132 {i : Nat} : fldEs Try.prog 132 i = 2 := by kernel_rfl
@[go_sem] theorem tk148 : tk Try.prog 148 = some (true, 2) := by kernel_rfl
@[go_sem] theorem zr148 : zr Try.prog 148 = some [.int .i64 0, .sl true 1 []] := by kernel_rfl
@[go_sem] theorem ezT148 : ezT Try.prog 148 = 0 := by kernel_rfl
@[go_sem] theorem bld148 : bldP Try.prog 148 = some (fldOff Try.prog 148, [.int .i64 0, .sl true 1 []]) := by kernel_rfl
@[go_sem] theorem fld148_0 : fldOff Try.prog 148 0 = some (0, 1) := by kernel_rfl
@[go_sem] theorem fes148_0 : fldEs Try.prog 148 0 = 0 := by kernel_rfl
@[go_sem] theorem fld148_1 : fldOff Try.prog 148 1 = some (1, 1) := by kernel_rfl
@[go_sem] theorem fes148_1 : fldEs Try.prog 148 1 = 1 := by kernel_rfl
@[go_sem] theorem tk157 : tk Try.prog 157 = some (false, 1) := by kernel_rfl
@[go_sem] theorem zr157 : zr Try.prog 157 = some [.nilf] := by kernel_rfl
@[go_sem] theorem ezT157 : ezT Try.prog 157 = 0 := by kernel_rfl
@[go_sem] theorem tk158 : tk Try.prog 158 = some (false, 1) := by kernel_rfl
@[go_sem] theorem zr158 : zr Try.prog 158 = some [.int .u64 0] := by kernel_rfl
@[go_sem] theorem ezT158 : ezT Try.prog 158 = 0 := by kernel_rfl
@[go_sem] theorem ity158 : intTy Try.prog 158 = some .u64 := by kernel_rfl
@[go_sem] theorem ist158 : isStrTy Try.prog 158 = false := by kernel_rfl
@[go_sem] theorem tk188 : tk Try.prog 188 = some (false, 1) := by kernel_rfl
@[go_sem] theorem zr188 : zr Try.prog 188 = some [.nilp] := by kernel_rfl
@[go_sem] theorem ezT188 : ezT Try.prog 188 = 0 := by kernel_rfl
@[go_sem] theorem tk190 : tk Try.prog 190 = some (true, 2) := by kernel_rfl
@[go_sem] theorem zr190 : zr Try.prog 190 = some [.int .i64 0, .int .i64 0] := by kernel_rfl
@[go_sem] theorem ezT190 : ezT Try.prog 190 = 0 := by kernel_rfl
@[go_sem] theorem bld190 : bldP Try.prog 190 = some (fldOff Try.prog 190, [.int .i64 0, .int .i64 0]) := by kernel_rfl
@[go_sem] theorem fld190_0 : fldOff Try.prog 190 0 = some (0, 1) := by kernel_rfl
@[go_sem] theorem fes190_0 : fldEs Try.prog 190 0 = 0 := by kernel_rfl
@[go_sem] theorem fld190_1 : fldOff Try.prog 190 1 = some (1, 1) := by kernel_rfl
@[go_sem] theorem fes190_1 : fldEs Try.prog 190 1 = 0 := by kernel_rfl
theorem follows : Try.prog.follows .mixedOrders = true := by kernel_rfl
theorem cl5 : Callable Try.prog 5 := fun args w => Try.call5 args w
theorem cl13 : Callable Try.prog 13 := fun args w => Try.call13 args w
theorem cl22 : Callable Try.prog 22 := fun args w => Try.call22 args w
theorem cl23 : Callable Try.prog 23 := fun args w => Try.call23 args w
theorem cl24 : Callable Try.prog 24 := fun args w => Try.call24 args w
theorem cl25 : Callable Try.prog 25 := fun args w => Try.call25 args w
theorem cl26 : Callable Try.prog 26 := fun args w => Try.call26 args w
theorem cl27 : Callable Try.prog 27 := fun args w => Try.call27 args w
theorem cl28 : Callable Try.prog 28 := fun args w => Try.call28 args w
theorem cl29 : Callable Try.prog 29 := fun args w => Try.call29 args w
theorem cl44 : Callable Try.prog 44 := fun args w => Try.call44 args w
theorem cl45 : Callable Try.prog 45 := fun args w => Try.call45 args w
theorem cl54 : Callable Try.prog 54 := fun args w => Try.call54 args w
theorem cl59 : Callable Try.prog 59 := fun args w => Try.call59 args w
theorem cl62 : Callable Try.prog 62 := fun args w => Try.call62 args w
theorem cl63 : Callable Try.prog 63 := fun args w => Try.call63 args w
theorem cl65 : Callable Try.prog 65 := fun args w => Try.call65 args w
theorem cl66 : Callable Try.prog 66 := fun args w => Try.call66 args w
theorem cl67 : Callable Try.prog 67 := fun args w => Try.call67 args w
theorem cl68 : Callable Try.prog 68 := fun args w => Try.call68 args w
theorem cl70 : Callable Try.prog 70 := fun args w => Try.call70 args w
theorem cl71 : Callable Try.prog 71 := fun args w => Try.call71 args w
theorem cl73 : Callable Try.prog 73 := fun args w => Try.call73 args w
theorem cl74 : Callable Try.prog 74 := fun args w => Try.call74 args w
theorem cl75 : Callable Try.prog 75 := fun args w => Try.call75 args w
theorem cl76 : Callable Try.prog 76 := fun args w => Try.call76 args w
theorem cl77 : Callable Try.prog 77 := fun args w => Try.call77 args w
theorem cl78 : Callable Try.prog 78 := fun args w => Try.call78 args w
theorem cl79 : Callable Try.prog 79 := fun args w => Try.call79 args w
theorem cl80 : Callable Try.prog 80 := fun args w => Try.call80 args w
theorem cl81 : Callable Try.prog 81 := fun args w => Try.call81 args w
theorem cl82 : Callable Try.prog 82 := fun args w => Try.call82 args w
theorem cl83 : Callable Try.prog 83 := fun args w => Try.call83 args w
theorem cl84 : Callable Try.prog 84 := fun args w => Try.call84 args w
theorem cl85 : Callable Try.prog 85 := fun args w => Try.call85 args w
theorem cl86 : Callable Try.prog 86 := fun args w => Try.call86 args w
theorem cl98 : Callable Try.prog 98 := fun args w => Try.call98 args w
theorem cl102 : Callable Try.prog 102 := fun args w => Try.call102 args w
theorem cl103 : Callable Try.prog 103 := fun args w => Try.call103 args w
theorem cl108 : Callable Try.prog 108 := fun args w => Try.call108 args w
theorem cl109 : Callable Try.prog 109 := fun args w => Try.call109 args w
theorem cl110 : Callable Try.prog 110 := fun args w => Try.call110 args w
theorem cl111 : Callable Try.prog 111 := fun args w => Try.call111 args w
theorem cl113 : Callable Try.prog 113 := fun args w => Try.call113 args w
theorem cl114 : Callable Try.prog 114 := fun args w => Try.call114 args w
theorem cl115 : Callable Try.prog 115 := fun args w => Try.call115 args w
theorem cl116 : Callable Try.prog 116 := fun args w => Try.call116 args w
theorem cl117 : Callable Try.prog 117 := fun args w => Try.call117 args w
theorem cl118 : Callable Try.prog 118 := fun args w => Try.call118 args w
theorem cl119 : Callable Try.prog 119 := fun args w => Try.call119 args w
theorem cl120 : Callable Try.prog 120 := fun args w => Try.call120 args w
theorem cl121 : Callable Try.prog 121 := fun args w => Try.call121 args w
theorem cl122 : Callable Try.prog 122 := fun args w => Try.call122 args w
theorem cl123 : Callable Try.prog 123 := fun args w => Try.call123 args w
theorem cl124 : Callable Try.prog 124 := fun args w => Try.call124 args w
theorem cl125 : Callable Try.prog 125 := fun args w => Try.call125 args w
theorem cl126 : Callable Try.prog 126 := fun args w => Try.call126 args w
theorem cl127 : Callable Try.prog 127 := fun args w => Try.call127 args w
theorem cl128 : Callable Try.prog 128 := fun args w => Try.call128 args w
theorem cl129 : Callable Try.prog 129 := fun args w => Try.call129 args w
theorem cl130 : Callable Try.prog 130 := fun args w => Try.call130 args w
theorem cl148 : Callable Try.prog 148 := fun args w => Try.call148 args w
theorem cl149 : Callable Try.prog 149 := fun args w => Try.call149 args w
theorem cl150 : Callable Try.prog 150 := fun args w => Try.call150 args w
theorem cl151 : Callable Try.prog 151 := fun args w => Try.call151 args w
theorem cl152 : Callable Try.prog 152 := fun args w => Try.call152 args w
theorem cl153 : Callable Try.prog 153 := fun args w => Try.call153 args w
theorem cl154 : Callable Try.prog 154 := fun args w => Try.call154 args w
theorem cl155 : Callable Try.prog 155 := fun args w => Try.call155 args w
theorem cl156 : Callable Try.prog 156 := fun args w => Try.call156 args w
theorem cl157 : Callable Try.prog 157 := fun args w => Try.call157 args w
theorem cl158 : Callable Try.prog 158 := fun args w => Try.call158 args w
theorem cl159 : Callable Try.prog 159 := fun args w => Try.call159 args w
theorem cl160 : Callable Try.prog 160 := fun args w => Try.call160 args w
theorem cl180 : Callable Try.prog 180 := fun args w => Try.call180 args w
theorem cl181 : Callable Try.prog 181 := fun args w => Try.call181 args w
theorem cl182 : Callable Try.prog 182 := fun args w => Try.call182 args w
theorem cl183 : Callable Try.prog 183 := fun args w => Try.call183 args w
theorem cl184 : Callable Try.prog 184 := fun args w => Try.call184 args w
theorem cl185 : Callable Try.prog 185 := fun args w => Try.call185 args w
theorem cl186 : Callable Try.prog 186 := fun args w => Try.call186 args w
theorem cl189 : Callable Try.prog 189 := fun args w => Try.call189 args w
theorem cl199 : Callable Try.prog 199 := fun args w => Try.call199 args w
theorem cl200 : Callable Try.prog 200 := fun args w => Try.call200 args w
theorem cl201 : Callable Try.prog 201 := fun args w => Try.call201 args w
theorem cl206 : Callable Try.prog 206 := fun args w => Try.call206 args w
end Go.Pm
