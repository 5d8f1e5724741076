import Derived.Test.YtikiohlamlipnaaGreatPmW
import Derived.Test.YtikiohlamlipnaaGreatProg
import Derived.KernelRfl
namespace Go.Pm
open Go.Am
open Go.Proofs
set_option maxRecDepth 100000
@[go_sem] theorem tk3 : tk Tryz.prog 3 = some (false, 1) := by kernel_rfl
@[go_sem] theorem zE3 : ezT Tryz.prog 3 = 0 := by kernel_rfl
@[go_sem] theorem zFk : zdf Tryz.prog 3 = some .i64 := by kernel_rfl
@[go_sem] theorem zFi : zaM Tryz.prog 3 = false := by kernel_rfl
@[go_sem] theorem zFc : ezT Tryz.prog 4 = 0 := by kernel_rfl
@[go_sem] theorem zFg : zfG Tryz.prog 4 = true := by kernel_rfl
@[go_sem] theorem tk5 : tk Tryz.prog 5 = some (false, 1) := by kernel_rfl
@[go_sem] theorem zE2 : zdf Tryz.prog 5 = some .u8 := by kernel_rfl
@[go_sem] theorem zFb : ezT Tryz.prog 9 = 0 := by kernel_rfl
@[go_sem] theorem zEX : zaM Tryz.prog 9 = true := by kernel_rfl
@[go_sem] theorem zE5 : tk Tryz.prog 22 = some (false, 1) := by kernel_rfl
@[go_sem] theorem zEV : ezT Tryz.prog 22 = 1 := by kernel_rfl
@[go_sem] theorem zDW : zax Tryz.prog 22 = some 5 := by kernel_rfl
@[go_sem] theorem zEp : zaM Tryz.prog 22 = false := by kernel_rfl
@[go_sem] theorem zEP : esz Tryz.prog 22 = some 1 := by kernel_rfl
@[go_sem] theorem zEZ : tk Tryz.prog 24 = some (true, 3) := by kernel_rfl
@[go_sem] theorem zFf : zr Tryz.prog 24 = some [.int .i64 0, .int .i64 0, .int .i64 0] := by kernel_rfl
@[go_sem] theorem zEb : ezT Tryz.prog 24 = 0 := by kernel_rfl
@[go_sem] theorem zDH : zgT Tryz.prog 24 = some (za7 Tryz.prog 24, [.int .i64 0, .int .i64 0, .int .i64 0]) := by kernel_rfl
@[go_sem] theorem zBJ : za7 Tryz.prog 24 0 = some (0, 1) := by kernel_rfl
@[go_sem] theorem zB1 : zcr Tryz.prog 24 0 = 0 := by kernel_rfl
@[go_sem] theorem zCl : za7 Tryz.prog 24 1 = some (1, 1) := by kernel_rfl
@[go_sem] theorem zBA : zcr Tryz.prog 24 1 = 0 := by kernel_rfl
@[go_sem] theorem zBH : za7 Tryz.prog 24 2 = some (2, 1) := by kernel_rfl
@[go_sem] theorem zBW : zcr Tryz.prog 24 2 = 0 := by kernel_rfl
@[go_sem] theorem zEs : ezT Tryz.prog 25 = 2 := by kernel_rfl
@[go_sem] theorem zD6 : zax Tryz.prog 25 = some 36 := by kernel_rfl
@[go_sem] theorem zEx : zaM Tryz.prog 25 = false := by kernel_rfl
@[go_sem] theorem zD0 : esz Tryz.prog 25 = some 2 := by kernel_rfl
@[go_sem] theorem zE1 : ez Tryz.prog 25 = some (2, 16, [.int .i64 0, .int .i64 0]) := by kernel_rfl
@[go_sem] theorem zEk {i : Nat} : zcr Tryz.prog 25 i = 0 := by kernel_rfl
@[go_sem] theorem zEh : ezT Tryz.prog 26 = 7 := by kernel_rfl
@[go_sem] theorem zDI : zax Tryz.prog 26 = some 40 := by kernel_rfl
@[go_sem] theorem zEd : zaM Tryz.prog 26 = false := by kernel_rfl
@[go_sem] theorem zEl : esz Tryz.prog 26 = some 7 := by kernel_rfl
@[go_sem] theorem zE7 : ez Tryz.prog 26 = some (7, 104, [.int .i64 0, .int .i64 0, .int .i64 0, .int .i64 0, .sl false 1 [], .sl false 1 [], .sl false 1 []]) := by kernel_rfl
@[go_sem] theorem zEH {i : Nat} : zcr Tryz.prog 26 i = 0 := by kernel_rfl
@[go_sem] theorem zFh : tk Tryz.prog 29 = some (false, 1) := by kernel_rfl
@[go_sem] theorem zDN : ezT Tryz.prog 29 = 1 := by kernel_rfl
@[go_sem] theorem zEB : zax Tryz.prog 29 = some 3 := by kernel_rfl
@[go_sem] theorem zEQ : zaM Tryz.prog 29 = false := by kernel_rfl
@[go_sem] theorem zEA : esz Tryz.prog 29 = some 1 := by kernel_rfl
@[go_sem] theorem zFe : ez Tryz.prog 29 = some (1, 8, [.int .i64 0]) := by kernel_rfl
@[go_sem] theorem zDU {i : Nat} : zcr Tryz.prog 29 i = 0 := by kernel_rfl
@[go_sem] theorem zFj : tk Tryz.prog 36 = some (true, 2) := by kernel_rfl
@[go_sem] theorem zE0 : zr Tryz.prog 36 = some [.int .i64 0, .int .i64 0] := by kernel_rfl
@[go_sem] theorem zDL : ezT Tryz.prog 36 = 0 := by kernel_rfl
@[go_sem] theorem zEc : zgT Tryz.prog 36 = some (za7 Tryz.prog 36, [.int .i64 0, .int .i64 0]) := by kernel_rfl
@[go_sem] theorem zB2 : za7 Tryz.prog 36 0 = some (0, 1) := by kernel_rfl
@[go_sem] theorem zBo : zcr Tryz.prog 36 0 = 0 := by kernel_rfl
@[go_sem] theorem zCb : za7 Tryz.prog 36 1 = some (1, 1) := by kernel_rfl
@[go_sem] theorem zA0 : zcr Tryz.prog 36 1 = 0 := by kernel_rfl
@[go_sem] theorem zFd : tk Tryz.prog 38 = some (true, 3) := by kernel_rfl
@[go_sem] theorem zE8 : zr Tryz.prog 38 = some [.sl true 1 [], .sl true 1 [], .sl true 1 []] := by kernel_rfl
@[go_sem] theorem zEK : ezT Tryz.prog 38 = 0 := by kernel_rfl
@[go_sem] theorem zDM : zgT Tryz.prog 38 = some (za7 Tryz.prog 38, [.sl true 1 [], .sl true 1 [], .sl true 1 []]) := by kernel_rfl
@[go_sem] theorem zCp : za7 Tryz.prog 38 0 = some (0, 1) := by kernel_rfl
@[go_sem] theorem zBv : zcr Tryz.prog 38 0 = 1 := by kernel_rfl
@[go_sem] theorem zAr : za7 Tryz.prog 38 1 = some (1, 1) := by kernel_rfl
@[go_sem] theorem zAK : zcr Tryz.prog 38 1 = 1 := by kernel_rfl
@[go_sem] theorem zA7 : za7 Tryz.prog 38 2 = some (2, 1) := by kernel_rfl
@[go_sem] theorem zA1 : zcr Tryz.prog 38 2 = 1 := by kernel_rfl
@[go_sem] theorem zEY : tk Tryz.prog 40 = some (true, 7) := by kernel_rfl
@[go_sem] theorem zFa : zr Tryz.prog 40 = some [.int .i64 0, .int .i64 0, .int .i64 0, .int .i64 0, .sl true 1 [], .sl true 1 [], .sl true 1 []] := by kernel_rfl
@[go_sem] theorem zEi : ezT Tryz.prog 40 = 0 := by kernel_rfl
@[go_sem] theorem zEm : zgT Tryz.prog 40 = some (za7 Tryz.prog 40, [.int .i64 0, .int .i64 0, .int .i64 0, .int .i64 0, .sl true 1 [], .sl true 1 [], .sl true 1 []]) := by kernel_rfl
@[go_sem] theorem zAj : za7 Tryz.prog 40 0 = some (0, 2) := by kernel_rfl
@[go_sem] theorem zBV : zcr Tryz.prog 40 0 = 0 := by kernel_rfl
@[go_sem] theorem zAD : za7 Tryz.prog 40 1 = some (2, 2) := by kernel_rfl
@[go_sem] theorem zAk : zcr Tryz.prog 40 1 = 0 := by kernel_rfl
@[go_sem] theorem zBC : za7 Tryz.prog 40 2 = some (4, 3) := by kernel_rfl
@[go_sem] theorem zEE : ezT Tryz.prog 60 = 0 := by kernel_rfl
@[go_sem] theorem zE9 : tk Tryz.prog 61 = some (false, 1) := by kernel_rfl
@[go_sem] theorem zEL : ezT Tryz.prog 61 = 0 := by kernel_rfl
@[go_sem] theorem zD8 : zdf Tryz.prog 61 = some .u64 := by kernel_rfl
@[go_sem] theorem zDG : zaM Tryz.prog 61 = false := by kernel_rfl
@[go_sem] theorem zE4 : tk Tryz.prog 63 = some (true, 3) := by kernel_rfl
@[go_sem] theorem zD1 : ezT Tryz.prog 63 = 0 := by kernel_rfl
@[go_sem] theorem zEI : zgT Tryz.prog 63 = some (za7 Tryz.prog 63, [.sl true 1 [], .int .i64 0, .int .u64 0]) := by kernel_rfl
@[go_sem] theorem zBn : za7 Tryz.prog 63 0 = some (0, 1) := by kernel_rfl
@[go_sem] theorem zBl : zcr Tryz.prog 63 0 = 1 := by kernel_rfl
@[go_sem] theorem zAT : za7 Tryz.prog 63 1 = some (1, 1) := by kernel_rfl
@[go_sem] theorem zCn : za7 Tryz.prog 63 2 = some (2, 1) := by kernel_rfl
@[go_sem] theorem zE6 : tk Tryz.prog 65 = some (false, 1) := by kernel_rfl
@[go_sem] theorem zDQ : ezT Tryz.prog 65 = 0 := by kernel_rfl
@[go_sem] theorem zEv : ezT Tryz.prog 73 = 0 := by kernel_rfl
@[go_sem] theorem zD9 : ezT Tryz.prog 87 = 0 := by kernel_rfl
@[go_sem] theorem zCz : esz Tryz.prog 131 = some 1 := by kernel_rfl
@[go_sem] theorem zEN : ez Tryz.prog 131 = some (1, 24, [.sl false 1 []]) := by kernel_rfl
@[go_sem] theorem zC2 : ezT Tryz.prog 201 = 0 := by kernel_rfl
@[go_sem] theorem zER : tk Tryz.prog 203 = some (true, 2) := by kernel_rfl
@[go_sem] theorem zC1 : ezT Tryz.prog 203 = 0 := by kernel_rfl
@[go_sem] theorem zCS : zgT Tryz.prog 203 = some (za7 Tryz.prog 203, [.int .i64 0, .int .i64 0]) := by kernel_rfl
@[go_sem] theorem zxD : za7 Tryz.prog 203 0 = some (0, 1) := by kernel_rfl
@[go_sem] theorem zxV : zcr Tryz.prog 203 0 = 0 := by kernel_rfl
@[go_sem] theorem zAc : za7 Tryz.prog 203 1 = some (1, 1) := by kernel_rfl
@[go_sem] theorem zyj : zcr Tryz.prog 203 1 = 0 := by kernel_rfl
theorem follows : Tryz.prog.follows .mixedOrders = true := by kernel_rfl
theorem cl3 : zae Tryz.prog 3 := fun args w => Tryz.call3 args w
theorem cl5 : zae Tryz.prog 5 := fun args w => Tryz.call5 args w
theorem cl6 : zae Tryz.prog 6 := fun args w => Tryz.call6 args w
theorem cl7 : zae Tryz.prog 7 := fun args w => Tryz.call7 args w
theorem cl8 : zae Tryz.prog 8 := fun args w => Tryz.call8 args w
theorem cl9 : zae Tryz.prog 9 := fun args w => Tryz.call9 args w
theorem zxv : zae Tryz.prog 10 := fun args w => Tryz.call10 args w
theorem zyQ : zae Tryz.prog 11 := fun args w => Tryz.call11 args w
theorem zzT : zae Tryz.prog 12 := fun args w => Tryz.call12 args w
theorem zxo : zae Tryz.prog 13 := fun args w => Tryz.call13 args w
theorem zyq : zae Tryz.prog 27 := fun args w => Tryz.call27 args w
theorem zzv : zae Tryz.prog 28 := fun args w => Tryz.call28 args w
theorem zxy : zae Tryz.prog 29 := fun args w => Tryz.call29 args w
theorem zyw : zae Tryz.prog 30 := fun args w => Tryz.call30 args w
theorem zyP : zae Tryz.prog 31 := fun args w => Tryz.call31 args w
theorem zxq : zae Tryz.prog 32 := fun args w => Tryz.call32 args w
theorem zzH : zae Tryz.prog 33 := fun args w => Tryz.call33 args w
theorem zyK : zae Tryz.prog 34 := fun args w => Tryz.call34 args w
theorem zyX : zae Tryz.prog 35 := fun args w => Tryz.call35 args w
theorem zza : zae Tryz.prog 36 := fun args w => Tryz.call36 args w
theorem zzF : zae Tryz.prog 37 := fun args w => Tryz.call37 args w
theorem zyT : zae Tryz.prog 38 := fun args w => Tryz.call38 args w
theorem zzu : zae Tryz.prog 39 := fun args w => Tryz.call39 args w
theorem zx5 : zae Tryz.prog 40 := fun args w => Tryz.call40 args w
theorem zy3 : zae Tryz.prog 41 := fun args w => Tryz.call41 args w
theorem zzM : zae Tryz.prog 42 := fun args w => Tryz.call42 args w
theorem zxF : zae Tryz.prog 43 := fun args w => Tryz.call43 args w
theorem zyW : zae Tryz.prog 44 := fun args w => Tryz.call44 args w
theorem zyr : zae Tryz.prog 45 := fun args w => Tryz.call45 args w
theorem zxE : zae Tryz.prog 46 := fun args w => Tryz.call46 args w
theorem zzR : zae Tryz.prog 48 := fun args w => Tryz.call48 args w
theorem zxu : zae Tryz.prog 49 := fun args w => Tryz.call49 args w
theorem zzk : zae Tryz.prog 55 := fun args w => Tryz.call55 args w
theorem zzg : zae Tryz.prog 57 := fun args w => Tryz.call57 args w
theorem zzK : zae Tryz.prog 59 := fun args w => Tryz.call59 args w
theorem zz6 : zae Tryz.prog 62 := fun args w => Tryz.call62 args w
theorem zxn : zae Tryz.prog 63 := fun args w => Tryz.call63 args w
theorem zyu : zae Tryz.prog 64 := fun args w => Tryz.call64 args w
theorem zyi : zae Tryz.prog 66 := fun args w => Tryz.call66 args w
theorem zzB : zae Tryz.prog 67 := fun args w => Tryz.call67 args w
theorem zAg : zae Tryz.prog 68 := fun args w => Tryz.call68 args w
theorem zyb : zae Tryz.prog 69 := fun args w => Tryz.call69 args w
theorem zxU : zae Tryz.prog 76 := fun args w => Tryz.call76 args w
theorem ztu : zae Tryz.prog 77 := fun args w => Tryz.call77 args w
theorem zxt : zae Tryz.prog 78 := fun args w => Tryz.call78 args w
theorem zxY : zae Tryz.prog 79 := fun args w => Tryz.call79 args w
theorem zxR : zae Tryz.prog 80 := fun args w => Tryz.call80 args w
theorem zzU : zae Tryz.prog 81 := fun args w => Tryz.call81 args w
theorem zys : zae Tryz.prog 82 := fun args w => Tryz.call82 args w
theorem zx7 : zae Tryz.prog 83 := fun args w => Tryz.call83 args w
theorem zy6 : zae Tryz.prog 84 := fun args w => Tryz.call84 args w
theorem zzJ : zae Tryz.prog 85 := fun args w => Tryz.call85 args w
theorem zzD : zae Tryz.prog 86 := fun args w => Tryz.call86 args w
theorem zAf : zae Tryz.prog 87 := fun args w => Tryz.call87 args w
theorem zyk : zae Tryz.prog 88 := fun args w => Tryz.call88 args w
theorem zyo : zae Tryz.prog 89 := fun args w => Tryz.call89 args w
theorem zz5 : zae Tryz.prog 90 := fun args w => Tryz.call90 args w
theorem zxC : zae Tryz.prog 91 := fun args w => Tryz.call91 args w
theorem zzt : zae Tryz.prog 92 := fun args w => Tryz.call92 args w
theorem zyz : zae Tryz.prog 93 := fun args w => Tryz.call93 args w
theorem zxs : zae Tryz.prog 94 := fun args w => Tryz.call94 args w
theorem zz2 : zae Tryz.prog 95 := fun args w => Tryz.call95 args w
theorem zxr : zae Tryz.prog 96 := fun args w => Tryz.call96 args w
theorem zxI : zae Tryz.prog 97 := fun args w => Tryz.call97 args w
theorem zyn : zae Tryz.prog 98 := fun args w => Tryz.call98 args w
theorem zvk : zae Tryz.prog 108 := fun args w => Tryz.call108 args w
theorem zvS : zae Tryz.prog 109 := fun args w => Tryz.call109 args w
theorem zuG : zae Tryz.prog 112 := fun args w => Tryz.call112 args w
theorem zvC : zae Tryz.prog 113 := fun args w => Tryz.call113 args w
theorem zor : zae Tryz.prog 114 := fun args w => Tryz.call114 args w
theorem zuC : zae Tryz.prog 116 := fun args w => Tryz.call116 args w
theorem zuO : zae Tryz.prog 117 := fun args w => Tryz.call117 args w
theorem zuK : zae Tryz.prog 119 := fun args w => Tryz.call119 args w
theorem zv6 : zae Tryz.prog 120 := fun args w => Tryz.call120 args w
theorem zuH : zae Tryz.prog 121 := fun args w => Tryz.call121 args w
theorem zvM : zae Tryz.prog 127 := fun args w => Tryz.call127 args w
theorem zu0 : zae Tryz.prog 128 := fun args w => Tryz.call128 args w
theorem zwa : zae Tryz.prog 129 := fun args w => Tryz.call129 args w
theorem zvD : zae Tryz.prog 130 := fun args w => Tryz.call130 args w
theorem zuD : zae Tryz.prog 131 := fun args w => Tryz.call131 args w
theorem zvQ : zae Tryz.prog 132 := fun args w => Tryz.call132 args w
theorem zvZ : zae Tryz.prog 133 := fun args w => Tryz.call133 args w
theorem zuv : zae Tryz.prog 134 := fun args w => Tryz.call134 args w
theorem zuW : zae Tryz.prog 135 := fun args w => Tryz.call135 args w
theorem zvX : zae Tryz.prog 136 := fun args w => Tryz.call136 args w
theorem zoP : zae Tryz.prog 157 := fun args w => Tryz.call157 args w
theorem zoI : zae Tryz.prog 158 := fun args w => Tryz.call158 args w
theorem zvw : zae Tryz.prog 163 := fun args w => Tryz.call163 args w
theorem zu8 : zae Tryz.prog 165 := fun args w => Tryz.call165 args w
theorem zuN : zae Tryz.prog 167 := fun args w => Tryz.call167 args w
theorem zo3 : zae Tryz.prog 179 := fun args w => Tryz.call179 args w
theorem zvH : zae Tryz.prog 181 := fun args w => Tryz.call181 args w
theorem zuQ : zae Tryz.prog 182 := fun args w => Tryz.call182 args w
theorem zu3 : zae Tryz.prog 183 := fun args w => Tryz.call183 args w
theorem zuI : zae Tryz.prog 187 := fun args w => Tryz.call187 args w
theorem zuX : zae Tryz.prog 188 := fun args w => Tryz.call188 args w
theorem zvp : zae Tryz.prog 189 := fun args w => Tryz.call189 args w
theorem zvE : zae Tryz.prog 190 := fun args w => Tryz.call190 args w
theorem zuU : zae Tryz.prog 191 := fun args w => Tryz.call191 args w
theorem zvI : zae Tryz.prog 192 := fun args w => Tryz.call192 args w
end Go.Pm
