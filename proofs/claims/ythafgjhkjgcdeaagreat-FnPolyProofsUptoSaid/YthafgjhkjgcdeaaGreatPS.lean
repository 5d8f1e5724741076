import Derived.Test.YthafgjhkjgcdeaaGreatPmW
import Derived.Test.YthafgjhkjgcdeaaGreatProg
import Derived.KernelRfl
namespace Go.Pm
open Go.Am
open Go.Proofs
set_option maxRecDepth 100000
@[go_sem] theorem tk3:tk Tryz.prog 3=some (false,1):=by kernel_rfl
@[go_sem] theorem zr3:zr Tryz.prog 3=some [.int .i64 0]:=by kernel_rfl
@[go_sem] theorem zQ0:ezT Tryz.prog 3=0:=by kernel_rfl
@[go_sem] theorem zQy:zdC Tryz.prog 3=some .i64:=by kernel_rfl
@[go_sem] theorem zQ9:zaT Tryz.prog 3=false:=by kernel_rfl
@[go_sem] theorem tk4:tk Tryz.prog 4=some (false,1):=by kernel_rfl
@[go_sem] theorem zr4:zr Tryz.prog 4=some [.bool false]:=by kernel_rfl
@[go_sem] theorem zQz:ezT Tryz.prog 4=0:=by kernel_rfl
@[go_sem] theorem zQF:zhS Tryz.prog 4=true:=by kernel_rfl
@[go_sem] theorem tk5:tk Tryz.prog 5=some (false,1):=by kernel_rfl
@[go_sem] theorem zr5:zr Tryz.prog 5=some [.int .u8 0]:=by kernel_rfl
@[go_sem] theorem zQS:ezT Tryz.prog 5=0:=by kernel_rfl
@[go_sem] theorem zQw:zdC Tryz.prog 5=some .u8:=by kernel_rfl
@[go_sem] theorem zQ4:zaT Tryz.prog 5=false:=by kernel_rfl
@[go_sem] theorem tk9:tk Tryz.prog 9=some (false,1):=by kernel_rfl
@[go_sem] theorem zr9:zr Tryz.prog 9=some [.str ⟨#[]⟩]:=by kernel_rfl
@[go_sem] theorem zQx:ezT Tryz.prog 9=0:=by kernel_rfl
@[go_sem] theorem zQv:zaT Tryz.prog 9=true:=by kernel_rfl
@[go_sem] theorem zQr:tk Tryz.prog 20=some (false,1):=by kernel_rfl
@[go_sem] theorem zQX:zr Tryz.prog 20=some [.nili]:=by kernel_rfl
@[go_sem] theorem zPf:ezT Tryz.prog 20=0:=by kernel_rfl
@[go_sem] theorem zQ2:tk Tryz.prog 22=some (false,1):=by kernel_rfl
@[go_sem] theorem zQ5:zr Tryz.prog 22=some [.sl true 1 []]:=by kernel_rfl
@[go_sem] theorem zOS:ezT Tryz.prog 22=1:=by kernel_rfl
@[go_sem] theorem zPy:zaL Tryz.prog 22=some 5:=by kernel_rfl
@[go_sem] theorem zPh:zaT Tryz.prog 22=false:=by kernel_rfl
@[go_sem] theorem zQg:esz Tryz.prog 22=some 1:=by kernel_rfl
@[go_sem] theorem zOU:zhs Tryz.prog 22=true:=by kernel_rfl
@[go_sem] theorem zQY:ez Tryz.prog 22=some (1,1,[.int .u8 0]):=by kernel_rfl
@[go_sem] theorem zPH {i:Nat}:zb2 Tryz.prog 22 i=0:=by kernel_rfl
@[go_sem] theorem zQG:tk Tryz.prog 24=some (true,3):=by kernel_rfl
@[go_sem] theorem zQ7:zr Tryz.prog 24=some [.int .i64 0,.int .i64 0,.int .i64 0]:=by kernel_rfl
@[go_sem] theorem zOP:ezT Tryz.prog 24=0:=by kernel_rfl
@[go_sem] theorem zPp:zg6 Tryz.prog 24=some (za5 Tryz.prog 24,[.int .i64 0,.int .i64 0,.int .i64 0]):=by kernel_rfl
@[go_sem] theorem zLJ:za5 Tryz.prog 24 0=some (0,1):=by kernel_rfl
@[go_sem] theorem zLs:zb2 Tryz.prog 24 0=0:=by kernel_rfl
@[go_sem] theorem zJT:za5 Tryz.prog 24 1=some (1,1):=by kernel_rfl
@[go_sem] theorem zLC:zb2 Tryz.prog 24 1=0:=by kernel_rfl
@[go_sem] theorem zLX:za5 Tryz.prog 24 2=some (2,1):=by kernel_rfl
@[go_sem] theorem zKp:zb2 Tryz.prog 24 2=0:=by kernel_rfl
@[go_sem] theorem zQJ:tk Tryz.prog 25=some (false,1):=by kernel_rfl
@[go_sem] theorem zQs:zr Tryz.prog 25=some [.sl true 2 []]:=by kernel_rfl
@[go_sem] theorem zPb:ezT Tryz.prog 25=2:=by kernel_rfl
@[go_sem] theorem zQb:zaL Tryz.prog 25=some 84:=by kernel_rfl
@[go_sem] theorem zOJ:zaT Tryz.prog 25=false:=by kernel_rfl
@[go_sem] theorem zQc:esz Tryz.prog 25=some 2:=by kernel_rfl
@[go_sem] theorem zQ1:ez Tryz.prog 25=some (2,16,[.int .i64 0,.int .i64 0]):=by kernel_rfl
@[go_sem] theorem zOw {i:Nat}:zb2 Tryz.prog 25 i=0:=by kernel_rfl
@[go_sem] theorem zQP:tk Tryz.prog 26=some (false,1):=by kernel_rfl
@[go_sem] theorem zQQ:zr Tryz.prog 26=some [.sl true 1 []]:=by kernel_rfl
@[go_sem] theorem zPe:ezT Tryz.prog 26=1:=by kernel_rfl
@[go_sem] theorem zOk:zaL Tryz.prog 26=some 3:=by kernel_rfl
@[go_sem] theorem zPn:zaT Tryz.prog 26=false:=by kernel_rfl
@[go_sem] theorem zQa:esz Tryz.prog 26=some 1:=by kernel_rfl
@[go_sem] theorem zHb:ez Tryz.prog 26=some (1,8,[.int .i64 0]):=by kernel_rfl
@[go_sem] theorem zP1 {i:Nat}:zb2 Tryz.prog 26 i=0:=by kernel_rfl
@[go_sem] theorem zQZ:tk Tryz.prog 30=some (true,3):=by kernel_rfl
@[go_sem] theorem zQT:zr Tryz.prog 30=some [.sl true 1 [],.sl true 1 [],.sl true 1 []]:=by kernel_rfl
@[go_sem] theorem zPP:ezT Tryz.prog 30=0:=by kernel_rfl
@[go_sem] theorem zPj:zg6 Tryz.prog 30=some (za5 Tryz.prog 30,[.sl true 1 [],.sl true 1 [],.sl true 1 []]):=by kernel_rfl
@[go_sem] theorem zJf:za5 Tryz.prog 30 0=some (0,1):=by kernel_rfl
@[go_sem] theorem zMk:zb2 Tryz.prog 30 0=1:=by kernel_rfl
@[go_sem] theorem zKG:za5 Tryz.prog 30 1=some (1,1):=by kernel_rfl
@[go_sem] theorem zLf:zb2 Tryz.prog 30 1=1:=by kernel_rfl
@[go_sem] theorem zMd:za5 Tryz.prog 30 2=some (2,1):=by kernel_rfl
@[go_sem] theorem zLQ:zb2 Tryz.prog 30 2=1:=by kernel_rfl
@[go_sem] theorem zQt:tk Tryz.prog 32=some (true,6):=by kernel_rfl
@[go_sem] theorem zQ8:zr Tryz.prog 32=some [.sl true 1 [],.sl true 1 [],.sl true 1 [],.sl true 1 [],.sl true 1 [],.sl true 1 []]:=by kernel_rfl
@[go_sem] theorem zOu:ezT Tryz.prog 32=0:=by kernel_rfl
@[go_sem] theorem zPt:zg6 Tryz.prog 32=some (za5 Tryz.prog 32,[.sl true 1 [],.sl true 1 [],.sl true 1 [],.sl true 1 [],.sl true 1 [],.sl true 1 []]):=by kernel_rfl
@[go_sem] theorem zJs:za5 Tryz.prog 32 0=some (0,1):=by kernel_rfl
@[go_sem] theorem zLP:zb2 Tryz.prog 32 0=1:=by kernel_rfl
@[go_sem] theorem zKP:za5 Tryz.prog 32 1=some (1,1):=by kernel_rfl
@[go_sem] theorem zL6:zb2 Tryz.prog 32 1=1:=by kernel_rfl
@[go_sem] theorem zJ0:za5 Tryz.prog 32 2=some (2,1):=by kernel_rfl
@[go_sem] theorem zL5:zb2 Tryz.prog 32 2=1:=by kernel_rfl
@[go_sem] theorem zJb:za5 Tryz.prog 32 3=some (3,3):=by kernel_rfl
@[go_sem] theorem zLO:zb2 Tryz.prog 32 3=0:=by kernel_rfl
@[go_sem] theorem zRa:tk Tryz.prog 60=some (true,5):=by kernel_rfl
@[go_sem] theorem zQE:zr Tryz.prog 60=some [.sl true 1 [],.sl true 1 [],.sl true 1 [],.sl true 1 [],.sl true 1 []]:=by kernel_rfl
@[go_sem] theorem zQl:ezT Tryz.prog 60=0:=by kernel_rfl
@[go_sem] theorem zPU:zg6 Tryz.prog 60=some (za5 Tryz.prog 60,[.sl true 1 [],.sl true 1 [],.sl true 1 [],.sl true 1 [],.sl true 1 []]):=by kernel_rfl
@[go_sem] theorem zMb:za5 Tryz.prog 60 0=some (0,1):=by kernel_rfl
@[go_sem] theorem zKd:zb2 Tryz.prog 60 0=1:=by kernel_rfl
@[go_sem] theorem zJ2:za5 Tryz.prog 60 1=some (1,1):=by kernel_rfl
@[go_sem] theorem zJR:zb2 Tryz.prog 60 1=1:=by kernel_rfl
@[go_sem] theorem zLq:za5 Tryz.prog 60 2=some (2,3):=by kernel_rfl
@[go_sem] theorem zJX:zb2 Tryz.prog 60 2=0:=by kernel_rfl
@[go_sem] theorem zQu:tk Tryz.prog 64=some (false,1):=by kernel_rfl
@[go_sem] theorem zQW:zr Tryz.prog 64=some [.nilp]:=by kernel_rfl
@[go_sem] theorem zO4:ezT Tryz.prog 64=0:=by kernel_rfl
@[go_sem] theorem zQL:tk Tryz.prog 65=some (false,1):=by kernel_rfl
@[go_sem] theorem zQH:zr Tryz.prog 65=some [.int .u64 0]:=by kernel_rfl
@[go_sem] theorem zPl:ezT Tryz.prog 65=0:=by kernel_rfl
@[go_sem] theorem zP9:zdC Tryz.prog 65=some .u64:=by kernel_rfl
@[go_sem] theorem zPK:zaT Tryz.prog 65=false:=by kernel_rfl
@[go_sem] theorem zQC:tk Tryz.prog 67=some (true,3):=by kernel_rfl
@[go_sem] theorem zQO:zr Tryz.prog 67=some [.sl true 1 [],.int .i64 0,.int .u64 0]:=by kernel_rfl
@[go_sem] theorem zPz:ezT Tryz.prog 67=0:=by kernel_rfl
@[go_sem] theorem zPY:zg6 Tryz.prog 67=some (za5 Tryz.prog 67,[.sl true 1 [],.int .i64 0,.int .u64 0]):=by kernel_rfl
@[go_sem] theorem zJJ:za5 Tryz.prog 67 0=some (0,1):=by kernel_rfl
@[go_sem] theorem zL4:zb2 Tryz.prog 67 0=1:=by kernel_rfl
@[go_sem] theorem zJL:za5 Tryz.prog 67 1=some (1,1):=by kernel_rfl
@[go_sem] theorem zMj:zb2 Tryz.prog 67 1=0:=by kernel_rfl
@[go_sem] theorem zLv:za5 Tryz.prog 67 2=some (2,1):=by kernel_rfl
@[go_sem] theorem zJW:zb2 Tryz.prog 67 2=0:=by kernel_rfl
@[go_sem] theorem zQN:tk Tryz.prog 71=some (true,2):=by kernel_rfl
@[go_sem] theorem zQB:zr Tryz.prog 71=some [.int .i64 0,.sl true 1 []]:=by kernel_rfl
@[go_sem] theorem zOM:ezT Tryz.prog 71=0:=by kernel_rfl
@[go_sem] theorem zP4:zg6 Tryz.prog 71=some (za5 Tryz.prog 71,[.int .i64 0,.sl true 1 []]):=by kernel_rfl
@[go_sem] theorem zJ1:za5 Tryz.prog 71 0=some (0,1):=by kernel_rfl
@[go_sem] theorem zJd:zb2 Tryz.prog 71 0=0:=by kernel_rfl
@[go_sem] theorem zJ5:za5 Tryz.prog 71 1=some (1,1):=by kernel_rfl
@[go_sem] theorem zK9:zb2 Tryz.prog 71 1=1:=by kernel_rfl
@[go_sem] theorem zQR:tk Tryz.prog 82=some (false,1):=by kernel_rfl
@[go_sem] theorem zQI:zr Tryz.prog 82=some [.nilf]:=by kernel_rfl
@[go_sem] theorem zPZ:ezT Tryz.prog 82=0:=by kernel_rfl
@[go_sem] theorem zQA:tk Tryz.prog 84=some (true,2):=by kernel_rfl
@[go_sem] theorem zQK:zr Tryz.prog 84=some [.int .i64 0,.int .i64 0]:=by kernel_rfl
@[go_sem] theorem zOG:ezT Tryz.prog 84=0:=by kernel_rfl
@[go_sem] theorem zPd:zkB Tryz.prog 84=some [0,1]:=by kernel_rfl
@[go_sem] theorem zPL:zg6 Tryz.prog 84=some (za5 Tryz.prog 84,[.int .i64 0,.int .i64 0]):=by kernel_rfl
@[go_sem] theorem zMc:za5 Tryz.prog 84 0=some (0,1):=by kernel_rfl
@[go_sem] theorem zKH:zb2 Tryz.prog 84 0=0:=by kernel_rfl
@[go_sem] theorem zK1:za5 Tryz.prog 84 1=some (1,1):=by kernel_rfl
@[go_sem] theorem zLa:zb2 Tryz.prog 84 1=0:=by kernel_rfl
@[go_sem] theorem zQ3:tk Tryz.prog 92=some (false,1):=by kernel_rfl
@[go_sem] theorem zQV:zr Tryz.prog 92=some [.nilf]:=by kernel_rfl
@[go_sem] theorem zP6:ezT Tryz.prog 92=0:=by kernel_rfl
@[go_sem] theorem zO1:tk Tryz.prog 114=some (false,1):=by kernel_rfl
@[go_sem] theorem zOB:zr Tryz.prog 114=some [.nilp]:=by kernel_rfl
@[go_sem] theorem zNL:ezT Tryz.prog 114=0:=by kernel_rfl
@[go_sem] theorem zOT:tk Tryz.prog 116=some (true,1):=by kernel_rfl
@[go_sem] theorem zOt:zr Tryz.prog 116=some [.sl true 1 []]:=by kernel_rfl
@[go_sem] theorem zNp:ezT Tryz.prog 116=0:=by kernel_rfl
@[go_sem] theorem zMR:zg6 Tryz.prog 116=some (za5 Tryz.prog 116,[.sl true 1 []]):=by kernel_rfl
@[go_sem] theorem zFu:za5 Tryz.prog 116 0=some (0,1):=by kernel_rfl
@[go_sem] theorem zHS:zb2 Tryz.prog 116 0=1:=by kernel_rfl
@[go_sem] theorem zPo:tk Tryz.prog 125=some (true,5):=by kernel_rfl
@[go_sem] theorem zO3:zr Tryz.prog 125=some [.sl true 1 [],.sl true 1 [],.sl true 1 [],.sl true 1 [],.sl true 1 []]:=by kernel_rfl
@[go_sem] theorem zNY:ezT Tryz.prog 125=0:=by kernel_rfl
@[go_sem] theorem zNO:esz Tryz.prog 125=none:=by kernel_rfl
@[go_sem] theorem zMz:asz Tryz.prog 125=some (5,1):=by kernel_rfl
@[go_sem] theorem zNn {i:Nat}:zb2 Tryz.prog 125 i=1:=by kernel_rfl
@[go_sem] theorem zMn:zg6 Tryz.prog 125=some (fun i=>some (i*1,1),[.sl true 1 [],.sl true 1 [],.sl true 1 [],.sl true 1 [],.sl true 1 []]):=by kernel_rfl
@[go_sem] theorem zOr:tk Tryz.prog 142=some (false,1):=by kernel_rfl
@[go_sem] theorem zPE:zr Tryz.prog 142=some [.sl true 1 []]:=by kernel_rfl
@[go_sem] theorem zMT:ezT Tryz.prog 142=1:=by kernel_rfl
@[go_sem] theorem zNz:zaL Tryz.prog 142=some 26:=by kernel_rfl
@[go_sem] theorem zNN:zaT Tryz.prog 142=false:=by kernel_rfl
@[go_sem] theorem zNR:esz Tryz.prog 142=some 1:=by kernel_rfl
@[go_sem] theorem zP2:ez Tryz.prog 142=some (1,24,[.sl false 1 []]):=by kernel_rfl
@[go_sem] theorem zMy {i:Nat}:zb2 Tryz.prog 142 i=1:=by kernel_rfl
@[go_sem] theorem zPN:tk Tryz.prog 144=some (false,1):=by kernel_rfl
@[go_sem] theorem zO8:zr Tryz.prog 144=some [.nilf]:=by kernel_rfl
@[go_sem] theorem zMx:ezT Tryz.prog 144=0:=by kernel_rfl
@[go_sem] theorem zO0:tk Tryz.prog 161=some (false,1):=by kernel_rfl
@[go_sem] theorem zOD:zr Tryz.prog 161=some [.int .u64 0]:=by kernel_rfl
@[go_sem] theorem zNg:ezT Tryz.prog 161=0:=by kernel_rfl
@[go_sem] theorem zOa:zdC Tryz.prog 161=some .u64:=by kernel_rfl
@[go_sem] theorem zMF:zaT Tryz.prog 161=false:=by kernel_rfl
@[go_sem] theorem zOH:tk Tryz.prog 167=some (false,1):=by kernel_rfl
@[go_sem] theorem zOL:zr Tryz.prog 167=some [.nilf]:=by kernel_rfl
@[go_sem] theorem zNS:ezT Tryz.prog 167=0:=by kernel_rfl
@[go_sem] theorem zPa:tk Tryz.prog 181=some (false,1):=by kernel_rfl
@[go_sem] theorem zOR:zr Tryz.prog 181=some [.int .i64 0]:=by kernel_rfl
@[go_sem] theorem zM9:ezT Tryz.prog 181=0:=by kernel_rfl
@[go_sem] theorem zNC:zdC Tryz.prog 181=some .i64:=by kernel_rfl
@[go_sem] theorem zMu:zaT Tryz.prog 181=false:=by kernel_rfl
@[go_sem] theorem zOs:tk Tryz.prog 188=some (false,1):=by kernel_rfl
@[go_sem] theorem zOm:zr Tryz.prog 188=some [.int .u32 0]:=by kernel_rfl
@[go_sem] theorem zMt:ezT Tryz.prog 188=0:=by kernel_rfl
@[go_sem] theorem zN3:zdC Tryz.prog 188=some .u32:=by kernel_rfl
@[go_sem] theorem zNq:zaT Tryz.prog 188=false:=by kernel_rfl
@[go_sem] theorem zP3:tk Tryz.prog 190=some (false,1):=by kernel_rfl
@[go_sem] theorem zPM:zr Tryz.prog 190=some [.nilp]:=by kernel_rfl
@[go_sem] theorem zNF:ezT Tryz.prog 190=0:=by kernel_rfl
@[go_sem] theorem zOI:tk Tryz.prog 192=some (true,2):=by kernel_rfl
@[go_sem] theorem zPk:zr Tryz.prog 192=some [.int .i64 0,.int .i64 0]:=by kernel_rfl
@[go_sem] theorem zMr:ezT Tryz.prog 192=0:=by kernel_rfl
@[go_sem] theorem zNP:zg6 Tryz.prog 192=some (za5 Tryz.prog 192,[.int .i64 0,.int .i64 0]):=by kernel_rfl
@[go_sem] theorem zFN:za5 Tryz.prog 192 0=some (0,1):=by kernel_rfl
@[go_sem] theorem zGY:zb2 Tryz.prog 192 0=0:=by kernel_rfl
@[go_sem] theorem zIY:za5 Tryz.prog 192 1=some (1,1):=by kernel_rfl
@[go_sem] theorem zIn:zb2 Tryz.prog 192 1=0:=by kernel_rfl
@[go_sem] theorem zPD:tk Tryz.prog 194=some (false,1):=by kernel_rfl
@[go_sem] theorem zQn:zr Tryz.prog 194=some [.int .u64 0]:=by kernel_rfl
@[go_sem] theorem zMU:ezT Tryz.prog 194=0:=by kernel_rfl
@[go_sem] theorem zM0:zdC Tryz.prog 194=some .u64:=by kernel_rfl
@[go_sem] theorem zNf:zaT Tryz.prog 194=false:=by kernel_rfl
@[go_sem] theorem zO5:tk Tryz.prog 198=some (false,1):=by kernel_rfl
@[go_sem] theorem zOp:zr Tryz.prog 198=some [.nilp]:=by kernel_rfl
@[go_sem] theorem zNr:ezT Tryz.prog 198=0:=by kernel_rfl
@[go_sem] theorem zPs:tk Tryz.prog 200=some (false,1):=by kernel_rfl
@[go_sem] theorem zQe:zr Tryz.prog 200=some [.nilp]:=by kernel_rfl
@[go_sem] theorem zNx:ezT Tryz.prog 200=0:=by kernel_rfl
theorem follows:Tryz.prog.follows .mixedOrders=true:=by kernel_rfl
theorem cl3:zae Tryz.prog 3:=fun args w=>Tryz.call3 args w
theorem cl5:zae Tryz.prog 5:=fun args w=>Tryz.call5 args w
theorem cl6:zae Tryz.prog 6:=fun args w=>Tryz.call6 args w
theorem cl7:zae Tryz.prog 7:=fun args w=>Tryz.call7 args w
theorem cl8:zae Tryz.prog 8:=fun args w=>Tryz.call8 args w
theorem cl9:zae Tryz.prog 9:=fun args w=>Tryz.call9 args w
theorem zIG:zae Tryz.prog 10:=fun args w=>Tryz.call10 args w
theorem zHp:zae Tryz.prog 11:=fun args w=>Tryz.call11 args w
theorem zGc:zae Tryz.prog 12:=fun args w=>Tryz.call12 args w
theorem zIz:zae Tryz.prog 13:=fun args w=>Tryz.call13 args w
theorem zHN:zae Tryz.prog 14:=fun args w=>Tryz.call14 args w
theorem zFS:zae Tryz.prog 15:=fun args w=>Tryz.call15 args w
theorem zHe:zae Tryz.prog 16:=fun args w=>Tryz.call16 args w
theorem zFr:zae Tryz.prog 17:=fun args w=>Tryz.call17 args w
theorem zIc:zae Tryz.prog 18:=fun args w=>Tryz.call18 args w
theorem zE9:zae Tryz.prog 20:=fun args w=>Tryz.call20 args w
theorem zH0:zae Tryz.prog 28:=fun args w=>Tryz.call28 args w
theorem zI5:zae Tryz.prog 29:=fun args w=>Tryz.call29 args w
theorem zIO:zae Tryz.prog 30:=fun args w=>Tryz.call30 args w
theorem zH9:zae Tryz.prog 31:=fun args w=>Tryz.call31 args w
theorem zI0:zae Tryz.prog 32:=fun args w=>Tryz.call32 args w
theorem zGU:zae Tryz.prog 33:=fun args w=>Tryz.call33 args w
theorem zGs:zae Tryz.prog 34:=fun args w=>Tryz.call34 args w
theorem zGr:zae Tryz.prog 35:=fun args w=>Tryz.call35 args w
theorem zFT:zae Tryz.prog 36:=fun args w=>Tryz.call36 args w
theorem zFe:zae Tryz.prog 37:=fun args w=>Tryz.call37 args w
theorem zIt:zae Tryz.prog 38:=fun args w=>Tryz.call38 args w
theorem zFV:zae Tryz.prog 39:=fun args w=>Tryz.call39 args w
theorem zFP:zae Tryz.prog 40:=fun args w=>Tryz.call40 args w
theorem zHL:zae Tryz.prog 41:=fun args w=>Tryz.call41 args w
theorem zIq:zae Tryz.prog 42:=fun args w=>Tryz.call42 args w
theorem zFb:zae Tryz.prog 43:=fun args w=>Tryz.call43 args w
theorem zIb:zae Tryz.prog 44:=fun args w=>Tryz.call44 args w
theorem zF9:zae Tryz.prog 45:=fun args w=>Tryz.call45 args w
theorem zFD:zae Tryz.prog 46:=fun args w=>Tryz.call46 args w
theorem zFx:zae Tryz.prog 47:=fun args w=>Tryz.call47 args w
theorem zFj:zae Tryz.prog 48:=fun args w=>Tryz.call48 args w
theorem zFJ:zae Tryz.prog 49:=fun args w=>Tryz.call49 args w
theorem zFK:zae Tryz.prog 50:=fun args w=>Tryz.call50 args w
theorem zHw:zae Tryz.prog 51:=fun args w=>Tryz.call51 args w
theorem zHq:zae Tryz.prog 52:=fun args w=>Tryz.call52 args w
theorem zF4:zae Tryz.prog 53:=fun args w=>Tryz.call53 args w
theorem zIk:zae Tryz.prog 54:=fun args w=>Tryz.call54 args w
theorem zG2:zae Tryz.prog 55:=fun args w=>Tryz.call55 args w
theorem zH6:zae Tryz.prog 56:=fun args w=>Tryz.call56 args w
theorem zHl:zae Tryz.prog 57:=fun args w=>Tryz.call57 args w
theorem zFW:zae Tryz.prog 58:=fun args w=>Tryz.call58 args w
theorem zID:zae Tryz.prog 59:=fun args w=>Tryz.call59 args w
theorem zIX:zae Tryz.prog 60:=fun args w=>Tryz.call60 args w
theorem zHF:zae Tryz.prog 61:=fun args w=>Tryz.call61 args w
theorem zG4:zae Tryz.prog 63:=fun args w=>Tryz.call63 args w
theorem zFy:zae Tryz.prog 64:=fun args w=>Tryz.call64 args w
theorem zGR:zae Tryz.prog 65:=fun args w=>Tryz.call65 args w
theorem zGI:zae Tryz.prog 73:=fun args w=>Tryz.call73 args w
theorem zIT:zae Tryz.prog 74:=fun args w=>Tryz.call74 args w
theorem zF7:zae Tryz.prog 75:=fun args w=>Tryz.call75 args w
theorem zHo:zae Tryz.prog 76:=fun args w=>Tryz.call76 args w
theorem zAc:zae Tryz.prog 77:=fun args w=>Tryz.call77 args w
theorem zF3:zae Tryz.prog 78:=fun args w=>Tryz.call78 args w
theorem zF2:zae Tryz.prog 79:=fun args w=>Tryz.call79 args w
theorem zG1:zae Tryz.prog 80:=fun args w=>Tryz.call80 args w
theorem zqy:zae Tryz.prog 81:=fun args w=>Tryz.call81 args w
theorem zIi:zae Tryz.prog 82:=fun args w=>Tryz.call82 args w
theorem zIm:zae Tryz.prog 83:=fun args w=>Tryz.call83 args w
theorem zFc:zae Tryz.prog 84:=fun args w=>Tryz.call84 args w
theorem zGG:zae Tryz.prog 85:=fun args w=>Tryz.call85 args w
theorem zFG:zae Tryz.prog 86:=fun args w=>Tryz.call86 args w
theorem zH4:zae Tryz.prog 87:=fun args w=>Tryz.call87 args w
theorem zFU:zae Tryz.prog 88:=fun args w=>Tryz.call88 args w
theorem zFm:zae Tryz.prog 89:=fun args w=>Tryz.call89 args w
theorem zFk:zae Tryz.prog 90:=fun args w=>Tryz.call90 args w
theorem zG6:zae Tryz.prog 91:=fun args w=>Tryz.call91 args w
theorem zGP:zae Tryz.prog 92:=fun args w=>Tryz.call92 args w
theorem zFF:zae Tryz.prog 93:=fun args w=>Tryz.call93 args w
theorem zFR:zae Tryz.prog 94:=fun args w=>Tryz.call94 args w
theorem zHE:zae Tryz.prog 95:=fun args w=>Tryz.call95 args w
theorem zIC:zae Tryz.prog 96:=fun args w=>Tryz.call96 args w
theorem zGz:zae Tryz.prog 97:=fun args w=>Tryz.call97 args w
theorem zIP:zae Tryz.prog 98:=fun args w=>Tryz.call98 args w
theorem zGa:zae Tryz.prog 99:=fun args w=>Tryz.call99 args w
theorem zBE:zae Tryz.prog 100:=fun args w=>Tryz.call100 args w
theorem zBz:zae Tryz.prog 101:=fun args w=>Tryz.call101 args w
theorem zDf:zae Tryz.prog 102:=fun args w=>Tryz.call102 args w
theorem zA5:zae Tryz.prog 103:=fun args w=>Tryz.call103 args w
theorem zCi:zae Tryz.prog 104:=fun args w=>Tryz.call104 args w
theorem zAL:zae Tryz.prog 105:=fun args w=>Tryz.call105 args w
theorem zDJ:zae Tryz.prog 106:=fun args w=>Tryz.call106 args w
theorem zBT:zae Tryz.prog 107:=fun args w=>Tryz.call107 args w
theorem zA4:zae Tryz.prog 108:=fun args w=>Tryz.call108 args w
theorem zAP:zae Tryz.prog 109:=fun args w=>Tryz.call109 args w
theorem zDo:zae Tryz.prog 110:=fun args w=>Tryz.call110 args w
theorem zB4:zae Tryz.prog 111:=fun args w=>Tryz.call111 args w
theorem zBW:zae Tryz.prog 112:=fun args w=>Tryz.call112 args w
theorem zDt:zae Tryz.prog 113:=fun args w=>Tryz.call113 args w
theorem zBJ:zae Tryz.prog 114:=fun args w=>Tryz.call114 args w
theorem zBQ:zae Tryz.prog 115:=fun args w=>Tryz.call115 args w
theorem zBu:zae Tryz.prog 116:=fun args w=>Tryz.call116 args w
theorem zA9:zae Tryz.prog 117:=fun args w=>Tryz.call117 args w
theorem zDr:zae Tryz.prog 118:=fun args w=>Tryz.call118 args w
theorem zBL:zae Tryz.prog 119:=fun args w=>Tryz.call119 args w
theorem zCK:zae Tryz.prog 120:=fun args w=>Tryz.call120 args w
theorem zAN:zae Tryz.prog 121:=fun args w=>Tryz.call121 args w
theorem zCH:zae Tryz.prog 122:=fun args w=>Tryz.call122 args w
theorem zDi:zae Tryz.prog 123:=fun args w=>Tryz.call123 args w
theorem zA0:zae Tryz.prog 124:=fun args w=>Tryz.call124 args w
theorem zDB:zae Tryz.prog 125:=fun args w=>Tryz.call125 args w
theorem zDv:zae Tryz.prog 126:=fun args w=>Tryz.call126 args w
theorem zBN:zae Tryz.prog 127:=fun args w=>Tryz.call127 args w
theorem zCc:zae Tryz.prog 128:=fun args w=>Tryz.call128 args w
theorem zDs:zae Tryz.prog 129:=fun args w=>Tryz.call129 args w
theorem zDa:zae Tryz.prog 130:=fun args w=>Tryz.call130 args w
theorem zBf:zae Tryz.prog 131:=fun args w=>Tryz.call131 args w
theorem zA3:zae Tryz.prog 132:=fun args w=>Tryz.call132 args w
theorem zDC:zae Tryz.prog 143:=fun args w=>Tryz.call143 args w
theorem zBg:zae Tryz.prog 144:=fun args w=>Tryz.call144 args w
theorem zC5:zae Tryz.prog 145:=fun args w=>Tryz.call145 args w
theorem zAO:zae Tryz.prog 146:=fun args w=>Tryz.call146 args w
theorem zBR:zae Tryz.prog 147:=fun args w=>Tryz.call147 args w
theorem znR:zae Tryz.prog 148:=fun args w=>Tryz.call148 args w
theorem znT:zae Tryz.prog 149:=fun args w=>Tryz.call149 args w
theorem zBD:zae Tryz.prog 150:=fun args w=>Tryz.call150 args w
theorem zBw:zae Tryz.prog 151:=fun args w=>Tryz.call151 args w
theorem zBi:zae Tryz.prog 152:=fun args w=>Tryz.call152 args w
theorem zCl:zae Tryz.prog 153:=fun args w=>Tryz.call153 args w
theorem zDy:zae Tryz.prog 154:=fun args w=>Tryz.call154 args w
theorem zDl:zae Tryz.prog 155:=fun args w=>Tryz.call155 args w
theorem zDH:zae Tryz.prog 156:=fun args w=>Tryz.call156 args w
theorem zBc:zae Tryz.prog 157:=fun args w=>Tryz.call157 args w
theorem zDp:zae Tryz.prog 158:=fun args w=>Tryz.call158 args w
theorem zAY:zae Tryz.prog 159:=fun args w=>Tryz.call159 args w
theorem zB6:zae Tryz.prog 160:=fun args w=>Tryz.call160 args w
theorem zAT:zae Tryz.prog 161:=fun args w=>Tryz.call161 args w
theorem zCU:zae Tryz.prog 162:=fun args w=>Tryz.call162 args w
theorem zCv:zae Tryz.prog 163:=fun args w=>Tryz.call163 args w
theorem zAU:zae Tryz.prog 164:=fun args w=>Tryz.call164 args w
theorem zCS:zae Tryz.prog 165:=fun args w=>Tryz.call165 args w
theorem zCE:zae Tryz.prog 166:=fun args w=>Tryz.call166 args w
theorem zBd:zae Tryz.prog 170:=fun args w=>Tryz.call170 args w
theorem znr:zae Tryz.prog 171:=fun args w=>Tryz.call171 args w
theorem zDc:zae Tryz.prog 172:=fun args w=>Tryz.call172 args w
theorem zBx:zae Tryz.prog 173:=fun args w=>Tryz.call173 args w
theorem zBv:zae Tryz.prog 174:=fun args w=>Tryz.call174 args w
theorem zDb:zae Tryz.prog 175:=fun args w=>Tryz.call175 args w
theorem zBX:zae Tryz.prog 176:=fun args w=>Tryz.call176 args w
theorem zDe:zae Tryz.prog 177:=fun args w=>Tryz.call177 args w
theorem zC2:zae Tryz.prog 178:=fun args w=>Tryz.call178 args w
theorem zCx:zae Tryz.prog 190:=fun args w=>Tryz.call190 args w
theorem zAE:zae Tryz.prog 191:=fun args w=>Tryz.call191 args w
theorem zCL:zae Tryz.prog 192:=fun args w=>Tryz.call192 args w
end Go.Pm
