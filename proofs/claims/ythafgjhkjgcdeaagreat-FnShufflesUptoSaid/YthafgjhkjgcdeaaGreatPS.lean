import Derived.Test.YthafgjhkjgcdeaaGreatPmW
import Derived.Test.YthafgjhkjgcdeaaGreatProg
import Derived.KernelRfl
namespace Go.Pm
open Go.Am
open Go.Proofs
set_option maxRecDepth 100000
@[go_sem] theorem tk3:tk Tryz.prog 3=some (false,1):=by kernel_rfl
@[go_sem] theorem zr3:zr Tryz.prog 3=some [.int .i64 0]:=by kernel_rfl
@[go_sem] theorem zRN:ezT Tryz.prog 3=0:=by kernel_rfl
@[go_sem] theorem zRX:zdC Tryz.prog 3=some .i64:=by kernel_rfl
@[go_sem] theorem zR1:zaY Tryz.prog 3=false:=by kernel_rfl
@[go_sem] theorem tk4:tk Tryz.prog 4=some (false,1):=by kernel_rfl
@[go_sem] theorem zr4:zr Tryz.prog 4=some [.bool false]:=by kernel_rfl
@[go_sem] theorem zRE:ezT Tryz.prog 4=0:=by kernel_rfl
@[go_sem] theorem zSf:zhI Tryz.prog 4=true:=by kernel_rfl
@[go_sem] theorem tk5:tk Tryz.prog 5=some (false,1):=by kernel_rfl
@[go_sem] theorem zr5:zr Tryz.prog 5=some [.int .u8 0]:=by kernel_rfl
@[go_sem] theorem zSj:ezT Tryz.prog 5=0:=by kernel_rfl
@[go_sem] theorem zRS:zdC Tryz.prog 5=some .u8:=by kernel_rfl
@[go_sem] theorem zR9:zaY Tryz.prog 5=false:=by kernel_rfl
@[go_sem] theorem tk9:tk Tryz.prog 9=some (false,1):=by kernel_rfl
@[go_sem] theorem zr9:zr Tryz.prog 9=some [.str ⟨#[]⟩]:=by kernel_rfl
@[go_sem] theorem zR3:ezT Tryz.prog 9=0:=by kernel_rfl
@[go_sem] theorem zRD:zaY Tryz.prog 9=true:=by kernel_rfl
@[go_sem] theorem zRG:tk Tryz.prog 20=some (false,1):=by kernel_rfl
@[go_sem] theorem zR7:zr Tryz.prog 20=some [.nili]:=by kernel_rfl
@[go_sem] theorem zP3:ezT Tryz.prog 20=0:=by kernel_rfl
@[go_sem] theorem zSc:tk Tryz.prog 22=some (false,1):=by kernel_rfl
@[go_sem] theorem zRQ:zr Tryz.prog 22=some [.sl true 1 []]:=by kernel_rfl
@[go_sem] theorem zP4:ezT Tryz.prog 22=1:=by kernel_rfl
@[go_sem] theorem zPK:zaP Tryz.prog 22=some 5:=by kernel_rfl
@[go_sem] theorem zPJ:zaY Tryz.prog 22=false:=by kernel_rfl
@[go_sem] theorem zPR:esz Tryz.prog 22=some 1:=by kernel_rfl
@[go_sem] theorem zQy:zhj Tryz.prog 22=true:=by kernel_rfl
@[go_sem] theorem zSh:ez Tryz.prog 22=some (1,1,[.int .u8 0]):=by kernel_rfl
@[go_sem] theorem zPT {i:Nat}:zb2 Tryz.prog 22 i=0:=by kernel_rfl
@[go_sem] theorem zRO:tk Tryz.prog 24=some (true,3):=by kernel_rfl
@[go_sem] theorem zR2:zr Tryz.prog 24=some [.int .i64 0,.int .i64 0,.int .i64 0]:=by kernel_rfl
@[go_sem] theorem zQe:ezT Tryz.prog 24=0:=by kernel_rfl
@[go_sem] theorem zQL:zgX Tryz.prog 24=some (zbd Tryz.prog 24,[.int .i64 0,.int .i64 0,.int .i64 0]):=by kernel_rfl
@[go_sem] theorem zKm:zbd Tryz.prog 24 0=some (0,1):=by kernel_rfl
@[go_sem] theorem zKC:zb2 Tryz.prog 24 0=0:=by kernel_rfl
@[go_sem] theorem zLI:zbd Tryz.prog 24 1=some (1,1):=by kernel_rfl
@[go_sem] theorem zLo:zb2 Tryz.prog 24 1=0:=by kernel_rfl
@[go_sem] theorem zKS:zbd Tryz.prog 24 2=some (2,1):=by kernel_rfl
@[go_sem] theorem zMD:zb2 Tryz.prog 24 2=0:=by kernel_rfl
@[go_sem] theorem zSi:tk Tryz.prog 25=some (false,1):=by kernel_rfl
@[go_sem] theorem zRY:zr Tryz.prog 25=some [.sl true 2 []]:=by kernel_rfl
@[go_sem] theorem zPU:ezT Tryz.prog 25=2:=by kernel_rfl
@[go_sem] theorem zQp:zaP Tryz.prog 25=some 84:=by kernel_rfl
@[go_sem] theorem zQD:zaY Tryz.prog 25=false:=by kernel_rfl
@[go_sem] theorem zPZ:esz Tryz.prog 25=some 2:=by kernel_rfl
@[go_sem] theorem zRI:ez Tryz.prog 25=some (2,16,[.int .i64 0,.int .i64 0]):=by kernel_rfl
@[go_sem] theorem zQ5 {i:Nat}:zb2 Tryz.prog 25 i=0:=by kernel_rfl
@[go_sem] theorem zRC:tk Tryz.prog 26=some (false,1):=by kernel_rfl
@[go_sem] theorem zSg:zr Tryz.prog 26=some [.sl true 1 []]:=by kernel_rfl
@[go_sem] theorem zRh:ezT Tryz.prog 26=1:=by kernel_rfl
@[go_sem] theorem zRn:zaP Tryz.prog 26=some 3:=by kernel_rfl
@[go_sem] theorem zQW:zaY Tryz.prog 26=false:=by kernel_rfl
@[go_sem] theorem zQQ:esz Tryz.prog 26=some 1:=by kernel_rfl
@[go_sem] theorem zG1:ez Tryz.prog 26=some (1,8,[.int .i64 0]):=by kernel_rfl
@[go_sem] theorem zRv {i:Nat}:zb2 Tryz.prog 26 i=0:=by kernel_rfl
@[go_sem] theorem zRH:tk Tryz.prog 30=some (true,3):=by kernel_rfl
@[go_sem] theorem zRT:zr Tryz.prog 30=some [.sl true 1 [],.sl true 1 [],.sl true 1 []]:=by kernel_rfl
@[go_sem] theorem zQG:ezT Tryz.prog 30=0:=by kernel_rfl
@[go_sem] theorem zPy:zgX Tryz.prog 30=some (zbd Tryz.prog 30,[.sl true 1 [],.sl true 1 [],.sl true 1 []]):=by kernel_rfl
@[go_sem] theorem zKQ:zbd Tryz.prog 30 0=some (0,1):=by kernel_rfl
@[go_sem] theorem zL5:zb2 Tryz.prog 30 0=1:=by kernel_rfl
@[go_sem] theorem zKn:zbd Tryz.prog 30 1=some (1,1):=by kernel_rfl
@[go_sem] theorem zMm:zb2 Tryz.prog 30 1=1:=by kernel_rfl
@[go_sem] theorem zKY:zbd Tryz.prog 30 2=some (2,1):=by kernel_rfl
@[go_sem] theorem zLp:zb2 Tryz.prog 30 2=1:=by kernel_rfl
@[go_sem] theorem zRL:tk Tryz.prog 32=some (true,6):=by kernel_rfl
@[go_sem] theorem zR4:zr Tryz.prog 32=some [.sl true 1 [],.sl true 1 [],.sl true 1 [],.sl true 1 [],.sl true 1 [],.sl true 1 []]:=by kernel_rfl
@[go_sem] theorem zQK:ezT Tryz.prog 32=0:=by kernel_rfl
@[go_sem] theorem zRl:zgX Tryz.prog 32=some (zbd Tryz.prog 32,[.sl true 1 [],.sl true 1 [],.sl true 1 [],.sl true 1 [],.sl true 1 [],.sl true 1 []]):=by kernel_rfl
@[go_sem] theorem zMW:zbd Tryz.prog 32 0=some (0,1):=by kernel_rfl
@[go_sem] theorem zLB:zb2 Tryz.prog 32 0=1:=by kernel_rfl
@[go_sem] theorem zLx:zbd Tryz.prog 32 1=some (1,1):=by kernel_rfl
@[go_sem] theorem zLF:zb2 Tryz.prog 32 1=1:=by kernel_rfl
@[go_sem] theorem zKr:zbd Tryz.prog 32 2=some (2,1):=by kernel_rfl
@[go_sem] theorem zLT:zb2 Tryz.prog 32 2=1:=by kernel_rfl
@[go_sem] theorem zNt:zbd Tryz.prog 32 3=some (3,3):=by kernel_rfl
@[go_sem] theorem zKN:zb2 Tryz.prog 32 3=0:=by kernel_rfl
@[go_sem] theorem zR0:tk Tryz.prog 60=some (true,5):=by kernel_rfl
@[go_sem] theorem zR8:zr Tryz.prog 60=some [.sl true 1 [],.sl true 1 [],.sl true 1 [],.sl true 1 [],.sl true 1 []]:=by kernel_rfl
@[go_sem] theorem zQo:ezT Tryz.prog 60=0:=by kernel_rfl
@[go_sem] theorem zQz:zgX Tryz.prog 60=some (zbd Tryz.prog 60,[.sl true 1 [],.sl true 1 [],.sl true 1 [],.sl true 1 [],.sl true 1 []]):=by kernel_rfl
@[go_sem] theorem zLj:zbd Tryz.prog 60 0=some (0,1):=by kernel_rfl
@[go_sem] theorem zL2:zb2 Tryz.prog 60 0=1:=by kernel_rfl
@[go_sem] theorem zNg:zbd Tryz.prog 60 1=some (1,1):=by kernel_rfl
@[go_sem] theorem zMs:zb2 Tryz.prog 60 1=1:=by kernel_rfl
@[go_sem] theorem zLV:zbd Tryz.prog 60 2=some (2,3):=by kernel_rfl
@[go_sem] theorem zKl:zb2 Tryz.prog 60 2=0:=by kernel_rfl
@[go_sem] theorem zSe:tk Tryz.prog 64=some (false,1):=by kernel_rfl
@[go_sem] theorem zRF:zr Tryz.prog 64=some [.nilp]:=by kernel_rfl
@[go_sem] theorem zQh:ezT Tryz.prog 64=0:=by kernel_rfl
@[go_sem] theorem zRK:tk Tryz.prog 65=some (false,1):=by kernel_rfl
@[go_sem] theorem zR5:zr Tryz.prog 65=some [.int .u64 0]:=by kernel_rfl
@[go_sem] theorem zQ2:ezT Tryz.prog 65=0:=by kernel_rfl
@[go_sem] theorem zQ7:zdC Tryz.prog 65=some .u64:=by kernel_rfl
@[go_sem] theorem zQR:zaY Tryz.prog 65=false:=by kernel_rfl
@[go_sem] theorem zRR:tk Tryz.prog 67=some (true,3):=by kernel_rfl
@[go_sem] theorem zRB:zr Tryz.prog 67=some [.sl true 1 [],.int .i64 0,.int .u64 0]:=by kernel_rfl
@[go_sem] theorem zQ0:ezT Tryz.prog 67=0:=by kernel_rfl
@[go_sem] theorem zPA:zgX Tryz.prog 67=some (zbd Tryz.prog 67,[.sl true 1 [],.int .i64 0,.int .u64 0]):=by kernel_rfl
@[go_sem] theorem zLH:zbd Tryz.prog 67 0=some (0,1):=by kernel_rfl
@[go_sem] theorem zL3:zb2 Tryz.prog 67 0=1:=by kernel_rfl
@[go_sem] theorem zLK:zbd Tryz.prog 67 1=some (1,1):=by kernel_rfl
@[go_sem] theorem zNu:zb2 Tryz.prog 67 1=0:=by kernel_rfl
@[go_sem] theorem zK8:zbd Tryz.prog 67 2=some (2,1):=by kernel_rfl
@[go_sem] theorem zLs:zb2 Tryz.prog 67 2=0:=by kernel_rfl
@[go_sem] theorem zSa:tk Tryz.prog 71=some (true,2):=by kernel_rfl
@[go_sem] theorem zRV:zr Tryz.prog 71=some [.int .i64 0,.sl true 1 []]:=by kernel_rfl
@[go_sem] theorem zRx:ezT Tryz.prog 71=0:=by kernel_rfl
@[go_sem] theorem zPz:zgX Tryz.prog 71=some (zbd Tryz.prog 71,[.int .i64 0,.sl true 1 []]):=by kernel_rfl
@[go_sem] theorem zLG:zbd Tryz.prog 71 0=some (0,1):=by kernel_rfl
@[go_sem] theorem zMP:zb2 Tryz.prog 71 0=0:=by kernel_rfl
@[go_sem] theorem zLh:zbd Tryz.prog 71 1=some (1,1):=by kernel_rfl
@[go_sem] theorem zKZ:zb2 Tryz.prog 71 1=1:=by kernel_rfl
@[go_sem] theorem zRP:tk Tryz.prog 82=some (false,1):=by kernel_rfl
@[go_sem] theorem zRM:zr Tryz.prog 82=some [.nilf]:=by kernel_rfl
@[go_sem] theorem zQs:ezT Tryz.prog 82=0:=by kernel_rfl
@[go_sem] theorem zR6:tk Tryz.prog 84=some (true,2):=by kernel_rfl
@[go_sem] theorem zSb:zr Tryz.prog 84=some [.int .i64 0,.int .i64 0]:=by kernel_rfl
@[go_sem] theorem zP8:ezT Tryz.prog 84=0:=by kernel_rfl
@[go_sem] theorem zPV:zkP Tryz.prog 84=some [0,1]:=by kernel_rfl
@[go_sem] theorem zQ9:zgX Tryz.prog 84=some (zbd Tryz.prog 84,[.int .i64 0,.int .i64 0]):=by kernel_rfl
@[go_sem] theorem zLu:zbd Tryz.prog 84 0=some (0,1):=by kernel_rfl
@[go_sem] theorem zLM:zb2 Tryz.prog 84 0=0:=by kernel_rfl
@[go_sem] theorem zMf:zbd Tryz.prog 84 1=some (1,1):=by kernel_rfl
@[go_sem] theorem zNm:zb2 Tryz.prog 84 1=0:=by kernel_rfl
@[go_sem] theorem zRW:tk Tryz.prog 92=some (false,1):=by kernel_rfl
@[go_sem] theorem zRZ:zr Tryz.prog 92=some [.nilf]:=by kernel_rfl
@[go_sem] theorem zQd:ezT Tryz.prog 92=0:=by kernel_rfl
@[go_sem] theorem zQI:tk Tryz.prog 114=some (false,1):=by kernel_rfl
@[go_sem] theorem zPC:zr Tryz.prog 114=some [.nilp]:=by kernel_rfl
@[go_sem] theorem zOC:ezT Tryz.prog 114=0:=by kernel_rfl
@[go_sem] theorem zQ6:tk Tryz.prog 116=some (true,1):=by kernel_rfl
@[go_sem] theorem zQT:zr Tryz.prog 116=some [.sl true 1 []]:=by kernel_rfl
@[go_sem] theorem zOQ:ezT Tryz.prog 116=0:=by kernel_rfl
@[go_sem] theorem zOP:zgX Tryz.prog 116=some (zbd Tryz.prog 116,[.sl true 1 []]):=by kernel_rfl
@[go_sem] theorem zGY:zbd Tryz.prog 116 0=some (0,1):=by kernel_rfl
@[go_sem] theorem zJ4:zb2 Tryz.prog 116 0=1:=by kernel_rfl
@[go_sem] theorem zQc:tk Tryz.prog 125=some (true,5):=by kernel_rfl
@[go_sem] theorem zQ4:zr Tryz.prog 125=some [.sl true 1 [],.sl true 1 [],.sl true 1 [],.sl true 1 [],.sl true 1 []]:=by kernel_rfl
@[go_sem] theorem zOc:ezT Tryz.prog 125=0:=by kernel_rfl
@[go_sem] theorem zNB:esz Tryz.prog 125=none:=by kernel_rfl
@[go_sem] theorem zPh:asz Tryz.prog 125=some (5,1):=by kernel_rfl
@[go_sem] theorem zNE {i:Nat}:zb2 Tryz.prog 125 i=1:=by kernel_rfl
@[go_sem] theorem zNU:zgX Tryz.prog 125=some (fun i=>some (i*1,1),[.sl true 1 [],.sl true 1 [],.sl true 1 [],.sl true 1 [],.sl true 1 []]):=by kernel_rfl
@[go_sem] theorem zRc:tk Tryz.prog 142=some (false,1):=by kernel_rfl
@[go_sem] theorem zQv:zr Tryz.prog 142=some [.sl true 1 []]:=by kernel_rfl
@[go_sem] theorem zOH:ezT Tryz.prog 142=1:=by kernel_rfl
@[go_sem] theorem zO9:zaP Tryz.prog 142=some 26:=by kernel_rfl
@[go_sem] theorem zNZ:zaY Tryz.prog 142=false:=by kernel_rfl
@[go_sem] theorem zOX:esz Tryz.prog 142=some 1:=by kernel_rfl
@[go_sem] theorem zRs:ez Tryz.prog 142=some (1,24,[.sl false 1 []]):=by kernel_rfl
@[go_sem] theorem zOa {i:Nat}:zb2 Tryz.prog 142 i=1:=by kernel_rfl
@[go_sem] theorem zRu:tk Tryz.prog 144=some (false,1):=by kernel_rfl
@[go_sem] theorem zPY:zr Tryz.prog 144=some [.nilf]:=by kernel_rfl
@[go_sem] theorem zPl:ezT Tryz.prog 144=0:=by kernel_rfl
@[go_sem] theorem zPX:tk Tryz.prog 161=some (false,1):=by kernel_rfl
@[go_sem] theorem zP9:zr Tryz.prog 161=some [.int .u64 0]:=by kernel_rfl
@[go_sem] theorem zNM:ezT Tryz.prog 161=0:=by kernel_rfl
@[go_sem] theorem zNH:zdC Tryz.prog 161=some .u64:=by kernel_rfl
@[go_sem] theorem zOn:zaY Tryz.prog 161=false:=by kernel_rfl
@[go_sem] theorem zQS:tk Tryz.prog 167=some (false,1):=by kernel_rfl
@[go_sem] theorem zRj:zr Tryz.prog 167=some [.nilf]:=by kernel_rfl
@[go_sem] theorem zOs:ezT Tryz.prog 167=0:=by kernel_rfl
@[go_sem] theorem zP5:tk Tryz.prog 181=some (false,1):=by kernel_rfl
@[go_sem] theorem zPx:zr Tryz.prog 181=some [.int .i64 0]:=by kernel_rfl
@[go_sem] theorem zNX:ezT Tryz.prog 181=0:=by kernel_rfl
@[go_sem] theorem zNF:zdC Tryz.prog 181=some .i64:=by kernel_rfl
@[go_sem] theorem zN3:zaY Tryz.prog 181=false:=by kernel_rfl
@[go_sem] theorem zP1:tk Tryz.prog 188=some (false,1):=by kernel_rfl
@[go_sem] theorem zQM:zr Tryz.prog 188=some [.int .u32 0]:=by kernel_rfl
@[go_sem] theorem zNP:ezT Tryz.prog 188=0:=by kernel_rfl
@[go_sem] theorem zOu:zdC Tryz.prog 188=some .u32:=by kernel_rfl
@[go_sem] theorem zOL:zaY Tryz.prog 188=false:=by kernel_rfl
@[go_sem] theorem zRo:tk Tryz.prog 190=some (false,1):=by kernel_rfl
@[go_sem] theorem zQP:zr Tryz.prog 190=some [.nilp]:=by kernel_rfl
@[go_sem] theorem zOi:ezT Tryz.prog 190=0:=by kernel_rfl
@[go_sem] theorem zQ8:tk Tryz.prog 192=some (true,2):=by kernel_rfl
@[go_sem] theorem zQj:zr Tryz.prog 192=some [.int .i64 0,.int .i64 0]:=by kernel_rfl
@[go_sem] theorem zOD:ezT Tryz.prog 192=0:=by kernel_rfl
@[go_sem] theorem zO7:zgX Tryz.prog 192=some (zbd Tryz.prog 192,[.int .i64 0,.int .i64 0]):=by kernel_rfl
@[go_sem] theorem zGA:zbd Tryz.prog 192 0=some (0,1):=by kernel_rfl
@[go_sem] theorem zI6:zb2 Tryz.prog 192 0=0:=by kernel_rfl
@[go_sem] theorem zJk:zbd Tryz.prog 192 1=some (1,1):=by kernel_rfl
@[go_sem] theorem zIh:zb2 Tryz.prog 192 1=0:=by kernel_rfl
@[go_sem] theorem zPL:tk Tryz.prog 194=some (false,1):=by kernel_rfl
@[go_sem] theorem zRm:zr Tryz.prog 194=some [.int .u64 0]:=by kernel_rfl
@[go_sem] theorem zPf:ezT Tryz.prog 194=0:=by kernel_rfl
@[go_sem] theorem zOF:zdC Tryz.prog 194=some .u64:=by kernel_rfl
@[go_sem] theorem zON:zaY Tryz.prog 194=false:=by kernel_rfl
@[go_sem] theorem zQg:tk Tryz.prog 198=some (false,1):=by kernel_rfl
@[go_sem] theorem zPB:zr Tryz.prog 198=some [.nilp]:=by kernel_rfl
@[go_sem] theorem zPc:ezT Tryz.prog 198=0:=by kernel_rfl
@[go_sem] theorem zPO:tk Tryz.prog 200=some (false,1):=by kernel_rfl
@[go_sem] theorem zQC:zr Tryz.prog 200=some [.nilp]:=by kernel_rfl
@[go_sem] theorem zPd:ezT Tryz.prog 200=0:=by kernel_rfl
theorem follows:Tryz.prog.follows .mixedOrders=true:=by kernel_rfl
theorem cl4:zaf Tryz.prog 4:=fun args w=>Tryz.call4 args w
theorem cl6:zaf Tryz.prog 6:=fun args w=>Tryz.call6 args w
theorem cl9:zaf Tryz.prog 9:=fun args w=>Tryz.call9 args w
theorem zJj:zaf Tryz.prog 14:=fun args w=>Tryz.call14 args w
theorem zHQ:zaf Tryz.prog 18:=fun args w=>Tryz.call18 args w
theorem zJQ:zaf Tryz.prog 19:=fun args w=>Tryz.call19 args w
theorem zHB:zaf Tryz.prog 20:=fun args w=>Tryz.call20 args w
theorem zHw:zaf Tryz.prog 21:=fun args w=>Tryz.call21 args w
theorem zHV:zaf Tryz.prog 22:=fun args w=>Tryz.call22 args w
theorem zHA:zaf Tryz.prog 23:=fun args w=>Tryz.call23 args w
theorem zGx:zaf Tryz.prog 24:=fun args w=>Tryz.call24 args w
theorem zJX:zaf Tryz.prog 25:=fun args w=>Tryz.call25 args w
theorem zGI:zaf Tryz.prog 26:=fun args w=>Tryz.call26 args w
theorem zI0:zaf Tryz.prog 27:=fun args w=>Tryz.call27 args w
theorem zHl:zaf Tryz.prog 28:=fun args w=>Tryz.call28 args w
theorem zGG:zaf Tryz.prog 29:=fun args w=>Tryz.call29 args w
theorem zGa:zaf Tryz.prog 30:=fun args w=>Tryz.call30 args w
theorem zG2:zaf Tryz.prog 31:=fun args w=>Tryz.call31 args w
theorem zGi:zaf Tryz.prog 32:=fun args w=>Tryz.call32 args w
theorem zJS:zaf Tryz.prog 33:=fun args w=>Tryz.call33 args w
theorem zGb:zaf Tryz.prog 34:=fun args w=>Tryz.call34 args w
theorem zJs:zaf Tryz.prog 35:=fun args w=>Tryz.call35 args w
theorem zI7:zaf Tryz.prog 36:=fun args w=>Tryz.call36 args w
theorem zIg:zaf Tryz.prog 39:=fun args w=>Tryz.call39 args w
theorem zHh:zaf Tryz.prog 40:=fun args w=>Tryz.call40 args w
theorem zGL:zaf Tryz.prog 41:=fun args w=>Tryz.call41 args w
theorem zJM:zaf Tryz.prog 43:=fun args w=>Tryz.call43 args w
theorem zIF:zaf Tryz.prog 44:=fun args w=>Tryz.call44 args w
theorem zKg:zaf Tryz.prog 46:=fun args w=>Tryz.call46 args w
theorem zIw:zaf Tryz.prog 47:=fun args w=>Tryz.call47 args w
theorem zF9:zaf Tryz.prog 48:=fun args w=>Tryz.call48 args w
theorem zJ9:zaf Tryz.prog 49:=fun args w=>Tryz.call49 args w
theorem zGo:zaf Tryz.prog 50:=fun args w=>Tryz.call50 args w
theorem zIq:zaf Tryz.prog 51:=fun args w=>Tryz.call51 args w
theorem zGj:zaf Tryz.prog 53:=fun args w=>Tryz.call53 args w
theorem zHU:zaf Tryz.prog 54:=fun args w=>Tryz.call54 args w
theorem zJR:zaf Tryz.prog 55:=fun args w=>Tryz.call55 args w
theorem zJA:zaf Tryz.prog 56:=fun args w=>Tryz.call56 args w
theorem zHn:zaf Tryz.prog 57:=fun args w=>Tryz.call57 args w
theorem zH6:zaf Tryz.prog 60:=fun args w=>Tryz.call60 args w
theorem zHv:zaf Tryz.prog 61:=fun args w=>Tryz.call61 args w
theorem zH3:zaf Tryz.prog 62:=fun args w=>Tryz.call62 args w
theorem zH0:zaf Tryz.prog 63:=fun args w=>Tryz.call63 args w
theorem zJy:zaf Tryz.prog 64:=fun args w=>Tryz.call64 args w
theorem zJa:zaf Tryz.prog 65:=fun args w=>Tryz.call65 args w
theorem zF3:zaf Tryz.prog 66:=fun args w=>Tryz.call66 args w
theorem zIe:zaf Tryz.prog 67:=fun args w=>Tryz.call67 args w
theorem zKj:zaf Tryz.prog 68:=fun args w=>Tryz.call68 args w
theorem zHa:zaf Tryz.prog 69:=fun args w=>Tryz.call69 args w
theorem zGN:zaf Tryz.prog 70:=fun args w=>Tryz.call70 args w
theorem zH9:zaf Tryz.prog 71:=fun args w=>Tryz.call71 args w
theorem zJH:zaf Tryz.prog 72:=fun args w=>Tryz.call72 args w
theorem zIK:zaf Tryz.prog 73:=fun args w=>Tryz.call73 args w
theorem zI1:zaf Tryz.prog 74:=fun args w=>Tryz.call74 args w
theorem zHK:zaf Tryz.prog 75:=fun args w=>Tryz.call75 args w
theorem zG3:zaf Tryz.prog 76:=fun args w=>Tryz.call76 args w
theorem zz7:zaf Tryz.prog 77:=fun args w=>Tryz.call77 args w
theorem zHe:zaf Tryz.prog 78:=fun args w=>Tryz.call78 args w
theorem zIp:zaf Tryz.prog 79:=fun args w=>Tryz.call79 args w
theorem zHb:zaf Tryz.prog 80:=fun args w=>Tryz.call80 args w
theorem ztb:zaf Tryz.prog 81:=fun args w=>Tryz.call81 args w
theorem zGg:zaf Tryz.prog 82:=fun args w=>Tryz.call82 args w
theorem zGt:zaf Tryz.prog 83:=fun args w=>Tryz.call83 args w
theorem zG8:zaf Tryz.prog 84:=fun args w=>Tryz.call84 args w
theorem zHF:zaf Tryz.prog 85:=fun args w=>Tryz.call85 args w
theorem zIv:zaf Tryz.prog 86:=fun args w=>Tryz.call86 args w
theorem zJe:zaf Tryz.prog 87:=fun args w=>Tryz.call87 args w
theorem zH7:zaf Tryz.prog 88:=fun args w=>Tryz.call88 args w
theorem zIy:zaf Tryz.prog 89:=fun args w=>Tryz.call89 args w
theorem zJf:zaf Tryz.prog 90:=fun args w=>Tryz.call90 args w
theorem zHu:zaf Tryz.prog 91:=fun args w=>Tryz.call91 args w
theorem zIE:zaf Tryz.prog 92:=fun args w=>Tryz.call92 args w
theorem zIs:zaf Tryz.prog 93:=fun args w=>Tryz.call93 args w
theorem zHo:zaf Tryz.prog 94:=fun args w=>Tryz.call94 args w
theorem zJw:zaf Tryz.prog 95:=fun args w=>Tryz.call95 args w
theorem zGc:zaf Tryz.prog 96:=fun args w=>Tryz.call96 args w
theorem zGk:zaf Tryz.prog 97:=fun args w=>Tryz.call97 args w
theorem zCc:zaf Tryz.prog 105:=fun args w=>Tryz.call105 args w
theorem zDx:zaf Tryz.prog 107:=fun args w=>Tryz.call107 args w
theorem zEd:zaf Tryz.prog 111:=fun args w=>Tryz.call111 args w
theorem zDP:zaf Tryz.prog 114:=fun args w=>Tryz.call114 args w
theorem zEp:zaf Tryz.prog 115:=fun args w=>Tryz.call115 args w
theorem zBY:zaf Tryz.prog 116:=fun args w=>Tryz.call116 args w
theorem zCg:zaf Tryz.prog 117:=fun args w=>Tryz.call117 args w
theorem zDh:zaf Tryz.prog 121:=fun args w=>Tryz.call121 args w
theorem zCi:zaf Tryz.prog 122:=fun args w=>Tryz.call122 args w
theorem zEf:zaf Tryz.prog 123:=fun args w=>Tryz.call123 args w
theorem zCh:zaf Tryz.prog 124:=fun args w=>Tryz.call124 args w
theorem zCH:zaf Tryz.prog 125:=fun args w=>Tryz.call125 args w
theorem zEc:zaf Tryz.prog 126:=fun args w=>Tryz.call126 args w
theorem zCr:zaf Tryz.prog 128:=fun args w=>Tryz.call128 args w
theorem zDO:zaf Tryz.prog 129:=fun args w=>Tryz.call129 args w
theorem zDI:zaf Tryz.prog 130:=fun args w=>Tryz.call130 args w
theorem zBX:zaf Tryz.prog 131:=fun args w=>Tryz.call131 args w
theorem zDu:zaf Tryz.prog 132:=fun args w=>Tryz.call132 args w
theorem zCI:zaf Tryz.prog 133:=fun args w=>Tryz.call133 args w
theorem zCU:zaf Tryz.prog 134:=fun args w=>Tryz.call134 args w
theorem zCB:zaf Tryz.prog 135:=fun args w=>Tryz.call135 args w
theorem zDD:zaf Tryz.prog 136:=fun args w=>Tryz.call136 args w
theorem zDT:zaf Tryz.prog 137:=fun args w=>Tryz.call137 args w
theorem zEx:zaf Tryz.prog 138:=fun args w=>Tryz.call138 args w
theorem zCP:zaf Tryz.prog 139:=fun args w=>Tryz.call139 args w
theorem zBF:zaf Tryz.prog 140:=fun args w=>Tryz.call140 args w
theorem zEz:zaf Tryz.prog 141:=fun args w=>Tryz.call141 args w
theorem zC3:zaf Tryz.prog 142:=fun args w=>Tryz.call142 args w
theorem zCa:zaf Tryz.prog 143:=fun args w=>Tryz.call143 args w
theorem zBU:zaf Tryz.prog 144:=fun args w=>Tryz.call144 args w
theorem zCZ:zaf Tryz.prog 145:=fun args w=>Tryz.call145 args w
theorem zEa:zaf Tryz.prog 146:=fun args w=>Tryz.call146 args w
theorem zEm:zaf Tryz.prog 147:=fun args w=>Tryz.call147 args w
theorem zoU:zaf Tryz.prog 148:=fun args w=>Tryz.call148 args w
theorem zpd:zaf Tryz.prog 149:=fun args w=>Tryz.call149 args w
theorem zCJ:zaf Tryz.prog 150:=fun args w=>Tryz.call150 args w
theorem zCu:zaf Tryz.prog 151:=fun args w=>Tryz.call151 args w
theorem zBs:zaf Tryz.prog 152:=fun args w=>Tryz.call152 args w
theorem zD0:zaf Tryz.prog 156:=fun args w=>Tryz.call156 args w
theorem zDA:zaf Tryz.prog 157:=fun args w=>Tryz.call157 args w
theorem zB0:zaf Tryz.prog 158:=fun args w=>Tryz.call158 args w
theorem zEE:zaf Tryz.prog 159:=fun args w=>Tryz.call159 args w
theorem zDw:zaf Tryz.prog 160:=fun args w=>Tryz.call160 args w
theorem zCA:zaf Tryz.prog 161:=fun args w=>Tryz.call161 args w
theorem zBC:zaf Tryz.prog 162:=fun args w=>Tryz.call162 args w
theorem zDz:zaf Tryz.prog 163:=fun args w=>Tryz.call163 args w
theorem zBD:zaf Tryz.prog 164:=fun args w=>Tryz.call164 args w
theorem zCn:zaf Tryz.prog 165:=fun args w=>Tryz.call165 args w
theorem zCV:zaf Tryz.prog 166:=fun args w=>Tryz.call166 args w
theorem zDn:zaf Tryz.prog 169:=fun args w=>Tryz.call169 args w
theorem zDy:zaf Tryz.prog 170:=fun args w=>Tryz.call170 args w
theorem zo0:zaf Tryz.prog 171:=fun args w=>Tryz.call171 args w
theorem zBG:zaf Tryz.prog 176:=fun args w=>Tryz.call176 args w
theorem zBv:zaf Tryz.prog 177:=fun args w=>Tryz.call177 args w
theorem zBB:zaf Tryz.prog 178:=fun args w=>Tryz.call178 args w
theorem zDC:zaf Tryz.prog 190:=fun args w=>Tryz.call190 args w
theorem zD4:zaf Tryz.prog 192:=fun args w=>Tryz.call192 args w
end Go.Pm
