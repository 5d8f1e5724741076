import Derived.Test.YtekoabfndgochaaGreatDoorPmW
import Derived.Test.YtekoabfndgochaaGreatDoorProg
import Derived.KernelRfl
namespace Go.Pm
open Go.Am
open Go.Proofs
set_option maxRecDepth 100000
@[go_sem] theorem tk2:tk Tryz.prog 2=some (false,1):=by kernel_rfl
@[go_sem] theorem zr2:zr Tryz.prog 2=some [.int .i64 0]:=by kernel_rfl
@[go_sem] theorem zTg:ezT Tryz.prog 2=0:=by kernel_rfl
@[go_sem] theorem zTu:zdI Tryz.prog 2=some .i64:=by kernel_rfl
@[go_sem] theorem zS4:zaE Tryz.prog 2=false:=by kernel_rfl
@[go_sem] theorem tk3:tk Tryz.prog 3=some (false,1):=by kernel_rfl
@[go_sem] theorem zr3:zr Tryz.prog 3=some [.int .i64 0]:=by kernel_rfl
@[go_sem] theorem zS7:ezT Tryz.prog 3=0:=by kernel_rfl
@[go_sem] theorem zTe:zdI Tryz.prog 3=some .i64:=by kernel_rfl
@[go_sem] theorem zSN:zaE Tryz.prog 3=false:=by kernel_rfl
@[go_sem] theorem tk4:tk Tryz.prog 4=some (false,1):=by kernel_rfl
@[go_sem] theorem zr4:zr Tryz.prog 4=some [.bool false]:=by kernel_rfl
@[go_sem] theorem zTo:ezT Tryz.prog 4=0:=by kernel_rfl
@[go_sem] theorem zS5:zib Tryz.prog 4=true:=by kernel_rfl
@[go_sem] theorem tk5:tk Tryz.prog 5=some (false,1):=by kernel_rfl
@[go_sem] theorem zr5:zr Tryz.prog 5=some [.int .u8 0]:=by kernel_rfl
@[go_sem] theorem zTA:ezT Tryz.prog 5=0:=by kernel_rfl
@[go_sem] theorem zS1:zdI Tryz.prog 5=some .u8:=by kernel_rfl
@[go_sem] theorem zTh:zaE Tryz.prog 5=false:=by kernel_rfl
@[go_sem] theorem tk9:tk Tryz.prog 9=some (false,1):=by kernel_rfl
@[go_sem] theorem zr9:zr Tryz.prog 9=some [.str ⟨#[]⟩]:=by kernel_rfl
@[go_sem] theorem zS6:ezT Tryz.prog 9=0:=by kernel_rfl
@[go_sem] theorem zTx:zaE Tryz.prog 9=true:=by kernel_rfl
@[go_sem] theorem zSO:tk Tryz.prog 20=some (false,1):=by kernel_rfl
@[go_sem] theorem zSX:zr Tryz.prog 20=some [.nili]:=by kernel_rfl
@[go_sem] theorem zRg:ezT Tryz.prog 20=0:=by kernel_rfl
@[go_sem] theorem zTr:tk Tryz.prog 22=some (false,1):=by kernel_rfl
@[go_sem] theorem zTi:zr Tryz.prog 22=some [.sl true 1 []]:=by kernel_rfl
@[go_sem] theorem zQu:ezT Tryz.prog 22=1:=by kernel_rfl
@[go_sem] theorem zRx:zaz Tryz.prog 22=some 5:=by kernel_rfl
@[go_sem] theorem zQj:zaE Tryz.prog 22=false:=by kernel_rfl
@[go_sem] theorem zSx:esz Tryz.prog 22=some 1:=by kernel_rfl
@[go_sem] theorem zSA:zhK Tryz.prog 22=true:=by kernel_rfl
@[go_sem] theorem zSZ:ez Tryz.prog 22=some (1,1,[.int .u8 0]):=by kernel_rfl
@[go_sem] theorem zQ7 {i:Nat}:zaV Tryz.prog 22 i=0:=by kernel_rfl
@[go_sem] theorem zTm:tk Tryz.prog 25=some (true,3):=by kernel_rfl
@[go_sem] theorem zTs:zr Tryz.prog 25=some [.int .i64 0,.int .i64 0,.int .i64 0]:=by kernel_rfl
@[go_sem] theorem zR2:ezT Tryz.prog 25=0:=by kernel_rfl
@[go_sem] theorem zSa:zfH Tryz.prog 25=some (zaC Tryz.prog 25,[.int .i64 0,.int .i64 0,.int .i64 0]):=by kernel_rfl
@[go_sem] theorem zM7:zaC Tryz.prog 25 0=some (0,1):=by kernel_rfl
@[go_sem] theorem zNt:zaV Tryz.prog 25 0=0:=by kernel_rfl
@[go_sem] theorem zLE:zaC Tryz.prog 25 1=some (1,1):=by kernel_rfl
@[go_sem] theorem zMk:zaV Tryz.prog 25 1=0:=by kernel_rfl
@[go_sem] theorem zKT:zaC Tryz.prog 25 2=some (2,1):=by kernel_rfl
@[go_sem] theorem zLw:zaV Tryz.prog 25 2=0:=by kernel_rfl
@[go_sem] theorem zTn:tk Tryz.prog 27=some (true,5):=by kernel_rfl
@[go_sem] theorem zTC:zr Tryz.prog 27=some [.int .i64 0,.int .i64 0,.int .i64 0,.int .i64 0,.int .i64 0]:=by kernel_rfl
@[go_sem] theorem zRO:ezT Tryz.prog 27=0:=by kernel_rfl
@[go_sem] theorem zQK:zfH Tryz.prog 27=some (zaC Tryz.prog 27,[.int .i64 0,.int .i64 0,.int .i64 0,.int .i64 0,.int .i64 0]):=by kernel_rfl
@[go_sem] theorem zLD:zaC Tryz.prog 27 0=some (0,1):=by kernel_rfl
@[go_sem] theorem zMI:zaV Tryz.prog 27 0=0:=by kernel_rfl
@[go_sem] theorem zND:zaC Tryz.prog 27 1=some (1,1):=by kernel_rfl
@[go_sem] theorem zKM:zaV Tryz.prog 27 1=0:=by kernel_rfl
@[go_sem] theorem zMA:zaC Tryz.prog 27 2=some (2,1):=by kernel_rfl
@[go_sem] theorem zKU:zaV Tryz.prog 27 2=0:=by kernel_rfl
@[go_sem] theorem zNH:zaC Tryz.prog 27 3=some (3,1):=by kernel_rfl
@[go_sem] theorem zLL:zaV Tryz.prog 27 3=0:=by kernel_rfl
@[go_sem] theorem zN4:zaC Tryz.prog 27 4=some (4,1):=by kernel_rfl
@[go_sem] theorem zNb:zaV Tryz.prog 27 4=0:=by kernel_rfl
@[go_sem] theorem zST:tk Tryz.prog 28=some (false,1):=by kernel_rfl
@[go_sem] theorem zTd:zr Tryz.prog 28=some [.sl true 1 []]:=by kernel_rfl
@[go_sem] theorem zSp:ezT Tryz.prog 28=1:=by kernel_rfl
@[go_sem] theorem zSv:zaz Tryz.prog 28=some 3:=by kernel_rfl
@[go_sem] theorem zRp:zaE Tryz.prog 28=false:=by kernel_rfl
@[go_sem] theorem zR4:esz Tryz.prog 28=some 1:=by kernel_rfl
@[go_sem] theorem zJI:ez Tryz.prog 28=some (1,8,[.int .i64 0]):=by kernel_rfl
@[go_sem] theorem zSm {i:Nat}:zaV Tryz.prog 28 i=0:=by kernel_rfl
@[go_sem] theorem zSW:tk Tryz.prog 30=some (true,5):=by kernel_rfl
@[go_sem] theorem zS3:zr Tryz.prog 30=some [.int .i64 0,.sl true 1 [],.sl true 1 [],.int .i64 0,.bool false]:=by kernel_rfl
@[go_sem] theorem zR3:ezT Tryz.prog 30=0:=by kernel_rfl
@[go_sem] theorem zRy:zfH Tryz.prog 30=some (zaC Tryz.prog 30,[.int .i64 0,.sl true 1 [],.sl true 1 [],.int .i64 0,.bool false]):=by kernel_rfl
@[go_sem] theorem zNh:zaC Tryz.prog 30 0=some (0,1):=by kernel_rfl
@[go_sem] theorem zNx:zaV Tryz.prog 30 0=0:=by kernel_rfl
@[go_sem] theorem zLT:zaC Tryz.prog 30 1=some (1,1):=by kernel_rfl
@[go_sem] theorem zLr:zaV Tryz.prog 30 1=1:=by kernel_rfl
@[go_sem] theorem zKJ:zaC Tryz.prog 30 2=some (2,1):=by kernel_rfl
@[go_sem] theorem zMt:zaV Tryz.prog 30 2=1:=by kernel_rfl
@[go_sem] theorem zLd:zaC Tryz.prog 30 3=some (3,1):=by kernel_rfl
@[go_sem] theorem zMG:zaV Tryz.prog 30 3=0:=by kernel_rfl
@[go_sem] theorem zK1:zaC Tryz.prog 30 4=some (4,1):=by kernel_rfl
@[go_sem] theorem zLj:zaV Tryz.prog 30 4=0:=by kernel_rfl
@[go_sem] theorem zTl:tk Tryz.prog 46=some (false,1):=by kernel_rfl
@[go_sem] theorem zS9:zr Tryz.prog 46=some [.sl true 2 []]:=by kernel_rfl
@[go_sem] theorem zQk:ezT Tryz.prog 46=2:=by kernel_rfl
@[go_sem] theorem zRT:zaz Tryz.prog 46=some 88:=by kernel_rfl
@[go_sem] theorem zQN:zaE Tryz.prog 46=false:=by kernel_rfl
@[go_sem] theorem zSt:esz Tryz.prog 46=some 2:=by kernel_rfl
@[go_sem] theorem zTb:ez Tryz.prog 46=some (2,16,[.int .i64 0,.int .i64 0]):=by kernel_rfl
@[go_sem] theorem zSE {i:Nat}:zaV Tryz.prog 46 i=0:=by kernel_rfl
@[go_sem] theorem zSU:tk Tryz.prog 47=some (false,1):=by kernel_rfl
@[go_sem] theorem zTj:zr Tryz.prog 47=some [.sl true 3 []]:=by kernel_rfl
@[go_sem] theorem zRn:ezT Tryz.prog 47=3:=by kernel_rfl
@[go_sem] theorem zRr:zaz Tryz.prog 47=some 49:=by kernel_rfl
@[go_sem] theorem zQL:zaE Tryz.prog 47=false:=by kernel_rfl
@[go_sem] theorem zRj:esz Tryz.prog 47=some 3:=by kernel_rfl
@[go_sem] theorem zTf:ez Tryz.prog 47=some (3,72,[.sl false 1 [],.sl false 1 [],.sl false 1 []]):=by kernel_rfl
@[go_sem] theorem zSs {i:Nat}:zaV Tryz.prog 47 i=0:=by kernel_rfl
@[go_sem] theorem zTy:tk Tryz.prog 49=some (true,3):=by kernel_rfl
@[go_sem] theorem zTD:zr Tryz.prog 49=some [.sl true 1 [],.sl true 1 [],.sl true 1 []]:=by kernel_rfl
@[go_sem] theorem zSM:ezT Tryz.prog 49=0:=by kernel_rfl
@[go_sem] theorem zSr:zfH Tryz.prog 49=some (zaC Tryz.prog 49,[.sl true 1 [],.sl true 1 [],.sl true 1 []]):=by kernel_rfl
@[go_sem] theorem zLK:zaC Tryz.prog 49 0=some (0,1):=by kernel_rfl
@[go_sem] theorem zLI:zaV Tryz.prog 49 0=1:=by kernel_rfl
@[go_sem] theorem zMX:zaC Tryz.prog 49 1=some (1,1):=by kernel_rfl
@[go_sem] theorem zMb:zaV Tryz.prog 49 1=1:=by kernel_rfl
@[go_sem] theorem zMJ:zaC Tryz.prog 49 2=some (2,1):=by kernel_rfl
@[go_sem] theorem zNp:zaV Tryz.prog 49 2=1:=by kernel_rfl
@[go_sem] theorem zSQ:tk Tryz.prog 51=some (true,6):=by kernel_rfl
@[go_sem] theorem zSV:zr Tryz.prog 51=some [.int .i64 0,.sl true 2 [],.sl true 3 [],.sl true 1 [],.sl true 1 [],.sl true 1 []]:=by kernel_rfl
@[go_sem] theorem zQD:ezT Tryz.prog 51=0:=by kernel_rfl
@[go_sem] theorem zRt:zfH Tryz.prog 51=some (zaC Tryz.prog 51,[.int .i64 0,.sl true 2 [],.sl true 3 [],.sl true 1 [],.sl true 1 [],.sl true 1 []]):=by kernel_rfl
@[go_sem] theorem zMQ:zaC Tryz.prog 51 0=some (0,1):=by kernel_rfl
@[go_sem] theorem zNK:zaV Tryz.prog 51 0=0:=by kernel_rfl
@[go_sem] theorem zMv:zaC Tryz.prog 51 1=some (1,1):=by kernel_rfl
@[go_sem] theorem zMa:zaV Tryz.prog 51 1=2:=by kernel_rfl
@[go_sem] theorem zKY:zaC Tryz.prog 51 2=some (2,1):=by kernel_rfl
@[go_sem] theorem zMm:zaV Tryz.prog 51 2=3:=by kernel_rfl
@[go_sem] theorem zKH:zaC Tryz.prog 51 3=some (3,3):=by kernel_rfl
@[go_sem] theorem zL3:zaV Tryz.prog 51 3=0:=by kernel_rfl
@[go_sem] theorem zTz:tk Tryz.prog 62=some (false,1):=by kernel_rfl
@[go_sem] theorem zTv:zr Tryz.prog 62=some [.nilp]:=by kernel_rfl
@[go_sem] theorem zQB:ezT Tryz.prog 62=0:=by kernel_rfl
@[go_sem] theorem zS2:tk Tryz.prog 63=some (false,1):=by kernel_rfl
@[go_sem] theorem zTw:zr Tryz.prog 63=some [.int .u64 0]:=by kernel_rfl
@[go_sem] theorem zQ0:ezT Tryz.prog 63=0:=by kernel_rfl
@[go_sem] theorem zQv:zdI Tryz.prog 63=some .u64:=by kernel_rfl
@[go_sem] theorem zSy:zaE Tryz.prog 63=false:=by kernel_rfl
@[go_sem] theorem zSR:tk Tryz.prog 65=some (true,3):=by kernel_rfl
@[go_sem] theorem zSP:zr Tryz.prog 65=some [.sl true 1 [],.int .i64 0,.int .u64 0]:=by kernel_rfl
@[go_sem] theorem zSn:ezT Tryz.prog 65=0:=by kernel_rfl
@[go_sem] theorem zSf:zfH Tryz.prog 65=some (zaC Tryz.prog 65,[.sl true 1 [],.int .i64 0,.int .u64 0]):=by kernel_rfl
@[go_sem] theorem zNj:zaC Tryz.prog 65 0=some (0,1):=by kernel_rfl
@[go_sem] theorem zMp:zaV Tryz.prog 65 0=1:=by kernel_rfl
@[go_sem] theorem zM6:zaC Tryz.prog 65 1=some (1,1):=by kernel_rfl
@[go_sem] theorem zNd:zaV Tryz.prog 65 1=0:=by kernel_rfl
@[go_sem] theorem zMh:zaC Tryz.prog 65 2=some (2,1):=by kernel_rfl
@[go_sem] theorem zMS:zaV Tryz.prog 65 2=0:=by kernel_rfl
@[go_sem] theorem zTt:tk Tryz.prog 69=some (false,1):=by kernel_rfl
@[go_sem] theorem zTE:zr Tryz.prog 69=some [.nilf]:=by kernel_rfl
@[go_sem] theorem zSI:ezT Tryz.prog 69=0:=by kernel_rfl
@[go_sem] theorem zS8:tk Tryz.prog 74=some (false,1):=by kernel_rfl
@[go_sem] theorem zS0:zr Tryz.prog 74=some [.nilf]:=by kernel_rfl
@[go_sem] theorem zSh:ezT Tryz.prog 74=0:=by kernel_rfl
@[go_sem] theorem zTk:tk Tryz.prog 88=some (true,2):=by kernel_rfl
@[go_sem] theorem zSY:zr Tryz.prog 88=some [.int .i64 0,.int .i64 0]:=by kernel_rfl
@[go_sem] theorem zRo:ezT Tryz.prog 88=0:=by kernel_rfl
@[go_sem] theorem zQo:zlm Tryz.prog 88=some [0,1]:=by kernel_rfl
@[go_sem] theorem zR7:zfH Tryz.prog 88=some (zaC Tryz.prog 88,[.int .i64 0,.int .i64 0]):=by kernel_rfl
@[go_sem] theorem zNM:zaC Tryz.prog 88 0=some (0,1):=by kernel_rfl
@[go_sem] theorem zMy:zaV Tryz.prog 88 0=0:=by kernel_rfl
@[go_sem] theorem zLO:zaC Tryz.prog 88 1=some (1,1):=by kernel_rfl
@[go_sem] theorem zM8:zaV Tryz.prog 88 1=0:=by kernel_rfl
@[go_sem] theorem zTa:tk Tryz.prog 92=some (false,1):=by kernel_rfl
@[go_sem] theorem zTB:zr Tryz.prog 92=some [.sl true 4 []]:=by kernel_rfl
@[go_sem] theorem zQU:ezT Tryz.prog 92=4:=by kernel_rfl
@[go_sem] theorem zRX:zaz Tryz.prog 92=some 138:=by kernel_rfl
@[go_sem] theorem zSB:zaE Tryz.prog 92=false:=by kernel_rfl
@[go_sem] theorem zRf:esz Tryz.prog 92=some 4:=by kernel_rfl
@[go_sem] theorem zTq:ez Tryz.prog 92=some (4,32,[.int .i64 0,.int .i64 0,.int .i64 0,.int .i64 0]):=by kernel_rfl
@[go_sem] theorem zQ1 {i:Nat}:zaV Tryz.prog 92 i=0:=by kernel_rfl
@[go_sem] theorem zQ8:tk Tryz.prog 108=some (false,1):=by kernel_rfl
@[go_sem] theorem zRQ:zr Tryz.prog 108=some [.sl true 1 []]:=by kernel_rfl
@[go_sem] theorem zPH:ezT Tryz.prog 108=1:=by kernel_rfl
@[go_sem] theorem zPo:zaz Tryz.prog 108=some 28:=by kernel_rfl
@[go_sem] theorem zO7:zaE Tryz.prog 108=false:=by kernel_rfl
@[go_sem] theorem zO5:esz Tryz.prog 108=some 1:=by kernel_rfl
@[go_sem] theorem zQl:ez Tryz.prog 108=some (1,24,[.sl false 1 []]):=by kernel_rfl
@[go_sem] theorem zOl {i:Nat}:zaV Tryz.prog 108 i=1:=by kernel_rfl
@[go_sem] theorem zQz:tk Tryz.prog 138=some (true,4):=by kernel_rfl
@[go_sem] theorem zRA:zr Tryz.prog 138=some [.int .i64 0,.int .i64 0,.int .i64 0,.int .i64 0]:=by kernel_rfl
@[go_sem] theorem zPX:ezT Tryz.prog 138=0:=by kernel_rfl
@[go_sem] theorem zPz:zfH Tryz.prog 138=some (zaC Tryz.prog 138,[.int .i64 0,.int .i64 0,.int .i64 0,.int .i64 0]):=by kernel_rfl
@[go_sem] theorem zJW:zaC Tryz.prog 138 0=some (0,1):=by kernel_rfl
@[go_sem] theorem zKm:zaV Tryz.prog 138 0=0:=by kernel_rfl
@[go_sem] theorem zHM:zaC Tryz.prog 138 1=some (1,1):=by kernel_rfl
@[go_sem] theorem zGL:zaV Tryz.prog 138 1=0:=by kernel_rfl
@[go_sem] theorem zJl:zaC Tryz.prog 138 2=some (2,1):=by kernel_rfl
@[go_sem] theorem zI9:zaV Tryz.prog 138 2=0:=by kernel_rfl
@[go_sem] theorem zIO:zaC Tryz.prog 138 3=some (3,1):=by kernel_rfl
@[go_sem] theorem zH4:zaV Tryz.prog 138 3=0:=by kernel_rfl
@[go_sem] theorem zQF:tk Tryz.prog 154=some (false,1):=by kernel_rfl
@[go_sem] theorem zRd:zr Tryz.prog 154=some [.nilf]:=by kernel_rfl
@[go_sem] theorem zQd:ezT Tryz.prog 154=0:=by kernel_rfl
@[go_sem] theorem zRm:tk Tryz.prog 156=some (false,1):=by kernel_rfl
@[go_sem] theorem zSu:zr Tryz.prog 156=some [.nilp]:=by kernel_rfl
@[go_sem] theorem zOK:ezT Tryz.prog 156=0:=by kernel_rfl
@[go_sem] theorem zRZ:tk Tryz.prog 158=some (true,2):=by kernel_rfl
@[go_sem] theorem zQ4:zr Tryz.prog 158=some [.sl true 1 [],.bool false]:=by kernel_rfl
@[go_sem] theorem zOx:ezT Tryz.prog 158=0:=by kernel_rfl
@[go_sem] theorem zOy:zfH Tryz.prog 158=some (zaC Tryz.prog 158,[.sl true 1 [],.bool false]):=by kernel_rfl
@[go_sem] theorem zIo:zaC Tryz.prog 158 0=some (0,1):=by kernel_rfl
@[go_sem] theorem zHZ:zaV Tryz.prog 158 0=1:=by kernel_rfl
@[go_sem] theorem zJf:zaC Tryz.prog 158 1=some (1,1):=by kernel_rfl
@[go_sem] theorem zJg:zaV Tryz.prog 158 1=0:=by kernel_rfl
@[go_sem] theorem zRS:tk Tryz.prog 168=some (false,1):=by kernel_rfl
@[go_sem] theorem zSG:zr Tryz.prog 168=some [.int .u64 0]:=by kernel_rfl
@[go_sem] theorem zPs:ezT Tryz.prog 168=0:=by kernel_rfl
@[go_sem] theorem zPk:zdI Tryz.prog 168=some .u64:=by kernel_rfl
@[go_sem] theorem zOp:zaE Tryz.prog 168=false:=by kernel_rfl
@[go_sem] theorem zQH:tk Tryz.prog 173=some (false,1):=by kernel_rfl
@[go_sem] theorem zQS:zr Tryz.prog 173=some [.nilf]:=by kernel_rfl
@[go_sem] theorem zPV:ezT Tryz.prog 173=0:=by kernel_rfl
@[go_sem] theorem zQJ:tk Tryz.prog 184=some (false,1):=by kernel_rfl
@[go_sem] theorem zSe:zr Tryz.prog 184=some [.nilp]:=by kernel_rfl
@[go_sem] theorem zOj:ezT Tryz.prog 184=0:=by kernel_rfl
@[go_sem] theorem zQG:tk Tryz.prog 186=some (true,2):=by kernel_rfl
@[go_sem] theorem zRN:zr Tryz.prog 186=some [.int .i64 0,.int .i64 0]:=by kernel_rfl
@[go_sem] theorem zPD:ezT Tryz.prog 186=0:=by kernel_rfl
@[go_sem] theorem zPW:zfH Tryz.prog 186=some (zaC Tryz.prog 186,[.int .i64 0,.int .i64 0]):=by kernel_rfl
@[go_sem] theorem zGK:zaC Tryz.prog 186 0=some (0,1):=by kernel_rfl
@[go_sem] theorem zJc:zaV Tryz.prog 186 0=0:=by kernel_rfl
@[go_sem] theorem zGR:zaC Tryz.prog 186 1=some (1,1):=by kernel_rfl
@[go_sem] theorem zJ6:zaV Tryz.prog 186 1=0:=by kernel_rfl
@[go_sem] theorem zQC:tk Tryz.prog 198=some (true,24):=by kernel_rfl
@[go_sem] theorem zRC:zr Tryz.prog 198=some [.int .u8 0,.int .u8 0,.int .u8 0,.int .u8 0,.int .u8 0,.int .u8 0,.int .u8 0,.int .u8 0,.int .u8 0,.int .u8 0,.int .u8 0,.int .u8 0,.int .u8 0,.int .u8 0,.int .u8 0,.int .u8 0,.int .u8 0,.int .u8 0,.int .u8 0,.int .u8 0,.int .u8 0,.int .u8 0,.int .u8 0,.int .u8 0]:=by kernel_rfl
@[go_sem] theorem zOA:ezT Tryz.prog 198=0:=by kernel_rfl
@[go_sem] theorem zOd:esz Tryz.prog 198=none:=by kernel_rfl
@[go_sem] theorem zOJ:asz Tryz.prog 198=some (24,1):=by kernel_rfl
@[go_sem] theorem zP0 {i:Nat}:zaV Tryz.prog 198 i=0:=by kernel_rfl
@[go_sem] theorem zPF:zfH Tryz.prog 198=some (fun i=>some (i*1,1),[.int .u8 0,.int .u8 0,.int .u8 0,.int .u8 0,.int .u8 0,.int .u8 0,.int .u8 0,.int .u8 0,.int .u8 0,.int .u8 0,.int .u8 0,.int .u8 0,.int .u8 0,.int .u8 0,.int .u8 0,.int .u8 0,.int .u8 0,.int .u8 0,.int .u8 0,.int .u8 0,.int .u8 0,.int .u8 0,.int .u8 0,.int .u8 0]):=by kernel_rfl
@[go_sem] theorem zRM:tk Tryz.prog 206=some (true,20):=by kernel_rfl
@[go_sem] theorem zSC:zr Tryz.prog 206=some [.int .u64 0,.int .u64 0,.int .u64 0,.int .u64 0,.int .u64 0,.int .u64 0,.int .u64 0,.int .u64 0,.int .u64 0,.int .u64 0,.int .u64 0,.int .u64 0,.int .u64 0,.int .u64 0,.int .u64 0,.int .u64 0,.int .u64 0,.int .u64 0,.int .u64 0,.int .u64 0]:=by kernel_rfl
@[go_sem] theorem zOb:ezT Tryz.prog 206=0:=by kernel_rfl
@[go_sem] theorem zOw:esz Tryz.prog 206=none:=by kernel_rfl
@[go_sem] theorem zOS:asz Tryz.prog 206=some (20,1):=by kernel_rfl
@[go_sem] theorem zOF {i:Nat}:zaV Tryz.prog 206 i=0:=by kernel_rfl
@[go_sem] theorem zO3:zfH Tryz.prog 206=some (fun i=>some (i*1,1),[.int .u64 0,.int .u64 0,.int .u64 0,.int .u64 0,.int .u64 0,.int .u64 0,.int .u64 0,.int .u64 0,.int .u64 0,.int .u64 0,.int .u64 0,.int .u64 0,.int .u64 0,.int .u64 0,.int .u64 0,.int .u64 0,.int .u64 0,.int .u64 0,.int .u64 0,.int .u64 0]):=by kernel_rfl
@[go_sem] theorem zRF:tk Tryz.prog 207=some (false,1):=by kernel_rfl
@[go_sem] theorem zSc:zr Tryz.prog 207=some [.int .u32 0]:=by kernel_rfl
@[go_sem] theorem zOr:ezT Tryz.prog 207=0:=by kernel_rfl
@[go_sem] theorem zPu:zdI Tryz.prog 207=some .u32:=by kernel_rfl
@[go_sem] theorem zOD:zaE Tryz.prog 207=false:=by kernel_rfl
@[go_sem] theorem zQ2:tk Tryz.prog 208=some (true,65):=by kernel_rfl
@[go_sem] theorem zSk:zr Tryz.prog 208=some [.int .u8 0,.int .u8 0,.int .u8 0,.int .u8 0,.int .u8 0,.int .u8 0,.int .u8 0,.int .u8 0,.int .u8 0,.int .u8 0,.int .u8 0,.int .u8 0,.int .u8 0,.int .u8 0,.int .u8 0,.int .u8 0,.int .u8 0,.int .u8 0,.int .u8 0,.int .u8 0,.int .u8 0,.int .u8 0,.int .u8 0,.int .u8 0,.int .u8 0,.int .u8 0,.int .u8 0,.int .u8 0,.int .u8 0,.int .u8 0,.int .u8 0,.int .u8 0,.int .u8 0,.int .u8 0,.int .u8 0,.int .u8 0,.int .u8 0,.int .u8 0,.int .u8 0,.int .u8 0,.int .u8 0,.int .u8 0,.int .u8 0,.int .u8 0,.int .u8 0,.int .u8 0,.int .u8 0,.int .u8 0,.int .u8 0,.int .u8 0,.int .u8 0,.int .u8 0,.int .u8 0,.int .u8 0,.int .u8 0,.int .u8 0,.int .u8 0,.int .u8 0,.int .u8 0,.int .u8 0,.int .u8 0,.int .u8 0,.int .u8 0,.int .u8 0,.int .u8 0]:=by kernel_rfl
@[go_sem] theorem zOc:ezT Tryz.prog 208=0:=by kernel_rfl
@[go_sem] theorem zP1:esz Tryz.prog 208=none:=by kernel_rfl
@[go_sem] theorem zOE:asz Tryz.prog 208=some (65,1):=by kernel_rfl
@[go_sem] theorem zPU {i:Nat}:zaV Tryz.prog 208 i=0:=by kernel_rfl
@[go_sem] theorem zPR:zfH Tryz.prog 208=some (fun i=>some (i*1,1),[.int .u8 0,.int .u8 0,.int .u8 0,.int .u8 0,.int .u8 0,.int .u8 0,.int .u8 0,.int .u8 0,.int .u8 0,.int .u8 0,.int .u8 0,.int .u8 0,.int .u8 0,.int .u8 0,.int .u8 0,.int .u8 0,.int .u8 0,.int .u8 0,.int .u8 0,.int .u8 0,.int .u8 0,.int .u8 0,.int .u8 0,.int .u8 0,.int .u8 0,.int .u8 0,.int .u8 0,.int .u8 0,.int .u8 0,.int .u8 0,.int .u8 0,.int .u8 0,.int .u8 0,.int .u8 0,.int .u8 0,.int .u8 0,.int .u8 0,.int .u8 0,.int .u8 0,.int .u8 0,.int .u8 0,.int .u8 0,.int .u8 0,.int .u8 0,.int .u8 0,.int .u8 0,.int .u8 0,.int .u8 0,.int .u8 0,.int .u8 0,.int .u8 0,.int .u8 0,.int .u8 0,.int .u8 0,.int .u8 0,.int .u8 0,.int .u8 0,.int .u8 0,.int .u8 0,.int .u8 0,.int .u8 0,.int .u8 0,.int .u8 0,.int .u8 0,.int .u8 0]):=by kernel_rfl
@[go_sem] theorem zQI:tk Tryz.prog 211=some (true,32):=by kernel_rfl
@[go_sem] theorem zSi:zr Tryz.prog 211=some [.int .u8 0,.int .u8 0,.int .u8 0,.int .u8 0,.int .u8 0,.int .u8 0,.int .u8 0,.int .u8 0,.int .u8 0,.int .u8 0,.int .u8 0,.int .u8 0,.int .u8 0,.int .u8 0,.int .u8 0,.int .u8 0,.int .u8 0,.int .u8 0,.int .u8 0,.int .u8 0,.int .u8 0,.int .u8 0,.int .u8 0,.int .u8 0,.int .u8 0,.int .u8 0,.int .u8 0,.int .u8 0,.int .u8 0,.int .u8 0,.int .u8 0,.int .u8 0]:=by kernel_rfl
@[go_sem] theorem zPP:ezT Tryz.prog 211=0:=by kernel_rfl
@[go_sem] theorem zOe:esz Tryz.prog 211=none:=by kernel_rfl
@[go_sem] theorem zO9:asz Tryz.prog 211=some (32,1):=by kernel_rfl
@[go_sem] theorem zPj {i:Nat}:zaV Tryz.prog 211 i=0:=by kernel_rfl
@[go_sem] theorem zPE:zfH Tryz.prog 211=some (fun i=>some (i*1,1),[.int .u8 0,.int .u8 0,.int .u8 0,.int .u8 0,.int .u8 0,.int .u8 0,.int .u8 0,.int .u8 0,.int .u8 0,.int .u8 0,.int .u8 0,.int .u8 0,.int .u8 0,.int .u8 0,.int .u8 0,.int .u8 0,.int .u8 0,.int .u8 0,.int .u8 0,.int .u8 0,.int .u8 0,.int .u8 0,.int .u8 0,.int .u8 0,.int .u8 0,.int .u8 0,.int .u8 0,.int .u8 0,.int .u8 0,.int .u8 0,.int .u8 0,.int .u8 0]):=by kernel_rfl
@[go_sem] theorem zSw:tk Tryz.prog 212=some (true,64):=by kernel_rfl
@[go_sem] theorem zRU:zr Tryz.prog 212=some [.int .u8 0,.int .u8 0,.int .u8 0,.int .u8 0,.int .u8 0,.int .u8 0,.int .u8 0,.int .u8 0,.int .u8 0,.int .u8 0,.int .u8 0,.int .u8 0,.int .u8 0,.int .u8 0,.int .u8 0,.int .u8 0,.int .u8 0,.int .u8 0,.int .u8 0,.int .u8 0,.int .u8 0,.int .u8 0,.int .u8 0,.int .u8 0,.int .u8 0,.int .u8 0,.int .u8 0,.int .u8 0,.int .u8 0,.int .u8 0,.int .u8 0,.int .u8 0,.int .u8 0,.int .u8 0,.int .u8 0,.int .u8 0,.int .u8 0,.int .u8 0,.int .u8 0,.int .u8 0,.int .u8 0,.int .u8 0,.int .u8 0,.int .u8 0,.int .u8 0,.int .u8 0,.int .u8 0,.int .u8 0,.int .u8 0,.int .u8 0,.int .u8 0,.int .u8 0,.int .u8 0,.int .u8 0,.int .u8 0,.int .u8 0,.int .u8 0,.int .u8 0,.int .u8 0,.int .u8 0,.int .u8 0,.int .u8 0,.int .u8 0,.int .u8 0]:=by kernel_rfl
@[go_sem] theorem zON:ezT Tryz.prog 212=0:=by kernel_rfl
@[go_sem] theorem zOO:esz Tryz.prog 212=none:=by kernel_rfl
@[go_sem] theorem zPT:asz Tryz.prog 212=some (64,1):=by kernel_rfl
@[go_sem] theorem zPf {i:Nat}:zaV Tryz.prog 212 i=0:=by kernel_rfl
@[go_sem] theorem zOG:zfH Tryz.prog 212=some (fun i=>some (i*1,1),[.int .u8 0,.int .u8 0,.int .u8 0,.int .u8 0,.int .u8 0,.int .u8 0,.int .u8 0,.int .u8 0,.int .u8 0,.int .u8 0,.int .u8 0,.int .u8 0,.int .u8 0,.int .u8 0,.int .u8 0,.int .u8 0,.int .u8 0,.int .u8 0,.int .u8 0,.int .u8 0,.int .u8 0,.int .u8 0,.int .u8 0,.int .u8 0,.int .u8 0,.int .u8 0,.int .u8 0,.int .u8 0,.int .u8 0,.int .u8 0,.int .u8 0,.int .u8 0,.int .u8 0,.int .u8 0,.int .u8 0,.int .u8 0,.int .u8 0,.int .u8 0,.int .u8 0,.int .u8 0,.int .u8 0,.int .u8 0,.int .u8 0,.int .u8 0,.int .u8 0,.int .u8 0,.int .u8 0,.int .u8 0,.int .u8 0,.int .u8 0,.int .u8 0,.int .u8 0,.int .u8 0,.int .u8 0,.int .u8 0,.int .u8 0,.int .u8 0,.int .u8 0,.int .u8 0,.int .u8 0,.int .u8 0,.int .u8 0,.int .u8 0,.int .u8 0]):=by kernel_rfl
theorem follows:Tryz.prog.follows .mixedOrders=true:=by kernel_rfl
theorem cl3:zac Tryz.prog 3:=fun args w=>Tryz.call3 args w
theorem cl5:zac Tryz.prog 5:=fun args w=>Tryz.call5 args w
theorem cl6:zac Tryz.prog 6:=fun args w=>Tryz.call6 args w
theorem cl7:zac Tryz.prog 7:=fun args w=>Tryz.call7 args w
theorem cl8:zac Tryz.prog 8:=fun args w=>Tryz.call8 args w
theorem cl9:zac Tryz.prog 9:=fun args w=>Tryz.call9 args w
theorem zKl:zac Tryz.prog 10:=fun args w=>Tryz.call10 args w
theorem zIV:zac Tryz.prog 11:=fun args w=>Tryz.call11 args w
theorem zKC:zac Tryz.prog 12:=fun args w=>Tryz.call12 args w
theorem zIP:zac Tryz.prog 13:=fun args w=>Tryz.call13 args w
theorem zGT:zac Tryz.prog 17:=fun args w=>Tryz.call17 args w
theorem zKD:zac Tryz.prog 18:=fun args w=>Tryz.call18 args w
theorem zIA:zac Tryz.prog 23:=fun args w=>Tryz.call23 args w
theorem zKs:zac Tryz.prog 27:=fun args w=>Tryz.call27 args w
theorem zIG:zac Tryz.prog 28:=fun args w=>Tryz.call28 args w
theorem zID:zac Tryz.prog 29:=fun args w=>Tryz.call29 args w
theorem zHi:zac Tryz.prog 30:=fun args w=>Tryz.call30 args w
theorem zJv:zac Tryz.prog 31:=fun args w=>Tryz.call31 args w
theorem zI0:zac Tryz.prog 32:=fun args w=>Tryz.call32 args w
theorem zJ5:zac Tryz.prog 33:=fun args w=>Tryz.call33 args w
theorem zGN:zac Tryz.prog 34:=fun args w=>Tryz.call34 args w
theorem zHB:zac Tryz.prog 35:=fun args w=>Tryz.call35 args w
theorem zHz:zac Tryz.prog 36:=fun args w=>Tryz.call36 args w
theorem zI1:zac Tryz.prog 37:=fun args w=>Tryz.call37 args w
theorem zIs:zac Tryz.prog 38:=fun args w=>Tryz.call38 args w
theorem zHn:zac Tryz.prog 39:=fun args w=>Tryz.call39 args w
theorem zG5:zac Tryz.prog 40:=fun args w=>Tryz.call40 args w
theorem zKp:zac Tryz.prog 41:=fun args w=>Tryz.call41 args w
theorem zHG:zac Tryz.prog 43:=fun args w=>Tryz.call43 args w
theorem zIg:zac Tryz.prog 44:=fun args w=>Tryz.call44 args w
theorem zJT:zac Tryz.prog 45:=fun args w=>Tryz.call45 args w
theorem zKk:zac Tryz.prog 46:=fun args w=>Tryz.call46 args w
theorem zIw:zac Tryz.prog 47:=fun args w=>Tryz.call47 args w
theorem zHX:zac Tryz.prog 48:=fun args w=>Tryz.call48 args w
theorem zIT:zac Tryz.prog 49:=fun args w=>Tryz.call49 args w
theorem zG2:zac Tryz.prog 50:=fun args w=>Tryz.call50 args w
theorem zIX:zac Tryz.prog 51:=fun args w=>Tryz.call51 args w
theorem zJs:zac Tryz.prog 52:=fun args w=>Tryz.call52 args w
theorem zIf:zac Tryz.prog 53:=fun args w=>Tryz.call53 args w
theorem zHa:zac Tryz.prog 54:=fun args w=>Tryz.call54 args w
theorem zHd:zac Tryz.prog 55:=fun args w=>Tryz.call55 args w
theorem zGG:zac Tryz.prog 56:=fun args w=>Tryz.call56 args w
theorem zJM:zac Tryz.prog 57:=fun args w=>Tryz.call57 args w
theorem zJd:zac Tryz.prog 58:=fun args w=>Tryz.call58 args w
theorem zJj:zac Tryz.prog 59:=fun args w=>Tryz.call59 args w
theorem zI8:zac Tryz.prog 60:=fun args w=>Tryz.call60 args w
theorem zHN:zac Tryz.prog 61:=fun args w=>Tryz.call61 args w
theorem zHf:zac Tryz.prog 62:=fun args w=>Tryz.call62 args w
theorem zKz:zac Tryz.prog 63:=fun args w=>Tryz.call63 args w
theorem zH2:zac Tryz.prog 64:=fun args w=>Tryz.call64 args w
theorem zIk:zac Tryz.prog 65:=fun args w=>Tryz.call65 args w
theorem zHH:zac Tryz.prog 66:=fun args w=>Tryz.call66 args w
theorem zHw:zac Tryz.prog 67:=fun args w=>Tryz.call67 args w
theorem zH6:zac Tryz.prog 68:=fun args w=>Tryz.call68 args w
theorem zKq:zac Tryz.prog 72:=fun args w=>Tryz.call72 args w
theorem zII:zac Tryz.prog 80:=fun args w=>Tryz.call80 args w
theorem zH9:zac Tryz.prog 81:=fun args w=>Tryz.call81 args w
theorem zIC:zac Tryz.prog 82:=fun args w=>Tryz.call82 args w
theorem zIr:zac Tryz.prog 83:=fun args w=>Tryz.call83 args w
theorem zJy:zac Tryz.prog 91:=fun args w=>Tryz.call91 args w
theorem zHr:zac Tryz.prog 92:=fun args w=>Tryz.call92 args w
theorem zJ3:zac Tryz.prog 93:=fun args w=>Tryz.call93 args w
theorem zKA:zac Tryz.prog 94:=fun args w=>Tryz.call94 args w
theorem zGO:zac Tryz.prog 95:=fun args w=>Tryz.call95 args w
theorem zG6:zac Tryz.prog 96:=fun args w=>Tryz.call96 args w
theorem zKG:zac Tryz.prog 97:=fun args w=>Tryz.call97 args w
theorem zIM:zac Tryz.prog 98:=fun args w=>Tryz.call98 args w
theorem zBn:zac Tryz.prog 99:=fun args w=>Tryz.call99 args w
theorem zEG:zac Tryz.prog 100:=fun args w=>Tryz.call100 args w
theorem zB3:zac Tryz.prog 101:=fun args w=>Tryz.call101 args w
theorem zEW:zac Tryz.prog 102:=fun args w=>Tryz.call102 args w
theorem znS:zac Tryz.prog 103:=fun args w=>Tryz.call103 args w
theorem zB5:zac Tryz.prog 104:=fun args w=>Tryz.call104 args w
theorem zDN:zac Tryz.prog 105:=fun args w=>Tryz.call105 args w
theorem zCQ:zac Tryz.prog 106:=fun args w=>Tryz.call106 args w
theorem zCj:zac Tryz.prog 107:=fun args w=>Tryz.call107 args w
theorem zCw:zac Tryz.prog 110:=fun args w=>Tryz.call110 args w
theorem zEm:zac Tryz.prog 111:=fun args w=>Tryz.call111 args w
theorem zCl:zac Tryz.prog 112:=fun args w=>Tryz.call112 args w
theorem zDD:zac Tryz.prog 113:=fun args w=>Tryz.call113 args w
theorem zDP:zac Tryz.prog 114:=fun args w=>Tryz.call114 args w
theorem zDn:zac Tryz.prog 115:=fun args w=>Tryz.call115 args w
theorem zE1:zac Tryz.prog 116:=fun args w=>Tryz.call116 args w
theorem zCF:zac Tryz.prog 117:=fun args w=>Tryz.call117 args w
theorem zEu:zac Tryz.prog 118:=fun args w=>Tryz.call118 args w
theorem zDW:zac Tryz.prog 119:=fun args w=>Tryz.call119 args w
theorem zFh:zac Tryz.prog 120:=fun args w=>Tryz.call120 args w
theorem zD2:zac Tryz.prog 121:=fun args w=>Tryz.call121 args w
theorem zDs:zac Tryz.prog 122:=fun args w=>Tryz.call122 args w
theorem zCZ:zac Tryz.prog 123:=fun args w=>Tryz.call123 args w
theorem zEJ:zac Tryz.prog 124:=fun args w=>Tryz.call124 args w
theorem zxK:zac Tryz.prog 125:=fun args w=>Tryz.call125 args w
theorem zEE:zac Tryz.prog 126:=fun args w=>Tryz.call126 args w
theorem zD1:zac Tryz.prog 127:=fun args w=>Tryz.call127 args w
theorem zEV:zac Tryz.prog 128:=fun args w=>Tryz.call128 args w
theorem zDr:zac Tryz.prog 129:=fun args w=>Tryz.call129 args w
theorem zBZ:zac Tryz.prog 130:=fun args w=>Tryz.call130 args w
theorem zEB:zac Tryz.prog 131:=fun args w=>Tryz.call131 args w
theorem zCn:zac Tryz.prog 132:=fun args w=>Tryz.call132 args w
theorem zDH:zac Tryz.prog 133:=fun args w=>Tryz.call133 args w
theorem zB1:zac Tryz.prog 134:=fun args w=>Tryz.call134 args w
theorem zDg:zac Tryz.prog 135:=fun args w=>Tryz.call135 args w
theorem zEw:zac Tryz.prog 136:=fun args w=>Tryz.call136 args w
theorem zCG:zac Tryz.prog 137:=fun args w=>Tryz.call137 args w
theorem zEo:zac Tryz.prog 138:=fun args w=>Tryz.call138 args w
theorem zCo:zac Tryz.prog 139:=fun args w=>Tryz.call139 args w
theorem zDK:zac Tryz.prog 140:=fun args w=>Tryz.call140 args w
theorem zDa:zac Tryz.prog 141:=fun args w=>Tryz.call141 args w
theorem zEv:zac Tryz.prog 142:=fun args w=>Tryz.call142 args w
theorem zEU:zac Tryz.prog 143:=fun args w=>Tryz.call143 args w
theorem zB7:zac Tryz.prog 144:=fun args w=>Tryz.call144 args w
theorem zEK:zac Tryz.prog 145:=fun args w=>Tryz.call145 args w
theorem zDB:zac Tryz.prog 146:=fun args w=>Tryz.call146 args w
theorem zB0:zac Tryz.prog 147:=fun args w=>Tryz.call147 args w
theorem zCJ:zac Tryz.prog 148:=fun args w=>Tryz.call148 args w
theorem zE9:zac Tryz.prog 156:=fun args w=>Tryz.call156 args w
theorem zFe:zac Tryz.prog 157:=fun args w=>Tryz.call157 args w
theorem zEy:zac Tryz.prog 158:=fun args w=>Tryz.call158 args w
theorem zEq:zac Tryz.prog 159:=fun args w=>Tryz.call159 args w
theorem zCA:zac Tryz.prog 160:=fun args w=>Tryz.call160 args w
theorem zC6:zac Tryz.prog 164:=fun args w=>Tryz.call164 args w
theorem zC5:zac Tryz.prog 171:=fun args w=>Tryz.call171 args w
theorem zEt:zac Tryz.prog 172:=fun args w=>Tryz.call172 args w
theorem zE8:zac Tryz.prog 173:=fun args w=>Tryz.call173 args w
theorem zEL:zac Tryz.prog 174:=fun args w=>Tryz.call174 args w
theorem zEN:zac Tryz.prog 175:=fun args w=>Tryz.call175 args w
theorem zCe:zac Tryz.prog 176:=fun args w=>Tryz.call176 args w
theorem zCi:zac Tryz.prog 177:=fun args w=>Tryz.call177 args w
theorem zEs:zac Tryz.prog 178:=fun args w=>Tryz.call178 args w
theorem zDi:zac Tryz.prog 179:=fun args w=>Tryz.call179 args w
theorem zoA:zac Tryz.prog 180:=fun args w=>Tryz.call180 args w
theorem znY:zac Tryz.prog 181:=fun args w=>Tryz.call181 args w
theorem zFi:zac Tryz.prog 182:=fun args w=>Tryz.call182 args w
theorem zET:zac Tryz.prog 183:=fun args w=>Tryz.call183 args w
theorem zEx:zac Tryz.prog 184:=fun args w=>Tryz.call184 args w
theorem zCs:zac Tryz.prog 185:=fun args w=>Tryz.call185 args w
theorem zDo:zac Tryz.prog 186:=fun args w=>Tryz.call186 args w
theorem zB4:zac Tryz.prog 187:=fun args w=>Tryz.call187 args w
theorem zEH:zac Tryz.prog 188:=fun args w=>Tryz.call188 args w
theorem zDT:zac Tryz.prog 190:=fun args w=>Tryz.call190 args w
theorem zE7:zac Tryz.prog 191:=fun args w=>Tryz.call191 args w
theorem zB6:zac Tryz.prog 192:=fun args w=>Tryz.call192 args w
theorem zBV:zac Tryz.prog 193:=fun args w=>Tryz.call193 args w
theorem zDM:zac Tryz.prog 194:=fun args w=>Tryz.call194 args w
theorem zEI:zac Tryz.prog 195:=fun args w=>Tryz.call195 args w
theorem zEr:zac Tryz.prog 196:=fun args w=>Tryz.call196 args w
theorem zDd:zac Tryz.prog 197:=fun args w=>Tryz.call197 args w
theorem zDy:zac Tryz.prog 198:=fun args w=>Tryz.call198 args w
theorem zCk:zac Tryz.prog 199:=fun args w=>Tryz.call199 args w
theorem zDl:zac Tryz.prog 200:=fun args w=>Tryz.call200 args w
theorem zDE:zac Tryz.prog 201:=fun args w=>Tryz.call201 args w
theorem zDA:zac Tryz.prog 202:=fun args w=>Tryz.call202 args w
theorem zBW:zac Tryz.prog 203:=fun args w=>Tryz.call203 args w
theorem zDU:zac Tryz.prog 204:=fun args w=>Tryz.call204 args w
theorem zCt:zac Tryz.prog 205:=fun args w=>Tryz.call205 args w
theorem zB8:zac Tryz.prog 206:=fun args w=>Tryz.call206 args w
theorem zES:zac Tryz.prog 207:=fun args w=>Tryz.call207 args w
theorem zDc:zac Tryz.prog 208:=fun args w=>Tryz.call208 args w
theorem zCE:zac Tryz.prog 211:=fun args w=>Tryz.call211 args w
theorem zDp:zac Tryz.prog 213:=fun args w=>Tryz.call213 args w
theorem zC0:zac Tryz.prog 215:=fun args w=>Tryz.call215 args w
theorem zED:zac Tryz.prog 216:=fun args w=>Tryz.call216 args w
theorem zEb:zac Tryz.prog 217:=fun args w=>Tryz.call217 args w
theorem zC8:zac Tryz.prog 218:=fun args w=>Tryz.call218 args w
theorem znX:zac Tryz.prog 219:=fun args w=>Tryz.call219 args w
theorem zCO:zac Tryz.prog 220:=fun args w=>Tryz.call220 args w
theorem zEa:zac Tryz.prog 221:=fun args w=>Tryz.call221 args w
theorem zFg:zac Tryz.prog 222:=fun args w=>Tryz.call222 args w
theorem zFd:zac Tryz.prog 224:=fun args w=>Tryz.call224 args w
theorem zDO:zac Tryz.prog 225:=fun args w=>Tryz.call225 args w
theorem zDS:zac Tryz.prog 226:=fun args w=>Tryz.call226 args w
theorem zCa:zac Tryz.prog 227:=fun args w=>Tryz.call227 args w
theorem zEf:zac Tryz.prog 228:=fun args w=>Tryz.call228 args w
theorem zD5:zac Tryz.prog 229:=fun args w=>Tryz.call229 args w
theorem zEY:zac Tryz.prog 230:=fun args w=>Tryz.call230 args w
theorem zEk:zac Tryz.prog 231:=fun args w=>Tryz.call231 args w
theorem zE4:zac Tryz.prog 236:=fun args w=>Tryz.call236 args w
theorem zE5:zac Tryz.prog 237:=fun args w=>Tryz.call237 args w
end Go.Pm
