import Derived.Test.YtnbbkiilkaebaaaGreatDoorPmW
import Derived.Test.YtnbbkiilkaebaaaGreatDoorProg
import Derived.KernelRfl
namespace Go.Pm
open Go.Am
open Go.Proofs
set_option maxRecDepth 100000
@[go_sem] theorem tk2:tk Tryz.prog 2=some (false,1):=by kernel_rfl
@[go_sem] theorem zr2:zr Tryz.prog 2=some [.int .i64 0]:=by kernel_rfl
@[go_sem] theorem zRX:ezT Tryz.prog 2=0:=by kernel_rfl
@[go_sem] theorem zSv:zdb Tryz.prog 2=some .i64:=by kernel_rfl
@[go_sem] theorem zRV:zay Tryz.prog 2=false:=by kernel_rfl
@[go_sem] theorem tk3:tk Tryz.prog 3=some (false,1):=by kernel_rfl
@[go_sem] theorem zr3:zr Tryz.prog 3=some [.int .i64 0]:=by kernel_rfl
@[go_sem] theorem zR2:ezT Tryz.prog 3=0:=by kernel_rfl
@[go_sem] theorem zSz:zdb Tryz.prog 3=some .i64:=by kernel_rfl
@[go_sem] theorem zSw:zay Tryz.prog 3=false:=by kernel_rfl
@[go_sem] theorem tk4:tk Tryz.prog 4=some (false,1):=by kernel_rfl
@[go_sem] theorem zr4:zr Tryz.prog 4=some [.bool false]:=by kernel_rfl
@[go_sem] theorem zSn:ezT Tryz.prog 4=0:=by kernel_rfl
@[go_sem] theorem zSx:zhO Tryz.prog 4=true:=by kernel_rfl
@[go_sem] theorem tk5:tk Tryz.prog 5=some (false,1):=by kernel_rfl
@[go_sem] theorem zr5:zr Tryz.prog 5=some [.int .u8 0]:=by kernel_rfl
@[go_sem] theorem zSH:ezT Tryz.prog 5=0:=by kernel_rfl
@[go_sem] theorem zSi:zdb Tryz.prog 5=some .u8:=by kernel_rfl
@[go_sem] theorem zSs:zay Tryz.prog 5=false:=by kernel_rfl
@[go_sem] theorem tk9:tk Tryz.prog 9=some (false,1):=by kernel_rfl
@[go_sem] theorem zr9:zr Tryz.prog 9=some [.str ⟨#[]⟩]:=by kernel_rfl
@[go_sem] theorem zSm:ezT Tryz.prog 9=0:=by kernel_rfl
@[go_sem] theorem zR3:zay Tryz.prog 9=true:=by kernel_rfl
@[go_sem] theorem zRT:tk Tryz.prog 20=some (false,1):=by kernel_rfl
@[go_sem] theorem zSp:zr Tryz.prog 20=some [.nili]:=by kernel_rfl
@[go_sem] theorem zQe:ezT Tryz.prog 20=0:=by kernel_rfl
@[go_sem] theorem zSK:tk Tryz.prog 23=some (true,3):=by kernel_rfl
@[go_sem] theorem zSh:zr Tryz.prog 23=some [.int .i64 0,.int .i64 0,.int .i64 0]:=by kernel_rfl
@[go_sem] theorem zPU:ezT Tryz.prog 23=0:=by kernel_rfl
@[go_sem] theorem zPO:ze8 Tryz.prog 23=some (zao Tryz.prog 23,[.int .i64 0,.int .i64 0,.int .i64 0]):=by kernel_rfl
@[go_sem] theorem zLb:zao Tryz.prog 23 0=some (0,1):=by kernel_rfl
@[go_sem] theorem zMX:zaA Tryz.prog 23 0=0:=by kernel_rfl
@[go_sem] theorem zMI:zao Tryz.prog 23 1=some (1,1):=by kernel_rfl
@[go_sem] theorem zLT:zaA Tryz.prog 23 1=0:=by kernel_rfl
@[go_sem] theorem zM0:zao Tryz.prog 23 2=some (2,1):=by kernel_rfl
@[go_sem] theorem zKA:zaA Tryz.prog 23 2=0:=by kernel_rfl
@[go_sem] theorem zSG:tk Tryz.prog 25=some (true,5):=by kernel_rfl
@[go_sem] theorem zR1:zr Tryz.prog 25=some [.int .i64 0,.int .i64 0,.int .i64 0,.int .i64 0,.int .i64 0]:=by kernel_rfl
@[go_sem] theorem zQj:ezT Tryz.prog 25=0:=by kernel_rfl
@[go_sem] theorem zRm:ze8 Tryz.prog 25=some (zao Tryz.prog 25,[.int .i64 0,.int .i64 0,.int .i64 0,.int .i64 0,.int .i64 0]):=by kernel_rfl
@[go_sem] theorem zMh:zao Tryz.prog 25 0=some (0,1):=by kernel_rfl
@[go_sem] theorem zLf:zaA Tryz.prog 25 0=0:=by kernel_rfl
@[go_sem] theorem zLv:zao Tryz.prog 25 1=some (1,1):=by kernel_rfl
@[go_sem] theorem zKY:zaA Tryz.prog 25 1=0:=by kernel_rfl
@[go_sem] theorem zJF:zao Tryz.prog 25 2=some (2,1):=by kernel_rfl
@[go_sem] theorem zJm:zaA Tryz.prog 25 2=0:=by kernel_rfl
@[go_sem] theorem zL7:zao Tryz.prog 25 3=some (3,1):=by kernel_rfl
@[go_sem] theorem zKF:zaA Tryz.prog 25 3=0:=by kernel_rfl
@[go_sem] theorem zJ3:zao Tryz.prog 25 4=some (4,1):=by kernel_rfl
@[go_sem] theorem zKe:zaA Tryz.prog 25 4=0:=by kernel_rfl
@[go_sem] theorem zSa:tk Tryz.prog 26=some (false,1):=by kernel_rfl
@[go_sem] theorem zSu:zr Tryz.prog 26=some [.sl true 1 []]:=by kernel_rfl
@[go_sem] theorem zQd:ezT Tryz.prog 26=1:=by kernel_rfl
@[go_sem] theorem zPm:zas Tryz.prog 26=some 3:=by kernel_rfl
@[go_sem] theorem zQV:zay Tryz.prog 26=false:=by kernel_rfl
@[go_sem] theorem zQB:esz Tryz.prog 26=some 1:=by kernel_rfl
@[go_sem] theorem zFR:ez Tryz.prog 26=some (1,8,[.int .i64 0]):=by kernel_rfl
@[go_sem] theorem zRJ {i:Nat}:zaA Tryz.prog 26 i=0:=by kernel_rfl
@[go_sem] theorem zSf:tk Tryz.prog 29=some (true,3):=by kernel_rfl
@[go_sem] theorem zSt:zr Tryz.prog 29=some [.int .i64 0,.int .i64 0,.int .i64 0]:=by kernel_rfl
@[go_sem] theorem zRx:ezT Tryz.prog 29=0:=by kernel_rfl
@[go_sem] theorem zQy:ze8 Tryz.prog 29=some (zao Tryz.prog 29,[.int .i64 0,.int .i64 0,.int .i64 0]):=by kernel_rfl
@[go_sem] theorem zJD:zao Tryz.prog 29 0=some (0,1):=by kernel_rfl
@[go_sem] theorem zJH:zaA Tryz.prog 29 0=0:=by kernel_rfl
@[go_sem] theorem zL6:zao Tryz.prog 29 1=some (1,1):=by kernel_rfl
@[go_sem] theorem zMW:zaA Tryz.prog 29 1=0:=by kernel_rfl
@[go_sem] theorem zLA:zao Tryz.prog 29 2=some (2,1):=by kernel_rfl
@[go_sem] theorem zK3:zaA Tryz.prog 29 2=0:=by kernel_rfl
@[go_sem] theorem zSC:tk Tryz.prog 31=some (true,5):=by kernel_rfl
@[go_sem] theorem zSk:zr Tryz.prog 31=some [.int .i64 0,.int .i64 0,.int .i64 0,.int .i64 0,.int .i64 0]:=by kernel_rfl
@[go_sem] theorem zQf:ezT Tryz.prog 31=0:=by kernel_rfl
@[go_sem] theorem zRC:ze8 Tryz.prog 31=some (zao Tryz.prog 31,[.int .i64 0,.int .i64 0,.int .i64 0,.int .i64 0,.int .i64 0]):=by kernel_rfl
@[go_sem] theorem zJM:zao Tryz.prog 31 0=some (0,1):=by kernel_rfl
@[go_sem] theorem zML:zaA Tryz.prog 31 0=0:=by kernel_rfl
@[go_sem] theorem zL0:zao Tryz.prog 31 1=some (1,1):=by kernel_rfl
@[go_sem] theorem zMw:zaA Tryz.prog 31 1=0:=by kernel_rfl
@[go_sem] theorem zKi:zao Tryz.prog 31 2=some (2,1):=by kernel_rfl
@[go_sem] theorem zL9:zaA Tryz.prog 31 2=0:=by kernel_rfl
@[go_sem] theorem zLI:zao Tryz.prog 31 3=some (3,1):=by kernel_rfl
@[go_sem] theorem zLx:zaA Tryz.prog 31 3=0:=by kernel_rfl
@[go_sem] theorem zKU:zao Tryz.prog 31 4=some (4,1):=by kernel_rfl
@[go_sem] theorem zLD:zaA Tryz.prog 31 4=0:=by kernel_rfl
@[go_sem] theorem zRZ:tk Tryz.prog 36=some (false,1):=by kernel_rfl
@[go_sem] theorem zSc:zr Tryz.prog 36=some [.sl true 2 []]:=by kernel_rfl
@[go_sem] theorem zPL:ezT Tryz.prog 36=2:=by kernel_rfl
@[go_sem] theorem zPy:zas Tryz.prog 36=some 81:=by kernel_rfl
@[go_sem] theorem zQ2:zay Tryz.prog 36=false:=by kernel_rfl
@[go_sem] theorem zPF:esz Tryz.prog 36=some 2:=by kernel_rfl
@[go_sem] theorem zR5:ez Tryz.prog 36=some (2,16,[.int .i64 0,.int .i64 0]):=by kernel_rfl
@[go_sem] theorem zP3 {i:Nat}:zaA Tryz.prog 36 i=0:=by kernel_rfl
@[go_sem] theorem zSF:tk Tryz.prog 37=some (false,1):=by kernel_rfl
@[go_sem] theorem zSe:zr Tryz.prog 37=some [.sl true 3 []]:=by kernel_rfl
@[go_sem] theorem zPZ:ezT Tryz.prog 37=3:=by kernel_rfl
@[go_sem] theorem zQN:zas Tryz.prog 37=some 39:=by kernel_rfl
@[go_sem] theorem zQK:zay Tryz.prog 37=false:=by kernel_rfl
@[go_sem] theorem zQZ:esz Tryz.prog 37=some 3:=by kernel_rfl
@[go_sem] theorem zSA:ez Tryz.prog 37=some (3,72,[.sl false 1 [],.sl false 1 [],.sl false 1 []]):=by kernel_rfl
@[go_sem] theorem zQz {i:Nat}:zaA Tryz.prog 37 i=0:=by kernel_rfl
@[go_sem] theorem zR6:tk Tryz.prog 39=some (true,3):=by kernel_rfl
@[go_sem] theorem zSI:zr Tryz.prog 39=some [.sl true 1 [],.sl true 1 [],.sl true 1 []]:=by kernel_rfl
@[go_sem] theorem zPE:ezT Tryz.prog 39=0:=by kernel_rfl
@[go_sem] theorem zP5:ze8 Tryz.prog 39=some (zao Tryz.prog 39,[.sl true 1 [],.sl true 1 [],.sl true 1 []]):=by kernel_rfl
@[go_sem] theorem zLs:zao Tryz.prog 39 0=some (0,1):=by kernel_rfl
@[go_sem] theorem zMG:zaA Tryz.prog 39 0=1:=by kernel_rfl
@[go_sem] theorem zJz:zao Tryz.prog 39 1=some (1,1):=by kernel_rfl
@[go_sem] theorem zLF:zaA Tryz.prog 39 1=1:=by kernel_rfl
@[go_sem] theorem zK9:zao Tryz.prog 39 2=some (2,1):=by kernel_rfl
@[go_sem] theorem zJL:zaA Tryz.prog 39 2=1:=by kernel_rfl
@[go_sem] theorem zRW:tk Tryz.prog 41=some (true,6):=by kernel_rfl
@[go_sem] theorem zSJ:zr Tryz.prog 41=some [.int .i64 0,.sl true 2 [],.sl true 3 [],.sl true 1 [],.sl true 1 [],.sl true 1 []]:=by kernel_rfl
@[go_sem] theorem zPG:ezT Tryz.prog 41=0:=by kernel_rfl
@[go_sem] theorem zRE:ze8 Tryz.prog 41=some (zao Tryz.prog 41,[.int .i64 0,.sl true 2 [],.sl true 3 [],.sl true 1 [],.sl true 1 [],.sl true 1 []]):=by kernel_rfl
@[go_sem] theorem zLz:zao Tryz.prog 41 0=some (0,1):=by kernel_rfl
@[go_sem] theorem zKt:zaA Tryz.prog 41 0=0:=by kernel_rfl
@[go_sem] theorem zMl:zao Tryz.prog 41 1=some (1,1):=by kernel_rfl
@[go_sem] theorem zKl:zaA Tryz.prog 41 1=2:=by kernel_rfl
@[go_sem] theorem zLc:zao Tryz.prog 41 2=some (2,1):=by kernel_rfl
@[go_sem] theorem zMm:zaA Tryz.prog 41 2=3:=by kernel_rfl
@[go_sem] theorem zKT:zao Tryz.prog 41 3=some (3,3):=by kernel_rfl
@[go_sem] theorem zKL:zaA Tryz.prog 41 3=0:=by kernel_rfl
@[go_sem] theorem zSj:tk Tryz.prog 48=some (true,5):=by kernel_rfl
@[go_sem] theorem zSd:zr Tryz.prog 48=some [.int .i64 0,.sl true 1 [],.sl true 1 [],.int .i64 0,.bool false]:=by kernel_rfl
@[go_sem] theorem zQ1:ezT Tryz.prog 48=0:=by kernel_rfl
@[go_sem] theorem zQP:ze8 Tryz.prog 48=some (zao Tryz.prog 48,[.int .i64 0,.sl true 1 [],.sl true 1 [],.int .i64 0,.bool false]):=by kernel_rfl
@[go_sem] theorem zJ1:zao Tryz.prog 48 0=some (0,1):=by kernel_rfl
@[go_sem] theorem zLh:zaA Tryz.prog 48 0=0:=by kernel_rfl
@[go_sem] theorem zLy:zao Tryz.prog 48 1=some (1,1):=by kernel_rfl
@[go_sem] theorem zLV:zaA Tryz.prog 48 1=1:=by kernel_rfl
@[go_sem] theorem zK2:zao Tryz.prog 48 2=some (2,1):=by kernel_rfl
@[go_sem] theorem zKj:zaA Tryz.prog 48 2=1:=by kernel_rfl
@[go_sem] theorem zMf:zao Tryz.prog 48 3=some (3,1):=by kernel_rfl
@[go_sem] theorem zKk:zaA Tryz.prog 48 3=0:=by kernel_rfl
@[go_sem] theorem zJp:zao Tryz.prog 48 4=some (4,1):=by kernel_rfl
@[go_sem] theorem zMn:zaA Tryz.prog 48 4=0:=by kernel_rfl
@[go_sem] theorem zSB:tk Tryz.prog 52=some (true,5):=by kernel_rfl
@[go_sem] theorem zR4:zr Tryz.prog 52=some [.int .i64 0,.sl true 1 [],.sl true 1 [],.int .i64 0,.bool false]:=by kernel_rfl
@[go_sem] theorem zRP:ezT Tryz.prog 52=0:=by kernel_rfl
@[go_sem] theorem zQW:ze8 Tryz.prog 52=some (zao Tryz.prog 52,[.int .i64 0,.sl true 1 [],.sl true 1 [],.int .i64 0,.bool false]):=by kernel_rfl
@[go_sem] theorem zJN:zao Tryz.prog 52 0=some (0,1):=by kernel_rfl
@[go_sem] theorem zMS:zaA Tryz.prog 52 0=0:=by kernel_rfl
@[go_sem] theorem zKx:zao Tryz.prog 52 1=some (1,1):=by kernel_rfl
@[go_sem] theorem zKq:zaA Tryz.prog 52 1=1:=by kernel_rfl
@[go_sem] theorem zJr:zao Tryz.prog 52 2=some (2,1):=by kernel_rfl
@[go_sem] theorem zMY:zaA Tryz.prog 52 2=1:=by kernel_rfl
@[go_sem] theorem zKK:zao Tryz.prog 52 3=some (3,1):=by kernel_rfl
@[go_sem] theorem zLm:zaA Tryz.prog 52 3=0:=by kernel_rfl
@[go_sem] theorem zJ5:zao Tryz.prog 52 4=some (4,1):=by kernel_rfl
@[go_sem] theorem zMH:zaA Tryz.prog 52 4=0:=by kernel_rfl
@[go_sem] theorem zSy:tk Tryz.prog 56=some (false,1):=by kernel_rfl
@[go_sem] theorem zRR:zr Tryz.prog 56=some [.sl true 5 []]:=by kernel_rfl
@[go_sem] theorem zQt:ezT Tryz.prog 56=5:=by kernel_rfl
@[go_sem] theorem zQM:zas Tryz.prog 56=some 48:=by kernel_rfl
@[go_sem] theorem zQi:zay Tryz.prog 56=false:=by kernel_rfl
@[go_sem] theorem zQw:esz Tryz.prog 56=some 5:=by kernel_rfl
@[go_sem] theorem zRU:ez Tryz.prog 56=some (5,72,[.int .i64 0,.sl false 1 [],.sl false 1 [],.int .i64 0,.bool false]):=by kernel_rfl
@[go_sem] theorem zRw {i:Nat}:zaA Tryz.prog 56 i=0:=by kernel_rfl
@[go_sem] theorem zSr:tk Tryz.prog 60=some (false,1):=by kernel_rfl
@[go_sem] theorem zSD:zr Tryz.prog 60=some [.sl true 5 []]:=by kernel_rfl
@[go_sem] theorem zPo:ezT Tryz.prog 60=5:=by kernel_rfl
@[go_sem] theorem zRi:zas Tryz.prog 60=some 52:=by kernel_rfl
@[go_sem] theorem zPR:zay Tryz.prog 60=false:=by kernel_rfl
@[go_sem] theorem zQa:esz Tryz.prog 60=some 5:=by kernel_rfl
@[go_sem] theorem zR0:ez Tryz.prog 60=some (5,72,[.int .i64 0,.sl false 1 [],.sl false 1 [],.int .i64 0,.bool false]):=by kernel_rfl
@[go_sem] theorem zQk {i:Nat}:zaA Tryz.prog 60 i=0:=by kernel_rfl
@[go_sem] theorem zSo:tk Tryz.prog 72=some (false,1):=by kernel_rfl
@[go_sem] theorem zSl:zr Tryz.prog 72=some [.nilf]:=by kernel_rfl
@[go_sem] theorem zRg:ezT Tryz.prog 72=0:=by kernel_rfl
@[go_sem] theorem zSq:tk Tryz.prog 73=some (false,1):=by kernel_rfl
@[go_sem] theorem zR9:zr Tryz.prog 73=some [.nilf]:=by kernel_rfl
@[go_sem] theorem zQb:ezT Tryz.prog 73=0:=by kernel_rfl
@[go_sem] theorem zSb:tk Tryz.prog 81=some (true,2):=by kernel_rfl
@[go_sem] theorem zR7:zr Tryz.prog 81=some [.int .i64 0,.int .i64 0]:=by kernel_rfl
@[go_sem] theorem zRn:ezT Tryz.prog 81=0:=by kernel_rfl
@[go_sem] theorem zRI:ze8 Tryz.prog 81=some (zao Tryz.prog 81,[.int .i64 0,.int .i64 0]):=by kernel_rfl
@[go_sem] theorem zJo:zao Tryz.prog 81 0=some (0,1):=by kernel_rfl
@[go_sem] theorem zLE:zaA Tryz.prog 81 0=0:=by kernel_rfl
@[go_sem] theorem zLY:zao Tryz.prog 81 1=some (1,1):=by kernel_rfl
@[go_sem] theorem zMv:zaA Tryz.prog 81 1=0:=by kernel_rfl
@[go_sem] theorem zRS:tk Tryz.prog 85=some (false,1):=by kernel_rfl
@[go_sem] theorem zSg:zr Tryz.prog 85=some [.sl true 4 []]:=by kernel_rfl
@[go_sem] theorem zRd:ezT Tryz.prog 85=4:=by kernel_rfl
@[go_sem] theorem zPq:zas Tryz.prog 85=some 117:=by kernel_rfl
@[go_sem] theorem zPV:zay Tryz.prog 85=false:=by kernel_rfl
@[go_sem] theorem zPr:esz Tryz.prog 85=some 4:=by kernel_rfl
@[go_sem] theorem zSE:ez Tryz.prog 85=some (4,32,[.int .i64 0,.int .i64 0,.int .i64 0,.int .i64 0]):=by kernel_rfl
@[go_sem] theorem zPv {i:Nat}:zaA Tryz.prog 85 i=0:=by kernel_rfl
@[go_sem] theorem zQS:tk Tryz.prog 105=some (false,1):=by kernel_rfl
@[go_sem] theorem zRK:zr Tryz.prog 105=some [.sl true 1 []]:=by kernel_rfl
@[go_sem] theorem zOK:ezT Tryz.prog 105=1:=by kernel_rfl
@[go_sem] theorem zOm:zas Tryz.prog 105=some 26:=by kernel_rfl
@[go_sem] theorem zNZ:zay Tryz.prog 105=false:=by kernel_rfl
@[go_sem] theorem zN5:esz Tryz.prog 105=some 1:=by kernel_rfl
@[go_sem] theorem zRD:ez Tryz.prog 105=some (1,24,[.sl false 1 []]):=by kernel_rfl
@[go_sem] theorem zNr {i:Nat}:zaA Tryz.prog 105 i=1:=by kernel_rfl
@[go_sem] theorem zPz:tk Tryz.prog 117=some (true,4):=by kernel_rfl
@[go_sem] theorem zRF:zr Tryz.prog 117=some [.int .i64 0,.int .i64 0,.int .i64 0,.int .i64 0]:=by kernel_rfl
@[go_sem] theorem zNy:ezT Tryz.prog 117=0:=by kernel_rfl
@[go_sem] theorem zOA:ze8 Tryz.prog 117=some (zao Tryz.prog 117,[.int .i64 0,.int .i64 0,.int .i64 0,.int .i64 0]):=by kernel_rfl
@[go_sem] theorem zFC:zao Tryz.prog 117 0=some (0,1):=by kernel_rfl
@[go_sem] theorem zGy:zaA Tryz.prog 117 0=0:=by kernel_rfl
@[go_sem] theorem zIa:zao Tryz.prog 117 1=some (1,1):=by kernel_rfl
@[go_sem] theorem zFb:zaA Tryz.prog 117 1=0:=by kernel_rfl
@[go_sem] theorem zH8:zao Tryz.prog 117 2=some (2,1):=by kernel_rfl
@[go_sem] theorem zFj:zaA Tryz.prog 117 2=0:=by kernel_rfl
@[go_sem] theorem zHT:zao Tryz.prog 117 3=some (3,1):=by kernel_rfl
@[go_sem] theorem zIc:zaA Tryz.prog 117 3=0:=by kernel_rfl
@[go_sem] theorem zQL:tk Tryz.prog 141=some (false,1):=by kernel_rfl
@[go_sem] theorem zQC:zr Tryz.prog 141=some [.int .u64 0]:=by kernel_rfl
@[go_sem] theorem zNV:ezT Tryz.prog 141=0:=by kernel_rfl
@[go_sem] theorem zOr:zdb Tryz.prog 141=some .u64:=by kernel_rfl
@[go_sem] theorem zOy:zay Tryz.prog 141=false:=by kernel_rfl
@[go_sem] theorem zPl:tk Tryz.prog 146=some (false,1):=by kernel_rfl
@[go_sem] theorem zQU:zr Tryz.prog 146=some [.nilf]:=by kernel_rfl
@[go_sem] theorem zO8:ezT Tryz.prog 146=0:=by kernel_rfl
@[go_sem] theorem zQp:tk Tryz.prog 151=some (false,1):=by kernel_rfl
@[go_sem] theorem zQ4:zr Tryz.prog 151=some [.sl true 1 []]:=by kernel_rfl
@[go_sem] theorem zOU:ezT Tryz.prog 151=1:=by kernel_rfl
@[go_sem] theorem zOs:zas Tryz.prog 151=some 5:=by kernel_rfl
@[go_sem] theorem zM5:zay Tryz.prog 151=false:=by kernel_rfl
@[go_sem] theorem zOW:esz Tryz.prog 151=some 1:=by kernel_rfl
@[go_sem] theorem zN9:zhh Tryz.prog 151=true:=by kernel_rfl
@[go_sem] theorem zRu:ez Tryz.prog 151=some (1,1,[.int .u8 0]):=by kernel_rfl
@[go_sem] theorem zNk {i:Nat}:zaA Tryz.prog 151 i=0:=by kernel_rfl
@[go_sem] theorem zQ3:tk Tryz.prog 159=some (false,1):=by kernel_rfl
@[go_sem] theorem zP8:zr Tryz.prog 159=some [.nilp]:=by kernel_rfl
@[go_sem] theorem zNi:ezT Tryz.prog 159=0:=by kernel_rfl
@[go_sem] theorem zQG:tk Tryz.prog 161=some (true,2):=by kernel_rfl
@[go_sem] theorem zPH:zr Tryz.prog 161=some [.int .i64 0,.int .i64 0]:=by kernel_rfl
@[go_sem] theorem zOk:ezT Tryz.prog 161=0:=by kernel_rfl
@[go_sem] theorem zNC:ze8 Tryz.prog 161=some (zao Tryz.prog 161,[.int .i64 0,.int .i64 0]):=by kernel_rfl
@[go_sem] theorem zIz:zao Tryz.prog 161 0=some (0,1):=by kernel_rfl
@[go_sem] theorem zFK:zaA Tryz.prog 161 0=0:=by kernel_rfl
@[go_sem] theorem zF8:zao Tryz.prog 161 1=some (1,1):=by kernel_rfl
@[go_sem] theorem zHZ:zaA Tryz.prog 161 1=0:=by kernel_rfl
@[go_sem] theorem zP0:tk Tryz.prog 164=some (true,24):=by kernel_rfl
@[go_sem] theorem zP1:zr Tryz.prog 164=some [.int .u8 0,.int .u8 0,.int .u8 0,.int .u8 0,.int .u8 0,.int .u8 0,.int .u8 0,.int .u8 0,.int .u8 0,.int .u8 0,.int .u8 0,.int .u8 0,.int .u8 0,.int .u8 0,.int .u8 0,.int .u8 0,.int .u8 0,.int .u8 0,.int .u8 0,.int .u8 0,.int .u8 0,.int .u8 0,.int .u8 0,.int .u8 0]:=by kernel_rfl
@[go_sem] theorem zNe:ezT Tryz.prog 164=0:=by kernel_rfl
@[go_sem] theorem zOg:esz Tryz.prog 164=none:=by kernel_rfl
@[go_sem] theorem zPa:asz Tryz.prog 164=some (24,1):=by kernel_rfl
@[go_sem] theorem zNp {i:Nat}:zaA Tryz.prog 164 i=0:=by kernel_rfl
@[go_sem] theorem zNR:ze8 Tryz.prog 164=some (fun i=>some (i*1,1),[.int .u8 0,.int .u8 0,.int .u8 0,.int .u8 0,.int .u8 0,.int .u8 0,.int .u8 0,.int .u8 0,.int .u8 0,.int .u8 0,.int .u8 0,.int .u8 0,.int .u8 0,.int .u8 0,.int .u8 0,.int .u8 0,.int .u8 0,.int .u8 0,.int .u8 0,.int .u8 0,.int .u8 0,.int .u8 0,.int .u8 0,.int .u8 0]):=by kernel_rfl
@[go_sem] theorem zRM:tk Tryz.prog 165=some (false,1):=by kernel_rfl
@[go_sem] theorem zP6:zr Tryz.prog 165=some [.int .u64 0]:=by kernel_rfl
@[go_sem] theorem zOq:ezT Tryz.prog 165=0:=by kernel_rfl
@[go_sem] theorem zOp:zdb Tryz.prog 165=some .u64:=by kernel_rfl
@[go_sem] theorem zOj:zay Tryz.prog 165=false:=by kernel_rfl
@[go_sem] theorem zQn:tk Tryz.prog 173=some (true,20):=by kernel_rfl
@[go_sem] theorem zQY:zr Tryz.prog 173=some [.int .u64 0,.int .u64 0,.int .u64 0,.int .u64 0,.int .u64 0,.int .u64 0,.int .u64 0,.int .u64 0,.int .u64 0,.int .u64 0,.int .u64 0,.int .u64 0,.int .u64 0,.int .u64 0,.int .u64 0,.int .u64 0,.int .u64 0,.int .u64 0,.int .u64 0,.int .u64 0]:=by kernel_rfl
@[go_sem] theorem zNL:ezT Tryz.prog 173=0:=by kernel_rfl
@[go_sem] theorem zNj:esz Tryz.prog 173=none:=by kernel_rfl
@[go_sem] theorem zO9:asz Tryz.prog 173=some (20,1):=by kernel_rfl
@[go_sem] theorem zOQ {i:Nat}:zaA Tryz.prog 173 i=0:=by kernel_rfl
@[go_sem] theorem zOL:ze8 Tryz.prog 173=some (fun i=>some (i*1,1),[.int .u64 0,.int .u64 0,.int .u64 0,.int .u64 0,.int .u64 0,.int .u64 0,.int .u64 0,.int .u64 0,.int .u64 0,.int .u64 0,.int .u64 0,.int .u64 0,.int .u64 0,.int .u64 0,.int .u64 0,.int .u64 0,.int .u64 0,.int .u64 0,.int .u64 0,.int .u64 0]):=by kernel_rfl
@[go_sem] theorem zPA:tk Tryz.prog 174=some (false,1):=by kernel_rfl
@[go_sem] theorem zPB:zr Tryz.prog 174=some [.int .u32 0]:=by kernel_rfl
@[go_sem] theorem zNY:ezT Tryz.prog 174=0:=by kernel_rfl
@[go_sem] theorem zOG:zdb Tryz.prog 174=some .u32:=by kernel_rfl
@[go_sem] theorem zOV:zay Tryz.prog 174=false:=by kernel_rfl
@[go_sem] theorem zPM:tk Tryz.prog 175=some (true,65):=by kernel_rfl
@[go_sem] theorem zRt:zr Tryz.prog 175=some [.int .u8 0,.int .u8 0,.int .u8 0,.int .u8 0,.int .u8 0,.int .u8 0,.int .u8 0,.int .u8 0,.int .u8 0,.int .u8 0,.int .u8 0,.int .u8 0,.int .u8 0,.int .u8 0,.int .u8 0,.int .u8 0,.int .u8 0,.int .u8 0,.int .u8 0,.int .u8 0,.int .u8 0,.int .u8 0,.int .u8 0,.int .u8 0,.int .u8 0,.int .u8 0,.int .u8 0,.int .u8 0,.int .u8 0,.int .u8 0,.int .u8 0,.int .u8 0,.int .u8 0,.int .u8 0,.int .u8 0,.int .u8 0,.int .u8 0,.int .u8 0,.int .u8 0,.int .u8 0,.int .u8 0,.int .u8 0,.int .u8 0,.int .u8 0,.int .u8 0,.int .u8 0,.int .u8 0,.int .u8 0,.int .u8 0,.int .u8 0,.int .u8 0,.int .u8 0,.int .u8 0,.int .u8 0,.int .u8 0,.int .u8 0,.int .u8 0,.int .u8 0,.int .u8 0,.int .u8 0,.int .u8 0,.int .u8 0,.int .u8 0,.int .u8 0,.int .u8 0]:=by kernel_rfl
@[go_sem] theorem zOt:ezT Tryz.prog 175=0:=by kernel_rfl
@[go_sem] theorem zOM:esz Tryz.prog 175=none:=by kernel_rfl
@[go_sem] theorem zNw:asz Tryz.prog 175=some (65,1):=by kernel_rfl
@[go_sem] theorem zNx {i:Nat}:zaA Tryz.prog 175 i=0:=by kernel_rfl
@[go_sem] theorem zOe:ze8 Tryz.prog 175=some (fun i=>some (i*1,1),[.int .u8 0,.int .u8 0,.int .u8 0,.int .u8 0,.int .u8 0,.int .u8 0,.int .u8 0,.int .u8 0,.int .u8 0,.int .u8 0,.int .u8 0,.int .u8 0,.int .u8 0,.int .u8 0,.int .u8 0,.int .u8 0,.int .u8 0,.int .u8 0,.int .u8 0,.int .u8 0,.int .u8 0,.int .u8 0,.int .u8 0,.int .u8 0,.int .u8 0,.int .u8 0,.int .u8 0,.int .u8 0,.int .u8 0,.int .u8 0,.int .u8 0,.int .u8 0,.int .u8 0,.int .u8 0,.int .u8 0,.int .u8 0,.int .u8 0,.int .u8 0,.int .u8 0,.int .u8 0,.int .u8 0,.int .u8 0,.int .u8 0,.int .u8 0,.int .u8 0,.int .u8 0,.int .u8 0,.int .u8 0,.int .u8 0,.int .u8 0,.int .u8 0,.int .u8 0,.int .u8 0,.int .u8 0,.int .u8 0,.int .u8 0,.int .u8 0,.int .u8 0,.int .u8 0,.int .u8 0,.int .u8 0,.int .u8 0,.int .u8 0,.int .u8 0,.int .u8 0]):=by kernel_rfl
@[go_sem] theorem zPT:tk Tryz.prog 178=some (true,32):=by kernel_rfl
@[go_sem] theorem zQE:zr Tryz.prog 178=some [.int .u8 0,.int .u8 0,.int .u8 0,.int .u8 0,.int .u8 0,.int .u8 0,.int .u8 0,.int .u8 0,.int .u8 0,.int .u8 0,.int .u8 0,.int .u8 0,.int .u8 0,.int .u8 0,.int .u8 0,.int .u8 0,.int .u8 0,.int .u8 0,.int .u8 0,.int .u8 0,.int .u8 0,.int .u8 0,.int .u8 0,.int .u8 0,.int .u8 0,.int .u8 0,.int .u8 0,.int .u8 0,.int .u8 0,.int .u8 0,.int .u8 0,.int .u8 0]:=by kernel_rfl
@[go_sem] theorem zN3:ezT Tryz.prog 178=0:=by kernel_rfl
@[go_sem] theorem zNh:esz Tryz.prog 178=none:=by kernel_rfl
@[go_sem] theorem zOJ:asz Tryz.prog 178=some (32,1):=by kernel_rfl
@[go_sem] theorem zN6 {i:Nat}:zaA Tryz.prog 178 i=0:=by kernel_rfl
@[go_sem] theorem zOB:ze8 Tryz.prog 178=some (fun i=>some (i*1,1),[.int .u8 0,.int .u8 0,.int .u8 0,.int .u8 0,.int .u8 0,.int .u8 0,.int .u8 0,.int .u8 0,.int .u8 0,.int .u8 0,.int .u8 0,.int .u8 0,.int .u8 0,.int .u8 0,.int .u8 0,.int .u8 0,.int .u8 0,.int .u8 0,.int .u8 0,.int .u8 0,.int .u8 0,.int .u8 0,.int .u8 0,.int .u8 0,.int .u8 0,.int .u8 0,.int .u8 0,.int .u8 0,.int .u8 0,.int .u8 0,.int .u8 0,.int .u8 0]):=by kernel_rfl
@[go_sem] theorem zRc:tk Tryz.prog 179=some (true,64):=by kernel_rfl
@[go_sem] theorem zRj:zr Tryz.prog 179=some [.int .u8 0,.int .u8 0,.int .u8 0,.int .u8 0,.int .u8 0,.int .u8 0,.int .u8 0,.int .u8 0,.int .u8 0,.int .u8 0,.int .u8 0,.int .u8 0,.int .u8 0,.int .u8 0,.int .u8 0,.int .u8 0,.int .u8 0,.int .u8 0,.int .u8 0,.int .u8 0,.int .u8 0,.int .u8 0,.int .u8 0,.int .u8 0,.int .u8 0,.int .u8 0,.int .u8 0,.int .u8 0,.int .u8 0,.int .u8 0,.int .u8 0,.int .u8 0,.int .u8 0,.int .u8 0,.int .u8 0,.int .u8 0,.int .u8 0,.int .u8 0,.int .u8 0,.int .u8 0,.int .u8 0,.int .u8 0,.int .u8 0,.int .u8 0,.int .u8 0,.int .u8 0,.int .u8 0,.int .u8 0,.int .u8 0,.int .u8 0,.int .u8 0,.int .u8 0,.int .u8 0,.int .u8 0,.int .u8 0,.int .u8 0,.int .u8 0,.int .u8 0,.int .u8 0,.int .u8 0,.int .u8 0,.int .u8 0,.int .u8 0,.int .u8 0]:=by kernel_rfl
@[go_sem] theorem zO4:ezT Tryz.prog 179=0:=by kernel_rfl
@[go_sem] theorem zM8:esz Tryz.prog 179=none:=by kernel_rfl
@[go_sem] theorem zPf:asz Tryz.prog 179=some (64,1):=by kernel_rfl
@[go_sem] theorem zN2 {i:Nat}:zaA Tryz.prog 179 i=0:=by kernel_rfl
@[go_sem] theorem zNs:ze8 Tryz.prog 179=some (fun i=>some (i*1,1),[.int .u8 0,.int .u8 0,.int .u8 0,.int .u8 0,.int .u8 0,.int .u8 0,.int .u8 0,.int .u8 0,.int .u8 0,.int .u8 0,.int .u8 0,.int .u8 0,.int .u8 0,.int .u8 0,.int .u8 0,.int .u8 0,.int .u8 0,.int .u8 0,.int .u8 0,.int .u8 0,.int .u8 0,.int .u8 0,.int .u8 0,.int .u8 0,.int .u8 0,.int .u8 0,.int .u8 0,.int .u8 0,.int .u8 0,.int .u8 0,.int .u8 0,.int .u8 0,.int .u8 0,.int .u8 0,.int .u8 0,.int .u8 0,.int .u8 0,.int .u8 0,.int .u8 0,.int .u8 0,.int .u8 0,.int .u8 0,.int .u8 0,.int .u8 0,.int .u8 0,.int .u8 0,.int .u8 0,.int .u8 0,.int .u8 0,.int .u8 0,.int .u8 0,.int .u8 0,.int .u8 0,.int .u8 0,.int .u8 0,.int .u8 0,.int .u8 0,.int .u8 0,.int .u8 0,.int .u8 0,.int .u8 0,.int .u8 0,.int .u8 0,.int .u8 0]):=by kernel_rfl
theorem follows:Tryz.prog.follows .mixedOrders=true:=by kernel_rfl
theorem cl6:zac Tryz.prog 6:=fun args w=>Tryz.call6 args w
theorem cl7:zac Tryz.prog 7:=fun args w=>Tryz.call7 args w
theorem cl8:zac Tryz.prog 8:=fun args w=>Tryz.call8 args w
theorem cl9:zac Tryz.prog 9:=fun args w=>Tryz.call9 args w
theorem zGA:zac Tryz.prog 10:=fun args w=>Tryz.call10 args w
theorem zG9:zac Tryz.prog 11:=fun args w=>Tryz.call11 args w
theorem zHR:zac Tryz.prog 12:=fun args w=>Tryz.call12 args w
theorem zG4:zac Tryz.prog 13:=fun args w=>Tryz.call13 args w
theorem zJi:zac Tryz.prog 14:=fun args w=>Tryz.call14 args w
theorem zHY:zac Tryz.prog 16:=fun args w=>Tryz.call16 args w
theorem zIq:zac Tryz.prog 19:=fun args w=>Tryz.call19 args w
theorem zIH:zac Tryz.prog 20:=fun args w=>Tryz.call20 args w
theorem zG8:zac Tryz.prog 21:=fun args w=>Tryz.call21 args w
theorem zFA:zac Tryz.prog 22:=fun args w=>Tryz.call22 args w
theorem zHr:zac Tryz.prog 23:=fun args w=>Tryz.call23 args w
theorem zGE:zac Tryz.prog 24:=fun args w=>Tryz.call24 args w
theorem zFe:zac Tryz.prog 25:=fun args w=>Tryz.call25 args w
theorem zJj:zac Tryz.prog 26:=fun args w=>Tryz.call26 args w
theorem zF1:zac Tryz.prog 27:=fun args w=>Tryz.call27 args w
theorem zFL:zac Tryz.prog 28:=fun args w=>Tryz.call28 args w
theorem zIf:zac Tryz.prog 29:=fun args w=>Tryz.call29 args w
theorem zGN:zac Tryz.prog 30:=fun args w=>Tryz.call30 args w
theorem zFx:zac Tryz.prog 31:=fun args w=>Tryz.call31 args w
theorem zHk:zac Tryz.prog 32:=fun args w=>Tryz.call32 args w
theorem zJg:zac Tryz.prog 33:=fun args w=>Tryz.call33 args w
theorem zGK:zac Tryz.prog 34:=fun args w=>Tryz.call34 args w
theorem zI8:zac Tryz.prog 35:=fun args w=>Tryz.call35 args w
theorem zHA:zac Tryz.prog 36:=fun args w=>Tryz.call36 args w
theorem zGo:zac Tryz.prog 37:=fun args w=>Tryz.call37 args w
theorem zG3:zac Tryz.prog 38:=fun args w=>Tryz.call38 args w
theorem zGX:zac Tryz.prog 39:=fun args w=>Tryz.call39 args w
theorem zGt:zac Tryz.prog 40:=fun args w=>Tryz.call40 args w
theorem zGv:zac Tryz.prog 41:=fun args w=>Tryz.call41 args w
theorem zIm:zac Tryz.prog 42:=fun args w=>Tryz.call42 args w
theorem zHV:zac Tryz.prog 43:=fun args w=>Tryz.call43 args w
theorem zGW:zac Tryz.prog 44:=fun args w=>Tryz.call44 args w
theorem zFm:zac Tryz.prog 45:=fun args w=>Tryz.call45 args w
theorem zFQ:zac Tryz.prog 46:=fun args w=>Tryz.call46 args w
theorem zF4:zac Tryz.prog 47:=fun args w=>Tryz.call47 args w
theorem zId:zac Tryz.prog 48:=fun args w=>Tryz.call48 args w
theorem zIQ:zac Tryz.prog 49:=fun args w=>Tryz.call49 args w
theorem zGR:zac Tryz.prog 50:=fun args w=>Tryz.call50 args w
theorem zI4:zac Tryz.prog 51:=fun args w=>Tryz.call51 args w
theorem zH4:zac Tryz.prog 52:=fun args w=>Tryz.call52 args w
theorem zG0:zac Tryz.prog 53:=fun args w=>Tryz.call53 args w
theorem zGu:zac Tryz.prog 54:=fun args w=>Tryz.call54 args w
theorem zI1:zac Tryz.prog 55:=fun args w=>Tryz.call55 args w
theorem zHG:zac Tryz.prog 56:=fun args w=>Tryz.call56 args w
theorem zI5:zac Tryz.prog 66:=fun args w=>Tryz.call66 args w
theorem zHS:zac Tryz.prog 67:=fun args w=>Tryz.call67 args w
theorem zIU:zac Tryz.prog 68:=fun args w=>Tryz.call68 args w
theorem zGk:zac Tryz.prog 69:=fun args w=>Tryz.call69 args w
theorem zGQ:zac Tryz.prog 70:=fun args w=>Tryz.call70 args w
theorem zH5:zac Tryz.prog 71:=fun args w=>Tryz.call71 args w
theorem zHc:zac Tryz.prog 72:=fun args w=>Tryz.call72 args w
theorem zFv:zac Tryz.prog 73:=fun args w=>Tryz.call73 args w
theorem zJh:zac Tryz.prog 74:=fun args w=>Tryz.call74 args w
theorem zIo:zac Tryz.prog 75:=fun args w=>Tryz.call75 args w
theorem zGY:zac Tryz.prog 76:=fun args w=>Tryz.call76 args w
theorem zHP:zac Tryz.prog 77:=fun args w=>Tryz.call77 args w
theorem zI0:zac Tryz.prog 78:=fun args w=>Tryz.call78 args w
theorem zGw:zac Tryz.prog 79:=fun args w=>Tryz.call79 args w
theorem zF3:zac Tryz.prog 80:=fun args w=>Tryz.call80 args w
theorem zF7:zac Tryz.prog 81:=fun args w=>Tryz.call81 args w
theorem zG6:zac Tryz.prog 82:=fun args w=>Tryz.call82 args w
theorem zIw:zac Tryz.prog 83:=fun args w=>Tryz.call83 args w
theorem zHQ:zac Tryz.prog 84:=fun args w=>Tryz.call84 args w
theorem zGU:zac Tryz.prog 85:=fun args w=>Tryz.call85 args w
theorem zIS:zac Tryz.prog 86:=fun args w=>Tryz.call86 args w
theorem zGn:zac Tryz.prog 87:=fun args w=>Tryz.call87 args w
theorem zIX:zac Tryz.prog 88:=fun args w=>Tryz.call88 args w
theorem zIr:zac Tryz.prog 89:=fun args w=>Tryz.call89 args w
theorem zHM:zac Tryz.prog 90:=fun args w=>Tryz.call90 args w
theorem zFw:zac Tryz.prog 91:=fun args w=>Tryz.call91 args w
theorem zHF:zac Tryz.prog 92:=fun args w=>Tryz.call92 args w
theorem zFB:zac Tryz.prog 93:=fun args w=>Tryz.call93 args w
theorem zFO:zac Tryz.prog 94:=fun args w=>Tryz.call94 args w
theorem zIt:zac Tryz.prog 95:=fun args w=>Tryz.call95 args w
theorem zpU:zac Tryz.prog 96:=fun args w=>Tryz.call96 args w
theorem zGL:zac Tryz.prog 97:=fun args w=>Tryz.call97 args w
theorem zIF:zac Tryz.prog 98:=fun args w=>Tryz.call98 args w
theorem zHl:zac Tryz.prog 99:=fun args w=>Tryz.call99 args w
theorem zBx:zac Tryz.prog 100:=fun args w=>Tryz.call100 args w
theorem zCj:zac Tryz.prog 101:=fun args w=>Tryz.call101 args w
theorem zCn:zac Tryz.prog 102:=fun args w=>Tryz.call102 args w
theorem zDv:zac Tryz.prog 103:=fun args w=>Tryz.call103 args w
theorem zDD:zac Tryz.prog 104:=fun args w=>Tryz.call104 args w
theorem zxn:zac Tryz.prog 105:=fun args w=>Tryz.call105 args w
theorem zDG:zac Tryz.prog 106:=fun args w=>Tryz.call106 args w
theorem zBg:zac Tryz.prog 107:=fun args w=>Tryz.call107 args w
theorem zCd:zac Tryz.prog 108:=fun args w=>Tryz.call108 args w
theorem zDr:zac Tryz.prog 109:=fun args w=>Tryz.call109 args w
theorem zB3:zac Tryz.prog 110:=fun args w=>Tryz.call110 args w
theorem zCp:zac Tryz.prog 111:=fun args w=>Tryz.call111 args w
theorem zA1:zac Tryz.prog 112:=fun args w=>Tryz.call112 args w
theorem zBR:zac Tryz.prog 113:=fun args w=>Tryz.call113 args w
theorem zCD:zac Tryz.prog 114:=fun args w=>Tryz.call114 args w
theorem zCV:zac Tryz.prog 116:=fun args w=>Tryz.call116 args w
theorem zCK:zac Tryz.prog 117:=fun args w=>Tryz.call117 args w
theorem zAW:zac Tryz.prog 118:=fun args w=>Tryz.call118 args w
theorem zBL:zac Tryz.prog 119:=fun args w=>Tryz.call119 args w
theorem zCe:zac Tryz.prog 120:=fun args w=>Tryz.call120 args w
theorem zCx:zac Tryz.prog 121:=fun args w=>Tryz.call121 args w
theorem zB2:zac Tryz.prog 122:=fun args w=>Tryz.call122 args w
theorem zB4:zac Tryz.prog 123:=fun args w=>Tryz.call123 args w
theorem zCI:zac Tryz.prog 124:=fun args w=>Tryz.call124 args w
theorem zBj:zac Tryz.prog 125:=fun args w=>Tryz.call125 args w
theorem zBr:zac Tryz.prog 126:=fun args w=>Tryz.call126 args w
theorem zDJ:zac Tryz.prog 127:=fun args w=>Tryz.call127 args w
theorem zC4:zac Tryz.prog 128:=fun args w=>Tryz.call128 args w
theorem zDb:zac Tryz.prog 129:=fun args w=>Tryz.call129 args w
theorem zCi:zac Tryz.prog 130:=fun args w=>Tryz.call130 args w
theorem zBv:zac Tryz.prog 131:=fun args w=>Tryz.call131 args w
theorem zBX:zac Tryz.prog 132:=fun args w=>Tryz.call132 args w
theorem zCf:zac Tryz.prog 133:=fun args w=>Tryz.call133 args w
theorem zBN:zac Tryz.prog 134:=fun args w=>Tryz.call134 args w
theorem zBo:zac Tryz.prog 135:=fun args w=>Tryz.call135 args w
theorem zBA:zac Tryz.prog 136:=fun args w=>Tryz.call136 args w
theorem zCF:zac Tryz.prog 137:=fun args w=>Tryz.call137 args w
theorem zDc:zac Tryz.prog 138:=fun args w=>Tryz.call138 args w
theorem zA5:zac Tryz.prog 139:=fun args w=>Tryz.call139 args w
theorem zAT:zac Tryz.prog 140:=fun args w=>Tryz.call140 args w
theorem zCt:zac Tryz.prog 141:=fun args w=>Tryz.call141 args w
theorem zCw:zac Tryz.prog 142:=fun args w=>Tryz.call142 args w
theorem zA7:zac Tryz.prog 143:=fun args w=>Tryz.call143 args w
theorem zn5:zac Tryz.prog 144:=fun args w=>Tryz.call144 args w
theorem zny:zac Tryz.prog 145:=fun args w=>Tryz.call145 args w
theorem zDi:zac Tryz.prog 146:=fun args w=>Tryz.call146 args w
theorem zBn:zac Tryz.prog 147:=fun args w=>Tryz.call147 args w
theorem zDC:zac Tryz.prog 149:=fun args w=>Tryz.call149 args w
theorem zBQ:zac Tryz.prog 150:=fun args w=>Tryz.call150 args w
theorem zC5:zac Tryz.prog 151:=fun args w=>Tryz.call151 args w
theorem zBf:zac Tryz.prog 152:=fun args w=>Tryz.call152 args w
theorem zCU:zac Tryz.prog 153:=fun args w=>Tryz.call153 args w
theorem zBY:zac Tryz.prog 154:=fun args w=>Tryz.call154 args w
theorem zB9:zac Tryz.prog 155:=fun args w=>Tryz.call155 args w
theorem zDf:zac Tryz.prog 156:=fun args w=>Tryz.call156 args w
theorem zDL:zac Tryz.prog 157:=fun args w=>Tryz.call157 args w
theorem zCs:zac Tryz.prog 158:=fun args w=>Tryz.call158 args w
theorem zBc:zac Tryz.prog 159:=fun args w=>Tryz.call159 args w
theorem zDl:zac Tryz.prog 160:=fun args w=>Tryz.call160 args w
theorem zC7:zac Tryz.prog 161:=fun args w=>Tryz.call161 args w
theorem zCT:zac Tryz.prog 162:=fun args w=>Tryz.call162 args w
theorem zDF:zac Tryz.prog 163:=fun args w=>Tryz.call163 args w
theorem zAU:zac Tryz.prog 164:=fun args w=>Tryz.call164 args w
theorem zBh:zac Tryz.prog 165:=fun args w=>Tryz.call165 args w
theorem zC3:zac Tryz.prog 166:=fun args w=>Tryz.call166 args w
theorem zBH:zac Tryz.prog 167:=fun args w=>Tryz.call167 args w
theorem zDd:zac Tryz.prog 168:=fun args w=>Tryz.call168 args w
theorem zBD:zac Tryz.prog 169:=fun args w=>Tryz.call169 args w
theorem znG:zac Tryz.prog 170:=fun args w=>Tryz.call170 args w
theorem zCG:zac Tryz.prog 171:=fun args w=>Tryz.call171 args w
theorem zCE:zac Tryz.prog 172:=fun args w=>Tryz.call172 args w
theorem zDB:zac Tryz.prog 174:=fun args w=>Tryz.call174 args w
theorem zAX:zac Tryz.prog 175:=fun args w=>Tryz.call175 args w
theorem zA4:zac Tryz.prog 176:=fun args w=>Tryz.call176 args w
theorem zCR:zac Tryz.prog 177:=fun args w=>Tryz.call177 args w
theorem zDH:zac Tryz.prog 178:=fun args w=>Tryz.call178 args w
theorem zC8:zac Tryz.prog 179:=fun args w=>Tryz.call179 args w
theorem zDp:zac Tryz.prog 180:=fun args w=>Tryz.call180 args w
theorem zBJ:zac Tryz.prog 181:=fun args w=>Tryz.call181 args w
theorem zDj:zac Tryz.prog 182:=fun args w=>Tryz.call182 args w
theorem zBp:zac Tryz.prog 187:=fun args w=>Tryz.call187 args w
theorem zCl:zac Tryz.prog 188:=fun args w=>Tryz.call188 args w
end Go.Pm
