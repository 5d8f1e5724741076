import Derived.Test.YtnbbkiilkaebaaaGreatDoorPmW
import Derived.Test.YtnbbkiilkaebaaaGreatDoorProg
import Derived.KernelRfl
namespace Go.Pm
open Go.Am
open Go.Proofs
set_option maxRecDepth 100000
@[go_sem] theorem tk2:tk Tryz.prog 2=some (false,1):=by kernel_rfl
@[go_sem] theorem zr2:zr Tryz.prog 2=some [.int .i64 0]:=by kernel_rfl
@[go_sem] theorem zSm:ezT Tryz.prog 2=0:=by kernel_rfl
@[go_sem] theorem zSx:zde Tryz.prog 2=some .i64:=by kernel_rfl
@[go_sem] theorem zSa:zay Tryz.prog 2=false:=by kernel_rfl
@[go_sem] theorem tk3:tk Tryz.prog 3=some (false,1):=by kernel_rfl
@[go_sem] theorem zr3:zr Tryz.prog 3=some [.int .i64 0]:=by kernel_rfl
@[go_sem] theorem zSk:ezT Tryz.prog 3=0:=by kernel_rfl
@[go_sem] theorem zSq:zde Tryz.prog 3=some .i64:=by kernel_rfl
@[go_sem] theorem zSG:zay Tryz.prog 3=false:=by kernel_rfl
@[go_sem] theorem tk4:tk Tryz.prog 4=some (false,1):=by kernel_rfl
@[go_sem] theorem zr4:zr Tryz.prog 4=some [.bool false]:=by kernel_rfl
@[go_sem] theorem zSJ:ezT Tryz.prog 4=0:=by kernel_rfl
@[go_sem] theorem zSL:zhG Tryz.prog 4=true:=by kernel_rfl
@[go_sem] theorem tk5:tk Tryz.prog 5=some (false,1):=by kernel_rfl
@[go_sem] theorem zr5:zr Tryz.prog 5=some [.int .u8 0]:=by kernel_rfl
@[go_sem] theorem zSs:ezT Tryz.prog 5=0:=by kernel_rfl
@[go_sem] theorem zR6:zde Tryz.prog 5=some .u8:=by kernel_rfl
@[go_sem] theorem zR4:zay Tryz.prog 5=false:=by kernel_rfl
@[go_sem] theorem tk9:tk Tryz.prog 9=some (false,1):=by kernel_rfl
@[go_sem] theorem zr9:zr Tryz.prog 9=some [.str ⟨#[]⟩]:=by kernel_rfl
@[go_sem] theorem zSu:ezT Tryz.prog 9=0:=by kernel_rfl
@[go_sem] theorem zSi:zay Tryz.prog 9=true:=by kernel_rfl
@[go_sem] theorem zRZ:tk Tryz.prog 20=some (false,1):=by kernel_rfl
@[go_sem] theorem zSj:zr Tryz.prog 20=some [.nili]:=by kernel_rfl
@[go_sem] theorem zRc:ezT Tryz.prog 20=0:=by kernel_rfl
@[go_sem] theorem zSn:tk Tryz.prog 23=some (true,3):=by kernel_rfl
@[go_sem] theorem zSc:zr Tryz.prog 23=some [.int .i64 0,.int .i64 0,.int .i64 0]:=by kernel_rfl
@[go_sem] theorem zRC:ezT Tryz.prog 23=0:=by kernel_rfl
@[go_sem] theorem zQ3:zfa Tryz.prog 23=some (zao Tryz.prog 23,[.int .i64 0,.int .i64 0,.int .i64 0]):=by kernel_rfl
@[go_sem] theorem zLY:zao Tryz.prog 23 0=some (0,1):=by kernel_rfl
@[go_sem] theorem zKV:zaA Tryz.prog 23 0=0:=by kernel_rfl
@[go_sem] theorem zLR:zao Tryz.prog 23 1=some (1,1):=by kernel_rfl
@[go_sem] theorem zLg:zaA Tryz.prog 23 1=0:=by kernel_rfl
@[go_sem] theorem zJu:zao Tryz.prog 23 2=some (2,1):=by kernel_rfl
@[go_sem] theorem zLO:zaA Tryz.prog 23 2=0:=by kernel_rfl
@[go_sem] theorem zR9:tk Tryz.prog 25=some (true,5):=by kernel_rfl
@[go_sem] theorem zRT:zr Tryz.prog 25=some [.int .i64 0,.int .i64 0,.int .i64 0,.int .i64 0,.int .i64 0]:=by kernel_rfl
@[go_sem] theorem zPZ:ezT Tryz.prog 25=0:=by kernel_rfl
@[go_sem] theorem zRs:zfa Tryz.prog 25=some (zao Tryz.prog 25,[.int .i64 0,.int .i64 0,.int .i64 0,.int .i64 0,.int .i64 0]):=by kernel_rfl
@[go_sem] theorem zMb:zao Tryz.prog 25 0=some (0,1):=by kernel_rfl
@[go_sem] theorem zMi:zaA Tryz.prog 25 0=0:=by kernel_rfl
@[go_sem] theorem zLv:zao Tryz.prog 25 1=some (1,1):=by kernel_rfl
@[go_sem] theorem zLq:zaA Tryz.prog 25 1=0:=by kernel_rfl
@[go_sem] theorem zMV:zao Tryz.prog 25 2=some (2,1):=by kernel_rfl
@[go_sem] theorem zMy:zaA Tryz.prog 25 2=0:=by kernel_rfl
@[go_sem] theorem zJN:zao Tryz.prog 25 3=some (3,1):=by kernel_rfl
@[go_sem] theorem zJy:zaA Tryz.prog 25 3=0:=by kernel_rfl
@[go_sem] theorem zK8:zao Tryz.prog 25 4=some (4,1):=by kernel_rfl
@[go_sem] theorem zKC:zaA Tryz.prog 25 4=0:=by kernel_rfl
@[go_sem] theorem zRU:tk Tryz.prog 26=some (false,1):=by kernel_rfl
@[go_sem] theorem zR5:zr Tryz.prog 26=some [.sl true 1 []]:=by kernel_rfl
@[go_sem] theorem zQm:ezT Tryz.prog 26=1:=by kernel_rfl
@[go_sem] theorem zPV:zat Tryz.prog 26=some 3:=by kernel_rfl
@[go_sem] theorem zPJ:zay Tryz.prog 26=false:=by kernel_rfl
@[go_sem] theorem zRm:esz Tryz.prog 26=some 1:=by kernel_rfl
@[go_sem] theorem zGk:ez Tryz.prog 26=some (1,8,[.int .i64 0]):=by kernel_rfl
@[go_sem] theorem zQ7 {i:Nat}:zaA Tryz.prog 26 i=0:=by kernel_rfl
@[go_sem] theorem zR7:tk Tryz.prog 29=some (true,3):=by kernel_rfl
@[go_sem] theorem zSg:zr Tryz.prog 29=some [.int .i64 0,.int .i64 0,.int .i64 0]:=by kernel_rfl
@[go_sem] theorem zPT:ezT Tryz.prog 29=0:=by kernel_rfl
@[go_sem] theorem zQ5:zfa Tryz.prog 29=some (zao Tryz.prog 29,[.int .i64 0,.int .i64 0,.int .i64 0]):=by kernel_rfl
@[go_sem] theorem zMc:zao Tryz.prog 29 0=some (0,1):=by kernel_rfl
@[go_sem] theorem zLp:zaA Tryz.prog 29 0=0:=by kernel_rfl
@[go_sem] theorem zJA:zao Tryz.prog 29 1=some (1,1):=by kernel_rfl
@[go_sem] theorem zLF:zaA Tryz.prog 29 1=0:=by kernel_rfl
@[go_sem] theorem zLy:zao Tryz.prog 29 2=some (2,1):=by kernel_rfl
@[go_sem] theorem zLr:zaA Tryz.prog 29 2=0:=by kernel_rfl
@[go_sem] theorem zSr:tk Tryz.prog 31=some (true,5):=by kernel_rfl
@[go_sem] theorem zR2:zr Tryz.prog 31=some [.int .i64 0,.int .i64 0,.int .i64 0,.int .i64 0,.int .i64 0]:=by kernel_rfl
@[go_sem] theorem zRF:ezT Tryz.prog 31=0:=by kernel_rfl
@[go_sem] theorem zPw:zfa Tryz.prog 31=some (zao Tryz.prog 31,[.int .i64 0,.int .i64 0,.int .i64 0,.int .i64 0,.int .i64 0]):=by kernel_rfl
@[go_sem] theorem zL9:zao Tryz.prog 31 0=some (0,1):=by kernel_rfl
@[go_sem] theorem zJ1:zaA Tryz.prog 31 0=0:=by kernel_rfl
@[go_sem] theorem zJE:zao Tryz.prog 31 1=some (1,1):=by kernel_rfl
@[go_sem] theorem zLN:zaA Tryz.prog 31 1=0:=by kernel_rfl
@[go_sem] theorem zK3:zao Tryz.prog 31 2=some (2,1):=by kernel_rfl
@[go_sem] theorem zJV:zaA Tryz.prog 31 2=0:=by kernel_rfl
@[go_sem] theorem zJS:zao Tryz.prog 31 3=some (3,1):=by kernel_rfl
@[go_sem] theorem zLL:zaA Tryz.prog 31 3=0:=by kernel_rfl
@[go_sem] theorem zM1:zao Tryz.prog 31 4=some (4,1):=by kernel_rfl
@[go_sem] theorem zJt:zaA Tryz.prog 31 4=0:=by kernel_rfl
@[go_sem] theorem zSy:tk Tryz.prog 36=some (false,1):=by kernel_rfl
@[go_sem] theorem zSz:zr Tryz.prog 36=some [.sl true 2 []]:=by kernel_rfl
@[go_sem] theorem zQz:ezT Tryz.prog 36=2:=by kernel_rfl
@[go_sem] theorem zRl:zat Tryz.prog 36=some 81:=by kernel_rfl
@[go_sem] theorem zRQ:zay Tryz.prog 36=false:=by kernel_rfl
@[go_sem] theorem zP6:esz Tryz.prog 36=some 2:=by kernel_rfl
@[go_sem] theorem zSB:ez Tryz.prog 36=some (2,16,[.int .i64 0,.int .i64 0]):=by kernel_rfl
@[go_sem] theorem zQi {i:Nat}:zaA Tryz.prog 36 i=0:=by kernel_rfl
@[go_sem] theorem zR0:tk Tryz.prog 37=some (false,1):=by kernel_rfl
@[go_sem] theorem zSe:zr Tryz.prog 37=some [.sl true 3 []]:=by kernel_rfl
@[go_sem] theorem zPR:ezT Tryz.prog 37=3:=by kernel_rfl
@[go_sem] theorem zQ9:zat Tryz.prog 37=some 39:=by kernel_rfl
@[go_sem] theorem zQg:zay Tryz.prog 37=false:=by kernel_rfl
@[go_sem] theorem zQd:esz Tryz.prog 37=some 3:=by kernel_rfl
@[go_sem] theorem zSK:ez Tryz.prog 37=some (3,72,[.sl false 1 [],.sl false 1 [],.sl false 1 []]):=by kernel_rfl
@[go_sem] theorem zRJ {i:Nat}:zaA Tryz.prog 37 i=0:=by kernel_rfl
@[go_sem] theorem zRY:tk Tryz.prog 39=some (true,3):=by kernel_rfl
@[go_sem] theorem zSF:zr Tryz.prog 39=some [.sl true 1 [],.sl true 1 [],.sl true 1 []]:=by kernel_rfl
@[go_sem] theorem zPX:ezT Tryz.prog 39=0:=by kernel_rfl
@[go_sem] theorem zQL:zfa Tryz.prog 39=some (zao Tryz.prog 39,[.sl true 1 [],.sl true 1 [],.sl true 1 []]):=by kernel_rfl
@[go_sem] theorem zLu:zao Tryz.prog 39 0=some (0,1):=by kernel_rfl
@[go_sem] theorem zKi:zaA Tryz.prog 39 0=1:=by kernel_rfl
@[go_sem] theorem zLW:zao Tryz.prog 39 1=some (1,1):=by kernel_rfl
@[go_sem] theorem zMR:zaA Tryz.prog 39 1=1:=by kernel_rfl
@[go_sem] theorem zLt:zao Tryz.prog 39 2=some (2,1):=by kernel_rfl
@[go_sem] theorem zKA:zaA Tryz.prog 39 2=1:=by kernel_rfl
@[go_sem] theorem zSA:tk Tryz.prog 41=some (true,6):=by kernel_rfl
@[go_sem] theorem zSt:zr Tryz.prog 41=some [.int .i64 0,.sl true 2 [],.sl true 3 [],.sl true 1 [],.sl true 1 [],.sl true 1 []]:=by kernel_rfl
@[go_sem] theorem zQk:ezT Tryz.prog 41=0:=by kernel_rfl
@[go_sem] theorem zQS:zfa Tryz.prog 41=some (zao Tryz.prog 41,[.int .i64 0,.sl true 2 [],.sl true 3 [],.sl true 1 [],.sl true 1 [],.sl true 1 []]):=by kernel_rfl
@[go_sem] theorem zJG:zao Tryz.prog 41 0=some (0,1):=by kernel_rfl
@[go_sem] theorem zKh:zaA Tryz.prog 41 0=0:=by kernel_rfl
@[go_sem] theorem zJF:zao Tryz.prog 41 1=some (1,1):=by kernel_rfl
@[go_sem] theorem zLs:zaA Tryz.prog 41 1=2:=by kernel_rfl
@[go_sem] theorem zMC:zao Tryz.prog 41 2=some (2,1):=by kernel_rfl
@[go_sem] theorem zL7:zaA Tryz.prog 41 2=3:=by kernel_rfl
@[go_sem] theorem zKg:zao Tryz.prog 41 3=some (3,3):=by kernel_rfl
@[go_sem] theorem zKT:zaA Tryz.prog 41 3=0:=by kernel_rfl
@[go_sem] theorem zSh:tk Tryz.prog 48=some (true,5):=by kernel_rfl
@[go_sem] theorem zSC:zr Tryz.prog 48=some [.int .i64 0,.sl true 1 [],.sl true 1 [],.int .i64 0,.bool false]:=by kernel_rfl
@[go_sem] theorem zQC:ezT Tryz.prog 48=0:=by kernel_rfl
@[go_sem] theorem zQM:zfa Tryz.prog 48=some (zao Tryz.prog 48,[.int .i64 0,.sl true 1 [],.sl true 1 [],.int .i64 0,.bool false]):=by kernel_rfl
@[go_sem] theorem zLf:zao Tryz.prog 48 0=some (0,1):=by kernel_rfl
@[go_sem] theorem zLB:zaA Tryz.prog 48 0=0:=by kernel_rfl
@[go_sem] theorem zMJ:zao Tryz.prog 48 1=some (1,1):=by kernel_rfl
@[go_sem] theorem zKM:zaA Tryz.prog 48 1=1:=by kernel_rfl
@[go_sem] theorem zLS:zao Tryz.prog 48 2=some (2,1):=by kernel_rfl
@[go_sem] theorem zJX:zaA Tryz.prog 48 2=1:=by kernel_rfl
@[go_sem] theorem zMl:zao Tryz.prog 48 3=some (3,1):=by kernel_rfl
@[go_sem] theorem zJH:zaA Tryz.prog 48 3=0:=by kernel_rfl
@[go_sem] theorem zJv:zao Tryz.prog 48 4=some (4,1):=by kernel_rfl
@[go_sem] theorem zMN:zaA Tryz.prog 48 4=0:=by kernel_rfl
@[go_sem] theorem zSd:tk Tryz.prog 52=some (true,5):=by kernel_rfl
@[go_sem] theorem zSM:zr Tryz.prog 52=some [.int .i64 0,.sl true 1 [],.sl true 1 [],.int .i64 0,.bool false]:=by kernel_rfl
@[go_sem] theorem zPM:ezT Tryz.prog 52=0:=by kernel_rfl
@[go_sem] theorem zRE:zfa Tryz.prog 52=some (zao Tryz.prog 52,[.int .i64 0,.sl true 1 [],.sl true 1 [],.int .i64 0,.bool false]):=by kernel_rfl
@[go_sem] theorem zJ7:zao Tryz.prog 52 0=some (0,1):=by kernel_rfl
@[go_sem] theorem zL5:zaA Tryz.prog 52 0=0:=by kernel_rfl
@[go_sem] theorem zMa:zao Tryz.prog 52 1=some (1,1):=by kernel_rfl
@[go_sem] theorem zJp:zaA Tryz.prog 52 1=1:=by kernel_rfl
@[go_sem] theorem zLl:zao Tryz.prog 52 2=some (2,1):=by kernel_rfl
@[go_sem] theorem zMw:zaA Tryz.prog 52 2=1:=by kernel_rfl
@[go_sem] theorem zMZ:zao Tryz.prog 52 3=some (3,1):=by kernel_rfl
@[go_sem] theorem zLk:zaA Tryz.prog 52 3=0:=by kernel_rfl
@[go_sem] theorem zKo:zao Tryz.prog 52 4=some (4,1):=by kernel_rfl
@[go_sem] theorem zKG:zaA Tryz.prog 52 4=0:=by kernel_rfl
@[go_sem] theorem zRW:tk Tryz.prog 56=some (false,1):=by kernel_rfl
@[go_sem] theorem zRV:zr Tryz.prog 56=some [.sl true 5 []]:=by kernel_rfl
@[go_sem] theorem zPs:ezT Tryz.prog 56=5:=by kernel_rfl
@[go_sem] theorem zQF:zat Tryz.prog 56=some 48:=by kernel_rfl
@[go_sem] theorem zPD:zay Tryz.prog 56=false:=by kernel_rfl
@[go_sem] theorem zQB:esz Tryz.prog 56=some 5:=by kernel_rfl
@[go_sem] theorem zSo:ez Tryz.prog 56=some (5,72,[.int .i64 0,.sl false 1 [],.sl false 1 [],.int .i64 0,.bool false]):=by kernel_rfl
@[go_sem] theorem zPA {i:Nat}:zaA Tryz.prog 56 i=0:=by kernel_rfl
@[go_sem] theorem zSb:tk Tryz.prog 60=some (false,1):=by kernel_rfl
@[go_sem] theorem zSf:zr Tryz.prog 60=some [.sl true 5 []]:=by kernel_rfl
@[go_sem] theorem zRn:ezT Tryz.prog 60=5:=by kernel_rfl
@[go_sem] theorem zRA:zat Tryz.prog 60=some 52:=by kernel_rfl
@[go_sem] theorem zRa:zay Tryz.prog 60=false:=by kernel_rfl
@[go_sem] theorem zRy:esz Tryz.prog 60=some 5:=by kernel_rfl
@[go_sem] theorem zSE:ez Tryz.prog 60=some (5,72,[.int .i64 0,.sl false 1 [],.sl false 1 [],.int .i64 0,.bool false]):=by kernel_rfl
@[go_sem] theorem zQ2 {i:Nat}:zaA Tryz.prog 60 i=0:=by kernel_rfl
@[go_sem] theorem zSI:tk Tryz.prog 72=some (false,1):=by kernel_rfl
@[go_sem] theorem zSv:zr Tryz.prog 72=some [.nilf]:=by kernel_rfl
@[go_sem] theorem zRh:ezT Tryz.prog 72=0:=by kernel_rfl
@[go_sem] theorem zSD:tk Tryz.prog 73=some (false,1):=by kernel_rfl
@[go_sem] theorem zSp:zr Tryz.prog 73=some [.nilf]:=by kernel_rfl
@[go_sem] theorem zQH:ezT Tryz.prog 73=0:=by kernel_rfl
@[go_sem] theorem zSw:tk Tryz.prog 81=some (true,2):=by kernel_rfl
@[go_sem] theorem zSl:zr Tryz.prog 81=some [.int .i64 0,.int .i64 0]:=by kernel_rfl
@[go_sem] theorem zQs:ezT Tryz.prog 81=0:=by kernel_rfl
@[go_sem] theorem zQY:zfa Tryz.prog 81=some (zao Tryz.prog 81,[.int .i64 0,.int .i64 0]):=by kernel_rfl
@[go_sem] theorem zMx:zao Tryz.prog 81 0=some (0,1):=by kernel_rfl
@[go_sem] theorem zJ5:zaA Tryz.prog 81 0=0:=by kernel_rfl
@[go_sem] theorem zJ3:zao Tryz.prog 81 1=some (1,1):=by kernel_rfl
@[go_sem] theorem zKz:zaA Tryz.prog 81 1=0:=by kernel_rfl
@[go_sem] theorem zR3:tk Tryz.prog 85=some (false,1):=by kernel_rfl
@[go_sem] theorem zR1:zr Tryz.prog 85=some [.sl true 4 []]:=by kernel_rfl
@[go_sem] theorem zPt:ezT Tryz.prog 85=4:=by kernel_rfl
@[go_sem] theorem zRv:zat Tryz.prog 85=some 117:=by kernel_rfl
@[go_sem] theorem zQ1:zay Tryz.prog 85=false:=by kernel_rfl
@[go_sem] theorem zRb:esz Tryz.prog 85=some 4:=by kernel_rfl
@[go_sem] theorem zRS:ez Tryz.prog 85=some (4,32,[.int .i64 0,.int .i64 0,.int .i64 0,.int .i64 0]):=by kernel_rfl
@[go_sem] theorem zRd {i:Nat}:zaA Tryz.prog 85 i=0:=by kernel_rfl
@[go_sem] theorem zRI:tk Tryz.prog 105=some (false,1):=by kernel_rfl
@[go_sem] theorem zQU:zr Tryz.prog 105=some [.sl true 1 []]:=by kernel_rfl
@[go_sem] theorem zNM:ezT Tryz.prog 105=1:=by kernel_rfl
@[go_sem] theorem zNl:zat Tryz.prog 105=some 26:=by kernel_rfl
@[go_sem] theorem zNs:zay Tryz.prog 105=false:=by kernel_rfl
@[go_sem] theorem zOE:esz Tryz.prog 105=some 1:=by kernel_rfl
@[go_sem] theorem zRL:ez Tryz.prog 105=some (1,24,[.sl false 1 []]):=by kernel_rfl
@[go_sem] theorem zPf {i:Nat}:zaA Tryz.prog 105 i=1:=by kernel_rfl
@[go_sem] theorem zPy:tk Tryz.prog 117=some (true,4):=by kernel_rfl
@[go_sem] theorem zPu:zr Tryz.prog 117=some [.int .i64 0,.int .i64 0,.int .i64 0,.int .i64 0]:=by kernel_rfl
@[go_sem] theorem zNq:ezT Tryz.prog 117=0:=by kernel_rfl
@[go_sem] theorem zOx:zfa Tryz.prog 117=some (zao Tryz.prog 117,[.int .i64 0,.int .i64 0,.int .i64 0,.int .i64 0]):=by kernel_rfl
@[go_sem] theorem zIf:zao Tryz.prog 117 0=some (0,1):=by kernel_rfl
@[go_sem] theorem zHE:zaA Tryz.prog 117 0=0:=by kernel_rfl
@[go_sem] theorem zJg:zao Tryz.prog 117 1=some (1,1):=by kernel_rfl
@[go_sem] theorem zFL:zaA Tryz.prog 117 1=0:=by kernel_rfl
@[go_sem] theorem zHj:zao Tryz.prog 117 2=some (2,1):=by kernel_rfl
@[go_sem] theorem zFM:zaA Tryz.prog 117 2=0:=by kernel_rfl
@[go_sem] theorem zHe:zao Tryz.prog 117 3=some (3,1):=by kernel_rfl
@[go_sem] theorem zG6:zaA Tryz.prog 117 3=0:=by kernel_rfl
@[go_sem] theorem zPv:tk Tryz.prog 141=some (false,1):=by kernel_rfl
@[go_sem] theorem zRq:zr Tryz.prog 141=some [.int .u64 0]:=by kernel_rfl
@[go_sem] theorem zOb:ezT Tryz.prog 141=0:=by kernel_rfl
@[go_sem] theorem zNR:zde Tryz.prog 141=some .u64:=by kernel_rfl
@[go_sem] theorem zOO:zay Tryz.prog 141=false:=by kernel_rfl
@[go_sem] theorem zPP:tk Tryz.prog 146=some (false,1):=by kernel_rfl
@[go_sem] theorem zPB:zr Tryz.prog 146=some [.nilf]:=by kernel_rfl
@[go_sem] theorem zPc:ezT Tryz.prog 146=0:=by kernel_rfl
@[go_sem] theorem zRR:tk Tryz.prog 151=some (false,1):=by kernel_rfl
@[go_sem] theorem zRr:zr Tryz.prog 151=some [.sl true 1 []]:=by kernel_rfl
@[go_sem] theorem zNF:ezT Tryz.prog 151=1:=by kernel_rfl
@[go_sem] theorem zNh:zat Tryz.prog 151=some 5:=by kernel_rfl
@[go_sem] theorem zOk:zay Tryz.prog 151=false:=by kernel_rfl
@[go_sem] theorem zOy:esz Tryz.prog 151=some 1:=by kernel_rfl
@[go_sem] theorem zOr:zhd Tryz.prog 151=true:=by kernel_rfl
@[go_sem] theorem zQb:ez Tryz.prog 151=some (1,1,[.int .u8 0]):=by kernel_rfl
@[go_sem] theorem zNG {i:Nat}:zaA Tryz.prog 151 i=0:=by kernel_rfl
@[go_sem] theorem zP3:tk Tryz.prog 159=some (false,1):=by kernel_rfl
@[go_sem] theorem zPx:zr Tryz.prog 159=some [.nilp]:=by kernel_rfl
@[go_sem] theorem zOC:ezT Tryz.prog 159=0:=by kernel_rfl
@[go_sem] theorem zPQ:tk Tryz.prog 161=some (true,2):=by kernel_rfl
@[go_sem] theorem zPH:zr Tryz.prog 161=some [.int .i64 0,.int .i64 0]:=by kernel_rfl
@[go_sem] theorem zN4:ezT Tryz.prog 161=0:=by kernel_rfl
@[go_sem] theorem zNV:zfa Tryz.prog 161=some (zao Tryz.prog 161,[.int .i64 0,.int .i64 0]):=by kernel_rfl
@[go_sem] theorem zFj:zao Tryz.prog 161 0=some (0,1):=by kernel_rfl
@[go_sem] theorem zHR:zaA Tryz.prog 161 0=0:=by kernel_rfl
@[go_sem] theorem zJd:zao Tryz.prog 161 1=some (1,1):=by kernel_rfl
@[go_sem] theorem zGg:zaA Tryz.prog 161 1=0:=by kernel_rfl
@[go_sem] theorem zRk:tk Tryz.prog 164=some (true,24):=by kernel_rfl
@[go_sem] theorem zQ8:zr Tryz.prog 164=some [.int .u8 0,.int .u8 0,.int .u8 0,.int .u8 0,.int .u8 0,.int .u8 0,.int .u8 0,.int .u8 0,.int .u8 0,.int .u8 0,.int .u8 0,.int .u8 0,.int .u8 0,.int .u8 0,.int .u8 0,.int .u8 0,.int .u8 0,.int .u8 0,.int .u8 0,.int .u8 0,.int .u8 0,.int .u8 0,.int .u8 0,.int .u8 0]:=by kernel_rfl
@[go_sem] theorem zPg:ezT Tryz.prog 164=0:=by kernel_rfl
@[go_sem] theorem zPd:esz Tryz.prog 164=none:=by kernel_rfl
@[go_sem] theorem zNU:asz Tryz.prog 164=some (24,1):=by kernel_rfl
@[go_sem] theorem zO3 {i:Nat}:zaA Tryz.prog 164 i=0:=by kernel_rfl
@[go_sem] theorem zN3:zfa Tryz.prog 164=some (fun i=>some (i*1,1),[.int .u8 0,.int .u8 0,.int .u8 0,.int .u8 0,.int .u8 0,.int .u8 0,.int .u8 0,.int .u8 0,.int .u8 0,.int .u8 0,.int .u8 0,.int .u8 0,.int .u8 0,.int .u8 0,.int .u8 0,.int .u8 0,.int .u8 0,.int .u8 0,.int .u8 0,.int .u8 0,.int .u8 0,.int .u8 0,.int .u8 0,.int .u8 0]):=by kernel_rfl
@[go_sem] theorem zQI:tk Tryz.prog 165=some (false,1):=by kernel_rfl
@[go_sem] theorem zRN:zr Tryz.prog 165=some [.int .u64 0]:=by kernel_rfl
@[go_sem] theorem zNy:ezT Tryz.prog 165=0:=by kernel_rfl
@[go_sem] theorem zO4:zde Tryz.prog 165=some .u64:=by kernel_rfl
@[go_sem] theorem zPh:zay Tryz.prog 165=false:=by kernel_rfl
@[go_sem] theorem zP4:tk Tryz.prog 173=some (true,20):=by kernel_rfl
@[go_sem] theorem zPz:zr Tryz.prog 173=some [.int .u64 0,.int .u64 0,.int .u64 0,.int .u64 0,.int .u64 0,.int .u64 0,.int .u64 0,.int .u64 0,.int .u64 0,.int .u64 0,.int .u64 0,.int .u64 0,.int .u64 0,.int .u64 0,.int .u64 0,.int .u64 0,.int .u64 0,.int .u64 0,.int .u64 0,.int .u64 0]:=by kernel_rfl
@[go_sem] theorem zNI:ezT Tryz.prog 173=0:=by kernel_rfl
@[go_sem] theorem zNx:esz Tryz.prog 173=none:=by kernel_rfl
@[go_sem] theorem zPj:asz Tryz.prog 173=some (20,1):=by kernel_rfl
@[go_sem] theorem zOg {i:Nat}:zaA Tryz.prog 173 i=0:=by kernel_rfl
@[go_sem] theorem zOL:zfa Tryz.prog 173=some (fun i=>some (i*1,1),[.int .u64 0,.int .u64 0,.int .u64 0,.int .u64 0,.int .u64 0,.int .u64 0,.int .u64 0,.int .u64 0,.int .u64 0,.int .u64 0,.int .u64 0,.int .u64 0,.int .u64 0,.int .u64 0,.int .u64 0,.int .u64 0,.int .u64 0,.int .u64 0,.int .u64 0,.int .u64 0]):=by kernel_rfl
@[go_sem] theorem zQn:tk Tryz.prog 174=some (false,1):=by kernel_rfl
@[go_sem] theorem zP5:zr Tryz.prog 174=some [.int .u32 0]:=by kernel_rfl
@[go_sem] theorem zNZ:ezT Tryz.prog 174=0:=by kernel_rfl
@[go_sem] theorem zO1:zde Tryz.prog 174=some .u32:=by kernel_rfl
@[go_sem] theorem zOc:zay Tryz.prog 174=false:=by kernel_rfl
@[go_sem] theorem zQD:tk Tryz.prog 175=some (true,65):=by kernel_rfl
@[go_sem] theorem zPm:zr Tryz.prog 175=some [.int .u8 0,.int .u8 0,.int .u8 0,.int .u8 0,.int .u8 0,.int .u8 0,.int .u8 0,.int .u8 0,.int .u8 0,.int .u8 0,.int .u8 0,.int .u8 0,.int .u8 0,.int .u8 0,.int .u8 0,.int .u8 0,.int .u8 0,.int .u8 0,.int .u8 0,.int .u8 0,.int .u8 0,.int .u8 0,.int .u8 0,.int .u8 0,.int .u8 0,.int .u8 0,.int .u8 0,.int .u8 0,.int .u8 0,.int .u8 0,.int .u8 0,.int .u8 0,.int .u8 0,.int .u8 0,.int .u8 0,.int .u8 0,.int .u8 0,.int .u8 0,.int .u8 0,.int .u8 0,.int .u8 0,.int .u8 0,.int .u8 0,.int .u8 0,.int .u8 0,.int .u8 0,.int .u8 0,.int .u8 0,.int .u8 0,.int .u8 0,.int .u8 0,.int .u8 0,.int .u8 0,.int .u8 0,.int .u8 0,.int .u8 0,.int .u8 0,.int .u8 0,.int .u8 0,.int .u8 0,.int .u8 0,.int .u8 0,.int .u8 0,.int .u8 0,.int .u8 0]:=by kernel_rfl
@[go_sem] theorem zPl:ezT Tryz.prog 175=0:=by kernel_rfl
@[go_sem] theorem zNW:esz Tryz.prog 175=none:=by kernel_rfl
@[go_sem] theorem zOY:asz Tryz.prog 175=some (65,1):=by kernel_rfl
@[go_sem] theorem zN1 {i:Nat}:zaA Tryz.prog 175 i=0:=by kernel_rfl
@[go_sem] theorem zNA:zfa Tryz.prog 175=some (fun i=>some (i*1,1),[.int .u8 0,.int .u8 0,.int .u8 0,.int .u8 0,.int .u8 0,.int .u8 0,.int .u8 0,.int .u8 0,.int .u8 0,.int .u8 0,.int .u8 0,.int .u8 0,.int .u8 0,.int .u8 0,.int .u8 0,.int .u8 0,.int .u8 0,.int .u8 0,.int .u8 0,.int .u8 0,.int .u8 0,.int .u8 0,.int .u8 0,.int .u8 0,.int .u8 0,.int .u8 0,.int .u8 0,.int .u8 0,.int .u8 0,.int .u8 0,.int .u8 0,.int .u8 0,.int .u8 0,.int .u8 0,.int .u8 0,.int .u8 0,.int .u8 0,.int .u8 0,.int .u8 0,.int .u8 0,.int .u8 0,.int .u8 0,.int .u8 0,.int .u8 0,.int .u8 0,.int .u8 0,.int .u8 0,.int .u8 0,.int .u8 0,.int .u8 0,.int .u8 0,.int .u8 0,.int .u8 0,.int .u8 0,.int .u8 0,.int .u8 0,.int .u8 0,.int .u8 0,.int .u8 0,.int .u8 0,.int .u8 0,.int .u8 0,.int .u8 0,.int .u8 0,.int .u8 0]):=by kernel_rfl
@[go_sem] theorem zPF:tk Tryz.prog 178=some (true,32):=by kernel_rfl
@[go_sem] theorem zQy:zr Tryz.prog 178=some [.int .u8 0,.int .u8 0,.int .u8 0,.int .u8 0,.int .u8 0,.int .u8 0,.int .u8 0,.int .u8 0,.int .u8 0,.int .u8 0,.int .u8 0,.int .u8 0,.int .u8 0,.int .u8 0,.int .u8 0,.int .u8 0,.int .u8 0,.int .u8 0,.int .u8 0,.int .u8 0,.int .u8 0,.int .u8 0,.int .u8 0,.int .u8 0,.int .u8 0,.int .u8 0,.int .u8 0,.int .u8 0,.int .u8 0,.int .u8 0,.int .u8 0,.int .u8 0]:=by kernel_rfl
@[go_sem] theorem zOF:ezT Tryz.prog 178=0:=by kernel_rfl
@[go_sem] theorem zOv:esz Tryz.prog 178=none:=by kernel_rfl
@[go_sem] theorem zN2:asz Tryz.prog 178=some (32,1):=by kernel_rfl
@[go_sem] theorem zOQ {i:Nat}:zaA Tryz.prog 178 i=0:=by kernel_rfl
@[go_sem] theorem zNY:zfa Tryz.prog 178=some (fun i=>some (i*1,1),[.int .u8 0,.int .u8 0,.int .u8 0,.int .u8 0,.int .u8 0,.int .u8 0,.int .u8 0,.int .u8 0,.int .u8 0,.int .u8 0,.int .u8 0,.int .u8 0,.int .u8 0,.int .u8 0,.int .u8 0,.int .u8 0,.int .u8 0,.int .u8 0,.int .u8 0,.int .u8 0,.int .u8 0,.int .u8 0,.int .u8 0,.int .u8 0,.int .u8 0,.int .u8 0,.int .u8 0,.int .u8 0,.int .u8 0,.int .u8 0,.int .u8 0,.int .u8 0]):=by kernel_rfl
@[go_sem] theorem zQv:tk Tryz.prog 179=some (true,64):=by kernel_rfl
@[go_sem] theorem zPS:zr Tryz.prog 179=some [.int .u8 0,.int .u8 0,.int .u8 0,.int .u8 0,.int .u8 0,.int .u8 0,.int .u8 0,.int .u8 0,.int .u8 0,.int .u8 0,.int .u8 0,.int .u8 0,.int .u8 0,.int .u8 0,.int .u8 0,.int .u8 0,.int .u8 0,.int .u8 0,.int .u8 0,.int .u8 0,.int .u8 0,.int .u8 0,.int .u8 0,.int .u8 0,.int .u8 0,.int .u8 0,.int .u8 0,.int .u8 0,.int .u8 0,.int .u8 0,.int .u8 0,.int .u8 0,.int .u8 0,.int .u8 0,.int .u8 0,.int .u8 0,.int .u8 0,.int .u8 0,.int .u8 0,.int .u8 0,.int .u8 0,.int .u8 0,.int .u8 0,.int .u8 0,.int .u8 0,.int .u8 0,.int .u8 0,.int .u8 0,.int .u8 0,.int .u8 0,.int .u8 0,.int .u8 0,.int .u8 0,.int .u8 0,.int .u8 0,.int .u8 0,.int .u8 0,.int .u8 0,.int .u8 0,.int .u8 0,.int .u8 0,.int .u8 0,.int .u8 0,.int .u8 0]:=by kernel_rfl
@[go_sem] theorem zNj:ezT Tryz.prog 179=0:=by kernel_rfl
@[go_sem] theorem zN6:esz Tryz.prog 179=none:=by kernel_rfl
@[go_sem] theorem zNg:asz Tryz.prog 179=some (64,1):=by kernel_rfl
@[go_sem] theorem zO2 {i:Nat}:zaA Tryz.prog 179 i=0:=by kernel_rfl
@[go_sem] theorem zOB:zfa Tryz.prog 179=some (fun i=>some (i*1,1),[.int .u8 0,.int .u8 0,.int .u8 0,.int .u8 0,.int .u8 0,.int .u8 0,.int .u8 0,.int .u8 0,.int .u8 0,.int .u8 0,.int .u8 0,.int .u8 0,.int .u8 0,.int .u8 0,.int .u8 0,.int .u8 0,.int .u8 0,.int .u8 0,.int .u8 0,.int .u8 0,.int .u8 0,.int .u8 0,.int .u8 0,.int .u8 0,.int .u8 0,.int .u8 0,.int .u8 0,.int .u8 0,.int .u8 0,.int .u8 0,.int .u8 0,.int .u8 0,.int .u8 0,.int .u8 0,.int .u8 0,.int .u8 0,.int .u8 0,.int .u8 0,.int .u8 0,.int .u8 0,.int .u8 0,.int .u8 0,.int .u8 0,.int .u8 0,.int .u8 0,.int .u8 0,.int .u8 0,.int .u8 0,.int .u8 0,.int .u8 0,.int .u8 0,.int .u8 0,.int .u8 0,.int .u8 0,.int .u8 0,.int .u8 0,.int .u8 0,.int .u8 0,.int .u8 0,.int .u8 0,.int .u8 0,.int .u8 0,.int .u8 0,.int .u8 0]):=by kernel_rfl
theorem follows:Tryz.prog.follows .mixedOrders=true:=by kernel_rfl
theorem cl6:zac Tryz.prog 6:=fun args w=>Tryz.call6 args w
theorem cl7:zac Tryz.prog 7:=fun args w=>Tryz.call7 args w
theorem cl8:zac Tryz.prog 8:=fun args w=>Tryz.call8 args w
theorem cl9:zac Tryz.prog 9:=fun args w=>Tryz.call9 args w
theorem zJj:zac Tryz.prog 10:=fun args w=>Tryz.call10 args w
theorem zGu:zac Tryz.prog 11:=fun args w=>Tryz.call11 args w
theorem zI9:zac Tryz.prog 12:=fun args w=>Tryz.call12 args w
theorem zHD:zac Tryz.prog 13:=fun args w=>Tryz.call13 args w
theorem zGh:zac Tryz.prog 14:=fun args w=>Tryz.call14 args w
theorem zFf:zac Tryz.prog 16:=fun args w=>Tryz.call16 args w
theorem zIe:zac Tryz.prog 19:=fun args w=>Tryz.call19 args w
theorem zH5:zac Tryz.prog 20:=fun args w=>Tryz.call20 args w
theorem zID:zac Tryz.prog 21:=fun args w=>Tryz.call21 args w
theorem zIC:zac Tryz.prog 22:=fun args w=>Tryz.call22 args w
theorem zHG:zac Tryz.prog 23:=fun args w=>Tryz.call23 args w
theorem zFl:zac Tryz.prog 24:=fun args w=>Tryz.call24 args w
theorem zIE:zac Tryz.prog 25:=fun args w=>Tryz.call25 args w
theorem zGD:zac Tryz.prog 26:=fun args w=>Tryz.call26 args w
theorem zGH:zac Tryz.prog 27:=fun args w=>Tryz.call27 args w
theorem zFa:zac Tryz.prog 28:=fun args w=>Tryz.call28 args w
theorem zGz:zac Tryz.prog 29:=fun args w=>Tryz.call29 args w
theorem zIw:zac Tryz.prog 30:=fun args w=>Tryz.call30 args w
theorem zFg:zac Tryz.prog 31:=fun args w=>Tryz.call31 args w
theorem zF4:zac Tryz.prog 32:=fun args w=>Tryz.call32 args w
theorem zHs:zac Tryz.prog 33:=fun args w=>Tryz.call33 args w
theorem zI5:zac Tryz.prog 34:=fun args w=>Tryz.call34 args w
theorem zHb:zac Tryz.prog 35:=fun args w=>Tryz.call35 args w
theorem zG3:zac Tryz.prog 36:=fun args w=>Tryz.call36 args w
theorem zF2:zac Tryz.prog 37:=fun args w=>Tryz.call37 args w
theorem zGl:zac Tryz.prog 38:=fun args w=>Tryz.call38 args w
theorem zFU:zac Tryz.prog 39:=fun args w=>Tryz.call39 args w
theorem zHZ:zac Tryz.prog 40:=fun args w=>Tryz.call40 args w
theorem zIa:zac Tryz.prog 41:=fun args w=>Tryz.call41 args w
theorem zG1:zac Tryz.prog 42:=fun args w=>Tryz.call42 args w
theorem zGE:zac Tryz.prog 43:=fun args w=>Tryz.call43 args w
theorem zHT:zac Tryz.prog 44:=fun args w=>Tryz.call44 args w
theorem zIL:zac Tryz.prog 45:=fun args w=>Tryz.call45 args w
theorem zHW:zac Tryz.prog 46:=fun args w=>Tryz.call46 args w
theorem zHt:zac Tryz.prog 47:=fun args w=>Tryz.call47 args w
theorem zFo:zac Tryz.prog 48:=fun args w=>Tryz.call48 args w
theorem zG8:zac Tryz.prog 49:=fun args w=>Tryz.call49 args w
theorem zFn:zac Tryz.prog 50:=fun args w=>Tryz.call50 args w
theorem zGT:zac Tryz.prog 51:=fun args w=>Tryz.call51 args w
theorem zFH:zac Tryz.prog 52:=fun args w=>Tryz.call52 args w
theorem zGr:zac Tryz.prog 53:=fun args w=>Tryz.call53 args w
theorem zH7:zac Tryz.prog 54:=fun args w=>Tryz.call54 args w
theorem zII:zac Tryz.prog 55:=fun args w=>Tryz.call55 args w
theorem zFv:zac Tryz.prog 56:=fun args w=>Tryz.call56 args w
theorem zHQ:zac Tryz.prog 66:=fun args w=>Tryz.call66 args w
theorem zGo:zac Tryz.prog 67:=fun args w=>Tryz.call67 args w
theorem zIy:zac Tryz.prog 68:=fun args w=>Tryz.call68 args w
theorem zHI:zac Tryz.prog 69:=fun args w=>Tryz.call69 args w
theorem zFc:zac Tryz.prog 70:=fun args w=>Tryz.call70 args w
theorem zFz:zac Tryz.prog 71:=fun args w=>Tryz.call71 args w
theorem zIj:zac Tryz.prog 72:=fun args w=>Tryz.call72 args w
theorem zIo:zac Tryz.prog 73:=fun args w=>Tryz.call73 args w
theorem zH2:zac Tryz.prog 74:=fun args w=>Tryz.call74 args w
theorem zFA:zac Tryz.prog 75:=fun args w=>Tryz.call75 args w
theorem zHN:zac Tryz.prog 76:=fun args w=>Tryz.call76 args w
theorem zFJ:zac Tryz.prog 77:=fun args w=>Tryz.call77 args w
theorem zHx:zac Tryz.prog 78:=fun args w=>Tryz.call78 args w
theorem zIR:zac Tryz.prog 79:=fun args w=>Tryz.call79 args w
theorem zJc:zac Tryz.prog 80:=fun args w=>Tryz.call80 args w
theorem zIJ:zac Tryz.prog 81:=fun args w=>Tryz.call81 args w
theorem zF7:zac Tryz.prog 82:=fun args w=>Tryz.call82 args w
theorem zG2:zac Tryz.prog 83:=fun args w=>Tryz.call83 args w
theorem zF5:zac Tryz.prog 84:=fun args w=>Tryz.call84 args w
theorem zG4:zac Tryz.prog 85:=fun args w=>Tryz.call85 args w
theorem zI8:zac Tryz.prog 86:=fun args w=>Tryz.call86 args w
theorem zIx:zac Tryz.prog 87:=fun args w=>Tryz.call87 args w
theorem zGf:zac Tryz.prog 88:=fun args w=>Tryz.call88 args w
theorem zGX:zac Tryz.prog 89:=fun args w=>Tryz.call89 args w
theorem zFX:zac Tryz.prog 90:=fun args w=>Tryz.call90 args w
theorem zH0:zac Tryz.prog 91:=fun args w=>Tryz.call91 args w
theorem zIG:zac Tryz.prog 92:=fun args w=>Tryz.call92 args w
theorem zHH:zac Tryz.prog 93:=fun args w=>Tryz.call93 args w
theorem zF3:zac Tryz.prog 94:=fun args w=>Tryz.call94 args w
theorem zGQ:zac Tryz.prog 95:=fun args w=>Tryz.call95 args w
theorem zqg:zac Tryz.prog 96:=fun args w=>Tryz.call96 args w
theorem zGe:zac Tryz.prog 97:=fun args w=>Tryz.call97 args w
theorem zHp:zac Tryz.prog 98:=fun args w=>Tryz.call98 args w
theorem zHn:zac Tryz.prog 99:=fun args w=>Tryz.call99 args w
theorem zDt:zac Tryz.prog 100:=fun args w=>Tryz.call100 args w
theorem zCH:zac Tryz.prog 101:=fun args w=>Tryz.call101 args w
theorem zAX:zac Tryz.prog 102:=fun args w=>Tryz.call102 args w
theorem zB0:zac Tryz.prog 103:=fun args w=>Tryz.call103 args w
theorem zCM:zac Tryz.prog 104:=fun args w=>Tryz.call104 args w
theorem zxi:zac Tryz.prog 105:=fun args w=>Tryz.call105 args w
theorem zCl:zac Tryz.prog 106:=fun args w=>Tryz.call106 args w
theorem zDw:zac Tryz.prog 107:=fun args w=>Tryz.call107 args w
theorem zBp:zac Tryz.prog 108:=fun args w=>Tryz.call108 args w
theorem zCX:zac Tryz.prog 109:=fun args w=>Tryz.call109 args w
theorem zCi:zac Tryz.prog 110:=fun args w=>Tryz.call110 args w
theorem zBv:zac Tryz.prog 111:=fun args w=>Tryz.call111 args w
theorem zBt:zac Tryz.prog 112:=fun args w=>Tryz.call112 args w
theorem zDz:zac Tryz.prog 113:=fun args w=>Tryz.call113 args w
theorem zBF:zac Tryz.prog 114:=fun args w=>Tryz.call114 args w
theorem zBk:zac Tryz.prog 116:=fun args w=>Tryz.call116 args w
theorem zCT:zac Tryz.prog 117:=fun args w=>Tryz.call117 args w
theorem zDF:zac Tryz.prog 118:=fun args w=>Tryz.call118 args w
theorem zCY:zac Tryz.prog 119:=fun args w=>Tryz.call119 args w
theorem zBr:zac Tryz.prog 120:=fun args w=>Tryz.call120 args w
theorem zCE:zac Tryz.prog 121:=fun args w=>Tryz.call121 args w
theorem zCx:zac Tryz.prog 122:=fun args w=>Tryz.call122 args w
theorem zDk:zac Tryz.prog 123:=fun args w=>Tryz.call123 args w
theorem zDJ:zac Tryz.prog 124:=fun args w=>Tryz.call124 args w
theorem zCk:zac Tryz.prog 125:=fun args w=>Tryz.call125 args w
theorem zBl:zac Tryz.prog 126:=fun args w=>Tryz.call126 args w
theorem zCP:zac Tryz.prog 127:=fun args w=>Tryz.call127 args w
theorem zBG:zac Tryz.prog 128:=fun args w=>Tryz.call128 args w
theorem zDI:zac Tryz.prog 129:=fun args w=>Tryz.call129 args w
theorem zCO:zac Tryz.prog 130:=fun args w=>Tryz.call130 args w
theorem zBX:zac Tryz.prog 131:=fun args w=>Tryz.call131 args w
theorem zBy:zac Tryz.prog 132:=fun args w=>Tryz.call132 args w
theorem zDd:zac Tryz.prog 133:=fun args w=>Tryz.call133 args w
theorem zBC:zac Tryz.prog 134:=fun args w=>Tryz.call134 args w
theorem zDL:zac Tryz.prog 135:=fun args w=>Tryz.call135 args w
theorem zBU:zac Tryz.prog 136:=fun args w=>Tryz.call136 args w
theorem zCv:zac Tryz.prog 137:=fun args w=>Tryz.call137 args w
theorem zCg:zac Tryz.prog 138:=fun args w=>Tryz.call138 args w
theorem zCz:zac Tryz.prog 139:=fun args w=>Tryz.call139 args w
theorem zDc:zac Tryz.prog 140:=fun args w=>Tryz.call140 args w
theorem zA8:zac Tryz.prog 141:=fun args w=>Tryz.call141 args w
theorem zAY:zac Tryz.prog 142:=fun args w=>Tryz.call142 args w
theorem zDy:zac Tryz.prog 143:=fun args w=>Tryz.call143 args w
theorem zni:zac Tryz.prog 144:=fun args w=>Tryz.call144 args w
theorem zns:zac Tryz.prog 145:=fun args w=>Tryz.call145 args w
theorem zCN:zac Tryz.prog 146:=fun args w=>Tryz.call146 args w
theorem zBo:zac Tryz.prog 147:=fun args w=>Tryz.call147 args w
theorem zDC:zac Tryz.prog 149:=fun args w=>Tryz.call149 args w
theorem zBE:zac Tryz.prog 150:=fun args w=>Tryz.call150 args w
theorem zCo:zac Tryz.prog 151:=fun args w=>Tryz.call151 args w
theorem zBm:zac Tryz.prog 152:=fun args w=>Tryz.call152 args w
theorem zA7:zac Tryz.prog 153:=fun args w=>Tryz.call153 args w
theorem zDa:zac Tryz.prog 154:=fun args w=>Tryz.call154 args w
theorem zB1:zac Tryz.prog 155:=fun args w=>Tryz.call155 args w
theorem zBf:zac Tryz.prog 156:=fun args w=>Tryz.call156 args w
theorem zBa:zac Tryz.prog 157:=fun args w=>Tryz.call157 args w
theorem zBR:zac Tryz.prog 158:=fun args w=>Tryz.call158 args w
theorem zDx:zac Tryz.prog 159:=fun args w=>Tryz.call159 args w
theorem zDK:zac Tryz.prog 160:=fun args w=>Tryz.call160 args w
theorem zA9:zac Tryz.prog 161:=fun args w=>Tryz.call161 args w
theorem zCU:zac Tryz.prog 162:=fun args w=>Tryz.call162 args w
theorem zBe:zac Tryz.prog 163:=fun args w=>Tryz.call163 args w
theorem zA6:zac Tryz.prog 164:=fun args w=>Tryz.call164 args w
theorem zBZ:zac Tryz.prog 165:=fun args w=>Tryz.call165 args w
theorem zCW:zac Tryz.prog 166:=fun args w=>Tryz.call166 args w
theorem zBM:zac Tryz.prog 167:=fun args w=>Tryz.call167 args w
theorem zCt:zac Tryz.prog 168:=fun args w=>Tryz.call168 args w
theorem zBs:zac Tryz.prog 169:=fun args w=>Tryz.call169 args w
theorem znj:zac Tryz.prog 170:=fun args w=>Tryz.call170 args w
theorem zDp:zac Tryz.prog 171:=fun args w=>Tryz.call171 args w
theorem zDs:zac Tryz.prog 172:=fun args w=>Tryz.call172 args w
theorem zDh:zac Tryz.prog 174:=fun args w=>Tryz.call174 args w
theorem zCV:zac Tryz.prog 175:=fun args w=>Tryz.call175 args w
theorem zA0:zac Tryz.prog 176:=fun args w=>Tryz.call176 args w
theorem zDi:zac Tryz.prog 177:=fun args w=>Tryz.call177 args w
theorem zCc:zac Tryz.prog 178:=fun args w=>Tryz.call178 args w
theorem zCj:zac Tryz.prog 179:=fun args w=>Tryz.call179 args w
theorem zBV:zac Tryz.prog 180:=fun args w=>Tryz.call180 args w
theorem zCI:zac Tryz.prog 181:=fun args w=>Tryz.call181 args w
theorem zBg:zac Tryz.prog 182:=fun args w=>Tryz.call182 args w
theorem zDA:zac Tryz.prog 187:=fun args w=>Tryz.call187 args w
theorem zDr:zac Tryz.prog 188:=fun args w=>Tryz.call188 args w
end Go.Pm
