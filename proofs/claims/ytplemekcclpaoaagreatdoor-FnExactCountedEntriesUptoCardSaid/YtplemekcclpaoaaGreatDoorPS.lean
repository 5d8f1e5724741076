import Derived.Test.YtplemekcclpaoaaGreatDoorPmW
import Derived.Test.YtplemekcclpaoaaGreatDoorProg
import Derived.KernelRfl
namespace Go.Pm
open Go.Am
open Go.Proofs
set_option maxRecDepth 100000
variable{i:Nat}
@[go_sem] theorem tk2:tk Tryz.prog 2=some (false,1):=by kernel_rfl
@[go_sem] theorem zr2:zr Tryz.prog 2=some [.int .i64 0]:=by kernel_rfl
@[go_sem] theorem zVx:ezT Tryz.prog 2=0:=by kernel_rfl
@[go_sem] theorem zWf:zde Tryz.prog 2=some .i64:=by kernel_rfl
@[go_sem] theorem zWl:zaE Tryz.prog 2=false:=by kernel_rfl
@[go_sem] theorem tk3:tk Tryz.prog 3=some (false,1):=by kernel_rfl
@[go_sem] theorem zr3:zr Tryz.prog 3=some [.int .i64 0]:=by kernel_rfl
@[go_sem] theorem zV5:ezT Tryz.prog 3=0:=by kernel_rfl
@[go_sem] theorem zWo:zde Tryz.prog 3=some .i64:=by kernel_rfl
@[go_sem] theorem zV2:zaE Tryz.prog 3=false:=by kernel_rfl
@[go_sem] theorem tk4:tk Tryz.prog 4=some (false,1):=by kernel_rfl
@[go_sem] theorem zr4:zr Tryz.prog 4=some [.bool false]:=by kernel_rfl
@[go_sem] theorem zVP:ezT Tryz.prog 4=0:=by kernel_rfl
@[go_sem] theorem zV9:zix Tryz.prog 4=true:=by kernel_rfl
@[go_sem] theorem tk5:tk Tryz.prog 5=some (false,1):=by kernel_rfl
@[go_sem] theorem zr5:zr Tryz.prog 5=some [.int .u8 0]:=by kernel_rfl
@[go_sem] theorem zWm:ezT Tryz.prog 5=0:=by kernel_rfl
@[go_sem] theorem zVY:zde Tryz.prog 5=some .u8:=by kernel_rfl
@[go_sem] theorem zVZ:zaE Tryz.prog 5=false:=by kernel_rfl
@[go_sem] theorem tk9:tk Tryz.prog 9=some (false,1):=by kernel_rfl
@[go_sem] theorem zr9:zr Tryz.prog 9=some [.str ⟨#[]⟩]:=by kernel_rfl
@[go_sem] theorem zVv:ezT Tryz.prog 9=0:=by kernel_rfl
@[go_sem] theorem zV1:zaE Tryz.prog 9=true:=by kernel_rfl
@[go_sem] theorem zWa:tk Tryz.prog 20=some (false,1):=by kernel_rfl
@[go_sem] theorem zVy:zr Tryz.prog 20=some [.nili]:=by kernel_rfl
@[go_sem] theorem zTE:ezT Tryz.prog 20=0:=by kernel_rfl
@[go_sem] theorem zWi:tk Tryz.prog 23=some (true,3):=by kernel_rfl
@[go_sem] theorem zWg:zr Tryz.prog 23=some [.int .i64 0,.int .i64 0,.int .i64 0]:=by kernel_rfl
@[go_sem] theorem zU3:ezT Tryz.prog 23=0:=by kernel_rfl
@[go_sem] theorem zU7:zdu Tryz.prog 23=some (zah Tryz.prog 23,[.int .i64 0,.int .i64 0,.int .i64 0]):=by kernel_rfl
@[go_sem] theorem zON:zah Tryz.prog 23 0=some (0,1):=by kernel_rfl
@[go_sem] theorem zOK:zao Tryz.prog 23 0=0:=by kernel_rfl
@[go_sem] theorem zMJ:zah Tryz.prog 23 1=some (1,1):=by kernel_rfl
@[go_sem] theorem zOA:zao Tryz.prog 23 1=0:=by kernel_rfl
@[go_sem] theorem zNX:zah Tryz.prog 23 2=some (2,1):=by kernel_rfl
@[go_sem] theorem zPc:zao Tryz.prog 23 2=0:=by kernel_rfl
@[go_sem] theorem zVS:tk Tryz.prog 25=some (true,5):=by kernel_rfl
@[go_sem] theorem zV8:zr Tryz.prog 25=some [.int .i64 0,.int .i64 0,.int .i64 0,.int .i64 0,.int .i64 0]:=by kernel_rfl
@[go_sem] theorem zSN:ezT Tryz.prog 25=0:=by kernel_rfl
@[go_sem] theorem zTS:zdu Tryz.prog 25=some (zah Tryz.prog 25,[.int .i64 0,.int .i64 0,.int .i64 0,.int .i64 0,.int .i64 0]):=by kernel_rfl
@[go_sem] theorem zNB:zah Tryz.prog 25 0=some (0,1):=by kernel_rfl
@[go_sem] theorem zL1:zao Tryz.prog 25 0=0:=by kernel_rfl
@[go_sem] theorem zLQ:zah Tryz.prog 25 1=some (1,1):=by kernel_rfl
@[go_sem] theorem zM5:zao Tryz.prog 25 1=0:=by kernel_rfl
@[go_sem] theorem zOZ:zah Tryz.prog 25 2=some (2,1):=by kernel_rfl
@[go_sem] theorem zOM:zao Tryz.prog 25 2=0:=by kernel_rfl
@[go_sem] theorem zNL:zah Tryz.prog 25 3=some (3,1):=by kernel_rfl
@[go_sem] theorem zM1:zao Tryz.prog 25 3=0:=by kernel_rfl
@[go_sem] theorem zMb:zah Tryz.prog 25 4=some (4,1):=by kernel_rfl
@[go_sem] theorem zMo:zao Tryz.prog 25 4=0:=by kernel_rfl
@[go_sem] theorem zVu:tk Tryz.prog 27=some (true,13):=by kernel_rfl
@[go_sem] theorem zVp:zr Tryz.prog 27=some [.int .i64 0,.int .i64 0,.int .i64 0,.int .i64 0,.int .i64 0,.int .i64 0,.int .i64 0,.int .i64 0,.int .i64 0,.int .i64 0,.int .i64 0,.int .i64 0,.int .i64 0]:=by kernel_rfl
@[go_sem] theorem zUu:ezT Tryz.prog 27=0:=by kernel_rfl
@[go_sem] theorem zTK:zdu Tryz.prog 27=some (zah Tryz.prog 27,[.int .i64 0,.int .i64 0,.int .i64 0,.int .i64 0,.int .i64 0,.int .i64 0,.int .i64 0,.int .i64 0,.int .i64 0,.int .i64 0,.int .i64 0,.int .i64 0,.int .i64 0]):=by kernel_rfl
@[go_sem] theorem zO0:zah Tryz.prog 27 0=some (0,3):=by kernel_rfl
@[go_sem] theorem zNx:zao Tryz.prog 27 0=0:=by kernel_rfl
@[go_sem] theorem zOC:zah Tryz.prog 27 1=some (3,5):=by kernel_rfl
@[go_sem] theorem zLS:zao Tryz.prog 27 1=0:=by kernel_rfl
@[go_sem] theorem zMP:zah Tryz.prog 27 2=some (8,1):=by kernel_rfl
@[go_sem] theorem zM7:zao Tryz.prog 27 2=0:=by kernel_rfl
@[go_sem] theorem zN6:zah Tryz.prog 27 3=some (9,1):=by kernel_rfl
@[go_sem] theorem zOI:zao Tryz.prog 27 3=0:=by kernel_rfl
@[go_sem] theorem zMO:zah Tryz.prog 27 4=some (10,1):=by kernel_rfl
@[go_sem] theorem zLZ:zao Tryz.prog 27 4=0:=by kernel_rfl
@[go_sem] theorem zLF:zah Tryz.prog 27 5=some (11,1):=by kernel_rfl
@[go_sem] theorem zPG:zao Tryz.prog 27 5=0:=by kernel_rfl
@[go_sem] theorem zO6:zah Tryz.prog 27 6=some (12,1):=by kernel_rfl
@[go_sem] theorem zOQ:zao Tryz.prog 27 6=0:=by kernel_rfl
@[go_sem] theorem zVr:tk Tryz.prog 28=some (false,1):=by kernel_rfl
@[go_sem] theorem zWp:zr Tryz.prog 28=some [.sl true 1 []]:=by kernel_rfl
@[go_sem] theorem zTk:ezT Tryz.prog 28=1:=by kernel_rfl
@[go_sem] theorem zSQ:zaw Tryz.prog 28=some 3:=by kernel_rfl
@[go_sem] theorem zUs:zaE Tryz.prog 28=false:=by kernel_rfl
@[go_sem] theorem zUP:esz Tryz.prog 28=some 1:=by kernel_rfl
@[go_sem] theorem zHS:ez Tryz.prog 28=some (1,8,[.int .i64 0]):=by kernel_rfl
@[go_sem] theorem zS3 :zao Tryz.prog 28 i=0:=by kernel_rfl
@[go_sem] theorem zVA:tk Tryz.prog 29=some (false,1):=by kernel_rfl
@[go_sem] theorem zV4:zr Tryz.prog 29=some [.sl true 6 []]:=by kernel_rfl
@[go_sem] theorem zUd:ezT Tryz.prog 29=6:=by kernel_rfl
@[go_sem] theorem zSE:zaw Tryz.prog 29=some 77:=by kernel_rfl
@[go_sem] theorem zTD:zaE Tryz.prog 29=false:=by kernel_rfl
@[go_sem] theorem zVd:esz Tryz.prog 29=some 6:=by kernel_rfl
@[go_sem] theorem zVs:ez Tryz.prog 29=some (6,112,[.int .i64 0,.int .i64 0,.sl false 1 [],.sl false 1 [],.sl false 1 [],.sl false 1 []]):=by kernel_rfl
@[go_sem] theorem zT5 :zao Tryz.prog 29 i=0:=by kernel_rfl
@[go_sem] theorem zWr:tk Tryz.prog 31=some (true,2):=by kernel_rfl
@[go_sem] theorem zWn:zr Tryz.prog 31=some [.sl true 1 [],.sl true 6 []]:=by kernel_rfl
@[go_sem] theorem zSY:ezT Tryz.prog 31=0:=by kernel_rfl
@[go_sem] theorem zUc:zdu Tryz.prog 31=some (zah Tryz.prog 31,[.sl true 1 [],.sl true 6 []]):=by kernel_rfl
@[go_sem] theorem zLg:zah Tryz.prog 31 0=some (0,1):=by kernel_rfl
@[go_sem] theorem zNb:zao Tryz.prog 31 0=1:=by kernel_rfl
@[go_sem] theorem zLY:zah Tryz.prog 31 1=some (1,1):=by kernel_rfl
@[go_sem] theorem zLB:zao Tryz.prog 31 1=6:=by kernel_rfl
@[go_sem] theorem zVO:tk Tryz.prog 35=some (true,3):=by kernel_rfl
@[go_sem] theorem zVz:zr Tryz.prog 35=some [.int .i64 0,.int .i64 0,.int .i64 0]:=by kernel_rfl
@[go_sem] theorem zU6:ezT Tryz.prog 35=0:=by kernel_rfl
@[go_sem] theorem zS7:zdu Tryz.prog 35=some (zah Tryz.prog 35,[.int .i64 0,.int .i64 0,.int .i64 0]):=by kernel_rfl
@[go_sem] theorem zMl:zah Tryz.prog 35 0=some (0,1):=by kernel_rfl
@[go_sem] theorem zMg:zao Tryz.prog 35 0=0:=by kernel_rfl
@[go_sem] theorem zMy:zah Tryz.prog 35 1=some (1,1):=by kernel_rfl
@[go_sem] theorem zOd:zao Tryz.prog 35 1=0:=by kernel_rfl
@[go_sem] theorem zPw:zah Tryz.prog 35 2=some (2,1):=by kernel_rfl
@[go_sem] theorem zL2:zao Tryz.prog 35 2=0:=by kernel_rfl
@[go_sem] theorem zVW:tk Tryz.prog 36=some (true,5):=by kernel_rfl
@[go_sem] theorem zVw:zr Tryz.prog 36=some [.int .i64 0,.int .i64 0,.int .i64 0,.int .i64 0,.int .i64 0]:=by kernel_rfl
@[go_sem] theorem zUv:ezT Tryz.prog 36=0:=by kernel_rfl
@[go_sem] theorem zUL:zdu Tryz.prog 36=some (zah Tryz.prog 36,[.int .i64 0,.int .i64 0,.int .i64 0,.int .i64 0,.int .i64 0]):=by kernel_rfl
@[go_sem] theorem zMu:zah Tryz.prog 36 0=some (0,1):=by kernel_rfl
@[go_sem] theorem zMY:zao Tryz.prog 36 0=0:=by kernel_rfl
@[go_sem] theorem zLT:zah Tryz.prog 36 1=some (1,1):=by kernel_rfl
@[go_sem] theorem zOL:zao Tryz.prog 36 1=0:=by kernel_rfl
@[go_sem] theorem zNv:zah Tryz.prog 36 2=some (2,1):=by kernel_rfl
@[go_sem] theorem zN0:zao Tryz.prog 36 2=0:=by kernel_rfl
@[go_sem] theorem zNo:zah Tryz.prog 36 3=some (3,1):=by kernel_rfl
@[go_sem] theorem zMc:zao Tryz.prog 36 3=0:=by kernel_rfl
@[go_sem] theorem zPx:zah Tryz.prog 36 4=some (4,1):=by kernel_rfl
@[go_sem] theorem zMQ:zao Tryz.prog 36 4=0:=by kernel_rfl
@[go_sem] theorem zVM:tk Tryz.prog 38=some (true,13):=by kernel_rfl
@[go_sem] theorem zVC:zr Tryz.prog 38=some [.int .i64 0,.int .i64 0,.int .i64 0,.int .i64 0,.int .i64 0,.int .i64 0,.int .i64 0,.int .i64 0,.int .i64 0,.int .i64 0,.int .i64 0,.int .i64 0,.int .i64 0]:=by kernel_rfl
@[go_sem] theorem zUf:ezT Tryz.prog 38=0:=by kernel_rfl
@[go_sem] theorem zTG:zdu Tryz.prog 38=some (zah Tryz.prog 38,[.int .i64 0,.int .i64 0,.int .i64 0,.int .i64 0,.int .i64 0,.int .i64 0,.int .i64 0,.int .i64 0,.int .i64 0,.int .i64 0,.int .i64 0,.int .i64 0,.int .i64 0]):=by kernel_rfl
@[go_sem] theorem zOa:zah Tryz.prog 38 0=some (0,3):=by kernel_rfl
@[go_sem] theorem zLI:zao Tryz.prog 38 0=0:=by kernel_rfl
@[go_sem] theorem zPj:zah Tryz.prog 38 1=some (3,5):=by kernel_rfl
@[go_sem] theorem zPC:zao Tryz.prog 38 1=0:=by kernel_rfl
@[go_sem] theorem zPv:zah Tryz.prog 38 2=some (8,1):=by kernel_rfl
@[go_sem] theorem zNm:zao Tryz.prog 38 2=0:=by kernel_rfl
@[go_sem] theorem zLn:zah Tryz.prog 38 3=some (9,1):=by kernel_rfl
@[go_sem] theorem zNK:zao Tryz.prog 38 3=0:=by kernel_rfl
@[go_sem] theorem zLx:zah Tryz.prog 38 4=some (10,1):=by kernel_rfl
@[go_sem] theorem zMI:zao Tryz.prog 38 4=0:=by kernel_rfl
@[go_sem] theorem zNj:zah Tryz.prog 38 5=some (11,1):=by kernel_rfl
@[go_sem] theorem zMX:zao Tryz.prog 38 5=0:=by kernel_rfl
@[go_sem] theorem zMK:zah Tryz.prog 38 6=some (12,1):=by kernel_rfl
@[go_sem] theorem zLk:zao Tryz.prog 38 6=0:=by kernel_rfl
@[go_sem] theorem zV3:tk Tryz.prog 40=some (false,1):=by kernel_rfl
@[go_sem] theorem zWk:zr Tryz.prog 40=some [.sl true 6 []]:=by kernel_rfl
@[go_sem] theorem zSy:ezT Tryz.prog 40=6:=by kernel_rfl
@[go_sem] theorem zTL:zaw Tryz.prog 40=some 84:=by kernel_rfl
@[go_sem] theorem zU0:zaE Tryz.prog 40=false:=by kernel_rfl
@[go_sem] theorem zVb:esz Tryz.prog 40=some 6:=by kernel_rfl
@[go_sem] theorem zVV:ez Tryz.prog 40=some (6,112,[.int .i64 0,.int .i64 0,.sl false 1 [],.sl false 1 [],.sl false 1 [],.sl false 1 []]):=by kernel_rfl
@[go_sem] theorem zUY :zao Tryz.prog 40 i=0:=by kernel_rfl
@[go_sem] theorem zVK:tk Tryz.prog 42=some (true,2):=by kernel_rfl
@[go_sem] theorem zV0:zr Tryz.prog 42=some [.sl true 1 [],.sl true 6 []]:=by kernel_rfl
@[go_sem] theorem zUI:ezT Tryz.prog 42=0:=by kernel_rfl
@[go_sem] theorem zUo:zdu Tryz.prog 42=some (zah Tryz.prog 42,[.sl true 1 [],.sl true 6 []]):=by kernel_rfl
@[go_sem] theorem zNf:zah Tryz.prog 42 0=some (0,1):=by kernel_rfl
@[go_sem] theorem zNZ:zao Tryz.prog 42 0=1:=by kernel_rfl
@[go_sem] theorem zOp:zah Tryz.prog 42 1=some (1,1):=by kernel_rfl
@[go_sem] theorem zL9:zao Tryz.prog 42 1=6:=by kernel_rfl
@[go_sem] theorem zVD:tk Tryz.prog 63=some (true,14):=by kernel_rfl
@[go_sem] theorem zVE:zr Tryz.prog 63=some [.int .i64 0,.int .i64 0,.int .i64 0,.int .i64 0,.int .i64 0,.int .i64 0,.int .i64 0,.int .i64 0,.int .i64 0,.int .i64 0,.int .i64 0,.int .i64 0,.int .i64 0,.sl true 1 []]:=by kernel_rfl
@[go_sem] theorem zVf:ezT Tryz.prog 63=0:=by kernel_rfl
@[go_sem] theorem zST:zdu Tryz.prog 63=some (zah Tryz.prog 63,[.int .i64 0,.int .i64 0,.int .i64 0,.int .i64 0,.int .i64 0,.int .i64 0,.int .i64 0,.int .i64 0,.int .i64 0,.int .i64 0,.int .i64 0,.int .i64 0,.int .i64 0,.sl true 1 []]):=by kernel_rfl
@[go_sem] theorem zNs:zah Tryz.prog 63 0=some (0,13):=by kernel_rfl
@[go_sem] theorem zPr:zao Tryz.prog 63 0=0:=by kernel_rfl
@[go_sem] theorem zNI:zah Tryz.prog 63 1=some (13,1):=by kernel_rfl
@[go_sem] theorem zM9:zao Tryz.prog 63 1=1:=by kernel_rfl
@[go_sem] theorem zWq:tk Tryz.prog 69=some (true,9):=by kernel_rfl
@[go_sem] theorem zWe:zr Tryz.prog 69=some [.int .i64 0,.int .i64 0,.int .i64 0,.int .i64 0,.int .i64 0,.int .i64 0,.int .i64 0,.int .i64 0,.int .i64 0]:=by kernel_rfl
@[go_sem] theorem zVl:ezT Tryz.prog 69=0:=by kernel_rfl
@[go_sem] theorem zUN:zdu Tryz.prog 69=some (zah Tryz.prog 69,[.int .i64 0,.int .i64 0,.int .i64 0,.int .i64 0,.int .i64 0,.int .i64 0,.int .i64 0,.int .i64 0,.int .i64 0]):=by kernel_rfl
@[go_sem] theorem zMB:zah Tryz.prog 69 0=some (0,5):=by kernel_rfl
@[go_sem] theorem zLU:zao Tryz.prog 69 0=0:=by kernel_rfl
@[go_sem] theorem zNW:zah Tryz.prog 69 1=some (5,1):=by kernel_rfl
@[go_sem] theorem zLR:zao Tryz.prog 69 1=0:=by kernel_rfl
@[go_sem] theorem zPB:zah Tryz.prog 69 2=some (6,1):=by kernel_rfl
@[go_sem] theorem zPz:zao Tryz.prog 69 2=0:=by kernel_rfl
@[go_sem] theorem zNC:zah Tryz.prog 69 3=some (7,1):=by kernel_rfl
@[go_sem] theorem zOW:zao Tryz.prog 69 3=0:=by kernel_rfl
@[go_sem] theorem zLz:zah Tryz.prog 69 4=some (8,1):=by kernel_rfl
@[go_sem] theorem zMs:zao Tryz.prog 69 4=0:=by kernel_rfl
@[go_sem] theorem zV6:tk Tryz.prog 75=some (true,3):=by kernel_rfl
@[go_sem] theorem zVR:zr Tryz.prog 75=some [.sl true 1 [],.sl true 1 [],.sl true 1 []]:=by kernel_rfl
@[go_sem] theorem zTu:ezT Tryz.prog 75=0:=by kernel_rfl
@[go_sem] theorem zSR:zdu Tryz.prog 75=some (zah Tryz.prog 75,[.sl true 1 [],.sl true 1 [],.sl true 1 []]):=by kernel_rfl
@[go_sem] theorem zM2:zah Tryz.prog 75 0=some (0,1):=by kernel_rfl
@[go_sem] theorem zOm:zao Tryz.prog 75 0=1:=by kernel_rfl
@[go_sem] theorem zLA:zah Tryz.prog 75 1=some (1,1):=by kernel_rfl
@[go_sem] theorem zOh:zao Tryz.prog 75 1=1:=by kernel_rfl
@[go_sem] theorem zOF:zah Tryz.prog 75 2=some (2,1):=by kernel_rfl
@[go_sem] theorem zLN:zao Tryz.prog 75 2=1:=by kernel_rfl
@[go_sem] theorem zVQ:tk Tryz.prog 77=some (true,6):=by kernel_rfl
@[go_sem] theorem zVG:zr Tryz.prog 77=some [.int .i64 0,.int .i64 0,.sl true 1 [],.sl true 1 [],.sl true 1 [],.sl true 1 []]:=by kernel_rfl
@[go_sem] theorem zUy:ezT Tryz.prog 77=0:=by kernel_rfl
@[go_sem] theorem zTd:zdu Tryz.prog 77=some (zah Tryz.prog 77,[.int .i64 0,.int .i64 0,.sl true 1 [],.sl true 1 [],.sl true 1 [],.sl true 1 []]):=by kernel_rfl
@[go_sem] theorem zO8:zah Tryz.prog 77 0=some (0,1):=by kernel_rfl
@[go_sem] theorem zNR:zao Tryz.prog 77 0=0:=by kernel_rfl
@[go_sem] theorem zPs:zah Tryz.prog 77 1=some (1,1):=by kernel_rfl
@[go_sem] theorem zOx:zao Tryz.prog 77 1=0:=by kernel_rfl
@[go_sem] theorem zPE:zah Tryz.prog 77 2=some (2,1):=by kernel_rfl
@[go_sem] theorem zOb:zao Tryz.prog 77 2=1:=by kernel_rfl
@[go_sem] theorem zND:zah Tryz.prog 77 3=some (3,3):=by kernel_rfl
@[go_sem] theorem zN8:zao Tryz.prog 77 3=0:=by kernel_rfl
@[go_sem] theorem zVt:tk Tryz.prog 82=some (true,3):=by kernel_rfl
@[go_sem] theorem zVH:zr Tryz.prog 82=some [.sl true 1 [],.sl true 1 [],.sl true 1 []]:=by kernel_rfl
@[go_sem] theorem zTI:ezT Tryz.prog 82=0:=by kernel_rfl
@[go_sem] theorem zSC:zdu Tryz.prog 82=some (zah Tryz.prog 82,[.sl true 1 [],.sl true 1 [],.sl true 1 []]):=by kernel_rfl
@[go_sem] theorem zLM:zah Tryz.prog 82 0=some (0,1):=by kernel_rfl
@[go_sem] theorem zNU:zao Tryz.prog 82 0=1:=by kernel_rfl
@[go_sem] theorem zMM:zah Tryz.prog 82 1=some (1,1):=by kernel_rfl
@[go_sem] theorem zN9:zao Tryz.prog 82 1=1:=by kernel_rfl
@[go_sem] theorem zNk:zah Tryz.prog 82 2=some (2,1):=by kernel_rfl
@[go_sem] theorem zPl:zao Tryz.prog 82 2=1:=by kernel_rfl
@[go_sem] theorem zVN:tk Tryz.prog 84=some (true,6):=by kernel_rfl
@[go_sem] theorem zVJ:zr Tryz.prog 84=some [.int .i64 0,.int .i64 0,.sl true 1 [],.sl true 1 [],.sl true 1 [],.sl true 1 []]:=by kernel_rfl
@[go_sem] theorem zTx:ezT Tryz.prog 84=0:=by kernel_rfl
@[go_sem] theorem zU2:zdu Tryz.prog 84=some (zah Tryz.prog 84,[.int .i64 0,.int .i64 0,.sl true 1 [],.sl true 1 [],.sl true 1 [],.sl true 1 []]):=by kernel_rfl
@[go_sem] theorem zOV:zah Tryz.prog 84 0=some (0,1):=by kernel_rfl
@[go_sem] theorem zO5:zao Tryz.prog 84 0=0:=by kernel_rfl
@[go_sem] theorem zLj:zah Tryz.prog 84 1=some (1,1):=by kernel_rfl
@[go_sem] theorem zOi:zao Tryz.prog 84 1=0:=by kernel_rfl
@[go_sem] theorem zNd:zah Tryz.prog 84 2=some (2,1):=by kernel_rfl
@[go_sem] theorem zMz:zao Tryz.prog 84 2=1:=by kernel_rfl
@[go_sem] theorem zNH:zah Tryz.prog 84 3=some (3,3):=by kernel_rfl
@[go_sem] theorem zPK:zao Tryz.prog 84 3=0:=by kernel_rfl
@[go_sem] theorem zVF:tk Tryz.prog 85=some (false,1):=by kernel_rfl
@[go_sem] theorem zVI:zr Tryz.prog 85=some [.sl true 2 []]:=by kernel_rfl
@[go_sem] theorem zT1:ezT Tryz.prog 85=2:=by kernel_rfl
@[go_sem] theorem zTZ:zaw Tryz.prog 85=some 160:=by kernel_rfl
@[go_sem] theorem zVg:zaE Tryz.prog 85=false:=by kernel_rfl
@[go_sem] theorem zUk:esz Tryz.prog 85=some 2:=by kernel_rfl
@[go_sem] theorem zWc:ez Tryz.prog 85=some (2,16,[.int .i64 0,.int .i64 0]):=by kernel_rfl
@[go_sem] theorem zTq :zao Tryz.prog 85 i=0:=by kernel_rfl
@[go_sem] theorem zVL:tk Tryz.prog 86=some (false,1):=by kernel_rfl
@[go_sem] theorem zVU:zr Tryz.prog 86=some [.sl true 3 []]:=by kernel_rfl
@[go_sem] theorem zSI:ezT Tryz.prog 86=3:=by kernel_rfl
@[go_sem] theorem zTy:zaw Tryz.prog 86=some 82:=by kernel_rfl
@[go_sem] theorem zTw:zaE Tryz.prog 86=false:=by kernel_rfl
@[go_sem] theorem zTJ:esz Tryz.prog 86=some 3:=by kernel_rfl
@[go_sem] theorem zVX:ez Tryz.prog 86=some (3,72,[.sl false 1 [],.sl false 1 [],.sl false 1 []]):=by kernel_rfl
@[go_sem] theorem zTO :zao Tryz.prog 86 i=0:=by kernel_rfl
@[go_sem] theorem zWj:tk Tryz.prog 88=some (true,6):=by kernel_rfl
@[go_sem] theorem zVT:zr Tryz.prog 88=some [.int .i64 0,.sl true 2 [],.sl true 3 [],.sl true 1 [],.sl true 1 [],.sl true 1 []]:=by kernel_rfl
@[go_sem] theorem zUQ:ezT Tryz.prog 88=0:=by kernel_rfl
@[go_sem] theorem zUU:zdu Tryz.prog 88=some (zah Tryz.prog 88,[.int .i64 0,.sl true 2 [],.sl true 3 [],.sl true 1 [],.sl true 1 [],.sl true 1 []]):=by kernel_rfl
@[go_sem] theorem zOk:zah Tryz.prog 88 0=some (0,1):=by kernel_rfl
@[go_sem] theorem zLs:zao Tryz.prog 88 0=0:=by kernel_rfl
@[go_sem] theorem zMZ:zah Tryz.prog 88 1=some (1,1):=by kernel_rfl
@[go_sem] theorem zMh:zao Tryz.prog 88 1=2:=by kernel_rfl
@[go_sem] theorem zLD:zah Tryz.prog 88 2=some (2,1):=by kernel_rfl
@[go_sem] theorem zOv:zao Tryz.prog 88 2=3:=by kernel_rfl
@[go_sem] theorem zMA:zah Tryz.prog 88 3=some (3,3):=by kernel_rfl
@[go_sem] theorem zN7:zao Tryz.prog 88 3=0:=by kernel_rfl
@[go_sem] theorem zWh:tk Tryz.prog 97=some (false,1):=by kernel_rfl
@[go_sem] theorem zWb:zr Tryz.prog 97=some [.nilf]:=by kernel_rfl
@[go_sem] theorem zVo:ezT Tryz.prog 97=0:=by kernel_rfl
@[go_sem] theorem zTB:tk Tryz.prog 115=some (true,2):=by kernel_rfl
@[go_sem] theorem zUB:zr Tryz.prog 115=some [.int .i64 0,.sl true 1 []]:=by kernel_rfl
@[go_sem] theorem zRw:ezT Tryz.prog 115=0:=by kernel_rfl
@[go_sem] theorem zQt:zdu Tryz.prog 115=some (zah Tryz.prog 115,[.int .i64 0,.sl true 1 []]):=by kernel_rfl
@[go_sem] theorem zKl:zah Tryz.prog 115 0=some (0,1):=by kernel_rfl
@[go_sem] theorem zKH:zao Tryz.prog 115 0=0:=by kernel_rfl
@[go_sem] theorem zKV:zah Tryz.prog 115 1=some (1,1):=by kernel_rfl
@[go_sem] theorem zJd:zao Tryz.prog 115 1=1:=by kernel_rfl
@[go_sem] theorem zUJ:tk Tryz.prog 130=some (false,1):=by kernel_rfl
@[go_sem] theorem zSx:zr Tryz.prog 130=some [.int .u64 0]:=by kernel_rfl
@[go_sem] theorem zRv:ezT Tryz.prog 130=0:=by kernel_rfl
@[go_sem] theorem zPY:zde Tryz.prog 130=some .u64:=by kernel_rfl
@[go_sem] theorem zPL:zaE Tryz.prog 130=false:=by kernel_rfl
@[go_sem] theorem zTh:tk Tryz.prog 149=some (false,1):=by kernel_rfl
@[go_sem] theorem zSJ:zr Tryz.prog 149=some [.sl true 1 []]:=by kernel_rfl
@[go_sem] theorem zRa:ezT Tryz.prog 149=1:=by kernel_rfl
@[go_sem] theorem zQf:zaw Tryz.prog 149=some 28:=by kernel_rfl
@[go_sem] theorem zPV:zaE Tryz.prog 149=false:=by kernel_rfl
@[go_sem] theorem zRf:esz Tryz.prog 149=some 1:=by kernel_rfl
@[go_sem] theorem zSU:ez Tryz.prog 149=some (1,24,[.sl false 1 []]):=by kernel_rfl
@[go_sem] theorem zQy :zao Tryz.prog 149 i=1:=by kernel_rfl
@[go_sem] theorem zSZ:tk Tryz.prog 160=some (true,2):=by kernel_rfl
@[go_sem] theorem zUT:zr Tryz.prog 160=some [.int .i64 0,.int .i64 0]:=by kernel_rfl
@[go_sem] theorem zQs:ezT Tryz.prog 160=0:=by kernel_rfl
@[go_sem] theorem zRo:zdu Tryz.prog 160=some (zah Tryz.prog 160,[.int .i64 0,.int .i64 0]):=by kernel_rfl
@[go_sem] theorem zJa:zah Tryz.prog 160 0=some (0,1):=by kernel_rfl
@[go_sem] theorem zHf:zao Tryz.prog 160 0=0:=by kernel_rfl
@[go_sem] theorem zIa:zah Tryz.prog 160 1=some (1,1):=by kernel_rfl
@[go_sem] theorem zKn:zao Tryz.prog 160 1=0:=by kernel_rfl
@[go_sem] theorem zSz:tk Tryz.prog 163=some (false,1):=by kernel_rfl
@[go_sem] theorem zSH:zr Tryz.prog 163=some [.sl true 4 []]:=by kernel_rfl
@[go_sem] theorem zQW:ezT Tryz.prog 163=4:=by kernel_rfl
@[go_sem] theorem zRI:zaw Tryz.prog 163=some 196:=by kernel_rfl
@[go_sem] theorem zQJ:zaE Tryz.prog 163=false:=by kernel_rfl
@[go_sem] theorem zQK:esz Tryz.prog 163=some 4:=by kernel_rfl
@[go_sem] theorem zTt:ez Tryz.prog 163=some (4,32,[.int .i64 0,.int .i64 0,.int .i64 0,.int .i64 0]):=by kernel_rfl
@[go_sem] theorem zP1 :zao Tryz.prog 163 i=0:=by kernel_rfl
@[go_sem] theorem zUX:tk Tryz.prog 170=some (false,1):=by kernel_rfl
@[go_sem] theorem zSB:zr Tryz.prog 170=some [.int .u32 0]:=by kernel_rfl
@[go_sem] theorem zQA:ezT Tryz.prog 170=0:=by kernel_rfl
@[go_sem] theorem zQH:zde Tryz.prog 170=some .u32:=by kernel_rfl
@[go_sem] theorem zPT:zaE Tryz.prog 170=false:=by kernel_rfl
@[go_sem] theorem zTH:tk Tryz.prog 173=some (false,1):=by kernel_rfl
@[go_sem] theorem zT7:zr Tryz.prog 173=some [.int .u64 0]:=by kernel_rfl
@[go_sem] theorem zR4:ezT Tryz.prog 173=0:=by kernel_rfl
@[go_sem] theorem zRn:zde Tryz.prog 173=some .u64:=by kernel_rfl
@[go_sem] theorem zSc:zaE Tryz.prog 173=false:=by kernel_rfl
@[go_sem] theorem zSG:tk Tryz.prog 196=some (true,4):=by kernel_rfl
@[go_sem] theorem zUb:zr Tryz.prog 196=some [.int .i64 0,.int .i64 0,.int .i64 0,.int .i64 0]:=by kernel_rfl
@[go_sem] theorem zPO:ezT Tryz.prog 196=0:=by kernel_rfl
@[go_sem] theorem zRc:zdu Tryz.prog 196=some (zah Tryz.prog 196,[.int .i64 0,.int .i64 0,.int .i64 0,.int .i64 0]):=by kernel_rfl
@[go_sem] theorem zKY:zah Tryz.prog 196 0=some (0,1):=by kernel_rfl
@[go_sem] theorem zJ8:zao Tryz.prog 196 0=0:=by kernel_rfl
@[go_sem] theorem zKI:zah Tryz.prog 196 1=some (1,1):=by kernel_rfl
@[go_sem] theorem zJU:zao Tryz.prog 196 1=0:=by kernel_rfl
@[go_sem] theorem zKz:zah Tryz.prog 196 2=some (2,1):=by kernel_rfl
@[go_sem] theorem zJJ:zao Tryz.prog 196 2=0:=by kernel_rfl
@[go_sem] theorem zJV:zah Tryz.prog 196 3=some (3,1):=by kernel_rfl
@[go_sem] theorem zHs:zao Tryz.prog 196 3=0:=by kernel_rfl
@[go_sem] theorem zSO:tk Tryz.prog 200=some (false,1):=by kernel_rfl
@[go_sem] theorem zSD:zr Tryz.prog 200=some [.nilp]:=by kernel_rfl
@[go_sem] theorem zQI:ezT Tryz.prog 200=0:=by kernel_rfl
@[go_sem] theorem zTM:tk Tryz.prog 202=some (true,2):=by kernel_rfl
@[go_sem] theorem zUn:zr Tryz.prog 202=some [.sl true 1 [],.bool false]:=by kernel_rfl
@[go_sem] theorem zRF:ezT Tryz.prog 202=0:=by kernel_rfl
@[go_sem] theorem zRJ:zdu Tryz.prog 202=some (zah Tryz.prog 202,[.sl true 1 [],.bool false]):=by kernel_rfl
@[go_sem] theorem zJk:zah Tryz.prog 202 0=some (0,1):=by kernel_rfl
@[go_sem] theorem zKh:zao Tryz.prog 202 0=1:=by kernel_rfl
@[go_sem] theorem zIG:zah Tryz.prog 202 1=some (1,1):=by kernel_rfl
@[go_sem] theorem zJl:zao Tryz.prog 202 1=0:=by kernel_rfl
@[go_sem] theorem zUW:tk Tryz.prog 208=some (false,1):=by kernel_rfl
@[go_sem] theorem zS0:zr Tryz.prog 208=some [.nilf]:=by kernel_rfl
@[go_sem] theorem zPP:ezT Tryz.prog 208=0:=by kernel_rfl
@[go_sem] theorem zUV:tk Tryz.prog 218=some (false,1):=by kernel_rfl
@[go_sem] theorem zTm:zr Tryz.prog 218=some [.sl true 1 []]:=by kernel_rfl
@[go_sem] theorem zQ0:ezT Tryz.prog 218=1:=by kernel_rfl
@[go_sem] theorem zRU:zaw Tryz.prog 218=some 5:=by kernel_rfl
@[go_sem] theorem zRr:zaE Tryz.prog 218=false:=by kernel_rfl
@[go_sem] theorem zRj:esz Tryz.prog 218=some 1:=by kernel_rfl
@[go_sem] theorem zPQ:zg1 Tryz.prog 218=true:=by kernel_rfl
@[go_sem] theorem zTg:ez Tryz.prog 218=some (1,1,[.int .u8 0]):=by kernel_rfl
@[go_sem] theorem zP6 :zao Tryz.prog 218 i=0:=by kernel_rfl
@[go_sem] theorem zUA:tk Tryz.prog 225=some (false,1):=by kernel_rfl
@[go_sem] theorem zS6:zr Tryz.prog 225=some [.nilp]:=by kernel_rfl
@[go_sem] theorem zQ5:ezT Tryz.prog 225=0:=by kernel_rfl
@[go_sem] theorem zUE:tk Tryz.prog 227=some (true,2):=by kernel_rfl
@[go_sem] theorem zSK:zr Tryz.prog 227=some [.int .i64 0,.int .i64 0]:=by kernel_rfl
@[go_sem] theorem zQz:ezT Tryz.prog 227=0:=by kernel_rfl
@[go_sem] theorem zRp:zdu Tryz.prog 227=some (zah Tryz.prog 227,[.int .i64 0,.int .i64 0]):=by kernel_rfl
@[go_sem] theorem zJv:zah Tryz.prog 227 0=some (0,1):=by kernel_rfl
@[go_sem] theorem zJ0:zao Tryz.prog 227 0=0:=by kernel_rfl
@[go_sem] theorem zJ7:zah Tryz.prog 227 1=some (1,1):=by kernel_rfl
@[go_sem] theorem zIw:zao Tryz.prog 227 1=0:=by kernel_rfl
@[go_sem] theorem zTa:tk Tryz.prog 229=some (true,24):=by kernel_rfl
@[go_sem] theorem zVi:zr Tryz.prog 229=some [.int .u8 0,.int .u8 0,.int .u8 0,.int .u8 0,.int .u8 0,.int .u8 0,.int .u8 0,.int .u8 0,.int .u8 0,.int .u8 0,.int .u8 0,.int .u8 0,.int .u8 0,.int .u8 0,.int .u8 0,.int .u8 0,.int .u8 0,.int .u8 0,.int .u8 0,.int .u8 0,.int .u8 0,.int .u8 0,.int .u8 0,.int .u8 0]:=by kernel_rfl
@[go_sem] theorem zQD:ezT Tryz.prog 229=0:=by kernel_rfl
@[go_sem] theorem zSm:esz Tryz.prog 229=none:=by kernel_rfl
@[go_sem] theorem zQw:asz Tryz.prog 229=some (24,1):=by kernel_rfl
@[go_sem] theorem zQn :zao Tryz.prog 229 i=0:=by kernel_rfl
@[go_sem] theorem zPW:zdu Tryz.prog 229=some (fun i=>some (i*1,1),[.int .u8 0,.int .u8 0,.int .u8 0,.int .u8 0,.int .u8 0,.int .u8 0,.int .u8 0,.int .u8 0,.int .u8 0,.int .u8 0,.int .u8 0,.int .u8 0,.int .u8 0,.int .u8 0,.int .u8 0,.int .u8 0,.int .u8 0,.int .u8 0,.int .u8 0,.int .u8 0,.int .u8 0,.int .u8 0,.int .u8 0,.int .u8 0]):=by kernel_rfl
@[go_sem] theorem zVc:tk Tryz.prog 235=some (true,20):=by kernel_rfl
@[go_sem] theorem zUR:zr Tryz.prog 235=some [.int .u64 0,.int .u64 0,.int .u64 0,.int .u64 0,.int .u64 0,.int .u64 0,.int .u64 0,.int .u64 0,.int .u64 0,.int .u64 0,.int .u64 0,.int .u64 0,.int .u64 0,.int .u64 0,.int .u64 0,.int .u64 0,.int .u64 0,.int .u64 0,.int .u64 0,.int .u64 0]:=by kernel_rfl
@[go_sem] theorem zSo:ezT Tryz.prog 235=0:=by kernel_rfl
@[go_sem] theorem zP3:esz Tryz.prog 235=none:=by kernel_rfl
@[go_sem] theorem zRT:asz Tryz.prog 235=some (20,1):=by kernel_rfl
@[go_sem] theorem zRl :zao Tryz.prog 235 i=0:=by kernel_rfl
@[go_sem] theorem zPM:zdu Tryz.prog 235=some (fun i=>some (i*1,1),[.int .u64 0,.int .u64 0,.int .u64 0,.int .u64 0,.int .u64 0,.int .u64 0,.int .u64 0,.int .u64 0,.int .u64 0,.int .u64 0,.int .u64 0,.int .u64 0,.int .u64 0,.int .u64 0,.int .u64 0,.int .u64 0,.int .u64 0,.int .u64 0,.int .u64 0,.int .u64 0]):=by kernel_rfl
@[go_sem] theorem zT4:tk Tryz.prog 236=some (true,65):=by kernel_rfl
@[go_sem] theorem zT0:zr Tryz.prog 236=some [.int .u8 0,.int .u8 0,.int .u8 0,.int .u8 0,.int .u8 0,.int .u8 0,.int .u8 0,.int .u8 0,.int .u8 0,.int .u8 0,.int .u8 0,.int .u8 0,.int .u8 0,.int .u8 0,.int .u8 0,.int .u8 0,.int .u8 0,.int .u8 0,.int .u8 0,.int .u8 0,.int .u8 0,.int .u8 0,.int .u8 0,.int .u8 0,.int .u8 0,.int .u8 0,.int .u8 0,.int .u8 0,.int .u8 0,.int .u8 0,.int .u8 0,.int .u8 0,.int .u8 0,.int .u8 0,.int .u8 0,.int .u8 0,.int .u8 0,.int .u8 0,.int .u8 0,.int .u8 0,.int .u8 0,.int .u8 0,.int .u8 0,.int .u8 0,.int .u8 0,.int .u8 0,.int .u8 0,.int .u8 0,.int .u8 0,.int .u8 0,.int .u8 0,.int .u8 0,.int .u8 0,.int .u8 0,.int .u8 0,.int .u8 0,.int .u8 0,.int .u8 0,.int .u8 0,.int .u8 0,.int .u8 0,.int .u8 0,.int .u8 0,.int .u8 0,.int .u8 0]:=by kernel_rfl
@[go_sem] theorem zRs:ezT Tryz.prog 236=0:=by kernel_rfl
@[go_sem] theorem zQR:esz Tryz.prog 236=none:=by kernel_rfl
@[go_sem] theorem zPU:asz Tryz.prog 236=some (65,1):=by kernel_rfl
@[go_sem] theorem zRb :zao Tryz.prog 236 i=0:=by kernel_rfl
@[go_sem] theorem zRt:zdu Tryz.prog 236=some (fun i=>some (i*1,1),[.int .u8 0,.int .u8 0,.int .u8 0,.int .u8 0,.int .u8 0,.int .u8 0,.int .u8 0,.int .u8 0,.int .u8 0,.int .u8 0,.int .u8 0,.int .u8 0,.int .u8 0,.int .u8 0,.int .u8 0,.int .u8 0,.int .u8 0,.int .u8 0,.int .u8 0,.int .u8 0,.int .u8 0,.int .u8 0,.int .u8 0,.int .u8 0,.int .u8 0,.int .u8 0,.int .u8 0,.int .u8 0,.int .u8 0,.int .u8 0,.int .u8 0,.int .u8 0,.int .u8 0,.int .u8 0,.int .u8 0,.int .u8 0,.int .u8 0,.int .u8 0,.int .u8 0,.int .u8 0,.int .u8 0,.int .u8 0,.int .u8 0,.int .u8 0,.int .u8 0,.int .u8 0,.int .u8 0,.int .u8 0,.int .u8 0,.int .u8 0,.int .u8 0,.int .u8 0,.int .u8 0,.int .u8 0,.int .u8 0,.int .u8 0,.int .u8 0,.int .u8 0,.int .u8 0,.int .u8 0,.int .u8 0,.int .u8 0,.int .u8 0,.int .u8 0,.int .u8 0]):=by kernel_rfl
@[go_sem] theorem zUw:tk Tryz.prog 239=some (true,32):=by kernel_rfl
@[go_sem] theorem zSW:zr Tryz.prog 239=some [.int .u8 0,.int .u8 0,.int .u8 0,.int .u8 0,.int .u8 0,.int .u8 0,.int .u8 0,.int .u8 0,.int .u8 0,.int .u8 0,.int .u8 0,.int .u8 0,.int .u8 0,.int .u8 0,.int .u8 0,.int .u8 0,.int .u8 0,.int .u8 0,.int .u8 0,.int .u8 0,.int .u8 0,.int .u8 0,.int .u8 0,.int .u8 0,.int .u8 0,.int .u8 0,.int .u8 0,.int .u8 0,.int .u8 0,.int .u8 0,.int .u8 0,.int .u8 0]:=by kernel_rfl
@[go_sem] theorem zQ4:ezT Tryz.prog 239=0:=by kernel_rfl
@[go_sem] theorem zRW:esz Tryz.prog 239=none:=by kernel_rfl
@[go_sem] theorem zSb:asz Tryz.prog 239=some (32,1):=by kernel_rfl
@[go_sem] theorem zPR :zao Tryz.prog 239 i=0:=by kernel_rfl
@[go_sem] theorem zRA:zdu Tryz.prog 239=some (fun i=>some (i*1,1),[.int .u8 0,.int .u8 0,.int .u8 0,.int .u8 0,.int .u8 0,.int .u8 0,.int .u8 0,.int .u8 0,.int .u8 0,.int .u8 0,.int .u8 0,.int .u8 0,.int .u8 0,.int .u8 0,.int .u8 0,.int .u8 0,.int .u8 0,.int .u8 0,.int .u8 0,.int .u8 0,.int .u8 0,.int .u8 0,.int .u8 0,.int .u8 0,.int .u8 0,.int .u8 0,.int .u8 0,.int .u8 0,.int .u8 0,.int .u8 0,.int .u8 0,.int .u8 0]):=by kernel_rfl
@[go_sem] theorem zUt:tk Tryz.prog 240=some (true,64):=by kernel_rfl
@[go_sem] theorem zT2:zr Tryz.prog 240=some [.int .u8 0,.int .u8 0,.int .u8 0,.int .u8 0,.int .u8 0,.int .u8 0,.int .u8 0,.int .u8 0,.int .u8 0,.int .u8 0,.int .u8 0,.int .u8 0,.int .u8 0,.int .u8 0,.int .u8 0,.int .u8 0,.int .u8 0,.int .u8 0,.int .u8 0,.int .u8 0,.int .u8 0,.int .u8 0,.int .u8 0,.int .u8 0,.int .u8 0,.int .u8 0,.int .u8 0,.int .u8 0,.int .u8 0,.int .u8 0,.int .u8 0,.int .u8 0,.int .u8 0,.int .u8 0,.int .u8 0,.int .u8 0,.int .u8 0,.int .u8 0,.int .u8 0,.int .u8 0,.int .u8 0,.int .u8 0,.int .u8 0,.int .u8 0,.int .u8 0,.int .u8 0,.int .u8 0,.int .u8 0,.int .u8 0,.int .u8 0,.int .u8 0,.int .u8 0,.int .u8 0,.int .u8 0,.int .u8 0,.int .u8 0,.int .u8 0,.int .u8 0,.int .u8 0,.int .u8 0,.int .u8 0,.int .u8 0,.int .u8 0,.int .u8 0]:=by kernel_rfl
@[go_sem] theorem zPS:ezT Tryz.prog 240=0:=by kernel_rfl
@[go_sem] theorem zR2:esz Tryz.prog 240=none:=by kernel_rfl
@[go_sem] theorem zRk:asz Tryz.prog 240=some (64,1):=by kernel_rfl
@[go_sem] theorem zQY :zao Tryz.prog 240 i=0:=by kernel_rfl
@[go_sem] theorem zPZ:zdu Tryz.prog 240=some (fun i=>some (i*1,1),[.int .u8 0,.int .u8 0,.int .u8 0,.int .u8 0,.int .u8 0,.int .u8 0,.int .u8 0,.int .u8 0,.int .u8 0,.int .u8 0,.int .u8 0,.int .u8 0,.int .u8 0,.int .u8 0,.int .u8 0,.int .u8 0,.int .u8 0,.int .u8 0,.int .u8 0,.int .u8 0,.int .u8 0,.int .u8 0,.int .u8 0,.int .u8 0,.int .u8 0,.int .u8 0,.int .u8 0,.int .u8 0,.int .u8 0,.int .u8 0,.int .u8 0,.int .u8 0,.int .u8 0,.int .u8 0,.int .u8 0,.int .u8 0,.int .u8 0,.int .u8 0,.int .u8 0,.int .u8 0,.int .u8 0,.int .u8 0,.int .u8 0,.int .u8 0,.int .u8 0,.int .u8 0,.int .u8 0,.int .u8 0,.int .u8 0,.int .u8 0,.int .u8 0,.int .u8 0,.int .u8 0,.int .u8 0,.int .u8 0,.int .u8 0,.int .u8 0,.int .u8 0,.int .u8 0,.int .u8 0,.int .u8 0,.int .u8 0,.int .u8 0,.int .u8 0]):=by kernel_rfl
theorem follows:Tryz.prog.follows .mixedOrders=true:=by kernel_rfl
theorem cl4:zac Tryz.prog 4:=fun args w=>Tryz.call4 args w
theorem cl5:zac Tryz.prog 5:=fun args w=>Tryz.call5 args w
theorem cl8:zac Tryz.prog 8:=fun args w=>Tryz.call8 args w
theorem zKs:zac Tryz.prog 10:=fun args w=>Tryz.call10 args w
theorem zHj:zac Tryz.prog 11:=fun args w=>Tryz.call11 args w
theorem zI7:zac Tryz.prog 12:=fun args w=>Tryz.call12 args w
theorem zIX:zac Tryz.prog 13:=fun args w=>Tryz.call13 args w
theorem zK5:zac Tryz.prog 14:=fun args w=>Tryz.call14 args w
theorem zKF:zac Tryz.prog 15:=fun args w=>Tryz.call15 args w
theorem zKc:zac Tryz.prog 16:=fun args w=>Tryz.call16 args w
theorem zJ1:zac Tryz.prog 17:=fun args w=>Tryz.call17 args w
theorem zHQ:zac Tryz.prog 18:=fun args w=>Tryz.call18 args w
theorem zHH:zac Tryz.prog 19:=fun args w=>Tryz.call19 args w
theorem zHh:zac Tryz.prog 23:=fun args w=>Tryz.call23 args w
theorem zHl:zac Tryz.prog 24:=fun args w=>Tryz.call24 args w
theorem zHY:zac Tryz.prog 26:=fun args w=>Tryz.call26 args w
theorem zHA:zac Tryz.prog 28:=fun args w=>Tryz.call28 args w
theorem zI1:zac Tryz.prog 29:=fun args w=>Tryz.call29 args w
theorem zIQ:zac Tryz.prog 30:=fun args w=>Tryz.call30 args w
theorem zI3:zac Tryz.prog 31:=fun args w=>Tryz.call31 args w
theorem zII:zac Tryz.prog 32:=fun args w=>Tryz.call32 args w
theorem zHU:zac Tryz.prog 33:=fun args w=>Tryz.call33 args w
theorem zJE:zac Tryz.prog 34:=fun args w=>Tryz.call34 args w
theorem zG2:zac Tryz.prog 35:=fun args w=>Tryz.call35 args w
theorem zKM:zac Tryz.prog 36:=fun args w=>Tryz.call36 args w
theorem zGR:zac Tryz.prog 37:=fun args w=>Tryz.call37 args w
theorem zG9:zac Tryz.prog 38:=fun args w=>Tryz.call38 args w
theorem zKr:zac Tryz.prog 40:=fun args w=>Tryz.call40 args w
theorem zIe:zac Tryz.prog 41:=fun args w=>Tryz.call41 args w
theorem zJb:zac Tryz.prog 42:=fun args w=>Tryz.call42 args w
theorem zIW:zac Tryz.prog 43:=fun args w=>Tryz.call43 args w
theorem zJe:zac Tryz.prog 44:=fun args w=>Tryz.call44 args w
theorem zAE:zac Tryz.prog 45:=fun args w=>Tryz.call45 args w
theorem zHX:zac Tryz.prog 46:=fun args w=>Tryz.call46 args w
theorem zIJ:zac Tryz.prog 47:=fun args w=>Tryz.call47 args w
theorem zKR:zac Tryz.prog 48:=fun args w=>Tryz.call48 args w
theorem zIs:zac Tryz.prog 50:=fun args w=>Tryz.call50 args w
theorem zIl:zac Tryz.prog 51:=fun args w=>Tryz.call51 args w
theorem zGV:zac Tryz.prog 52:=fun args w=>Tryz.call52 args w
theorem zKX:zac Tryz.prog 53:=fun args w=>Tryz.call53 args w
theorem zJ9:zac Tryz.prog 54:=fun args w=>Tryz.call54 args w
theorem zJ2:zac Tryz.prog 55:=fun args w=>Tryz.call55 args w
theorem zHq:zac Tryz.prog 56:=fun args w=>Tryz.call56 args w
theorem zIR:zac Tryz.prog 57:=fun args w=>Tryz.call57 args w
theorem zG1:zac Tryz.prog 58:=fun args w=>Tryz.call58 args w
theorem zHc:zac Tryz.prog 59:=fun args w=>Tryz.call59 args w
theorem zI2:zac Tryz.prog 60:=fun args w=>Tryz.call60 args w
theorem zHe:zac Tryz.prog 61:=fun args w=>Tryz.call61 args w
theorem zIT:zac Tryz.prog 62:=fun args w=>Tryz.call62 args w
theorem zIr:zac Tryz.prog 63:=fun args w=>Tryz.call63 args w
theorem zIF:zac Tryz.prog 64:=fun args w=>Tryz.call64 args w
theorem zHp:zac Tryz.prog 65:=fun args w=>Tryz.call65 args w
theorem zKe:zac Tryz.prog 66:=fun args w=>Tryz.call66 args w
theorem zK3:zac Tryz.prog 67:=fun args w=>Tryz.call67 args w
theorem zIo:zac Tryz.prog 68:=fun args w=>Tryz.call68 args w
theorem zHa:zac Tryz.prog 70:=fun args w=>Tryz.call70 args w
theorem zJF:zac Tryz.prog 71:=fun args w=>Tryz.call71 args w
theorem zJW:zac Tryz.prog 72:=fun args w=>Tryz.call72 args w
theorem zKd:zac Tryz.prog 73:=fun args w=>Tryz.call73 args w
theorem zKZ:zac Tryz.prog 74:=fun args w=>Tryz.call74 args w
theorem zGX:zac Tryz.prog 75:=fun args w=>Tryz.call75 args w
theorem zJh:zac Tryz.prog 76:=fun args w=>Tryz.call76 args w
theorem zJD:zac Tryz.prog 77:=fun args w=>Tryz.call77 args w
theorem zKa:zac Tryz.prog 78:=fun args w=>Tryz.call78 args w
theorem zH3:zac Tryz.prog 79:=fun args w=>Tryz.call79 args w
theorem zKS:zac Tryz.prog 80:=fun args w=>Tryz.call80 args w
theorem zHB:zac Tryz.prog 81:=fun args w=>Tryz.call81 args w
theorem zIA:zac Tryz.prog 82:=fun args w=>Tryz.call82 args w
theorem zJP:zac Tryz.prog 83:=fun args w=>Tryz.call83 args w
theorem zGT:zac Tryz.prog 84:=fun args w=>Tryz.call84 args w
theorem zId:zac Tryz.prog 85:=fun args w=>Tryz.call85 args w
theorem zuB:zac Tryz.prog 86:=fun args w=>Tryz.call86 args w
theorem zH6:zac Tryz.prog 87:=fun args w=>Tryz.call87 args w
theorem zK1:zac Tryz.prog 88:=fun args w=>Tryz.call88 args w
theorem zIK:zac Tryz.prog 89:=fun args w=>Tryz.call89 args w
theorem zJR:zac Tryz.prog 90:=fun args w=>Tryz.call90 args w
theorem zKf:zac Tryz.prog 91:=fun args w=>Tryz.call91 args w
theorem zIB:zac Tryz.prog 92:=fun args w=>Tryz.call92 args w
theorem zJB:zac Tryz.prog 93:=fun args w=>Tryz.call93 args w
theorem zH0:zac Tryz.prog 94:=fun args w=>Tryz.call94 args w
theorem zJq:zac Tryz.prog 95:=fun args w=>Tryz.call95 args w
theorem zye:zac Tryz.prog 96:=fun args w=>Tryz.call96 args w
theorem zG8:zac Tryz.prog 97:=fun args w=>Tryz.call97 args w
theorem zJC:zac Tryz.prog 98:=fun args w=>Tryz.call98 args w
theorem zIp:zac Tryz.prog 99:=fun args w=>Tryz.call99 args w
theorem zCv:zac Tryz.prog 100:=fun args w=>Tryz.call100 args w
theorem zC0:zac Tryz.prog 101:=fun args w=>Tryz.call101 args w
theorem zFc:zac Tryz.prog 102:=fun args w=>Tryz.call102 args w
theorem zEx:zac Tryz.prog 103:=fun args w=>Tryz.call103 args w
theorem zET:zac Tryz.prog 104:=fun args w=>Tryz.call104 args w
theorem zE2:zac Tryz.prog 105:=fun args w=>Tryz.call105 args w
theorem zDe:zac Tryz.prog 106:=fun args w=>Tryz.call106 args w
theorem zCJ:zac Tryz.prog 108:=fun args w=>Tryz.call108 args w
theorem zEJ:zac Tryz.prog 109:=fun args w=>Tryz.call109 args w
theorem zCl:zac Tryz.prog 110:=fun args w=>Tryz.call110 args w
theorem zE4:zac Tryz.prog 111:=fun args w=>Tryz.call111 args w
theorem zDu:zac Tryz.prog 112:=fun args w=>Tryz.call112 args w
theorem zE1:zac Tryz.prog 113:=fun args w=>Tryz.call113 args w
theorem zFg:zac Tryz.prog 114:=fun args w=>Tryz.call114 args w
theorem zEd:zac Tryz.prog 115:=fun args w=>Tryz.call115 args w
theorem zEf:zac Tryz.prog 116:=fun args w=>Tryz.call116 args w
theorem zDr:zac Tryz.prog 117:=fun args w=>Tryz.call117 args w
theorem zE7:zac Tryz.prog 118:=fun args w=>Tryz.call118 args w
theorem zCy:zac Tryz.prog 119:=fun args w=>Tryz.call119 args w
theorem zCV:zac Tryz.prog 120:=fun args w=>Tryz.call120 args w
theorem zFi:zac Tryz.prog 121:=fun args w=>Tryz.call121 args w
theorem zCS:zac Tryz.prog 122:=fun args w=>Tryz.call122 args w
theorem zCM:zac Tryz.prog 123:=fun args w=>Tryz.call123 args w
theorem zCw:zac Tryz.prog 124:=fun args w=>Tryz.call124 args w
theorem zDx:zac Tryz.prog 125:=fun args w=>Tryz.call125 args w
theorem zEB:zac Tryz.prog 127:=fun args w=>Tryz.call127 args w
theorem zDo:zac Tryz.prog 128:=fun args w=>Tryz.call128 args w
theorem zFd:zac Tryz.prog 129:=fun args w=>Tryz.call129 args w
theorem zDg:zac Tryz.prog 130:=fun args w=>Tryz.call130 args w
theorem zD4:zac Tryz.prog 131:=fun args w=>Tryz.call131 args w
theorem zDc:zac Tryz.prog 132:=fun args w=>Tryz.call132 args w
theorem zCz:zac Tryz.prog 133:=fun args w=>Tryz.call133 args w
theorem zDA:zac Tryz.prog 134:=fun args w=>Tryz.call134 args w
theorem zED:zac Tryz.prog 135:=fun args w=>Tryz.call135 args w
theorem zDn:zac Tryz.prog 136:=fun args w=>Tryz.call136 args w
theorem zE8:zac Tryz.prog 137:=fun args w=>Tryz.call137 args w
theorem zDz:zac Tryz.prog 138:=fun args w=>Tryz.call138 args w
theorem zFe:zac Tryz.prog 139:=fun args w=>Tryz.call139 args w
theorem zEL:zac Tryz.prog 140:=fun args w=>Tryz.call140 args w
theorem zFj:zac Tryz.prog 141:=fun args w=>Tryz.call141 args w
theorem zCs:zac Tryz.prog 142:=fun args w=>Tryz.call142 args w
theorem zDf:zac Tryz.prog 143:=fun args w=>Tryz.call143 args w
theorem zEl:zac Tryz.prog 144:=fun args w=>Tryz.call144 args w
theorem zuu:zac Tryz.prog 145:=fun args w=>Tryz.call145 args w
theorem zug:zac Tryz.prog 146:=fun args w=>Tryz.call146 args w
theorem zEn:zac Tryz.prog 147:=fun args w=>Tryz.call147 args w
theorem zCx:zac Tryz.prog 148:=fun args w=>Tryz.call148 args w
theorem zDj:zac Tryz.prog 149:=fun args w=>Tryz.call149 args w
theorem zEk:zac Tryz.prog 150:=fun args w=>Tryz.call150 args w
theorem zC1:zac Tryz.prog 151:=fun args w=>Tryz.call151 args w
theorem zEg:zac Tryz.prog 152:=fun args w=>Tryz.call152 args w
theorem zDv:zac Tryz.prog 154:=fun args w=>Tryz.call154 args w
theorem zE5:zac Tryz.prog 155:=fun args w=>Tryz.call155 args w
theorem zC2:zac Tryz.prog 156:=fun args w=>Tryz.call156 args w
theorem zER:zac Tryz.prog 157:=fun args w=>Tryz.call157 args w
theorem zC9:zac Tryz.prog 158:=fun args w=>Tryz.call158 args w
theorem zFl:zac Tryz.prog 159:=fun args w=>Tryz.call159 args w
theorem zD0:zac Tryz.prog 160:=fun args w=>Tryz.call160 args w
theorem zDh:zac Tryz.prog 161:=fun args w=>Tryz.call161 args w
theorem zCn:zac Tryz.prog 162:=fun args w=>Tryz.call162 args w
theorem zFm:zac Tryz.prog 163:=fun args w=>Tryz.call163 args w
theorem zFn:zac Tryz.prog 164:=fun args w=>Tryz.call164 args w
theorem zDP:zac Tryz.prog 165:=fun args w=>Tryz.call165 args w
theorem zCW:zac Tryz.prog 166:=fun args w=>Tryz.call166 args w
theorem zEI:zac Tryz.prog 167:=fun args w=>Tryz.call167 args w
theorem zDN:zac Tryz.prog 168:=fun args w=>Tryz.call168 args w
theorem zDm:zac Tryz.prog 169:=fun args w=>Tryz.call169 args w
theorem zDU:zac Tryz.prog 170:=fun args w=>Tryz.call170 args w
theorem zCR:zac Tryz.prog 171:=fun args w=>Tryz.call171 args w
theorem zDO:zac Tryz.prog 172:=fun args w=>Tryz.call172 args w
theorem zDG:zac Tryz.prog 173:=fun args w=>Tryz.call173 args w
theorem zCQ:zac Tryz.prog 174:=fun args w=>Tryz.call174 args w
theorem zCN:zac Tryz.prog 175:=fun args w=>Tryz.call175 args w
theorem zEa:zac Tryz.prog 176:=fun args w=>Tryz.call176 args w
theorem zEO:zac Tryz.prog 177:=fun args w=>Tryz.call177 args w
theorem zCC:zac Tryz.prog 178:=fun args w=>Tryz.call178 args w
theorem zEw:zac Tryz.prog 179:=fun args w=>Tryz.call179 args w
theorem zCm:zac Tryz.prog 180:=fun args w=>Tryz.call180 args w
theorem zEZ:zac Tryz.prog 181:=fun args w=>Tryz.call181 args w
theorem zEv:zac Tryz.prog 182:=fun args w=>Tryz.call182 args w
theorem zEM:zac Tryz.prog 183:=fun args w=>Tryz.call183 args w
theorem zEK:zac Tryz.prog 184:=fun args w=>Tryz.call184 args w
theorem zEj:zac Tryz.prog 185:=fun args w=>Tryz.call185 args w
theorem zEQ:zac Tryz.prog 186:=fun args w=>Tryz.call186 args w
theorem zC5:zac Tryz.prog 187:=fun args w=>Tryz.call187 args w
theorem zDD:zac Tryz.prog 188:=fun args w=>Tryz.call188 args w
theorem zEF:zac Tryz.prog 189:=fun args w=>Tryz.call189 args w
theorem zDF:zac Tryz.prog 190:=fun args w=>Tryz.call190 args w
theorem zDB:zac Tryz.prog 191:=fun args w=>Tryz.call191 args w
theorem zDk:zac Tryz.prog 192:=fun args w=>Tryz.call192 args w
theorem zDK:zac Tryz.prog 193:=fun args w=>Tryz.call193 args w
theorem zFb:zac Tryz.prog 194:=fun args w=>Tryz.call194 args w
theorem zDi:zac Tryz.prog 195:=fun args w=>Tryz.call195 args w
theorem zEq:zac Tryz.prog 196:=fun args w=>Tryz.call196 args w
theorem zDL:zac Tryz.prog 197:=fun args w=>Tryz.call197 args w
theorem zD6:zac Tryz.prog 198:=fun args w=>Tryz.call198 args w
theorem zDQ:zac Tryz.prog 199:=fun args w=>Tryz.call199 args w
theorem zDt:zac Tryz.prog 200:=fun args w=>Tryz.call200 args w
theorem zCE:zac Tryz.prog 202:=fun args w=>Tryz.call202 args w
theorem zCp:zac Tryz.prog 203:=fun args w=>Tryz.call203 args w
theorem zCH:zac Tryz.prog 204:=fun args w=>Tryz.call204 args w
theorem zDJ:zac Tryz.prog 205:=fun args w=>Tryz.call205 args w
theorem zCF:zac Tryz.prog 206:=fun args w=>Tryz.call206 args w
theorem zC6:zac Tryz.prog 207:=fun args w=>Tryz.call207 args w
theorem zEm:zac Tryz.prog 209:=fun args w=>Tryz.call209 args w
end Go.Pm
