import Derived.Test.YtplemekcclpaoaaGreatDoorPmW
import Derived.Test.YtplemekcclpaoaaGreatDoorProg
import Derived.KernelRfl
namespace Go.Pm
open Go.Am
open Go.Proofs
set_option maxRecDepth 100000
variable{i:Nat}
@[go_sem] theorem tk2:tk Tryz.prog 2=some (false,1):=by kernel_rfl
@[go_sem] theorem zr2:zr Tryz.prog 2=some [.int .i64 0]:=by kernel_rfl
@[go_sem] theorem zV4:ezT Tryz.prog 2=0:=by kernel_rfl
@[go_sem] theorem zWp:zc2 Tryz.prog 2=some .i64:=by kernel_rfl
@[go_sem] theorem zWg:zaD Tryz.prog 2=false:=by kernel_rfl
@[go_sem] theorem tk3:tk Tryz.prog 3=some (false,1):=by kernel_rfl
@[go_sem] theorem zr3:zr Tryz.prog 3=some [.int .i64 0]:=by kernel_rfl
@[go_sem] theorem zWA:ezT Tryz.prog 3=0:=by kernel_rfl
@[go_sem] theorem zWz:zc2 Tryz.prog 3=some .i64:=by kernel_rfl
@[go_sem] theorem zWw:zaD Tryz.prog 3=false:=by kernel_rfl
@[go_sem] theorem tk4:tk Tryz.prog 4=some (false,1):=by kernel_rfl
@[go_sem] theorem zr4:zr Tryz.prog 4=some [.bool false]:=by kernel_rfl
@[go_sem] theorem zVH:ezT Tryz.prog 4=0:=by kernel_rfl
@[go_sem] theorem zVT:zir Tryz.prog 4=true:=by kernel_rfl
@[go_sem] theorem tk5:tk Tryz.prog 5=some (false,1):=by kernel_rfl
@[go_sem] theorem zr5:zr Tryz.prog 5=some [.int .u8 0]:=by kernel_rfl
@[go_sem] theorem zV2:ezT Tryz.prog 5=0:=by kernel_rfl
@[go_sem] theorem zVZ:zc2 Tryz.prog 5=some .u8:=by kernel_rfl
@[go_sem] theorem zWa:zaD Tryz.prog 5=false:=by kernel_rfl
@[go_sem] theorem tk9:tk Tryz.prog 9=some (false,1):=by kernel_rfl
@[go_sem] theorem zr9:zr Tryz.prog 9=some [.str ⟨#[]⟩]:=by kernel_rfl
@[go_sem] theorem zVJ:ezT Tryz.prog 9=0:=by kernel_rfl
@[go_sem] theorem zVS:zaD Tryz.prog 9=true:=by kernel_rfl
@[go_sem] theorem zVQ:tk Tryz.prog 20=some (false,1):=by kernel_rfl
@[go_sem] theorem zVW:zr Tryz.prog 20=some [.nili]:=by kernel_rfl
@[go_sem] theorem zSY:ezT Tryz.prog 20=0:=by kernel_rfl
@[go_sem] theorem zV1:tk Tryz.prog 23=some (true,3):=by kernel_rfl
@[go_sem] theorem zWh:zr Tryz.prog 23=some [.int .i64 0,.int .i64 0,.int .i64 0]:=by kernel_rfl
@[go_sem] theorem zTj:ezT Tryz.prog 23=0:=by kernel_rfl
@[go_sem] theorem zUR:zdj Tryz.prog 23=some (zah Tryz.prog 23,[.int .i64 0,.int .i64 0,.int .i64 0]):=by kernel_rfl
@[go_sem] theorem zMc:zah Tryz.prog 23 0=some (0,1):=by kernel_rfl
@[go_sem] theorem zPK:zam Tryz.prog 23 0=0:=by kernel_rfl
@[go_sem] theorem zOc:zah Tryz.prog 23 1=some (1,1):=by kernel_rfl
@[go_sem] theorem zPt:zam Tryz.prog 23 1=0:=by kernel_rfl
@[go_sem] theorem zPC:zah Tryz.prog 23 2=some (2,1):=by kernel_rfl
@[go_sem] theorem zMQ:zam Tryz.prog 23 2=0:=by kernel_rfl
@[go_sem] theorem zWv:tk Tryz.prog 25=some (true,5):=by kernel_rfl
@[go_sem] theorem zWG:zr Tryz.prog 25=some [.int .i64 0,.int .i64 0,.int .i64 0,.int .i64 0,.int .i64 0]:=by kernel_rfl
@[go_sem] theorem zUy:ezT Tryz.prog 25=0:=by kernel_rfl
@[go_sem] theorem zTr:zdj Tryz.prog 25=some (zah Tryz.prog 25,[.int .i64 0,.int .i64 0,.int .i64 0,.int .i64 0,.int .i64 0]):=by kernel_rfl
@[go_sem] theorem zMx:zah Tryz.prog 25 0=some (0,1):=by kernel_rfl
@[go_sem] theorem zNc:zam Tryz.prog 25 0=0:=by kernel_rfl
@[go_sem] theorem zNi:zah Tryz.prog 25 1=some (1,1):=by kernel_rfl
@[go_sem] theorem zN4:zam Tryz.prog 25 1=0:=by kernel_rfl
@[go_sem] theorem zO3:zah Tryz.prog 25 2=some (2,1):=by kernel_rfl
@[go_sem] theorem zMn:zam Tryz.prog 25 2=0:=by kernel_rfl
@[go_sem] theorem zMy:zah Tryz.prog 25 3=some (3,1):=by kernel_rfl
@[go_sem] theorem zNR:zam Tryz.prog 25 3=0:=by kernel_rfl
@[go_sem] theorem zNJ:zah Tryz.prog 25 4=some (4,1):=by kernel_rfl
@[go_sem] theorem zQg:zam Tryz.prog 25 4=0:=by kernel_rfl
@[go_sem] theorem zWd:tk Tryz.prog 27=some (true,13):=by kernel_rfl
@[go_sem] theorem zWn:zr Tryz.prog 27=some [.int .i64 0,.int .i64 0,.int .i64 0,.int .i64 0,.int .i64 0,.int .i64 0,.int .i64 0,.int .i64 0,.int .i64 0,.int .i64 0,.int .i64 0,.int .i64 0,.int .i64 0]:=by kernel_rfl
@[go_sem] theorem zVk:ezT Tryz.prog 27=0:=by kernel_rfl
@[go_sem] theorem zTM:zdj Tryz.prog 27=some (zah Tryz.prog 27,[.int .i64 0,.int .i64 0,.int .i64 0,.int .i64 0,.int .i64 0,.int .i64 0,.int .i64 0,.int .i64 0,.int .i64 0,.int .i64 0,.int .i64 0,.int .i64 0,.int .i64 0]):=by kernel_rfl
@[go_sem] theorem zON:zah Tryz.prog 27 0=some (0,3):=by kernel_rfl
@[go_sem] theorem zQb:zam Tryz.prog 27 0=0:=by kernel_rfl
@[go_sem] theorem zP9:zah Tryz.prog 27 1=some (3,5):=by kernel_rfl
@[go_sem] theorem zOM:zam Tryz.prog 27 1=0:=by kernel_rfl
@[go_sem] theorem zMp:zah Tryz.prog 27 2=some (8,1):=by kernel_rfl
@[go_sem] theorem zLP:zam Tryz.prog 27 2=0:=by kernel_rfl
@[go_sem] theorem zM9:zah Tryz.prog 27 3=some (9,1):=by kernel_rfl
@[go_sem] theorem zND:zam Tryz.prog 27 3=0:=by kernel_rfl
@[go_sem] theorem zN8:zah Tryz.prog 27 4=some (10,1):=by kernel_rfl
@[go_sem] theorem zOh:zam Tryz.prog 27 4=0:=by kernel_rfl
@[go_sem] theorem zME:zah Tryz.prog 27 5=some (11,1):=by kernel_rfl
@[go_sem] theorem zQc:zam Tryz.prog 27 5=0:=by kernel_rfl
@[go_sem] theorem zOW:zah Tryz.prog 27 6=some (12,1):=by kernel_rfl
@[go_sem] theorem zM1:zam Tryz.prog 27 6=0:=by kernel_rfl
@[go_sem] theorem zWi:tk Tryz.prog 28=some (false,1):=by kernel_rfl
@[go_sem] theorem zWe:zr Tryz.prog 28=some [.sl true 1 []]:=by kernel_rfl
@[go_sem] theorem zVi:ezT Tryz.prog 28=1:=by kernel_rfl
@[go_sem] theorem zVD:zav Tryz.prog 28=some 3:=by kernel_rfl
@[go_sem] theorem zU0:zaD Tryz.prog 28=false:=by kernel_rfl
@[go_sem] theorem zUh:esz Tryz.prog 28=some 1:=by kernel_rfl
@[go_sem] theorem zKQ:ez Tryz.prog 28=some (1,8,[.int .i64 0]):=by kernel_rfl
@[go_sem] theorem zUC :zam Tryz.prog 28 i=0:=by kernel_rfl
@[go_sem] theorem zV8:tk Tryz.prog 29=some (false,1):=by kernel_rfl
@[go_sem] theorem zWk:zr Tryz.prog 29=some [.sl true 6 []]:=by kernel_rfl
@[go_sem] theorem zU1:ezT Tryz.prog 29=6:=by kernel_rfl
@[go_sem] theorem zVe:zav Tryz.prog 29=some 77:=by kernel_rfl
@[go_sem] theorem zTp:zaD Tryz.prog 29=false:=by kernel_rfl
@[go_sem] theorem zS3:esz Tryz.prog 29=some 6:=by kernel_rfl
@[go_sem] theorem zVN:ez Tryz.prog 29=some (6,112,[.int .i64 0,.int .i64 0,.sl false 1 [],.sl false 1 [],.sl false 1 [],.sl false 1 []]):=by kernel_rfl
@[go_sem] theorem zTD :zam Tryz.prog 29 i=0:=by kernel_rfl
@[go_sem] theorem zWy:tk Tryz.prog 31=some (true,2):=by kernel_rfl
@[go_sem] theorem zWj:zr Tryz.prog 31=some [.sl true 1 [],.sl true 6 []]:=by kernel_rfl
@[go_sem] theorem zTk:ezT Tryz.prog 31=0:=by kernel_rfl
@[go_sem] theorem zVc:zdj Tryz.prog 31=some (zah Tryz.prog 31,[.sl true 1 [],.sl true 6 []]):=by kernel_rfl
@[go_sem] theorem zL9:zah Tryz.prog 31 0=some (0,1):=by kernel_rfl
@[go_sem] theorem zQi:zam Tryz.prog 31 0=1:=by kernel_rfl
@[go_sem] theorem zO6:zah Tryz.prog 31 1=some (1,1):=by kernel_rfl
@[go_sem] theorem zPL:zam Tryz.prog 31 1=6:=by kernel_rfl
@[go_sem] theorem zWl:tk Tryz.prog 35=some (true,3):=by kernel_rfl
@[go_sem] theorem zVL:zr Tryz.prog 35=some [.int .i64 0,.int .i64 0,.int .i64 0]:=by kernel_rfl
@[go_sem] theorem zUO:ezT Tryz.prog 35=0:=by kernel_rfl
@[go_sem] theorem zUS:zdj Tryz.prog 35=some (zah Tryz.prog 35,[.int .i64 0,.int .i64 0,.int .i64 0]):=by kernel_rfl
@[go_sem] theorem zOn:zah Tryz.prog 35 0=some (0,1):=by kernel_rfl
@[go_sem] theorem zN2:zam Tryz.prog 35 0=0:=by kernel_rfl
@[go_sem] theorem zLR:zah Tryz.prog 35 1=some (1,1):=by kernel_rfl
@[go_sem] theorem zMu:zam Tryz.prog 35 1=0:=by kernel_rfl
@[go_sem] theorem zNZ:zah Tryz.prog 35 2=some (2,1):=by kernel_rfl
@[go_sem] theorem zP8:zam Tryz.prog 35 2=0:=by kernel_rfl
@[go_sem] theorem zV9:tk Tryz.prog 36=some (true,5):=by kernel_rfl
@[go_sem] theorem zV5:zr Tryz.prog 36=some [.int .i64 0,.int .i64 0,.int .i64 0,.int .i64 0,.int .i64 0]:=by kernel_rfl
@[go_sem] theorem zUr:ezT Tryz.prog 36=0:=by kernel_rfl
@[go_sem] theorem zUK:zdj Tryz.prog 36=some (zah Tryz.prog 36,[.int .i64 0,.int .i64 0,.int .i64 0,.int .i64 0,.int .i64 0]):=by kernel_rfl
@[go_sem] theorem zOk:zah Tryz.prog 36 0=some (0,1):=by kernel_rfl
@[go_sem] theorem zQh:zam Tryz.prog 36 0=0:=by kernel_rfl
@[go_sem] theorem zOG:zah Tryz.prog 36 1=some (1,1):=by kernel_rfl
@[go_sem] theorem zN1:zam Tryz.prog 36 1=0:=by kernel_rfl
@[go_sem] theorem zMb:zah Tryz.prog 36 2=some (2,1):=by kernel_rfl
@[go_sem] theorem zMf:zam Tryz.prog 36 2=0:=by kernel_rfl
@[go_sem] theorem zPh:zah Tryz.prog 36 3=some (3,1):=by kernel_rfl
@[go_sem] theorem zMO:zam Tryz.prog 36 3=0:=by kernel_rfl
@[go_sem] theorem zPX:zah Tryz.prog 36 4=some (4,1):=by kernel_rfl
@[go_sem] theorem zL1:zam Tryz.prog 36 4=0:=by kernel_rfl
@[go_sem] theorem zVV:tk Tryz.prog 38=some (true,13):=by kernel_rfl
@[go_sem] theorem zVP:zr Tryz.prog 38=some [.int .i64 0,.int .i64 0,.int .i64 0,.int .i64 0,.int .i64 0,.int .i64 0,.int .i64 0,.int .i64 0,.int .i64 0,.int .i64 0,.int .i64 0,.int .i64 0,.int .i64 0]:=by kernel_rfl
@[go_sem] theorem zU9:ezT Tryz.prog 38=0:=by kernel_rfl
@[go_sem] theorem zVx:zdj Tryz.prog 38=some (zah Tryz.prog 38,[.int .i64 0,.int .i64 0,.int .i64 0,.int .i64 0,.int .i64 0,.int .i64 0,.int .i64 0,.int .i64 0,.int .i64 0,.int .i64 0,.int .i64 0,.int .i64 0,.int .i64 0]):=by kernel_rfl
@[go_sem] theorem zNC:zah Tryz.prog 38 0=some (0,3):=by kernel_rfl
@[go_sem] theorem zN7:zam Tryz.prog 38 0=0:=by kernel_rfl
@[go_sem] theorem zOg:zah Tryz.prog 38 1=some (3,5):=by kernel_rfl
@[go_sem] theorem zNf:zam Tryz.prog 38 1=0:=by kernel_rfl
@[go_sem] theorem zL6:zah Tryz.prog 38 2=some (8,1):=by kernel_rfl
@[go_sem] theorem zPl:zam Tryz.prog 38 2=0:=by kernel_rfl
@[go_sem] theorem zPM:zah Tryz.prog 38 3=some (9,1):=by kernel_rfl
@[go_sem] theorem zNS:zam Tryz.prog 38 3=0:=by kernel_rfl
@[go_sem] theorem zLZ:zah Tryz.prog 38 4=some (10,1):=by kernel_rfl
@[go_sem] theorem zNs:zam Tryz.prog 38 4=0:=by kernel_rfl
@[go_sem] theorem zMg:zah Tryz.prog 38 5=some (11,1):=by kernel_rfl
@[go_sem] theorem zNt:zam Tryz.prog 38 5=0:=by kernel_rfl
@[go_sem] theorem zPx:zah Tryz.prog 38 6=some (12,1):=by kernel_rfl
@[go_sem] theorem zPa:zam Tryz.prog 38 6=0:=by kernel_rfl
@[go_sem] theorem zVM:tk Tryz.prog 40=some (false,1):=by kernel_rfl
@[go_sem] theorem zVK:zr Tryz.prog 40=some [.sl true 6 []]:=by kernel_rfl
@[go_sem] theorem zST:ezT Tryz.prog 40=6:=by kernel_rfl
@[go_sem] theorem zUw:zav Tryz.prog 40=some 84:=by kernel_rfl
@[go_sem] theorem zUF:zaD Tryz.prog 40=false:=by kernel_rfl
@[go_sem] theorem zUA:esz Tryz.prog 40=some 6:=by kernel_rfl
@[go_sem] theorem zWu:ez Tryz.prog 40=some (6,112,[.int .i64 0,.int .i64 0,.sl false 1 [],.sl false 1 [],.sl false 1 [],.sl false 1 []]):=by kernel_rfl
@[go_sem] theorem zTc :zam Tryz.prog 40 i=0:=by kernel_rfl
@[go_sem] theorem zV7:tk Tryz.prog 42=some (true,2):=by kernel_rfl
@[go_sem] theorem zWF:zr Tryz.prog 42=some [.sl true 1 [],.sl true 6 []]:=by kernel_rfl
@[go_sem] theorem zTY:ezT Tryz.prog 42=0:=by kernel_rfl
@[go_sem] theorem zSW:zdj Tryz.prog 42=some (zah Tryz.prog 42,[.sl true 1 [],.sl true 6 []]):=by kernel_rfl
@[go_sem] theorem zMF:zah Tryz.prog 42 0=some (0,1):=by kernel_rfl
@[go_sem] theorem zOL:zam Tryz.prog 42 0=1:=by kernel_rfl
@[go_sem] theorem zNV:zah Tryz.prog 42 1=some (1,1):=by kernel_rfl
@[go_sem] theorem zMM:zam Tryz.prog 42 1=6:=by kernel_rfl
@[go_sem] theorem zVU:tk Tryz.prog 63=some (true,14):=by kernel_rfl
@[go_sem] theorem zVI:zr Tryz.prog 63=some [.int .i64 0,.int .i64 0,.int .i64 0,.int .i64 0,.int .i64 0,.int .i64 0,.int .i64 0,.int .i64 0,.int .i64 0,.int .i64 0,.int .i64 0,.int .i64 0,.int .i64 0,.sl true 1 []]:=by kernel_rfl
@[go_sem] theorem zTd:ezT Tryz.prog 63=0:=by kernel_rfl
@[go_sem] theorem zTf:zdj Tryz.prog 63=some (zah Tryz.prog 63,[.int .i64 0,.int .i64 0,.int .i64 0,.int .i64 0,.int .i64 0,.int .i64 0,.int .i64 0,.int .i64 0,.int .i64 0,.int .i64 0,.int .i64 0,.int .i64 0,.int .i64 0,.sl true 1 []]):=by kernel_rfl
@[go_sem] theorem zPy:zah Tryz.prog 63 0=some (0,13):=by kernel_rfl
@[go_sem] theorem zPo:zam Tryz.prog 63 0=0:=by kernel_rfl
@[go_sem] theorem zMA:zah Tryz.prog 63 1=some (13,1):=by kernel_rfl
@[go_sem] theorem zMH:zam Tryz.prog 63 1=1:=by kernel_rfl
@[go_sem] theorem zV0:tk Tryz.prog 69=some (true,9):=by kernel_rfl
@[go_sem] theorem zWx:zr Tryz.prog 69=some [.int .i64 0,.int .i64 0,.int .i64 0,.int .i64 0,.int .i64 0,.int .i64 0,.int .i64 0,.int .i64 0,.int .i64 0]:=by kernel_rfl
@[go_sem] theorem zUf:ezT Tryz.prog 69=0:=by kernel_rfl
@[go_sem] theorem zUL:zdj Tryz.prog 69=some (zah Tryz.prog 69,[.int .i64 0,.int .i64 0,.int .i64 0,.int .i64 0,.int .i64 0,.int .i64 0,.int .i64 0,.int .i64 0,.int .i64 0]):=by kernel_rfl
@[go_sem] theorem zMB:zah Tryz.prog 69 0=some (0,5):=by kernel_rfl
@[go_sem] theorem zNB:zam Tryz.prog 69 0=0:=by kernel_rfl
@[go_sem] theorem zOR:zah Tryz.prog 69 1=some (5,1):=by kernel_rfl
@[go_sem] theorem zMm:zam Tryz.prog 69 1=0:=by kernel_rfl
@[go_sem] theorem zMT:zah Tryz.prog 69 2=some (6,1):=by kernel_rfl
@[go_sem] theorem zL4:zam Tryz.prog 69 2=0:=by kernel_rfl
@[go_sem] theorem zM6:zah Tryz.prog 69 3=some (7,1):=by kernel_rfl
@[go_sem] theorem zQe:zam Tryz.prog 69 3=0:=by kernel_rfl
@[go_sem] theorem zPi:zah Tryz.prog 69 4=some (8,1):=by kernel_rfl
@[go_sem] theorem zPA:zam Tryz.prog 69 4=0:=by kernel_rfl
@[go_sem] theorem zWs:tk Tryz.prog 75=some (true,3):=by kernel_rfl
@[go_sem] theorem zWB:zr Tryz.prog 75=some [.sl true 1 [],.sl true 1 [],.sl true 1 []]:=by kernel_rfl
@[go_sem] theorem zVw:ezT Tryz.prog 75=0:=by kernel_rfl
@[go_sem] theorem zUq:zdj Tryz.prog 75=some (zah Tryz.prog 75,[.sl true 1 [],.sl true 1 [],.sl true 1 []]):=by kernel_rfl
@[go_sem] theorem zOt:zah Tryz.prog 75 0=some (0,1):=by kernel_rfl
@[go_sem] theorem zM3:zam Tryz.prog 75 0=1:=by kernel_rfl
@[go_sem] theorem zMZ:zah Tryz.prog 75 1=some (1,1):=by kernel_rfl
@[go_sem] theorem zPJ:zam Tryz.prog 75 1=1:=by kernel_rfl
@[go_sem] theorem zLV:zah Tryz.prog 75 2=some (2,1):=by kernel_rfl
@[go_sem] theorem zOE:zam Tryz.prog 75 2=1:=by kernel_rfl
@[go_sem] theorem zWD:tk Tryz.prog 77=some (true,6):=by kernel_rfl
@[go_sem] theorem zV3:zr Tryz.prog 77=some [.int .i64 0,.int .i64 0,.sl true 1 [],.sl true 1 [],.sl true 1 [],.sl true 1 []]:=by kernel_rfl
@[go_sem] theorem zSS:ezT Tryz.prog 77=0:=by kernel_rfl
@[go_sem] theorem zTN:zdj Tryz.prog 77=some (zah Tryz.prog 77,[.int .i64 0,.int .i64 0,.sl true 1 [],.sl true 1 [],.sl true 1 [],.sl true 1 []]):=by kernel_rfl
@[go_sem] theorem zNq:zah Tryz.prog 77 0=some (0,1):=by kernel_rfl
@[go_sem] theorem zOx:zam Tryz.prog 77 0=0:=by kernel_rfl
@[go_sem] theorem zN9:zah Tryz.prog 77 1=some (1,1):=by kernel_rfl
@[go_sem] theorem zPF:zam Tryz.prog 77 1=0:=by kernel_rfl
@[go_sem] theorem zPY:zah Tryz.prog 77 2=some (2,1):=by kernel_rfl
@[go_sem] theorem zNl:zam Tryz.prog 77 2=1:=by kernel_rfl
@[go_sem] theorem zMh:zah Tryz.prog 77 3=some (3,3):=by kernel_rfl
@[go_sem] theorem zPV:zam Tryz.prog 77 3=0:=by kernel_rfl
@[go_sem] theorem zWE:tk Tryz.prog 82=some (true,3):=by kernel_rfl
@[go_sem] theorem zV6:zr Tryz.prog 82=some [.sl true 1 [],.sl true 1 [],.sl true 1 []]:=by kernel_rfl
@[go_sem] theorem zSV:ezT Tryz.prog 82=0:=by kernel_rfl
@[go_sem] theorem zUv:zdj Tryz.prog 82=some (zah Tryz.prog 82,[.sl true 1 [],.sl true 1 [],.sl true 1 []]):=by kernel_rfl
@[go_sem] theorem zNg:zah Tryz.prog 82 0=some (0,1):=by kernel_rfl
@[go_sem] theorem zOu:zam Tryz.prog 82 0=1:=by kernel_rfl
@[go_sem] theorem zOi:zah Tryz.prog 82 1=some (1,1):=by kernel_rfl
@[go_sem] theorem zOy:zam Tryz.prog 82 1=1:=by kernel_rfl
@[go_sem] theorem zN0:zah Tryz.prog 82 2=some (2,1):=by kernel_rfl
@[go_sem] theorem zN6:zam Tryz.prog 82 2=1:=by kernel_rfl
@[go_sem] theorem zWb:tk Tryz.prog 84=some (true,6):=by kernel_rfl
@[go_sem] theorem zWo:zr Tryz.prog 84=some [.int .i64 0,.int .i64 0,.sl true 1 [],.sl true 1 [],.sl true 1 [],.sl true 1 []]:=by kernel_rfl
@[go_sem] theorem zTm:ezT Tryz.prog 84=0:=by kernel_rfl
@[go_sem] theorem zTG:zdj Tryz.prog 84=some (zah Tryz.prog 84,[.int .i64 0,.int .i64 0,.sl true 1 [],.sl true 1 [],.sl true 1 [],.sl true 1 []]):=by kernel_rfl
@[go_sem] theorem zMi:zah Tryz.prog 84 0=some (0,1):=by kernel_rfl
@[go_sem] theorem zM2:zam Tryz.prog 84 0=0:=by kernel_rfl
@[go_sem] theorem zNh:zah Tryz.prog 84 1=some (1,1):=by kernel_rfl
@[go_sem] theorem zPm:zam Tryz.prog 84 1=0:=by kernel_rfl
@[go_sem] theorem zPq:zah Tryz.prog 84 2=some (2,1):=by kernel_rfl
@[go_sem] theorem zLX:zam Tryz.prog 84 2=1:=by kernel_rfl
@[go_sem] theorem zMP:zah Tryz.prog 84 3=some (3,3):=by kernel_rfl
@[go_sem] theorem zPP:zam Tryz.prog 84 3=0:=by kernel_rfl
@[go_sem] theorem zVR:tk Tryz.prog 85=some (false,1):=by kernel_rfl
@[go_sem] theorem zVY:zr Tryz.prog 85=some [.sl true 2 []]:=by kernel_rfl
@[go_sem] theorem zUs:ezT Tryz.prog 85=2:=by kernel_rfl
@[go_sem] theorem zTV:zav Tryz.prog 85=some 160:=by kernel_rfl
@[go_sem] theorem zUk:zaD Tryz.prog 85=false:=by kernel_rfl
@[go_sem] theorem zT7:esz Tryz.prog 85=some 2:=by kernel_rfl
@[go_sem] theorem zWc:ez Tryz.prog 85=some (2,16,[.int .i64 0,.int .i64 0]):=by kernel_rfl
@[go_sem] theorem zTW :zam Tryz.prog 85 i=0:=by kernel_rfl
@[go_sem] theorem zWf:tk Tryz.prog 86=some (false,1):=by kernel_rfl
@[go_sem] theorem zWr:zr Tryz.prog 86=some [.sl true 3 []]:=by kernel_rfl
@[go_sem] theorem zU5:ezT Tryz.prog 86=3:=by kernel_rfl
@[go_sem] theorem zVq:zav Tryz.prog 86=some 82:=by kernel_rfl
@[go_sem] theorem zTi:zaD Tryz.prog 86=false:=by kernel_rfl
@[go_sem] theorem zUd:esz Tryz.prog 86=some 3:=by kernel_rfl
@[go_sem] theorem zVX:ez Tryz.prog 86=some (3,72,[.sl false 1 [],.sl false 1 [],.sl false 1 []]):=by kernel_rfl
@[go_sem] theorem zUe :zam Tryz.prog 86 i=0:=by kernel_rfl
@[go_sem] theorem zVO:tk Tryz.prog 88=some (true,6):=by kernel_rfl
@[go_sem] theorem zVG:zr Tryz.prog 88=some [.int .i64 0,.sl true 2 [],.sl true 3 [],.sl true 1 [],.sl true 1 [],.sl true 1 []]:=by kernel_rfl
@[go_sem] theorem zUU:ezT Tryz.prog 88=0:=by kernel_rfl
@[go_sem] theorem zUl:zdj Tryz.prog 88=some (zah Tryz.prog 88,[.int .i64 0,.sl true 2 [],.sl true 3 [],.sl true 1 [],.sl true 1 [],.sl true 1 []]):=by kernel_rfl
@[go_sem] theorem zPs:zah Tryz.prog 88 0=some (0,1):=by kernel_rfl
@[go_sem] theorem zNb:zam Tryz.prog 88 0=0:=by kernel_rfl
@[go_sem] theorem zNn:zah Tryz.prog 88 1=some (1,1):=by kernel_rfl
@[go_sem] theorem zOB:zam Tryz.prog 88 1=2:=by kernel_rfl
@[go_sem] theorem zMl:zah Tryz.prog 88 2=some (2,1):=by kernel_rfl
@[go_sem] theorem zNU:zam Tryz.prog 88 2=3:=by kernel_rfl
@[go_sem] theorem zN3:zah Tryz.prog 88 3=some (3,3):=by kernel_rfl
@[go_sem] theorem zQd:zam Tryz.prog 88 3=0:=by kernel_rfl
@[go_sem] theorem zWq:tk Tryz.prog 97=some (false,1):=by kernel_rfl
@[go_sem] theorem zWC:zr Tryz.prog 97=some [.nilf]:=by kernel_rfl
@[go_sem] theorem zTa:ezT Tryz.prog 97=0:=by kernel_rfl
@[go_sem] theorem zTL:tk Tryz.prog 115=some (true,2):=by kernel_rfl
@[go_sem] theorem zUI:zr Tryz.prog 115=some [.int .i64 0,.sl true 1 []]:=by kernel_rfl
@[go_sem] theorem zSO:ezT Tryz.prog 115=0:=by kernel_rfl
@[go_sem] theorem zRj:zdj Tryz.prog 115=some (zah Tryz.prog 115,[.int .i64 0,.sl true 1 []]):=by kernel_rfl
@[go_sem] theorem zJt:zah Tryz.prog 115 0=some (0,1):=by kernel_rfl
@[go_sem] theorem zLJ:zam Tryz.prog 115 0=0:=by kernel_rfl
@[go_sem] theorem zKR:zah Tryz.prog 115 1=some (1,1):=by kernel_rfl
@[go_sem] theorem zHR:zam Tryz.prog 115 1=1:=by kernel_rfl
@[go_sem] theorem zUV:tk Tryz.prog 130=some (false,1):=by kernel_rfl
@[go_sem] theorem zU3:zr Tryz.prog 130=some [.int .u64 0]:=by kernel_rfl
@[go_sem] theorem zRO:ezT Tryz.prog 130=0:=by kernel_rfl
@[go_sem] theorem zSu:zc2 Tryz.prog 130=some .u64:=by kernel_rfl
@[go_sem] theorem zRF:zaD Tryz.prog 130=false:=by kernel_rfl
@[go_sem] theorem zUi:tk Tryz.prog 149=some (false,1):=by kernel_rfl
@[go_sem] theorem zTA:zr Tryz.prog 149=some [.sl true 1 []]:=by kernel_rfl
@[go_sem] theorem zRv:ezT Tryz.prog 149=1:=by kernel_rfl
@[go_sem] theorem zSq:zav Tryz.prog 149=some 28:=by kernel_rfl
@[go_sem] theorem zRU:zaD Tryz.prog 149=false:=by kernel_rfl
@[go_sem] theorem zSP:esz Tryz.prog 149=some 1:=by kernel_rfl
@[go_sem] theorem zTh:ez Tryz.prog 149=some (1,24,[.sl false 1 []]):=by kernel_rfl
@[go_sem] theorem zRg :zam Tryz.prog 149 i=1:=by kernel_rfl
@[go_sem] theorem zVh:tk Tryz.prog 160=some (true,2):=by kernel_rfl
@[go_sem] theorem zS2:zr Tryz.prog 160=some [.int .i64 0,.int .i64 0]:=by kernel_rfl
@[go_sem] theorem zSe:ezT Tryz.prog 160=0:=by kernel_rfl
@[go_sem] theorem zQj:zdj Tryz.prog 160=some (zah Tryz.prog 160,[.int .i64 0,.int .i64 0]):=by kernel_rfl
@[go_sem] theorem zI1:zah Tryz.prog 160 0=some (0,1):=by kernel_rfl
@[go_sem] theorem zJb:zam Tryz.prog 160 0=0:=by kernel_rfl
@[go_sem] theorem zKg:zah Tryz.prog 160 1=some (1,1):=by kernel_rfl
@[go_sem] theorem zKc:zam Tryz.prog 160 1=0:=by kernel_rfl
@[go_sem] theorem zS9:tk Tryz.prog 163=some (false,1):=by kernel_rfl
@[go_sem] theorem zUu:zr Tryz.prog 163=some [.sl true 4 []]:=by kernel_rfl
@[go_sem] theorem zQq:ezT Tryz.prog 163=4:=by kernel_rfl
@[go_sem] theorem zSn:zav Tryz.prog 163=some 196:=by kernel_rfl
@[go_sem] theorem zRm:zaD Tryz.prog 163=false:=by kernel_rfl
@[go_sem] theorem zR3:esz Tryz.prog 163=some 4:=by kernel_rfl
@[go_sem] theorem zU8:ez Tryz.prog 163=some (4,32,[.int .i64 0,.int .i64 0,.int .i64 0,.int .i64 0]):=by kernel_rfl
@[go_sem] theorem zQr :zam Tryz.prog 163 i=0:=by kernel_rfl
@[go_sem] theorem zUE:tk Tryz.prog 170=some (false,1):=by kernel_rfl
@[go_sem] theorem zUG:zr Tryz.prog 170=some [.int .u32 0]:=by kernel_rfl
@[go_sem] theorem zSg:ezT Tryz.prog 170=0:=by kernel_rfl
@[go_sem] theorem zRK:zc2 Tryz.prog 170=some .u32:=by kernel_rfl
@[go_sem] theorem zQl:zaD Tryz.prog 170=false:=by kernel_rfl
@[go_sem] theorem zUW:tk Tryz.prog 173=some (false,1):=by kernel_rfl
@[go_sem] theorem zS4:zr Tryz.prog 173=some [.int .u64 0]:=by kernel_rfl
@[go_sem] theorem zRf:ezT Tryz.prog 173=0:=by kernel_rfl
@[go_sem] theorem zR8:zc2 Tryz.prog 173=some .u64:=by kernel_rfl
@[go_sem] theorem zRB:zaD Tryz.prog 173=false:=by kernel_rfl
@[go_sem] theorem zUT:tk Tryz.prog 196=some (true,4):=by kernel_rfl
@[go_sem] theorem zTu:zr Tryz.prog 196=some [.int .i64 0,.int .i64 0,.int .i64 0,.int .i64 0]:=by kernel_rfl
@[go_sem] theorem zRl:ezT Tryz.prog 196=0:=by kernel_rfl
@[go_sem] theorem zQ6:zdj Tryz.prog 196=some (zah Tryz.prog 196,[.int .i64 0,.int .i64 0,.int .i64 0,.int .i64 0]):=by kernel_rfl
@[go_sem] theorem zIp:zah Tryz.prog 196 0=some (0,1):=by kernel_rfl
@[go_sem] theorem zIt:zam Tryz.prog 196 0=0:=by kernel_rfl
@[go_sem] theorem zIy:zah Tryz.prog 196 1=some (1,1):=by kernel_rfl
@[go_sem] theorem zJI:zam Tryz.prog 196 1=0:=by kernel_rfl
@[go_sem] theorem zKW:zah Tryz.prog 196 2=some (2,1):=by kernel_rfl
@[go_sem] theorem zJo:zam Tryz.prog 196 2=0:=by kernel_rfl
@[go_sem] theorem zLO:zah Tryz.prog 196 3=some (3,1):=by kernel_rfl
@[go_sem] theorem zHK:zam Tryz.prog 196 3=0:=by kernel_rfl
@[go_sem] theorem zVl:tk Tryz.prog 200=some (false,1):=by kernel_rfl
@[go_sem] theorem zUm:zr Tryz.prog 200=some [.nilp]:=by kernel_rfl
@[go_sem] theorem zRG:ezT Tryz.prog 200=0:=by kernel_rfl
@[go_sem] theorem zT5:tk Tryz.prog 202=some (true,2):=by kernel_rfl
@[go_sem] theorem zVj:zr Tryz.prog 202=some [.sl true 1 [],.bool false]:=by kernel_rfl
@[go_sem] theorem zRo:ezT Tryz.prog 202=0:=by kernel_rfl
@[go_sem] theorem zQH:zdj Tryz.prog 202=some (zah Tryz.prog 202,[.sl true 1 [],.bool false]):=by kernel_rfl
@[go_sem] theorem zLe:zah Tryz.prog 202 0=some (0,1):=by kernel_rfl
@[go_sem] theorem zKq:zam Tryz.prog 202 0=1:=by kernel_rfl
@[go_sem] theorem zIX:zah Tryz.prog 202 1=some (1,1):=by kernel_rfl
@[go_sem] theorem zLa:zam Tryz.prog 202 1=0:=by kernel_rfl
@[go_sem] theorem zSX:tk Tryz.prog 208=some (false,1):=by kernel_rfl
@[go_sem] theorem zUp:zr Tryz.prog 208=some [.nilf]:=by kernel_rfl
@[go_sem] theorem zSc:ezT Tryz.prog 208=0:=by kernel_rfl
@[go_sem] theorem zTv:tk Tryz.prog 218=some (false,1):=by kernel_rfl
@[go_sem] theorem zT1:zr Tryz.prog 218=some [.sl true 1 []]:=by kernel_rfl
@[go_sem] theorem zQX:ezT Tryz.prog 218=1:=by kernel_rfl
@[go_sem] theorem zQL:zav Tryz.prog 218=some 5:=by kernel_rfl
@[go_sem] theorem zQk:zaD Tryz.prog 218=false:=by kernel_rfl
@[go_sem] theorem zSN:esz Tryz.prog 218=some 1:=by kernel_rfl
@[go_sem] theorem zR2:zgU Tryz.prog 218=true:=by kernel_rfl
@[go_sem] theorem zUb:ez Tryz.prog 218=some (1,1,[.int .u8 0]):=by kernel_rfl
@[go_sem] theorem zSD :zam Tryz.prog 218 i=0:=by kernel_rfl
@[go_sem] theorem zVo:tk Tryz.prog 225=some (false,1):=by kernel_rfl
@[go_sem] theorem zTz:zr Tryz.prog 225=some [.nilp]:=by kernel_rfl
@[go_sem] theorem zQN:ezT Tryz.prog 225=0:=by kernel_rfl
@[go_sem] theorem zUx:tk Tryz.prog 227=some (true,2):=by kernel_rfl
@[go_sem] theorem zTZ:zr Tryz.prog 227=some [.int .i64 0,.int .i64 0]:=by kernel_rfl
@[go_sem] theorem zQz:ezT Tryz.prog 227=0:=by kernel_rfl
@[go_sem] theorem zRS:zdj Tryz.prog 227=some (zah Tryz.prog 227,[.int .i64 0,.int .i64 0]):=by kernel_rfl
@[go_sem] theorem zH8:zah Tryz.prog 227 0=some (0,1):=by kernel_rfl
@[go_sem] theorem zLc:zam Tryz.prog 227 0=0:=by kernel_rfl
@[go_sem] theorem zIv:zah Tryz.prog 227 1=some (1,1):=by kernel_rfl
@[go_sem] theorem zIo:zam Tryz.prog 227 1=0:=by kernel_rfl
@[go_sem] theorem zTX:tk Tryz.prog 229=some (true,24):=by kernel_rfl
@[go_sem] theorem zVB:zr Tryz.prog 229=some [.int .u8 0,.int .u8 0,.int .u8 0,.int .u8 0,.int .u8 0,.int .u8 0,.int .u8 0,.int .u8 0,.int .u8 0,.int .u8 0,.int .u8 0,.int .u8 0,.int .u8 0,.int .u8 0,.int .u8 0,.int .u8 0,.int .u8 0,.int .u8 0,.int .u8 0,.int .u8 0,.int .u8 0,.int .u8 0,.int .u8 0,.int .u8 0]:=by kernel_rfl
@[go_sem] theorem zSy:ezT Tryz.prog 229=0:=by kernel_rfl
@[go_sem] theorem zQE:esz Tryz.prog 229=none:=by kernel_rfl
@[go_sem] theorem zRP:asz Tryz.prog 229=some (24,1):=by kernel_rfl
@[go_sem] theorem zSx :zam Tryz.prog 229 i=0:=by kernel_rfl
@[go_sem] theorem zSM:zdj Tryz.prog 229=some (fun i=>some (i*1,1),[.int .u8 0,.int .u8 0,.int .u8 0,.int .u8 0,.int .u8 0,.int .u8 0,.int .u8 0,.int .u8 0,.int .u8 0,.int .u8 0,.int .u8 0,.int .u8 0,.int .u8 0,.int .u8 0,.int .u8 0,.int .u8 0,.int .u8 0,.int .u8 0,.int .u8 0,.int .u8 0,.int .u8 0,.int .u8 0,.int .u8 0,.int .u8 0]):=by kernel_rfl
@[go_sem] theorem zVp:tk Tryz.prog 235=some (true,20):=by kernel_rfl
@[go_sem] theorem zTt:zr Tryz.prog 235=some [.int .u64 0,.int .u64 0,.int .u64 0,.int .u64 0,.int .u64 0,.int .u64 0,.int .u64 0,.int .u64 0,.int .u64 0,.int .u64 0,.int .u64 0,.int .u64 0,.int .u64 0,.int .u64 0,.int .u64 0,.int .u64 0,.int .u64 0,.int .u64 0,.int .u64 0,.int .u64 0]:=by kernel_rfl
@[go_sem] theorem zSa:ezT Tryz.prog 235=0:=by kernel_rfl
@[go_sem] theorem zRu:esz Tryz.prog 235=none:=by kernel_rfl
@[go_sem] theorem zQ5:asz Tryz.prog 235=some (20,1):=by kernel_rfl
@[go_sem] theorem zRH :zam Tryz.prog 235 i=0:=by kernel_rfl
@[go_sem] theorem zRX:zdj Tryz.prog 235=some (fun i=>some (i*1,1),[.int .u64 0,.int .u64 0,.int .u64 0,.int .u64 0,.int .u64 0,.int .u64 0,.int .u64 0,.int .u64 0,.int .u64 0,.int .u64 0,.int .u64 0,.int .u64 0,.int .u64 0,.int .u64 0,.int .u64 0,.int .u64 0,.int .u64 0,.int .u64 0,.int .u64 0,.int .u64 0]):=by kernel_rfl
@[go_sem] theorem zVv:tk Tryz.prog 236=some (true,65):=by kernel_rfl
@[go_sem] theorem zTI:zr Tryz.prog 236=some [.int .u8 0,.int .u8 0,.int .u8 0,.int .u8 0,.int .u8 0,.int .u8 0,.int .u8 0,.int .u8 0,.int .u8 0,.int .u8 0,.int .u8 0,.int .u8 0,.int .u8 0,.int .u8 0,.int .u8 0,.int .u8 0,.int .u8 0,.int .u8 0,.int .u8 0,.int .u8 0,.int .u8 0,.int .u8 0,.int .u8 0,.int .u8 0,.int .u8 0,.int .u8 0,.int .u8 0,.int .u8 0,.int .u8 0,.int .u8 0,.int .u8 0,.int .u8 0,.int .u8 0,.int .u8 0,.int .u8 0,.int .u8 0,.int .u8 0,.int .u8 0,.int .u8 0,.int .u8 0,.int .u8 0,.int .u8 0,.int .u8 0,.int .u8 0,.int .u8 0,.int .u8 0,.int .u8 0,.int .u8 0,.int .u8 0,.int .u8 0,.int .u8 0,.int .u8 0,.int .u8 0,.int .u8 0,.int .u8 0,.int .u8 0,.int .u8 0,.int .u8 0,.int .u8 0,.int .u8 0,.int .u8 0,.int .u8 0,.int .u8 0,.int .u8 0,.int .u8 0]:=by kernel_rfl
@[go_sem] theorem zQI:ezT Tryz.prog 236=0:=by kernel_rfl
@[go_sem] theorem zQP:esz Tryz.prog 236=none:=by kernel_rfl
@[go_sem] theorem zQn:asz Tryz.prog 236=some (65,1):=by kernel_rfl
@[go_sem] theorem zSp :zam Tryz.prog 236 i=0:=by kernel_rfl
@[go_sem] theorem zQY:zdj Tryz.prog 236=some (fun i=>some (i*1,1),[.int .u8 0,.int .u8 0,.int .u8 0,.int .u8 0,.int .u8 0,.int .u8 0,.int .u8 0,.int .u8 0,.int .u8 0,.int .u8 0,.int .u8 0,.int .u8 0,.int .u8 0,.int .u8 0,.int .u8 0,.int .u8 0,.int .u8 0,.int .u8 0,.int .u8 0,.int .u8 0,.int .u8 0,.int .u8 0,.int .u8 0,.int .u8 0,.int .u8 0,.int .u8 0,.int .u8 0,.int .u8 0,.int .u8 0,.int .u8 0,.int .u8 0,.int .u8 0,.int .u8 0,.int .u8 0,.int .u8 0,.int .u8 0,.int .u8 0,.int .u8 0,.int .u8 0,.int .u8 0,.int .u8 0,.int .u8 0,.int .u8 0,.int .u8 0,.int .u8 0,.int .u8 0,.int .u8 0,.int .u8 0,.int .u8 0,.int .u8 0,.int .u8 0,.int .u8 0,.int .u8 0,.int .u8 0,.int .u8 0,.int .u8 0,.int .u8 0,.int .u8 0,.int .u8 0,.int .u8 0,.int .u8 0,.int .u8 0,.int .u8 0,.int .u8 0,.int .u8 0]):=by kernel_rfl
@[go_sem] theorem zVr:tk Tryz.prog 239=some (true,32):=by kernel_rfl
@[go_sem] theorem zTH:zr Tryz.prog 239=some [.int .u8 0,.int .u8 0,.int .u8 0,.int .u8 0,.int .u8 0,.int .u8 0,.int .u8 0,.int .u8 0,.int .u8 0,.int .u8 0,.int .u8 0,.int .u8 0,.int .u8 0,.int .u8 0,.int .u8 0,.int .u8 0,.int .u8 0,.int .u8 0,.int .u8 0,.int .u8 0,.int .u8 0,.int .u8 0,.int .u8 0,.int .u8 0,.int .u8 0,.int .u8 0,.int .u8 0,.int .u8 0,.int .u8 0,.int .u8 0,.int .u8 0,.int .u8 0]:=by kernel_rfl
@[go_sem] theorem zRM:ezT Tryz.prog 239=0:=by kernel_rfl
@[go_sem] theorem zRC:esz Tryz.prog 239=none:=by kernel_rfl
@[go_sem] theorem zRZ:asz Tryz.prog 239=some (32,1):=by kernel_rfl
@[go_sem] theorem zQV :zam Tryz.prog 239 i=0:=by kernel_rfl
@[go_sem] theorem zSR:zdj Tryz.prog 239=some (fun i=>some (i*1,1),[.int .u8 0,.int .u8 0,.int .u8 0,.int .u8 0,.int .u8 0,.int .u8 0,.int .u8 0,.int .u8 0,.int .u8 0,.int .u8 0,.int .u8 0,.int .u8 0,.int .u8 0,.int .u8 0,.int .u8 0,.int .u8 0,.int .u8 0,.int .u8 0,.int .u8 0,.int .u8 0,.int .u8 0,.int .u8 0,.int .u8 0,.int .u8 0,.int .u8 0,.int .u8 0,.int .u8 0,.int .u8 0,.int .u8 0,.int .u8 0,.int .u8 0,.int .u8 0]):=by kernel_rfl
@[go_sem] theorem zTx:tk Tryz.prog 240=some (true,64):=by kernel_rfl
@[go_sem] theorem zVn:zr Tryz.prog 240=some [.int .u8 0,.int .u8 0,.int .u8 0,.int .u8 0,.int .u8 0,.int .u8 0,.int .u8 0,.int .u8 0,.int .u8 0,.int .u8 0,.int .u8 0,.int .u8 0,.int .u8 0,.int .u8 0,.int .u8 0,.int .u8 0,.int .u8 0,.int .u8 0,.int .u8 0,.int .u8 0,.int .u8 0,.int .u8 0,.int .u8 0,.int .u8 0,.int .u8 0,.int .u8 0,.int .u8 0,.int .u8 0,.int .u8 0,.int .u8 0,.int .u8 0,.int .u8 0,.int .u8 0,.int .u8 0,.int .u8 0,.int .u8 0,.int .u8 0,.int .u8 0,.int .u8 0,.int .u8 0,.int .u8 0,.int .u8 0,.int .u8 0,.int .u8 0,.int .u8 0,.int .u8 0,.int .u8 0,.int .u8 0,.int .u8 0,.int .u8 0,.int .u8 0,.int .u8 0,.int .u8 0,.int .u8 0,.int .u8 0,.int .u8 0,.int .u8 0,.int .u8 0,.int .u8 0,.int .u8 0,.int .u8 0,.int .u8 0,.int .u8 0,.int .u8 0]:=by kernel_rfl
@[go_sem] theorem zSG:ezT Tryz.prog 240=0:=by kernel_rfl
@[go_sem] theorem zRd:esz Tryz.prog 240=none:=by kernel_rfl
@[go_sem] theorem zRL:asz Tryz.prog 240=some (64,1):=by kernel_rfl
@[go_sem] theorem zQO :zam Tryz.prog 240 i=0:=by kernel_rfl
@[go_sem] theorem zRV:zdj Tryz.prog 240=some (fun i=>some (i*1,1),[.int .u8 0,.int .u8 0,.int .u8 0,.int .u8 0,.int .u8 0,.int .u8 0,.int .u8 0,.int .u8 0,.int .u8 0,.int .u8 0,.int .u8 0,.int .u8 0,.int .u8 0,.int .u8 0,.int .u8 0,.int .u8 0,.int .u8 0,.int .u8 0,.int .u8 0,.int .u8 0,.int .u8 0,.int .u8 0,.int .u8 0,.int .u8 0,.int .u8 0,.int .u8 0,.int .u8 0,.int .u8 0,.int .u8 0,.int .u8 0,.int .u8 0,.int .u8 0,.int .u8 0,.int .u8 0,.int .u8 0,.int .u8 0,.int .u8 0,.int .u8 0,.int .u8 0,.int .u8 0,.int .u8 0,.int .u8 0,.int .u8 0,.int .u8 0,.int .u8 0,.int .u8 0,.int .u8 0,.int .u8 0,.int .u8 0,.int .u8 0,.int .u8 0,.int .u8 0,.int .u8 0,.int .u8 0,.int .u8 0,.int .u8 0,.int .u8 0,.int .u8 0,.int .u8 0,.int .u8 0,.int .u8 0,.int .u8 0,.int .u8 0,.int .u8 0]):=by kernel_rfl
theorem follows:Tryz.prog.follows .mixedOrders=true:=by kernel_rfl
theorem cl3:zac Tryz.prog 3:=fun args w=>Tryz.call3 args w
theorem cl5:zac Tryz.prog 5:=fun args w=>Tryz.call5 args w
theorem cl6:zac Tryz.prog 6:=fun args w=>Tryz.call6 args w
theorem cl7:zac Tryz.prog 7:=fun args w=>Tryz.call7 args w
theorem cl8:zac Tryz.prog 8:=fun args w=>Tryz.call8 args w
theorem cl9:zac Tryz.prog 9:=fun args w=>Tryz.call9 args w
theorem zKp:zac Tryz.prog 10:=fun args w=>Tryz.call10 args w
theorem zK2:zac Tryz.prog 11:=fun args w=>Tryz.call11 args w
theorem zLB:zac Tryz.prog 12:=fun args w=>Tryz.call12 args w
theorem zIK:zac Tryz.prog 13:=fun args w=>Tryz.call13 args w
theorem zJS:zac Tryz.prog 14:=fun args w=>Tryz.call14 args w
theorem zKv:zac Tryz.prog 16:=fun args w=>Tryz.call16 args w
theorem zHV:zac Tryz.prog 18:=fun args w=>Tryz.call18 args w
theorem zJ3:zac Tryz.prog 19:=fun args w=>Tryz.call19 args w
theorem zLn:zac Tryz.prog 20:=fun args w=>Tryz.call20 args w
theorem zHT:zac Tryz.prog 21:=fun args w=>Tryz.call21 args w
theorem zIA:zac Tryz.prog 22:=fun args w=>Tryz.call22 args w
theorem zJV:zac Tryz.prog 23:=fun args w=>Tryz.call23 args w
theorem zHZ:zac Tryz.prog 24:=fun args w=>Tryz.call24 args w
theorem zKD:zac Tryz.prog 25:=fun args w=>Tryz.call25 args w
theorem zH6:zac Tryz.prog 26:=fun args w=>Tryz.call26 args w
theorem zLx:zac Tryz.prog 27:=fun args w=>Tryz.call27 args w
theorem zKL:zac Tryz.prog 28:=fun args w=>Tryz.call28 args w
theorem zJp:zac Tryz.prog 29:=fun args w=>Tryz.call29 args w
theorem zIC:zac Tryz.prog 35:=fun args w=>Tryz.call35 args w
theorem zI6:zac Tryz.prog 36:=fun args w=>Tryz.call36 args w
theorem zIQ:zac Tryz.prog 37:=fun args w=>Tryz.call37 args w
theorem zJC:zac Tryz.prog 38:=fun args w=>Tryz.call38 args w
theorem zJ9:zac Tryz.prog 39:=fun args w=>Tryz.call39 args w
theorem zIm:zac Tryz.prog 40:=fun args w=>Tryz.call40 args w
theorem zKu:zac Tryz.prog 41:=fun args w=>Tryz.call41 args w
theorem zIZ:zac Tryz.prog 42:=fun args w=>Tryz.call42 args w
theorem zJh:zac Tryz.prog 43:=fun args w=>Tryz.call43 args w
theorem zKa:zac Tryz.prog 44:=fun args w=>Tryz.call44 args w
theorem zA4:zac Tryz.prog 45:=fun args w=>Tryz.call45 args w
theorem zKk:zac Tryz.prog 46:=fun args w=>Tryz.call46 args w
theorem zH0:zac Tryz.prog 47:=fun args w=>Tryz.call47 args w
theorem zKm:zac Tryz.prog 48:=fun args w=>Tryz.call48 args w
theorem zJL:zac Tryz.prog 49:=fun args w=>Tryz.call49 args w
theorem zHE:zac Tryz.prog 50:=fun args w=>Tryz.call50 args w
theorem zIS:zac Tryz.prog 51:=fun args w=>Tryz.call51 args w
theorem zJu:zac Tryz.prog 52:=fun args w=>Tryz.call52 args w
theorem zH4:zac Tryz.prog 56:=fun args w=>Tryz.call56 args w
theorem zJk:zac Tryz.prog 58:=fun args w=>Tryz.call58 args w
theorem zI3:zac Tryz.prog 60:=fun args w=>Tryz.call60 args w
theorem zLH:zac Tryz.prog 61:=fun args w=>Tryz.call61 args w
theorem zIY:zac Tryz.prog 62:=fun args w=>Tryz.call62 args w
theorem zKG:zac Tryz.prog 63:=fun args w=>Tryz.call63 args w
theorem zKI:zac Tryz.prog 64:=fun args w=>Tryz.call64 args w
theorem zLK:zac Tryz.prog 65:=fun args w=>Tryz.call65 args w
theorem zIj:zac Tryz.prog 66:=fun args w=>Tryz.call66 args w
theorem zLF:zac Tryz.prog 67:=fun args w=>Tryz.call67 args w
theorem zLj:zac Tryz.prog 68:=fun args w=>Tryz.call68 args w
theorem zJD:zac Tryz.prog 69:=fun args w=>Tryz.call69 args w
theorem zKj:zac Tryz.prog 70:=fun args w=>Tryz.call70 args w
theorem zJe:zac Tryz.prog 71:=fun args w=>Tryz.call71 args w
theorem zIl:zac Tryz.prog 72:=fun args w=>Tryz.call72 args w
theorem zHq:zac Tryz.prog 73:=fun args w=>Tryz.call73 args w
theorem zJd:zac Tryz.prog 74:=fun args w=>Tryz.call74 args w
theorem zIh:zac Tryz.prog 75:=fun args w=>Tryz.call75 args w
theorem zIJ:zac Tryz.prog 76:=fun args w=>Tryz.call76 args w
theorem zHS:zac Tryz.prog 77:=fun args w=>Tryz.call77 args w
theorem zLN:zac Tryz.prog 78:=fun args w=>Tryz.call78 args w
theorem zKb:zac Tryz.prog 79:=fun args w=>Tryz.call79 args w
theorem zI2:zac Tryz.prog 80:=fun args w=>Tryz.call80 args w
theorem zLt:zac Tryz.prog 81:=fun args w=>Tryz.call81 args w
theorem zHC:zac Tryz.prog 82:=fun args w=>Tryz.call82 args w
theorem zJY:zac Tryz.prog 83:=fun args w=>Tryz.call83 args w
theorem zHA:zac Tryz.prog 84:=fun args w=>Tryz.call84 args w
theorem zIa:zac Tryz.prog 85:=fun args w=>Tryz.call85 args w
theorem zt0:zac Tryz.prog 86:=fun args w=>Tryz.call86 args w
theorem zKX:zac Tryz.prog 87:=fun args w=>Tryz.call87 args w
theorem zHJ:zac Tryz.prog 88:=fun args w=>Tryz.call88 args w
theorem zLM:zac Tryz.prog 89:=fun args w=>Tryz.call89 args w
theorem zLp:zac Tryz.prog 90:=fun args w=>Tryz.call90 args w
theorem zH9:zac Tryz.prog 91:=fun args w=>Tryz.call91 args w
theorem zxK:zac Tryz.prog 96:=fun args w=>Tryz.call96 args w
theorem zLz:zac Tryz.prog 97:=fun args w=>Tryz.call97 args w
theorem zJl:zac Tryz.prog 98:=fun args w=>Tryz.call98 args w
theorem zLk:zac Tryz.prog 99:=fun args w=>Tryz.call99 args w
theorem zEB:zac Tryz.prog 100:=fun args w=>Tryz.call100 args w
theorem zET:zac Tryz.prog 101:=fun args w=>Tryz.call101 args w
theorem zCF:zac Tryz.prog 102:=fun args w=>Tryz.call102 args w
theorem zDp:zac Tryz.prog 103:=fun args w=>Tryz.call103 args w
theorem zE8:zac Tryz.prog 104:=fun args w=>Tryz.call104 args w
theorem zEZ:zac Tryz.prog 105:=fun args w=>Tryz.call105 args w
theorem zFv:zac Tryz.prog 106:=fun args w=>Tryz.call106 args w
theorem zFS:zac Tryz.prog 107:=fun args w=>Tryz.call107 args w
theorem zDy:zac Tryz.prog 108:=fun args w=>Tryz.call108 args w
theorem zC9:zac Tryz.prog 109:=fun args w=>Tryz.call109 args w
theorem zDn:zac Tryz.prog 110:=fun args w=>Tryz.call110 args w
theorem zDF:zac Tryz.prog 111:=fun args w=>Tryz.call111 args w
theorem zEd:zac Tryz.prog 112:=fun args w=>Tryz.call112 args w
theorem zDa:zac Tryz.prog 113:=fun args w=>Tryz.call113 args w
theorem zEi:zac Tryz.prog 114:=fun args w=>Tryz.call114 args w
theorem zEb:zac Tryz.prog 115:=fun args w=>Tryz.call115 args w
theorem zEI:zac Tryz.prog 116:=fun args w=>Tryz.call116 args w
theorem zEH:zac Tryz.prog 117:=fun args w=>Tryz.call117 args w
theorem zCB:zac Tryz.prog 118:=fun args w=>Tryz.call118 args w
theorem zCP:zac Tryz.prog 119:=fun args w=>Tryz.call119 args w
theorem zD4:zac Tryz.prog 120:=fun args w=>Tryz.call120 args w
theorem zCR:zac Tryz.prog 121:=fun args w=>Tryz.call121 args w
theorem zEa:zac Tryz.prog 122:=fun args w=>Tryz.call122 args w
theorem zCs:zac Tryz.prog 123:=fun args w=>Tryz.call123 args w
theorem zE1:zac Tryz.prog 124:=fun args w=>Tryz.call124 args w
theorem zFh:zac Tryz.prog 125:=fun args w=>Tryz.call125 args w
theorem zEz:zac Tryz.prog 127:=fun args w=>Tryz.call127 args w
theorem zDi:zac Tryz.prog 128:=fun args w=>Tryz.call128 args w
theorem zEX:zac Tryz.prog 129:=fun args w=>Tryz.call129 args w
theorem zDM:zac Tryz.prog 130:=fun args w=>Tryz.call130 args w
theorem zCK:zac Tryz.prog 131:=fun args w=>Tryz.call131 args w
theorem zFc:zac Tryz.prog 132:=fun args w=>Tryz.call132 args w
theorem zDq:zac Tryz.prog 133:=fun args w=>Tryz.call133 args w
theorem zFl:zac Tryz.prog 134:=fun args w=>Tryz.call134 args w
theorem zDk:zac Tryz.prog 135:=fun args w=>Tryz.call135 args w
theorem zEK:zac Tryz.prog 136:=fun args w=>Tryz.call136 args w
theorem zE6:zac Tryz.prog 137:=fun args w=>Tryz.call137 args w
theorem zEL:zac Tryz.prog 138:=fun args w=>Tryz.call138 args w
theorem zCo:zac Tryz.prog 139:=fun args w=>Tryz.call139 args w
theorem zEG:zac Tryz.prog 140:=fun args w=>Tryz.call140 args w
theorem zFq:zac Tryz.prog 141:=fun args w=>Tryz.call141 args w
theorem zC6:zac Tryz.prog 142:=fun args w=>Tryz.call142 args w
theorem zFA:zac Tryz.prog 143:=fun args w=>Tryz.call143 args w
theorem zFN:zac Tryz.prog 144:=fun args w=>Tryz.call144 args w
theorem zve:zac Tryz.prog 145:=fun args w=>Tryz.call145 args w
theorem zu4:zac Tryz.prog 146:=fun args w=>Tryz.call146 args w
theorem zEj:zac Tryz.prog 147:=fun args w=>Tryz.call147 args w
theorem zD7:zac Tryz.prog 148:=fun args w=>Tryz.call148 args w
theorem zC2:zac Tryz.prog 149:=fun args w=>Tryz.call149 args w
theorem zF0:zac Tryz.prog 150:=fun args w=>Tryz.call150 args w
theorem zEO:zac Tryz.prog 151:=fun args w=>Tryz.call151 args w
theorem zCJ:zac Tryz.prog 152:=fun args w=>Tryz.call152 args w
theorem zDT:zac Tryz.prog 153:=fun args w=>Tryz.call153 args w
theorem zFQ:zac Tryz.prog 154:=fun args w=>Tryz.call154 args w
theorem zD9:zac Tryz.prog 155:=fun args w=>Tryz.call155 args w
theorem zDR:zac Tryz.prog 156:=fun args w=>Tryz.call156 args w
theorem zCT:zac Tryz.prog 157:=fun args w=>Tryz.call157 args w
theorem zD0:zac Tryz.prog 158:=fun args w=>Tryz.call158 args w
theorem zFd:zac Tryz.prog 159:=fun args w=>Tryz.call159 args w
theorem zC1:zac Tryz.prog 160:=fun args w=>Tryz.call160 args w
theorem zD2:zac Tryz.prog 161:=fun args w=>Tryz.call161 args w
theorem zFe:zac Tryz.prog 162:=fun args w=>Tryz.call162 args w
theorem zFP:zac Tryz.prog 163:=fun args w=>Tryz.call163 args w
theorem zFU:zac Tryz.prog 164:=fun args w=>Tryz.call164 args w
theorem zDx:zac Tryz.prog 165:=fun args w=>Tryz.call165 args w
theorem zC7:zac Tryz.prog 166:=fun args w=>Tryz.call166 args w
theorem zEP:zac Tryz.prog 167:=fun args w=>Tryz.call167 args w
theorem zFI:zac Tryz.prog 168:=fun args w=>Tryz.call168 args w
theorem zEk:zac Tryz.prog 169:=fun args w=>Tryz.call169 args w
theorem zD5:zac Tryz.prog 170:=fun args w=>Tryz.call170 args w
theorem zEU:zac Tryz.prog 171:=fun args w=>Tryz.call171 args w
theorem zC3:zac Tryz.prog 172:=fun args w=>Tryz.call172 args w
theorem zCX:zac Tryz.prog 173:=fun args w=>Tryz.call173 args w
theorem zFH:zac Tryz.prog 174:=fun args w=>Tryz.call174 args w
theorem zDI:zac Tryz.prog 175:=fun args w=>Tryz.call175 args w
theorem zEW:zac Tryz.prog 176:=fun args w=>Tryz.call176 args w
theorem zCz:zac Tryz.prog 177:=fun args w=>Tryz.call177 args w
theorem zFX:zac Tryz.prog 178:=fun args w=>Tryz.call178 args w
theorem zEg:zac Tryz.prog 179:=fun args w=>Tryz.call179 args w
theorem zDL:zac Tryz.prog 180:=fun args w=>Tryz.call180 args w
theorem zEA:zac Tryz.prog 181:=fun args w=>Tryz.call181 args w
theorem zD1:zac Tryz.prog 182:=fun args w=>Tryz.call182 args w
theorem zFV:zac Tryz.prog 183:=fun args w=>Tryz.call183 args w
theorem zFm:zac Tryz.prog 184:=fun args w=>Tryz.call184 args w
theorem zDh:zac Tryz.prog 185:=fun args w=>Tryz.call185 args w
theorem zFx:zac Tryz.prog 186:=fun args w=>Tryz.call186 args w
theorem zCN:zac Tryz.prog 187:=fun args w=>Tryz.call187 args w
theorem zDE:zac Tryz.prog 188:=fun args w=>Tryz.call188 args w
theorem zFC:zac Tryz.prog 189:=fun args w=>Tryz.call189 args w
theorem zDN:zac Tryz.prog 190:=fun args w=>Tryz.call190 args w
theorem zEh:zac Tryz.prog 191:=fun args w=>Tryz.call191 args w
theorem zDO:zac Tryz.prog 192:=fun args w=>Tryz.call192 args w
theorem zEq:zac Tryz.prog 193:=fun args w=>Tryz.call193 args w
theorem zDX:zac Tryz.prog 194:=fun args w=>Tryz.call194 args w
theorem zFR:zac Tryz.prog 195:=fun args w=>Tryz.call195 args w
theorem zDA:zac Tryz.prog 196:=fun args w=>Tryz.call196 args w
theorem zEv:zac Tryz.prog 197:=fun args w=>Tryz.call197 args w
theorem zCH:zac Tryz.prog 198:=fun args w=>Tryz.call198 args w
theorem zFo:zac Tryz.prog 199:=fun args w=>Tryz.call199 args w
theorem zFF:zac Tryz.prog 200:=fun args w=>Tryz.call200 args w
theorem zFr:zac Tryz.prog 202:=fun args w=>Tryz.call202 args w
theorem zEn:zac Tryz.prog 203:=fun args w=>Tryz.call203 args w
theorem zCx:zac Tryz.prog 204:=fun args w=>Tryz.call204 args w
theorem zFu:zac Tryz.prog 205:=fun args w=>Tryz.call205 args w
theorem zDJ:zac Tryz.prog 206:=fun args w=>Tryz.call206 args w
theorem zED:zac Tryz.prog 207:=fun args w=>Tryz.call207 args w
theorem zCM:zac Tryz.prog 209:=fun args w=>Tryz.call209 args w
end Go.Pm
