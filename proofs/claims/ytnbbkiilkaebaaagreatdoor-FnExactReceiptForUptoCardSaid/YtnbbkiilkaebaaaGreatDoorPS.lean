import Derived.Test.YtnbbkiilkaebaaaGreatDoorPmW
import Derived.Test.YtnbbkiilkaebaaaGreatDoorProg
import Derived.KernelRfl
namespace Go.Pm
open Go.Am
open Go.Proofs
set_option maxRecDepth 100000
@[go_sem] theorem tk2:tk Tryz.prog 2=some (false,1):=by kernel_rfl
@[go_sem] theorem zr2:zr Tryz.prog 2=some [.int .i64 0]:=by kernel_rfl
@[go_sem] theorem zQM:ezT Tryz.prog 2=0:=by kernel_rfl
@[go_sem] theorem zRk:zc2 Tryz.prog 2=some .i64:=by kernel_rfl
@[go_sem] theorem zRg:zax Tryz.prog 2=false:=by kernel_rfl
@[go_sem] theorem tk3:tk Tryz.prog 3=some (false,1):=by kernel_rfl
@[go_sem] theorem zr3:zr Tryz.prog 3=some [.int .i64 0]:=by kernel_rfl
@[go_sem] theorem zQS:ezT Tryz.prog 3=0:=by kernel_rfl
@[go_sem] theorem zQ1:zc2 Tryz.prog 3=some .i64:=by kernel_rfl
@[go_sem] theorem zQ9:zax Tryz.prog 3=false:=by kernel_rfl
@[go_sem] theorem tk4:tk Tryz.prog 4=some (false,1):=by kernel_rfl
@[go_sem] theorem zr4:zr Tryz.prog 4=some [.bool false]:=by kernel_rfl
@[go_sem] theorem zQP:ezT Tryz.prog 4=0:=by kernel_rfl
@[go_sem] theorem zRe:zhp Tryz.prog 4=true:=by kernel_rfl
@[go_sem] theorem tk5:tk Tryz.prog 5=some (false,1):=by kernel_rfl
@[go_sem] theorem zr5:zr Tryz.prog 5=some [.int .u8 0]:=by kernel_rfl
@[go_sem] theorem zQI:ezT Tryz.prog 5=0:=by kernel_rfl
@[go_sem] theorem zQH:zc2 Tryz.prog 5=some .u8:=by kernel_rfl
@[go_sem] theorem zRi:zax Tryz.prog 5=false:=by kernel_rfl
@[go_sem] theorem tk9:tk Tryz.prog 9=some (false,1):=by kernel_rfl
@[go_sem] theorem zr9:zr Tryz.prog 9=some [.str ⟨#[]⟩]:=by kernel_rfl
@[go_sem] theorem zQN:ezT Tryz.prog 9=0:=by kernel_rfl
@[go_sem] theorem zQA:zax Tryz.prog 9=true:=by kernel_rfl
@[go_sem] theorem zRr:tk Tryz.prog 20=some (false,1):=by kernel_rfl
@[go_sem] theorem zQR:zr Tryz.prog 20=some [.nili]:=by kernel_rfl
@[go_sem] theorem zPf:ezT Tryz.prog 20=0:=by kernel_rfl
@[go_sem] theorem zRm:tk Tryz.prog 23=some (true,3):=by kernel_rfl
@[go_sem] theorem zQ2:zr Tryz.prog 23=some [.int .i64 0,.int .i64 0,.int .i64 0]:=by kernel_rfl
@[go_sem] theorem zPO:ezT Tryz.prog 23=0:=by kernel_rfl
@[go_sem] theorem zPw:zeP Tryz.prog 23=some (zan Tryz.prog 23,[.int .i64 0,.int .i64 0,.int .i64 0]):=by kernel_rfl
@[go_sem] theorem zKF:zan Tryz.prog 23 0=some (0,1):=by kernel_rfl
@[go_sem] theorem zI3:zaz Tryz.prog 23 0=0:=by kernel_rfl
@[go_sem] theorem zJq:zan Tryz.prog 23 1=some (1,1):=by kernel_rfl
@[go_sem] theorem zLG:zaz Tryz.prog 23 1=0:=by kernel_rfl
@[go_sem] theorem zId:zan Tryz.prog 23 2=some (2,1):=by kernel_rfl
@[go_sem] theorem zIO:zaz Tryz.prog 23 2=0:=by kernel_rfl
@[go_sem] theorem zQJ:tk Tryz.prog 25=some (true,5):=by kernel_rfl
@[go_sem] theorem zQV:zr Tryz.prog 25=some [.int .i64 0,.int .i64 0,.int .i64 0,.int .i64 0,.int .i64 0]:=by kernel_rfl
@[go_sem] theorem zPR:ezT Tryz.prog 25=0:=by kernel_rfl
@[go_sem] theorem zO7:zeP Tryz.prog 25=some (zan Tryz.prog 25,[.int .i64 0,.int .i64 0,.int .i64 0,.int .i64 0,.int .i64 0]):=by kernel_rfl
@[go_sem] theorem zKI:zan Tryz.prog 25 0=some (0,1):=by kernel_rfl
@[go_sem] theorem zIm:zaz Tryz.prog 25 0=0:=by kernel_rfl
@[go_sem] theorem zIv:zan Tryz.prog 25 1=some (1,1):=by kernel_rfl
@[go_sem] theorem zKM:zaz Tryz.prog 25 1=0:=by kernel_rfl
@[go_sem] theorem zJN:zan Tryz.prog 25 2=some (2,1):=by kernel_rfl
@[go_sem] theorem zK9:zaz Tryz.prog 25 2=0:=by kernel_rfl
@[go_sem] theorem zIj:zan Tryz.prog 25 3=some (3,1):=by kernel_rfl
@[go_sem] theorem zKJ:zaz Tryz.prog 25 3=0:=by kernel_rfl
@[go_sem] theorem zLE:zan Tryz.prog 25 4=some (4,1):=by kernel_rfl
@[go_sem] theorem zIe:zaz Tryz.prog 25 4=0:=by kernel_rfl
@[go_sem] theorem zQO:tk Tryz.prog 26=some (false,1):=by kernel_rfl
@[go_sem] theorem zRo:zr Tryz.prog 26=some [.sl true 1 []]:=by kernel_rfl
@[go_sem] theorem zPL:ezT Tryz.prog 26=1:=by kernel_rfl
@[go_sem] theorem zPv:zat Tryz.prog 26=some 3:=by kernel_rfl
@[go_sem] theorem zOJ:zax Tryz.prog 26=false:=by kernel_rfl
@[go_sem] theorem zO3:esz Tryz.prog 26=some 1:=by kernel_rfl
@[go_sem] theorem zGa:ez Tryz.prog 26=some (1,8,[.int .i64 0]):=by kernel_rfl
@[go_sem] theorem zOA {i:Nat}:zaz Tryz.prog 26 i=0:=by kernel_rfl
@[go_sem] theorem zRh:tk Tryz.prog 29=some (true,3):=by kernel_rfl
@[go_sem] theorem zRj:zr Tryz.prog 29=some [.int .i64 0,.int .i64 0,.int .i64 0]:=by kernel_rfl
@[go_sem] theorem zQo:ezT Tryz.prog 29=0:=by kernel_rfl
@[go_sem] theorem zQm:zeP Tryz.prog 29=some (zan Tryz.prog 29,[.int .i64 0,.int .i64 0,.int .i64 0]):=by kernel_rfl
@[go_sem] theorem zJ7:zan Tryz.prog 29 0=some (0,1):=by kernel_rfl
@[go_sem] theorem zI1:zaz Tryz.prog 29 0=0:=by kernel_rfl
@[go_sem] theorem zKs:zan Tryz.prog 29 1=some (1,1):=by kernel_rfl
@[go_sem] theorem zLi:zaz Tryz.prog 29 1=0:=by kernel_rfl
@[go_sem] theorem zKj:zan Tryz.prog 29 2=some (2,1):=by kernel_rfl
@[go_sem] theorem zI8:zaz Tryz.prog 29 2=0:=by kernel_rfl
@[go_sem] theorem zQT:tk Tryz.prog 31=some (true,5):=by kernel_rfl
@[go_sem] theorem zQK:zr Tryz.prog 31=some [.int .i64 0,.int .i64 0,.int .i64 0,.int .i64 0,.int .i64 0]:=by kernel_rfl
@[go_sem] theorem zOL:ezT Tryz.prog 31=0:=by kernel_rfl
@[go_sem] theorem zP9:zeP Tryz.prog 31=some (zan Tryz.prog 31,[.int .i64 0,.int .i64 0,.int .i64 0,.int .i64 0,.int .i64 0]):=by kernel_rfl
@[go_sem] theorem zKr:zan Tryz.prog 31 0=some (0,1):=by kernel_rfl
@[go_sem] theorem zLa:zaz Tryz.prog 31 0=0:=by kernel_rfl
@[go_sem] theorem zKG:zan Tryz.prog 31 1=some (1,1):=by kernel_rfl
@[go_sem] theorem zIq:zaz Tryz.prog 31 1=0:=by kernel_rfl
@[go_sem] theorem zIG:zan Tryz.prog 31 2=some (2,1):=by kernel_rfl
@[go_sem] theorem zKW:zaz Tryz.prog 31 2=0:=by kernel_rfl
@[go_sem] theorem zIa:zan Tryz.prog 31 3=some (3,1):=by kernel_rfl
@[go_sem] theorem zJ1:zaz Tryz.prog 31 3=0:=by kernel_rfl
@[go_sem] theorem zIQ:zan Tryz.prog 31 4=some (4,1):=by kernel_rfl
@[go_sem] theorem zK2:zaz Tryz.prog 31 4=0:=by kernel_rfl
@[go_sem] theorem zQG:tk Tryz.prog 36=some (false,1):=by kernel_rfl
@[go_sem] theorem zQC:zr Tryz.prog 36=some [.sl true 2 []]:=by kernel_rfl
@[go_sem] theorem zQi:ezT Tryz.prog 36=2:=by kernel_rfl
@[go_sem] theorem zPI:zat Tryz.prog 36=some 81:=by kernel_rfl
@[go_sem] theorem zPg:zax Tryz.prog 36=false:=by kernel_rfl
@[go_sem] theorem zP1:esz Tryz.prog 36=some 2:=by kernel_rfl
@[go_sem] theorem zRd:ez Tryz.prog 36=some (2,16,[.int .i64 0,.int .i64 0]):=by kernel_rfl
@[go_sem] theorem zQj {i:Nat}:zaz Tryz.prog 36 i=0:=by kernel_rfl
@[go_sem] theorem zQQ:tk Tryz.prog 37=some (false,1):=by kernel_rfl
@[go_sem] theorem zQD:zr Tryz.prog 37=some [.sl true 3 []]:=by kernel_rfl
@[go_sem] theorem zOF:ezT Tryz.prog 37=3:=by kernel_rfl
@[go_sem] theorem zPT:zat Tryz.prog 37=some 39:=by kernel_rfl
@[go_sem] theorem zPG:zax Tryz.prog 37=false:=by kernel_rfl
@[go_sem] theorem zO8:esz Tryz.prog 37=some 3:=by kernel_rfl
@[go_sem] theorem zRn:ez Tryz.prog 37=some (3,72,[.sl false 1 [],.sl false 1 [],.sl false 1 []]):=by kernel_rfl
@[go_sem] theorem zOh {i:Nat}:zaz Tryz.prog 37 i=0:=by kernel_rfl
@[go_sem] theorem zQZ:tk Tryz.prog 39=some (true,3):=by kernel_rfl
@[go_sem] theorem zRq:zr Tryz.prog 39=some [.sl true 1 [],.sl true 1 [],.sl true 1 []]:=by kernel_rfl
@[go_sem] theorem zPE:ezT Tryz.prog 39=0:=by kernel_rfl
@[go_sem] theorem zOq:zeP Tryz.prog 39=some (zan Tryz.prog 39,[.sl true 1 [],.sl true 1 [],.sl true 1 []]):=by kernel_rfl
@[go_sem] theorem zIN:zan Tryz.prog 39 0=some (0,1):=by kernel_rfl
@[go_sem] theorem zI4:zaz Tryz.prog 39 0=1:=by kernel_rfl
@[go_sem] theorem zLw:zan Tryz.prog 39 1=some (1,1):=by kernel_rfl
@[go_sem] theorem zJs:zaz Tryz.prog 39 1=1:=by kernel_rfl
@[go_sem] theorem zLM:zan Tryz.prog 39 2=some (2,1):=by kernel_rfl
@[go_sem] theorem zLJ:zaz Tryz.prog 39 2=1:=by kernel_rfl
@[go_sem] theorem zQF:tk Tryz.prog 41=some (true,6):=by kernel_rfl
@[go_sem] theorem zQ7:zr Tryz.prog 41=some [.int .i64 0,.sl true 2 [],.sl true 3 [],.sl true 1 [],.sl true 1 [],.sl true 1 []]:=by kernel_rfl
@[go_sem] theorem zQq:ezT Tryz.prog 41=0:=by kernel_rfl
@[go_sem] theorem zQb:zeP Tryz.prog 41=some (zan Tryz.prog 41,[.int .i64 0,.sl true 2 [],.sl true 3 [],.sl true 1 [],.sl true 1 [],.sl true 1 []]):=by kernel_rfl
@[go_sem] theorem zIl:zan Tryz.prog 41 0=some (0,1):=by kernel_rfl
@[go_sem] theorem zKA:zaz Tryz.prog 41 0=0:=by kernel_rfl
@[go_sem] theorem zKL:zan Tryz.prog 41 1=some (1,1):=by kernel_rfl
@[go_sem] theorem zIV:zaz Tryz.prog 41 1=2:=by kernel_rfl
@[go_sem] theorem zH9:zan Tryz.prog 41 2=some (2,1):=by kernel_rfl
@[go_sem] theorem zIx:zaz Tryz.prog 41 2=3:=by kernel_rfl
@[go_sem] theorem zJQ:zan Tryz.prog 41 3=some (3,3):=by kernel_rfl
@[go_sem] theorem zIW:zaz Tryz.prog 41 3=0:=by kernel_rfl
@[go_sem] theorem zQ0:tk Tryz.prog 48=some (true,5):=by kernel_rfl
@[go_sem] theorem zRl:zr Tryz.prog 48=some [.int .i64 0,.sl true 1 [],.sl true 1 [],.int .i64 0,.bool false]:=by kernel_rfl
@[go_sem] theorem zQw:ezT Tryz.prog 48=0:=by kernel_rfl
@[go_sem] theorem zP7:zeP Tryz.prog 48=some (zan Tryz.prog 48,[.int .i64 0,.sl true 1 [],.sl true 1 [],.int .i64 0,.bool false]):=by kernel_rfl
@[go_sem] theorem zII:zan Tryz.prog 48 0=some (0,1):=by kernel_rfl
@[go_sem] theorem zK8:zaz Tryz.prog 48 0=0:=by kernel_rfl
@[go_sem] theorem zH7:zan Tryz.prog 48 1=some (1,1):=by kernel_rfl
@[go_sem] theorem zLL:zaz Tryz.prog 48 1=1:=by kernel_rfl
@[go_sem] theorem zJU:zan Tryz.prog 48 2=some (2,1):=by kernel_rfl
@[go_sem] theorem zKE:zaz Tryz.prog 48 2=1:=by kernel_rfl
@[go_sem] theorem zLt:zan Tryz.prog 48 3=some (3,1):=by kernel_rfl
@[go_sem] theorem zJh:zaz Tryz.prog 48 3=0:=by kernel_rfl
@[go_sem] theorem zJk:zan Tryz.prog 48 4=some (4,1):=by kernel_rfl
@[go_sem] theorem zKc:zaz Tryz.prog 48 4=0:=by kernel_rfl
@[go_sem] theorem zRp:tk Tryz.prog 52=some (true,5):=by kernel_rfl
@[go_sem] theorem zRa:zr Tryz.prog 52=some [.int .i64 0,.sl true 1 [],.sl true 1 [],.int .i64 0,.bool false]:=by kernel_rfl
@[go_sem] theorem zQe:ezT Tryz.prog 52=0:=by kernel_rfl
@[go_sem] theorem zOm:zeP Tryz.prog 52=some (zan Tryz.prog 52,[.int .i64 0,.sl true 1 [],.sl true 1 [],.int .i64 0,.bool false]):=by kernel_rfl
@[go_sem] theorem zKw:zan Tryz.prog 52 0=some (0,1):=by kernel_rfl
@[go_sem] theorem zJO:zaz Tryz.prog 52 0=0:=by kernel_rfl
@[go_sem] theorem zJb:zan Tryz.prog 52 1=some (1,1):=by kernel_rfl
@[go_sem] theorem zLF:zaz Tryz.prog 52 1=1:=by kernel_rfl
@[go_sem] theorem zKo:zan Tryz.prog 52 2=some (2,1):=by kernel_rfl
@[go_sem] theorem zKy:zaz Tryz.prog 52 2=1:=by kernel_rfl
@[go_sem] theorem zLv:zan Tryz.prog 52 3=some (3,1):=by kernel_rfl
@[go_sem] theorem zJz:zaz Tryz.prog 52 3=0:=by kernel_rfl
@[go_sem] theorem zJT:zan Tryz.prog 52 4=some (4,1):=by kernel_rfl
@[go_sem] theorem zKH:zaz Tryz.prog 52 4=0:=by kernel_rfl
@[go_sem] theorem zQ3:tk Tryz.prog 56=some (false,1):=by kernel_rfl
@[go_sem] theorem zQB:zr Tryz.prog 56=some [.sl true 5 []]:=by kernel_rfl
@[go_sem] theorem zOP:ezT Tryz.prog 56=5:=by kernel_rfl
@[go_sem] theorem zQd:zat Tryz.prog 56=some 48:=by kernel_rfl
@[go_sem] theorem zPm:zax Tryz.prog 56=false:=by kernel_rfl
@[go_sem] theorem zOZ:esz Tryz.prog 56=some 5:=by kernel_rfl
@[go_sem] theorem zQW:ez Tryz.prog 56=some (5,72,[.int .i64 0,.sl false 1 [],.sl false 1 [],.int .i64 0,.bool false]):=by kernel_rfl
@[go_sem] theorem zO1 {i:Nat}:zaz Tryz.prog 56 i=0:=by kernel_rfl
@[go_sem] theorem zQE:tk Tryz.prog 60=some (false,1):=by kernel_rfl
@[go_sem] theorem zQz:zr Tryz.prog 60=some [.sl true 5 []]:=by kernel_rfl
@[go_sem] theorem zPC:ezT Tryz.prog 60=5:=by kernel_rfl
@[go_sem] theorem zQr:zat Tryz.prog 60=some 52:=by kernel_rfl
@[go_sem] theorem zOo:zax Tryz.prog 60=false:=by kernel_rfl
@[go_sem] theorem zPh:esz Tryz.prog 60=some 5:=by kernel_rfl
@[go_sem] theorem zQL:ez Tryz.prog 60=some (5,72,[.int .i64 0,.sl false 1 [],.sl false 1 [],.int .i64 0,.bool false]):=by kernel_rfl
@[go_sem] theorem zO6 {i:Nat}:zaz Tryz.prog 60 i=0:=by kernel_rfl
@[go_sem] theorem zQ8:tk Tryz.prog 72=some (false,1):=by kernel_rfl
@[go_sem] theorem zRf:zr Tryz.prog 72=some [.nilf]:=by kernel_rfl
@[go_sem] theorem zO9:ezT Tryz.prog 72=0:=by kernel_rfl
@[go_sem] theorem zQX:tk Tryz.prog 73=some (false,1):=by kernel_rfl
@[go_sem] theorem zRb:zr Tryz.prog 73=some [.nilf]:=by kernel_rfl
@[go_sem] theorem zOD:ezT Tryz.prog 73=0:=by kernel_rfl
@[go_sem] theorem zQY:tk Tryz.prog 81=some (true,2):=by kernel_rfl
@[go_sem] theorem zQ6:zr Tryz.prog 81=some [.int .i64 0,.int .i64 0]:=by kernel_rfl
@[go_sem] theorem zPB:ezT Tryz.prog 81=0:=by kernel_rfl
@[go_sem] theorem zON:zeP Tryz.prog 81=some (zan Tryz.prog 81,[.int .i64 0,.int .i64 0]):=by kernel_rfl
@[go_sem] theorem zLr:zan Tryz.prog 81 0=some (0,1):=by kernel_rfl
@[go_sem] theorem zLC:zaz Tryz.prog 81 0=0:=by kernel_rfl
@[go_sem] theorem zI9:zan Tryz.prog 81 1=some (1,1):=by kernel_rfl
@[go_sem] theorem zJe:zaz Tryz.prog 81 1=0:=by kernel_rfl
@[go_sem] theorem zQ4:tk Tryz.prog 85=some (false,1):=by kernel_rfl
@[go_sem] theorem zQU:zr Tryz.prog 85=some [.sl true 4 []]:=by kernel_rfl
@[go_sem] theorem zPP:ezT Tryz.prog 85=4:=by kernel_rfl
@[go_sem] theorem zPo:zat Tryz.prog 85=some 117:=by kernel_rfl
@[go_sem] theorem zOs:zax Tryz.prog 85=false:=by kernel_rfl
@[go_sem] theorem zPb:esz Tryz.prog 85=some 4:=by kernel_rfl
@[go_sem] theorem zQx:ez Tryz.prog 85=some (4,32,[.int .i64 0,.int .i64 0,.int .i64 0,.int .i64 0]):=by kernel_rfl
@[go_sem] theorem zPX {i:Nat}:zaz Tryz.prog 85 i=0:=by kernel_rfl
@[go_sem] theorem zPp:tk Tryz.prog 105=some (false,1):=by kernel_rfl
@[go_sem] theorem zP5:zr Tryz.prog 105=some [.sl true 1 []]:=by kernel_rfl
@[go_sem] theorem zN1:ezT Tryz.prog 105=1:=by kernel_rfl
@[go_sem] theorem zNG:zat Tryz.prog 105=some 26:=by kernel_rfl
@[go_sem] theorem zMQ:zax Tryz.prog 105=false:=by kernel_rfl
@[go_sem] theorem zNk:esz Tryz.prog 105=some 1:=by kernel_rfl
@[go_sem] theorem zOl:ez Tryz.prog 105=some (1,24,[.sl false 1 []]):=by kernel_rfl
@[go_sem] theorem zNK {i:Nat}:zaz Tryz.prog 105 i=1:=by kernel_rfl
@[go_sem] theorem zPj:tk Tryz.prog 117=some (true,4):=by kernel_rfl
@[go_sem] theorem zPd:zr Tryz.prog 117=some [.int .i64 0,.int .i64 0,.int .i64 0,.int .i64 0]:=by kernel_rfl
@[go_sem] theorem zLU:ezT Tryz.prog 117=0:=by kernel_rfl
@[go_sem] theorem zMI:zeP Tryz.prog 117=some (zan Tryz.prog 117,[.int .i64 0,.int .i64 0,.int .i64 0,.int .i64 0]):=by kernel_rfl
@[go_sem] theorem zD8:zan Tryz.prog 117 0=some (0,1):=by kernel_rfl
@[go_sem] theorem zFP:zaz Tryz.prog 117 0=0:=by kernel_rfl
@[go_sem] theorem zEN:zan Tryz.prog 117 1=some (1,1):=by kernel_rfl
@[go_sem] theorem zFh:zaz Tryz.prog 117 1=0:=by kernel_rfl
@[go_sem] theorem zH1:zan Tryz.prog 117 2=some (2,1):=by kernel_rfl
@[go_sem] theorem zE6:zaz Tryz.prog 117 2=0:=by kernel_rfl
@[go_sem] theorem zFi:zan Tryz.prog 117 3=some (3,1):=by kernel_rfl
@[go_sem] theorem zF1:zaz Tryz.prog 117 3=0:=by kernel_rfl
@[go_sem] theorem zOd:tk Tryz.prog 141=some (false,1):=by kernel_rfl
@[go_sem] theorem zQp:zr Tryz.prog 141=some [.int .u64 0]:=by kernel_rfl
@[go_sem] theorem zND:ezT Tryz.prog 141=0:=by kernel_rfl
@[go_sem] theorem zL4:zc2 Tryz.prog 141=some .u64:=by kernel_rfl
@[go_sem] theorem zMx:zax Tryz.prog 141=false:=by kernel_rfl
@[go_sem] theorem zOz:tk Tryz.prog 146=some (false,1):=by kernel_rfl
@[go_sem] theorem zOy:zr Tryz.prog 146=some [.nilf]:=by kernel_rfl
@[go_sem] theorem zNW:ezT Tryz.prog 146=0:=by kernel_rfl
@[go_sem] theorem zPs:tk Tryz.prog 151=some (false,1):=by kernel_rfl
@[go_sem] theorem zO2:zr Tryz.prog 151=some [.sl true 1 []]:=by kernel_rfl
@[go_sem] theorem zL9:ezT Tryz.prog 151=1:=by kernel_rfl
@[go_sem] theorem zMT:zat Tryz.prog 151=some 5:=by kernel_rfl
@[go_sem] theorem zMV:zax Tryz.prog 151=false:=by kernel_rfl
@[go_sem] theorem zNA:esz Tryz.prog 151=some 1:=by kernel_rfl
@[go_sem] theorem zMq:zgO Tryz.prog 151=true:=by kernel_rfl
@[go_sem] theorem zPn:ez Tryz.prog 151=some (1,1,[.int .u8 0]):=by kernel_rfl
@[go_sem] theorem zNi {i:Nat}:zaz Tryz.prog 151 i=0:=by kernel_rfl
@[go_sem] theorem zOE:tk Tryz.prog 159=some (false,1):=by kernel_rfl
@[go_sem] theorem zOg:zr Tryz.prog 159=some [.nilp]:=by kernel_rfl
@[go_sem] theorem zNI:ezT Tryz.prog 159=0:=by kernel_rfl
@[go_sem] theorem zPA:tk Tryz.prog 161=some (true,2):=by kernel_rfl
@[go_sem] theorem zN9:zr Tryz.prog 161=some [.int .i64 0,.int .i64 0]:=by kernel_rfl
@[go_sem] theorem zMl:ezT Tryz.prog 161=0:=by kernel_rfl
@[go_sem] theorem zM5:zeP Tryz.prog 161=some (zan Tryz.prog 161,[.int .i64 0,.int .i64 0]):=by kernel_rfl
@[go_sem] theorem zET:zan Tryz.prog 161 0=some (0,1):=by kernel_rfl
@[go_sem] theorem zGw:zaz Tryz.prog 161 0=0:=by kernel_rfl
@[go_sem] theorem zFE:zan Tryz.prog 161 1=some (1,1):=by kernel_rfl
@[go_sem] theorem zHE:zaz Tryz.prog 161 1=0:=by kernel_rfl
@[go_sem] theorem zQk:tk Tryz.prog 164=some (true,24):=by kernel_rfl
@[go_sem] theorem zPu:zr Tryz.prog 164=some [.int .u8 0,.int .u8 0,.int .u8 0,.int .u8 0,.int .u8 0,.int .u8 0,.int .u8 0,.int .u8 0,.int .u8 0,.int .u8 0,.int .u8 0,.int .u8 0,.int .u8 0,.int .u8 0,.int .u8 0,.int .u8 0,.int .u8 0,.int .u8 0,.int .u8 0,.int .u8 0,.int .u8 0,.int .u8 0,.int .u8 0,.int .u8 0]:=by kernel_rfl
@[go_sem] theorem zLR:ezT Tryz.prog 164=0:=by kernel_rfl
@[go_sem] theorem zNR:esz Tryz.prog 164=none:=by kernel_rfl
@[go_sem] theorem zNM:asz Tryz.prog 164=some (24,1):=by kernel_rfl
@[go_sem] theorem zNc {i:Nat}:zaz Tryz.prog 164 i=0:=by kernel_rfl
@[go_sem] theorem zNu:zeP Tryz.prog 164=some (fun i=>some (i*1,1),[.int .u8 0,.int .u8 0,.int .u8 0,.int .u8 0,.int .u8 0,.int .u8 0,.int .u8 0,.int .u8 0,.int .u8 0,.int .u8 0,.int .u8 0,.int .u8 0,.int .u8 0,.int .u8 0,.int .u8 0,.int .u8 0,.int .u8 0,.int .u8 0,.int .u8 0,.int .u8 0,.int .u8 0,.int .u8 0,.int .u8 0,.int .u8 0]):=by kernel_rfl
@[go_sem] theorem zOn:tk Tryz.prog 165=some (false,1):=by kernel_rfl
@[go_sem] theorem zOW:zr Tryz.prog 165=some [.int .u64 0]:=by kernel_rfl
@[go_sem] theorem zMH:ezT Tryz.prog 165=0:=by kernel_rfl
@[go_sem] theorem zMr:zc2 Tryz.prog 165=some .u64:=by kernel_rfl
@[go_sem] theorem zL7:zax Tryz.prog 165=false:=by kernel_rfl
@[go_sem] theorem zPq:tk Tryz.prog 173=some (true,20):=by kernel_rfl
@[go_sem] theorem zOt:zr Tryz.prog 173=some [.int .u64 0,.int .u64 0,.int .u64 0,.int .u64 0,.int .u64 0,.int .u64 0,.int .u64 0,.int .u64 0,.int .u64 0,.int .u64 0,.int .u64 0,.int .u64 0,.int .u64 0,.int .u64 0,.int .u64 0,.int .u64 0,.int .u64 0,.int .u64 0,.int .u64 0,.int .u64 0]:=by kernel_rfl
@[go_sem] theorem zNT:ezT Tryz.prog 173=0:=by kernel_rfl
@[go_sem] theorem zNZ:esz Tryz.prog 173=none:=by kernel_rfl
@[go_sem] theorem zMG:asz Tryz.prog 173=some (20,1):=by kernel_rfl
@[go_sem] theorem zN0 {i:Nat}:zaz Tryz.prog 173 i=0:=by kernel_rfl
@[go_sem] theorem zNo:zeP Tryz.prog 173=some (fun i=>some (i*1,1),[.int .u64 0,.int .u64 0,.int .u64 0,.int .u64 0,.int .u64 0,.int .u64 0,.int .u64 0,.int .u64 0,.int .u64 0,.int .u64 0,.int .u64 0,.int .u64 0,.int .u64 0,.int .u64 0,.int .u64 0,.int .u64 0,.int .u64 0,.int .u64 0,.int .u64 0,.int .u64 0]):=by kernel_rfl
@[go_sem] theorem zQv:tk Tryz.prog 174=some (false,1):=by kernel_rfl
@[go_sem] theorem zPy:zr Tryz.prog 174=some [.int .u32 0]:=by kernel_rfl
@[go_sem] theorem zMb:ezT Tryz.prog 174=0:=by kernel_rfl
@[go_sem] theorem zNg:zc2 Tryz.prog 174=some .u32:=by kernel_rfl
@[go_sem] theorem zLW:zax Tryz.prog 174=false:=by kernel_rfl
@[go_sem] theorem zOY:tk Tryz.prog 175=some (true,65):=by kernel_rfl
@[go_sem] theorem zPH:zr Tryz.prog 175=some [.int .u8 0,.int .u8 0,.int .u8 0,.int .u8 0,.int .u8 0,.int .u8 0,.int .u8 0,.int .u8 0,.int .u8 0,.int .u8 0,.int .u8 0,.int .u8 0,.int .u8 0,.int .u8 0,.int .u8 0,.int .u8 0,.int .u8 0,.int .u8 0,.int .u8 0,.int .u8 0,.int .u8 0,.int .u8 0,.int .u8 0,.int .u8 0,.int .u8 0,.int .u8 0,.int .u8 0,.int .u8 0,.int .u8 0,.int .u8 0,.int .u8 0,.int .u8 0,.int .u8 0,.int .u8 0,.int .u8 0,.int .u8 0,.int .u8 0,.int .u8 0,.int .u8 0,.int .u8 0,.int .u8 0,.int .u8 0,.int .u8 0,.int .u8 0,.int .u8 0,.int .u8 0,.int .u8 0,.int .u8 0,.int .u8 0,.int .u8 0,.int .u8 0,.int .u8 0,.int .u8 0,.int .u8 0,.int .u8 0,.int .u8 0,.int .u8 0,.int .u8 0,.int .u8 0,.int .u8 0,.int .u8 0,.int .u8 0,.int .u8 0,.int .u8 0,.int .u8 0]:=by kernel_rfl
@[go_sem] theorem zMW:ezT Tryz.prog 175=0:=by kernel_rfl
@[go_sem] theorem zN4:esz Tryz.prog 175=none:=by kernel_rfl
@[go_sem] theorem zL8:asz Tryz.prog 175=some (65,1):=by kernel_rfl
@[go_sem] theorem zMy {i:Nat}:zaz Tryz.prog 175 i=0:=by kernel_rfl
@[go_sem] theorem zM1:zeP Tryz.prog 175=some (fun i=>some (i*1,1),[.int .u8 0,.int .u8 0,.int .u8 0,.int .u8 0,.int .u8 0,.int .u8 0,.int .u8 0,.int .u8 0,.int .u8 0,.int .u8 0,.int .u8 0,.int .u8 0,.int .u8 0,.int .u8 0,.int .u8 0,.int .u8 0,.int .u8 0,.int .u8 0,.int .u8 0,.int .u8 0,.int .u8 0,.int .u8 0,.int .u8 0,.int .u8 0,.int .u8 0,.int .u8 0,.int .u8 0,.int .u8 0,.int .u8 0,.int .u8 0,.int .u8 0,.int .u8 0,.int .u8 0,.int .u8 0,.int .u8 0,.int .u8 0,.int .u8 0,.int .u8 0,.int .u8 0,.int .u8 0,.int .u8 0,.int .u8 0,.int .u8 0,.int .u8 0,.int .u8 0,.int .u8 0,.int .u8 0,.int .u8 0,.int .u8 0,.int .u8 0,.int .u8 0,.int .u8 0,.int .u8 0,.int .u8 0,.int .u8 0,.int .u8 0,.int .u8 0,.int .u8 0,.int .u8 0,.int .u8 0,.int .u8 0,.int .u8 0,.int .u8 0,.int .u8 0,.int .u8 0]):=by kernel_rfl
@[go_sem] theorem zPe:tk Tryz.prog 178=some (true,32):=by kernel_rfl
@[go_sem] theorem zPx:zr Tryz.prog 178=some [.int .u8 0,.int .u8 0,.int .u8 0,.int .u8 0,.int .u8 0,.int .u8 0,.int .u8 0,.int .u8 0,.int .u8 0,.int .u8 0,.int .u8 0,.int .u8 0,.int .u8 0,.int .u8 0,.int .u8 0,.int .u8 0,.int .u8 0,.int .u8 0,.int .u8 0,.int .u8 0,.int .u8 0,.int .u8 0,.int .u8 0,.int .u8 0,.int .u8 0,.int .u8 0,.int .u8 0,.int .u8 0,.int .u8 0,.int .u8 0,.int .u8 0,.int .u8 0]:=by kernel_rfl
@[go_sem] theorem zMP:ezT Tryz.prog 178=0:=by kernel_rfl
@[go_sem] theorem zNb:esz Tryz.prog 178=none:=by kernel_rfl
@[go_sem] theorem zNh:asz Tryz.prog 178=some (32,1):=by kernel_rfl
@[go_sem] theorem zMs {i:Nat}:zaz Tryz.prog 178 i=0:=by kernel_rfl
@[go_sem] theorem zMm:zeP Tryz.prog 178=some (fun i=>some (i*1,1),[.int .u8 0,.int .u8 0,.int .u8 0,.int .u8 0,.int .u8 0,.int .u8 0,.int .u8 0,.int .u8 0,.int .u8 0,.int .u8 0,.int .u8 0,.int .u8 0,.int .u8 0,.int .u8 0,.int .u8 0,.int .u8 0,.int .u8 0,.int .u8 0,.int .u8 0,.int .u8 0,.int .u8 0,.int .u8 0,.int .u8 0,.int .u8 0,.int .u8 0,.int .u8 0,.int .u8 0,.int .u8 0,.int .u8 0,.int .u8 0,.int .u8 0,.int .u8 0]):=by kernel_rfl
@[go_sem] theorem zPM:tk Tryz.prog 179=some (true,64):=by kernel_rfl
@[go_sem] theorem zQg:zr Tryz.prog 179=some [.int .u8 0,.int .u8 0,.int .u8 0,.int .u8 0,.int .u8 0,.int .u8 0,.int .u8 0,.int .u8 0,.int .u8 0,.int .u8 0,.int .u8 0,.int .u8 0,.int .u8 0,.int .u8 0,.int .u8 0,.int .u8 0,.int .u8 0,.int .u8 0,.int .u8 0,.int .u8 0,.int .u8 0,.int .u8 0,.int .u8 0,.int .u8 0,.int .u8 0,.int .u8 0,.int .u8 0,.int .u8 0,.int .u8 0,.int .u8 0,.int .u8 0,.int .u8 0,.int .u8 0,.int .u8 0,.int .u8 0,.int .u8 0,.int .u8 0,.int .u8 0,.int .u8 0,.int .u8 0,.int .u8 0,.int .u8 0,.int .u8 0,.int .u8 0,.int .u8 0,.int .u8 0,.int .u8 0,.int .u8 0,.int .u8 0,.int .u8 0,.int .u8 0,.int .u8 0,.int .u8 0,.int .u8 0,.int .u8 0,.int .u8 0,.int .u8 0,.int .u8 0,.int .u8 0,.int .u8 0,.int .u8 0,.int .u8 0,.int .u8 0,.int .u8 0]:=by kernel_rfl
@[go_sem] theorem zNN:ezT Tryz.prog 179=0:=by kernel_rfl
@[go_sem] theorem zMw:esz Tryz.prog 179=none:=by kernel_rfl
@[go_sem] theorem zMe:asz Tryz.prog 179=some (64,1):=by kernel_rfl
@[go_sem] theorem zMp {i:Nat}:zaz Tryz.prog 179 i=0:=by kernel_rfl
@[go_sem] theorem zNP:zeP Tryz.prog 179=some (fun i=>some (i*1,1),[.int .u8 0,.int .u8 0,.int .u8 0,.int .u8 0,.int .u8 0,.int .u8 0,.int .u8 0,.int .u8 0,.int .u8 0,.int .u8 0,.int .u8 0,.int .u8 0,.int .u8 0,.int .u8 0,.int .u8 0,.int .u8 0,.int .u8 0,.int .u8 0,.int .u8 0,.int .u8 0,.int .u8 0,.int .u8 0,.int .u8 0,.int .u8 0,.int .u8 0,.int .u8 0,.int .u8 0,.int .u8 0,.int .u8 0,.int .u8 0,.int .u8 0,.int .u8 0,.int .u8 0,.int .u8 0,.int .u8 0,.int .u8 0,.int .u8 0,.int .u8 0,.int .u8 0,.int .u8 0,.int .u8 0,.int .u8 0,.int .u8 0,.int .u8 0,.int .u8 0,.int .u8 0,.int .u8 0,.int .u8 0,.int .u8 0,.int .u8 0,.int .u8 0,.int .u8 0,.int .u8 0,.int .u8 0,.int .u8 0,.int .u8 0,.int .u8 0,.int .u8 0,.int .u8 0,.int .u8 0,.int .u8 0,.int .u8 0,.int .u8 0,.int .u8 0]):=by kernel_rfl
theorem follows:Tryz.prog.follows .mixedOrders=true:=by kernel_rfl
theorem cl3:zac Tryz.prog 3:=fun args w=>Tryz.call3 args w
theorem cl7:zac Tryz.prog 7:=fun args w=>Tryz.call7 args w
theorem cl8:zac Tryz.prog 8:=fun args w=>Tryz.call8 args w
theorem cl9:zac Tryz.prog 9:=fun args w=>Tryz.call9 args w
theorem zFL:zac Tryz.prog 10:=fun args w=>Tryz.call10 args w
theorem zHj:zac Tryz.prog 11:=fun args w=>Tryz.call11 args w
theorem zFo:zac Tryz.prog 12:=fun args w=>Tryz.call12 args w
theorem zHX:zac Tryz.prog 13:=fun args w=>Tryz.call13 args w
theorem zGU:zac Tryz.prog 14:=fun args w=>Tryz.call14 args w
theorem zHT:zac Tryz.prog 31:=fun args w=>Tryz.call31 args w
theorem zER:zac Tryz.prog 32:=fun args w=>Tryz.call32 args w
theorem zG9:zac Tryz.prog 33:=fun args w=>Tryz.call33 args w
theorem zFB:zac Tryz.prog 34:=fun args w=>Tryz.call34 args w
theorem zF7:zac Tryz.prog 35:=fun args w=>Tryz.call35 args w
theorem zEg:zac Tryz.prog 36:=fun args w=>Tryz.call36 args w
theorem zHP:zac Tryz.prog 37:=fun args w=>Tryz.call37 args w
theorem zEa:zac Tryz.prog 38:=fun args w=>Tryz.call38 args w
theorem zGL:zac Tryz.prog 39:=fun args w=>Tryz.call39 args w
theorem zG3:zac Tryz.prog 40:=fun args w=>Tryz.call40 args w
theorem zEi:zac Tryz.prog 41:=fun args w=>Tryz.call41 args w
theorem zEd:zac Tryz.prog 42:=fun args w=>Tryz.call42 args w
theorem zE7:zac Tryz.prog 43:=fun args w=>Tryz.call43 args w
theorem zH4:zac Tryz.prog 44:=fun args w=>Tryz.call44 args w
theorem zEG:zac Tryz.prog 45:=fun args w=>Tryz.call45 args w
theorem zEs:zac Tryz.prog 46:=fun args w=>Tryz.call46 args w
theorem zGK:zac Tryz.prog 47:=fun args w=>Tryz.call47 args w
theorem zGV:zac Tryz.prog 48:=fun args w=>Tryz.call48 args w
theorem zHK:zac Tryz.prog 49:=fun args w=>Tryz.call49 args w
theorem zGN:zac Tryz.prog 50:=fun args w=>Tryz.call50 args w
theorem zGE:zac Tryz.prog 51:=fun args w=>Tryz.call51 args w
theorem zHo:zac Tryz.prog 52:=fun args w=>Tryz.call52 args w
theorem zE5:zac Tryz.prog 53:=fun args w=>Tryz.call53 args w
theorem zF4:zac Tryz.prog 54:=fun args w=>Tryz.call54 args w
theorem zEz:zac Tryz.prog 55:=fun args w=>Tryz.call55 args w
theorem zG7:zac Tryz.prog 56:=fun args w=>Tryz.call56 args w
theorem zEW:zac Tryz.prog 68:=fun args w=>Tryz.call68 args w
theorem zFx:zac Tryz.prog 69:=fun args w=>Tryz.call69 args w
theorem zGZ:zac Tryz.prog 70:=fun args w=>Tryz.call70 args w
theorem zFm:zac Tryz.prog 71:=fun args w=>Tryz.call71 args w
theorem zFj:zac Tryz.prog 72:=fun args w=>Tryz.call72 args w
theorem zG2:zac Tryz.prog 73:=fun args w=>Tryz.call73 args w
theorem zF2:zac Tryz.prog 74:=fun args w=>Tryz.call74 args w
theorem zG6:zac Tryz.prog 75:=fun args w=>Tryz.call75 args w
theorem zGO:zac Tryz.prog 76:=fun args w=>Tryz.call76 args w
theorem zEq:zac Tryz.prog 77:=fun args w=>Tryz.call77 args w
theorem zFc:zac Tryz.prog 78:=fun args w=>Tryz.call78 args w
theorem zH3:zac Tryz.prog 79:=fun args w=>Tryz.call79 args w
theorem zEu:zac Tryz.prog 80:=fun args w=>Tryz.call80 args w
theorem zFY:zac Tryz.prog 81:=fun args w=>Tryz.call81 args w
theorem zGW:zac Tryz.prog 82:=fun args w=>Tryz.call82 args w
theorem zFQ:zac Tryz.prog 83:=fun args w=>Tryz.call83 args w
theorem zG4:zac Tryz.prog 84:=fun args w=>Tryz.call84 args w
theorem zHL:zac Tryz.prog 85:=fun args w=>Tryz.call85 args w
theorem zGq:zac Tryz.prog 86:=fun args w=>Tryz.call86 args w
theorem zFN:zac Tryz.prog 87:=fun args w=>Tryz.call87 args w
theorem zE4:zac Tryz.prog 88:=fun args w=>Tryz.call88 args w
theorem zHW:zac Tryz.prog 89:=fun args w=>Tryz.call89 args w
theorem zEf:zac Tryz.prog 90:=fun args w=>Tryz.call90 args w
theorem zGG:zac Tryz.prog 91:=fun args w=>Tryz.call91 args w
theorem zFO:zac Tryz.prog 92:=fun args w=>Tryz.call92 args w
theorem zGQ:zac Tryz.prog 93:=fun args w=>Tryz.call93 args w
theorem zHy:zac Tryz.prog 94:=fun args w=>Tryz.call94 args w
theorem zE0:zac Tryz.prog 95:=fun args w=>Tryz.call95 args w
theorem zpp:zac Tryz.prog 96:=fun args w=>Tryz.call96 args w
theorem zEQ:zac Tryz.prog 97:=fun args w=>Tryz.call97 args w
theorem zEx:zac Tryz.prog 98:=fun args w=>Tryz.call98 args w
theorem zG0:zac Tryz.prog 99:=fun args w=>Tryz.call99 args w
theorem zBV:zac Tryz.prog 100:=fun args w=>Tryz.call100 args w
theorem zz7:zac Tryz.prog 101:=fun args w=>Tryz.call101 args w
theorem zBj:zac Tryz.prog 102:=fun args w=>Tryz.call102 args w
theorem zBD:zac Tryz.prog 103:=fun args w=>Tryz.call103 args w
theorem zBZ:zac Tryz.prog 104:=fun args w=>Tryz.call104 args w
theorem zwg:zac Tryz.prog 105:=fun args w=>Tryz.call105 args w
theorem zA4:zac Tryz.prog 106:=fun args w=>Tryz.call106 args w
theorem zBk:zac Tryz.prog 107:=fun args w=>Tryz.call107 args w
theorem zBu:zac Tryz.prog 108:=fun args w=>Tryz.call108 args w
theorem zCr:zac Tryz.prog 109:=fun args w=>Tryz.call109 args w
theorem zA6:zac Tryz.prog 110:=fun args w=>Tryz.call110 args w
theorem zAn:zac Tryz.prog 111:=fun args w=>Tryz.call111 args w
theorem zBF:zac Tryz.prog 112:=fun args w=>Tryz.call112 args w
theorem zBQ:zac Tryz.prog 113:=fun args w=>Tryz.call113 args w
theorem zBg:zac Tryz.prog 114:=fun args w=>Tryz.call114 args w
theorem zB9:zac Tryz.prog 116:=fun args w=>Tryz.call116 args w
theorem zBr:zac Tryz.prog 117:=fun args w=>Tryz.call117 args w
theorem zCz:zac Tryz.prog 118:=fun args w=>Tryz.call118 args w
theorem zzW:zac Tryz.prog 119:=fun args w=>Tryz.call119 args w
theorem zCI:zac Tryz.prog 120:=fun args w=>Tryz.call120 args w
theorem zCi:zac Tryz.prog 121:=fun args w=>Tryz.call121 args w
theorem zAz:zac Tryz.prog 122:=fun args w=>Tryz.call122 args w
theorem zBw:zac Tryz.prog 123:=fun args w=>Tryz.call123 args w
theorem zAB:zac Tryz.prog 124:=fun args w=>Tryz.call124 args w
theorem zB0:zac Tryz.prog 125:=fun args w=>Tryz.call125 args w
theorem zAa:zac Tryz.prog 126:=fun args w=>Tryz.call126 args w
theorem zAJ:zac Tryz.prog 127:=fun args w=>Tryz.call127 args w
theorem zBG:zac Tryz.prog 128:=fun args w=>Tryz.call128 args w
theorem zBb:zac Tryz.prog 129:=fun args w=>Tryz.call129 args w
theorem zA7:zac Tryz.prog 130:=fun args w=>Tryz.call130 args w
theorem zAy:zac Tryz.prog 131:=fun args w=>Tryz.call131 args w
theorem zCC:zac Tryz.prog 132:=fun args w=>Tryz.call132 args w
theorem zAb:zac Tryz.prog 133:=fun args w=>Tryz.call133 args w
theorem zAg:zac Tryz.prog 134:=fun args w=>Tryz.call134 args w
theorem zBB:zac Tryz.prog 135:=fun args w=>Tryz.call135 args w
theorem zAl:zac Tryz.prog 136:=fun args w=>Tryz.call136 args w
theorem zAp:zac Tryz.prog 137:=fun args w=>Tryz.call137 args w
theorem zAO:zac Tryz.prog 138:=fun args w=>Tryz.call138 args w
theorem zAs:zac Tryz.prog 139:=fun args w=>Tryz.call139 args w
theorem zBx:zac Tryz.prog 140:=fun args w=>Tryz.call140 args w
theorem zA5:zac Tryz.prog 141:=fun args w=>Tryz.call141 args w
theorem zB2:zac Tryz.prog 142:=fun args w=>Tryz.call142 args w
theorem zCb:zac Tryz.prog 143:=fun args w=>Tryz.call143 args w
theorem zmL:zac Tryz.prog 144:=fun args w=>Tryz.call144 args w
theorem znt:zac Tryz.prog 145:=fun args w=>Tryz.call145 args w
theorem zCj:zac Tryz.prog 146:=fun args w=>Tryz.call146 args w
theorem zAT:zac Tryz.prog 147:=fun args w=>Tryz.call147 args w
theorem zBI:zac Tryz.prog 149:=fun args w=>Tryz.call149 args w
theorem zBL:zac Tryz.prog 150:=fun args w=>Tryz.call150 args w
theorem zBM:zac Tryz.prog 151:=fun args w=>Tryz.call151 args w
theorem zB3:zac Tryz.prog 152:=fun args w=>Tryz.call152 args w
theorem zCa:zac Tryz.prog 153:=fun args w=>Tryz.call153 args w
theorem zCw:zac Tryz.prog 154:=fun args w=>Tryz.call154 args w
theorem zAA:zac Tryz.prog 155:=fun args w=>Tryz.call155 args w
theorem zCk:zac Tryz.prog 156:=fun args w=>Tryz.call156 args w
theorem zA8:zac Tryz.prog 157:=fun args w=>Tryz.call157 args w
theorem zAi:zac Tryz.prog 158:=fun args w=>Tryz.call158 args w
theorem zB6:zac Tryz.prog 159:=fun args w=>Tryz.call159 args w
theorem zCd:zac Tryz.prog 160:=fun args w=>Tryz.call160 args w
theorem zAW:zac Tryz.prog 161:=fun args w=>Tryz.call161 args w
theorem zz6:zac Tryz.prog 162:=fun args w=>Tryz.call162 args w
theorem zAt:zac Tryz.prog 163:=fun args w=>Tryz.call163 args w
theorem zBn:zac Tryz.prog 164:=fun args w=>Tryz.call164 args w
theorem zAY:zac Tryz.prog 165:=fun args w=>Tryz.call165 args w
theorem zCK:zac Tryz.prog 166:=fun args w=>Tryz.call166 args w
theorem zCq:zac Tryz.prog 167:=fun args w=>Tryz.call167 args w
theorem zAE:zac Tryz.prog 168:=fun args w=>Tryz.call168 args w
theorem zAu:zac Tryz.prog 169:=fun args w=>Tryz.call169 args w
theorem zm9:zac Tryz.prog 170:=fun args w=>Tryz.call170 args w
theorem zAv:zac Tryz.prog 171:=fun args w=>Tryz.call171 args w
theorem zAG:zac Tryz.prog 172:=fun args w=>Tryz.call172 args w
theorem zBs:zac Tryz.prog 174:=fun args w=>Tryz.call174 args w
theorem zCp:zac Tryz.prog 175:=fun args w=>Tryz.call175 args w
theorem zAk:zac Tryz.prog 176:=fun args w=>Tryz.call176 args w
theorem zAf:zac Tryz.prog 177:=fun args w=>Tryz.call177 args w
theorem zCv:zac Tryz.prog 178:=fun args w=>Tryz.call178 args w
theorem zCJ:zac Tryz.prog 179:=fun args w=>Tryz.call179 args w
theorem zCm:zac Tryz.prog 180:=fun args w=>Tryz.call180 args w
theorem zAZ:zac Tryz.prog 181:=fun args w=>Tryz.call181 args w
theorem zAr:zac Tryz.prog 182:=fun args w=>Tryz.call182 args w
theorem zAm:zac Tryz.prog 187:=fun args w=>Tryz.call187 args w
theorem zBH:zac Tryz.prog 188:=fun args w=>Tryz.call188 args w
end Go.Pm
