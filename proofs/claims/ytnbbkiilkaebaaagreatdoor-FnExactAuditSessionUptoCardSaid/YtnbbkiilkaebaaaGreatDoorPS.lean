import Derived.Test.YtnbbkiilkaebaaaGreatDoorPmW
import Derived.Test.YtnbbkiilkaebaaaGreatDoorProg
import Derived.KernelRfl
namespace Go.Pm
open Go.Am
open Go.Proofs
set_option maxRecDepth 100000
@[go_sem] theorem tk2:tk Tryz.prog 2=some (false,1):=by kernel_rfl
@[go_sem] theorem zr2:zr Tryz.prog 2=some [.int .i64 0]:=by kernel_rfl
@[go_sem] theorem zRG:ezT Tryz.prog 2=0:=by kernel_rfl
@[go_sem] theorem zRw:zc0 Tryz.prog 2=some .i64:=by kernel_rfl
@[go_sem] theorem zQ7:zax Tryz.prog 2=false:=by kernel_rfl
@[go_sem] theorem tk3:tk Tryz.prog 3=some (false,1):=by kernel_rfl
@[go_sem] theorem zr3:zr Tryz.prog 3=some [.int .i64 0]:=by kernel_rfl
@[go_sem] theorem zRc:ezT Tryz.prog 3=0:=by kernel_rfl
@[go_sem] theorem zRe:zc0 Tryz.prog 3=some .i64:=by kernel_rfl
@[go_sem] theorem zRv:zax Tryz.prog 3=false:=by kernel_rfl
@[go_sem] theorem tk4:tk Tryz.prog 4=some (false,1):=by kernel_rfl
@[go_sem] theorem zr4:zr Tryz.prog 4=some [.bool false]:=by kernel_rfl
@[go_sem] theorem zQ2:ezT Tryz.prog 4=0:=by kernel_rfl
@[go_sem] theorem zRx:zhs Tryz.prog 4=true:=by kernel_rfl
@[go_sem] theorem tk5:tk Tryz.prog 5=some (false,1):=by kernel_rfl
@[go_sem] theorem zr5:zr Tryz.prog 5=some [.int .u8 0]:=by kernel_rfl
@[go_sem] theorem zRO:ezT Tryz.prog 5=0:=by kernel_rfl
@[go_sem] theorem zRJ:zc0 Tryz.prog 5=some .u8:=by kernel_rfl
@[go_sem] theorem zRm:zax Tryz.prog 5=false:=by kernel_rfl
@[go_sem] theorem tk9:tk Tryz.prog 9=some (false,1):=by kernel_rfl
@[go_sem] theorem zr9:zr Tryz.prog 9=some [.str ⟨#[]⟩]:=by kernel_rfl
@[go_sem] theorem zRR:ezT Tryz.prog 9=0:=by kernel_rfl
@[go_sem] theorem zRV:zax Tryz.prog 9=true:=by kernel_rfl
@[go_sem] theorem zRl:tk Tryz.prog 20=some (false,1):=by kernel_rfl
@[go_sem] theorem zQ9:zr Tryz.prog 20=some [.nili]:=by kernel_rfl
@[go_sem] theorem zP3:ezT Tryz.prog 20=0:=by kernel_rfl
@[go_sem] theorem zRI:tk Tryz.prog 23=some (true,3):=by kernel_rfl
@[go_sem] theorem zRT:zr Tryz.prog 23=some [.int .i64 0,.int .i64 0,.int .i64 0]:=by kernel_rfl
@[go_sem] theorem zPA:ezT Tryz.prog 23=0:=by kernel_rfl
@[go_sem] theorem zO5:zeT Tryz.prog 23=some (zan Tryz.prog 23,[.int .i64 0,.int .i64 0,.int .i64 0]):=by kernel_rfl
@[go_sem] theorem zLJ:zan Tryz.prog 23 0=some (0,1):=by kernel_rfl
@[go_sem] theorem zKr:zaz Tryz.prog 23 0=0:=by kernel_rfl
@[go_sem] theorem zIS:zan Tryz.prog 23 1=some (1,1):=by kernel_rfl
@[go_sem] theorem zKH:zaz Tryz.prog 23 1=0:=by kernel_rfl
@[go_sem] theorem zJi:zan Tryz.prog 23 2=some (2,1):=by kernel_rfl
@[go_sem] theorem zJI:zaz Tryz.prog 23 2=0:=by kernel_rfl
@[go_sem] theorem zQ5:tk Tryz.prog 25=some (true,5):=by kernel_rfl
@[go_sem] theorem zRz:zr Tryz.prog 25=some [.int .i64 0,.int .i64 0,.int .i64 0,.int .i64 0,.int .i64 0]:=by kernel_rfl
@[go_sem] theorem zQW:ezT Tryz.prog 25=0:=by kernel_rfl
@[go_sem] theorem zPk:zeT Tryz.prog 25=some (zan Tryz.prog 25,[.int .i64 0,.int .i64 0,.int .i64 0,.int .i64 0,.int .i64 0]):=by kernel_rfl
@[go_sem] theorem zMa:zan Tryz.prog 25 0=some (0,1):=by kernel_rfl
@[go_sem] theorem zLs:zaz Tryz.prog 25 0=0:=by kernel_rfl
@[go_sem] theorem zJs:zan Tryz.prog 25 1=some (1,1):=by kernel_rfl
@[go_sem] theorem zIZ:zaz Tryz.prog 25 1=0:=by kernel_rfl
@[go_sem] theorem zKI:zan Tryz.prog 25 2=some (2,1):=by kernel_rfl
@[go_sem] theorem zJC:zaz Tryz.prog 25 2=0:=by kernel_rfl
@[go_sem] theorem zIx:zan Tryz.prog 25 3=some (3,1):=by kernel_rfl
@[go_sem] theorem zI6:zaz Tryz.prog 25 3=0:=by kernel_rfl
@[go_sem] theorem zL8:zan Tryz.prog 25 4=some (4,1):=by kernel_rfl
@[go_sem] theorem zLZ:zaz Tryz.prog 25 4=0:=by kernel_rfl
@[go_sem] theorem zRu:tk Tryz.prog 26=some (false,1):=by kernel_rfl
@[go_sem] theorem zRf:zr Tryz.prog 26=some [.sl true 1 []]:=by kernel_rfl
@[go_sem] theorem zPE:ezT Tryz.prog 26=1:=by kernel_rfl
@[go_sem] theorem zQH:zas Tryz.prog 26=some 3:=by kernel_rfl
@[go_sem] theorem zQ0:zax Tryz.prog 26=false:=by kernel_rfl
@[go_sem] theorem zP2:esz Tryz.prog 26=some 1:=by kernel_rfl
@[go_sem] theorem zG0:ez Tryz.prog 26=some (1,8,[.int .i64 0]):=by kernel_rfl
@[go_sem] theorem zQj {i:Nat}:zaz Tryz.prog 26 i=0:=by kernel_rfl
@[go_sem] theorem zRs:tk Tryz.prog 29=some (true,3):=by kernel_rfl
@[go_sem] theorem zRa:zr Tryz.prog 29=some [.int .i64 0,.int .i64 0,.int .i64 0]:=by kernel_rfl
@[go_sem] theorem zQR:ezT Tryz.prog 29=0:=by kernel_rfl
@[go_sem] theorem zQg:zeT Tryz.prog 29=some (zan Tryz.prog 29,[.int .i64 0,.int .i64 0,.int .i64 0]):=by kernel_rfl
@[go_sem] theorem zKj:zan Tryz.prog 29 0=some (0,1):=by kernel_rfl
@[go_sem] theorem zIB:zaz Tryz.prog 29 0=0:=by kernel_rfl
@[go_sem] theorem zLo:zan Tryz.prog 29 1=some (1,1):=by kernel_rfl
@[go_sem] theorem zKZ:zaz Tryz.prog 29 1=0:=by kernel_rfl
@[go_sem] theorem zLE:zan Tryz.prog 29 2=some (2,1):=by kernel_rfl
@[go_sem] theorem zK7:zaz Tryz.prog 29 2=0:=by kernel_rfl
@[go_sem] theorem zRF:tk Tryz.prog 31=some (true,5):=by kernel_rfl
@[go_sem] theorem zRA:zr Tryz.prog 31=some [.int .i64 0,.int .i64 0,.int .i64 0,.int .i64 0,.int .i64 0]:=by kernel_rfl
@[go_sem] theorem zQP:ezT Tryz.prog 31=0:=by kernel_rfl
@[go_sem] theorem zPu:zeT Tryz.prog 31=some (zan Tryz.prog 31,[.int .i64 0,.int .i64 0,.int .i64 0,.int .i64 0,.int .i64 0]):=by kernel_rfl
@[go_sem] theorem zIK:zan Tryz.prog 31 0=some (0,1):=by kernel_rfl
@[go_sem] theorem zKg:zaz Tryz.prog 31 0=0:=by kernel_rfl
@[go_sem] theorem zK2:zan Tryz.prog 31 1=some (1,1):=by kernel_rfl
@[go_sem] theorem zK5:zaz Tryz.prog 31 1=0:=by kernel_rfl
@[go_sem] theorem zJx:zan Tryz.prog 31 2=some (2,1):=by kernel_rfl
@[go_sem] theorem zK1:zaz Tryz.prog 31 2=0:=by kernel_rfl
@[go_sem] theorem zKm:zan Tryz.prog 31 3=some (3,1):=by kernel_rfl
@[go_sem] theorem zJP:zaz Tryz.prog 31 3=0:=by kernel_rfl
@[go_sem] theorem zLl:zan Tryz.prog 31 4=some (4,1):=by kernel_rfl
@[go_sem] theorem zKQ:zaz Tryz.prog 31 4=0:=by kernel_rfl
@[go_sem] theorem zRQ:tk Tryz.prog 36=some (false,1):=by kernel_rfl
@[go_sem] theorem zRy:zr Tryz.prog 36=some [.sl true 2 []]:=by kernel_rfl
@[go_sem] theorem zOG:ezT Tryz.prog 36=2:=by kernel_rfl
@[go_sem] theorem zPY:zas Tryz.prog 36=some 81:=by kernel_rfl
@[go_sem] theorem zOR:zax Tryz.prog 36=false:=by kernel_rfl
@[go_sem] theorem zQO:esz Tryz.prog 36=some 2:=by kernel_rfl
@[go_sem] theorem zRK:ez Tryz.prog 36=some (2,16,[.int .i64 0,.int .i64 0]):=by kernel_rfl
@[go_sem] theorem zQw {i:Nat}:zaz Tryz.prog 36 i=0:=by kernel_rfl
@[go_sem] theorem zRL:tk Tryz.prog 37=some (false,1):=by kernel_rfl
@[go_sem] theorem zRh:zr Tryz.prog 37=some [.sl true 3 []]:=by kernel_rfl
@[go_sem] theorem zO1:ezT Tryz.prog 37=3:=by kernel_rfl
@[go_sem] theorem zQi:zas Tryz.prog 37=some 39:=by kernel_rfl
@[go_sem] theorem zQY:zax Tryz.prog 37=false:=by kernel_rfl
@[go_sem] theorem zOY:esz Tryz.prog 37=some 3:=by kernel_rfl
@[go_sem] theorem zRE:ez Tryz.prog 37=some (3,72,[.sl false 1 [],.sl false 1 [],.sl false 1 []]):=by kernel_rfl
@[go_sem] theorem zOT {i:Nat}:zaz Tryz.prog 37 i=0:=by kernel_rfl
@[go_sem] theorem zRg:tk Tryz.prog 39=some (true,3):=by kernel_rfl
@[go_sem] theorem zQ4:zr Tryz.prog 39=some [.sl true 1 [],.sl true 1 [],.sl true 1 []]:=by kernel_rfl
@[go_sem] theorem zOH:ezT Tryz.prog 39=0:=by kernel_rfl
@[go_sem] theorem zPX:zeT Tryz.prog 39=some (zan Tryz.prog 39,[.sl true 1 [],.sl true 1 [],.sl true 1 []]):=by kernel_rfl
@[go_sem] theorem zIL:zan Tryz.prog 39 0=some (0,1):=by kernel_rfl
@[go_sem] theorem zID:zaz Tryz.prog 39 0=1:=by kernel_rfl
@[go_sem] theorem zJb:zan Tryz.prog 39 1=some (1,1):=by kernel_rfl
@[go_sem] theorem zLa:zaz Tryz.prog 39 1=1:=by kernel_rfl
@[go_sem] theorem zLz:zan Tryz.prog 39 2=some (2,1):=by kernel_rfl
@[go_sem] theorem zIF:zaz Tryz.prog 39 2=1:=by kernel_rfl
@[go_sem] theorem zQ3:tk Tryz.prog 41=some (true,6):=by kernel_rfl
@[go_sem] theorem zRr:zr Tryz.prog 41=some [.int .i64 0,.sl true 2 [],.sl true 3 [],.sl true 1 [],.sl true 1 [],.sl true 1 []]:=by kernel_rfl
@[go_sem] theorem zPQ:ezT Tryz.prog 41=0:=by kernel_rfl
@[go_sem] theorem zOW:zeT Tryz.prog 41=some (zan Tryz.prog 41,[.int .i64 0,.sl true 2 [],.sl true 3 [],.sl true 1 [],.sl true 1 [],.sl true 1 []]):=by kernel_rfl
@[go_sem] theorem zKB:zan Tryz.prog 41 0=some (0,1):=by kernel_rfl
@[go_sem] theorem zLP:zaz Tryz.prog 41 0=0:=by kernel_rfl
@[go_sem] theorem zJU:zan Tryz.prog 41 1=some (1,1):=by kernel_rfl
@[go_sem] theorem zLk:zaz Tryz.prog 41 1=2:=by kernel_rfl
@[go_sem] theorem zJw:zan Tryz.prog 41 2=some (2,1):=by kernel_rfl
@[go_sem] theorem zL9:zaz Tryz.prog 41 2=3:=by kernel_rfl
@[go_sem] theorem zLc:zan Tryz.prog 41 3=some (3,3):=by kernel_rfl
@[go_sem] theorem zKK:zaz Tryz.prog 41 3=0:=by kernel_rfl
@[go_sem] theorem zQ1:tk Tryz.prog 48=some (true,5):=by kernel_rfl
@[go_sem] theorem zRt:zr Tryz.prog 48=some [.int .i64 0,.sl true 1 [],.sl true 1 [],.int .i64 0,.bool false]:=by kernel_rfl
@[go_sem] theorem zPF:ezT Tryz.prog 48=0:=by kernel_rfl
@[go_sem] theorem zQb:zeT Tryz.prog 48=some (zan Tryz.prog 48,[.int .i64 0,.sl true 1 [],.sl true 1 [],.int .i64 0,.bool false]):=by kernel_rfl
@[go_sem] theorem zJ2:zan Tryz.prog 48 0=some (0,1):=by kernel_rfl
@[go_sem] theorem zLv:zaz Tryz.prog 48 0=0:=by kernel_rfl
@[go_sem] theorem zKT:zan Tryz.prog 48 1=some (1,1):=by kernel_rfl
@[go_sem] theorem zLe:zaz Tryz.prog 48 1=1:=by kernel_rfl
@[go_sem] theorem zJ7:zan Tryz.prog 48 2=some (2,1):=by kernel_rfl
@[go_sem] theorem zKF:zaz Tryz.prog 48 2=1:=by kernel_rfl
@[go_sem] theorem zKA:zan Tryz.prog 48 3=some (3,1):=by kernel_rfl
@[go_sem] theorem zLg:zaz Tryz.prog 48 3=0:=by kernel_rfl
@[go_sem] theorem zLX:zan Tryz.prog 48 4=some (4,1):=by kernel_rfl
@[go_sem] theorem zL3:zaz Tryz.prog 48 4=0:=by kernel_rfl
@[go_sem] theorem zQ6:tk Tryz.prog 52=some (true,5):=by kernel_rfl
@[go_sem] theorem zRH:zr Tryz.prog 52=some [.int .i64 0,.sl true 1 [],.sl true 1 [],.int .i64 0,.bool false]:=by kernel_rfl
@[go_sem] theorem zPp:ezT Tryz.prog 52=0:=by kernel_rfl
@[go_sem] theorem zQA:zeT Tryz.prog 52=some (zan Tryz.prog 52,[.int .i64 0,.sl true 1 [],.sl true 1 [],.int .i64 0,.bool false]):=by kernel_rfl
@[go_sem] theorem zJH:zan Tryz.prog 52 0=some (0,1):=by kernel_rfl
@[go_sem] theorem zLU:zaz Tryz.prog 52 0=0:=by kernel_rfl
@[go_sem] theorem zKM:zan Tryz.prog 52 1=some (1,1):=by kernel_rfl
@[go_sem] theorem zJQ:zaz Tryz.prog 52 1=1:=by kernel_rfl
@[go_sem] theorem zK4:zan Tryz.prog 52 2=some (2,1):=by kernel_rfl
@[go_sem] theorem zKG:zaz Tryz.prog 52 2=1:=by kernel_rfl
@[go_sem] theorem zLG:zan Tryz.prog 52 3=some (3,1):=by kernel_rfl
@[go_sem] theorem zL0:zaz Tryz.prog 52 3=0:=by kernel_rfl
@[go_sem] theorem zJg:zan Tryz.prog 52 4=some (4,1):=by kernel_rfl
@[go_sem] theorem zJ5:zaz Tryz.prog 52 4=0:=by kernel_rfl
@[go_sem] theorem zRD:tk Tryz.prog 56=some (false,1):=by kernel_rfl
@[go_sem] theorem zRb:zr Tryz.prog 56=some [.sl true 5 []]:=by kernel_rfl
@[go_sem] theorem zQp:ezT Tryz.prog 56=5:=by kernel_rfl
@[go_sem] theorem zPe:zas Tryz.prog 56=some 48:=by kernel_rfl
@[go_sem] theorem zQD:zax Tryz.prog 56=false:=by kernel_rfl
@[go_sem] theorem zPa:esz Tryz.prog 56=some 5:=by kernel_rfl
@[go_sem] theorem zRU:ez Tryz.prog 56=some (5,72,[.int .i64 0,.sl false 1 [],.sl false 1 [],.int .i64 0,.bool false]):=by kernel_rfl
@[go_sem] theorem zQB {i:Nat}:zaz Tryz.prog 56 i=0:=by kernel_rfl
@[go_sem] theorem zRj:tk Tryz.prog 60=some (false,1):=by kernel_rfl
@[go_sem] theorem zRC:zr Tryz.prog 60=some [.sl true 5 []]:=by kernel_rfl
@[go_sem] theorem zOK:ezT Tryz.prog 60=5:=by kernel_rfl
@[go_sem] theorem zOL:zas Tryz.prog 60=some 52:=by kernel_rfl
@[go_sem] theorem zPt:zax Tryz.prog 60=false:=by kernel_rfl
@[go_sem] theorem zOz:esz Tryz.prog 60=some 5:=by kernel_rfl
@[go_sem] theorem zRq:ez Tryz.prog 60=some (5,72,[.int .i64 0,.sl false 1 [],.sl false 1 [],.int .i64 0,.bool false]):=by kernel_rfl
@[go_sem] theorem zPZ {i:Nat}:zaz Tryz.prog 60 i=0:=by kernel_rfl
@[go_sem] theorem zRi:tk Tryz.prog 72=some (false,1):=by kernel_rfl
@[go_sem] theorem zRk:zr Tryz.prog 72=some [.nilf]:=by kernel_rfl
@[go_sem] theorem zQs:ezT Tryz.prog 72=0:=by kernel_rfl
@[go_sem] theorem zRB:tk Tryz.prog 73=some (false,1):=by kernel_rfl
@[go_sem] theorem zRn:zr Tryz.prog 73=some [.nilf]:=by kernel_rfl
@[go_sem] theorem zOD:ezT Tryz.prog 73=0:=by kernel_rfl
@[go_sem] theorem zRP:tk Tryz.prog 81=some (true,2):=by kernel_rfl
@[go_sem] theorem zRN:zr Tryz.prog 81=some [.int .i64 0,.int .i64 0]:=by kernel_rfl
@[go_sem] theorem zPh:ezT Tryz.prog 81=0:=by kernel_rfl
@[go_sem] theorem zP0:zeT Tryz.prog 81=some (zan Tryz.prog 81,[.int .i64 0,.int .i64 0]):=by kernel_rfl
@[go_sem] theorem zKe:zan Tryz.prog 81 0=some (0,1):=by kernel_rfl
@[go_sem] theorem zLu:zaz Tryz.prog 81 0=0:=by kernel_rfl
@[go_sem] theorem zLS:zan Tryz.prog 81 1=some (1,1):=by kernel_rfl
@[go_sem] theorem zKk:zaz Tryz.prog 81 1=0:=by kernel_rfl
@[go_sem] theorem zRS:tk Tryz.prog 85=some (false,1):=by kernel_rfl
@[go_sem] theorem zRd:zr Tryz.prog 85=some [.sl true 4 []]:=by kernel_rfl
@[go_sem] theorem zPT:ezT Tryz.prog 85=4:=by kernel_rfl
@[go_sem] theorem zQG:zas Tryz.prog 85=some 117:=by kernel_rfl
@[go_sem] theorem zO2:zax Tryz.prog 85=false:=by kernel_rfl
@[go_sem] theorem zQh:esz Tryz.prog 85=some 4:=by kernel_rfl
@[go_sem] theorem zRM:ez Tryz.prog 85=some (4,32,[.int .i64 0,.int .i64 0,.int .i64 0,.int .i64 0]):=by kernel_rfl
@[go_sem] theorem zOC {i:Nat}:zaz Tryz.prog 85 i=0:=by kernel_rfl
@[go_sem] theorem zPm:tk Tryz.prog 105=some (false,1):=by kernel_rfl
@[go_sem] theorem zPx:zr Tryz.prog 105=some [.sl true 1 []]:=by kernel_rfl
@[go_sem] theorem zNk:ezT Tryz.prog 105=1:=by kernel_rfl
@[go_sem] theorem zMo:zas Tryz.prog 105=some 26:=by kernel_rfl
@[go_sem] theorem zOd:zax Tryz.prog 105=false:=by kernel_rfl
@[go_sem] theorem zMG:esz Tryz.prog 105=some 1:=by kernel_rfl
@[go_sem] theorem zPl:ez Tryz.prog 105=some (1,24,[.sl false 1 []]):=by kernel_rfl
@[go_sem] theorem zNZ {i:Nat}:zaz Tryz.prog 105 i=1:=by kernel_rfl
@[go_sem] theorem zOQ:tk Tryz.prog 117=some (true,4):=by kernel_rfl
@[go_sem] theorem zPq:zr Tryz.prog 117=some [.int .i64 0,.int .i64 0,.int .i64 0,.int .i64 0]:=by kernel_rfl
@[go_sem] theorem zMF:ezT Tryz.prog 117=0:=by kernel_rfl
@[go_sem] theorem zMn:zeT Tryz.prog 117=some (zan Tryz.prog 117,[.int .i64 0,.int .i64 0,.int .i64 0,.int .i64 0]):=by kernel_rfl
@[go_sem] theorem zHB:zan Tryz.prog 117 0=some (0,1):=by kernel_rfl
@[go_sem] theorem zHd:zaz Tryz.prog 117 0=0:=by kernel_rfl
@[go_sem] theorem zIm:zan Tryz.prog 117 1=some (1,1):=by kernel_rfl
@[go_sem] theorem zFO:zaz Tryz.prog 117 1=0:=by kernel_rfl
@[go_sem] theorem zIq:zan Tryz.prog 117 2=some (2,1):=by kernel_rfl
@[go_sem] theorem zGk:zaz Tryz.prog 117 2=0:=by kernel_rfl
@[go_sem] theorem zES:zan Tryz.prog 117 3=some (3,1):=by kernel_rfl
@[go_sem] theorem zEP:zaz Tryz.prog 117 3=0:=by kernel_rfl
@[go_sem] theorem zPG:tk Tryz.prog 141=some (false,1):=by kernel_rfl
@[go_sem] theorem zP6:zr Tryz.prog 141=some [.int .u64 0]:=by kernel_rfl
@[go_sem] theorem zN4:ezT Tryz.prog 141=0:=by kernel_rfl
@[go_sem] theorem zNU:zc0 Tryz.prog 141=some .u64:=by kernel_rfl
@[go_sem] theorem zNh:zax Tryz.prog 141=false:=by kernel_rfl
@[go_sem] theorem zPn:tk Tryz.prog 146=some (false,1):=by kernel_rfl
@[go_sem] theorem zO6:zr Tryz.prog 146=some [.nilf]:=by kernel_rfl
@[go_sem] theorem zMS:ezT Tryz.prog 146=0:=by kernel_rfl
@[go_sem] theorem zO4:tk Tryz.prog 151=some (false,1):=by kernel_rfl
@[go_sem] theorem zPs:zr Tryz.prog 151=some [.sl true 1 []]:=by kernel_rfl
@[go_sem] theorem zNm:ezT Tryz.prog 151=1:=by kernel_rfl
@[go_sem] theorem zNc:zas Tryz.prog 151=some 5:=by kernel_rfl
@[go_sem] theorem zNI:zax Tryz.prog 151=false:=by kernel_rfl
@[go_sem] theorem zNN:esz Tryz.prog 151=some 1:=by kernel_rfl
@[go_sem] theorem zMP:zhd Tryz.prog 151=true:=by kernel_rfl
@[go_sem] theorem zOU:ez Tryz.prog 151=some (1,1,[.int .u8 0]):=by kernel_rfl
@[go_sem] theorem zOn {i:Nat}:zaz Tryz.prog 151 i=0:=by kernel_rfl
@[go_sem] theorem zOZ:tk Tryz.prog 159=some (false,1):=by kernel_rfl
@[go_sem] theorem zPL:zr Tryz.prog 159=some [.nilp]:=by kernel_rfl
@[go_sem] theorem zNu:ezT Tryz.prog 159=0:=by kernel_rfl
@[go_sem] theorem zOS:tk Tryz.prog 161=some (true,2):=by kernel_rfl
@[go_sem] theorem zPi:zr Tryz.prog 161=some [.int .i64 0,.int .i64 0]:=by kernel_rfl
@[go_sem] theorem zMy:ezT Tryz.prog 161=0:=by kernel_rfl
@[go_sem] theorem zM5:zeT Tryz.prog 161=some (zan Tryz.prog 161,[.int .i64 0,.int .i64 0]):=by kernel_rfl
@[go_sem] theorem zIb:zan Tryz.prog 161 0=some (0,1):=by kernel_rfl
@[go_sem] theorem zGZ:zaz Tryz.prog 161 0=0:=by kernel_rfl
@[go_sem] theorem zHQ:zan Tryz.prog 161 1=some (1,1):=by kernel_rfl
@[go_sem] theorem zHr:zaz Tryz.prog 161 1=0:=by kernel_rfl
@[go_sem] theorem zOy:tk Tryz.prog 164=some (true,24):=by kernel_rfl
@[go_sem] theorem zQc:zr Tryz.prog 164=some [.int .u8 0,.int .u8 0,.int .u8 0,.int .u8 0,.int .u8 0,.int .u8 0,.int .u8 0,.int .u8 0,.int .u8 0,.int .u8 0,.int .u8 0,.int .u8 0,.int .u8 0,.int .u8 0,.int .u8 0,.int .u8 0,.int .u8 0,.int .u8 0,.int .u8 0,.int .u8 0,.int .u8 0,.int .u8 0,.int .u8 0,.int .u8 0]:=by kernel_rfl
@[go_sem] theorem zMC:ezT Tryz.prog 164=0:=by kernel_rfl
@[go_sem] theorem zM7:esz Tryz.prog 164=none:=by kernel_rfl
@[go_sem] theorem zOs:asz Tryz.prog 164=some (24,1):=by kernel_rfl
@[go_sem] theorem zM8 {i:Nat}:zaz Tryz.prog 164 i=0:=by kernel_rfl
@[go_sem] theorem zN0:zeT Tryz.prog 164=some (fun i=>some (i*1,1),[.int .u8 0,.int .u8 0,.int .u8 0,.int .u8 0,.int .u8 0,.int .u8 0,.int .u8 0,.int .u8 0,.int .u8 0,.int .u8 0,.int .u8 0,.int .u8 0,.int .u8 0,.int .u8 0,.int .u8 0,.int .u8 0,.int .u8 0,.int .u8 0,.int .u8 0,.int .u8 0,.int .u8 0,.int .u8 0,.int .u8 0,.int .u8 0]):=by kernel_rfl
@[go_sem] theorem zPN:tk Tryz.prog 165=some (false,1):=by kernel_rfl
@[go_sem] theorem zQm:zr Tryz.prog 165=some [.int .u64 0]:=by kernel_rfl
@[go_sem] theorem zNe:ezT Tryz.prog 165=0:=by kernel_rfl
@[go_sem] theorem zOp:zc0 Tryz.prog 165=some .u64:=by kernel_rfl
@[go_sem] theorem zNp:zax Tryz.prog 165=false:=by kernel_rfl
@[go_sem] theorem zQZ:tk Tryz.prog 173=some (true,20):=by kernel_rfl
@[go_sem] theorem zOE:zr Tryz.prog 173=some [.int .u64 0,.int .u64 0,.int .u64 0,.int .u64 0,.int .u64 0,.int .u64 0,.int .u64 0,.int .u64 0,.int .u64 0,.int .u64 0,.int .u64 0,.int .u64 0,.int .u64 0,.int .u64 0,.int .u64 0,.int .u64 0,.int .u64 0,.int .u64 0,.int .u64 0,.int .u64 0]:=by kernel_rfl
@[go_sem] theorem zNM:ezT Tryz.prog 173=0:=by kernel_rfl
@[go_sem] theorem zNB:esz Tryz.prog 173=none:=by kernel_rfl
@[go_sem] theorem zOh:asz Tryz.prog 173=some (20,1):=by kernel_rfl
@[go_sem] theorem zNL {i:Nat}:zaz Tryz.prog 173 i=0:=by kernel_rfl
@[go_sem] theorem zOt:zeT Tryz.prog 173=some (fun i=>some (i*1,1),[.int .u64 0,.int .u64 0,.int .u64 0,.int .u64 0,.int .u64 0,.int .u64 0,.int .u64 0,.int .u64 0,.int .u64 0,.int .u64 0,.int .u64 0,.int .u64 0,.int .u64 0,.int .u64 0,.int .u64 0,.int .u64 0,.int .u64 0,.int .u64 0,.int .u64 0,.int .u64 0]):=by kernel_rfl
@[go_sem] theorem zQa:tk Tryz.prog 174=some (false,1):=by kernel_rfl
@[go_sem] theorem zP9:zr Tryz.prog 174=some [.int .u32 0]:=by kernel_rfl
@[go_sem] theorem zOu:ezT Tryz.prog 174=0:=by kernel_rfl
@[go_sem] theorem zOg:zc0 Tryz.prog 174=some .u32:=by kernel_rfl
@[go_sem] theorem zOr:zax Tryz.prog 174=false:=by kernel_rfl
@[go_sem] theorem zPM:tk Tryz.prog 175=some (true,65):=by kernel_rfl
@[go_sem] theorem zOI:zr Tryz.prog 175=some [.int .u8 0,.int .u8 0,.int .u8 0,.int .u8 0,.int .u8 0,.int .u8 0,.int .u8 0,.int .u8 0,.int .u8 0,.int .u8 0,.int .u8 0,.int .u8 0,.int .u8 0,.int .u8 0,.int .u8 0,.int .u8 0,.int .u8 0,.int .u8 0,.int .u8 0,.int .u8 0,.int .u8 0,.int .u8 0,.int .u8 0,.int .u8 0,.int .u8 0,.int .u8 0,.int .u8 0,.int .u8 0,.int .u8 0,.int .u8 0,.int .u8 0,.int .u8 0,.int .u8 0,.int .u8 0,.int .u8 0,.int .u8 0,.int .u8 0,.int .u8 0,.int .u8 0,.int .u8 0,.int .u8 0,.int .u8 0,.int .u8 0,.int .u8 0,.int .u8 0,.int .u8 0,.int .u8 0,.int .u8 0,.int .u8 0,.int .u8 0,.int .u8 0,.int .u8 0,.int .u8 0,.int .u8 0,.int .u8 0,.int .u8 0,.int .u8 0,.int .u8 0,.int .u8 0,.int .u8 0,.int .u8 0,.int .u8 0,.int .u8 0,.int .u8 0,.int .u8 0]:=by kernel_rfl
@[go_sem] theorem zN2:ezT Tryz.prog 175=0:=by kernel_rfl
@[go_sem] theorem zOo:esz Tryz.prog 175=none:=by kernel_rfl
@[go_sem] theorem zMQ:asz Tryz.prog 175=some (65,1):=by kernel_rfl
@[go_sem] theorem zM3 {i:Nat}:zaz Tryz.prog 175 i=0:=by kernel_rfl
@[go_sem] theorem zNt:zeT Tryz.prog 175=some (fun i=>some (i*1,1),[.int .u8 0,.int .u8 0,.int .u8 0,.int .u8 0,.int .u8 0,.int .u8 0,.int .u8 0,.int .u8 0,.int .u8 0,.int .u8 0,.int .u8 0,.int .u8 0,.int .u8 0,.int .u8 0,.int .u8 0,.int .u8 0,.int .u8 0,.int .u8 0,.int .u8 0,.int .u8 0,.int .u8 0,.int .u8 0,.int .u8 0,.int .u8 0,.int .u8 0,.int .u8 0,.int .u8 0,.int .u8 0,.int .u8 0,.int .u8 0,.int .u8 0,.int .u8 0,.int .u8 0,.int .u8 0,.int .u8 0,.int .u8 0,.int .u8 0,.int .u8 0,.int .u8 0,.int .u8 0,.int .u8 0,.int .u8 0,.int .u8 0,.int .u8 0,.int .u8 0,.int .u8 0,.int .u8 0,.int .u8 0,.int .u8 0,.int .u8 0,.int .u8 0,.int .u8 0,.int .u8 0,.int .u8 0,.int .u8 0,.int .u8 0,.int .u8 0,.int .u8 0,.int .u8 0,.int .u8 0,.int .u8 0,.int .u8 0,.int .u8 0,.int .u8 0,.int .u8 0]):=by kernel_rfl
@[go_sem] theorem zON:tk Tryz.prog 178=some (true,32):=by kernel_rfl
@[go_sem] theorem zQf:zr Tryz.prog 178=some [.int .u8 0,.int .u8 0,.int .u8 0,.int .u8 0,.int .u8 0,.int .u8 0,.int .u8 0,.int .u8 0,.int .u8 0,.int .u8 0,.int .u8 0,.int .u8 0,.int .u8 0,.int .u8 0,.int .u8 0,.int .u8 0,.int .u8 0,.int .u8 0,.int .u8 0,.int .u8 0,.int .u8 0,.int .u8 0,.int .u8 0,.int .u8 0,.int .u8 0,.int .u8 0,.int .u8 0,.int .u8 0,.int .u8 0,.int .u8 0,.int .u8 0,.int .u8 0]:=by kernel_rfl
@[go_sem] theorem zNC:ezT Tryz.prog 178=0:=by kernel_rfl
@[go_sem] theorem zNj:esz Tryz.prog 178=none:=by kernel_rfl
@[go_sem] theorem zNv:asz Tryz.prog 178=some (32,1):=by kernel_rfl
@[go_sem] theorem zMJ {i:Nat}:zaz Tryz.prog 178 i=0:=by kernel_rfl
@[go_sem] theorem zMz:zeT Tryz.prog 178=some (fun i=>some (i*1,1),[.int .u8 0,.int .u8 0,.int .u8 0,.int .u8 0,.int .u8 0,.int .u8 0,.int .u8 0,.int .u8 0,.int .u8 0,.int .u8 0,.int .u8 0,.int .u8 0,.int .u8 0,.int .u8 0,.int .u8 0,.int .u8 0,.int .u8 0,.int .u8 0,.int .u8 0,.int .u8 0,.int .u8 0,.int .u8 0,.int .u8 0,.int .u8 0,.int .u8 0,.int .u8 0,.int .u8 0,.int .u8 0,.int .u8 0,.int .u8 0,.int .u8 0,.int .u8 0]):=by kernel_rfl
@[go_sem] theorem zOM:tk Tryz.prog 179=some (true,64):=by kernel_rfl
@[go_sem] theorem zPy:zr Tryz.prog 179=some [.int .u8 0,.int .u8 0,.int .u8 0,.int .u8 0,.int .u8 0,.int .u8 0,.int .u8 0,.int .u8 0,.int .u8 0,.int .u8 0,.int .u8 0,.int .u8 0,.int .u8 0,.int .u8 0,.int .u8 0,.int .u8 0,.int .u8 0,.int .u8 0,.int .u8 0,.int .u8 0,.int .u8 0,.int .u8 0,.int .u8 0,.int .u8 0,.int .u8 0,.int .u8 0,.int .u8 0,.int .u8 0,.int .u8 0,.int .u8 0,.int .u8 0,.int .u8 0,.int .u8 0,.int .u8 0,.int .u8 0,.int .u8 0,.int .u8 0,.int .u8 0,.int .u8 0,.int .u8 0,.int .u8 0,.int .u8 0,.int .u8 0,.int .u8 0,.int .u8 0,.int .u8 0,.int .u8 0,.int .u8 0,.int .u8 0,.int .u8 0,.int .u8 0,.int .u8 0,.int .u8 0,.int .u8 0,.int .u8 0,.int .u8 0,.int .u8 0,.int .u8 0,.int .u8 0,.int .u8 0,.int .u8 0,.int .u8 0,.int .u8 0,.int .u8 0]:=by kernel_rfl
@[go_sem] theorem zM2:ezT Tryz.prog 179=0:=by kernel_rfl
@[go_sem] theorem zMZ:esz Tryz.prog 179=none:=by kernel_rfl
@[go_sem] theorem zMt:asz Tryz.prog 179=some (64,1):=by kernel_rfl
@[go_sem] theorem zN7 {i:Nat}:zaz Tryz.prog 179 i=0:=by kernel_rfl
@[go_sem] theorem zOi:zeT Tryz.prog 179=some (fun i=>some (i*1,1),[.int .u8 0,.int .u8 0,.int .u8 0,.int .u8 0,.int .u8 0,.int .u8 0,.int .u8 0,.int .u8 0,.int .u8 0,.int .u8 0,.int .u8 0,.int .u8 0,.int .u8 0,.int .u8 0,.int .u8 0,.int .u8 0,.int .u8 0,.int .u8 0,.int .u8 0,.int .u8 0,.int .u8 0,.int .u8 0,.int .u8 0,.int .u8 0,.int .u8 0,.int .u8 0,.int .u8 0,.int .u8 0,.int .u8 0,.int .u8 0,.int .u8 0,.int .u8 0,.int .u8 0,.int .u8 0,.int .u8 0,.int .u8 0,.int .u8 0,.int .u8 0,.int .u8 0,.int .u8 0,.int .u8 0,.int .u8 0,.int .u8 0,.int .u8 0,.int .u8 0,.int .u8 0,.int .u8 0,.int .u8 0,.int .u8 0,.int .u8 0,.int .u8 0,.int .u8 0,.int .u8 0,.int .u8 0,.int .u8 0,.int .u8 0,.int .u8 0,.int .u8 0,.int .u8 0,.int .u8 0,.int .u8 0,.int .u8 0,.int .u8 0,.int .u8 0]):=by kernel_rfl
theorem follows:Tryz.prog.follows .mixedOrders=true:=by kernel_rfl
theorem cl5:zac Tryz.prog 5:=fun args w=>Tryz.call5 args w
theorem cl7:zac Tryz.prog 7:=fun args w=>Tryz.call7 args w
theorem cl8:zac Tryz.prog 8:=fun args w=>Tryz.call8 args w
theorem cl9:zac Tryz.prog 9:=fun args w=>Tryz.call9 args w
theorem zFe:zac Tryz.prog 10:=fun args w=>Tryz.call10 args w
theorem zFG:zac Tryz.prog 11:=fun args w=>Tryz.call11 args w
theorem zHW:zac Tryz.prog 12:=fun args w=>Tryz.call12 args w
theorem zFl:zac Tryz.prog 13:=fun args w=>Tryz.call13 args w
theorem zGs:zac Tryz.prog 14:=fun args w=>Tryz.call14 args w
theorem zIh:zac Tryz.prog 19:=fun args w=>Tryz.call19 args w
theorem zGh:zac Tryz.prog 20:=fun args w=>Tryz.call20 args w
theorem zFg:zac Tryz.prog 21:=fun args w=>Tryz.call21 args w
theorem zHX:zac Tryz.prog 22:=fun args w=>Tryz.call22 args w
theorem zGB:zac Tryz.prog 23:=fun args w=>Tryz.call23 args w
theorem zFi:zac Tryz.prog 31:=fun args w=>Tryz.call31 args w
theorem zEu:zac Tryz.prog 32:=fun args w=>Tryz.call32 args w
theorem zFS:zac Tryz.prog 33:=fun args w=>Tryz.call33 args w
theorem zGW:zac Tryz.prog 34:=fun args w=>Tryz.call34 args w
theorem zFK:zac Tryz.prog 35:=fun args w=>Tryz.call35 args w
theorem zG5:zac Tryz.prog 36:=fun args w=>Tryz.call36 args w
theorem zE6:zac Tryz.prog 37:=fun args w=>Tryz.call37 args w
theorem zE1:zac Tryz.prog 38:=fun args w=>Tryz.call38 args w
theorem zGE:zac Tryz.prog 39:=fun args w=>Tryz.call39 args w
theorem zEM:zac Tryz.prog 40:=fun args w=>Tryz.call40 args w
theorem zFH:zac Tryz.prog 41:=fun args w=>Tryz.call41 args w
theorem zGd:zac Tryz.prog 42:=fun args w=>Tryz.call42 args w
theorem zFV:zac Tryz.prog 43:=fun args w=>Tryz.call43 args w
theorem zHU:zac Tryz.prog 44:=fun args w=>Tryz.call44 args w
theorem zF9:zac Tryz.prog 45:=fun args w=>Tryz.call45 args w
theorem zGF:zac Tryz.prog 46:=fun args w=>Tryz.call46 args w
theorem zIg:zac Tryz.prog 47:=fun args w=>Tryz.call47 args w
theorem zIt:zac Tryz.prog 48:=fun args w=>Tryz.call48 args w
theorem zHN:zac Tryz.prog 49:=fun args w=>Tryz.call49 args w
theorem zH2:zac Tryz.prog 50:=fun args w=>Tryz.call50 args w
theorem zE8:zac Tryz.prog 51:=fun args w=>Tryz.call51 args w
theorem zEK:zac Tryz.prog 52:=fun args w=>Tryz.call52 args w
theorem zGn:zac Tryz.prog 53:=fun args w=>Tryz.call53 args w
theorem zG2:zac Tryz.prog 54:=fun args w=>Tryz.call54 args w
theorem zHf:zac Tryz.prog 55:=fun args w=>Tryz.call55 args w
theorem zGJ:zac Tryz.prog 56:=fun args w=>Tryz.call56 args w
theorem zHc:zac Tryz.prog 66:=fun args w=>Tryz.call66 args w
theorem zEt:zac Tryz.prog 67:=fun args w=>Tryz.call67 args w
theorem zG3:zac Tryz.prog 68:=fun args w=>Tryz.call68 args w
theorem zE0:zac Tryz.prog 69:=fun args w=>Tryz.call69 args w
theorem zFu:zac Tryz.prog 70:=fun args w=>Tryz.call70 args w
theorem zGy:zac Tryz.prog 71:=fun args w=>Tryz.call71 args w
theorem zHJ:zac Tryz.prog 72:=fun args w=>Tryz.call72 args w
theorem zFP:zac Tryz.prog 73:=fun args w=>Tryz.call73 args w
theorem zFE:zac Tryz.prog 74:=fun args w=>Tryz.call74 args w
theorem zGK:zac Tryz.prog 75:=fun args w=>Tryz.call75 args w
theorem zHV:zac Tryz.prog 76:=fun args w=>Tryz.call76 args w
theorem zGH:zac Tryz.prog 77:=fun args w=>Tryz.call77 args w
theorem zGD:zac Tryz.prog 78:=fun args w=>Tryz.call78 args w
theorem zHu:zac Tryz.prog 79:=fun args w=>Tryz.call79 args w
theorem zFy:zac Tryz.prog 80:=fun args w=>Tryz.call80 args w
theorem zFh:zac Tryz.prog 81:=fun args w=>Tryz.call81 args w
theorem zIc:zac Tryz.prog 82:=fun args w=>Tryz.call82 args w
theorem zGa:zac Tryz.prog 83:=fun args w=>Tryz.call83 args w
theorem zG4:zac Tryz.prog 84:=fun args w=>Tryz.call84 args w
theorem zHE:zac Tryz.prog 85:=fun args w=>Tryz.call85 args w
theorem zGI:zac Tryz.prog 86:=fun args w=>Tryz.call86 args w
theorem zFd:zac Tryz.prog 87:=fun args w=>Tryz.call87 args w
theorem zFL:zac Tryz.prog 88:=fun args w=>Tryz.call88 args w
theorem zFB:zac Tryz.prog 89:=fun args w=>Tryz.call89 args w
theorem zEY:zac Tryz.prog 90:=fun args w=>Tryz.call90 args w
theorem zIa:zac Tryz.prog 91:=fun args w=>Tryz.call91 args w
theorem zFD:zac Tryz.prog 92:=fun args w=>Tryz.call92 args w
theorem zEC:zac Tryz.prog 93:=fun args w=>Tryz.call93 args w
theorem zH3:zac Tryz.prog 94:=fun args w=>Tryz.call94 args w
theorem zHe:zac Tryz.prog 95:=fun args w=>Tryz.call95 args w
theorem zpH:zac Tryz.prog 96:=fun args w=>Tryz.call96 args w
theorem zGq:zac Tryz.prog 97:=fun args w=>Tryz.call97 args w
theorem zEH:zac Tryz.prog 98:=fun args w=>Tryz.call98 args w
theorem zEV:zac Tryz.prog 99:=fun args w=>Tryz.call99 args w
theorem zAG:zac Tryz.prog 100:=fun args w=>Tryz.call100 args w
theorem zBf:zac Tryz.prog 101:=fun args w=>Tryz.call101 args w
theorem zBh:zac Tryz.prog 102:=fun args w=>Tryz.call102 args w
theorem zCD:zac Tryz.prog 103:=fun args w=>Tryz.call103 args w
theorem zBQ:zac Tryz.prog 104:=fun args w=>Tryz.call104 args w
theorem zwQ:zac Tryz.prog 105:=fun args w=>Tryz.call105 args w
theorem zBt:zac Tryz.prog 106:=fun args w=>Tryz.call106 args w
theorem zBV:zac Tryz.prog 107:=fun args w=>Tryz.call107 args w
theorem zBa:zac Tryz.prog 108:=fun args w=>Tryz.call108 args w
theorem zAI:zac Tryz.prog 109:=fun args w=>Tryz.call109 args w
theorem zCL:zac Tryz.prog 110:=fun args w=>Tryz.call110 args w
theorem zBn:zac Tryz.prog 111:=fun args w=>Tryz.call111 args w
theorem zAT:zac Tryz.prog 112:=fun args w=>Tryz.call112 args w
theorem zCr:zac Tryz.prog 113:=fun args w=>Tryz.call113 args w
theorem zBr:zac Tryz.prog 114:=fun args w=>Tryz.call114 args w
theorem zAZ:zac Tryz.prog 116:=fun args w=>Tryz.call116 args w
theorem zAQ:zac Tryz.prog 117:=fun args w=>Tryz.call117 args w
theorem zBL:zac Tryz.prog 118:=fun args w=>Tryz.call118 args w
theorem zB8:zac Tryz.prog 119:=fun args w=>Tryz.call119 args w
theorem zCt:zac Tryz.prog 120:=fun args w=>Tryz.call120 args w
theorem zAK:zac Tryz.prog 121:=fun args w=>Tryz.call121 args w
theorem zAs:zac Tryz.prog 122:=fun args w=>Tryz.call122 args w
theorem zC4:zac Tryz.prog 123:=fun args w=>Tryz.call123 args w
theorem zBs:zac Tryz.prog 124:=fun args w=>Tryz.call124 args w
theorem zBF:zac Tryz.prog 125:=fun args w=>Tryz.call125 args w
theorem zBx:zac Tryz.prog 126:=fun args w=>Tryz.call126 args w
theorem zBb:zac Tryz.prog 127:=fun args w=>Tryz.call127 args w
theorem zAM:zac Tryz.prog 128:=fun args w=>Tryz.call128 args w
theorem zB7:zac Tryz.prog 129:=fun args w=>Tryz.call129 args w
theorem zA5:zac Tryz.prog 130:=fun args w=>Tryz.call130 args w
theorem zAh:zac Tryz.prog 131:=fun args w=>Tryz.call131 args w
theorem zCB:zac Tryz.prog 132:=fun args w=>Tryz.call132 args w
theorem zBX:zac Tryz.prog 133:=fun args w=>Tryz.call133 args w
theorem zCe:zac Tryz.prog 134:=fun args w=>Tryz.call134 args w
theorem zCW:zac Tryz.prog 135:=fun args w=>Tryz.call135 args w
theorem zA1:zac Tryz.prog 136:=fun args w=>Tryz.call136 args w
theorem zAr:zac Tryz.prog 137:=fun args w=>Tryz.call137 args w
theorem zCi:zac Tryz.prog 138:=fun args w=>Tryz.call138 args w
theorem zA6:zac Tryz.prog 139:=fun args w=>Tryz.call139 args w
theorem zBi:zac Tryz.prog 140:=fun args w=>Tryz.call140 args w
theorem zCu:zac Tryz.prog 141:=fun args w=>Tryz.call141 args w
theorem zAY:zac Tryz.prog 142:=fun args w=>Tryz.call142 args w
theorem zCZ:zac Tryz.prog 143:=fun args w=>Tryz.call143 args w
theorem zm0:zac Tryz.prog 144:=fun args w=>Tryz.call144 args w
theorem zmQ:zac Tryz.prog 145:=fun args w=>Tryz.call145 args w
theorem zCa:zac Tryz.prog 146:=fun args w=>Tryz.call146 args w
theorem zCn:zac Tryz.prog 147:=fun args w=>Tryz.call147 args w
theorem zCo:zac Tryz.prog 149:=fun args w=>Tryz.call149 args w
theorem zB2:zac Tryz.prog 150:=fun args w=>Tryz.call150 args w
theorem zCX:zac Tryz.prog 151:=fun args w=>Tryz.call151 args w
theorem zCp:zac Tryz.prog 152:=fun args w=>Tryz.call152 args w
theorem zBP:zac Tryz.prog 153:=fun args w=>Tryz.call153 args w
theorem zA7:zac Tryz.prog 154:=fun args w=>Tryz.call154 args w
theorem zBg:zac Tryz.prog 155:=fun args w=>Tryz.call155 args w
theorem zBT:zac Tryz.prog 156:=fun args w=>Tryz.call156 args w
theorem zAX:zac Tryz.prog 157:=fun args w=>Tryz.call157 args w
theorem zBW:zac Tryz.prog 158:=fun args w=>Tryz.call158 args w
theorem zAP:zac Tryz.prog 159:=fun args w=>Tryz.call159 args w
theorem zAx:zac Tryz.prog 160:=fun args w=>Tryz.call160 args w
theorem zAt:zac Tryz.prog 161:=fun args w=>Tryz.call161 args w
theorem zA0:zac Tryz.prog 162:=fun args w=>Tryz.call162 args w
theorem zAn:zac Tryz.prog 163:=fun args w=>Tryz.call163 args w
theorem zBS:zac Tryz.prog 164:=fun args w=>Tryz.call164 args w
theorem zAB:zac Tryz.prog 165:=fun args w=>Tryz.call165 args w
theorem zBO:zac Tryz.prog 166:=fun args w=>Tryz.call166 args w
theorem zAU:zac Tryz.prog 167:=fun args w=>Tryz.call167 args w
theorem zBM:zac Tryz.prog 168:=fun args w=>Tryz.call168 args w
theorem zB0:zac Tryz.prog 169:=fun args w=>Tryz.call169 args w
theorem znb:zac Tryz.prog 170:=fun args w=>Tryz.call170 args w
theorem zAj:zac Tryz.prog 171:=fun args w=>Tryz.call171 args w
theorem zA3:zac Tryz.prog 172:=fun args w=>Tryz.call172 args w
theorem zBy:zac Tryz.prog 174:=fun args w=>Tryz.call174 args w
theorem zBu:zac Tryz.prog 175:=fun args w=>Tryz.call175 args w
theorem zB1:zac Tryz.prog 176:=fun args w=>Tryz.call176 args w
theorem zCC:zac Tryz.prog 177:=fun args w=>Tryz.call177 args w
theorem zBD:zac Tryz.prog 178:=fun args w=>Tryz.call178 args w
theorem zA4:zac Tryz.prog 179:=fun args w=>Tryz.call179 args w
theorem zCc:zac Tryz.prog 180:=fun args w=>Tryz.call180 args w
theorem zBK:zac Tryz.prog 181:=fun args w=>Tryz.call181 args w
theorem zBc:zac Tryz.prog 182:=fun args w=>Tryz.call182 args w
theorem zCN:zac Tryz.prog 187:=fun args w=>Tryz.call187 args w
theorem zCf:zac Tryz.prog 188:=fun args w=>Tryz.call188 args w
end Go.Pm
