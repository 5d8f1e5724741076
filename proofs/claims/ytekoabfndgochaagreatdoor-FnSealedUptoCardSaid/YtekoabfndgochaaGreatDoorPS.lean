import Derived.Test.YtekoabfndgochaaGreatDoorPmW
import Derived.Test.YtekoabfndgochaaGreatDoorProg
import Derived.KernelRfl
namespace Go.Pm
open Go.Am
open Go.Proofs
set_option maxRecDepth 100000
variable{i:Nat}
@[go_sem] theorem tk3:tk Tryz.prog 3=some (false,1):=by kernel_rfl
@[go_sem] theorem zr3:zr Tryz.prog 3=some [.int .i64 0]:=by kernel_rfl
@[go_sem] theorem zSe:ezT Tryz.prog 3=0:=by kernel_rfl
@[go_sem] theorem zSb:zfe Tryz.prog 3=some .i64:=by kernel_rfl
@[go_sem] theorem zRP:zaS Tryz.prog 3=false:=by kernel_rfl
@[go_sem] theorem tk4:tk Tryz.prog 4=some (false,1):=by kernel_rfl
@[go_sem] theorem zR2:ezT Tryz.prog 4=0:=by kernel_rfl
@[go_sem] theorem zRW:zje Tryz.prog 4=true:=by kernel_rfl
@[go_sem] theorem tk5:tk Tryz.prog 5=some (false,1):=by kernel_rfl
@[go_sem] theorem zR6:ezT Tryz.prog 5=0:=by kernel_rfl
@[go_sem] theorem zR1:zfe Tryz.prog 5=some .u8:=by kernel_rfl
@[go_sem] theorem zR7:zaS Tryz.prog 5=false:=by kernel_rfl
@[go_sem] theorem zRR:ezT Tryz.prog 9=0:=by kernel_rfl
@[go_sem] theorem zSd:zaS Tryz.prog 9=true:=by kernel_rfl
@[go_sem] theorem zRS:tk Tryz.prog 22=some (false,1):=by kernel_rfl
@[go_sem] theorem zQY:ezT Tryz.prog 22=1:=by kernel_rfl
@[go_sem] theorem zQA:zaF Tryz.prog 22=some 5:=by kernel_rfl
@[go_sem] theorem zRF:zaS Tryz.prog 22=false:=by kernel_rfl
@[go_sem] theorem zQi:esz Tryz.prog 22=some 1:=by kernel_rfl
@[go_sem] theorem zRm:ziB Tryz.prog 22=true:=by kernel_rfl
@[go_sem] theorem zR0:ez Tryz.prog 22=some (1,1,[.int .u8 0]):=by kernel_rfl
@[go_sem] theorem zQ5 :zb1 Tryz.prog 22 i=0:=by kernel_rfl
@[go_sem] theorem zRT:tk Tryz.prog 25=some (true,3):=by kernel_rfl
@[go_sem] theorem zSa:zr Tryz.prog 25=some [.int .i64 0,.int .i64 0,.int .i64 0]:=by kernel_rfl
@[go_sem] theorem zRs:ezT Tryz.prog 25=0:=by kernel_rfl
@[go_sem] theorem zQU:ziy Tryz.prog 25=some (zaT Tryz.prog 25,[.int .i64 0,.int .i64 0,.int .i64 0]):=by kernel_rfl
@[go_sem] theorem zMR:zaT Tryz.prog 25 0=some (0,1):=by kernel_rfl
@[go_sem] theorem zM2:zb1 Tryz.prog 25 0=0:=by kernel_rfl
@[go_sem] theorem zN6:zaT Tryz.prog 25 1=some (1,1):=by kernel_rfl
@[go_sem] theorem zNY:zb1 Tryz.prog 25 1=0:=by kernel_rfl
@[go_sem] theorem zOa:zaT Tryz.prog 25 2=some (2,1):=by kernel_rfl
@[go_sem] theorem zOq:zb1 Tryz.prog 25 2=0:=by kernel_rfl
@[go_sem] theorem zRZ:tk Tryz.prog 27=some (true,5):=by kernel_rfl
@[go_sem] theorem zRM:zr Tryz.prog 27=some [.int .i64 0,.int .i64 0,.int .i64 0,.int .i64 0,.int .i64 0]:=by kernel_rfl
@[go_sem] theorem zQB:ezT Tryz.prog 27=0:=by kernel_rfl
@[go_sem] theorem zP8:ziy Tryz.prog 27=some (zaT Tryz.prog 27,[.int .i64 0,.int .i64 0,.int .i64 0,.int .i64 0,.int .i64 0]):=by kernel_rfl
@[go_sem] theorem zOH:zaT Tryz.prog 27 0=some (0,1):=by kernel_rfl
@[go_sem] theorem zOj:zb1 Tryz.prog 27 0=0:=by kernel_rfl
@[go_sem] theorem zNU:zaT Tryz.prog 27 1=some (1,1):=by kernel_rfl
@[go_sem] theorem zMn:zb1 Tryz.prog 27 1=0:=by kernel_rfl
@[go_sem] theorem zMY:zaT Tryz.prog 27 2=some (2,1):=by kernel_rfl
@[go_sem] theorem zOb:zaT Tryz.prog 27 3=some (3,1):=by kernel_rfl
@[go_sem] theorem zND:zaT Tryz.prog 27 4=some (4,1):=by kernel_rfl
@[go_sem] theorem zRN:tk Tryz.prog 28=some (false,1):=by kernel_rfl
@[go_sem] theorem zRb:ezT Tryz.prog 28=1:=by kernel_rfl
@[go_sem] theorem zRn:zaF Tryz.prog 28=some 3:=by kernel_rfl
@[go_sem] theorem zQe:zaS Tryz.prog 28=false:=by kernel_rfl
@[go_sem] theorem zQg:esz Tryz.prog 28=some 1:=by kernel_rfl
@[go_sem] theorem zJh:ez Tryz.prog 28=some (1,8,[.int .i64 0]):=by kernel_rfl
@[go_sem] theorem zQu :zb1 Tryz.prog 28 i=0:=by kernel_rfl
@[go_sem] theorem zSc:tk Tryz.prog 46=some (false,1):=by kernel_rfl
@[go_sem] theorem zQS:ezT Tryz.prog 46=2:=by kernel_rfl
@[go_sem] theorem zRB:zaF Tryz.prog 46=some 88:=by kernel_rfl
@[go_sem] theorem zPY:zaS Tryz.prog 46=false:=by kernel_rfl
@[go_sem] theorem zQN:esz Tryz.prog 46=some 2:=by kernel_rfl
@[go_sem] theorem zRX:ez Tryz.prog 46=some (2,16,[.int .i64 0,.int .i64 0]):=by kernel_rfl
@[go_sem] theorem zRA :zb1 Tryz.prog 46 i=0:=by kernel_rfl
@[go_sem] theorem zRV:tk Tryz.prog 47=some (false,1):=by kernel_rfl
@[go_sem] theorem zQF:ezT Tryz.prog 47=3:=by kernel_rfl
@[go_sem] theorem zQP:zaF Tryz.prog 47=some 49:=by kernel_rfl
@[go_sem] theorem zQD:zaS Tryz.prog 47=false:=by kernel_rfl
@[go_sem] theorem zQx:esz Tryz.prog 47=some 3:=by kernel_rfl
@[go_sem] theorem zRY:ez Tryz.prog 47=some (3,72,[.sl false 1 [],.sl false 1 [],.sl false 1 []]):=by kernel_rfl
@[go_sem] theorem zQW :zb1 Tryz.prog 47 i=0:=by kernel_rfl
@[go_sem] theorem zRU:tk Tryz.prog 49=some (true,3):=by kernel_rfl
@[go_sem] theorem zRO:zr Tryz.prog 49=some [.sl true 1 [],.sl true 1 [],.sl true 1 []]:=by kernel_rfl
@[go_sem] theorem zQ6:ezT Tryz.prog 49=0:=by kernel_rfl
@[go_sem] theorem zQ7:ziy Tryz.prog 49=some (zaT Tryz.prog 49,[.sl true 1 [],.sl true 1 [],.sl true 1 []]):=by kernel_rfl
@[go_sem] theorem zMc:zaT Tryz.prog 49 0=some (0,1):=by kernel_rfl
@[go_sem] theorem zN4:zb1 Tryz.prog 49 0=1:=by kernel_rfl
@[go_sem] theorem zNo:zaT Tryz.prog 49 1=some (1,1):=by kernel_rfl
@[go_sem] theorem zMG:zb1 Tryz.prog 49 1=1:=by kernel_rfl
@[go_sem] theorem zN0:zaT Tryz.prog 49 2=some (2,1):=by kernel_rfl
@[go_sem] theorem zMg:zb1 Tryz.prog 49 2=1:=by kernel_rfl
@[go_sem] theorem zSf:tk Tryz.prog 51=some (true,6):=by kernel_rfl
@[go_sem] theorem zSg:zr Tryz.prog 51=some [.int .i64 0,.sl true 2 [],.sl true 3 [],.sl true 1 [],.sl true 1 [],.sl true 1 []]:=by kernel_rfl
@[go_sem] theorem zQE:ezT Tryz.prog 51=0:=by kernel_rfl
@[go_sem] theorem zQ2:ziy Tryz.prog 51=some (zaT Tryz.prog 51,[.int .i64 0,.sl true 2 [],.sl true 3 [],.sl true 1 [],.sl true 1 [],.sl true 1 []]):=by kernel_rfl
@[go_sem] theorem zMZ:zaT Tryz.prog 51 0=some (0,1):=by kernel_rfl
@[go_sem] theorem zOy:zb1 Tryz.prog 51 0=0:=by kernel_rfl
@[go_sem] theorem zMw:zaT Tryz.prog 51 1=some (1,1):=by kernel_rfl
@[go_sem] theorem zMT:zb1 Tryz.prog 51 1=2:=by kernel_rfl
@[go_sem] theorem zNT:zaT Tryz.prog 51 2=some (2,1):=by kernel_rfl
@[go_sem] theorem zOd:zb1 Tryz.prog 51 2=3:=by kernel_rfl
@[go_sem] theorem zNA:zaT Tryz.prog 51 3=some (3,3):=by kernel_rfl
@[go_sem] theorem zOz:zb1 Tryz.prog 51 3=0:=by kernel_rfl
@[go_sem] theorem zRe:ezT Tryz.prog 62=0:=by kernel_rfl
@[go_sem] theorem zR3:tk Tryz.prog 63=some (false,1):=by kernel_rfl
@[go_sem] theorem zRh:ezT Tryz.prog 63=0:=by kernel_rfl
@[go_sem] theorem zRE:zfe Tryz.prog 63=some .u64:=by kernel_rfl
@[go_sem] theorem zRD:zaS Tryz.prog 63=false:=by kernel_rfl
@[go_sem] theorem zRQ:tk Tryz.prog 65=some (true,3):=by kernel_rfl
@[go_sem] theorem zQz:ezT Tryz.prog 65=0:=by kernel_rfl
@[go_sem] theorem zQJ:ziy Tryz.prog 65=some (zaT Tryz.prog 65,[.sl true 1 [],.int .i64 0,.int .u64 0]):=by kernel_rfl
@[go_sem] theorem zNe:zaT Tryz.prog 65 0=some (0,1):=by kernel_rfl
@[go_sem] theorem zNP:zb1 Tryz.prog 65 0=1:=by kernel_rfl
@[go_sem] theorem zMV:zaT Tryz.prog 65 1=some (1,1):=by kernel_rfl
@[go_sem] theorem zN3:zaT Tryz.prog 65 2=some (2,1):=by kernel_rfl
@[go_sem] theorem zR8:tk Tryz.prog 69=some (false,1):=by kernel_rfl
@[go_sem] theorem zQc:ezT Tryz.prog 69=0:=by kernel_rfl
@[go_sem] theorem zPX:ezT Tryz.prog 74=0:=by kernel_rfl
@[go_sem] theorem zR5:tk Tryz.prog 88=some (true,2):=by kernel_rfl
@[go_sem] theorem zR9:zr Tryz.prog 88=some [.int .i64 0,.int .i64 0]:=by kernel_rfl
@[go_sem] theorem zRk:ezT Tryz.prog 88=0:=by kernel_rfl
@[go_sem] theorem zRH:znW Tryz.prog 88=some [0,1]:=by kernel_rfl
@[go_sem] theorem zQo:ziy Tryz.prog 88=some (zaT Tryz.prog 88,[.int .i64 0,.int .i64 0]):=by kernel_rfl
@[go_sem] theorem zNk:zaT Tryz.prog 88 0=some (0,1):=by kernel_rfl
@[go_sem] theorem zNt:zb1 Tryz.prog 88 0=0:=by kernel_rfl
@[go_sem] theorem zNm:zaT Tryz.prog 88 1=some (1,1):=by kernel_rfl
@[go_sem] theorem zMj:zb1 Tryz.prog 88 1=0:=by kernel_rfl
@[go_sem] theorem zQQ:ezT Tryz.prog 92=4:=by kernel_rfl
@[go_sem] theorem zRi:zaF Tryz.prog 92=some 138:=by kernel_rfl
@[go_sem] theorem zQ0:zaS Tryz.prog 92=false:=by kernel_rfl
@[go_sem] theorem zQO:esz Tryz.prog 92=some 4:=by kernel_rfl
@[go_sem] theorem zR4:ez Tryz.prog 92=some (4,32,[.int .i64 0,.int .i64 0,.int .i64 0,.int .i64 0]):=by kernel_rfl
@[go_sem] theorem zRv :zb1 Tryz.prog 92 i=0:=by kernel_rfl
@[go_sem] theorem zP1:tk Tryz.prog 108=some (false,1):=by kernel_rfl
@[go_sem] theorem zPs:ezT Tryz.prog 108=1:=by kernel_rfl
@[go_sem] theorem zPb:zaF Tryz.prog 108=some 28:=by kernel_rfl
@[go_sem] theorem zPq:zaS Tryz.prog 108=false:=by kernel_rfl
@[go_sem] theorem zPi:esz Tryz.prog 108=some 1:=by kernel_rfl
@[go_sem] theorem zQI:ez Tryz.prog 108=some (1,24,[.sl false 1 []]):=by kernel_rfl
@[go_sem] theorem zO5 :zb1 Tryz.prog 108 i=1:=by kernel_rfl
@[go_sem] theorem zRG:tk Tryz.prog 138=some (true,4):=by kernel_rfl
@[go_sem] theorem zQa:zr Tryz.prog 138=some [.int .i64 0,.int .i64 0,.int .i64 0,.int .i64 0]:=by kernel_rfl
@[go_sem] theorem zOK:ezT Tryz.prog 138=0:=by kernel_rfl
@[go_sem] theorem zOY:ziy Tryz.prog 138=some (zaT Tryz.prog 138,[.int .i64 0,.int .i64 0,.int .i64 0,.int .i64 0]):=by kernel_rfl
@[go_sem] theorem zIy:zaT Tryz.prog 138 0=some (0,1):=by kernel_rfl
@[go_sem] theorem zJU:zb1 Tryz.prog 138 0=0:=by kernel_rfl
@[go_sem] theorem zK6:zaT Tryz.prog 138 1=some (1,1):=by kernel_rfl
@[go_sem] theorem zI2:zb1 Tryz.prog 138 1=0:=by kernel_rfl
@[go_sem] theorem zKx:zaT Tryz.prog 138 2=some (2,1):=by kernel_rfl
@[go_sem] theorem zJx:zb1 Tryz.prog 138 2=0:=by kernel_rfl
@[go_sem] theorem zK1:zaT Tryz.prog 138 3=some (3,1):=by kernel_rfl
@[go_sem] theorem zLC:zb1 Tryz.prog 138 3=0:=by kernel_rfl
@[go_sem] theorem zPf:ezT Tryz.prog 154=0:=by kernel_rfl
@[go_sem] theorem zO8:ezT Tryz.prog 156=0:=by kernel_rfl
@[go_sem] theorem zQV:tk Tryz.prog 158=some (true,2):=by kernel_rfl
@[go_sem] theorem zPp:ezT Tryz.prog 158=0:=by kernel_rfl
@[go_sem] theorem zPH:ziy Tryz.prog 158=some (zaT Tryz.prog 158,[.sl true 1 [],.bool false]):=by kernel_rfl
@[go_sem] theorem zIw:zaT Tryz.prog 158 0=some (0,1):=by kernel_rfl
@[go_sem] theorem zLs:zb1 Tryz.prog 158 0=1:=by kernel_rfl
@[go_sem] theorem zJE:zaT Tryz.prog 158 1=some (1,1):=by kernel_rfl
@[go_sem] theorem zKv:zb1 Tryz.prog 158 1=0:=by kernel_rfl
@[go_sem] theorem zPG:ezT Tryz.prog 173=0:=by kernel_rfl
@[go_sem] theorem zOI:ezT Tryz.prog 184=0:=by kernel_rfl
@[go_sem] theorem zP9:tk Tryz.prog 186=some (true,2):=by kernel_rfl
@[go_sem] theorem zOP:ezT Tryz.prog 186=0:=by kernel_rfl
@[go_sem] theorem zPe:ziy Tryz.prog 186=some (zaT Tryz.prog 186,[.int .i64 0,.int .i64 0]):=by kernel_rfl
@[go_sem] theorem zI6:zaT Tryz.prog 186 0=some (0,1):=by kernel_rfl
@[go_sem] theorem zLg:zb1 Tryz.prog 186 0=0:=by kernel_rfl
@[go_sem] theorem zJS:zaT Tryz.prog 186 1=some (1,1):=by kernel_rfl
@[go_sem] theorem zJY:zb1 Tryz.prog 186 1=0:=by kernel_rfl
theorem follows:Tryz.prog.follows .mixedOrders=true:=by kernel_rfl
theorem cl4:zad Tryz.prog 4:=fun args w=>Tryz.call4 args w
theorem cl5:zad Tryz.prog 5:=fun args w=>Tryz.call5 args w
theorem zL0:zad Tryz.prog 14:=fun args w=>Tryz.call14 args w
theorem zLb:zad Tryz.prog 15:=fun args w=>Tryz.call15 args w
theorem zIL:zad Tryz.prog 16:=fun args w=>Tryz.call16 args w
theorem zLj:zad Tryz.prog 17:=fun args w=>Tryz.call17 args w
theorem zJG:zad Tryz.prog 18:=fun args w=>Tryz.call18 args w
theorem zLZ:zad Tryz.prog 19:=fun args w=>Tryz.call19 args w
theorem zI9:zad Tryz.prog 20:=fun args w=>Tryz.call20 args w
theorem zIx:zad Tryz.prog 21:=fun args w=>Tryz.call21 args w
theorem zJq:zad Tryz.prog 22:=fun args w=>Tryz.call22 args w
theorem zKH:zad Tryz.prog 23:=fun args w=>Tryz.call23 args w
theorem zIS:zad Tryz.prog 24:=fun args w=>Tryz.call24 args w
theorem zLN:zad Tryz.prog 25:=fun args w=>Tryz.call25 args w
theorem zKu:zad Tryz.prog 26:=fun args w=>Tryz.call26 args w
theorem zIz:zad Tryz.prog 29:=fun args w=>Tryz.call29 args w
theorem zKp:zad Tryz.prog 30:=fun args w=>Tryz.call30 args w
theorem zJf:zad Tryz.prog 31:=fun args w=>Tryz.call31 args w
theorem zKo:zad Tryz.prog 41:=fun args w=>Tryz.call41 args w
theorem zLJ:zad Tryz.prog 42:=fun args w=>Tryz.call42 args w
theorem zJt:zad Tryz.prog 43:=fun args w=>Tryz.call43 args w
theorem zKW:zad Tryz.prog 44:=fun args w=>Tryz.call44 args w
theorem zI5:zad Tryz.prog 45:=fun args w=>Tryz.call45 args w
theorem zKj:zad Tryz.prog 46:=fun args w=>Tryz.call46 args w
theorem zLQ:zad Tryz.prog 47:=fun args w=>Tryz.call47 args w
theorem zL1:zad Tryz.prog 48:=fun args w=>Tryz.call48 args w
theorem zKl:zad Tryz.prog 49:=fun args w=>Tryz.call49 args w
theorem zI1:zad Tryz.prog 50:=fun args w=>Tryz.call50 args w
theorem zJu:zad Tryz.prog 51:=fun args w=>Tryz.call51 args w
theorem zLF:zad Tryz.prog 52:=fun args w=>Tryz.call52 args w
theorem zLw:zad Tryz.prog 53:=fun args w=>Tryz.call53 args w
theorem zK5:zad Tryz.prog 54:=fun args w=>Tryz.call54 args w
theorem zJg:zad Tryz.prog 55:=fun args w=>Tryz.call55 args w
theorem zJF:zad Tryz.prog 56:=fun args w=>Tryz.call56 args w
theorem zKB:zad Tryz.prog 57:=fun args w=>Tryz.call57 args w
theorem zJk:zad Tryz.prog 58:=fun args w=>Tryz.call58 args w
theorem zLe:zad Tryz.prog 59:=fun args w=>Tryz.call59 args w
theorem zIW:zad Tryz.prog 60:=fun args w=>Tryz.call60 args w
theorem zK9:zad Tryz.prog 61:=fun args w=>Tryz.call61 args w
theorem zLV:zad Tryz.prog 62:=fun args w=>Tryz.call62 args w
theorem zIK:zad Tryz.prog 63:=fun args w=>Tryz.call63 args w
theorem zIX:zad Tryz.prog 64:=fun args w=>Tryz.call64 args w
theorem zLK:zad Tryz.prog 65:=fun args w=>Tryz.call65 args w
theorem zJ4:zad Tryz.prog 66:=fun args w=>Tryz.call66 args w
theorem zKR:zad Tryz.prog 67:=fun args w=>Tryz.call67 args w
theorem zK8:zad Tryz.prog 68:=fun args w=>Tryz.call68 args w
theorem zJz:zad Tryz.prog 69:=fun args w=>Tryz.call69 args w
theorem zK2:zad Tryz.prog 70:=fun args w=>Tryz.call70 args w
theorem zKr:zad Tryz.prog 71:=fun args w=>Tryz.call71 args w
theorem zLf:zad Tryz.prog 72:=fun args w=>Tryz.call72 args w
theorem zJJ:zad Tryz.prog 73:=fun args w=>Tryz.call73 args w
theorem zKE:zad Tryz.prog 74:=fun args w=>Tryz.call74 args w
theorem zLT:zad Tryz.prog 75:=fun args w=>Tryz.call75 args w
theorem zK7:zad Tryz.prog 76:=fun args w=>Tryz.call76 args w
theorem zL7:zad Tryz.prog 77:=fun args w=>Tryz.call77 args w
theorem zJA:zad Tryz.prog 78:=fun args w=>Tryz.call78 args w
theorem zJy:zad Tryz.prog 79:=fun args w=>Tryz.call79 args w
theorem zLi:zad Tryz.prog 80:=fun args w=>Tryz.call80 args w
theorem zIP:zad Tryz.prog 81:=fun args w=>Tryz.call81 args w
theorem zJI:zad Tryz.prog 82:=fun args w=>Tryz.call82 args w
theorem zIU:zad Tryz.prog 83:=fun args w=>Tryz.call83 args w
theorem zIA:zad Tryz.prog 84:=fun args w=>Tryz.call84 args w
theorem zLS:zad Tryz.prog 85:=fun args w=>Tryz.call85 args w
theorem zJo:zad Tryz.prog 86:=fun args w=>Tryz.call86 args w
theorem zKA:zad Tryz.prog 87:=fun args w=>Tryz.call87 args w
theorem zLa:zad Tryz.prog 88:=fun args w=>Tryz.call88 args w
theorem zK0:zad Tryz.prog 89:=fun args w=>Tryz.call89 args w
theorem zLE:zad Tryz.prog 90:=fun args w=>Tryz.call90 args w
theorem zKU:zad Tryz.prog 91:=fun args w=>Tryz.call91 args w
theorem zJn:zad Tryz.prog 92:=fun args w=>Tryz.call92 args w
theorem zL4:zad Tryz.prog 93:=fun args w=>Tryz.call93 args w
theorem zLD:zad Tryz.prog 94:=fun args w=>Tryz.call94 args w
theorem zLx:zad Tryz.prog 95:=fun args w=>Tryz.call95 args w
theorem zJH:zad Tryz.prog 96:=fun args w=>Tryz.call96 args w
theorem zKh:zad Tryz.prog 98:=fun args w=>Tryz.call98 args w
theorem zCD:zad Tryz.prog 99:=fun args w=>Tryz.call99 args w
theorem zGh:zad Tryz.prog 100:=fun args w=>Tryz.call100 args w
theorem zEI:zad Tryz.prog 102:=fun args w=>Tryz.call102 args w
theorem zpf:zad Tryz.prog 103:=fun args w=>Tryz.call103 args w
theorem zGs:zad Tryz.prog 104:=fun args w=>Tryz.call104 args w
theorem zHi:zad Tryz.prog 105:=fun args w=>Tryz.call105 args w
theorem zF4:zad Tryz.prog 106:=fun args w=>Tryz.call106 args w
theorem zEd:zad Tryz.prog 107:=fun args w=>Tryz.call107 args w
theorem zE3:zad Tryz.prog 108:=fun args w=>Tryz.call108 args w
theorem zF1:zad Tryz.prog 109:=fun args w=>Tryz.call109 args w
theorem zF5:zad Tryz.prog 110:=fun args w=>Tryz.call110 args w
theorem zEh:zad Tryz.prog 111:=fun args w=>Tryz.call111 args w
theorem zFL:zad Tryz.prog 112:=fun args w=>Tryz.call112 args w
theorem zHa:zad Tryz.prog 113:=fun args w=>Tryz.call113 args w
theorem zGS:zad Tryz.prog 114:=fun args w=>Tryz.call114 args w
theorem zFK:zad Tryz.prog 115:=fun args w=>Tryz.call115 args w
theorem zFs:zad Tryz.prog 116:=fun args w=>Tryz.call116 args w
theorem zE9:zad Tryz.prog 117:=fun args w=>Tryz.call117 args w
theorem zEt:zad Tryz.prog 118:=fun args w=>Tryz.call118 args w
theorem zFV:zad Tryz.prog 119:=fun args w=>Tryz.call119 args w
theorem zD6:zad Tryz.prog 120:=fun args w=>Tryz.call120 args w
theorem zEP:zad Tryz.prog 121:=fun args w=>Tryz.call121 args w
theorem zGt:zad Tryz.prog 122:=fun args w=>Tryz.call122 args w
theorem zEV:zad Tryz.prog 123:=fun args w=>Tryz.call123 args w
theorem zEj:zad Tryz.prog 124:=fun args w=>Tryz.call124 args w
theorem zzM:zad Tryz.prog 125:=fun args w=>Tryz.call125 args w
theorem zFc:zad Tryz.prog 126:=fun args w=>Tryz.call126 args w
theorem zEp:zad Tryz.prog 127:=fun args w=>Tryz.call127 args w
theorem zGv:zad Tryz.prog 128:=fun args w=>Tryz.call128 args w
theorem zFq:zad Tryz.prog 129:=fun args w=>Tryz.call129 args w
theorem zEa:zad Tryz.prog 130:=fun args w=>Tryz.call130 args w
theorem zFH:zad Tryz.prog 131:=fun args w=>Tryz.call131 args w
theorem zFD:zad Tryz.prog 132:=fun args w=>Tryz.call132 args w
theorem zGp:zad Tryz.prog 133:=fun args w=>Tryz.call133 args w
theorem zGK:zad Tryz.prog 134:=fun args w=>Tryz.call134 args w
theorem zGR:zad Tryz.prog 135:=fun args w=>Tryz.call135 args w
theorem zGc:zad Tryz.prog 136:=fun args w=>Tryz.call136 args w
theorem zFg:zad Tryz.prog 137:=fun args w=>Tryz.call137 args w
theorem zG6:zad Tryz.prog 138:=fun args w=>Tryz.call138 args w
theorem zEC:zad Tryz.prog 139:=fun args w=>Tryz.call139 args w
theorem zFj:zad Tryz.prog 140:=fun args w=>Tryz.call140 args w
theorem zGn:zad Tryz.prog 141:=fun args w=>Tryz.call141 args w
theorem zEN:zad Tryz.prog 142:=fun args w=>Tryz.call142 args w
theorem zG7:zad Tryz.prog 143:=fun args w=>Tryz.call143 args w
theorem zFN:zad Tryz.prog 144:=fun args w=>Tryz.call144 args w
theorem zFU:zad Tryz.prog 145:=fun args w=>Tryz.call145 args w
theorem zFy:zad Tryz.prog 146:=fun args w=>Tryz.call146 args w
theorem zFa:zad Tryz.prog 147:=fun args w=>Tryz.call147 args w
theorem zFd:zad Tryz.prog 148:=fun args w=>Tryz.call148 args w
theorem zG9:zad Tryz.prog 149:=fun args w=>Tryz.call149 args w
theorem zGa:zad Tryz.prog 150:=fun args w=>Tryz.call150 args w
theorem zEe:zad Tryz.prog 151:=fun args w=>Tryz.call151 args w
theorem zGy:zad Tryz.prog 152:=fun args w=>Tryz.call152 args w
theorem zEs:zad Tryz.prog 153:=fun args w=>Tryz.call153 args w
theorem zFh:zad Tryz.prog 154:=fun args w=>Tryz.call154 args w
theorem zFx:zad Tryz.prog 155:=fun args w=>Tryz.call155 args w
theorem zHf:zad Tryz.prog 156:=fun args w=>Tryz.call156 args w
theorem zGZ:zad Tryz.prog 157:=fun args w=>Tryz.call157 args w
theorem zHr:zad Tryz.prog 158:=fun args w=>Tryz.call158 args w
theorem zFt:zad Tryz.prog 159:=fun args w=>Tryz.call159 args w
theorem zGC:zad Tryz.prog 160:=fun args w=>Tryz.call160 args w
theorem zF6:zad Tryz.prog 161:=fun args w=>Tryz.call161 args w
theorem zFR:zad Tryz.prog 162:=fun args w=>Tryz.call162 args w
theorem zD4:zad Tryz.prog 163:=fun args w=>Tryz.call163 args w
theorem zFb:zad Tryz.prog 164:=fun args w=>Tryz.call164 args w
theorem zFS:zad Tryz.prog 165:=fun args w=>Tryz.call165 args w
theorem zEO:zad Tryz.prog 166:=fun args w=>Tryz.call166 args w
theorem zE6:zad Tryz.prog 167:=fun args w=>Tryz.call167 args w
theorem zEZ:zad Tryz.prog 168:=fun args w=>Tryz.call168 args w
theorem zEi:zad Tryz.prog 169:=fun args w=>Tryz.call169 args w
theorem zGg:zad Tryz.prog 170:=fun args w=>Tryz.call170 args w
theorem zHn:zad Tryz.prog 171:=fun args w=>Tryz.call171 args w
theorem zF9:zad Tryz.prog 172:=fun args w=>Tryz.call172 args w
theorem zGm:zad Tryz.prog 173:=fun args w=>Tryz.call173 args w
theorem zF3:zad Tryz.prog 174:=fun args w=>Tryz.call174 args w
theorem zGb:zad Tryz.prog 175:=fun args w=>Tryz.call175 args w
theorem zFp:zad Tryz.prog 176:=fun args w=>Tryz.call176 args w
theorem zGq:zad Tryz.prog 177:=fun args w=>Tryz.call177 args w
theorem zpW:zad Tryz.prog 180:=fun args w=>Tryz.call180 args w
theorem zpU:zad Tryz.prog 181:=fun args w=>Tryz.call181 args w
theorem zGM:zad Tryz.prog 182:=fun args w=>Tryz.call182 args w
theorem zGY:zad Tryz.prog 183:=fun args w=>Tryz.call183 args w
theorem zEL:zad Tryz.prog 184:=fun args w=>Tryz.call184 args w
theorem zFo:zad Tryz.prog 185:=fun args w=>Tryz.call185 args w
theorem zFY:zad Tryz.prog 186:=fun args w=>Tryz.call186 args w
theorem zEw:zad Tryz.prog 187:=fun args w=>Tryz.call187 args w
theorem zFB:zad Tryz.prog 188:=fun args w=>Tryz.call188 args w
theorem zGI:zad Tryz.prog 190:=fun args w=>Tryz.call190 args w
theorem zFQ:zad Tryz.prog 191:=fun args w=>Tryz.call191 args w
theorem zE1:zad Tryz.prog 192:=fun args w=>Tryz.call192 args w
theorem zEU:zad Tryz.prog 193:=fun args w=>Tryz.call193 args w
theorem zHb:zad Tryz.prog 194:=fun args w=>Tryz.call194 args w
theorem zG5:zad Tryz.prog 195:=fun args w=>Tryz.call195 args w
theorem zD9:zad Tryz.prog 196:=fun args w=>Tryz.call196 args w
theorem zGW:zad Tryz.prog 197:=fun args w=>Tryz.call197 args w
theorem zEc:zad Tryz.prog 198:=fun args w=>Tryz.call198 args w
theorem zEJ:zad Tryz.prog 199:=fun args w=>Tryz.call199 args w
theorem zGf:zad Tryz.prog 200:=fun args w=>Tryz.call200 args w
theorem zFC:zad Tryz.prog 201:=fun args w=>Tryz.call201 args w
theorem zEB:zad Tryz.prog 202:=fun args w=>Tryz.call202 args w
theorem zFw:zad Tryz.prog 203:=fun args w=>Tryz.call203 args w
theorem zEF:zad Tryz.prog 204:=fun args w=>Tryz.call204 args w
theorem zFk:zad Tryz.prog 205:=fun args w=>Tryz.call205 args w
theorem zGu:zad Tryz.prog 206:=fun args w=>Tryz.call206 args w
theorem zED:zad Tryz.prog 207:=fun args w=>Tryz.call207 args w
theorem zEX:zad Tryz.prog 208:=fun args w=>Tryz.call208 args w
theorem zHj:zad Tryz.prog 209:=fun args w=>Tryz.call209 args w
theorem zEn:zad Tryz.prog 210:=fun args w=>Tryz.call210 args w
theorem zG2:zad Tryz.prog 211:=fun args w=>Tryz.call211 args w
theorem zEx:zad Tryz.prog 212:=fun args w=>Tryz.call212 args w
theorem zHe:zad Tryz.prog 213:=fun args w=>Tryz.call213 args w
theorem zFP:zad Tryz.prog 214:=fun args w=>Tryz.call214 args w
theorem zF7:zad Tryz.prog 215:=fun args w=>Tryz.call215 args w
theorem zo9:zad Tryz.prog 219:=fun args w=>Tryz.call219 args w
theorem zES:zad Tryz.prog 220:=fun args w=>Tryz.call220 args w
theorem zEo:zad Tryz.prog 221:=fun args w=>Tryz.call221 args w
theorem zEK:zad Tryz.prog 222:=fun args w=>Tryz.call222 args w
theorem zFu:zad Tryz.prog 224:=fun args w=>Tryz.call224 args w
theorem zGk:zad Tryz.prog 225:=fun args w=>Tryz.call225 args w
theorem zE4:zad Tryz.prog 226:=fun args w=>Tryz.call226 args w
theorem zG4:zad Tryz.prog 227:=fun args w=>Tryz.call227 args w
theorem zFe:zad Tryz.prog 236:=fun args w=>Tryz.call236 args w
end Go.Pm
