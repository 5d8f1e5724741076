import Derived.Test.YtnojafnlicbhpaaGreatPmW
import Derived.Test.YtnojafnlicbhpaaGreatProg
import Derived.KernelRfl
open Bool renaming false→aa,true→Z
open Option renaming none→ae,some→J
set_option linter.defProp false
namespace Go.Pm
open Go.Am
open Go.Proofs
set_option maxRecDepth 100000
variable{i:Nat}
def tk3:tk Tryz.prog 3=J (aa,1):=by kernel_rfl
def zr3:zr Tryz.prog 3=J [.int .i64 0]:=by kernel_rfl
def zWJ:cX Tryz.prog 3=0:=by kernel_rfl
def zWA:j9 Tryz.prog 3=J .i64:=by kernel_rfl
def zWK:eC Tryz.prog 3=aa:=by kernel_rfl
def tk4:tk Tryz.prog 4=J (aa,1):=by kernel_rfl
def zr4:zr Tryz.prog 4=J [.bool aa]:=by kernel_rfl
def zWs:cX Tryz.prog 4=0:=by kernel_rfl
def zWV:EW Tryz.prog 4=Z:=by kernel_rfl
def tk5:tk Tryz.prog 5=J (aa,1):=by kernel_rfl
def zr5:zr Tryz.prog 5=J [.int .u8 0]:=by kernel_rfl
def zWz:cX Tryz.prog 5=0:=by kernel_rfl
def zWE:j9 Tryz.prog 5=J .u8:=by kernel_rfl
def zWl:eC Tryz.prog 5=aa:=by kernel_rfl
def tk9:tk Tryz.prog 9=J (aa,1):=by kernel_rfl
def zr9:zr Tryz.prog 9=J [.str ⟨#[]⟩]:=by kernel_rfl
def zWh:cX Tryz.prog 9=0:=by kernel_rfl
def zV6:eC Tryz.prog 9=Z:=by kernel_rfl
def zV8:tk Tryz.prog 20=J (aa,1):=by kernel_rfl
def zV5:zr Tryz.prog 20=J [.ia]:=by kernel_rfl
def zVd:cX Tryz.prog 20=0:=by kernel_rfl
def zWk:tk Tryz.prog 22=J (aa,1):=by kernel_rfl
def zWP:zr Tryz.prog 22=J [.sl Z 1 []]:=by kernel_rfl
def zT1:cX Tryz.prog 22=1:=by kernel_rfl
def zUN:cW Tryz.prog 22=J 5:=by kernel_rfl
def zUt:eC Tryz.prog 22=aa:=by kernel_rfl
def zVt:ma Tryz.prog 22=J 1:=by kernel_rfl
def zUD:uH Tryz.prog 22=Z:=by kernel_rfl
def zWo:ez Tryz.prog 22=J (1,1,[.int .u8 0]):=by kernel_rfl
def zVe :ec Tryz.prog 22 i=0:=by kernel_rfl
def zWN:tk Tryz.prog 25=J (Z,3):=by kernel_rfl
def zWB:zr Tryz.prog 25=J [.int .i64 0,.int .i64 0,.int .i64 0]:=by kernel_rfl
def zTX:cX Tryz.prog 25=0:=by kernel_rfl
def zVy:nE Tryz.prog 25=J (dA Tryz.prog 25,[.int .i64 0,.int .i64 0,.int .i64 0]):=by kernel_rfl
def zPY:dA Tryz.prog 25 0=J (0,1):=by kernel_rfl
def zPz:ec Tryz.prog 25 0=0:=by kernel_rfl
def zPQ:dA Tryz.prog 25 1=J (1,1):=by kernel_rfl
def zOI:ec Tryz.prog 25 1=0:=by kernel_rfl
def zOW:dA Tryz.prog 25 2=J (2,1):=by kernel_rfl
def zQN:ec Tryz.prog 25 2=0:=by kernel_rfl
def zWa:tk Tryz.prog 26=J (aa,1):=by kernel_rfl
def zWF:zr Tryz.prog 26=J [.sl Z 2 []]:=by kernel_rfl
def zUw:cX Tryz.prog 26=2:=by kernel_rfl
def zVV:cW Tryz.prog 26=J 86:=by kernel_rfl
def zUa:eC Tryz.prog 26=aa:=by kernel_rfl
def zVH:ma Tryz.prog 26=J 2:=by kernel_rfl
def zWc:ez Tryz.prog 26=J (2,16,[.int .i64 0,.int .i64 0]):=by kernel_rfl
def zT8 :ec Tryz.prog 26 i=0:=by kernel_rfl
def zWQ:tk Tryz.prog 27=J (aa,1):=by kernel_rfl
def zWU:zr Tryz.prog 27=J [.sl Z 1 []]:=by kernel_rfl
def zUS:cX Tryz.prog 27=1:=by kernel_rfl
def zUE:cW Tryz.prog 27=J 3:=by kernel_rfl
def zT3:eC Tryz.prog 27=aa:=by kernel_rfl
def zVY:ma Tryz.prog 27=J 1:=by kernel_rfl
def zNM:ez Tryz.prog 27=J (1,8,[.int .i64 0]):=by kernel_rfl
def zVS :ec Tryz.prog 27 i=0:=by kernel_rfl
def zWf:tk Tryz.prog 31=J (Z,3):=by kernel_rfl
def zWW:zr Tryz.prog 31=J [.sl Z 1 [],.sl Z 1 [],.sl Z 1 []]:=by kernel_rfl
def zV0:cX Tryz.prog 31=0:=by kernel_rfl
def zVs:nE Tryz.prog 31=J (dA Tryz.prog 31,[.sl Z 1 [],.sl Z 1 [],.sl Z 1 []]):=by kernel_rfl
def zOi:dA Tryz.prog 31 0=J (0,1):=by kernel_rfl
def zOp:ec Tryz.prog 31 0=1:=by kernel_rfl
def zRn:dA Tryz.prog 31 1=J (1,1):=by kernel_rfl
def zRo:ec Tryz.prog 31 1=1:=by kernel_rfl
def zRq:dA Tryz.prog 31 2=J (2,1):=by kernel_rfl
def zPS:ec Tryz.prog 31 2=1:=by kernel_rfl
def zV2:tk Tryz.prog 33=J (Z,5):=by kernel_rfl
def zWM:zr Tryz.prog 33=J [.sl Z 1 [],.sl Z 1 [],.sl Z 1 [],.sl Z 1 [],.sl Z 1 []]:=by kernel_rfl
def zUz:cX Tryz.prog 33=0:=by kernel_rfl
def zUK:nE Tryz.prog 33=J (dA Tryz.prog 33,[.sl Z 1 [],.sl Z 1 [],.sl Z 1 [],.sl Z 1 [],.sl Z 1 []]):=by kernel_rfl
def zO1:dA Tryz.prog 33 0=J (0,1):=by kernel_rfl
def zQR:ec Tryz.prog 33 0=1:=by kernel_rfl
def zOt:dA Tryz.prog 33 1=J (1,1):=by kernel_rfl
def zQP:ec Tryz.prog 33 1=1:=by kernel_rfl
def zOl:dA Tryz.prog 33 2=J (2,3):=by kernel_rfl
def zQx:ec Tryz.prog 33 2=0:=by kernel_rfl
def zWD:tk Tryz.prog 35=J (Z,6):=by kernel_rfl
def zWi:zr Tryz.prog 35=J [.sl Z 1 [],.sl Z 1 [],.sl Z 1 [],.sl Z 1 [],.sl Z 1 [],.sl Z 1 []]:=by kernel_rfl
def zVD:cX Tryz.prog 35=0:=by kernel_rfl
def zT7:nE Tryz.prog 35=J (dA Tryz.prog 35,[.sl Z 1 [],.sl Z 1 [],.sl Z 1 [],.sl Z 1 [],.sl Z 1 [],.sl Z 1 []]):=by kernel_rfl
def zPK:dA Tryz.prog 35 0=J (0,1):=by kernel_rfl
def zRa:ec Tryz.prog 35 0=1:=by kernel_rfl
def zRd:dA Tryz.prog 35 1=J (1,1):=by kernel_rfl
def zPR:ec Tryz.prog 35 1=1:=by kernel_rfl
def zRr:dA Tryz.prog 35 2=J (2,1):=by kernel_rfl
def zP6:ec Tryz.prog 35 2=1:=by kernel_rfl
def zPB:dA Tryz.prog 35 3=J (3,3):=by kernel_rfl
def zPA:ec Tryz.prog 35 3=0:=by kernel_rfl
def zWL:tk Tryz.prog 37=J (Z,13):=by kernel_rfl
def zWm:zr Tryz.prog 37=J [.int .i64 0,.sl Z 2 [],.sl Z 1 [],.sl Z 1 [],.sl Z 1 [],.sl Z 1 [],.sl Z 1 [],.sl Z 1 [],.sl Z 1 [],.sl Z 1 [],.sl Z 1 [],.sl Z 1 [],.sl Z 1 []]:=by kernel_rfl
def zUQ:cX Tryz.prog 37=0:=by kernel_rfl
def zT9:nE Tryz.prog 37=J (dA Tryz.prog 37,[.int .i64 0,.sl Z 2 [],.sl Z 1 [],.sl Z 1 [],.sl Z 1 [],.sl Z 1 [],.sl Z 1 [],.sl Z 1 [],.sl Z 1 [],.sl Z 1 [],.sl Z 1 [],.sl Z 1 [],.sl Z 1 []]):=by kernel_rfl
def zPw:dA Tryz.prog 37 0=J (0,1):=by kernel_rfl
def zQd:ec Tryz.prog 37 0=0:=by kernel_rfl
def zN8:dA Tryz.prog 37 1=J (1,1):=by kernel_rfl
def zPg:ec Tryz.prog 37 1=2:=by kernel_rfl
def zPH:dA Tryz.prog 37 2=J (2,5):=by kernel_rfl
def zPe:ec Tryz.prog 37 2=0:=by kernel_rfl
def zQ7:dA Tryz.prog 37 3=J (7,6):=by kernel_rfl
def zQi:ec Tryz.prog 37 3=0:=by kernel_rfl
def zWg:tk Tryz.prog 49=J (aa,1):=by kernel_rfl
def zWu:zr Tryz.prog 49=J [.sl Z 1 []]:=by kernel_rfl
def zUB:cX Tryz.prog 49=1:=by kernel_rfl
def zTL:cW Tryz.prog 49=J 27:=by kernel_rfl
def zTu:eC Tryz.prog 49=aa:=by kernel_rfl
def zVI:ma Tryz.prog 49=J 1:=by kernel_rfl
def zCK:ez Tryz.prog 49=J (1,24,[.sl aa 1 []]):=by kernel_rfl
def zUb :ec Tryz.prog 49 i=1:=by kernel_rfl
def zWr:tk Tryz.prog 52=J (aa,1):=by kernel_rfl
def zV9:zr Tryz.prog 52=J [.sl Z 13 []]:=by kernel_rfl
def zU1:cX Tryz.prog 52=13:=by kernel_rfl
def zTw:cW Tryz.prog 52=J 37:=by kernel_rfl
def zTB:eC Tryz.prog 52=aa:=by kernel_rfl
def zVv:ma Tryz.prog 52=J 13:=by kernel_rfl
def zWS:ez Tryz.prog 52=J (13,296,[.int .i64 0,.sl aa 2 [],.sl aa 1 [],.sl aa 1 [],.sl aa 1 [],.sl aa 1 [],.sl aa 1 [],.sl aa 1 [],.sl aa 1 [],.sl aa 1 [],.sl aa 1 [],.sl aa 1 [],.sl aa 1 []]):=by kernel_rfl
def zVJ :ec Tryz.prog 52 i=0:=by kernel_rfl
def zWp:tk Tryz.prog 64=J (aa,1):=by kernel_rfl
def zWv:zr Tryz.prog 64=J [.gu]:=by kernel_rfl
def zTD:cX Tryz.prog 64=0:=by kernel_rfl
def zWn:tk Tryz.prog 65=J (aa,1):=by kernel_rfl
def zV4:zr Tryz.prog 65=J [.int .u64 0]:=by kernel_rfl
def zU8:cX Tryz.prog 65=0:=by kernel_rfl
def zUg:j9 Tryz.prog 65=J .u64:=by kernel_rfl
def zVw:eC Tryz.prog 65=aa:=by kernel_rfl
def zWC:tk Tryz.prog 67=J (Z,3):=by kernel_rfl
def zWw:zr Tryz.prog 67=J [.sl Z 1 [],.int .i64 0,.int .u64 0]:=by kernel_rfl
def zUi:cX Tryz.prog 67=0:=by kernel_rfl
def zU2:nE Tryz.prog 67=J (dA Tryz.prog 67,[.sl Z 1 [],.int .i64 0,.int .u64 0]):=by kernel_rfl
def zQc:dA Tryz.prog 67 0=J (0,1):=by kernel_rfl
def zQX:ec Tryz.prog 67 0=1:=by kernel_rfl
def zOO:dA Tryz.prog 67 1=J (1,1):=by kernel_rfl
def zOk:ec Tryz.prog 67 1=0:=by kernel_rfl
def zQU:dA Tryz.prog 67 2=J (2,1):=by kernel_rfl
def zQZ:ec Tryz.prog 67 2=0:=by kernel_rfl
def zV7:tk Tryz.prog 70=J (Z,2):=by kernel_rfl
def zV3:zr Tryz.prog 70=J [.int .i64 0,.sl Z 1 []]:=by kernel_rfl
def zTG:cX Tryz.prog 70=0:=by kernel_rfl
def zUn:nE Tryz.prog 70=J (dA Tryz.prog 70,[.int .i64 0,.sl Z 1 []]):=by kernel_rfl
def zRs:dA Tryz.prog 70 0=J (0,1):=by kernel_rfl
def zPO:ec Tryz.prog 70 0=0:=by kernel_rfl
def zOS:dA Tryz.prog 70 1=J (1,1):=by kernel_rfl
def zOD:ec Tryz.prog 70 1=1:=by kernel_rfl
def zWG:tk Tryz.prog 73=J (aa,1):=by kernel_rfl
def zWH:zr Tryz.prog 73=J [.fX]:=by kernel_rfl
def zUs:cX Tryz.prog 73=0:=by kernel_rfl
def zWb:tk Tryz.prog 86=J (Z,2):=by kernel_rfl
def zWq:zr Tryz.prog 86=J [.int .i64 0,.int .i64 0]:=by kernel_rfl
def zV1:cX Tryz.prog 86=0:=by kernel_rfl
def zUy:CI Tryz.prog 86=J [0,1]:=by kernel_rfl
def zU3:nE Tryz.prog 86=J (dA Tryz.prog 86,[.int .i64 0,.int .i64 0]):=by kernel_rfl
def zOA:dA Tryz.prog 86 0=J (0,1):=by kernel_rfl
def zQk:ec Tryz.prog 86 0=0:=by kernel_rfl
def zQI:dA Tryz.prog 86 1=J (1,1):=by kernel_rfl
def zPk:ec Tryz.prog 86 1=0:=by kernel_rfl
def zTA:tk Tryz.prog 107=J (aa,1):=by kernel_rfl
def zVx:zr Tryz.prog 107=J [.fX]:=by kernel_rfl
def zSY:cX Tryz.prog 107=0:=by kernel_rfl
def zU7:tk Tryz.prog 128=J (aa,1):=by kernel_rfl
def zUU:zr Tryz.prog 128=J [.sl Z 1 []]:=by kernel_rfl
def zR4:cX Tryz.prog 128=1:=by kernel_rfl
def zTd:cW Tryz.prog 128=J 49:=by kernel_rfl
def zR2:eC Tryz.prog 128=aa:=by kernel_rfl
def zS8:ma Tryz.prog 128=J 1:=by kernel_rfl
def zVR:ez Tryz.prog 128=J (1,24,[.sl aa 1 []]):=by kernel_rfl
def zSF :ec Tryz.prog 128 i=1:=by kernel_rfl
def zVF:tk Tryz.prog 130=J (aa,1):=by kernel_rfl
def zU6:zr Tryz.prog 130=J [.gu]:=by kernel_rfl
def zSc:cX Tryz.prog 130=0:=by kernel_rfl
def zUj:tk Tryz.prog 132=J (Z,2):=by kernel_rfl
def zT5:zr Tryz.prog 132=J [.sl Z 1 [],.bool aa]:=by kernel_rfl
def zSD:cX Tryz.prog 132=0:=by kernel_rfl
def zSq:nE Tryz.prog 132=J (dA Tryz.prog 132,[.sl Z 1 [],.bool aa]):=by kernel_rfl
def zJ0:dA Tryz.prog 132 0=J (0,1):=by kernel_rfl
def zKU:ec Tryz.prog 132 0=1:=by kernel_rfl
def zK9:dA Tryz.prog 132 1=J (1,1):=by kernel_rfl
def zMR:ec Tryz.prog 132 1=0:=by kernel_rfl
def zVK:tk Tryz.prog 147=J (aa,1):=by kernel_rfl
def zVq:zr Tryz.prog 147=J [.gu]:=by kernel_rfl
def zSU:cX Tryz.prog 147=0:=by kernel_rfl
def zVm:tk Tryz.prog 149=J (Z,1):=by kernel_rfl
def zTs:zr Tryz.prog 149=J [.sl Z 1 []]:=by kernel_rfl
def zTb:cX Tryz.prog 149=0:=by kernel_rfl
def zS7:nE Tryz.prog 149=J (dA Tryz.prog 149,[.sl Z 1 []]):=by kernel_rfl
def zLS:dA Tryz.prog 149 0=J (0,1):=by kernel_rfl
def zNI:ec Tryz.prog 149 0=1:=by kernel_rfl
def zTz:tk Tryz.prog 164=J (Z,5):=by kernel_rfl
def zT2:zr Tryz.prog 164=J [.sl Z 1 [],.sl Z 1 [],.sl Z 1 [],.sl Z 1 [],.sl Z 1 []]:=by kernel_rfl
def zS5:cX Tryz.prog 164=0:=by kernel_rfl
def zRQ:ma Tryz.prog 164=ae:=by kernel_rfl
def zSo:JA Tryz.prog 164=J (5,1):=by kernel_rfl
def zSx :ec Tryz.prog 164 i=1:=by kernel_rfl
def zRS:nE Tryz.prog 164=J (λi=>J (i*1,1),[.sl Z 1 [],.sl Z 1 [],.sl Z 1 [],.sl Z 1 [],.sl Z 1 []]):=by kernel_rfl
def zUP:tk Tryz.prog 173=J (aa,1):=by kernel_rfl
def zUu:zr Tryz.prog 173=J [.fX]:=by kernel_rfl
def zSW:cX Tryz.prog 173=0:=by kernel_rfl
def zVU:tk Tryz.prog 176=J (aa,1):=by kernel_rfl
def zUc:zr Tryz.prog 176=J [.fX]:=by kernel_rfl
def zSG:cX Tryz.prog 176=0:=by kernel_rfl
def zUq:tk Tryz.prog 185=J (aa,1):=by kernel_rfl
def zTE:zr Tryz.prog 185=J [.int .u64 0]:=by kernel_rfl
def zR6:cX Tryz.prog 185=0:=by kernel_rfl
def zSf:j9 Tryz.prog 185=J .u64:=by kernel_rfl
def zRM:eC Tryz.prog 185=aa:=by kernel_rfl
def zUJ:tk Tryz.prog 212=J (aa,1):=by kernel_rfl
def zTq:zr Tryz.prog 212=J [.gu]:=by kernel_rfl
def zSn:cX Tryz.prog 212=0:=by kernel_rfl
def zTK:tk Tryz.prog 214=J (Z,2):=by kernel_rfl
def zUo:zr Tryz.prog 214=J [.int .i64 0,.int .i64 0]:=by kernel_rfl
def zRG:cX Tryz.prog 214=0:=by kernel_rfl
def zTj:nE Tryz.prog 214=J (dA Tryz.prog 214,[.int .i64 0,.int .i64 0]):=by kernel_rfl
def zNb:dA Tryz.prog 214 0=J (0,1):=by kernel_rfl
def zM4:ec Tryz.prog 214 0=0:=by kernel_rfl
def zKy:dA Tryz.prog 214 1=J (1,1):=by kernel_rfl
def zLK:ec Tryz.prog 214 1=0:=by kernel_rfl
attribute[go_sem]tk3 zr3 zWJ zWA zWK tk4 zr4 zWs zWV tk5 zr5 zWz zWE zWl tk9 zr9 zWh zV6 zV8 zV5 zVd zWk zWP zT1 zUN zUt zVt zUD zWo zVe zWN zWB zTX zVy zPY zPz zPQ zOI zOW zQN zWa zWF zUw zVV zUa zVH zWc zT8 zWQ zWU zUS zUE zT3 zVY zNM zVS zWf zWW zV0 zVs zOi zOp zRn zRo zRq zPS zV2 zWM zUz zUK zO1 zQR zOt zQP zOl zQx zWD zWi zVD zT7 zPK zRa zRd zPR zRr zP6 zPB zPA zWL zWm zUQ zT9 zPw zQd zN8 zPg zPH zPe zQ7 zQi zWg zWu zUB zTL zTu zVI zCK zUb zWr zV9 zU1 zTw zTB zVv zWS zVJ zWp zWv zTD zWn zV4 zU8 zUg zVw zWC zWw zUi zU2 zQc zQX zOO zOk zQU zQZ zV7 zV3 zTG zUn zRs zPO zOS zOD zWG zWH zUs zWb zWq zV1 zUy zU3 zOA zQk zQI zPk zTA zVx zSY zU7 zUU zR4 zTd zR2 zS8 zVR zSF zVF zU6 zSc zUj zT5 zSD zSq zJ0 zKU zK9 zMR zVK zVq zSU zVm zTs zTb zS7 zLS zNI zTz zT2 zS5 zRQ zSo zSx zRS zUP zUu zSW zVU zUc zSG zUq zTE zR6 zSf zRM zUJ zTq zSn zTK zUo zRG zTj zNb zM4 zKy zLK
def follows:Tryz.prog.follows .mixedOrders=Z:=by kernel_rfl
def cl3:aA Tryz.prog 3:=λargs w=>Tryz.call3 args w
def cl5:aA Tryz.prog 5:=λargs w=>Tryz.call5 args w
def cl6:aA Tryz.prog 6:=λargs w=>Tryz.call6 args w
def cl7:aA Tryz.prog 7:=λargs w=>Tryz.call7 args w
def cl8:aA Tryz.prog 8:=λargs w=>Tryz.call8 args w
def cl9:aA Tryz.prog 9:=λargs w=>Tryz.call9 args w
def zNr:aA Tryz.prog 10:=λargs w=>Tryz.call10 args w
def zMW:aA Tryz.prog 11:=λargs w=>Tryz.call11 args w
def zNN:aA Tryz.prog 12:=λargs w=>Tryz.call12 args w
def zMV:aA Tryz.prog 13:=λargs w=>Tryz.call13 args w
def zNk:aA Tryz.prog 14:=λargs w=>Tryz.call14 args w
def zJM:aA Tryz.prog 15:=λargs w=>Tryz.call15 args w
def zNY:aA Tryz.prog 26:=λargs w=>Tryz.call26 args w
def zJW:aA Tryz.prog 27:=λargs w=>Tryz.call27 args w
def zLZ:aA Tryz.prog 28:=λargs w=>Tryz.call28 args w
def zKP:aA Tryz.prog 29:=λargs w=>Tryz.call29 args w
def zME:aA Tryz.prog 30:=λargs w=>Tryz.call30 args w
def zLk:aA Tryz.prog 31:=λargs w=>Tryz.call31 args w
def zMX:aA Tryz.prog 32:=λargs w=>Tryz.call32 args w
def zNJ:aA Tryz.prog 33:=λargs w=>Tryz.call33 args w
def zMg:aA Tryz.prog 34:=λargs w=>Tryz.call34 args w
def zLj:aA Tryz.prog 35:=λargs w=>Tryz.call35 args w
def zLy:aA Tryz.prog 36:=λargs w=>Tryz.call36 args w
def zLe:aA Tryz.prog 37:=λargs w=>Tryz.call37 args w
def zKL:aA Tryz.prog 38:=λargs w=>Tryz.call38 args w
def zLU:aA Tryz.prog 39:=λargs w=>Tryz.call39 args w
def zNe:aA Tryz.prog 40:=λargs w=>Tryz.call40 args w
def zN4:aA Tryz.prog 41:=λargs w=>Tryz.call41 args w
def zKR:aA Tryz.prog 42:=λargs w=>Tryz.call42 args w
def zJX:aA Tryz.prog 43:=λargs w=>Tryz.call43 args w
def zJ7:aA Tryz.prog 44:=λargs w=>Tryz.call44 args w
def zL1:aA Tryz.prog 45:=λargs w=>Tryz.call45 args w
def zLX:aA Tryz.prog 46:=λargs w=>Tryz.call46 args w
def zMi:aA Tryz.prog 47:=λargs w=>Tryz.call47 args w
def zMl:aA Tryz.prog 48:=λargs w=>Tryz.call48 args w
def Zd:aA Tryz.prog 49:=λargs w=>Tryz.call49 args w
def zKO:aA Tryz.prog 50:=λargs w=>Tryz.call50 args w
def zNU:aA Tryz.prog 51:=λargs w=>Tryz.call51 args w
def zJY:aA Tryz.prog 52:=λargs w=>Tryz.call52 args w
def zN1:aA Tryz.prog 53:=λargs w=>Tryz.call53 args w
def zNz:aA Tryz.prog 54:=λargs w=>Tryz.call54 args w
def zKs:aA Tryz.prog 55:=λargs w=>Tryz.call55 args w
def zLv:aA Tryz.prog 58:=λargs w=>Tryz.call58 args w
def zKM:aA Tryz.prog 59:=λargs w=>Tryz.call59 args w
def zLa:aA Tryz.prog 61:=λargs w=>Tryz.call61 args w
def zLR:aA Tryz.prog 63:=λargs w=>Tryz.call63 args w
def zMx:aA Tryz.prog 64:=λargs w=>Tryz.call64 args w
def zNn:aA Tryz.prog 65:=λargs w=>Tryz.call65 args w
def zLo:aA Tryz.prog 66:=λargs w=>Tryz.call66 args w
def zMk:aA Tryz.prog 67:=λargs w=>Tryz.call67 args w
def N0:aA Tryz.prog 69:=λargs w=>Tryz.call69 args w
def zM5:aA Tryz.prog 70:=λargs w=>Tryz.call70 args w
def zN7:aA Tryz.prog 71:=λargs w=>Tryz.call71 args w
def zNv:aA Tryz.prog 72:=λargs w=>Tryz.call72 args w
def zCP:aA Tryz.prog 73:=λargs w=>Tryz.call73 args w
def zMf:aA Tryz.prog 74:=λargs w=>Tryz.call74 args w
def zNp:aA Tryz.prog 75:=λargs w=>Tryz.call75 args w
def zMj:aA Tryz.prog 76:=λargs w=>Tryz.call76 args w
def zKS:aA Tryz.prog 77:=λargs w=>Tryz.call77 args w
def zKn:aA Tryz.prog 78:=λargs w=>Tryz.call78 args w
def zKm:aA Tryz.prog 79:=λargs w=>Tryz.call79 args w
def zKF:aA Tryz.prog 80:=λargs w=>Tryz.call80 args w
def zMS:aA Tryz.prog 81:=λargs w=>Tryz.call81 args w
def zLI:aA Tryz.prog 82:=λargs w=>Tryz.call82 args w
def zLQ:aA Tryz.prog 83:=λargs w=>Tryz.call83 args w
def zKY:aA Tryz.prog 84:=λargs w=>Tryz.call84 args w
def zMC:aA Tryz.prog 85:=λargs w=>Tryz.call85 args w
def zNL:aA Tryz.prog 86:=λargs w=>Tryz.call86 args w
def zM1:aA Tryz.prog 87:=λargs w=>Tryz.call87 args w
def zKD:aA Tryz.prog 88:=λargs w=>Tryz.call88 args w
def zMH:aA Tryz.prog 89:=λargs w=>Tryz.call89 args w
def zMY:aA Tryz.prog 90:=λargs w=>Tryz.call90 args w
def zJ5:aA Tryz.prog 91:=λargs w=>Tryz.call91 args w
def zKW:aA Tryz.prog 92:=λargs w=>Tryz.call92 args w
def zND:aA Tryz.prog 93:=λargs w=>Tryz.call93 args w
def zNK:aA Tryz.prog 94:=λargs w=>Tryz.call94 args w
def zJ1:aA Tryz.prog 95:=λargs w=>Tryz.call95 args w
def zL7:aA Tryz.prog 96:=λargs w=>Tryz.call96 args w
def zLn:aA Tryz.prog 97:=λargs w=>Tryz.call97 args w
def zMT:aA Tryz.prog 98:=λargs w=>Tryz.call98 args w
def zKh:aA Tryz.prog 99:=λargs w=>Tryz.call99 args w
def zHv:aA Tryz.prog 100:=λargs w=>Tryz.call100 args w
def zH5:aA Tryz.prog 101:=λargs w=>Tryz.call101 args w
def zHq:aA Tryz.prog 102:=λargs w=>Tryz.call102 args w
def zFm:aA Tryz.prog 103:=λargs w=>Tryz.call103 args w
def zIo:aA Tryz.prog 104:=λargs w=>Tryz.call104 args w
def zFC:aA Tryz.prog 105:=λargs w=>Tryz.call105 args w
def zHw:aA Tryz.prog 106:=λargs w=>Tryz.call106 args w
def zEq:aA Tryz.prog 107:=λargs w=>Tryz.call107 args w
def zIe:aA Tryz.prog 108:=λargs w=>Tryz.call108 args w
def zEt:aA Tryz.prog 109:=λargs w=>Tryz.call109 args w
def zG0:aA Tryz.prog 110:=λargs w=>Tryz.call110 args w
def zE5:aA Tryz.prog 111:=λargs w=>Tryz.call111 args w
def zGq:aA Tryz.prog 112:=λargs w=>Tryz.call112 args w
def zGy:aA Tryz.prog 113:=λargs w=>Tryz.call113 args w
def Nh:aA Tryz.prog 115:=λargs w=>Tryz.call115 args w
def NN:aA Tryz.prog 116:=λargs w=>Tryz.call116 args w
def zHx:aA Tryz.prog 117:=λargs w=>Tryz.call117 args w
def zGP:aA Tryz.prog 118:=λargs w=>Tryz.call118 args w
def zHB:aA Tryz.prog 119:=λargs w=>Tryz.call119 args w
def zEY:aA Tryz.prog 120:=λargs w=>Tryz.call120 args w
def zHV:aA Tryz.prog 121:=λargs w=>Tryz.call121 args w
def zGo:aA Tryz.prog 122:=λargs w=>Tryz.call122 args w
def zGs:aA Tryz.prog 123:=λargs w=>Tryz.call123 args w
def zFH:aA Tryz.prog 124:=λargs w=>Tryz.call124 args w
def zGa:aA Tryz.prog 125:=λargs w=>Tryz.call125 args w
def zIk:aA Tryz.prog 126:=λargs w=>Tryz.call126 args w
def zG7:aA Tryz.prog 127:=λargs w=>Tryz.call127 args w
def zHc:aA Tryz.prog 128:=λargs w=>Tryz.call128 args w
def zF2:aA Tryz.prog 129:=λargs w=>Tryz.call129 args w
def zFj:aA Tryz.prog 130:=λargs w=>Tryz.call130 args w
def zGB:aA Tryz.prog 131:=λargs w=>Tryz.call131 args w
def zFL:aA Tryz.prog 132:=λargs w=>Tryz.call132 args w
def zIn:aA Tryz.prog 133:=λargs w=>Tryz.call133 args w
def zH6:aA Tryz.prog 134:=λargs w=>Tryz.call134 args w
def zG1:aA Tryz.prog 135:=λargs w=>Tryz.call135 args w
def zHT:aA Tryz.prog 136:=λargs w=>Tryz.call136 args w
def zEU:aA Tryz.prog 137:=λargs w=>Tryz.call137 args w
def zGc:aA Tryz.prog 138:=λargs w=>Tryz.call138 args w
def zGw:aA Tryz.prog 139:=λargs w=>Tryz.call139 args w
def zGI:aA Tryz.prog 140:=λargs w=>Tryz.call140 args w
def zGX:aA Tryz.prog 141:=λargs w=>Tryz.call141 args w
def zFQ:aA Tryz.prog 142:=λargs w=>Tryz.call142 args w
def zH9:aA Tryz.prog 143:=λargs w=>Tryz.call143 args w
def zHI:aA Tryz.prog 144:=λargs w=>Tryz.call144 args w
def zH7:aA Tryz.prog 145:=λargs w=>Tryz.call145 args w
def zHU:aA Tryz.prog 146:=λargs w=>Tryz.call146 args w
def zHK:aA Tryz.prog 147:=λargs w=>Tryz.call147 args w
def zHA:aA Tryz.prog 148:=λargs w=>Tryz.call148 args w
def zFp:aA Tryz.prog 149:=λargs w=>Tryz.call149 args w
def zHH:aA Tryz.prog 150:=λargs w=>Tryz.call150 args w
def zH0:aA Tryz.prog 151:=λargs w=>Tryz.call151 args w
def zH1:aA Tryz.prog 152:=λargs w=>Tryz.call152 args w
def zGK:aA Tryz.prog 153:=λargs w=>Tryz.call153 args w
def zHL:aA Tryz.prog 154:=λargs w=>Tryz.call154 args w
def zHQ:aA Tryz.prog 155:=λargs w=>Tryz.call155 args w
def zFn:aA Tryz.prog 156:=λargs w=>Tryz.call156 args w
def zFD:aA Tryz.prog 157:=λargs w=>Tryz.call157 args w
def zFt:aA Tryz.prog 158:=λargs w=>Tryz.call158 args w
def zFr:aA Tryz.prog 159:=λargs w=>Tryz.call159 args w
def zHm:aA Tryz.prog 160:=λargs w=>Tryz.call160 args w
def zHk:aA Tryz.prog 161:=λargs w=>Tryz.call161 args w
def zEE:aA Tryz.prog 162:=λargs w=>Tryz.call162 args w
def zHp:aA Tryz.prog 163:=λargs w=>Tryz.call163 args w
def zET:aA Tryz.prog 164:=λargs w=>Tryz.call164 args w
def zHZ:aA Tryz.prog 165:=λargs w=>Tryz.call165 args w
def zER:aA Tryz.prog 166:=λargs w=>Tryz.call166 args w
def zH4:aA Tryz.prog 167:=λargs w=>Tryz.call167 args w
def zHa:aA Tryz.prog 168:=λargs w=>Tryz.call168 args w
def zEH:aA Tryz.prog 169:=λargs w=>Tryz.call169 args w
def zHi:aA Tryz.prog 170:=λargs w=>Tryz.call170 args w
def zH8:aA Tryz.prog 171:=λargs w=>Tryz.call171 args w
def zFU:aA Tryz.prog 172:=λargs w=>Tryz.call172 args w
def zF3:aA Tryz.prog 173:=λargs w=>Tryz.call173 args w
def M5:aA Tryz.prog 174:=λargs w=>Tryz.call174 args w
def zFs:aA Tryz.prog 175:=λargs w=>Tryz.call175 args w
def zES:aA Tryz.prog 176:=λargs w=>Tryz.call176 args w
def zEM:aA Tryz.prog 177:=λargs w=>Tryz.call177 args w
def zFG:aA Tryz.prog 178:=λargs w=>Tryz.call178 args w
def zEB:aA Tryz.prog 179:=λargs w=>Tryz.call179 args w
def zIi:aA Tryz.prog 180:=λargs w=>Tryz.call180 args w
def zHR:aA Tryz.prog 181:=λargs w=>Tryz.call181 args w
def zF4:aA Tryz.prog 182:=λargs w=>Tryz.call182 args w
def zG8:aA Tryz.prog 183:=λargs w=>Tryz.call183 args w
def zHt:aA Tryz.prog 184:=λargs w=>Tryz.call184 args w
def zFk:aA Tryz.prog 185:=λargs w=>Tryz.call185 args w
def zFE:aA Tryz.prog 186:=λargs w=>Tryz.call186 args w
def zGf:aA Tryz.prog 187:=λargs w=>Tryz.call187 args w
def zEO:aA Tryz.prog 188:=λargs w=>Tryz.call188 args w
def zEZ:aA Tryz.prog 189:=λargs w=>Tryz.call189 args w
def zEV:aA Tryz.prog 190:=λargs w=>Tryz.call190 args w
def zG3:aA Tryz.prog 191:=λargs w=>Tryz.call191 args w
def zHG:aA Tryz.prog 192:=λargs w=>Tryz.call192 args w
def zEw:aA Tryz.prog 193:=λargs w=>Tryz.call193 args w
def zFf:aA Tryz.prog 194:=λargs w=>Tryz.call194 args w
def zGM:aA Tryz.prog 195:=λargs w=>Tryz.call195 args w
def zGv:aA Tryz.prog 196:=λargs w=>Tryz.call196 args w
def zEz:aA Tryz.prog 197:=λargs w=>Tryz.call197 args w
def zHN:aA Tryz.prog 198:=λargs w=>Tryz.call198 args w
def zGF:aA Tryz.prog 199:=λargs w=>Tryz.call199 args w
def zGL:aA Tryz.prog 200:=λargs w=>Tryz.call200 args w
def zEW:aA Tryz.prog 201:=λargs w=>Tryz.call201 args w
def zFP:aA Tryz.prog 202:=λargs w=>Tryz.call202 args w
def zFK:aA Tryz.prog 203:=λargs w=>Tryz.call203 args w
def zHE:aA Tryz.prog 204:=λargs w=>Tryz.call204 args w
def zGG:aA Tryz.prog 205:=λargs w=>Tryz.call205 args w
def zHW:aA Tryz.prog 206:=λargs w=>Tryz.call206 args w
def zE0:aA Tryz.prog 207:=λargs w=>Tryz.call207 args w
def zFO:aA Tryz.prog 208:=λargs w=>Tryz.call208 args w
def zFN:aA Tryz.prog 209:=λargs w=>Tryz.call209 args w
def zFc:aA Tryz.prog 210:=λargs w=>Tryz.call210 args w
def zFx:aA Tryz.prog 211:=λargs w=>Tryz.call211 args w
def zGJ:aA Tryz.prog 212:=λargs w=>Tryz.call212 args w
def zFa:aA Tryz.prog 213:=λargs w=>Tryz.call213 args w
def zHF:aA Tryz.prog 214:=λargs w=>Tryz.call214 args w
def zGd:aA Tryz.prog 215:=λargs w=>Tryz.call215 args w
def zEx:aA Tryz.prog 216:=λargs w=>Tryz.call216 args w
def zGZ:aA Tryz.prog 217:=λargs w=>Tryz.call217 args w
def zE2:aA Tryz.prog 218:=λargs w=>Tryz.call218 args w
end Go.Pm
