import Derived.Test.YtnojafnlicbhpaaGreatPmW
import Derived.Test.YtnojafnlicbhpaaGreatProg
import Derived.KernelRfl
namespace Go.Pm
set_option linter.defProp false
open Go.Am
open Go.Proofs
open Bool renaming false→aa,true→Z
open Option renaming none→ae,some→J
set_option maxRecDepth 100000
variable{i:Nat}
def tk3:tk Tryz.prog 3=J (aa,1):=by kernel_rfl
def zr3:zr Tryz.prog 3=J [.int .i64 0]:=by kernel_rfl
def zWB:cR Tryz.prog 3=0:=by kernel_rfl
def zWk:jG Tryz.prog 3=J .i64:=by kernel_rfl
def zWt:dU Tryz.prog 3=aa:=by kernel_rfl
def tk4:tk Tryz.prog 4=J (aa,1):=by kernel_rfl
def zr4:zr Tryz.prog 4=J [.bool aa]:=by kernel_rfl
def zWr:cR Tryz.prog 4=0:=by kernel_rfl
def zV7:DF Tryz.prog 4=Z:=by kernel_rfl
def tk5:tk Tryz.prog 5=J (aa,1):=by kernel_rfl
def zr5:zr Tryz.prog 5=J [.int .u8 0]:=by kernel_rfl
def zWI:cR Tryz.prog 5=0:=by kernel_rfl
def zWo:jG Tryz.prog 5=J .u8:=by kernel_rfl
def zV3:dU Tryz.prog 5=aa:=by kernel_rfl
def tk9:tk Tryz.prog 9=J (aa,1):=by kernel_rfl
def zr9:zr Tryz.prog 9=J [.str ⟨#[]⟩]:=by kernel_rfl
def zWA:cR Tryz.prog 9=0:=by kernel_rfl
def zWj:dU Tryz.prog 9=Z:=by kernel_rfl
def zV8:tk Tryz.prog 20=J (aa,1):=by kernel_rfl
def zWb:zr Tryz.prog 20=J [.gC]:=by kernel_rfl
def zUv:cR Tryz.prog 20=0:=by kernel_rfl
def zWL:tk Tryz.prog 22=J (aa,1):=by kernel_rfl
def zWS:zr Tryz.prog 22=J [.sl Z 1 []]:=by kernel_rfl
def zVc:cR Tryz.prog 22=1:=by kernel_rfl
def zTT:cS Tryz.prog 22=J 5:=by kernel_rfl
def zUi:dU Tryz.prog 22=aa:=by kernel_rfl
def zTv:kV Tryz.prog 22=J 1:=by kernel_rfl
def zTo:tN Tryz.prog 22=Z:=by kernel_rfl
def zWm:ez Tryz.prog 22=J (1,1,[.int .u8 0]):=by kernel_rfl
def zU2 :dZ Tryz.prog 22 i=0:=by kernel_rfl
def zWw:tk Tryz.prog 25=J (Z,3):=by kernel_rfl
def zV0:zr Tryz.prog 25=J [.int .i64 0,.int .i64 0,.int .i64 0]:=by kernel_rfl
def zUB:cR Tryz.prog 25=0:=by kernel_rfl
def zUG:nl Tryz.prog 25=J (du Tryz.prog 25,[.int .i64 0,.int .i64 0,.int .i64 0]):=by kernel_rfl
def zPs:du Tryz.prog 25 0=J (0,1):=by kernel_rfl
def zQz:dZ Tryz.prog 25 0=0:=by kernel_rfl
def zRm:du Tryz.prog 25 1=J (1,1):=by kernel_rfl
def zQ3:dZ Tryz.prog 25 1=0:=by kernel_rfl
def zRg:du Tryz.prog 25 2=J (2,1):=by kernel_rfl
def zPz:dZ Tryz.prog 25 2=0:=by kernel_rfl
def zWH:tk Tryz.prog 26=J (aa,1):=by kernel_rfl
def zWG:zr Tryz.prog 26=J [.sl Z 2 []]:=by kernel_rfl
def zVL:cR Tryz.prog 26=2:=by kernel_rfl
def zVC:cS Tryz.prog 26=J 86:=by kernel_rfl
def zTp:dU Tryz.prog 26=aa:=by kernel_rfl
def zVA:kV Tryz.prog 26=J 2:=by kernel_rfl
def zWC:ez Tryz.prog 26=J (2,16,[.int .i64 0,.int .i64 0]):=by kernel_rfl
def zT1 :dZ Tryz.prog 26 i=0:=by kernel_rfl
def zWD:tk Tryz.prog 27=J (aa,1):=by kernel_rfl
def zWf:zr Tryz.prog 27=J [.sl Z 1 []]:=by kernel_rfl
def zVX:cR Tryz.prog 27=1:=by kernel_rfl
def zTK:cS Tryz.prog 27=J 3:=by kernel_rfl
def zTw:dU Tryz.prog 27=aa:=by kernel_rfl
def zUt:kV Tryz.prog 27=J 1:=by kernel_rfl
def zND:ez Tryz.prog 27=J (1,8,[.int .i64 0]):=by kernel_rfl
def zVr :dZ Tryz.prog 27 i=0:=by kernel_rfl
def zWR:tk Tryz.prog 31=J (Z,3):=by kernel_rfl
def zWO:zr Tryz.prog 31=J [.sl Z 1 [],.sl Z 1 [],.sl Z 1 []]:=by kernel_rfl
def zVd:cR Tryz.prog 31=0:=by kernel_rfl
def zTY:nl Tryz.prog 31=J (du Tryz.prog 31,[.sl Z 1 [],.sl Z 1 [],.sl Z 1 []]):=by kernel_rfl
def zQ0:du Tryz.prog 31 0=J (0,1):=by kernel_rfl
def zOG:dZ Tryz.prog 31 0=1:=by kernel_rfl
def zOp:du Tryz.prog 31 1=J (1,1):=by kernel_rfl
def zRa:dZ Tryz.prog 31 1=1:=by kernel_rfl
def zQZ:du Tryz.prog 31 2=J (2,1):=by kernel_rfl
def zRq:dZ Tryz.prog 31 2=1:=by kernel_rfl
def zWU:tk Tryz.prog 33=J (Z,5):=by kernel_rfl
def zWE:zr Tryz.prog 33=J [.sl Z 1 [],.sl Z 1 [],.sl Z 1 [],.sl Z 1 [],.sl Z 1 []]:=by kernel_rfl
def zTJ:cR Tryz.prog 33=0:=by kernel_rfl
def zVG:nl Tryz.prog 33=J (du Tryz.prog 33,[.sl Z 1 [],.sl Z 1 [],.sl Z 1 [],.sl Z 1 [],.sl Z 1 []]):=by kernel_rfl
def zQF:du Tryz.prog 33 0=J (0,1):=by kernel_rfl
def zOU:dZ Tryz.prog 33 0=1:=by kernel_rfl
def zPF:du Tryz.prog 33 1=J (1,1):=by kernel_rfl
def zOz:dZ Tryz.prog 33 1=1:=by kernel_rfl
def zPb:du Tryz.prog 33 2=J (2,3):=by kernel_rfl
def zQJ:dZ Tryz.prog 33 2=0:=by kernel_rfl
def zWd:tk Tryz.prog 35=J (Z,6):=by kernel_rfl
def zWu:zr Tryz.prog 35=J [.sl Z 1 [],.sl Z 1 [],.sl Z 1 [],.sl Z 1 [],.sl Z 1 [],.sl Z 1 []]:=by kernel_rfl
def zVE:cR Tryz.prog 35=0:=by kernel_rfl
def zTR:nl Tryz.prog 35=J (du Tryz.prog 35,[.sl Z 1 [],.sl Z 1 [],.sl Z 1 [],.sl Z 1 [],.sl Z 1 [],.sl Z 1 []]):=by kernel_rfl
def zPt:du Tryz.prog 35 0=J (0,1):=by kernel_rfl
def zRp:dZ Tryz.prog 35 0=1:=by kernel_rfl
def zQK:du Tryz.prog 35 1=J (1,1):=by kernel_rfl
def zPp:dZ Tryz.prog 35 1=1:=by kernel_rfl
def zP4:du Tryz.prog 35 2=J (2,1):=by kernel_rfl
def zPE:dZ Tryz.prog 35 2=1:=by kernel_rfl
def zQs:du Tryz.prog 35 3=J (3,3):=by kernel_rfl
def zPK:dZ Tryz.prog 35 3=0:=by kernel_rfl
def zWa:tk Tryz.prog 37=J (Z,13):=by kernel_rfl
def zV9:zr Tryz.prog 37=J [.int .i64 0,.sl Z 2 [],.sl Z 1 [],.sl Z 1 [],.sl Z 1 [],.sl Z 1 [],.sl Z 1 [],.sl Z 1 [],.sl Z 1 [],.sl Z 1 [],.sl Z 1 [],.sl Z 1 [],.sl Z 1 []]:=by kernel_rfl
def zUX:cR Tryz.prog 37=0:=by kernel_rfl
def zVS:nl Tryz.prog 37=J (du Tryz.prog 37,[.int .i64 0,.sl Z 2 [],.sl Z 1 [],.sl Z 1 [],.sl Z 1 [],.sl Z 1 [],.sl Z 1 [],.sl Z 1 [],.sl Z 1 [],.sl Z 1 [],.sl Z 1 [],.sl Z 1 [],.sl Z 1 []]):=by kernel_rfl
def zQo:du Tryz.prog 37 0=J (0,1):=by kernel_rfl
def zQt:dZ Tryz.prog 37 0=0:=by kernel_rfl
def zP2:du Tryz.prog 37 1=J (1,1):=by kernel_rfl
def zQr:dZ Tryz.prog 37 1=2:=by kernel_rfl
def zQa:du Tryz.prog 37 2=J (2,5):=by kernel_rfl
def zQQ:dZ Tryz.prog 37 2=0:=by kernel_rfl
def zOW:du Tryz.prog 37 3=J (7,6):=by kernel_rfl
def zPZ:dZ Tryz.prog 37 3=0:=by kernel_rfl
def zV6:tk Tryz.prog 49=J (aa,1):=by kernel_rfl
def zWx:zr Tryz.prog 49=J [.sl Z 1 []]:=by kernel_rfl
def zVy:cR Tryz.prog 49=1:=by kernel_rfl
def zVY:cS Tryz.prog 49=J 27:=by kernel_rfl
def zVv:dU Tryz.prog 49=aa:=by kernel_rfl
def zUW:kV Tryz.prog 49=J 1:=by kernel_rfl
def ZJ:ez Tryz.prog 49=J (1,24,[.sl aa 1 []]):=by kernel_rfl
def zTM :dZ Tryz.prog 49 i=1:=by kernel_rfl
def zWs:tk Tryz.prog 52=J (aa,1):=by kernel_rfl
def zWT:zr Tryz.prog 52=J [.sl Z 13 []]:=by kernel_rfl
def zVo:cR Tryz.prog 52=13:=by kernel_rfl
def zUw:cS Tryz.prog 52=J 37:=by kernel_rfl
def zU4:dU Tryz.prog 52=aa:=by kernel_rfl
def zT4:kV Tryz.prog 52=J 13:=by kernel_rfl
def zWg:ez Tryz.prog 52=J (13,296,[.int .i64 0,.sl aa 2 [],.sl aa 1 [],.sl aa 1 [],.sl aa 1 [],.sl aa 1 [],.sl aa 1 [],.sl aa 1 [],.sl aa 1 [],.sl aa 1 [],.sl aa 1 [],.sl aa 1 [],.sl aa 1 []]):=by kernel_rfl
def zVM :dZ Tryz.prog 52 i=0:=by kernel_rfl
def zWl:tk Tryz.prog 64=J (aa,1):=by kernel_rfl
def zWi:zr Tryz.prog 64=J [.fZ]:=by kernel_rfl
def zTW:cR Tryz.prog 64=0:=by kernel_rfl
def zWv:tk Tryz.prog 65=J (aa,1):=by kernel_rfl
def zWM:zr Tryz.prog 65=J [.int .u64 0]:=by kernel_rfl
def zUa:cR Tryz.prog 65=0:=by kernel_rfl
def zVZ:jG Tryz.prog 65=J .u64:=by kernel_rfl
def zVw:dU Tryz.prog 65=aa:=by kernel_rfl
def zWP:tk Tryz.prog 67=J (Z,3):=by kernel_rfl
def zWJ:zr Tryz.prog 67=J [.sl Z 1 [],.int .i64 0,.int .u64 0]:=by kernel_rfl
def zU5:cR Tryz.prog 67=0:=by kernel_rfl
def zTD:nl Tryz.prog 67=J (du Tryz.prog 67,[.sl Z 1 [],.int .i64 0,.int .u64 0]):=by kernel_rfl
def zQp:du Tryz.prog 67 0=J (0,1):=by kernel_rfl
def zQH:dZ Tryz.prog 67 0=1:=by kernel_rfl
def zOR:du Tryz.prog 67 1=J (1,1):=by kernel_rfl
def zQY:dZ Tryz.prog 67 1=0:=by kernel_rfl
def zPQ:du Tryz.prog 67 2=J (2,1):=by kernel_rfl
def zN7:dZ Tryz.prog 67 2=0:=by kernel_rfl
def zWK:tk Tryz.prog 70=J (Z,2):=by kernel_rfl
def zWz:zr Tryz.prog 70=J [.int .i64 0,.sl Z 1 []]:=by kernel_rfl
def zTG:cR Tryz.prog 70=0:=by kernel_rfl
def zUK:nl Tryz.prog 70=J (du Tryz.prog 70,[.int .i64 0,.sl Z 1 []]):=by kernel_rfl
def zPu:du Tryz.prog 70 0=J (0,1):=by kernel_rfl
def zPM:dZ Tryz.prog 70 0=0:=by kernel_rfl
def zO4:du Tryz.prog 70 1=J (1,1):=by kernel_rfl
def zPd:dZ Tryz.prog 70 1=1:=by kernel_rfl
def zWn:tk Tryz.prog 73=J (aa,1):=by kernel_rfl
def zWF:zr Tryz.prog 73=J [.fH]:=by kernel_rfl
def zUc:cR Tryz.prog 73=0:=by kernel_rfl
def zWc:tk Tryz.prog 86=J (Z,2):=by kernel_rfl
def zWe:zr Tryz.prog 86=J [.int .i64 0,.int .i64 0]:=by kernel_rfl
def zT8:cR Tryz.prog 86=0:=by kernel_rfl
def zT3:CI Tryz.prog 86=J [0,1]:=by kernel_rfl
def zTu:nl Tryz.prog 86=J (du Tryz.prog 86,[.int .i64 0,.int .i64 0]):=by kernel_rfl
def zN9:du Tryz.prog 86 0=J (0,1):=by kernel_rfl
def zN8:dZ Tryz.prog 86 0=0:=by kernel_rfl
def zOb:du Tryz.prog 86 1=J (1,1):=by kernel_rfl
def zOT:dZ Tryz.prog 86 1=0:=by kernel_rfl
def zVq:tk Tryz.prog 107=J (aa,1):=by kernel_rfl
def zVU:zr Tryz.prog 107=J [.fH]:=by kernel_rfl
def zTe:cR Tryz.prog 107=0:=by kernel_rfl
def zVz:tk Tryz.prog 128=J (aa,1):=by kernel_rfl
def zUu:zr Tryz.prog 128=J [.sl Z 1 []]:=by kernel_rfl
def zR2:cR Tryz.prog 128=1:=by kernel_rfl
def zTh:cS Tryz.prog 128=J 49:=by kernel_rfl
def zRP:dU Tryz.prog 128=aa:=by kernel_rfl
def zSV:kV Tryz.prog 128=J 1:=by kernel_rfl
def zVK:ez Tryz.prog 128=J (1,24,[.sl aa 1 []]):=by kernel_rfl
def zRX :dZ Tryz.prog 128 i=1:=by kernel_rfl
def zVj:tk Tryz.prog 130=J (aa,1):=by kernel_rfl
def zUI:zr Tryz.prog 130=J [.fZ]:=by kernel_rfl
def zTn:cR Tryz.prog 130=0:=by kernel_rfl
def zU8:tk Tryz.prog 132=J (Z,2):=by kernel_rfl
def zUs:zr Tryz.prog 132=J [.sl Z 1 [],.bool aa]:=by kernel_rfl
def zSc:cR Tryz.prog 132=0:=by kernel_rfl
def zSw:nl Tryz.prog 132=J (du Tryz.prog 132,[.sl Z 1 [],.bool aa]):=by kernel_rfl
def zLo:du Tryz.prog 132 0=J (0,1):=by kernel_rfl
def zMe:dZ Tryz.prog 132 0=1:=by kernel_rfl
def zNG:du Tryz.prog 132 1=J (1,1):=by kernel_rfl
def zLQ:dZ Tryz.prog 132 1=0:=by kernel_rfl
def zUH:tk Tryz.prog 147=J (aa,1):=by kernel_rfl
def zTB:zr Tryz.prog 147=J [.fZ]:=by kernel_rfl
def zR4:cR Tryz.prog 147=0:=by kernel_rfl
def zTH:tk Tryz.prog 149=J (Z,1):=by kernel_rfl
def zTx:zr Tryz.prog 149=J [.sl Z 1 []]:=by kernel_rfl
def zSZ:cR Tryz.prog 149=0:=by kernel_rfl
def zSK:nl Tryz.prog 149=J (du Tryz.prog 149,[.sl Z 1 []]):=by kernel_rfl
def zMc:du Tryz.prog 149 0=J (0,1):=by kernel_rfl
def zNt:dZ Tryz.prog 149 0=1:=by kernel_rfl
def zUh:tk Tryz.prog 164=J (Z,5):=by kernel_rfl
def zU7:zr Tryz.prog 164=J [.sl Z 1 [],.sl Z 1 [],.sl Z 1 [],.sl Z 1 [],.sl Z 1 []]:=by kernel_rfl
def zRx:cR Tryz.prog 164=0:=by kernel_rfl
def zSG:kV Tryz.prog 164=ae:=by kernel_rfl
def zS3:Kf Tryz.prog 164=J (5,1):=by kernel_rfl
def zSs :dZ Tryz.prog 164 i=1:=by kernel_rfl
def zSq:nl Tryz.prog 164=J (λi=>J (i*1,1),[.sl Z 1 [],.sl Z 1 [],.sl Z 1 [],.sl Z 1 [],.sl Z 1 []]):=by kernel_rfl
def zT9:tk Tryz.prog 173=J (aa,1):=by kernel_rfl
def zUn:zr Tryz.prog 173=J [.fH]:=by kernel_rfl
def zR1:cR Tryz.prog 173=0:=by kernel_rfl
def zTO:tk Tryz.prog 176=J (aa,1):=by kernel_rfl
def zVJ:zr Tryz.prog 176=J [.fH]:=by kernel_rfl
def zR3:cR Tryz.prog 176=0:=by kernel_rfl
def zTI:tk Tryz.prog 185=J (aa,1):=by kernel_rfl
def zUd:zr Tryz.prog 185=J [.int .u64 0]:=by kernel_rfl
def zSz:cR Tryz.prog 185=0:=by kernel_rfl
def zRz:jG Tryz.prog 185=J .u64:=by kernel_rfl
def zSd:dU Tryz.prog 185=aa:=by kernel_rfl
def zUF:tk Tryz.prog 212=J (aa,1):=by kernel_rfl
def zTr:zr Tryz.prog 212=J [.fZ]:=by kernel_rfl
def zS6:cR Tryz.prog 212=0:=by kernel_rfl
def zT7:tk Tryz.prog 214=J (Z,2):=by kernel_rfl
def zTy:zr Tryz.prog 214=J [.int .i64 0,.int .i64 0]:=by kernel_rfl
def zSM:cR Tryz.prog 214=0:=by kernel_rfl
def zSW:nl Tryz.prog 214=J (du Tryz.prog 214,[.int .i64 0,.int .i64 0]):=by kernel_rfl
def zMi:du Tryz.prog 214 0=J (0,1):=by kernel_rfl
def zNH:dZ Tryz.prog 214 0=0:=by kernel_rfl
def zKN:du Tryz.prog 214 1=J (1,1):=by kernel_rfl
def zKp:dZ Tryz.prog 214 1=0:=by kernel_rfl
attribute[go_sem]tk3 zr3 zWB zWk zWt tk4 zr4 zWr zV7 tk5 zr5 zWI zWo zV3 tk9 zr9 zWA zWj zV8 zWb zUv zWL zWS zVc zTT zUi zTv zTo zWm zU2 zWw zV0 zUB zUG zPs zQz zRm zQ3 zRg zPz zWH zWG zVL zVC zTp zVA zWC zT1 zWD zWf zVX zTK zTw zUt zND zVr zWR zWO zVd zTY zQ0 zOG zOp zRa zQZ zRq zWU zWE zTJ zVG zQF zOU zPF zOz zPb zQJ zWd zWu zVE zTR zPt zRp zQK zPp zP4 zPE zQs zPK zWa zV9 zUX zVS zQo zQt zP2 zQr zQa zQQ zOW zPZ zV6 zWx zVy zVY zVv zUW ZJ zTM zWs zWT zVo zUw zU4 zT4 zWg zVM zWl zWi zTW zWv zWM zUa zVZ zVw zWP zWJ zU5 zTD zQp zQH zOR zQY zPQ zN7 zWK zWz zTG zUK zPu zPM zO4 zPd zWn zWF zUc zWc zWe zT8 zT3 zTu zN9 zN8 zOb zOT zVq zVU zTe zVz zUu zR2 zTh zRP zSV zVK zRX zVj zUI zTn zU8 zUs zSc zSw zLo zMe zNG zLQ zUH zTB zR4 zTH zTx zSZ zSK zMc zNt zUh zU7 zRx zSG zS3 zSs zSq zT9 zUn zR1 zTO zVJ zR3 zTI zUd zSz zRz zSd zUF zTr zS6 zT7 zTy zSM zSW zMi zNH zKN zKp
def follows:Tryz.prog.follows .mixedOrders=Z:=by kernel_rfl
def cl3:ax Tryz.prog 3:=λargs w=>Tryz.Adq args w
def cl5:ax Tryz.prog 5:=λargs w=>Tryz.AiU args w
def cl6:ax Tryz.prog 6:=λargs w=>Tryz.Adg args w
def cl7:ax Tryz.prog 7:=λargs w=>Tryz.AcA args w
def cl8:ax Tryz.prog 8:=λargs w=>Tryz.Afx args w
def cl9:ax Tryz.prog 9:=λargs w=>Tryz.AcH args w
def zL4:ax Tryz.prog 10:=λargs w=>Tryz.AeB args w
def zLV:ax Tryz.prog 11:=λargs w=>Tryz.Af9 args w
def zNT:ax Tryz.prog 12:=λargs w=>Tryz.AhY args w
def zLG:ax Tryz.prog 13:=λargs w=>Tryz.AhT args w
def zNs:ax Tryz.prog 14:=λargs w=>Tryz.Agx args w
def zMl:ax Tryz.prog 15:=λargs w=>Tryz.AeY args w
def zMt:ax Tryz.prog 26:=λargs w=>Tryz.AeC args w
def zMO:ax Tryz.prog 27:=λargs w=>Tryz.AgK args w
def zNS:ax Tryz.prog 28:=λargs w=>Tryz.AgC args w
def zMB:ax Tryz.prog 29:=λargs w=>Tryz.AgD args w
def zLv:ax Tryz.prog 30:=λargs w=>Tryz.Adm args w
def zNq:ax Tryz.prog 31:=λargs w=>Tryz.AdS args w
def zMh:ax Tryz.prog 32:=λargs w=>Tryz.AiY args w
def zJS:ax Tryz.prog 33:=λargs w=>Tryz.AfU args w
def zNw:ax Tryz.prog 34:=λargs w=>Tryz.Aib args w
def zLk:ax Tryz.prog 35:=λargs w=>Tryz.Ahv args w
def zLn:ax Tryz.prog 36:=λargs w=>Tryz.Acs args w
def zMd:ax Tryz.prog 37:=λargs w=>Tryz.Ae8 args w
def zM2:ax Tryz.prog 38:=λargs w=>Tryz.AeW args w
def zL0:ax Tryz.prog 39:=λargs w=>Tryz.AhM args w
def zKg:ax Tryz.prog 40:=λargs w=>Tryz.Ac9 args w
def zMR:ax Tryz.prog 41:=λargs w=>Tryz.Af4 args w
def zLz:ax Tryz.prog 42:=λargs w=>Tryz.Ae3 args w
def zLe:ax Tryz.prog 43:=λargs w=>Tryz.AiN args w
def zML:ax Tryz.prog 44:=λargs w=>Tryz.Ahl args w
def zNr:ax Tryz.prog 45:=λargs w=>Tryz.Ac6 args w
def zNn:ax Tryz.prog 46:=λargs w=>Tryz.Afb args w
def zKA:ax Tryz.prog 47:=λargs w=>Tryz.AdY args w
def zJY:ax Tryz.prog 48:=λargs w=>Tryz.Afe args w
def Ws:ax Tryz.prog 49:=λargs w=>Tryz.Ad3 args w
def zMY:ax Tryz.prog 50:=λargs w=>Tryz.Aik args w
def zLM:ax Tryz.prog 51:=λargs w=>Tryz.AgP args w
def zJN:ax Tryz.prog 52:=λargs w=>Tryz.AdC args w
def zLq:ax Tryz.prog 53:=λargs w=>Tryz.Adx args w
def zLT:ax Tryz.prog 54:=λargs w=>Tryz.Ah8 args w
def zME:ax Tryz.prog 55:=λargs w=>Tryz.Af3 args w
def zK7:ax Tryz.prog 58:=λargs w=>Tryz.Ah1 args w
def zNM:ax Tryz.prog 59:=λargs w=>Tryz.AdZ args w
def zLj:ax Tryz.prog 61:=λargs w=>Tryz.AgN args w
def zLh:ax Tryz.prog 63:=λargs w=>Tryz.Ag1 args w
def zJ5:ax Tryz.prog 64:=λargs w=>Tryz.AgY args w
def zMG:ax Tryz.prog 65:=λargs w=>Tryz.AeM args w
def zJP:ax Tryz.prog 66:=λargs w=>Tryz.Adr args w
def zKX:ax Tryz.prog 67:=λargs w=>Tryz.AhQ args w
def Lm:ax Tryz.prog 69:=λargs w=>Tryz.AgJ args w
def zLU:ax Tryz.prog 70:=λargs w=>Tryz.AfR args w
def zNB:ax Tryz.prog 71:=λargs w=>Tryz.Afg args w
def zNz:ax Tryz.prog 72:=λargs w=>Tryz.Afl args w
def zDP:ax Tryz.prog 73:=λargs w=>Tryz.Aiq args w
def zNv:ax Tryz.prog 74:=λargs w=>Tryz.AdA args w
def zJJ:ax Tryz.prog 75:=λargs w=>Tryz.AeE args w
def zNF:ax Tryz.prog 76:=λargs w=>Tryz.AdM args w
def zMv:ax Tryz.prog 77:=λargs w=>Tryz.AcS args w
def zJV:ax Tryz.prog 78:=λargs w=>Tryz.AfV args w
def zMs:ax Tryz.prog 79:=λargs w=>Tryz.Ago args w
def zNU:ax Tryz.prog 80:=λargs w=>Tryz.AfA args w
def zMa:ax Tryz.prog 81:=λargs w=>Tryz.Adp args w
def zLS:ax Tryz.prog 82:=λargs w=>Tryz.AiA args w
def zNg:ax Tryz.prog 83:=λargs w=>Tryz.AiL args w
def zNC:ax Tryz.prog 84:=λargs w=>Tryz.Agf args w
def zKK:ax Tryz.prog 85:=λargs w=>Tryz.AhE args w
def zJK:ax Tryz.prog 86:=λargs w=>Tryz.Adl args w
def zNd:ax Tryz.prog 87:=λargs w=>Tryz.AcN args w
def zLl:ax Tryz.prog 88:=λargs w=>Tryz.Ac8 args w
def zMS:ax Tryz.prog 89:=λargs w=>Tryz.AcQ args w
def zKS:ax Tryz.prog 90:=λargs w=>Tryz.Acv args w
def zKm:ax Tryz.prog 91:=λargs w=>Tryz.Agt args w
def zLw:ax Tryz.prog 92:=λargs w=>Tryz.AhA args w
def zKs:ax Tryz.prog 93:=λargs w=>Tryz.AhH args w
def zJW:ax Tryz.prog 94:=λargs w=>Tryz.Aie args w
def zLA:ax Tryz.prog 95:=λargs w=>Tryz.AiQ args w
def zNf:ax Tryz.prog 96:=λargs w=>Tryz.Ahu args w
def zLB:ax Tryz.prog 97:=λargs w=>Tryz.Ahx args w
def zMz:ax Tryz.prog 98:=λargs w=>Tryz.Afj args w
def zLC:ax Tryz.prog 99:=λargs w=>Tryz.Adj args w
def zE2:ax Tryz.prog 100:=λargs w=>Tryz.AiM args w
def zEM:ax Tryz.prog 101:=λargs w=>Tryz.AfW args w
def zEs:ax Tryz.prog 102:=λargs w=>Tryz.AcM args w
def zGO:ax Tryz.prog 103:=λargs w=>Tryz.AgZ args w
def zFw:ax Tryz.prog 104:=λargs w=>Tryz.Ah0 args w
def zFv:ax Tryz.prog 105:=λargs w=>Tryz.AdL args w
def zF7:ax Tryz.prog 106:=λargs w=>Tryz.Ahk args w
def zFz:ax Tryz.prog 107:=λargs w=>Tryz.Aiv args w
def zFs:ax Tryz.prog 108:=λargs w=>Tryz.AgR args w
def zED:ax Tryz.prog 109:=λargs w=>Tryz.Adw args w
def zHX:ax Tryz.prog 110:=λargs w=>Tryz.Aix args w
def zGF:ax Tryz.prog 111:=λargs w=>Tryz.Ahm args w
def zGs:ax Tryz.prog 112:=λargs w=>Tryz.Ad5 args w
def zH5:ax Tryz.prog 113:=λargs w=>Tryz.AcT args w
def Lg:ax Tryz.prog 115:=λargs w=>Tryz.AdX args w
def Nm:ax Tryz.prog 116:=λargs w=>Tryz.Aif args w
def zGm:ax Tryz.prog 117:=λargs w=>Tryz.Agd args w
def zHa:ax Tryz.prog 118:=λargs w=>Tryz.AgQ args w
def zGp:ax Tryz.prog 119:=λargs w=>Tryz.Ac0 args w
def zG9:ax Tryz.prog 120:=λargs w=>Tryz.Agu args w
def zFL:ax Tryz.prog 121:=λargs w=>Tryz.AgG args w
def zGM:ax Tryz.prog 122:=λargs w=>Tryz.AcL args w
def zGn:ax Tryz.prog 123:=λargs w=>Tryz.AiI args w
def zHI:ax Tryz.prog 124:=λargs w=>Tryz.AdJ args w
def zHU:ax Tryz.prog 125:=λargs w=>Tryz.Aey args w
def zHl:ax Tryz.prog 126:=λargs w=>Tryz.AcV args w
def zHZ:ax Tryz.prog 127:=λargs w=>Tryz.Ah3 args w
def zFI:ax Tryz.prog 128:=λargs w=>Tryz.AgU args w
def zEQ:ax Tryz.prog 129:=λargs w=>Tryz.Ahs args w
def zGk:ax Tryz.prog 130:=λargs w=>Tryz.Aet args w
def zH4:ax Tryz.prog 131:=λargs w=>Tryz.AhJ args w
def zGA:ax Tryz.prog 132:=λargs w=>Tryz.Aex args w
def zH1:ax Tryz.prog 133:=λargs w=>Tryz.Ag5 args w
def zFF:ax Tryz.prog 134:=λargs w=>Tryz.Ahq args w
def zF6:ax Tryz.prog 135:=λargs w=>Tryz.Aep args w
def zEE:ax Tryz.prog 136:=λargs w=>Tryz.AhG args w
def zHA:ax Tryz.prog 137:=λargs w=>Tryz.Agm args w
def zH3:ax Tryz.prog 138:=λargs w=>Tryz.AfZ args w
def zGa:ax Tryz.prog 139:=λargs w=>Tryz.AeT args w
def zER:ax Tryz.prog 140:=λargs w=>Tryz.Afn args w
def zFK:ax Tryz.prog 141:=λargs w=>Tryz.AiJ args w
def zE7:ax Tryz.prog 142:=λargs w=>Tryz.Agv args w
def zGw:ax Tryz.prog 143:=λargs w=>Tryz.AeG args w
def zEB:ax Tryz.prog 144:=λargs w=>Tryz.Ah6 args w
def zEz:ax Tryz.prog 145:=λargs w=>Tryz.Ah9 args w
def zIk:ax Tryz.prog 146:=λargs w=>Tryz.AgB args w
def zGW:ax Tryz.prog 147:=λargs w=>Tryz.Ahp args w
def zFB:ax Tryz.prog 148:=λargs w=>Tryz.Ah7 args w
def zEq:ax Tryz.prog 149:=λargs w=>Tryz.AiB args w
def zFi:ax Tryz.prog 150:=λargs w=>Tryz.AhW args w
def zGZ:ax Tryz.prog 151:=λargs w=>Tryz.Aer args w
def zFH:ax Tryz.prog 152:=λargs w=>Tryz.AiX args w
def zHp:ax Tryz.prog 153:=λargs w=>Tryz.Afz args w
def zEY:ax Tryz.prog 154:=λargs w=>Tryz.Ahw args w
def zG4:ax Tryz.prog 155:=λargs w=>Tryz.AdO args w
def zGf:ax Tryz.prog 156:=λargs w=>Tryz.Ahe args w
def zFV:ax Tryz.prog 157:=λargs w=>Tryz.Aeg args w
def zGo:ax Tryz.prog 158:=λargs w=>Tryz.AdI args w
def zIj:ax Tryz.prog 159:=λargs w=>Tryz.Agz args w
def zGJ:ax Tryz.prog 160:=λargs w=>Tryz.Afc args w
def zEF:ax Tryz.prog 161:=λargs w=>Tryz.AhR args w
def zHw:ax Tryz.prog 162:=λargs w=>Tryz.Afs args w
def zEH:ax Tryz.prog 163:=λargs w=>Tryz.Ac7 args w
def zGg:ax Tryz.prog 164:=λargs w=>Tryz.AcU args w
def zHz:ax Tryz.prog 165:=λargs w=>Tryz.AeV args w
def zEt:ax Tryz.prog 166:=λargs w=>Tryz.AcJ args w
def zGe:ax Tryz.prog 167:=λargs w=>Tryz.AeS args w
def zG8:ax Tryz.prog 168:=λargs w=>Tryz.Adu args w
def zFl:ax Tryz.prog 169:=λargs w=>Tryz.Ad9 args w
def zIf:ax Tryz.prog 170:=λargs w=>Tryz.Adc args w
def zGj:ax Tryz.prog 171:=λargs w=>Tryz.Afh args w
def zGR:ax Tryz.prog 172:=λargs w=>Tryz.Aes args w
def zFt:ax Tryz.prog 173:=λargs w=>Tryz.Adb args w
def LG:ax Tryz.prog 174:=λargs w=>Tryz.Ae1 args w
def zGx:ax Tryz.prog 175:=λargs w=>Tryz.Agp args w
def zIg:ax Tryz.prog 176:=λargs w=>Tryz.Aii args w
def zIl:ax Tryz.prog 177:=λargs w=>Tryz.AdW args w
def zHc:ax Tryz.prog 178:=λargs w=>Tryz.Ahd args w
def zHQ:ax Tryz.prog 179:=λargs w=>Tryz.Ade args w
def zHo:ax Tryz.prog 180:=λargs w=>Tryz.AfP args w
def zFx:ax Tryz.prog 181:=λargs w=>Tryz.AdN args w
def zH2:ax Tryz.prog 182:=λargs w=>Tryz.Aec args w
def zE9:ax Tryz.prog 183:=λargs w=>Tryz.Ain args w
def zFZ:ax Tryz.prog 184:=λargs w=>Tryz.AiR args w
def zGQ:ax Tryz.prog 185:=λargs w=>Tryz.Aen args w
def zEv:ax Tryz.prog 186:=λargs w=>Tryz.Ah4 args w
def zGi:ax Tryz.prog 187:=λargs w=>Tryz.AcK args w
def zHK:ax Tryz.prog 188:=λargs w=>Tryz.AdT args w
def zGB:ax Tryz.prog 189:=λargs w=>Tryz.AeN args w
def zE8:ax Tryz.prog 190:=λargs w=>Tryz.Ae5 args w
def zHn:ax Tryz.prog 191:=λargs w=>Tryz.AhC args w
def zHN:ax Tryz.prog 192:=λargs w=>Tryz.Agi args w
def zEr:ax Tryz.prog 193:=λargs w=>Tryz.AdE args w
def zGz:ax Tryz.prog 194:=λargs w=>Tryz.Ahn args w
def zE0:ax Tryz.prog 195:=λargs w=>Tryz.AgT args w
def zGS:ax Tryz.prog 196:=λargs w=>Tryz.AhK args w
def zHv:ax Tryz.prog 197:=λargs w=>Tryz.Ag9 args w
def zEJ:ax Tryz.prog 198:=λargs w=>Tryz.AhL args w
def zHL:ax Tryz.prog 199:=λargs w=>Tryz.AfL args w
def zHs:ax Tryz.prog 200:=λargs w=>Tryz.Aff args w
def zEL:ax Tryz.prog 201:=λargs w=>Tryz.Agr args w
def zFb:ax Tryz.prog 202:=λargs w=>Tryz.Aew args w
def zFD:ax Tryz.prog 203:=λargs w=>Tryz.Adk args w
def zF0:ax Tryz.prog 204:=λargs w=>Tryz.Afi args w
def zFk:ax Tryz.prog 205:=λargs w=>Tryz.Afk args w
def zHY:ax Tryz.prog 206:=λargs w=>Tryz.Afw args w
def zE5:ax Tryz.prog 207:=λargs w=>Tryz.AcW args w
def zHt:ax Tryz.prog 208:=λargs w=>Tryz.Ad0 args w
def zHq:ax Tryz.prog 209:=λargs w=>Tryz.Acr args w
def zF2:ax Tryz.prog 210:=λargs w=>Tryz.Ag4 args w
def zGI:ax Tryz.prog 211:=λargs w=>Tryz.Aij args w
def zHk:ax Tryz.prog 212:=λargs w=>Tryz.Ag7 args w
def zFo:ax Tryz.prog 213:=λargs w=>Tryz.Ac1 args w
def zH8:ax Tryz.prog 214:=λargs w=>Tryz.AiH args w
def zGH:ax Tryz.prog 215:=λargs w=>Tryz.Ad2 args w
def zFO:ax Tryz.prog 216:=λargs w=>Tryz.AdU args w
def zIa:ax Tryz.prog 217:=λargs w=>Tryz.AiK args w
def zHW:ax Tryz.prog 218:=λargs w=>Tryz.AiZ args w
end Go.Pm
