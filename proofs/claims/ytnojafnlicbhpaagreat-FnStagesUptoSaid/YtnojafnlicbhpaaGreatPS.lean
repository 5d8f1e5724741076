import Derived.Test.YtnojafnlicbhpaaGreatPmW
import Derived.Test.YtnojafnlicbhpaaGreatProg
import Derived.KernelRfl
open Bool renaming false→aa,true→Z
open Option renaming none→ae,some→J
set_option linter.defProp false
namespace Go.Pm
open Go.Am
open Go.Proofs
set_option maxRecDepth 100000
variable{i:Nat}
def tk3:tk Tryz.prog 3=J (aa,1):=by kernel_rfl
def zr3:zr Tryz.prog 3=J [.int .i64 0]:=by kernel_rfl
def zWz:cS Tryz.prog 3=0:=by kernel_rfl
def zWO:jW Tryz.prog 3=J .i64:=by kernel_rfl
def zWh:dW Tryz.prog 3=aa:=by kernel_rfl
def tk4:tk Tryz.prog 4=J (aa,1):=by kernel_rfl
def zr4:zr Tryz.prog 4=J [.bool aa]:=by kernel_rfl
def zWo:cS Tryz.prog 4=0:=by kernel_rfl
def zWB:ET Tryz.prog 4=Z:=by kernel_rfl
def tk5:tk Tryz.prog 5=J (aa,1):=by kernel_rfl
def zr5:zr Tryz.prog 5=J [.int .u8 0]:=by kernel_rfl
def zV5:cS Tryz.prog 5=0:=by kernel_rfl
def zWT:jW Tryz.prog 5=J .u8:=by kernel_rfl
def zV8:dW Tryz.prog 5=aa:=by kernel_rfl
def tk9:tk Tryz.prog 9=J (aa,1):=by kernel_rfl
def zr9:zr Tryz.prog 9=J [.str ⟨#[]⟩]:=by kernel_rfl
def zWG:cS Tryz.prog 9=0:=by kernel_rfl
def zWN:dW Tryz.prog 9=Z:=by kernel_rfl
def zWL:tk Tryz.prog 20=J (aa,1):=by kernel_rfl
def zWH:zr Tryz.prog 20=J [.gO]:=by kernel_rfl
def zTK:cS Tryz.prog 20=0:=by kernel_rfl
def zV0:tk Tryz.prog 22=J (aa,1):=by kernel_rfl
def zWM:zr Tryz.prog 22=J [.sl Z 1 []]:=by kernel_rfl
def zU6:cS Tryz.prog 22=1:=by kernel_rfl
def zVg:cR Tryz.prog 22=J 5:=by kernel_rfl
def zUz:dW Tryz.prog 22=aa:=by kernel_rfl
def zTM:lX Tryz.prog 22=J 1:=by kernel_rfl
def zU5:sM Tryz.prog 22=Z:=by kernel_rfl
def zV9:ez Tryz.prog 22=J (1,1,[.int .u8 0]):=by kernel_rfl
def zTT :d6 Tryz.prog 22 i=0:=by kernel_rfl
def zWa:tk Tryz.prog 25=J (Z,3):=by kernel_rfl
def zWd:zr Tryz.prog 25=J [.int .i64 0,.int .i64 0,.int .i64 0]:=by kernel_rfl
def zU8:cS Tryz.prog 25=0:=by kernel_rfl
def zTD:nq Tryz.prog 25=J (du Tryz.prog 25,[.int .i64 0,.int .i64 0,.int .i64 0]):=by kernel_rfl
def zPy:du Tryz.prog 25 0=J (0,1):=by kernel_rfl
def zP3:d6 Tryz.prog 25 0=0:=by kernel_rfl
def zOr:du Tryz.prog 25 1=J (1,1):=by kernel_rfl
def zPF:d6 Tryz.prog 25 1=0:=by kernel_rfl
def zQj:du Tryz.prog 25 2=J (2,1):=by kernel_rfl
def zPw:d6 Tryz.prog 25 2=0:=by kernel_rfl
def zWx:tk Tryz.prog 26=J (aa,1):=by kernel_rfl
def zV2:zr Tryz.prog 26=J [.sl Z 2 []]:=by kernel_rfl
def zVb:cS Tryz.prog 26=2:=by kernel_rfl
def zVY:cR Tryz.prog 26=J 86:=by kernel_rfl
def zVs:dW Tryz.prog 26=aa:=by kernel_rfl
def zTY:lX Tryz.prog 26=J 2:=by kernel_rfl
def zWQ:ez Tryz.prog 26=J (2,16,[.int .i64 0,.int .i64 0]):=by kernel_rfl
def zTA :d6 Tryz.prog 26 i=0:=by kernel_rfl
def zWp:tk Tryz.prog 27=J (aa,1):=by kernel_rfl
def zWm:zr Tryz.prog 27=J [.sl Z 1 []]:=by kernel_rfl
def zUH:cS Tryz.prog 27=1:=by kernel_rfl
def zUe:cR Tryz.prog 27=J 3:=by kernel_rfl
def zUm:dW Tryz.prog 27=aa:=by kernel_rfl
def zVh:lX Tryz.prog 27=J 1:=by kernel_rfl
def zMQ:ez Tryz.prog 27=J (1,8,[.int .i64 0]):=by kernel_rfl
def zTV :d6 Tryz.prog 27 i=0:=by kernel_rfl
def zV4:tk Tryz.prog 31=J (Z,3):=by kernel_rfl
def zWD:zr Tryz.prog 31=J [.sl Z 1 [],.sl Z 1 [],.sl Z 1 []]:=by kernel_rfl
def zUY:cS Tryz.prog 31=0:=by kernel_rfl
def zTB:nq Tryz.prog 31=J (du Tryz.prog 31,[.sl Z 1 [],.sl Z 1 [],.sl Z 1 []]):=by kernel_rfl
def zO6:du Tryz.prog 31 0=J (0,1):=by kernel_rfl
def zQp:d6 Tryz.prog 31 0=1:=by kernel_rfl
def zPa:du Tryz.prog 31 1=J (1,1):=by kernel_rfl
def zQc:d6 Tryz.prog 31 1=1:=by kernel_rfl
def zOY:du Tryz.prog 31 2=J (2,1):=by kernel_rfl
def zQU:d6 Tryz.prog 31 2=1:=by kernel_rfl
def zWc:tk Tryz.prog 33=J (Z,5):=by kernel_rfl
def zWf:zr Tryz.prog 33=J [.sl Z 1 [],.sl Z 1 [],.sl Z 1 [],.sl Z 1 [],.sl Z 1 []]:=by kernel_rfl
def zUi:cS Tryz.prog 33=0:=by kernel_rfl
def zVq:nq Tryz.prog 33=J (du Tryz.prog 33,[.sl Z 1 [],.sl Z 1 [],.sl Z 1 [],.sl Z 1 [],.sl Z 1 []]):=by kernel_rfl
def zPL:du Tryz.prog 33 0=J (0,1):=by kernel_rfl
def zOj:d6 Tryz.prog 33 0=1:=by kernel_rfl
def zPu:du Tryz.prog 33 1=J (1,1):=by kernel_rfl
def zPW:d6 Tryz.prog 33 1=1:=by kernel_rfl
def zQS:du Tryz.prog 33 2=J (2,3):=by kernel_rfl
def zOl:d6 Tryz.prog 33 2=0:=by kernel_rfl
def zWI:tk Tryz.prog 35=J (Z,6):=by kernel_rfl
def zWK:zr Tryz.prog 35=J [.sl Z 1 [],.sl Z 1 [],.sl Z 1 [],.sl Z 1 [],.sl Z 1 [],.sl Z 1 []]:=by kernel_rfl
def zUT:cS Tryz.prog 35=0:=by kernel_rfl
def zUx:nq Tryz.prog 35=J (du Tryz.prog 35,[.sl Z 1 [],.sl Z 1 [],.sl Z 1 [],.sl Z 1 [],.sl Z 1 [],.sl Z 1 []]):=by kernel_rfl
def zPS:du Tryz.prog 35 0=J (0,1):=by kernel_rfl
def zOD:d6 Tryz.prog 35 0=1:=by kernel_rfl
def zP0:du Tryz.prog 35 1=J (1,1):=by kernel_rfl
def zOF:d6 Tryz.prog 35 1=1:=by kernel_rfl
def zQX:du Tryz.prog 35 2=J (2,1):=by kernel_rfl
def zPl:d6 Tryz.prog 35 2=1:=by kernel_rfl
def zQR:du Tryz.prog 35 3=J (3,3):=by kernel_rfl
def zQK:d6 Tryz.prog 35 3=0:=by kernel_rfl
def zWP:tk Tryz.prog 37=J (Z,13):=by kernel_rfl
def zWi:zr Tryz.prog 37=J [.int .i64 0,.sl Z 2 [],.sl Z 1 [],.sl Z 1 [],.sl Z 1 [],.sl Z 1 [],.sl Z 1 [],.sl Z 1 [],.sl Z 1 [],.sl Z 1 [],.sl Z 1 [],.sl Z 1 [],.sl Z 1 []]:=by kernel_rfl
def zVk:cS Tryz.prog 37=0:=by kernel_rfl
def zVD:nq Tryz.prog 37=J (du Tryz.prog 37,[.int .i64 0,.sl Z 2 [],.sl Z 1 [],.sl Z 1 [],.sl Z 1 [],.sl Z 1 [],.sl Z 1 [],.sl Z 1 [],.sl Z 1 [],.sl Z 1 [],.sl Z 1 [],.sl Z 1 [],.sl Z 1 []]):=by kernel_rfl
def zOL:du Tryz.prog 37 0=J (0,1):=by kernel_rfl
def zPj:d6 Tryz.prog 37 0=0:=by kernel_rfl
def zPc:du Tryz.prog 37 1=J (1,1):=by kernel_rfl
def zOs:d6 Tryz.prog 37 1=2:=by kernel_rfl
def zOA:du Tryz.prog 37 2=J (2,5):=by kernel_rfl
def zQq:d6 Tryz.prog 37 2=0:=by kernel_rfl
def zRg:du Tryz.prog 37 3=J (7,6):=by kernel_rfl
def zQm:d6 Tryz.prog 37 3=0:=by kernel_rfl
def zWb:tk Tryz.prog 49=J (aa,1):=by kernel_rfl
def zWj:zr Tryz.prog 49=J [.sl Z 1 []]:=by kernel_rfl
def zT8:cS Tryz.prog 49=1:=by kernel_rfl
def zTX:cR Tryz.prog 49=J 27:=by kernel_rfl
def zVP:dW Tryz.prog 49=aa:=by kernel_rfl
def zUX:lX Tryz.prog 49=J 1:=by kernel_rfl
def zCl:ez Tryz.prog 49=J (1,24,[.sl aa 1 []]):=by kernel_rfl
def zUa :d6 Tryz.prog 49 i=1:=by kernel_rfl
def zWv:tk Tryz.prog 52=J (aa,1):=by kernel_rfl
def zWs:zr Tryz.prog 52=J [.sl Z 13 []]:=by kernel_rfl
def zVi:cS Tryz.prog 52=13:=by kernel_rfl
def zUp:cR Tryz.prog 52=J 37:=by kernel_rfl
def zTo:dW Tryz.prog 52=aa:=by kernel_rfl
def zTW:lX Tryz.prog 52=J 13:=by kernel_rfl
def zWr:ez Tryz.prog 52=J (13,296,[.int .i64 0,.sl aa 2 [],.sl aa 1 [],.sl aa 1 [],.sl aa 1 [],.sl aa 1 [],.sl aa 1 [],.sl aa 1 [],.sl aa 1 [],.sl aa 1 [],.sl aa 1 [],.sl aa 1 [],.sl aa 1 []]):=by kernel_rfl
def zU4 :d6 Tryz.prog 52 i=0:=by kernel_rfl
def zWR:tk Tryz.prog 64=J (aa,1):=by kernel_rfl
def zWe:zr Tryz.prog 64=J [.fX]:=by kernel_rfl
def zVa:cS Tryz.prog 64=0:=by kernel_rfl
def zWt:tk Tryz.prog 65=J (aa,1):=by kernel_rfl
def zWC:zr Tryz.prog 65=J [.int .u64 0]:=by kernel_rfl
def zVW:cS Tryz.prog 65=0:=by kernel_rfl
def zVx:jW Tryz.prog 65=J .u64:=by kernel_rfl
def zTF:dW Tryz.prog 65=aa:=by kernel_rfl
def zWu:tk Tryz.prog 67=J (Z,3):=by kernel_rfl
def zV3:zr Tryz.prog 67=J [.sl Z 1 [],.int .i64 0,.int .u64 0]:=by kernel_rfl
def zUV:cS Tryz.prog 67=0:=by kernel_rfl
def zTq:nq Tryz.prog 67=J (du Tryz.prog 67,[.sl Z 1 [],.int .i64 0,.int .u64 0]):=by kernel_rfl
def zPo:du Tryz.prog 67 0=J (0,1):=by kernel_rfl
def zPt:d6 Tryz.prog 67 0=1:=by kernel_rfl
def zOv:du Tryz.prog 67 1=J (1,1):=by kernel_rfl
def zRj:d6 Tryz.prog 67 1=0:=by kernel_rfl
def zQn:du Tryz.prog 67 2=J (2,1):=by kernel_rfl
def zN7:d6 Tryz.prog 67 2=0:=by kernel_rfl
def zWA:tk Tryz.prog 70=J (Z,2):=by kernel_rfl
def zWU:zr Tryz.prog 70=J [.int .i64 0,.sl Z 1 []]:=by kernel_rfl
def zUK:cS Tryz.prog 70=0:=by kernel_rfl
def zTt:nq Tryz.prog 70=J (du Tryz.prog 70,[.int .i64 0,.sl Z 1 []]):=by kernel_rfl
def zRm:du Tryz.prog 70 0=J (0,1):=by kernel_rfl
def zOP:d6 Tryz.prog 70 0=0:=by kernel_rfl
def zPT:du Tryz.prog 70 1=J (1,1):=by kernel_rfl
def zOm:d6 Tryz.prog 70 1=1:=by kernel_rfl
def zWw:tk Tryz.prog 73=J (aa,1):=by kernel_rfl
def zWg:zr Tryz.prog 73=J [.fD]:=by kernel_rfl
def zUl:cS Tryz.prog 73=0:=by kernel_rfl
def zWl:tk Tryz.prog 86=J (Z,2):=by kernel_rfl
def zWJ:zr Tryz.prog 86=J [.int .i64 0,.int .i64 0]:=by kernel_rfl
def zVt:cS Tryz.prog 86=0:=by kernel_rfl
def zTU:Be Tryz.prog 86=J [0,1]:=by kernel_rfl
def zVG:nq Tryz.prog 86=J (du Tryz.prog 86,[.int .i64 0,.int .i64 0]):=by kernel_rfl
def zOS:du Tryz.prog 86 0=J (0,1):=by kernel_rfl
def zRa:d6 Tryz.prog 86 0=0:=by kernel_rfl
def zQ7:du Tryz.prog 86 1=J (1,1):=by kernel_rfl
def zOW:d6 Tryz.prog 86 1=0:=by kernel_rfl
def zUw:tk Tryz.prog 107=J (aa,1):=by kernel_rfl
def zU9:zr Tryz.prog 107=J [.fD]:=by kernel_rfl
def zSP:cS Tryz.prog 107=0:=by kernel_rfl
def zTO:tk Tryz.prog 128=J (aa,1):=by kernel_rfl
def zUU:zr Tryz.prog 128=J [.sl Z 1 []]:=by kernel_rfl
def zS5:cS Tryz.prog 128=1:=by kernel_rfl
def zSi:cR Tryz.prog 128=J 49:=by kernel_rfl
def zS9:dW Tryz.prog 128=aa:=by kernel_rfl
def zSZ:lX Tryz.prog 128=J 1:=by kernel_rfl
def zTw:ez Tryz.prog 128=J (1,24,[.sl aa 1 []]):=by kernel_rfl
def zTl :d6 Tryz.prog 128 i=1:=by kernel_rfl
def zUh:tk Tryz.prog 130=J (aa,1):=by kernel_rfl
def zVj:zr Tryz.prog 130=J [.fX]:=by kernel_rfl
def zSC:cS Tryz.prog 130=0:=by kernel_rfl
def zVy:tk Tryz.prog 132=J (Z,2):=by kernel_rfl
def zVN:zr Tryz.prog 132=J [.sl Z 1 [],.bool aa]:=by kernel_rfl
def zSf:cS Tryz.prog 132=0:=by kernel_rfl
def zRG:nq Tryz.prog 132=J (du Tryz.prog 132,[.sl Z 1 [],.bool aa]):=by kernel_rfl
def zKs:du Tryz.prog 132 0=J (0,1):=by kernel_rfl
def zLA:d6 Tryz.prog 132 0=1:=by kernel_rfl
def zNH:du Tryz.prog 132 1=J (1,1):=by kernel_rfl
def zLG:d6 Tryz.prog 132 1=0:=by kernel_rfl
def zUj:tk Tryz.prog 147=J (aa,1):=by kernel_rfl
def zVe:zr Tryz.prog 147=J [.fX]:=by kernel_rfl
def zRX:cS Tryz.prog 147=0:=by kernel_rfl
def zUo:tk Tryz.prog 149=J (Z,1):=by kernel_rfl
def zTP:zr Tryz.prog 149=J [.sl Z 1 []]:=by kernel_rfl
def zRO:cS Tryz.prog 149=0:=by kernel_rfl
def zSh:nq Tryz.prog 149=J (du Tryz.prog 149,[.sl Z 1 []]):=by kernel_rfl
def zKJ:du Tryz.prog 149 0=J (0,1):=by kernel_rfl
def zMv:d6 Tryz.prog 149 0=1:=by kernel_rfl
def zTJ:tk Tryz.prog 164=J (Z,5):=by kernel_rfl
def zTr:zr Tryz.prog 164=J [.sl Z 1 [],.sl Z 1 [],.sl Z 1 [],.sl Z 1 [],.sl Z 1 []]:=by kernel_rfl
def zTm:cS Tryz.prog 164=0:=by kernel_rfl
def zSa:lX Tryz.prog 164=ae:=by kernel_rfl
def zSK:IP Tryz.prog 164=J (5,1):=by kernel_rfl
def zRU :d6 Tryz.prog 164 i=1:=by kernel_rfl
def zS2:nq Tryz.prog 164=J (λi=>J (i*1,1),[.sl Z 1 [],.sl Z 1 [],.sl Z 1 [],.sl Z 1 [],.sl Z 1 []]):=by kernel_rfl
def zVM:tk Tryz.prog 173=J (aa,1):=by kernel_rfl
def zTv:zr Tryz.prog 173=J [.fD]:=by kernel_rfl
def zR0:cS Tryz.prog 173=0:=by kernel_rfl
def zUu:tk Tryz.prog 176=J (aa,1):=by kernel_rfl
def zVS:zr Tryz.prog 176=J [.fD]:=by kernel_rfl
def zRE:cS Tryz.prog 176=0:=by kernel_rfl
def zU7:tk Tryz.prog 185=J (aa,1):=by kernel_rfl
def zU2:zr Tryz.prog 185=J [.int .u64 0]:=by kernel_rfl
def zRQ:cS Tryz.prog 185=0:=by kernel_rfl
def zSo:jW Tryz.prog 185=J .u64:=by kernel_rfl
def zS4:dW Tryz.prog 185=aa:=by kernel_rfl
def zUW:tk Tryz.prog 212=J (aa,1):=by kernel_rfl
def zT7:zr Tryz.prog 212=J [.fX]:=by kernel_rfl
def zSc:cS Tryz.prog 212=0:=by kernel_rfl
def zUM:tk Tryz.prog 214=J (Z,2):=by kernel_rfl
def zVH:zr Tryz.prog 214=J [.int .i64 0,.int .i64 0]:=by kernel_rfl
def zSQ:cS Tryz.prog 214=0:=by kernel_rfl
def zSJ:nq Tryz.prog 214=J (du Tryz.prog 214,[.int .i64 0,.int .i64 0]):=by kernel_rfl
def zMI:du Tryz.prog 214 0=J (0,1):=by kernel_rfl
def zLS:d6 Tryz.prog 214 0=0:=by kernel_rfl
def zLy:du Tryz.prog 214 1=J (1,1):=by kernel_rfl
def zJU:d6 Tryz.prog 214 1=0:=by kernel_rfl
attribute[go_sem]tk3 zr3 zWz zWO zWh tk4 zr4 zWo zWB tk5 zr5 zV5 zWT zV8 tk9 zr9 zWG zWN zWL zWH zTK zV0 zWM zU6 zVg zUz zTM zU5 zV9 zTT zWa zWd zU8 zTD zPy zP3 zOr zPF zQj zPw zWx zV2 zVb zVY zVs zTY zWQ zTA zWp zWm zUH zUe zUm zVh zMQ zTV zV4 zWD zUY zTB zO6 zQp zPa zQc zOY zQU zWc zWf zUi zVq zPL zOj zPu zPW zQS zOl zWI zWK zUT zUx zPS zOD zP0 zOF zQX zPl zQR zQK zWP zWi zVk zVD zOL zPj zPc zOs zOA zQq zRg zQm zWb zWj zT8 zTX zVP zUX zCl zUa zWv zWs zVi zUp zTo zTW zWr zU4 zWR zWe zVa zWt zWC zVW zVx zTF zWu zV3 zUV zTq zPo zPt zOv zRj zQn zN7 zWA zWU zUK zTt zRm zOP zPT zOm zWw zWg zUl zWl zWJ zVt zTU zVG zOS zRa zQ7 zOW zUw zU9 zSP zTO zUU zS5 zSi zS9 zSZ zTw zTl zUh zVj zSC zVy zVN zSf zRG zKs zLA zNH zLG zUj zVe zRX zUo zTP zRO zSh zKJ zMv zTJ zTr zTm zSa zSK zRU zS2 zVM zTv zR0 zUu zVS zRE zU7 zU2 zRQ zSo zS4 zUW zT7 zSc zUM zVH zSQ zSJ zMI zLS zLy zJU
def follows:Tryz.prog.follows .mixedOrders=Z:=by kernel_rfl
def cl3:ax Tryz.prog 3:=λargs w=>Tryz.call3 args w
def cl5:ax Tryz.prog 5:=λargs w=>Tryz.call5 args w
def cl6:ax Tryz.prog 6:=λargs w=>Tryz.call6 args w
def cl7:ax Tryz.prog 7:=λargs w=>Tryz.call7 args w
def cl8:ax Tryz.prog 8:=λargs w=>Tryz.call8 args w
def cl9:ax Tryz.prog 9:=λargs w=>Tryz.call9 args w
def zKp:ax Tryz.prog 10:=λargs w=>Tryz.call10 args w
def zK8:ax Tryz.prog 11:=λargs w=>Tryz.call11 args w
def zNu:ax Tryz.prog 12:=λargs w=>Tryz.call12 args w
def zJ7:ax Tryz.prog 13:=λargs w=>Tryz.call13 args w
def zJT:ax Tryz.prog 14:=λargs w=>Tryz.call14 args w
def zKE:ax Tryz.prog 15:=λargs w=>Tryz.call15 args w
def zMi:ax Tryz.prog 26:=λargs w=>Tryz.call26 args w
def zKd:ax Tryz.prog 27:=λargs w=>Tryz.call27 args w
def zN5:ax Tryz.prog 28:=λargs w=>Tryz.call28 args w
def zNj:ax Tryz.prog 29:=λargs w=>Tryz.call29 args w
def zMm:ax Tryz.prog 30:=λargs w=>Tryz.call30 args w
def zMx:ax Tryz.prog 31:=λargs w=>Tryz.call31 args w
def zMA:ax Tryz.prog 32:=λargs w=>Tryz.call32 args w
def zN4:ax Tryz.prog 33:=λargs w=>Tryz.call33 args w
def zNA:ax Tryz.prog 34:=λargs w=>Tryz.call34 args w
def zNw:ax Tryz.prog 35:=λargs w=>Tryz.call35 args w
def zNp:ax Tryz.prog 36:=λargs w=>Tryz.call36 args w
def zLD:ax Tryz.prog 37:=λargs w=>Tryz.call37 args w
def zML:ax Tryz.prog 38:=λargs w=>Tryz.call38 args w
def zJQ:ax Tryz.prog 39:=λargs w=>Tryz.call39 args w
def zK1:ax Tryz.prog 40:=λargs w=>Tryz.call40 args w
def zK7:ax Tryz.prog 41:=λargs w=>Tryz.call41 args w
def zNK:ax Tryz.prog 42:=λargs w=>Tryz.call42 args w
def zKI:ax Tryz.prog 43:=λargs w=>Tryz.call43 args w
def zM6:ax Tryz.prog 44:=λargs w=>Tryz.call44 args w
def zLm:ax Tryz.prog 45:=λargs w=>Tryz.call45 args w
def zN0:ax Tryz.prog 46:=λargs w=>Tryz.call46 args w
def zKa:ax Tryz.prog 47:=λargs w=>Tryz.call47 args w
def zM1:ax Tryz.prog 48:=λargs w=>Tryz.call48 args w
def Z6:ax Tryz.prog 49:=λargs w=>Tryz.call49 args w
def zMd:ax Tryz.prog 50:=λargs w=>Tryz.call50 args w
def zL3:ax Tryz.prog 51:=λargs w=>Tryz.call51 args w
def zMo:ax Tryz.prog 52:=λargs w=>Tryz.call52 args w
def zKg:ax Tryz.prog 53:=λargs w=>Tryz.call53 args w
def zKf:ax Tryz.prog 54:=λargs w=>Tryz.call54 args w
def zNI:ax Tryz.prog 55:=λargs w=>Tryz.call55 args w
def zJ0:ax Tryz.prog 58:=λargs w=>Tryz.call58 args w
def zMe:ax Tryz.prog 59:=λargs w=>Tryz.call59 args w
def zNi:ax Tryz.prog 61:=λargs w=>Tryz.call61 args w
def zNn:ax Tryz.prog 63:=λargs w=>Tryz.call63 args w
def zMn:ax Tryz.prog 64:=λargs w=>Tryz.call64 args w
def zKb:ax Tryz.prog 65:=λargs w=>Tryz.call65 args w
def zNk:ax Tryz.prog 66:=λargs w=>Tryz.call66 args w
def zKi:ax Tryz.prog 67:=λargs w=>Tryz.call67 args w
def MU:ax Tryz.prog 69:=λargs w=>Tryz.call69 args w
def zNW:ax Tryz.prog 70:=λargs w=>Tryz.call70 args w
def zJV:ax Tryz.prog 71:=λargs w=>Tryz.call71 args w
def zLI:ax Tryz.prog 72:=λargs w=>Tryz.call72 args w
def zDQ:ax Tryz.prog 73:=λargs w=>Tryz.call73 args w
def zNF:ax Tryz.prog 74:=λargs w=>Tryz.call74 args w
def zNP:ax Tryz.prog 75:=λargs w=>Tryz.call75 args w
def zL8:ax Tryz.prog 76:=λargs w=>Tryz.call76 args w
def zMP:ax Tryz.prog 77:=λargs w=>Tryz.call77 args w
def zL1:ax Tryz.prog 78:=λargs w=>Tryz.call78 args w
def zJR:ax Tryz.prog 79:=λargs w=>Tryz.call79 args w
def zLh:ax Tryz.prog 80:=λargs w=>Tryz.call80 args w
def zKU:ax Tryz.prog 81:=λargs w=>Tryz.call81 args w
def zMZ:ax Tryz.prog 82:=λargs w=>Tryz.call82 args w
def zKm:ax Tryz.prog 83:=λargs w=>Tryz.call83 args w
def zLF:ax Tryz.prog 84:=λargs w=>Tryz.call84 args w
def zK3:ax Tryz.prog 85:=λargs w=>Tryz.call85 args w
def zLu:ax Tryz.prog 86:=λargs w=>Tryz.call86 args w
def zMO:ax Tryz.prog 87:=λargs w=>Tryz.call87 args w
def zNd:ax Tryz.prog 88:=λargs w=>Tryz.call88 args w
def zK6:ax Tryz.prog 89:=λargs w=>Tryz.call89 args w
def zKY:ax Tryz.prog 90:=λargs w=>Tryz.call90 args w
def zLt:ax Tryz.prog 91:=λargs w=>Tryz.call91 args w
def zMU:ax Tryz.prog 92:=λargs w=>Tryz.call92 args w
def zLp:ax Tryz.prog 93:=λargs w=>Tryz.call93 args w
def zLb:ax Tryz.prog 94:=λargs w=>Tryz.call94 args w
def zNs:ax Tryz.prog 95:=λargs w=>Tryz.call95 args w
def zKv:ax Tryz.prog 96:=λargs w=>Tryz.call96 args w
def zLM:ax Tryz.prog 97:=λargs w=>Tryz.call97 args w
def zL2:ax Tryz.prog 98:=λargs w=>Tryz.call98 args w
def zMy:ax Tryz.prog 99:=λargs w=>Tryz.call99 args w
def zGC:ax Tryz.prog 100:=λargs w=>Tryz.call100 args w
def zEX:ax Tryz.prog 101:=λargs w=>Tryz.call101 args w
def zGd:ax Tryz.prog 102:=λargs w=>Tryz.call102 args w
def zEO:ax Tryz.prog 103:=λargs w=>Tryz.call103 args w
def zHi:ax Tryz.prog 104:=λargs w=>Tryz.call104 args w
def zGq:ax Tryz.prog 105:=λargs w=>Tryz.call105 args w
def zHZ:ax Tryz.prog 106:=λargs w=>Tryz.call106 args w
def zGe:ax Tryz.prog 107:=λargs w=>Tryz.call107 args w
def zHe:ax Tryz.prog 108:=λargs w=>Tryz.call108 args w
def zFe:ax Tryz.prog 109:=λargs w=>Tryz.call109 args w
def zEM:ax Tryz.prog 110:=λargs w=>Tryz.call110 args w
def zEt:ax Tryz.prog 111:=λargs w=>Tryz.call111 args w
def zEL:ax Tryz.prog 112:=λargs w=>Tryz.call112 args w
def zFy:ax Tryz.prog 113:=λargs w=>Tryz.call113 args w
def M6:ax Tryz.prog 115:=λargs w=>Tryz.call115 args w
def Od:ax Tryz.prog 116:=λargs w=>Tryz.call116 args w
def zE0:ax Tryz.prog 117:=λargs w=>Tryz.call117 args w
def zEr:ax Tryz.prog 118:=λargs w=>Tryz.call118 args w
def zF3:ax Tryz.prog 119:=λargs w=>Tryz.call119 args w
def zFH:ax Tryz.prog 120:=λargs w=>Tryz.call120 args w
def zHV:ax Tryz.prog 121:=λargs w=>Tryz.call121 args w
def zH0:ax Tryz.prog 122:=λargs w=>Tryz.call122 args w
def zGY:ax Tryz.prog 123:=λargs w=>Tryz.call123 args w
def zHW:ax Tryz.prog 124:=λargs w=>Tryz.call124 args w
def zHR:ax Tryz.prog 125:=λargs w=>Tryz.call125 args w
def zGG:ax Tryz.prog 126:=λargs w=>Tryz.call126 args w
def zFX:ax Tryz.prog 127:=λargs w=>Tryz.call127 args w
def zG9:ax Tryz.prog 128:=λargs w=>Tryz.call128 args w
def zEZ:ax Tryz.prog 129:=λargs w=>Tryz.call129 args w
def zGj:ax Tryz.prog 130:=λargs w=>Tryz.call130 args w
def zGR:ax Tryz.prog 131:=λargs w=>Tryz.call131 args w
def zHk:ax Tryz.prog 132:=λargs w=>Tryz.call132 args w
def zFd:ax Tryz.prog 133:=λargs w=>Tryz.call133 args w
def zG1:ax Tryz.prog 134:=λargs w=>Tryz.call134 args w
def zHb:ax Tryz.prog 135:=λargs w=>Tryz.call135 args w
def zGp:ax Tryz.prog 136:=λargs w=>Tryz.call136 args w
def zHs:ax Tryz.prog 137:=λargs w=>Tryz.call137 args w
def zGP:ax Tryz.prog 138:=λargs w=>Tryz.call138 args w
def zFR:ax Tryz.prog 139:=λargs w=>Tryz.call139 args w
def zE4:ax Tryz.prog 140:=λargs w=>Tryz.call140 args w
def zFb:ax Tryz.prog 141:=λargs w=>Tryz.call141 args w
def zGE:ax Tryz.prog 142:=λargs w=>Tryz.call142 args w
def zIb:ax Tryz.prog 143:=λargs w=>Tryz.call143 args w
def zEJ:ax Tryz.prog 144:=λargs w=>Tryz.call144 args w
def zFt:ax Tryz.prog 145:=λargs w=>Tryz.call145 args w
def zIg:ax Tryz.prog 146:=λargs w=>Tryz.call146 args w
def zFp:ax Tryz.prog 147:=λargs w=>Tryz.call147 args w
def zFP:ax Tryz.prog 148:=λargs w=>Tryz.call148 args w
def zGy:ax Tryz.prog 149:=λargs w=>Tryz.call149 args w
def zHa:ax Tryz.prog 150:=λargs w=>Tryz.call150 args w
def zFZ:ax Tryz.prog 151:=λargs w=>Tryz.call151 args w
def zGo:ax Tryz.prog 152:=λargs w=>Tryz.call152 args w
def zE9:ax Tryz.prog 153:=λargs w=>Tryz.call153 args w
def zFi:ax Tryz.prog 154:=λargs w=>Tryz.call154 args w
def zIj:ax Tryz.prog 155:=λargs w=>Tryz.call155 args w
def zHC:ax Tryz.prog 156:=λargs w=>Tryz.call156 args w
def zHz:ax Tryz.prog 157:=λargs w=>Tryz.call157 args w
def zHS:ax Tryz.prog 158:=λargs w=>Tryz.call158 args w
def zIf:ax Tryz.prog 159:=λargs w=>Tryz.call159 args w
def zHj:ax Tryz.prog 160:=λargs w=>Tryz.call160 args w
def zEB:ax Tryz.prog 161:=λargs w=>Tryz.call161 args w
def zHh:ax Tryz.prog 162:=λargs w=>Tryz.call162 args w
def zEV:ax Tryz.prog 163:=λargs w=>Tryz.call163 args w
def zG3:ax Tryz.prog 164:=λargs w=>Tryz.call164 args w
def zGL:ax Tryz.prog 165:=λargs w=>Tryz.call165 args w
def zGn:ax Tryz.prog 166:=λargs w=>Tryz.call166 args w
def zFS:ax Tryz.prog 167:=λargs w=>Tryz.call167 args w
def zH3:ax Tryz.prog 168:=λargs w=>Tryz.call168 args w
def zHH:ax Tryz.prog 169:=λargs w=>Tryz.call169 args w
def zFV:ax Tryz.prog 170:=λargs w=>Tryz.call170 args w
def zEC:ax Tryz.prog 171:=λargs w=>Tryz.call171 args w
def zGS:ax Tryz.prog 172:=λargs w=>Tryz.call172 args w
def zG8:ax Tryz.prog 173:=λargs w=>Tryz.call173 args w
def N8:ax Tryz.prog 174:=λargs w=>Tryz.call174 args w
def zGZ:ax Tryz.prog 175:=λargs w=>Tryz.call175 args w
def zFz:ax Tryz.prog 176:=λargs w=>Tryz.call176 args w
def zHy:ax Tryz.prog 177:=λargs w=>Tryz.call177 args w
def zE3:ax Tryz.prog 178:=λargs w=>Tryz.call178 args w
def zEU:ax Tryz.prog 179:=λargs w=>Tryz.call179 args w
def zGQ:ax Tryz.prog 180:=λargs w=>Tryz.call180 args w
def zH2:ax Tryz.prog 181:=λargs w=>Tryz.call181 args w
def zHq:ax Tryz.prog 182:=λargs w=>Tryz.call182 args w
def zGk:ax Tryz.prog 183:=λargs w=>Tryz.call183 args w
def zFs:ax Tryz.prog 184:=λargs w=>Tryz.call184 args w
def zHv:ax Tryz.prog 185:=λargs w=>Tryz.call185 args w
def zFk:ax Tryz.prog 186:=λargs w=>Tryz.call186 args w
def zFm:ax Tryz.prog 187:=λargs w=>Tryz.call187 args w
def zFr:ax Tryz.prog 188:=λargs w=>Tryz.call188 args w
def zGB:ax Tryz.prog 189:=λargs w=>Tryz.call189 args w
def zGl:ax Tryz.prog 190:=λargs w=>Tryz.call190 args w
def zHg:ax Tryz.prog 191:=λargs w=>Tryz.call191 args w
def zF4:ax Tryz.prog 192:=λargs w=>Tryz.call192 args w
def zG7:ax Tryz.prog 193:=λargs w=>Tryz.call193 args w
def zGT:ax Tryz.prog 194:=λargs w=>Tryz.call194 args w
def zH5:ax Tryz.prog 195:=λargs w=>Tryz.call195 args w
def zG0:ax Tryz.prog 196:=λargs w=>Tryz.call196 args w
def zEG:ax Tryz.prog 197:=λargs w=>Tryz.call197 args w
def zEY:ax Tryz.prog 198:=λargs w=>Tryz.call198 args w
def zGg:ax Tryz.prog 199:=λargs w=>Tryz.call199 args w
def zG4:ax Tryz.prog 200:=λargs w=>Tryz.call200 args w
def zIc:ax Tryz.prog 201:=λargs w=>Tryz.call201 args w
def zED:ax Tryz.prog 202:=λargs w=>Tryz.call202 args w
def zHd:ax Tryz.prog 203:=λargs w=>Tryz.call203 args w
def zHQ:ax Tryz.prog 204:=λargs w=>Tryz.call204 args w
def zFc:ax Tryz.prog 205:=λargs w=>Tryz.call205 args w
def zEz:ax Tryz.prog 206:=λargs w=>Tryz.call206 args w
def zFl:ax Tryz.prog 207:=λargs w=>Tryz.call207 args w
def zFC:ax Tryz.prog 208:=λargs w=>Tryz.call208 args w
def zHl:ax Tryz.prog 209:=λargs w=>Tryz.call209 args w
def zFq:ax Tryz.prog 210:=λargs w=>Tryz.call210 args w
def zH9:ax Tryz.prog 211:=λargs w=>Tryz.call211 args w
def zFO:ax Tryz.prog 212:=λargs w=>Tryz.call212 args w
def zHL:ax Tryz.prog 213:=λargs w=>Tryz.call213 args w
def zFU:ax Tryz.prog 214:=λargs w=>Tryz.call214 args w
def zFN:ax Tryz.prog 215:=λargs w=>Tryz.call215 args w
def zFh:ax Tryz.prog 216:=λargs w=>Tryz.call216 args w
def zHO:ax Tryz.prog 217:=λargs w=>Tryz.call217 args w
def zFG:ax Tryz.prog 218:=λargs w=>Tryz.call218 args w
end Go.Pm
