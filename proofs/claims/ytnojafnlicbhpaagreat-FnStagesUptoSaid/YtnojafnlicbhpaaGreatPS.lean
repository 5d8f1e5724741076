import Derived.Test.YtnojafnlicbhpaaGreatPmW
import Derived.Test.YtnojafnlicbhpaaGreatProg
import Derived.KernelRfl
open Bool renaming false→aa,true→Z
open Option renaming none→ae,some→J
set_option linter.defProp false
namespace Go.Pm
open Go.Am
open Go.Proofs
set_option maxRecDepth 100000
variable{i:Nat}
def tk3:tk Tryz.prog 3=J (aa,1):=by kernel_rfl
def zr3:zr Tryz.prog 3=J [.int .i64 0]:=by kernel_rfl
def zWU:cR Tryz.prog 3=0:=by kernel_rfl
def zV3:jW Tryz.prog 3=J .i64:=by kernel_rfl
def zWT:dU Tryz.prog 3=aa:=by kernel_rfl
def tk4:tk Tryz.prog 4=J (aa,1):=by kernel_rfl
def zr4:zr Tryz.prog 4=J [.bool aa]:=by kernel_rfl
def zV8:cR Tryz.prog 4=0:=by kernel_rfl
def zV6:Fi Tryz.prog 4=Z:=by kernel_rfl
def tk5:tk Tryz.prog 5=J (aa,1):=by kernel_rfl
def zr5:zr Tryz.prog 5=J [.int .u8 0]:=by kernel_rfl
def zWp:cR Tryz.prog 5=0:=by kernel_rfl
def zWk:jW Tryz.prog 5=J .u8:=by kernel_rfl
def zWG:dU Tryz.prog 5=aa:=by kernel_rfl
def tk9:tk Tryz.prog 9=J (aa,1):=by kernel_rfl
def zr9:zr Tryz.prog 9=J [.str ⟨#[]⟩]:=by kernel_rfl
def zWg:cR Tryz.prog 9=0:=by kernel_rfl
def zWx:dU Tryz.prog 9=Z:=by kernel_rfl
def zWN:tk Tryz.prog 20=J (aa,1):=by kernel_rfl
def zWr:zr Tryz.prog 20=J [.gG]:=by kernel_rfl
def zVQ:cR Tryz.prog 20=0:=by kernel_rfl
def zWi:tk Tryz.prog 22=J (aa,1):=by kernel_rfl
def zWF:zr Tryz.prog 22=J [.sl Z 1 []]:=by kernel_rfl
def zT0:cR Tryz.prog 22=1:=by kernel_rfl
def zVz:cS Tryz.prog 22=J 5:=by kernel_rfl
def zT1:dU Tryz.prog 22=aa:=by kernel_rfl
def zTE:kV Tryz.prog 22=J 1:=by kernel_rfl
def zVo:tO Tryz.prog 22=Z:=by kernel_rfl
def zV2:ez Tryz.prog 22=J (1,1,[.int .u8 0]):=by kernel_rfl
def zVx :dY Tryz.prog 22 i=0:=by kernel_rfl
def zWf:tk Tryz.prog 25=J (Z,3):=by kernel_rfl
def zWq:zr Tryz.prog 25=J [.int .i64 0,.int .i64 0,.int .i64 0]:=by kernel_rfl
def zTx:cR Tryz.prog 25=0:=by kernel_rfl
def zVi:mS Tryz.prog 25=J (dv Tryz.prog 25,[.int .i64 0,.int .i64 0,.int .i64 0]):=by kernel_rfl
def zQc:dv Tryz.prog 25 0=J (0,1):=by kernel_rfl
def zPb:dY Tryz.prog 25 0=0:=by kernel_rfl
def zPc:dv Tryz.prog 25 1=J (1,1):=by kernel_rfl
def zOe:dY Tryz.prog 25 1=0:=by kernel_rfl
def zOs:dv Tryz.prog 25 2=J (2,1):=by kernel_rfl
def zQo:dY Tryz.prog 25 2=0:=by kernel_rfl
def zV0:tk Tryz.prog 26=J (aa,1):=by kernel_rfl
def zWs:zr Tryz.prog 26=J [.sl Z 2 []]:=by kernel_rfl
def zVA:cR Tryz.prog 26=2:=by kernel_rfl
def zUa:cS Tryz.prog 26=J 86:=by kernel_rfl
def zUT:dU Tryz.prog 26=aa:=by kernel_rfl
def zT8:kV Tryz.prog 26=J 2:=by kernel_rfl
def zWj:ez Tryz.prog 26=J (2,16,[.int .i64 0,.int .i64 0]):=by kernel_rfl
def zVR :dY Tryz.prog 26 i=0:=by kernel_rfl
def zWn:tk Tryz.prog 27=J (aa,1):=by kernel_rfl
def zWm:zr Tryz.prog 27=J [.sl Z 1 []]:=by kernel_rfl
def zUh:cR Tryz.prog 27=1:=by kernel_rfl
def zVa:cS Tryz.prog 27=J 3:=by kernel_rfl
def zT9:dU Tryz.prog 27=aa:=by kernel_rfl
def zTF:kV Tryz.prog 27=J 1:=by kernel_rfl
def zNe:ez Tryz.prog 27=J (1,8,[.int .i64 0]):=by kernel_rfl
def zTP :dY Tryz.prog 27 i=0:=by kernel_rfl
def zWE:tk Tryz.prog 31=J (Z,3):=by kernel_rfl
def zWw:zr Tryz.prog 31=J [.sl Z 1 [],.sl Z 1 [],.sl Z 1 []]:=by kernel_rfl
def zTr:cR Tryz.prog 31=0:=by kernel_rfl
def zUw:mS Tryz.prog 31=J (dv Tryz.prog 31,[.sl Z 1 [],.sl Z 1 [],.sl Z 1 []]):=by kernel_rfl
def zPm:dv Tryz.prog 31 0=J (0,1):=by kernel_rfl
def zPG:dY Tryz.prog 31 0=1:=by kernel_rfl
def zN6:dv Tryz.prog 31 1=J (1,1):=by kernel_rfl
def zQ4:dY Tryz.prog 31 1=1:=by kernel_rfl
def zOJ:dv Tryz.prog 31 2=J (2,1):=by kernel_rfl
def zOW:dY Tryz.prog 31 2=1:=by kernel_rfl
def zWR:tk Tryz.prog 33=J (Z,5):=by kernel_rfl
def zWe:zr Tryz.prog 33=J [.sl Z 1 [],.sl Z 1 [],.sl Z 1 [],.sl Z 1 [],.sl Z 1 []]:=by kernel_rfl
def zU1:cR Tryz.prog 33=0:=by kernel_rfl
def zUJ:mS Tryz.prog 33=J (dv Tryz.prog 33,[.sl Z 1 [],.sl Z 1 [],.sl Z 1 [],.sl Z 1 [],.sl Z 1 []]):=by kernel_rfl
def zOm:dv Tryz.prog 33 0=J (0,1):=by kernel_rfl
def zP5:dY Tryz.prog 33 0=1:=by kernel_rfl
def zOT:dv Tryz.prog 33 1=J (1,1):=by kernel_rfl
def zPY:dY Tryz.prog 33 1=1:=by kernel_rfl
def zRp:dv Tryz.prog 33 2=J (2,3):=by kernel_rfl
def zOw:dY Tryz.prog 33 2=0:=by kernel_rfl
def zWS:tk Tryz.prog 35=J (Z,6):=by kernel_rfl
def zWv:zr Tryz.prog 35=J [.sl Z 1 [],.sl Z 1 [],.sl Z 1 [],.sl Z 1 [],.sl Z 1 [],.sl Z 1 []]:=by kernel_rfl
def zVD:cR Tryz.prog 35=0:=by kernel_rfl
def zUE:mS Tryz.prog 35=J (dv Tryz.prog 35,[.sl Z 1 [],.sl Z 1 [],.sl Z 1 [],.sl Z 1 [],.sl Z 1 [],.sl Z 1 []]):=by kernel_rfl
def zQz:dv Tryz.prog 35 0=J (0,1):=by kernel_rfl
def zP3:dY Tryz.prog 35 0=1:=by kernel_rfl
def zP4:dv Tryz.prog 35 1=J (1,1):=by kernel_rfl
def zN8:dY Tryz.prog 35 1=1:=by kernel_rfl
def zOO:dv Tryz.prog 35 2=J (2,1):=by kernel_rfl
def zO4:dY Tryz.prog 35 2=1:=by kernel_rfl
def zQt:dv Tryz.prog 35 3=J (3,3):=by kernel_rfl
def zPa:dY Tryz.prog 35 3=0:=by kernel_rfl
def zV9:tk Tryz.prog 37=J (Z,13):=by kernel_rfl
def zWo:zr Tryz.prog 37=J [.int .i64 0,.sl Z 2 [],.sl Z 1 [],.sl Z 1 [],.sl Z 1 [],.sl Z 1 [],.sl Z 1 [],.sl Z 1 [],.sl Z 1 [],.sl Z 1 [],.sl Z 1 [],.sl Z 1 [],.sl Z 1 []]:=by kernel_rfl
def zUj:cR Tryz.prog 37=0:=by kernel_rfl
def zT5:mS Tryz.prog 37=J (dv Tryz.prog 37,[.int .i64 0,.sl Z 2 [],.sl Z 1 [],.sl Z 1 [],.sl Z 1 [],.sl Z 1 [],.sl Z 1 [],.sl Z 1 [],.sl Z 1 [],.sl Z 1 [],.sl Z 1 [],.sl Z 1 [],.sl Z 1 []]):=by kernel_rfl
def zQB:dv Tryz.prog 37 0=J (0,1):=by kernel_rfl
def zOE:dY Tryz.prog 37 0=0:=by kernel_rfl
def zQL:dv Tryz.prog 37 1=J (1,1):=by kernel_rfl
def zRg:dY Tryz.prog 37 1=2:=by kernel_rfl
def zQy:dv Tryz.prog 37 2=J (2,5):=by kernel_rfl
def zQs:dY Tryz.prog 37 2=0:=by kernel_rfl
def zQS:dv Tryz.prog 37 3=J (7,6):=by kernel_rfl
def zQf:dY Tryz.prog 37 3=0:=by kernel_rfl
def zV5:tk Tryz.prog 49=J (aa,1):=by kernel_rfl
def zWh:zr Tryz.prog 49=J [.sl Z 1 []]:=by kernel_rfl
def zUd:cR Tryz.prog 49=1:=by kernel_rfl
def zUy:cS Tryz.prog 49=J 27:=by kernel_rfl
def zUY:dU Tryz.prog 49=aa:=by kernel_rfl
def zVu:kV Tryz.prog 49=J 1:=by kernel_rfl
def zDb:ez Tryz.prog 49=J (1,24,[.sl aa 1 []]):=by kernel_rfl
def zTt :dY Tryz.prog 49 i=1:=by kernel_rfl
def zWC:tk Tryz.prog 52=J (aa,1):=by kernel_rfl
def zWa:zr Tryz.prog 52=J [.sl Z 13 []]:=by kernel_rfl
def zVG:cR Tryz.prog 52=13:=by kernel_rfl
def zUU:cS Tryz.prog 52=J 37:=by kernel_rfl
def zVc:dU Tryz.prog 52=aa:=by kernel_rfl
def zVs:kV Tryz.prog 52=J 13:=by kernel_rfl
def zWP:ez Tryz.prog 52=J (13,296,[.int .i64 0,.sl aa 2 [],.sl aa 1 [],.sl aa 1 [],.sl aa 1 [],.sl aa 1 [],.sl aa 1 [],.sl aa 1 [],.sl aa 1 [],.sl aa 1 [],.sl aa 1 [],.sl aa 1 [],.sl aa 1 []]):=by kernel_rfl
def zUi :dY Tryz.prog 52 i=0:=by kernel_rfl
def zV4:tk Tryz.prog 64=J (aa,1):=by kernel_rfl
def zV7:zr Tryz.prog 64=J [.fZ]:=by kernel_rfl
def zVw:cR Tryz.prog 64=0:=by kernel_rfl
def zWy:tk Tryz.prog 65=J (aa,1):=by kernel_rfl
def zWM:zr Tryz.prog 65=J [.int .u64 0]:=by kernel_rfl
def zUW:cR Tryz.prog 65=0:=by kernel_rfl
def zUo:jW Tryz.prog 65=J .u64:=by kernel_rfl
def zVU:dU Tryz.prog 65=aa:=by kernel_rfl
def zWH:tk Tryz.prog 67=J (Z,3):=by kernel_rfl
def zWI:zr Tryz.prog 67=J [.sl Z 1 [],.int .i64 0,.int .u64 0]:=by kernel_rfl
def zU3:cR Tryz.prog 67=0:=by kernel_rfl
def zTW:mS Tryz.prog 67=J (dv Tryz.prog 67,[.sl Z 1 [],.int .i64 0,.int .u64 0]):=by kernel_rfl
def zQ5:dv Tryz.prog 67 0=J (0,1):=by kernel_rfl
def zOt:dY Tryz.prog 67 0=1:=by kernel_rfl
def zQb:dv Tryz.prog 67 1=J (1,1):=by kernel_rfl
def zPv:dY Tryz.prog 67 1=0:=by kernel_rfl
def zQq:dv Tryz.prog 67 2=J (2,1):=by kernel_rfl
def zPd:dY Tryz.prog 67 2=0:=by kernel_rfl
def zWQ:tk Tryz.prog 70=J (Z,2):=by kernel_rfl
def zWu:zr Tryz.prog 70=J [.int .i64 0,.sl Z 1 []]:=by kernel_rfl
def zUP:cR Tryz.prog 70=0:=by kernel_rfl
def zVy:mS Tryz.prog 70=J (dv Tryz.prog 70,[.int .i64 0,.sl Z 1 []]):=by kernel_rfl
def zRo:dv Tryz.prog 70 0=J (0,1):=by kernel_rfl
def zOj:dY Tryz.prog 70 0=0:=by kernel_rfl
def zQU:dv Tryz.prog 70 1=J (1,1):=by kernel_rfl
def zQN:dY Tryz.prog 70 1=1:=by kernel_rfl
def zWO:tk Tryz.prog 73=J (aa,1):=by kernel_rfl
def zWl:zr Tryz.prog 73=J [.fB]:=by kernel_rfl
def zVp:cR Tryz.prog 73=0:=by kernel_rfl
def zWd:tk Tryz.prog 86=J (Z,2):=by kernel_rfl
def zWc:zr Tryz.prog 86=J [.int .i64 0,.int .i64 0]:=by kernel_rfl
def zVF:cR Tryz.prog 86=0:=by kernel_rfl
def zUB:Bi Tryz.prog 86=J [0,1]:=by kernel_rfl
def zUm:mS Tryz.prog 86=J (dv Tryz.prog 86,[.int .i64 0,.int .i64 0]):=by kernel_rfl
def zQ2:dv Tryz.prog 86 0=J (0,1):=by kernel_rfl
def zOB:dY Tryz.prog 86 0=0:=by kernel_rfl
def zPR:dv Tryz.prog 86 1=J (1,1):=by kernel_rfl
def zQ7:dY Tryz.prog 86 1=0:=by kernel_rfl
def zTu:tk Tryz.prog 107=J (aa,1):=by kernel_rfl
def zT3:zr Tryz.prog 107=J [.fB]:=by kernel_rfl
def zRw:cR Tryz.prog 107=0:=by kernel_rfl
def zTI:tk Tryz.prog 128=J (aa,1):=by kernel_rfl
def zUV:zr Tryz.prog 128=J [.sl Z 1 []]:=by kernel_rfl
def zSH:cR Tryz.prog 128=1:=by kernel_rfl
def zS6:cS Tryz.prog 128=J 49:=by kernel_rfl
def zRK:dU Tryz.prog 128=aa:=by kernel_rfl
def zSr:kV Tryz.prog 128=J 1:=by kernel_rfl
def zTJ:ez Tryz.prog 128=J (1,24,[.sl aa 1 []]):=by kernel_rfl
def zSe :dY Tryz.prog 128 i=1:=by kernel_rfl
def zVq:tk Tryz.prog 130=J (aa,1):=by kernel_rfl
def zUk:zr Tryz.prog 130=J [.fZ]:=by kernel_rfl
def zS2:cR Tryz.prog 130=0:=by kernel_rfl
def zUq:tk Tryz.prog 132=J (Z,2):=by kernel_rfl
def zUI:zr Tryz.prog 132=J [.sl Z 1 [],.bool aa]:=by kernel_rfl
def zRx:cR Tryz.prog 132=0:=by kernel_rfl
def zSI:mS Tryz.prog 132=J (dv Tryz.prog 132,[.sl Z 1 [],.bool aa]):=by kernel_rfl
def zLu:dv Tryz.prog 132 0=J (0,1):=by kernel_rfl
def zLq:dY Tryz.prog 132 0=1:=by kernel_rfl
def zMR:dv Tryz.prog 132 1=J (1,1):=by kernel_rfl
def zJU:dY Tryz.prog 132 1=0:=by kernel_rfl
def zTU:tk Tryz.prog 147=J (aa,1):=by kernel_rfl
def zUz:zr Tryz.prog 147=J [.fZ]:=by kernel_rfl
def zSg:cR Tryz.prog 147=0:=by kernel_rfl
def zU4:tk Tryz.prog 149=J (Z,1):=by kernel_rfl
def zUO:zr Tryz.prog 149=J [.sl Z 1 []]:=by kernel_rfl
def zRT:cR Tryz.prog 149=0:=by kernel_rfl
def zSZ:mS Tryz.prog 149=J (dv Tryz.prog 149,[.sl Z 1 []]):=by kernel_rfl
def zMl:dv Tryz.prog 149 0=J (0,1):=by kernel_rfl
def zNr:dY Tryz.prog 149 0=1:=by kernel_rfl
def zUS:tk Tryz.prog 164=J (Z,5):=by kernel_rfl
def zTZ:zr Tryz.prog 164=J [.sl Z 1 [],.sl Z 1 [],.sl Z 1 [],.sl Z 1 [],.sl Z 1 []]:=by kernel_rfl
def zRC:cR Tryz.prog 164=0:=by kernel_rfl
def zTi:kV Tryz.prog 164=ae:=by kernel_rfl
def zS5:JP Tryz.prog 164=J (5,1):=by kernel_rfl
def zTf :dY Tryz.prog 164 i=1:=by kernel_rfl
def zRv:mS Tryz.prog 164=J (λi=>J (i*1,1),[.sl Z 1 [],.sl Z 1 [],.sl Z 1 [],.sl Z 1 [],.sl Z 1 []]):=by kernel_rfl
def zUL:tk Tryz.prog 173=J (aa,1):=by kernel_rfl
def zTO:zr Tryz.prog 173=J [.fB]:=by kernel_rfl
def zRV:cR Tryz.prog 173=0:=by kernel_rfl
def zT4:tk Tryz.prog 176=J (aa,1):=by kernel_rfl
def zVt:zr Tryz.prog 176=J [.fB]:=by kernel_rfl
def zSF:cR Tryz.prog 176=0:=by kernel_rfl
def zUs:tk Tryz.prog 185=J (aa,1):=by kernel_rfl
def zTs:zr Tryz.prog 185=J [.int .u64 0]:=by kernel_rfl
def zSC:cR Tryz.prog 185=0:=by kernel_rfl
def zSs:jW Tryz.prog 185=J .u64:=by kernel_rfl
def zRL:dU Tryz.prog 185=aa:=by kernel_rfl
def zVX:tk Tryz.prog 212=J (aa,1):=by kernel_rfl
def zTq:zr Tryz.prog 212=J [.fZ]:=by kernel_rfl
def zSz:cR Tryz.prog 212=0:=by kernel_rfl
def zVH:tk Tryz.prog 214=J (Z,2):=by kernel_rfl
def zTV:zr Tryz.prog 214=J [.int .i64 0,.int .i64 0]:=by kernel_rfl
def zSc:cR Tryz.prog 214=0:=by kernel_rfl
def zRS:mS Tryz.prog 214=J (dv Tryz.prog 214,[.int .i64 0,.int .i64 0]):=by kernel_rfl
def zLm:dv Tryz.prog 214 0=J (0,1):=by kernel_rfl
def zLn:dY Tryz.prog 214 0=0:=by kernel_rfl
def zKM:dv Tryz.prog 214 1=J (1,1):=by kernel_rfl
def zLJ:dY Tryz.prog 214 1=0:=by kernel_rfl
attribute[go_sem]tk3 zr3 zWU zV3 zWT tk4 zr4 zV8 zV6 tk5 zr5 zWp zWk zWG tk9 zr9 zWg zWx zWN zWr zVQ zWi zWF zT0 zVz zT1 zTE zVo zV2 zVx zWf zWq zTx zVi zQc zPb zPc zOe zOs zQo zV0 zWs zVA zUa zUT zT8 zWj zVR zWn zWm zUh zVa zT9 zTF zNe zTP zWE zWw zTr zUw zPm zPG zN6 zQ4 zOJ zOW zWR zWe zU1 zUJ zOm zP5 zOT zPY zRp zOw zWS zWv zVD zUE zQz zP3 zP4 zN8 zOO zO4 zQt zPa zV9 zWo zUj zT5 zQB zOE zQL zRg zQy zQs zQS zQf zV5 zWh zUd zUy zUY zVu zDb zTt zWC zWa zVG zUU zVc zVs zWP zUi zV4 zV7 zVw zWy zWM zUW zUo zVU zWH zWI zU3 zTW zQ5 zOt zQb zPv zQq zPd zWQ zWu zUP zVy zRo zOj zQU zQN zWO zWl zVp zWd zWc zVF zUB zUm zQ2 zOB zPR zQ7 zTu zT3 zRw zTI zUV zSH zS6 zRK zSr zTJ zSe zVq zUk zS2 zUq zUI zRx zSI zLu zLq zMR zJU zTU zUz zSg zU4 zUO zRT zSZ zMl zNr zUS zTZ zRC zTi zS5 zTf zRv zUL zTO zRV zT4 zVt zSF zUs zTs zSC zSs zRL zVX zTq zSz zVH zTV zSc zRS zLm zLn zKM zLJ
def follows:Tryz.prog.follows .mixedOrders=Z:=by kernel_rfl
def cl3:ax Tryz.prog 3:=λargs w=>Tryz.call3 args w
def cl5:ax Tryz.prog 5:=λargs w=>Tryz.call5 args w
def cl6:ax Tryz.prog 6:=λargs w=>Tryz.call6 args w
def cl7:ax Tryz.prog 7:=λargs w=>Tryz.call7 args w
def cl8:ax Tryz.prog 8:=λargs w=>Tryz.call8 args w
def cl9:ax Tryz.prog 9:=λargs w=>Tryz.call9 args w
def zKB:ax Tryz.prog 10:=λargs w=>Tryz.call10 args w
def zJP:ax Tryz.prog 11:=λargs w=>Tryz.call11 args w
def zN4:ax Tryz.prog 12:=λargs w=>Tryz.call12 args w
def zKc:ax Tryz.prog 13:=λargs w=>Tryz.call13 args w
def zKo:ax Tryz.prog 14:=λargs w=>Tryz.call14 args w
def zKn:ax Tryz.prog 15:=λargs w=>Tryz.call15 args w
def zNh:ax Tryz.prog 26:=λargs w=>Tryz.call26 args w
def zL0:ax Tryz.prog 27:=λargs w=>Tryz.call27 args w
def zJW:ax Tryz.prog 28:=λargs w=>Tryz.call28 args w
def zMH:ax Tryz.prog 29:=λargs w=>Tryz.call29 args w
def zMN:ax Tryz.prog 30:=λargs w=>Tryz.call30 args w
def zMz:ax Tryz.prog 31:=λargs w=>Tryz.call31 args w
def zMT:ax Tryz.prog 32:=λargs w=>Tryz.call32 args w
def zK4:ax Tryz.prog 33:=λargs w=>Tryz.call33 args w
def zNy:ax Tryz.prog 34:=λargs w=>Tryz.call34 args w
def zLF:ax Tryz.prog 35:=λargs w=>Tryz.call35 args w
def zL8:ax Tryz.prog 36:=λargs w=>Tryz.call36 args w
def zNi:ax Tryz.prog 37:=λargs w=>Tryz.call37 args w
def zLG:ax Tryz.prog 38:=λargs w=>Tryz.call38 args w
def zNC:ax Tryz.prog 39:=λargs w=>Tryz.call39 args w
def zMa:ax Tryz.prog 40:=λargs w=>Tryz.call40 args w
def zNA:ax Tryz.prog 41:=λargs w=>Tryz.call41 args w
def zLT:ax Tryz.prog 42:=λargs w=>Tryz.call42 args w
def zK5:ax Tryz.prog 43:=λargs w=>Tryz.call43 args w
def zMv:ax Tryz.prog 44:=λargs w=>Tryz.call44 args w
def zKO:ax Tryz.prog 45:=λargs w=>Tryz.call45 args w
def zLW:ax Tryz.prog 46:=λargs w=>Tryz.call46 args w
def zMM:ax Tryz.prog 47:=λargs w=>Tryz.call47 args w
def zNI:ax Tryz.prog 48:=λargs w=>Tryz.call48 args w
def VJ:ax Tryz.prog 49:=λargs w=>Tryz.call49 args w
def zJ1:ax Tryz.prog 50:=λargs w=>Tryz.call50 args w
def zKs:ax Tryz.prog 51:=λargs w=>Tryz.call51 args w
def zMK:ax Tryz.prog 52:=λargs w=>Tryz.call52 args w
def zL6:ax Tryz.prog 53:=λargs w=>Tryz.call53 args w
def zJ7:ax Tryz.prog 54:=λargs w=>Tryz.call54 args w
def zM2:ax Tryz.prog 55:=λargs w=>Tryz.call55 args w
def zLD:ax Tryz.prog 58:=λargs w=>Tryz.call58 args w
def zK3:ax Tryz.prog 59:=λargs w=>Tryz.call59 args w
def zLE:ax Tryz.prog 61:=λargs w=>Tryz.call61 args w
def zM1:ax Tryz.prog 63:=λargs w=>Tryz.call63 args w
def zNo:ax Tryz.prog 64:=λargs w=>Tryz.call64 args w
def zKi:ax Tryz.prog 65:=λargs w=>Tryz.call65 args w
def zJ0:ax Tryz.prog 66:=λargs w=>Tryz.call66 args w
def zNF:ax Tryz.prog 67:=λargs w=>Tryz.call67 args w
def Oq:ax Tryz.prog 69:=λargs w=>Tryz.call69 args w
def zLN:ax Tryz.prog 70:=λargs w=>Tryz.call70 args w
def zM3:ax Tryz.prog 71:=λargs w=>Tryz.call71 args w
def zKW:ax Tryz.prog 72:=λargs w=>Tryz.call72 args w
def YD:ax Tryz.prog 73:=λargs w=>Tryz.call73 args w
def zLX:ax Tryz.prog 74:=λargs w=>Tryz.call74 args w
def zK1:ax Tryz.prog 75:=λargs w=>Tryz.call75 args w
def zNL:ax Tryz.prog 76:=λargs w=>Tryz.call76 args w
def zLK:ax Tryz.prog 77:=λargs w=>Tryz.call77 args w
def zMd:ax Tryz.prog 78:=λargs w=>Tryz.call78 args w
def zMg:ax Tryz.prog 79:=λargs w=>Tryz.call79 args w
def zKI:ax Tryz.prog 80:=λargs w=>Tryz.call80 args w
def zLc:ax Tryz.prog 81:=λargs w=>Tryz.call81 args w
def zKP:ax Tryz.prog 82:=λargs w=>Tryz.call82 args w
def zNZ:ax Tryz.prog 83:=λargs w=>Tryz.call83 args w
def zKR:ax Tryz.prog 84:=λargs w=>Tryz.call84 args w
def zLr:ax Tryz.prog 85:=λargs w=>Tryz.call85 args w
def zNx:ax Tryz.prog 86:=λargs w=>Tryz.call86 args w
def zKg:ax Tryz.prog 87:=λargs w=>Tryz.call87 args w
def zLh:ax Tryz.prog 88:=λargs w=>Tryz.call88 args w
def zMY:ax Tryz.prog 89:=λargs w=>Tryz.call89 args w
def zNS:ax Tryz.prog 90:=λargs w=>Tryz.call90 args w
def zKv:ax Tryz.prog 91:=λargs w=>Tryz.call91 args w
def zMq:ax Tryz.prog 92:=λargs w=>Tryz.call92 args w
def zJ6:ax Tryz.prog 93:=λargs w=>Tryz.call93 args w
def zNq:ax Tryz.prog 94:=λargs w=>Tryz.call94 args w
def zJ9:ax Tryz.prog 95:=λargs w=>Tryz.call95 args w
def zN2:ax Tryz.prog 96:=λargs w=>Tryz.call96 args w
def zMp:ax Tryz.prog 97:=λargs w=>Tryz.call97 args w
def zMP:ax Tryz.prog 98:=λargs w=>Tryz.call98 args w
def zNO:ax Tryz.prog 99:=λargs w=>Tryz.call99 args w
def zGn:ax Tryz.prog 100:=λargs w=>Tryz.call100 args w
def zEE:ax Tryz.prog 101:=λargs w=>Tryz.call101 args w
def zFz:ax Tryz.prog 102:=λargs w=>Tryz.call102 args w
def zFJ:ax Tryz.prog 103:=λargs w=>Tryz.call103 args w
def zFc:ax Tryz.prog 104:=λargs w=>Tryz.call104 args w
def zHB:ax Tryz.prog 105:=λargs w=>Tryz.call105 args w
def zEO:ax Tryz.prog 106:=λargs w=>Tryz.call106 args w
def zHy:ax Tryz.prog 107:=λargs w=>Tryz.call107 args w
def zHb:ax Tryz.prog 108:=λargs w=>Tryz.call108 args w
def zER:ax Tryz.prog 109:=λargs w=>Tryz.call109 args w
def zED:ax Tryz.prog 110:=λargs w=>Tryz.call110 args w
def zFn:ax Tryz.prog 111:=λargs w=>Tryz.call111 args w
def zG2:ax Tryz.prog 112:=λargs w=>Tryz.call112 args w
def zFZ:ax Tryz.prog 113:=λargs w=>Tryz.call113 args w
def Nk:ax Tryz.prog 115:=λargs w=>Tryz.call115 args w
def LB:ax Tryz.prog 116:=λargs w=>Tryz.call116 args w
def zIf:ax Tryz.prog 117:=λargs w=>Tryz.call117 args w
def zHt:ax Tryz.prog 118:=λargs w=>Tryz.call118 args w
def zGp:ax Tryz.prog 119:=λargs w=>Tryz.call119 args w
def zHh:ax Tryz.prog 120:=λargs w=>Tryz.call120 args w
def zE3:ax Tryz.prog 121:=λargs w=>Tryz.call121 args w
def zH1:ax Tryz.prog 122:=λargs w=>Tryz.call122 args w
def zHp:ax Tryz.prog 123:=λargs w=>Tryz.call123 args w
def zFY:ax Tryz.prog 124:=λargs w=>Tryz.call124 args w
def zHc:ax Tryz.prog 125:=λargs w=>Tryz.call125 args w
def zF7:ax Tryz.prog 126:=λargs w=>Tryz.call126 args w
def zFH:ax Tryz.prog 127:=λargs w=>Tryz.call127 args w
def zEA:ax Tryz.prog 128:=λargs w=>Tryz.call128 args w
def zFT:ax Tryz.prog 129:=λargs w=>Tryz.call129 args w
def zHl:ax Tryz.prog 130:=λargs w=>Tryz.call130 args w
def zFF:ax Tryz.prog 131:=λargs w=>Tryz.call131 args w
def zGb:ax Tryz.prog 132:=λargs w=>Tryz.call132 args w
def zHj:ax Tryz.prog 133:=λargs w=>Tryz.call133 args w
def zFx:ax Tryz.prog 134:=λargs w=>Tryz.call134 args w
def zGa:ax Tryz.prog 135:=λargs w=>Tryz.call135 args w
def zH6:ax Tryz.prog 136:=λargs w=>Tryz.call136 args w
def zFQ:ax Tryz.prog 137:=λargs w=>Tryz.call137 args w
def zHY:ax Tryz.prog 138:=λargs w=>Tryz.call138 args w
def zHg:ax Tryz.prog 139:=λargs w=>Tryz.call139 args w
def zG3:ax Tryz.prog 140:=λargs w=>Tryz.call140 args w
def zGq:ax Tryz.prog 141:=λargs w=>Tryz.call141 args w
def zFw:ax Tryz.prog 142:=λargs w=>Tryz.call142 args w
def zE9:ax Tryz.prog 143:=λargs w=>Tryz.call143 args w
def zIj:ax Tryz.prog 144:=λargs w=>Tryz.call144 args w
def zE8:ax Tryz.prog 145:=λargs w=>Tryz.call145 args w
def zG0:ax Tryz.prog 146:=λargs w=>Tryz.call146 args w
def zGc:ax Tryz.prog 147:=λargs w=>Tryz.call147 args w
def zEH:ax Tryz.prog 148:=λargs w=>Tryz.call148 args w
def zFp:ax Tryz.prog 149:=λargs w=>Tryz.call149 args w
def zGL:ax Tryz.prog 150:=λargs w=>Tryz.call150 args w
def zFM:ax Tryz.prog 151:=λargs w=>Tryz.call151 args w
def zHq:ax Tryz.prog 152:=λargs w=>Tryz.call152 args w
def zE4:ax Tryz.prog 153:=λargs w=>Tryz.call153 args w
def zFN:ax Tryz.prog 154:=λargs w=>Tryz.call154 args w
def zF3:ax Tryz.prog 155:=λargs w=>Tryz.call155 args w
def zHs:ax Tryz.prog 156:=λargs w=>Tryz.call156 args w
def zHE:ax Tryz.prog 157:=λargs w=>Tryz.call157 args w
def zFB:ax Tryz.prog 158:=λargs w=>Tryz.call158 args w
def zEu:ax Tryz.prog 159:=λargs w=>Tryz.call159 args w
def zGv:ax Tryz.prog 160:=λargs w=>Tryz.call160 args w
def zG4:ax Tryz.prog 161:=λargs w=>Tryz.call161 args w
def zEJ:ax Tryz.prog 162:=λargs w=>Tryz.call162 args w
def zG7:ax Tryz.prog 163:=λargs w=>Tryz.call163 args w
def zFC:ax Tryz.prog 164:=λargs w=>Tryz.call164 args w
def zEs:ax Tryz.prog 165:=λargs w=>Tryz.call165 args w
def zGK:ax Tryz.prog 166:=λargs w=>Tryz.call166 args w
def zF1:ax Tryz.prog 167:=λargs w=>Tryz.call167 args w
def zHf:ax Tryz.prog 168:=λargs w=>Tryz.call168 args w
def zHP:ax Tryz.prog 169:=λargs w=>Tryz.call169 args w
def zEx:ax Tryz.prog 170:=λargs w=>Tryz.call170 args w
def zGG:ax Tryz.prog 171:=λargs w=>Tryz.call171 args w
def zHX:ax Tryz.prog 172:=λargs w=>Tryz.call172 args w
def zG1:ax Tryz.prog 173:=λargs w=>Tryz.call173 args w
def Ms:ax Tryz.prog 174:=λargs w=>Tryz.call174 args w
def zFl:ax Tryz.prog 175:=λargs w=>Tryz.call175 args w
def zGS:ax Tryz.prog 176:=λargs w=>Tryz.call176 args w
def zE1:ax Tryz.prog 177:=λargs w=>Tryz.call177 args w
def zFu:ax Tryz.prog 178:=λargs w=>Tryz.call178 args w
def zGB:ax Tryz.prog 179:=λargs w=>Tryz.call179 args w
def zHm:ax Tryz.prog 180:=λargs w=>Tryz.call180 args w
def zGI:ax Tryz.prog 181:=λargs w=>Tryz.call181 args w
def zHG:ax Tryz.prog 182:=λargs w=>Tryz.call182 args w
def zFP:ax Tryz.prog 183:=λargs w=>Tryz.call183 args w
def zH9:ax Tryz.prog 184:=λargs w=>Tryz.call184 args w
def zEq:ax Tryz.prog 185:=λargs w=>Tryz.call185 args w
def zEC:ax Tryz.prog 186:=λargs w=>Tryz.call186 args w
def zGe:ax Tryz.prog 187:=λargs w=>Tryz.call187 args w
def zGY:ax Tryz.prog 188:=λargs w=>Tryz.call188 args w
def zHR:ax Tryz.prog 189:=λargs w=>Tryz.call189 args w
def zGA:ax Tryz.prog 190:=λargs w=>Tryz.call190 args w
def zHI:ax Tryz.prog 191:=λargs w=>Tryz.call191 args w
def zHd:ax Tryz.prog 192:=λargs w=>Tryz.call192 args w
def zE5:ax Tryz.prog 193:=λargs w=>Tryz.call193 args w
def zF4:ax Tryz.prog 194:=λargs w=>Tryz.call194 args w
def zEy:ax Tryz.prog 195:=λargs w=>Tryz.call195 args w
def zEU:ax Tryz.prog 196:=λargs w=>Tryz.call196 args w
def zG9:ax Tryz.prog 197:=λargs w=>Tryz.call197 args w
def zHW:ax Tryz.prog 198:=λargs w=>Tryz.call198 args w
def zFO:ax Tryz.prog 199:=λargs w=>Tryz.call199 args w
def zGu:ax Tryz.prog 200:=λargs w=>Tryz.call200 args w
def zFs:ax Tryz.prog 201:=λargs w=>Tryz.call201 args w
def zFS:ax Tryz.prog 202:=λargs w=>Tryz.call202 args w
def zEL:ax Tryz.prog 203:=λargs w=>Tryz.call203 args w
def zHH:ax Tryz.prog 204:=λargs w=>Tryz.call204 args w
def zFU:ax Tryz.prog 205:=λargs w=>Tryz.call205 args w
def zFA:ax Tryz.prog 206:=λargs w=>Tryz.call206 args w
def zGE:ax Tryz.prog 207:=λargs w=>Tryz.call207 args w
def zHu:ax Tryz.prog 208:=λargs w=>Tryz.call208 args w
def zGd:ax Tryz.prog 209:=λargs w=>Tryz.call209 args w
def zGj:ax Tryz.prog 210:=λargs w=>Tryz.call210 args w
def zFh:ax Tryz.prog 211:=λargs w=>Tryz.call211 args w
def zFV:ax Tryz.prog 212:=λargs w=>Tryz.call212 args w
def zHJ:ax Tryz.prog 213:=λargs w=>Tryz.call213 args w
def zGH:ax Tryz.prog 214:=λargs w=>Tryz.call214 args w
def zGW:ax Tryz.prog 215:=λargs w=>Tryz.call215 args w
def zFt:ax Tryz.prog 216:=λargs w=>Tryz.call216 args w
def zEz:ax Tryz.prog 217:=λargs w=>Tryz.call217 args w
def zFR:ax Tryz.prog 218:=λargs w=>Tryz.call218 args w
end Go.Pm
