import Derived.Test.YtjnidpmkglobfaaGreatPmW
import Derived.Test.YtjnidpmkglobfaaGreatProg
import Derived.KernelRfl
open Bool renaming false→Z,true→O
open Option renaming none→aa,some→J
set_option linter.defProp false
open Go.Proofs.Tryz renaming prog→zH
namespace Go.Pm
open Go.Am
open Go.Proofs
set_option maxRecDepth 100000
variable{i:Nat}
def tk3:tk zH 3=J (Z,1):=by kernel_rfl
def zr3:zr zH 3=J [.int .i64 0]:=by kernel_rfl
def zVM:dj zH 3=0:=by kernel_rfl
def zVs:kv zH 3=J .i64:=by kernel_rfl
def zVK:eS zH 3=Z:=by kernel_rfl
def tk4:tk zH 4=J (Z,1):=by kernel_rfl
def zr4:zr zH 4=J [.bool Z]:=by kernel_rfl
def zVC:dj zH 4=0:=by kernel_rfl
def zVJ:GD zH 4=O:=by kernel_rfl
def tk5:tk zH 5=J (Z,1):=by kernel_rfl
def zr5:zr zH 5=J [.int .u8 0]:=by kernel_rfl
def zVL:dj zH 5=0:=by kernel_rfl
def zU5:kv zH 5=J .u8:=by kernel_rfl
def zVy:eS zH 5=Z:=by kernel_rfl
def tk9:tk zH 9=J (Z,1):=by kernel_rfl
def zr9:zr zH 9=J [.str ⟨#[]⟩]:=by kernel_rfl
def zVO:dj zH 9=0:=by kernel_rfl
def zU4:eS zH 9=O:=by kernel_rfl
def zVq:tk zH 20=J (Z,1):=by kernel_rfl
def zVB:zr zH 20=J [.gU]:=by kernel_rfl
def zTf:dj zH 20=0:=by kernel_rfl
def zU7:tk zH 22=J (Z,1):=by kernel_rfl
def zVw:zr zH 22=J [.sl O 1 []]:=by kernel_rfl
def zTg:dj zH 22=1:=by kernel_rfl
def zUs:df zH 22=J 5:=by kernel_rfl
def zS8:eS zH 22=Z:=by kernel_rfl
def zUb:mH zH 22=J 1:=by kernel_rfl
def zSy:uu zH 22=O:=by kernel_rfl
def zVv:ez zH 22=J (1,1,[.int .u8 0]):=by kernel_rfl
def zSR :eM zH 22 i=0:=by kernel_rfl
def zU2:tk zH 25=J (O,3):=by kernel_rfl
def zVu:zr zH 25=J [.int .i64 0,.int .i64 0,.int .i64 0]:=by kernel_rfl
def zTn:dj zH 25=0:=by kernel_rfl
def zTw:nV zH 25=J (dR zH 25,[.int .i64 0,.int .i64 0,.int .i64 0]):=by kernel_rfl
def zNV:dR zH 25 0=J (0,1):=by kernel_rfl
def zNS:eM zH 25 0=0:=by kernel_rfl
def zQf:dR zH 25 1=J (1,1):=by kernel_rfl
def zOS:eM zH 25 1=0:=by kernel_rfl
def zQc:dR zH 25 2=J (2,1):=by kernel_rfl
def zNB:eM zH 25 2=0:=by kernel_rfl
def zVf:tk zH 26=J (Z,1):=by kernel_rfl
def zVh:zr zH 26=J [.sl O 2 []]:=by kernel_rfl
def zTo:dj zH 26=2:=by kernel_rfl
def zSY:df zH 26=J 70:=by kernel_rfl
def zUE:eS zH 26=Z:=by kernel_rfl
def zUh:mH zH 26=J 2:=by kernel_rfl
def zU6:ez zH 26=J (2,16,[.int .i64 0,.int .i64 0]):=by kernel_rfl
def zTV :eM zH 26 i=0:=by kernel_rfl
def zVD:tk zH 27=J (Z,1):=by kernel_rfl
def zUV:zr zH 27=J [.sl O 1 []]:=by kernel_rfl
def zUr:dj zH 27=1:=by kernel_rfl
def zUy:df zH 27=J 3:=by kernel_rfl
def zTF:eS zH 27=Z:=by kernel_rfl
def zSQ:mH zH 27=J 1:=by kernel_rfl
def zKn:ez zH 27=J (1,8,[.int .i64 0]):=by kernel_rfl
def zSA :eM zH 27 i=0:=by kernel_rfl
def zVH:tk zH 28=J (Z,1):=by kernel_rfl
def zVn:zr zH 28=J [.sl O 1 []]:=by kernel_rfl
def zUC:dj zH 28=1:=by kernel_rfl
def zSC:df zH 28=J 27:=by kernel_rfl
def zSN:eS zH 28=Z:=by kernel_rfl
def zSX:mH zH 28=J 1:=by kernel_rfl
def zVF:ez zH 28=J (1,24,[.sl Z 1 []]):=by kernel_rfl
def zTR :eM zH 28 i=1:=by kernel_rfl
def zU9:tk zH 31=J (Z,1):=by kernel_rfl
def zVA:zr zH 31=J [.sl O 13 []]:=by kernel_rfl
def zSB:dj zH 31=13:=by kernel_rfl
def zTE:df zH 31=J 62:=by kernel_rfl
def zUP:eS zH 31=Z:=by kernel_rfl
def zTZ:mH zH 31=J 13:=by kernel_rfl
def zVp:ez zH 31=J (13,296,[.int .i64 0,.sl Z 2 [],.sl Z 1 [],.sl Z 1 [],.sl Z 1 [],.sl Z 1 [],.sl Z 1 [],.sl Z 1 [],.sl Z 1 [],.sl Z 1 [],.sl Z 1 [],.sl Z 1 [],.sl Z 1 []]):=by kernel_rfl
def zST :eM zH 31 i=0:=by kernel_rfl
def zVd:tk zH 46=J (Z,1):=by kernel_rfl
def zVb:zr zH 46=J [.gy]:=by kernel_rfl
def zTW:dj zH 46=0:=by kernel_rfl
def zVi:tk zH 47=J (Z,1):=by kernel_rfl
def zUU:zr zH 47=J [.int .u64 0]:=by kernel_rfl
def zUk:dj zH 47=0:=by kernel_rfl
def zT7:kv zH 47=J .u64:=by kernel_rfl
def zUc:eS zH 47=Z:=by kernel_rfl
def zVl:tk zH 49=J (O,3):=by kernel_rfl
def zVG:zr zH 49=J [.sl O 1 [],.int .i64 0,.int .u64 0]:=by kernel_rfl
def zTH:dj zH 49=0:=by kernel_rfl
def zSw:nV zH 49=J (dR zH 49,[.sl O 1 [],.int .i64 0,.int .u64 0]):=by kernel_rfl
def zPn:dR zH 49 0=J (0,1):=by kernel_rfl
def zOn:eM zH 49 0=1:=by kernel_rfl
def zNl:dR zH 49 1=J (1,1):=by kernel_rfl
def zQA:eM zH 49 1=0:=by kernel_rfl
def zNW:dR zH 49 2=J (2,1):=by kernel_rfl
def zPu:eM zH 49 2=0:=by kernel_rfl
def zVQ:tk zH 52=J (O,2):=by kernel_rfl
def zU1:zr zH 52=J [.int .i64 0,.sl O 1 []]:=by kernel_rfl
def zUx:dj zH 52=0:=by kernel_rfl
def zTN:nV zH 52=J (dR zH 52,[.int .i64 0,.sl O 1 []]):=by kernel_rfl
def zO3:dR zH 52 0=J (0,1):=by kernel_rfl
def zOP:eM zH 52 0=0:=by kernel_rfl
def zOz:dR zH 52 1=J (1,1):=by kernel_rfl
def zNo:eM zH 52 1=1:=by kernel_rfl
def zVE:tk zH 56=J (O,3):=by kernel_rfl
def zVk:zr zH 56=J [.sl O 1 [],.sl O 1 [],.sl O 1 []]:=by kernel_rfl
def zTJ:dj zH 56=0:=by kernel_rfl
def zSt:nV zH 56=J (dR zH 56,[.sl O 1 [],.sl O 1 [],.sl O 1 []]):=by kernel_rfl
def zQm:dR zH 56 0=J (0,1):=by kernel_rfl
def zQq:eM zH 56 0=1:=by kernel_rfl
def zO2:dR zH 56 1=J (1,1):=by kernel_rfl
def zOt:eM zH 56 1=1:=by kernel_rfl
def zOZ:dR zH 56 2=J (2,1):=by kernel_rfl
def zPN:eM zH 56 2=1:=by kernel_rfl
def zVg:tk zH 58=J (O,5):=by kernel_rfl
def zUZ:zr zH 58=J [.sl O 1 [],.sl O 1 [],.sl O 1 [],.sl O 1 [],.sl O 1 []]:=by kernel_rfl
def zSL:dj zH 58=0:=by kernel_rfl
def zTt:nV zH 58=J (dR zH 58,[.sl O 1 [],.sl O 1 [],.sl O 1 [],.sl O 1 [],.sl O 1 []]):=by kernel_rfl
def zN6:dR zH 58 0=J (0,1):=by kernel_rfl
def zNi:eM zH 58 0=1:=by kernel_rfl
def zNm:dR zH 58 1=J (1,1):=by kernel_rfl
def zQl:eM zH 58 1=1:=by kernel_rfl
def zN5:dR zH 58 2=J (2,3):=by kernel_rfl
def zQo:eM zH 58 2=0:=by kernel_rfl
def zVI:tk zH 60=J (O,6):=by kernel_rfl
def zUW:zr zH 60=J [.sl O 1 [],.sl O 1 [],.sl O 1 [],.sl O 1 [],.sl O 1 [],.sl O 1 []]:=by kernel_rfl
def zTA:dj zH 60=0:=by kernel_rfl
def zUj:nV zH 60=J (dR zH 60,[.sl O 1 [],.sl O 1 [],.sl O 1 [],.sl O 1 [],.sl O 1 [],.sl O 1 []]):=by kernel_rfl
def zNw:dR zH 60 0=J (0,1):=by kernel_rfl
def zNx:eM zH 60 0=1:=by kernel_rfl
def zO4:dR zH 60 1=J (1,1):=by kernel_rfl
def zQv:eM zH 60 1=1:=by kernel_rfl
def zPk:dR zH 60 2=J (2,1):=by kernel_rfl
def zOg:eM zH 60 2=1:=by kernel_rfl
def zOK:dR zH 60 3=J (3,3):=by kernel_rfl
def zNU:eM zH 60 3=0:=by kernel_rfl
def zVR:tk zH 62=J (O,13):=by kernel_rfl
def zVo:zr zH 62=J [.int .i64 0,.sl O 2 [],.sl O 1 [],.sl O 1 [],.sl O 1 [],.sl O 1 [],.sl O 1 [],.sl O 1 [],.sl O 1 [],.sl O 1 [],.sl O 1 [],.sl O 1 [],.sl O 1 []]:=by kernel_rfl
def zUp:dj zH 62=0:=by kernel_rfl
def zTc:nV zH 62=J (dR zH 62,[.int .i64 0,.sl O 2 [],.sl O 1 [],.sl O 1 [],.sl O 1 [],.sl O 1 [],.sl O 1 [],.sl O 1 [],.sl O 1 [],.sl O 1 [],.sl O 1 [],.sl O 1 [],.sl O 1 []]):=by kernel_rfl
def zNy:dR zH 62 0=J (0,1):=by kernel_rfl
def zOr:eM zH 62 0=0:=by kernel_rfl
def zNT:dR zH 62 1=J (1,1):=by kernel_rfl
def zPc:eM zH 62 1=2:=by kernel_rfl
def zOq:dR zH 62 2=J (2,5):=by kernel_rfl
def zPa:eM zH 62 2=0:=by kernel_rfl
def zPb:dR zH 62 3=J (7,6):=by kernel_rfl
def zQE:eM zH 62 3=0:=by kernel_rfl
def zVN:tk zH 70=J (O,2):=by kernel_rfl
def zU0:zr zH 70=J [.int .i64 0,.int .i64 0]:=by kernel_rfl
def zTC:dj zH 70=0:=by kernel_rfl
def zT6:Cg zH 70=J [0,1]:=by kernel_rfl
def zUl:nV zH 70=J (dR zH 70,[.int .i64 0,.int .i64 0]):=by kernel_rfl
def zNM:dR zH 70 0=J (0,1):=by kernel_rfl
def zPD:eM zH 70 0=0:=by kernel_rfl
def zOH:dR zH 70 1=J (1,1):=by kernel_rfl
def zPr:eM zH 70 1=0:=by kernel_rfl
def zUX:tk zH 74=J (Z,1):=by kernel_rfl
def zUY:zr zH 74=J [.fX]:=by kernel_rfl
def zSU:dj zH 74=0:=by kernel_rfl
def zU8:tk zH 76=J (Z,1):=by kernel_rfl
def zVc:zr zH 76=J [.fX]:=by kernel_rfl
def zTz:dj zH 76=0:=by kernel_rfl
def zSJ:tk zH 130=J (Z,1):=by kernel_rfl
def zSG:zr zH 130=J [.int .u64 0]:=by kernel_rfl
def zRO:dj zH 130=0:=by kernel_rfl
def zRE:kv zH 130=J .u64:=by kernel_rfl
def zRN:eS zH 130=Z:=by kernel_rfl
def zSD:tk zH 134=J (Z,1):=by kernel_rfl
def zTG:zr zH 134=J [.fX]:=by kernel_rfl
def zSd:dj zH 134=0:=by kernel_rfl
def zTY:tk zH 138=J (Z,1):=by kernel_rfl
def zT4:zr zH 138=J [.gy]:=by kernel_rfl
def zRC:dj zH 138=0:=by kernel_rfl
def zSr:tk zH 140=J (O,1):=by kernel_rfl
def zSV:zr zH 140=J [.sl O 1 []]:=by kernel_rfl
def zRr:dj zH 140=0:=by kernel_rfl
def zSo:nV zH 140=J (dR zH 140,[.sl O 1 []]):=by kernel_rfl
def zJJ:dR zH 140 0=J (0,1):=by kernel_rfl
def zLm:eM zH 140 0=1:=by kernel_rfl
def zUT:tk zH 154=J (O,5):=by kernel_rfl
def zSH:zr zH 154=J [.sl O 1 [],.sl O 1 [],.sl O 1 [],.sl O 1 [],.sl O 1 []]:=by kernel_rfl
def zQ4:dj zH 154=0:=by kernel_rfl
def zRB:mH zH 154=aa:=by kernel_rfl
def zQQ:JW zH 154=J (5,1):=by kernel_rfl
def zRT :eM zH 154 i=1:=by kernel_rfl
def zRx:nV zH 154=J (λi=>J (i*1,1),[.sl O 1 [],.sl O 1 [],.sl O 1 [],.sl O 1 [],.sl O 1 []]):=by kernel_rfl
def zS2:tk zH 161=J (Z,1):=by kernel_rfl
def zUt:zr zH 161=J [.fX]:=by kernel_rfl
def zRP:dj zH 161=0:=by kernel_rfl
def zUw:tk zH 188=J (Z,1):=by kernel_rfl
def zT8:zr zH 188=J [.gy]:=by kernel_rfl
def zR7:dj zH 188=0:=by kernel_rfl
def zS4:tk zH 190=J (O,2):=by kernel_rfl
def zSu:zr zH 190=J [.int .i64 0,.int .i64 0]:=by kernel_rfl
def zRl:dj zH 190=0:=by kernel_rfl
def zQH:nV zH 190=J (dR zH 190,[.int .i64 0,.int .i64 0]):=by kernel_rfl
def zJH:dR zH 190 0=J (0,1):=by kernel_rfl
def zJx:eM zH 190 0=0:=by kernel_rfl
def zLo:dR zH 190 1=J (1,1):=by kernel_rfl
def zJF:eM zH 190 1=0:=by kernel_rfl
attribute[go_sem]tk3 zr3 zVM zVs zVK tk4 zr4 zVC zVJ tk5 zr5 zVL zU5 zVy tk9 zr9 zVO zU4 zVq zVB zTf zU7 zVw zTg zUs zS8 zUb zSy zVv zSR zU2 zVu zTn zTw zNV zNS zQf zOS zQc zNB zVf zVh zTo zSY zUE zUh zU6 zTV zVD zUV zUr zUy zTF zSQ zKn zSA zVH zVn zUC zSC zSN zSX zVF zTR zU9 zVA zSB zTE zUP zTZ zVp zST zVd zVb zTW zVi zUU zUk zT7 zUc zVl zVG zTH zSw zPn zOn zNl zQA zNW zPu zVQ zU1 zUx zTN zO3 zOP zOz zNo zVE zVk zTJ zSt zQm zQq zO2 zOt zOZ zPN zVg zUZ zSL zTt zN6 zNi zNm zQl zN5 zQo zVI zUW zTA zUj zNw zNx zO4 zQv zPk zOg zOK zNU zVR zVo zUp zTc zNy zOr zNT zPc zOq zPa zPb zQE zVN zU0 zTC zT6 zUl zNM zPD zOH zPr zUX zUY zSU zU8 zVc zTz zSJ zSG zRO zRE zRN zSD zTG zSd zTY zT4 zRC zSr zSV zRr zSo zJJ zLm zUT zSH zQ4 zRB zQQ zRT zRx zS2 zUt zRP zUw zT8 zR7 zS4 zSu zRl zQH zJH zJx zLo zJF
def follows:zH.follows .mixedOrders=O:=by kernel_rfl
def cl3:aC zH 3:=λargs w=>Tryz.call3 args w
def cl4:aC zH 4:=λargs w=>Tryz.call4 args w
def cl5:aC zH 5:=λargs w=>Tryz.call5 args w
def cl6:aC zH 6:=λargs w=>Tryz.call6 args w
def cl7:aC zH 7:=λargs w=>Tryz.call7 args w
def cl8:aC zH 8:=λargs w=>Tryz.call8 args w
def cl9:aC zH 9:=λargs w=>Tryz.call9 args w
def zJm:aC zH 10:=λargs w=>Tryz.call10 args w
def zIT:aC zH 11:=λargs w=>Tryz.call11 args w
def zLH:aC zH 12:=λargs w=>Tryz.call12 args w
def zMw:aC zH 13:=λargs w=>Tryz.call13 args w
def zKp:aC zH 14:=λargs w=>Tryz.call14 args w
def zIQ:aC zH 15:=λargs w=>Tryz.call15 args w
def zLb:aC zH 16:=λargs w=>Tryz.call16 args w
def zJG:aC zH 17:=λargs w=>Tryz.call17 args w
def zLf:aC zH 18:=λargs w=>Tryz.call18 args w
def zLy:aC zH 19:=λargs w=>Tryz.call19 args w
def zMq:aC zH 20:=λargs w=>Tryz.call20 args w
def zJ0:aC zH 21:=λargs w=>Tryz.call21 args w
def zM5:aC zH 22:=λargs w=>Tryz.call22 args w
def zKq:aC zH 23:=λargs w=>Tryz.call23 args w
def zLT:aC zH 24:=λargs w=>Tryz.call24 args w
def zLA:aC zH 25:=λargs w=>Tryz.call25 args w
def zKY:aC zH 26:=λargs w=>Tryz.call26 args w
def zKC:aC zH 27:=λargs w=>Tryz.call27 args w
def zJf:aC zH 28:=λargs w=>Tryz.call28 args w
def zKL:aC zH 29:=λargs w=>Tryz.call29 args w
def zJz:aC zH 30:=λargs w=>Tryz.call30 args w
def zJ1:aC zH 31:=λargs w=>Tryz.call31 args w
def zMY:aC zH 32:=λargs w=>Tryz.call32 args w
def zMI:aC zH 33:=λargs w=>Tryz.call33 args w
def zKM:aC zH 34:=λargs w=>Tryz.call34 args w
def zKG:aC zH 35:=λargs w=>Tryz.call35 args w
def zM3:aC zH 36:=λargs w=>Tryz.call36 args w
def zLS:aC zH 37:=λargs w=>Tryz.call37 args w
def zJW:aC zH 38:=λargs w=>Tryz.call38 args w
def NU:aC zH 39:=λargs w=>Tryz.call39 args w
def zKu:aC zH 40:=λargs w=>Tryz.call40 args w
def zK3:aC zH 41:=λargs w=>Tryz.call41 args w
def zML:aC zH 42:=λargs w=>Tryz.call42 args w
def zLZ:aC zH 43:=λargs w=>Tryz.call43 args w
def zI4:aC zH 44:=λargs w=>Tryz.call44 args w
def zKT:aC zH 45:=λargs w=>Tryz.call45 args w
def zJA:aC zH 46:=λargs w=>Tryz.call46 args w
def zMy:aC zH 47:=λargs w=>Tryz.call47 args w
def zJd:aC zH 48:=λargs w=>Tryz.call48 args w
def zJN:aC zH 49:=λargs w=>Tryz.call49 args w
def zLc:aC zH 50:=λargs w=>Tryz.call50 args w
def zLv:aC zH 51:=λargs w=>Tryz.call51 args w
def zK0:aC zH 52:=λargs w=>Tryz.call52 args w
def zMA:aC zH 53:=λargs w=>Tryz.call53 args w
def zJM:aC zH 54:=λargs w=>Tryz.call54 args w
def zKS:aC zH 55:=λargs w=>Tryz.call55 args w
def zLz:aC zH 56:=λargs w=>Tryz.call56 args w
def zLG:aC zH 57:=λargs w=>Tryz.call57 args w
def zLw:aC zH 58:=λargs w=>Tryz.call58 args w
def zNf:aC zH 59:=λargs w=>Tryz.call59 args w
def zJ7:aC zH 60:=λargs w=>Tryz.call60 args w
def zMf:aC zH 61:=λargs w=>Tryz.call61 args w
def zL2:aC zH 62:=λargs w=>Tryz.call62 args w
def zLX:aC zH 63:=λargs w=>Tryz.call63 args w
def zMZ:aC zH 64:=λargs w=>Tryz.call64 args w
def zKF:aC zH 65:=λargs w=>Tryz.call65 args w
def zIW:aC zH 66:=λargs w=>Tryz.call66 args w
def zLn:aC zH 67:=λargs w=>Tryz.call67 args w
def zKt:aC zH 68:=λargs w=>Tryz.call68 args w
def zK9:aC zH 69:=λargs w=>Tryz.call69 args w
def zIY:aC zH 70:=λargs w=>Tryz.call70 args w
def zJI:aC zH 71:=λargs w=>Tryz.call71 args w
def zMm:aC zH 72:=λargs w=>Tryz.call72 args w
def zLe:aC zH 73:=λargs w=>Tryz.call73 args w
def zMl:aC zH 74:=λargs w=>Tryz.call74 args w
def zCQ:aC zH 75:=λargs w=>Tryz.call75 args w
def zIZ:aC zH 76:=λargs w=>Tryz.call76 args w
def zMC:aC zH 77:=λargs w=>Tryz.call77 args w
def Nh:aC zH 78:=λargs w=>Tryz.call78 args w
def Nm:aC zH 79:=λargs w=>Tryz.call79 args w
def zLW:aC zH 80:=λargs w=>Tryz.call80 args w
def zI2:aC zH 81:=λargs w=>Tryz.call81 args w
def zMK:aC zH 82:=λargs w=>Tryz.call82 args w
def zLV:aC zH 83:=λargs w=>Tryz.call83 args w
def zKA:aC zH 84:=λargs w=>Tryz.call84 args w
def zJR:aC zH 85:=λargs w=>Tryz.call85 args w
def zIX:aC zH 86:=λargs w=>Tryz.call86 args w
def zLO:aC zH 87:=λargs w=>Tryz.call87 args w
def zL1:aC zH 88:=λargs w=>Tryz.call88 args w
def zNd:aC zH 89:=λargs w=>Tryz.call89 args w
def zMs:aC zH 90:=λargs w=>Tryz.call90 args w
def zLu:aC zH 91:=λargs w=>Tryz.call91 args w
def zJr:aC zH 92:=λargs w=>Tryz.call92 args w
def zKV:aC zH 93:=λargs w=>Tryz.call93 args w
def zMc:aC zH 94:=λargs w=>Tryz.call94 args w
def zJ2:aC zH 95:=λargs w=>Tryz.call95 args w
def zMu:aC zH 96:=λargs w=>Tryz.call96 args w
def zJ8:aC zH 97:=λargs w=>Tryz.call97 args w
def zLx:aC zH 98:=λargs w=>Tryz.call98 args w
def zLr:aC zH 99:=λargs w=>Tryz.call99 args w
def zGV:aC zH 100:=λargs w=>Tryz.call100 args w
def zEo:aC zH 101:=λargs w=>Tryz.call101 args w
def zFN:aC zH 102:=λargs w=>Tryz.call102 args w
def zDR:aC zH 103:=λargs w=>Tryz.call103 args w
def zEf:aC zH 104:=λargs w=>Tryz.call104 args w
def zFR:aC zH 105:=λargs w=>Tryz.call105 args w
def zFx:aC zH 106:=λargs w=>Tryz.call106 args w
def zEi:aC zH 107:=λargs w=>Tryz.call107 args w
def zEq:aC zH 108:=λargs w=>Tryz.call108 args w
def zGN:aC zH 109:=λargs w=>Tryz.call109 args w
def zEr:aC zH 110:=λargs w=>Tryz.call110 args w
def zEv:aC zH 111:=λargs w=>Tryz.call111 args w
def Nq:aC zH 112:=λargs w=>Tryz.call112 args w
def zFq:aC zH 113:=λargs w=>Tryz.call113 args w
def zFo:aC zH 114:=λargs w=>Tryz.call114 args w
def zF6:aC zH 115:=λargs w=>Tryz.call115 args w
def zEH:aC zH 116:=λargs w=>Tryz.call116 args w
def zEF:aC zH 117:=λargs w=>Tryz.call117 args w
def zFc:aC zH 118:=λargs w=>Tryz.call118 args w
def zHi:aC zH 119:=λargs w=>Tryz.call119 args w
def zEA:aC zH 120:=λargs w=>Tryz.call120 args w
def zFe:aC zH 121:=λargs w=>Tryz.call121 args w
def zDT:aC zH 122:=λargs w=>Tryz.call122 args w
def zF5:aC zH 123:=λargs w=>Tryz.call123 args w
def zDW:aC zH 124:=λargs w=>Tryz.call124 args w
def zGa:aC zH 125:=λargs w=>Tryz.call125 args w
def zEa:aC zH 126:=λargs w=>Tryz.call126 args w
def zFS:aC zH 127:=λargs w=>Tryz.call127 args w
def zEt:aC zH 128:=λargs w=>Tryz.call128 args w
def zHa:aC zH 129:=λargs w=>Tryz.call129 args w
def zGH:aC zH 130:=λargs w=>Tryz.call130 args w
def zDX:aC zH 131:=λargs w=>Tryz.call131 args w
def zGZ:aC zH 132:=λargs w=>Tryz.call132 args w
def zEj:aC zH 133:=λargs w=>Tryz.call133 args w
def zEI:aC zH 134:=λargs w=>Tryz.call134 args w
def zEx:aC zH 135:=λargs w=>Tryz.call135 args w
def zD2:aC zH 136:=λargs w=>Tryz.call136 args w
def zDY:aC zH 137:=λargs w=>Tryz.call137 args w
def zFK:aC zH 138:=λargs w=>Tryz.call138 args w
def zEh:aC zH 139:=λargs w=>Tryz.call139 args w
def zFi:aC zH 140:=λargs w=>Tryz.call140 args w
def zFj:aC zH 141:=λargs w=>Tryz.call141 args w
def zHe:aC zH 142:=λargs w=>Tryz.call142 args w
def zFa:aC zH 143:=λargs w=>Tryz.call143 args w
def zD5:aC zH 144:=λargs w=>Tryz.call144 args w
def zE9:aC zH 145:=λargs w=>Tryz.call145 args w
def zGy:aC zH 146:=λargs w=>Tryz.call146 args w
def zG6:aC zH 147:=λargs w=>Tryz.call147 args w
def zGx:aC zH 148:=λargs w=>Tryz.call148 args w
def zGQ:aC zH 149:=λargs w=>Tryz.call149 args w
def zE1:aC zH 150:=λargs w=>Tryz.call150 args w
def zGJ:aC zH 151:=λargs w=>Tryz.call151 args w
def zFT:aC zH 152:=λargs w=>Tryz.call152 args w
def zFA:aC zH 153:=λargs w=>Tryz.call153 args w
def zGv:aC zH 154:=λargs w=>Tryz.call154 args w
def zHo:aC zH 155:=λargs w=>Tryz.call155 args w
def zGf:aC zH 156:=λargs w=>Tryz.call156 args w
def zFp:aC zH 157:=λargs w=>Tryz.call157 args w
def zEd:aC zH 158:=λargs w=>Tryz.call158 args w
def zGI:aC zH 159:=λargs w=>Tryz.call159 args w
def zFL:aC zH 160:=λargs w=>Tryz.call160 args w
def zFk:aC zH 161:=λargs w=>Tryz.call161 args w
def zGm:aC zH 162:=λargs w=>Tryz.call162 args w
def zF0:aC zH 163:=λargs w=>Tryz.call163 args w
def zEX:aC zH 164:=λargs w=>Tryz.call164 args w
def zEk:aC zH 165:=λargs w=>Tryz.call165 args w
def zHn:aC zH 166:=λargs w=>Tryz.call166 args w
def zEQ:aC zH 167:=λargs w=>Tryz.call167 args w
def zGE:aC zH 168:=λargs w=>Tryz.call168 args w
def zGO:aC zH 169:=λargs w=>Tryz.call169 args w
def zFr:aC zH 170:=λargs w=>Tryz.call170 args w
def zFh:aC zH 171:=λargs w=>Tryz.call171 args w
def zFI:aC zH 172:=λargs w=>Tryz.call172 args w
def zGt:aC zH 173:=λargs w=>Tryz.call173 args w
def zEb:aC zH 174:=λargs w=>Tryz.call174 args w
def zE3:aC zH 175:=λargs w=>Tryz.call175 args w
def zED:aC zH 176:=λargs w=>Tryz.call176 args w
def zEs:aC zH 177:=λargs w=>Tryz.call177 args w
def zGb:aC zH 178:=λargs w=>Tryz.call178 args w
def zE2:aC zH 179:=λargs w=>Tryz.call179 args w
def zEe:aC zH 180:=λargs w=>Tryz.call180 args w
def zFG:aC zH 181:=λargs w=>Tryz.call181 args w
def zGS:aC zH 182:=λargs w=>Tryz.call182 args w
def zEJ:aC zH 183:=λargs w=>Tryz.call183 args w
def zHg:aC zH 184:=λargs w=>Tryz.call184 args w
def zHl:aC zH 185:=λargs w=>Tryz.call185 args w
def zGR:aC zH 186:=λargs w=>Tryz.call186 args w
def zGA:aC zH 187:=λargs w=>Tryz.call187 args w
def zGT:aC zH 188:=λargs w=>Tryz.call188 args w
def zFB:aC zH 189:=λargs w=>Tryz.call189 args w
def zFQ:aC zH 190:=λargs w=>Tryz.call190 args w
def zFE:aC zH 191:=λargs w=>Tryz.call191 args w
def zEW:aC zH 192:=λargs w=>Tryz.call192 args w
def zD1:aC zH 193:=λargs w=>Tryz.call193 args w
end Go.Pm
