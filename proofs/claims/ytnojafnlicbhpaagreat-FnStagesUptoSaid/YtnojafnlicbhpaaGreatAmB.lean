import Derived.Test.YtnojafnlicbhpaaGreatAmA
open Bool renaming false→aa,true→Z
open Option renaming none→ae,some→J
set_option linter.defProp false
namespace Go.Am
inductive FV where
 |v (x:Value)
 |skip
 |loc (cells:List Value)
 |lp (slot off:Nat)
 |ls (len es:Nat) (cells:List Value)
abbrev FR:=Nat->FV
def jv:FV:=.v (.tuple #[])
def FR.put(fr:FR)(d:Nat)(x:FV):FR:=λt=>if t=d then x else fr t
def lD(d:Nat):FV->FV
 | .lp s o=>if s=d then jv else .lp s o
 |x=>x
def FR.fh(fr:FR)(d:Nat)(cells:List Value):FR:=λt=>if t=d then .loc cells else lD d (fr t)
def FR.init(args:List Value):FR:=λt=>match args[t]? with
 |some x=>.v x
 |none=>.skip
def FR.eU:List (Nat×FV)->FR
 |[],_=>jv
 |(s,x)::l,t=>if t=s then x else FR.eU l t
def AH.push(H:AH)(k:mD):AH:=⟨H.n+1,λi=>if i=H.n then J k else H.b i⟩
def AH.set(H:AH)(id:Nat)(k:Option mD):AH:=⟨H.n,λi=>if i=id then k else H.b i⟩
def AH.load(H:AH)(id off:Nat):Option (List Value):=(H.b id).map λk=>k.cells.drop off
def uy:Nat->List Value->Option (List Value)
 |0,_=>J []
 |_+1,[]=>ae
 |n+1,x::xs=>(uy n xs).map (x:: ·)
def gq:List Value->Nat->List Value->Option (List Value)
 |cs,_,[]=>J cs
 |[],_,_::_=>ae
 |c::cs,n+1,xs=>(gq cs n xs).map (c:: ·)
 |_::cs,0,x::xs=>(gq cs 0 xs).map (x:: ·)
def cF(P:Program)(t:TypeId):Option (Bool×Nat×Nat×List Value):=
 match P.info? t,P.underlying t with
 |some i,J d=>i.zero.map λz=>((match d with| .struct _| .array _ _=>Z|_=>aa),i.size,i.bytes,z.cells.toList)
 |_,_=>ae
def dA(P:Program)(s:TypeId)(f:Nat):Option (Nat×Nat):=
 match P.underlying s with
 |some (.struct jX)=>match jX[f]? with
  |some fd=>match P.info? fd.type with
   |some i=>if i.size=0 then ae else J (fd.offset,i.size)
   |none=>ae
  |none=>ae
 |_=>ae
def cW(P:Program)(t:TypeId):Option TypeId:=
 match P.underlying t with
 |some (.slice e)=>J e
 |_=>ae
def Bo(P:Program)(t:TypeId):Option (Nat×TypeId):=
 match P.underlying t with
 |some (.array n e)=>J (n,e)
 |_=>ae
def j9(P:Program)(t:TypeId):Option IntKind:=
 match P.underlying t with
 |some (.int k)=>J k
 |_=>ae
def EW(P:Program)(t:TypeId):Bool:=
 match P.underlying t with
 |some .bool=>Z
 |_=>aa
def eC(P:Program)(t:TypeId):Bool:=
 match P.underlying t with
 |some .string=>Z
 |_=>aa
def cz:Value->Bool
 | .bool _| .int .. | .string _| .pointer ae| .nilFunc| .nilIface=>Z
 | .slice ae 0 0=>Z
 | .agg cs=>cs.toList.all λ| .bool _| .int .. | .string _| .pointer ae| .nilFunc| .nilIface=>Z| .slice ae 0 0=>Z|_=>aa
 |_=>aa
def be(fr:FR):Operand->Option Value
 | .tmp t=>match fr t with
  | .v x=>J x
  |_=>ae
 | .const c=>if cz c then J c else ae
 | .func f=>J (.func (.func f) #[] #[])
 | .global _=>ae
def bO(fr:FR):Operand->Option FV
 | .tmp t=>match fr t with
  | .v x=>J (.v x)
  | .loc _=>J (.lp t 0)
  | .lp s o=>match fr s with
   | .loc _=>J (.lp s o)
   |_=>ae
  |_=>ae
 |x=>(be fr x).map .v
def bg(fr:FR)(H:AH):Operand->Option (Value×FR×AH)
 | .tmp t=>match fr t with
  | .v x=>J (x,fr,H)
  | .ls len es cells=>J (.slice (J ⟨H.n,0,J es⟩) len len,fr.put t (.v (.slice (J ⟨H.n,0,J es⟩) len len)),H.push ⟨Z,cells⟩)
  |_=>ae
 |x=>(be fr x).map λv=>(v,fr,H)
def cr(fr:FR)(H:AH):List Operand->Option (List Value×FR×AH)
 |[]=>J ([],fr,H)
 |x::xs=>match bg fr H x with
  |some (v,ak,H')=>match cr ak H' xs with
   |some (vs,r)=>J (v::vs,r)
   |none=>ae
  |none=>ae
def kh(op:BinOp)(k:IntKind)(x y:Int):Option Value:=
 match op with
 | .add=>J (.int k (k.wrap (x+y)))
 | .sub=>J (.int k (k.wrap (x-y)))
 | .mul=>J (.int k (k.wrap (x*y)))
 | .quo=>if y=0 then ae else J (.int k (k.wrap (x.tdiv y)))
 | .rem=>if y=0 then ae else J (.int k (x.tmod y))
 | .and=>J (.int k (k.wrap (BitVec.ofInt k.bits x&&&BitVec.ofInt k.bits y).toNat))
 | .or=>J (.int k (k.wrap (BitVec.ofInt k.bits x|||BitVec.ofInt k.bits y).toNat))
 | .xor=>J (.int k (k.wrap (BitVec.ofInt k.bits x^^^BitVec.ofInt k.bits y).toNat))
 | .eql=>J (.bool (x==y))
 | .neq=>J (.bool (x !=y))
 | .lss=>J (.bool (x<y))
 | .leq=>J (.bool (x<=y))
 | .gtr=>J (.bool (x>y))
 | .geq=>J (.bool (x>=y))
 |_=>ae
def HX(P:Program):List Field->Option (List Nat)
 |[]=>J []
 |f::fs=>if f.name≠ "_"/\(j9 P f.type).isSome=Z then(HX P fs).map λl=>f.offset::l else ae
def CI(P:Program)(t:TypeId):Option (List Nat):=
 match P.underlying t with
 |some (.struct fs)=>if P.stoodInHeld t=aa/\P.eqGuardType P.depth t=aa then HX P fs.toList else ae
 |_=>ae
def tD(xs ys:List Value):List Nat->Option Bool
 |[]=>J Z
 |o::os=>match xs[o]?,ys[o]? with
  |some (.int j a),J (.int i b)=>if j=i then(tD xs ys os).map λr=>a==b&&r else ae
  |_,_=>ae
def di(P:Program)(op:BinOp)(t:TypeId)(x y:Value):Option Value:=
 match x,y with
 | .agg xs,.agg ys=>match op with
  | .eql=>((CI P t).bind (tD xs.toList ys.toList)).map .bool
  | .neq=>((CI P t).bind (tD xs.toList ys.toList)).map λr=>.bool !r
  |_=>ae
 | .int k a,.int j b=>match op with
  | .shl=>if b<0 then ae else J (.int k (k.wrap (a*2^min b.toNat k.bits)))
  | .shr=>if b<0 then ae else J (.int k (a.fdiv (2^min b.toNat k.bits)))
  |_=>if k=j then kh op k a b else ae
 | .bool a,.bool b=>if EW P t then match op with
  | .eql=>J (.bool (a==b))
  | .neq=>J (.bool (a !=b))
  |_=>ae
  else ae
 | .string a,.string b=>match op with
  | .eql=>J (.bool (a.toList==b.toList))
  | .neq=>J (.bool !(a.toList==b.toList))
  | .add=>if a.size+b.size<=9223372036854775807 then J (.string (a++b))else ae
  |_=>ae
 |_,_=>ae
def EU(op:UnOp)(x:Value):Option Value:=
 match op,x with
 | .not,.bool b=>J (.bool !b)
 | .neg,.int k n=>J (.int k (k.wrap (0-n)))
 |_,_=>ae
def GU(P:Program)(s d:TypeId)(x:Value):Option Value:=
 match P.underlying s,j9 P d,x with
 |some _,J k,.int _ n=>J (.int k (k.wrap n))
 |_,_,_=>ae
def mH:Value->Bool
 | .tuple _=>aa
 |_=>Z
def jJ(lz:Nat->Option (Nat×Nat)):List (Nat×Value)->List Value->Option (List Value)
 |[],cs=>J cs
 |(i,v)::r,cs=>match lz i with
  |some (off,size)=>if mH v&&v.cells.toList.length==size&&size !=0 then
   match gq cs off v.cells.toList with
   |some fc=>jJ lz r fc
   |none=>ae
   else ae
  |none=>ae
def v5(d:Nat):Option Value->Option Nat
 |none=>J d
 |some (.int _ l)=>if 0<=l then J l.toNat else ae
 |_=>ae
def za:Option Value->Option (Option Nat)
 |none=>J ae
 |some (.int _ l)=>if 0<=l then J (J l.toNat)else ae
 |_=>ae
def oR(lo hi mx:Option Value)(n c:Nat):Option (Nat×Nat×Option Nat):=
 match v5 0 lo,v5 n hi,za mx with
 |some l,J h,J ae=>if l<=h/\h<=c then J (l,h,ae)else ae
 |some l,J h,J (J m)=>if l<=h/\h<=m/\m<=c/\hi.isSome then J (l,h,J m)else ae
 |_,_,_=>ae
def n7(P:Program)(t:TypeId)(x:Value)(lo hi mx:Option Value):Option Value:=
 match x with
 | .slice (J ⟨id,off,J bA⟩) n c=>match cW P t with
  |some e=>match cF P e with
   |some (_,es,_)=>if es≠bA then ae else match oR lo hi mx n c with
    |some (l,h,ae)=>J (.slice (J ⟨id,off+l*es,J es⟩) (h-l) (c-l))
    |some (l,h,J m)=>if m-l=0 then J (.slice ae 0 0)else J (.slice (J ⟨id,off+l*es,J es⟩) (h-l) (m-l))
    |none=>ae
   |none=>ae
  |none=>ae
 | .slice ae 0 0=>match cW P t with
  |some e=>match cF P e with
   |some _=>match oR lo hi mx 0 0 with
    |some _=>J (.slice ae 0 0)
    |none=>ae
   |none=>ae
  |none=>ae
 | .string s=>if eC P t then match oR lo hi mx s.size s.size with
  |some (l,h,ae)=>J (.string (s.extract l h))
  |_=>ae
  else ae
 |_=>ae
def iX(P:Program)(t:TypeId)(x:Value):Option Value:=
 match x with
 | .slice _ n _=>match cW P t with
  |some _=>J (.int .i64 n)
  |none=>ae
 | .string s=>if eC P t then J (.int .i64 s.size)else ae
 |_=>ae
def vz(mx:Bool)(x y:Value):Option Value:=
 match x,y with
 | .int k a,.int j b=>if k=j then J (.int k (if mx then(if a<b then b else a)else(if b<a then b else a)))else ae
 |_,_=>ae
def OE(P:Program)(t:TypeId)(cs:List Value)(off:Nat):Option Value:=
 match cF P t with
 |some (Z,sz,_)=>(uy sz (cs.drop off)).map λl=>.agg l.toArray
 |some (aa,_,_)=>(cs.drop off).head?
 |none=>ae
def Qz(P:Program)(t:TypeId)(f:Nat)(x:Value):Option Value:=
 match P.underlying t,x with
 |some (.struct jX),.agg cs=>match jX[f]? with
  |some fd=>OE P fd.type cs.toList fd.offset
  |none=>ae
 |_,_=>ae
def yK(P:Program)(t:TypeId)(x i:Value):Option Value:=
 match x,i with
 | .string s,.int _ n=>if eC P t/\0<=n then(s[n.toNat]?).map λb=>.int .u8 b.toNat else ae
 | .agg cs,.int _ n=>match Bo P t with
  |some (len,e)=>if 0<=n/\n<len then match cF P e with
   |some (_,es,_)=>OE P e cs.toList (n.toNat*es)
   |none=>ae
   else ae
  |none=>ae
 |_,_=>ae
def gG:Op->Option (List Operand)
 | .move x| .assign x| .unOp _ _ x| .convert _ _ x| .field _ x _| .extract x _=>J [x]
 | .binOp _ _ x y _| .index _ x y=>J [x,y]
 | .build _ ps=>J (ps.toList.map (·.2))
 | .makeFunc _ a c=>J (a.toList++c.toList)
 | .slice _ x l h m=>J ([x]++l.toList++h.toList++m.toList)
 | .call c=>match c.callee with
  | .builtin .len| .builtin .min| .builtin .max=>J c.args.toList
  |_=>ae
 |_=>ae
def Fm(P:Program)(t:TypeId)(js:List Nat)(vs:List Value):Option Value:=
 match P.underlying t with
 |some (.struct jX)=>match cF P t with
  |some (_,_,_,z)=>if z.all cz&&jX.toList.all (λf=>(P.info? f.type).isSome)then(jJ (dA P t) (js.zip vs) z).map λl=>.agg l.toArray else ae
  |none=>ae
 |some (.array _ e)=>match cF P t with
  |some (_,_,_,z)=>match cF P e with
   |some (_,es,_)=>if z.all cz then(jJ (λi=>J (i*es,es)) (js.zip vs) z).map λl=>.agg l.toArray else ae
   |none=>ae
  |none=>ae
 |_=>ae
def eY(P:Program)(op:Op)(vs:List Value):Option Value:=
 match op with
 | .move _| .assign _=>match vs with
  |[x]=>J x
  |_=>ae
 | .unOp op _ _=>match vs with
  |[x]=>EU op x
  |_=>ae
 | .convert s d _=>match vs with
  |[x]=>GU P s d x
  |_=>ae
 | .field t _ f=>match vs with
  |[x]=>Qz P t f x
  |_=>ae
 | .extract _ i=>match vs with
  |[.tuple us]=>us.toList[i]?
  |_=>ae
 | .binOp op t _ _ _=>match vs with
  |[x,y]=>di P op t x y
  |_=>ae
 | .index t _ _=>match vs with
  |[x,i]=>yK P t x i
  |_=>ae
 | .build t ps=>Fm P t (ps.toList.map (·.1)) vs
 | .makeFunc fn a _=>J (.func fn (vs.take a.size).toArray (vs.drop a.size).toArray)
 | .slice t _ l h m=>match l,h,m,vs with
  |none,ae,ae,[x]=>n7 P t x ae ae ae
  |some _,ae,ae,[x,l]=>n7 P t x (J l) ae ae
  |none,J _,ae,[x,h]=>n7 P t x ae (J h) ae
  |some _,J _,ae,[x,l,h]=>n7 P t x (J l) (J h) ae
  |some _,J _,J _,[x,l,h,m]=>n7 P t x (J l) (J h) (J m)
  |none,J _,J _,[x,h,m]=>n7 P t x ae (J h) (J m)
  |_,_,_,_=>ae
 | .call c=>match c.callee with
  | .builtin .len=>match vs,c.argTypes.toList with
   |[x],[t]=>iX P t x
   |_,_=>ae
  | .builtin .min=>match vs with
   |[x,y]=>vz aa x y
   |_=>ae
  | .builtin .max=>match vs with
   |[x,y]=>vz Z x y
   |_=>ae
  |_=>ae
 |_=>ae
def iN(P:Program)(fr:FR):Op->Option FV
 | .fieldAddr s x f=>match dA P s f,bO fr x with
  |some (o,_),J (.lp t off)=>J (.lp t (off+o))
  |some (o,_),J (.v (.pointer (J ⟨id,off,ae⟩)))=>J (.v (.pointer (J ⟨id,off+o,ae⟩)))
  |_,_=>ae
 | .indexAddr t x i=>match bO fr x,be fr i with
  |some (.v (.slice (J ⟨id,off,J bA⟩) n _)),J (.int _ j)=>match cW P t with
   |some e=>match cF P e with
    |some (_,es,_)=>if es=bA/\0<=j/\j<n then J (.v (.pointer (J ⟨id,off+j.toNat*es,ae⟩)))else ae
    |none=>ae
   |none=>ae
  |some (.lp s off),J (.int _ j)=>match Bo P t with
   |some (len,e)=>match cF P e with
    |some (_,es,_)=>if 0<=j/\j<len then J (.lp s (off+j.toNat*es))else ae
    |none=>ae
   |none=>ae
  |some (.v (.pointer (J ⟨id,off,ae⟩))),J (.int _ j)=>match Bo P t with
   |some (len,e)=>match cF P e with
    |some (_,es,_)=>if 0<=j/\j<len then J (.v (.pointer (J ⟨id,off+j.toNat*es,ae⟩)))else ae
    |none=>ae
   |none=>ae
  |_,_=>ae
 | .nilCheck x=>match bO fr x with
  |some (.v (.pointer (J a)))=>J (.v (.pointer (J a)))
  |some (.lp s off)=>J (.lp s off)
  |_=>ae
 |_=>ae
def nx(P:Program)(t:TypeId)(cs:Option (List Value)):Option Value:=
 match cF P t,cs with
 |some (Z,sz,_),J cs=>(uy sz cs).map λl=>.agg l.toArray
 |some (aa,_,_),J (c::_)=>J c
 |_,_=>ae
def mN(fr:FR)(H:AH)(a:Operand):Option (List Value):=
 match bO fr a with
 |some (.lp s o)=>match fr s with
  | .loc cells=>J (cells.drop o)
  |_=>ae
 |some (.v (.pointer (J ⟨id,off,ae⟩)))=>H.load id off
 |_=>ae
def s9(P:Program)(t:TypeId)(s:Value)(new:List Value)(m:Nat)(H:AH):Option (Value×AH):=
 match cW P t with
 |none=>ae
 |some e=>match cF P e with
  |none=>ae
  |some (_,es,cG,z)=>
   if es=0\/z.length≠es\/new.all l8=aa then ae else
   match s with
   | .slice ae 0 0=>if m=0 then J (.slice ae 0 0,H)else
    if m*cG<=140737488355328/\m<=4611686018427387904 then J (.slice (J ⟨H.n,0,J es⟩) m m,H.push ⟨Z,new⟩)else ae
   | .slice (J ⟨id,off,J bA⟩) n c=>if m=0 then J (.slice (J ⟨id,off,J bA⟩) n c,H)else match H.b id with
    |none=>ae
    |some k=>if k.rw=Z/\es=bA/\off+n*es<=k.cells.length/\(n+m)*cG<=140737488355328/\n+m<=4611686018427387904 then
     if n+m<=c then match gq k.cells (off+n*es) new with
      |some cs=>J (.slice (J ⟨id,off,J es⟩) (n+m) c,H.set id (J ⟨Z,cs⟩))
      |none=>ae
     else if off=0 then J (.slice (J ⟨H.n,0,J es⟩) (n+m) (n+m),(H.set id ae).push ⟨Z,k.cells.take (n*es)++new⟩)else ae
     else ae
   |_=>ae
def iD(P:Program)(t:TypeId)(fr:FR)(H:AH)(x:Operand):Option (List Value×Nat):=
 match cW P t with
 |none=>ae
 |some e=>match cF P e with
  |none=>ae
  |some (_,es,_)=>
   match x with
   | .tmp s=>match fr s with
    | .ls len bA cells=>if bA=es then J (cells,len)else ae
    | .v (.slice ae 0 0)=>J ([],0)
    | .v (.slice (J ⟨id,off,J bA⟩) n _)=>if n=0 then J ([],0)else if es≠bA then ae else(H.load id off).bind λcs=>(uy (n*es) cs).map λl=>(l,n)
    |_=>ae
   | .const (.slice ae 0 0)=>J ([],0)
   |_=>ae
def py(fr:FR)(pre:List (Option Tmp))(j:Nat):Option (Option Bool):=
 match pre[j]? with
 |some (J d)=>match fr d with
  | .v (.bool b)=>J (J b)
  | .skip=>J ae
  |_=>ae
 |_=>ae
def bC(nt:Nat)(K:FR->AH->Prop)(d:Option Tmp)(x:FV)(fr:FR)(H:AH):Prop:=
 match d with
 |some d=>if d<nt then K (fr.put d x) H else False
 |none=>K fr H
def dE(P:Program)(nt:Nat)(o:Oper)(K:FR->AH->Prop)(fr:FR)(H:AH):Prop:=
 match gG o.op with
 |some xs=>match cr fr H xs with
  |some (vs,ak,H')=>match eY P o.op vs with
   |some v=>bC nt K o.dst (.v v) ak H'
   |none=>False
  |none=>False
 |none=>False
def uH(P:Program)(t:TypeId):Bool:=
 match cW P t with
 |some e=>match j9 P e,cF P e with
  |some .u8,J (_,1,_,_)=>Z
  |_,_=>aa
 |none=>aa
def yd(ns:List Int):ByteArray:=⟨(ns.map λn=>UInt8.ofNat n.toNat).toArray⟩
def GG(fr:FR):Operand->Option (Nat×List Value)
 | .tmp u=>match fr u with
  | .ls len es cells=>if es=1 then J (len,cells)else ae
  |_=>ae
 |_=>ae
def UP(P:Program)(nt:Nat)(t:TypeId)(x i:Operand)(d:Option Tmp)(K:FR->AH->Prop)(fr:FR)(H:AH):Prop:=
 ∃u l es cs k j e g r,x=.tmp u/\fr u=.ls l es cs/\be fr i=J (.int k j)/\cW P t=J e/\cF P e=J (g,es,r)/\(0<=j/\j<(l:Int))/\
  bC nt K d (.v (.pointer (J ⟨H.n,j.toNat*es,ae⟩))) (fr.put u (.v (.slice (J ⟨H.n,0,J es⟩) l l))) (H.push ⟨Z,cs⟩)
def aP(P:Program)(nt:Nat)(o:Oper)(K:FR->AH->Prop)(fr:FR)(H:AH):Prop:=
 match o.op with
 | .load t a=>match nx P t (mN fr H a)with
  |some v=>bC nt K o.dst (.v v) fr H
  |none=>False
 | .fieldAddr .. | .nilCheck .. =>match iN P fr o.op with
  |some x=>bC nt K o.dst x fr H
  |none=>False
 | .indexAddr t x i=>(match iN P fr o.op with
  |some x=>bC nt K o.dst x fr H
  |none=>False)\/UP P nt t x i o.dst K fr H
 | .alloc e=>match cF P e,o.dst with
  |some (_,_,_,z),J d=>if d<nt/\z.all cz=Z then K (fr.fh d z) H else False
  |_,_=>False
 | .box e x=>match cF P e,be fr x,o.dst with
  |some _,J v,J d=>if d<nt/\mH v=Z then K (fr.fh d v.cells.toList) H else False
  |_,_,_=>False
 | .buildSlice t len ps=>match cW P t,o.dst,cr fr H (ps.toList.map (·.2))with
  |some e,J d,J (vs,ak,H')=>match cF P e with
   |some (_,es,_,z)=>if d<nt/\len*es<=2^24/\z.length=es/\es≠0/\z.all cz=Z then
    match jJ (λi=>J (i*es,es)) ((ps.toList.map (·.1)).zip vs) ((List.replicate len z).flatten)with
    |some cs=>K (ak.put d (.ls len es cs)) H'
    |none=>False
    else False
   |none=>False
  |_,_,_=>False
 | .store t a x=>match bg fr H x,cF P t with
  |some (v,ak,H'),J (_,sz,_)=>
   if mH v=Z/\v.cells.toList.length=sz/\sz≠0/\v.cells.toList.all l8=Z then
    match bO ak a with
    |some (.lp s off)=>match ak s with
     | .loc cells=>match gq cells off v.cells.toList with
      |some cs=>bC nt K o.dst .skip (ak.put s (.loc cs)) H'
      |none=>False
     |_=>False
    |some (.v (.pointer (J ⟨id,off,ae⟩)))=>match H'.b id with
     |some k=>if k.rw=Z then match gq k.cells off v.cells.toList with
      |some cs=>bC nt K o.dst .skip ak (H'.set id (J ⟨Z,cs⟩))
      |none=>False
      else False
     |none=>False
    |_=>False
   else False
  |_,_=>False
 | .pick c a b=>match be fr c with
  |some (.bool Z)=>match be fr a with
   |some v=>bC nt K o.dst (.v v) fr H
   |none=>False
  |some (.bool aa)=>match be fr b with
   |some v=>bC nt K o.dst (.v v) fr H
   |none=>False
  |_=>False
 | .makeSlice t l c=>match cW P t,be fr l,be fr c with
  |some e,J (.int .i64 n),J (.int .i64 c)=>match cF P e with
   |some (_,es,cG,z)=>if 0<=n/\n<=c/\cG*c<=140737488355328/\c<=4611686018427387904/\z.length=es/\es≠0/\z.all cz=Z then
    bC nt K o.dst (.v (.slice (J ⟨H.n,0,J es⟩) n.toNat c.toNat)) fr (H.push ⟨Z,(List.replicate c.toNat z).flatten⟩)
    else False
   |none=>False
  |_,_,_=>False
 | .call ⟨.builtin .append,args,argTypes⟩=>match args.toList,argTypes.toList with
  |[s,x],[t,t']=>if t=t' then match bg fr H s with
   |some (sv,ak,H')=>match iD P t ak H' x with
    |some (new,m)=>match s9 P t sv new m H' with
     |some (v,ph)=>bC nt K o.dst (.v v) ak ph
     |none=>False
    |none=>False
   |none=>False
   else False
  |_,_=>False
 | .call ⟨.builtin .copy,args,il⟩=>match args.toList,il.toList with
  |[x,y],[t,_]=>match cW P t,be fr x,iD P t fr H y with
   |some e,J (.slice (J ⟨id,off,J bA⟩) n c),J (cs,l)=>match cF P e,H.b id with
    |some (_,es,_,_),J k=>if n<=c/\es=bA/\k.rw=Z/\es≠0/\0<min l n/\(cs.take (min l n*es)).all l8=Z then
     match gq k.cells off (cs.take (min l n*es))with
     |some fc=>bC nt K o.dst (.v (.int .i64 (min l n:Nat))) fr (H.set id (J ⟨Z,fc⟩))
     |none=>False
     else False
    |_,_=>False
   |_,_,_=>False
  |_,_=>False
 | .call ⟨.value f,args,_⟩=>match cr fr H args.toList with
  |some (vs,ak,H')=>match be ak f with
   |some (.func (.func g) first kv)=>qj P g (first.toList++vs++kv.toList) H' λv ph=>bC nt K o.dst (.v v) ak ph
   |_=>False
  |none=>False
 | .move x=>match bO fr x with
  |some (.lp s off)=>bC nt K o.dst (.lp s off) fr H
  |_=>dE P nt o K fr H
 | .assign x=>match bO fr x with
  |some (.lp s off)=>bC nt K o.dst (.lp s off) fr H
  |_=>dE P nt o K fr H
 | .convert s t x=>dE P nt o K fr H\/((uH P s=Z/\eC P t=Z/\o.dst.isSome=Z)/\∃l ns,GG fr x=J (l,ns.map (Value.int .u8))/\bC nt K o.dst (.v (.string (yd ns))) fr H)
 |_=>dE P nt o K fr H
def oO:List Nat->FR->AH->Option (FR×AH)
 |[],fr,H=>J (fr,H)
 |t::ts,fr,H=>match fr t with
  | .loc cells=>oO ts (fr.put t (.v (.pointer (J ⟨H.n,0,ae⟩)))) (H.push ⟨Z,cells⟩)
  |_=>ae
def vk:Operand->Bool
 | .const (.slice ae 0 0)=>Z
 |_=>aa
def K9:BinOp->Option Bool
 | .eql=>J Z
 | .neq=>J aa
 |_=>ae
def fC(P:Program)(nt:Nat)(o:Oper)(K:FR->AH->Prop)(fr:FR)(H:AH):Prop:=
 match o.op,o.dst with
 | .alloc e,J d=>match cF P e with
  |some (_,_,_,z)=>d<nt/\z.all cz=Z/\K (fr.put d (.v (.pointer (J ⟨H.n,0,ae⟩)))) (H.push ⟨Z,z⟩)
  |none=>False
 | .box e x,J d=>match cF P e,be fr x with
  |some _,J v=>d<nt/\mH v=Z/\K (fr.put d (.v (.pointer (J ⟨H.n,0,ae⟩)))) (H.push ⟨Z,v.cells.toList⟩)
  |_,_=>False
 | .binOp op t x y _,J d=>(d<nt/\vk y=Z/\(cW P t).isSome=Z)/\match K9 op,be fr x with
  |some _,J (.slice ae 0 0)=>∀b,K (fr.put d (.v (.bool b))) H
  |some q,J (.slice (J _) _ _)=>K (fr.put d (.v (.bool (!q)))) H
  |_,_=>False
 | .call ⟨.builtin .cap,args,il⟩,J d=>match args.toList,il.toList with
  |[x],[t]=>d<nt/\(cW P t).isSome=Z/\be fr x=J (.slice ae 0 0)/\K (fr.put d (.v (.int .i64 0))) H
  |_,_=>False
 | .call ⟨.builtin .append,args,il⟩,J d=>match args.toList,il.toList with
  |[s,x],[t,t']=>match cW P t,be fr x with
   |some e,J (.int .i64 n)=>match cF P e with
    |some (_,es,cG,z)=>((d<nt/\(j9 P t').isSome=Z/\be fr s=J (.slice ae 0 0)/\0<n/\cG*n<=140737488355328/\n<=4611686018427387904/\z.length=es/\es≠0/\z.all cz=Z)/\
     K (fr.put d (.v (.slice (J ⟨H.n,0,J es⟩) n.toNat n.toNat))) (H.push ⟨Z,(List.replicate n.toNat z).flatten⟩))\/
     ((d<nt/\(j9 P t').isSome=Z/\0<n/\cG*n<=140737488355328/\n<=4611686018427387904/\z.length=es/\es≠0/\z.all cz=Z)/\∃sv v H',be fr s=J sv/\s9 P t sv (List.replicate n.toNat z).flatten n.toNat H=J (v,H')/\K (fr.put d (.v v)) H')
    |none=>False
   |_,_=>False
  |_,_=>False
 | .call ⟨.builtin .clear,args,il⟩,ae=>match args.toList,il.toList with
  |[x],[t]=>match cW P t,be fr x with
   |some e,J (.slice (J ⟨id,off,J bA⟩) n c)=>match cF P e,H.b id with
    |some (_,es,_,z),J k=>(n≠0/\n<=c/\es=bA/\k.rw=Z/\z.length=es/\es≠0/\z.all cz=Z/\z.all l8=Z)/\∃cs,gq k.cells off (List.replicate n z).flatten=J cs/\K fr (H.set id (J ⟨Z,cs⟩))
    |_,_=>False
   |_,_=>False
  |_,_=>False
 | .makeFunc ..,_=>∃ts ak H',oO ts fr H=J (ak,H')/\dE P nt o K ak H'
 | .move (.tmp q),J d=>∃s cells,(d<nt/\q<nt/\fr q=.lp s 0/\fr s=.loc cells)/\K (((fr.put s (.v (.pointer (J ⟨H.n,0,ae⟩)))).put q (.v (.pointer (J ⟨H.n,0,ae⟩)))).put d (.v (.pointer (J ⟨H.n,0,ae⟩)))) (H.push ⟨Z,cells⟩)
 | .convert s t x,J d=>(d<nt/\uH P s=Z/\eC P t=Z)/\match iD P s fr H x with
  |some (cs,_)=>∃ns,cs=ns.map (Value.int .u8)/\K (fr.put d (.v (.string (yd ns)))) H
  |none=>False
 |_,_=>False
def nr(P:Program)(nt:Nat)(pre:List (Option Tmp)):List Oper->(FR->AH->Prop)->FR->AH->Prop
 |[],K,fr,H=>K fr H
 |o::r,K,fr,H=>match o.guard with
  |none=>aP P nt o (nr P nt pre r K) fr H\/fC P nt o (nr P nt pre r K) fr H
  |some (j,b)=>match py fr pre j with
   |some y=>if y=J b then aP P nt o (nr P nt pre r K) fr H\/fC P nt o (nr P nt pre r K) fr H else bC nt (nr P nt pre r K) o.dst .skip fr H
   |none=>False
def WM(dN fr:FR):Prop:=∀t,dN t=fr t\/dN t=jv
def Y8(body:(Exit->FR->AH->Prop)->FR->AH->Prop)(Q:Exit->FR->AH->Prop):Nat->FR->AH->Prop
 |0,_,_=>False
 |n+1,fr,H=>∃dN,WM dN fr/\body (λe ak H'=>match e with| .normal=>Y8 body Q n ak H'|e=>Q e ak H') dN H
def F4(K:FR->AH->Prop)(Q:Exit->FR->AH->Prop):Exit->FR->AH->Prop
 | .normal,fr,H=>K fr H
 |e,fr,H=>Q e fr H
def In(id:Nat)(Q:Exit->FR->AH->Prop):Exit->FR->AH->Prop
 | .exit i,fr,H=>if i=id then Q .normal fr H else Q (.exit i) fr H
 |e,fr,H=>Q e fr H
end Go.Am
