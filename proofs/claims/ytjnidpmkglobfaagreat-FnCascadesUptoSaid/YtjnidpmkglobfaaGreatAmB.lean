import Derived.Test.YtjnidpmkglobfaaGreatAmA
open Bool renaming false→Z,true→O
open Option renaming none→aa,some→J
set_option linter.defProp false
namespace Go.Am
inductive FV where
 |v (x:Value)
 |skip
 |loc (cells:List Value)
 |lp (slot off:Nat)
 |ls (len es:Nat) (cells:List Value)
abbrev FR:=Nat->FV
def jv:FV:=.v (.tuple #[])
def FR.put(a:FR)(d:Nat)(x:FV):FR:=λt=>if t=d then x else a t
def lz(d:Nat):FV->FV
 | .lp s o=>if s=d then jv else .lp s o
 |x=>x
def FR.fh(b:FR)(d:Nat)(a:List Value):FR:=λt=>if t=d then .loc a else lz d (b t)
def FR.init(args:List Value):FR:=λt=>match args[t]? with
 |some x=>.v x
 |none=>.skip
def FR.eZ:List (Nat×FV)->FR
 |[],_=>jv
 |(s,x)::l,t=>if t=s then x else FR.eZ l t
def AH.push(H:AH)(k:mP):AH:=⟨H.n+1,λi=>if i=H.n then J k else H.b i⟩
def AH.set(H:AH)(id:Nat)(k:Option mP):AH:=⟨H.n,λi=>if i=id then k else H.b i⟩
def AH.load(H:AH)(id off:Nat):Option (List Value):=(H.b id).map λk=>k.cells.drop off
def uw:Nat->List Value->Option (List Value)
 |0,_=>J []
 |_+1,[]=>aa
 |n+1,x::a=>(uw n a).map (x:: ·)
def gk:List Value->Nat->List Value->Option (List Value)
 |cs,_,[]=>J cs
 |[],_,_::_=>aa
 |c::cs,n+1,a=>(gk cs n a).map (c:: ·)
 |_::cs,0,x::a=>(gk cs 0 a).map (x:: ·)
def cE(P:Program)(t:TypeId):Option (Bool×Nat×Nat×List Value):=
 match P.info? t,P.underlying t with
 |some i,J d=>i.zero.map λz=>((match d with| .struct _| .array _ _=>O|_=>Z),i.size,i.bytes,z.cells.toList)
 |_,_=>aa
def dR(P:Program)(s:TypeId)(f:Nat):Option (Nat×Nat):=
 match P.underlying s with
 |some (.struct b)=>match b[f]? with
  |some a=>match P.info? a.type with
   |some i=>if i.size=0 then aa else J (a.offset,i.size)
   |none=>aa
  |none=>aa
 |_=>aa
def df(P:Program)(t:TypeId):Option TypeId:=
 match P.underlying t with
 |some (.slice e)=>J e
 |_=>aa
def AA(P:Program)(t:TypeId):Option (Nat×TypeId):=
 match P.underlying t with
 |some (.array n e)=>J (n,e)
 |_=>aa
def kv(P:Program)(t:TypeId):Option IntKind:=
 match P.underlying t with
 |some (.int k)=>J k
 |_=>aa
def GD(P:Program)(t:TypeId):Bool:=
 match P.underlying t with
 |some .bool=>O
 |_=>Z
def eS(P:Program)(t:TypeId):Bool:=
 match P.underlying t with
 |some .string=>O
 |_=>Z
def cD:Value->Bool
 | .bool _| .int .. | .string _| .pointer aa| .nilFunc| .nilIface=>O
 | .slice aa 0 0=>O
 | .agg cs=>cs.toList.all λ| .bool _| .int .. | .string _| .pointer aa| .nilFunc| .nilIface=>O| .slice aa 0 0=>O|_=>Z
 |_=>Z
def aZ(a:FR):Operand->Option Value
 | .tmp t=>match a t with
  | .v x=>J x
  |_=>aa
 | .const c=>if cD c then J c else aa
 | .func f=>J (.func (.func f) #[] #[])
 | .global _=>aa
def bO(a:FR):Operand->Option FV
 | .tmp t=>match a t with
  | .v x=>J (.v x)
  | .loc _=>J (.lp t 0)
  | .lp s o=>match a s with
   | .loc _=>J (.lp s o)
   |_=>aa
  |_=>aa
 |x=>(aZ a x).map .v
def bm(a:FR)(H:AH):Operand->Option (Value×FR×AH)
 | .tmp t=>match a t with
  | .v x=>J (x,a,H)
  | .ls b c d=>J (.slice (J ⟨H.n,0,J c⟩) b b,a.put t (.v (.slice (J ⟨H.n,0,J c⟩) b b)),H.push ⟨O,d⟩)
  |_=>aa
 |x=>(aZ a x).map λv=>(v,a,H)
def cz(a:FR)(H:AH):List Operand->Option (List Value×FR×AH)
 |[]=>J ([],a,H)
 |x::e=>match bm a H x with
  |some (v,c,b)=>match cz c b e with
   |some (d,r)=>J (v::d,r)
   |none=>aa
  |none=>aa
def kX(a:BinOp)(k:IntKind)(x y:Int):Option Value:=
 match a with
 | .add=>J (.int k (k.wrap (x+y)))
 | .sub=>J (.int k (k.wrap (x-y)))
 | .mul=>J (.int k (k.wrap (x*y)))
 | .quo=>if y=0 then aa else J (.int k (k.wrap (x.tdiv y)))
 | .rem=>if y=0 then aa else J (.int k (x.tmod y))
 | .and=>J (.int k (k.wrap (BitVec.ofInt k.bits x&&&BitVec.ofInt k.bits y).toNat))
 | .or=>J (.int k (k.wrap (BitVec.ofInt k.bits x|||BitVec.ofInt k.bits y).toNat))
 | .xor=>J (.int k (k.wrap (BitVec.ofInt k.bits x^^^BitVec.ofInt k.bits y).toNat))
 | .eql=>J (.bool (x==y))
 | .neq=>J (.bool (x !=y))
 | .lss=>J (.bool (x<y))
 | .leq=>J (.bool (x<=y))
 | .gtr=>J (.bool (x>y))
 | .geq=>J (.bool (x>=y))
 |_=>aa
def Ly(P:Program):List Field->Option (List Nat)
 |[]=>J []
 |f::a=>if f.name≠ "_"/\(kv P f.type).isSome=O then(Ly P a).map λl=>f.offset::l else aa
def Cg(P:Program)(t:TypeId):Option (List Nat):=
 match P.underlying t with
 |some (.struct a)=>if P.stoodInHeld t=Z/\P.eqGuardType P.depth t=Z then Ly P a.toList else aa
 |_=>aa
def uL(c d:List Value):List Nat->Option Bool
 |[]=>J O
 |o::e=>match c[o]?,d[o]? with
  |some (.int j a),J (.int i b)=>if j=i then(uL c d e).map λr=>a==b&&r else aa
  |_,_=>aa
def dx(P:Program)(c:BinOp)(t:TypeId)(x y:Value):Option Value:=
 match x,y with
 | .agg d,.agg e=>match c with
  | .eql=>((Cg P t).bind (uL d.toList e.toList)).map .bool
  | .neq=>((Cg P t).bind (uL d.toList e.toList)).map λr=>.bool !r
  |_=>aa
 | .int k a,.int j b=>match c with
  | .shl=>if b<0 then aa else J (.int k (k.wrap (a*2^min b.toNat k.bits)))
  | .shr=>if b<0 then aa else J (.int k (a.fdiv (2^min b.toNat k.bits)))
  |_=>if k=j then kX c k a b else aa
 | .bool a,.bool b=>if GD P t then match c with
  | .eql=>J (.bool (a==b))
  | .neq=>J (.bool (a !=b))
  |_=>aa
  else aa
 | .string a,.string b=>match c with
  | .eql=>J (.bool (a.toList==b.toList))
  | .neq=>J (.bool !(a.toList==b.toList))
  | .add=>if a.size+b.size<=9223372036854775807 then J (.string (a++b))else aa
  |_=>aa
 |_,_=>aa
def GJ(a:UnOp)(x:Value):Option Value:=
 match a,x with
 | .not,.bool b=>J (.bool !b)
 | .neg,.int k n=>J (.int k (k.wrap (0-n)))
 |_,_=>aa
def F7(P:Program)(s d:TypeId)(x:Value):Option Value:=
 match P.underlying s,kv P d,x with
 |some _,J k,.int _ n=>J (.int k (k.wrap n))
 |_,_,_=>aa
def m8:Value->Bool
 | .tuple _=>Z
 |_=>O
def jI(a:Nat->Option (Nat×Nat)):List (Nat×Value)->List Value->Option (List Value)
 |[],cs=>J cs
 |(i,v)::r,cs=>match a i with
  |some (off,b)=>if m8 v&&v.cells.toList.length==b&&b !=0 then
   match gk cs off v.cells.toList with
   |some c=>jI a r c
   |none=>aa
   else aa
  |none=>aa
def BD(d:Nat):Option Value->Option Nat
 |none=>J d
 |some (.int _ l)=>if 0<=l then J l.toNat else aa
 |_=>aa
def Dv:Option Value->Option (Option Nat)
 |none=>J aa
 |some (.int _ l)=>if 0<=l then J (J l.toNat)else aa
 |_=>aa
def rm(b a d:Option Value)(n c:Nat):Option (Nat×Nat×Option Nat):=
 match BD 0 b,BD n a,Dv d with
 |some l,J h,J aa=>if l<=h/\h<=c then J (l,h,aa)else aa
 |some l,J h,J (J m)=>if l<=h/\h<=m/\m<=c/\a.isSome then J (l,h,J m)else aa
 |_,_,_=>aa
def qI(P:Program)(t:TypeId)(x:Value)(d b f:Option Value):Option Value:=
 match x with
 | .slice (J ⟨id,off,J g⟩) n c=>match df P t with
  |some e=>match cE P e with
   |some (_,a,_)=>if a≠g then aa else match rm d b f n c with
    |some (l,h,aa)=>J (.slice (J ⟨id,off+l*a,J a⟩) (h-l) (c-l))
    |some (l,h,J m)=>if m-l=0 then J (.slice aa 0 0)else J (.slice (J ⟨id,off+l*a,J a⟩) (h-l) (m-l))
    |none=>aa
   |none=>aa
  |none=>aa
 | .slice aa 0 0=>match df P t with
  |some e=>match cE P e with
   |some _=>match rm d b f 0 0 with
    |some _=>J (.slice aa 0 0)
    |none=>aa
   |none=>aa
  |none=>aa
 | .string s=>if eS P t then match rm d b f s.size s.size with
  |some (l,h,aa)=>J (.string (s.extract l h))
  |_=>aa
  else aa
 |_=>aa
def jH(P:Program)(t:TypeId)(x:Value):Option Value:=
 match x with
 | .slice _ n _=>match df P t with
  |some _=>J (.int .i64 n)
  |none=>aa
 | .string s=>if eS P t then J (.int .i64 s.size)else aa
 |_=>aa
def w9(c:Bool)(x y:Value):Option Value:=
 match x,y with
 | .int k a,.int j b=>if k=j then J (.int k (if c then(if a<b then b else a)else(if b<a then b else a)))else aa
 |_,_=>aa
def Qg(P:Program)(t:TypeId)(cs:List Value)(off:Nat):Option Value:=
 match cE P t with
 |some (O,a,_)=>(uw a (cs.drop off)).map λl=>.agg l.toArray
 |some (Z,_,_)=>(cs.drop off).head?
 |none=>aa
def Sp(P:Program)(t:TypeId)(f:Nat)(x:Value):Option Value:=
 match P.underlying t,x with
 |some (.struct b),.agg cs=>match b[f]? with
  |some a=>Qg P a.type cs.toList a.offset
  |none=>aa
 |_,_=>aa
def yg(P:Program)(t:TypeId)(x i:Value):Option Value:=
 match x,i with
 | .string s,.int _ n=>if eS P t/\0<=n then(s[n.toNat]?).map λb=>.int .u8 b.toNat else aa
 | .agg cs,.int _ n=>match AA P t with
  |some (c,e)=>if 0<=n/\n<c then match cE P e with
   |some (_,a,_)=>Qg P e cs.toList (n.toNat*a)
   |none=>aa
   else aa
  |none=>aa
 |_,_=>aa
def iA:Op->Option (List Operand)
 | .move x| .assign x| .unOp _ _ x| .convert _ _ x| .field _ x _| .extract x _=>J [x]
 | .binOp _ _ x y _| .index _ x y=>J [x,y]
 | .build _ b=>J (b.toList.map (·.2))
 | .makeFunc _ a c=>J (a.toList++c.toList)
 | .slice _ x l h m=>J ([x]++l.toList++h.toList++m.toList)
 | .call c=>match c.callee with
  | .builtin .len| .builtin .min| .builtin .max=>J c.args.toList
  |_=>aa
 |_=>aa
def Fk(P:Program)(t:TypeId)(b:List Nat)(c:List Value):Option Value:=
 match P.underlying t with
 |some (.struct d)=>match cE P t with
  |some (_,_,_,z)=>if z.all cD&&d.toList.all (λf=>(P.info? f.type).isSome)then(jI (dR P t) (b.zip c) z).map λl=>.agg l.toArray else aa
  |none=>aa
 |some (.array _ e)=>match cE P t with
  |some (_,_,_,z)=>match cE P e with
   |some (_,a,_)=>if z.all cD then(jI (λi=>J (i*a,a)) (b.zip c) z).map λl=>.agg l.toArray else aa
   |none=>aa
  |none=>aa
 |_=>aa
def fk(P:Program)(e:Op)(b:List Value):Option Value:=
 match e with
 | .move _| .assign _=>match b with
  |[x]=>J x
  |_=>aa
 | .unOp e _ _=>match b with
  |[x]=>GJ e x
  |_=>aa
 | .convert s d _=>match b with
  |[x]=>F7 P s d x
  |_=>aa
 | .field t _ f=>match b with
  |[x]=>Sp P t f x
  |_=>aa
 | .extract _ i=>match b with
  |[.tuple k]=>k.toList[i]?
  |_=>aa
 | .binOp e t _ _ _=>match b with
  |[x,y]=>dx P e t x y
  |_=>aa
 | .index t _ _=>match b with
  |[x,i]=>yg P t x i
  |_=>aa
 | .build t j=>Fk P t (j.toList.map (·.1)) b
 | .makeFunc g a _=>J (.func g (b.take a.size).toArray (b.drop a.size).toArray)
 | .slice t _ l h m=>match l,h,m,b with
  |none,aa,aa,[x]=>qI P t x aa aa aa
  |some _,aa,aa,[x,l]=>qI P t x (J l) aa aa
  |none,J _,aa,[x,h]=>qI P t x aa (J h) aa
  |some _,J _,aa,[x,l,h]=>qI P t x (J l) (J h) aa
  |some _,J _,J _,[x,l,h,m]=>qI P t x (J l) (J h) (J m)
  |none,J _,J _,[x,h,m]=>qI P t x aa (J h) (J m)
  |_,_,_,_=>aa
 | .call c=>match c.callee with
  | .builtin .len=>match b,c.argTypes.toList with
   |[x],[t]=>jH P t x
   |_,_=>aa
  | .builtin .min=>match b with
   |[x,y]=>w9 Z x y
   |_=>aa
  | .builtin .max=>match b with
   |[x,y]=>w9 O x y
   |_=>aa
  |_=>aa
 |_=>aa
def iO(P:Program)(c:FR):Op->Option FV
 | .fieldAddr s x f=>match dR P s f,bO c x with
  |some (o,_),J (.lp t off)=>J (.lp t (off+o))
  |some (o,_),J (.v (.pointer (J ⟨id,off,aa⟩)))=>J (.v (.pointer (J ⟨id,off+o,aa⟩)))
  |_,_=>aa
 | .indexAddr t x i=>match bO c x,aZ c i with
  |some (.v (.slice (J ⟨id,off,J g⟩) n _)),J (.int _ j)=>match df P t with
   |some e=>match cE P e with
    |some (_,b,_)=>if b=g/\0<=j/\j<n then J (.v (.pointer (J ⟨id,off+j.toNat*b,aa⟩)))else aa
    |none=>aa
   |none=>aa
  |some (.lp s off),J (.int _ j)=>match AA P t with
   |some (d,e)=>match cE P e with
    |some (_,b,_)=>if 0<=j/\j<d then J (.lp s (off+j.toNat*b))else aa
    |none=>aa
   |none=>aa
  |some (.v (.pointer (J ⟨id,off,aa⟩))),J (.int _ j)=>match AA P t with
   |some (d,e)=>match cE P e with
    |some (_,b,_)=>if 0<=j/\j<d then J (.v (.pointer (J ⟨id,off+j.toNat*b,aa⟩)))else aa
    |none=>aa
   |none=>aa
  |_,_=>aa
 | .nilCheck x=>match bO c x with
  |some (.v (.pointer (J a)))=>J (.v (.pointer (J a)))
  |some (.lp s off)=>J (.lp s off)
  |_=>aa
 |_=>aa
def nv(P:Program)(t:TypeId)(cs:Option (List Value)):Option Value:=
 match cE P t,cs with
 |some (O,a,_),J cs=>(uw a cs).map λl=>.agg l.toArray
 |some (Z,_,_),J (c::_)=>J c
 |_,_=>aa
def mI(b:FR)(H:AH)(a:Operand):Option (List Value):=
 match bO b a with
 |some (.lp s o)=>match b s with
  | .loc c=>J (c.drop o)
  |_=>aa
 |some (.v (.pointer (J ⟨id,off,aa⟩)))=>H.load id off
 |_=>aa
def th(P:Program)(t:TypeId)(s:Value)(b:List Value)(m:Nat)(H:AH):Option (Value×AH):=
 match df P t with
 |none=>aa
 |some e=>match cE P e with
  |none=>aa
  |some (_,a,f,z)=>
   if a=0\/z.length≠a\/b.all l8=Z then aa else
   match s with
   | .slice aa 0 0=>if m=0 then J (.slice aa 0 0,H)else
    if m*f<=140737488355328/\m<=4611686018427387904 then J (.slice (J ⟨H.n,0,J a⟩) m m,H.push ⟨O,b⟩)else aa
   | .slice (J ⟨id,off,J d⟩) n c=>if m=0 then J (.slice (J ⟨id,off,J d⟩) n c,H)else match H.b id with
    |none=>aa
    |some k=>if k.rw=O/\a=d/\off+n*a<=k.cells.length/\(n+m)*f<=140737488355328/\n+m<=4611686018427387904 then
     if n+m<=c then match gk k.cells (off+n*a) b with
      |some cs=>J (.slice (J ⟨id,off,J a⟩) (n+m) c,H.set id (J ⟨O,cs⟩))
      |none=>aa
     else if off=0 then J (.slice (J ⟨H.n,0,J a⟩) (n+m) (n+m),(H.set id aa).push ⟨O,k.cells.take (n*a)++b⟩)else aa
     else aa
   |_=>aa
def iF(P:Program)(t:TypeId)(d:FR)(H:AH)(x:Operand):Option (List Value×Nat):=
 match df P t with
 |none=>aa
 |some e=>match cE P e with
  |none=>aa
  |some (_,b,_)=>
   match x with
   | .tmp s=>match d s with
    | .ls f a c=>if a=b then J (c,f)else aa
    | .v (.slice aa 0 0)=>J ([],0)
    | .v (.slice (J ⟨id,off,J a⟩) n _)=>if n=0 then J ([],0)else if b≠a then aa else(H.load id off).bind λcs=>(uw (n*b) cs).map λl=>(l,n)
    |_=>aa
   | .const (.slice aa 0 0)=>J ([],0)
   |_=>aa
def pz(a:FR)(pre:List (Option Tmp))(j:Nat):Option (Option Bool):=
 match pre[j]? with
 |some (J d)=>match a d with
  | .v (.bool b)=>J (J b)
  | .skip=>J aa
  |_=>aa
 |_=>aa
def bu(b:Nat)(K:FR->AH->Prop)(d:Option Tmp)(x:FV)(a:FR)(H:AH):Prop:=
 match d with
 |some d=>if d<b then K (a.put d x) H else False
 |none=>K a H
def dK(P:Program)(d:Nat)(o:Oper)(K:FR->AH->Prop)(c:FR)(H:AH):Prop:=
 match iA o.op with
 |some f=>match cz c H f with
  |some (e,b,a)=>match fk P o.op e with
   |some v=>bu d K o.dst (.v v) b a
   |none=>False
  |none=>False
 |none=>False
def uu(P:Program)(t:TypeId):Bool:=
 match df P t with
 |some e=>match kv P e,cE P e with
  |some .u8,J (_,1,_,_)=>O
  |_,_=>Z
 |none=>Z
def xV(a:List Int):ByteArray:=⟨(a.map λn=>UInt8.ofNat n.toNat).toArray⟩
def GQ(c:FR):Operand->Option (Nat×List Value)
 | .tmp u=>match c u with
  | .ls d b a=>if b=1 then J (d,a)else aa
  |_=>aa
 |_=>aa
def Q6(P:Program)(c:Nat)(t:TypeId)(x i:Operand)(d:Option Tmp)(K:FR->AH->Prop)(b:FR)(H:AH):Prop:=
 ∃u l a cs k j e g r,x=.tmp u/\b u=.ls l a cs/\aZ b i=J (.int k j)/\df P t=J e/\cE P e=J (g,a,r)/\(0<=j/\j<(l:Int))/\
  bu c K d (.v (.pointer (J ⟨H.n,j.toNat*a,aa⟩))) (b.put u (.v (.slice (J ⟨H.n,0,J a⟩) l l))) (H.push ⟨O,cs⟩)
def aN(P:Program)(j:Nat)(o:Oper)(K:FR->AH->Prop)(h:FR)(H:AH):Prop:=
 match o.op with
 | .load t a=>match nv P t (mI h H a)with
  |some v=>bu j K o.dst (.v v) h H
  |none=>False
 | .fieldAddr .. | .nilCheck .. =>match iO P h o.op with
  |some x=>bu j K o.dst x h H
  |none=>False
 | .indexAddr t x i=>(match iO P h o.op with
  |some x=>bu j K o.dst x h H
  |none=>False)\/Q6 P j t x i o.dst K h H
 | .alloc e=>match cE P e,o.dst with
  |some (_,_,_,z),J d=>if d<j/\z.all cD=O then K (h.fh d z) H else False
  |_,_=>False
 | .box e x=>match cE P e,aZ h x,o.dst with
  |some _,J v,J d=>if d<j/\m8 v=O then K (h.fh d v.cells.toList) H else False
  |_,_,_=>False
 | .buildSlice t u C=>match df P t,o.dst,cz h H (C.toList.map (·.2))with
  |some e,J d,J (A,q,r)=>match cE P e with
   |some (_,p,_,z)=>if d<j/\u*p<=2^24/\z.length=p/\p≠0/\z.all cD=O then
    match jI (λi=>J (i*p,p)) ((C.toList.map (·.1)).zip A) ((List.replicate u z).flatten)with
    |some cs=>K (q.put d (.ls u p cs)) r
    |none=>False
    else False
   |none=>False
  |_,_,_=>False
 | .store t a x=>match bm h H x,cE P t with
  |some (v,q,r),J (_,D,_)=>
   if m8 v=O/\v.cells.toList.length=D/\D≠0/\v.cells.toList.all l8=O then
    match bO q a with
    |some (.lp s off)=>match q s with
     | .loc I=>match gk I off v.cells.toList with
      |some cs=>bu j K o.dst .skip (q.put s (.loc cs)) r
      |none=>False
     |_=>False
    |some (.v (.pointer (J ⟨id,off,aa⟩)))=>match r.b id with
     |some k=>if k.rw=O then match gk k.cells off v.cells.toList with
      |some cs=>bu j K o.dst .skip q (r.set id (J ⟨O,cs⟩))
      |none=>False
      else False
     |none=>False
    |_=>False
   else False
  |_,_=>False
 | .pick c a b=>match aZ h c with
  |some (.bool O)=>match aZ h a with
   |some v=>bu j K o.dst (.v v) h H
   |none=>False
  |some (.bool Z)=>match aZ h b with
   |some v=>bu j K o.dst (.v v) h H
   |none=>False
  |_=>False
 | .makeSlice t l c=>match df P t,aZ h l,aZ h c with
  |some e,J (.int .i64 n),J (.int .i64 c)=>match cE P e with
   |some (_,p,G,z)=>if 0<=n/\n<=c/\G*c<=140737488355328/\c<=4611686018427387904/\z.length=p/\p≠0/\z.all cD=O then
    bu j K o.dst (.v (.slice (J ⟨H.n,0,J p⟩) n.toNat c.toNat)) h (H.push ⟨O,(List.replicate c.toNat z).flatten⟩)
    else False
   |none=>False
  |_,_,_=>False
 | .call ⟨.builtin .append,args,E⟩=>match args.toList,E.toList with
  |[s,x],[t,S]=>if t=S then match bm h H s with
   |some (R,q,r)=>match iF P t q r x with
    |some (Q,m)=>match th P t R Q m r with
     |some (v,w)=>bu j K o.dst (.v v) q w
     |none=>False
    |none=>False
   |none=>False
   else False
  |_,_=>False
 | .call ⟨.builtin .copy,args,M⟩=>match args.toList,M.toList with
  |[x,y],[t,_]=>match df P t,aZ h x,iF P t h H y with
   |some e,J (.slice (J ⟨id,off,J F⟩) n c),J (cs,l)=>match cE P e,H.b id with
    |some (_,p,_,_),J k=>if n<=c/\p=F/\k.rw=O/\p≠0/\0<min l n/\(cs.take (min l n*p)).all l8=O then
     match gk k.cells off (cs.take (min l n*p))with
     |some L=>bu j K o.dst (.v (.int .i64 (min l n:Nat))) h (H.set id (J ⟨O,L⟩))
     |none=>False
     else False
    |_,_=>False
   |_,_,_=>False
  |_,_=>False
 | .call ⟨.value f,args,_⟩=>match cz h H args.toList with
  |some (A,q,r)=>match aZ q f with
   |some (.func (.func g) first N)=>qH P g (first.toList++A++N.toList) r λv w=>bu j K o.dst (.v v) q w
   |_=>False
  |none=>False
 | .move x=>match bO h x with
  |some (.lp s off)=>bu j K o.dst (.lp s off) h H
  |_=>dK P j o K h H
 | .assign x=>match bO h x with
  |some (.lp s off)=>bu j K o.dst (.lp s off) h H
  |_=>dK P j o K h H
 | .convert s t x=>dK P j o K h H\/((uu P s=O/\eS P t=O/\o.dst.isSome=O)/\∃l B,GQ h x=J (l,B.map (Value.int .u8))/\bu j K o.dst (.v (.string (xV B))) h H)
 |_=>dK P j o K h H
def pd:List Nat->FR->AH->Option (FR×AH)
 |[],a,H=>J (a,H)
 |t::c,a,H=>match a t with
  | .loc b=>pd c (a.put t (.v (.pointer (J ⟨H.n,0,aa⟩)))) (H.push ⟨O,b⟩)
  |_=>aa
def wc:Operand->Bool
 | .const (.slice aa 0 0)=>O
 |_=>Z
def Lz:BinOp->Option Bool
 | .eql=>J O
 | .neq=>J Z
 |_=>aa
def fY(P:Program)(f:Nat)(o:Oper)(K:FR->AH->Prop)(a:FR)(H:AH):Prop:=
 match o.op,o.dst with
 | .alloc e,J d=>match cE P e with
  |some (_,_,_,z)=>d<f/\z.all cD=O/\K (a.put d (.v (.pointer (J ⟨H.n,0,aa⟩)))) (H.push ⟨O,z⟩)
  |none=>False
 | .box e x,J d=>match cE P e,aZ a x with
  |some _,J v=>d<f/\m8 v=O/\K (a.put d (.v (.pointer (J ⟨H.n,0,aa⟩)))) (H.push ⟨O,v.cells.toList⟩)
  |_,_=>False
 | .binOp A t x y _,J d=>(d<f/\wc y=O/\(df P t).isSome=O)/\match Lz A,aZ a x with
  |some _,J (.slice aa 0 0)=>∀b,K (a.put d (.v (.bool b))) H
  |some q,J (.slice (J _) _ _)=>K (a.put d (.v (.bool (!q)))) H
  |_,_=>False
 | .call ⟨.builtin .cap,args,i⟩,J d=>match args.toList,i.toList with
  |[x],[t]=>d<f/\(df P t).isSome=O/\aZ a x=J (.slice aa 0 0)/\K (a.put d (.v (.int .i64 0))) H
  |_,_=>False
 | .call ⟨.builtin .append,args,i⟩,J d=>match args.toList,i.toList with
  |[s,x],[t,u]=>match df P t,aZ a x with
   |some e,J (.int .i64 n)=>match cE P e with
    |some (_,g,l,z)=>((d<f/\(kv P u).isSome=O/\aZ a s=J (.slice aa 0 0)/\0<n/\l*n<=140737488355328/\n<=4611686018427387904/\z.length=g/\g≠0/\z.all cD=O)/\
     K (a.put d (.v (.slice (J ⟨H.n,0,J g⟩) n.toNat n.toNat))) (H.push ⟨O,(List.replicate n.toNat z).flatten⟩))\/
     ((d<f/\(kv P u).isSome=O/\0<n/\l*n<=140737488355328/\n<=4611686018427387904/\z.length=g/\g≠0/\z.all cD=O)/\∃r v h,aZ a s=J r/\th P t r (List.replicate n.toNat z).flatten n.toNat H=J (v,h)/\K (a.put d (.v v)) h)
    |none=>False
   |_,_=>False
  |_,_=>False
 | .call ⟨.builtin .clear,args,i⟩,aa=>match args.toList,i.toList with
  |[x],[t]=>match df P t,aZ a x with
   |some e,J (.slice (J ⟨id,off,J w⟩) n c)=>match cE P e,H.b id with
    |some (_,g,_,z),J k=>(n≠0/\n<=c/\g=w/\k.rw=O/\z.length=g/\g≠0/\z.all cD=O/\z.all l8=O)/\∃cs,gk k.cells off (List.replicate n z).flatten=J cs/\K a (H.set id (J ⟨O,cs⟩))
    |_,_=>False
   |_,_=>False
  |_,_=>False
 | .makeFunc ..,_=>∃B j h,pd B a H=J (j,h)/\dK P f o K j h
 | .move (.tmp q),J d=>∃s m,(d<f/\q<f/\a q=.lp s 0/\a s=.loc m)/\K (((a.put s (.v (.pointer (J ⟨H.n,0,aa⟩)))).put q (.v (.pointer (J ⟨H.n,0,aa⟩)))).put d (.v (.pointer (J ⟨H.n,0,aa⟩)))) (H.push ⟨O,m⟩)
 | .convert s t x,J d=>(d<f/\uu P s=O/\eS P t=O)/\match iF P s a H x with
  |some (cs,_)=>∃p,cs=p.map (Value.int .u8)/\K (a.put d (.v (.string (xV p)))) H
  |none=>False
 |_,_=>False
def pP(P:Program)(a:Nat)(pre:List (Option Tmp)):List Oper->(FR->AH->Prop)->FR->AH->Prop
 |[],K,c,H=>K c H
 |o::r,K,c,H=>match o.guard with
  |none=>aN P a o (pP P a pre r K) c H\/fY P a o (pP P a pre r K) c H
  |some (j,b)=>match pz c pre j with
   |some y=>if y=J b then aN P a o (pP P a pre r K) c H\/fY P a o (pP P a pre r K) c H else bu a (pP P a pre r K) o.dst .skip c H
   |none=>False
def Zb(a b:FR):Prop:=∀t,a t=b t\/a t=jv
def zut(c:(Exit->FR->AH->Prop)->FR->AH->Prop)(Q:Exit->FR->AH->Prop):Nat->FR->AH->Prop
 |0,_,_=>False
 |n+1,f,H=>∃d,Zb d f/\c (λe b a=>match e with| .normal=>zut c Q n b a|e=>Q e b a) d H
def Qc(K:FR->AH->Prop)(Q:Exit->FR->AH->Prop):Exit->FR->AH->Prop
 | .normal,a,H=>K a H
 |e,a,H=>Q e a H
def LM(id:Nat)(Q:Exit->FR->AH->Prop):Exit->FR->AH->Prop
 | .exit i,a,H=>if i=id then Q .normal a H else Q (.exit i) a H
 |e,a,H=>Q e a H
end Go.Am
