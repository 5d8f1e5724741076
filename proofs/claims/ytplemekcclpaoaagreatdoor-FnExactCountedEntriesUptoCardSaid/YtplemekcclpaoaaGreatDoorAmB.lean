import Derived.Test.YtplemekcclpaoaaGreatDoorAmA
namespace Go.Am
inductive FV where
 |v (x:Value)
 |skip
 |loc (cells:List Value)
 |lp (slot off:Nat)
 |ls (len es:Nat) (cells:List Value)
abbrev FR:=Nat→FV
def jv:FV:=.v (.tuple #[])
def FR.put(fr:FR)(d:Nat)(x:FV):FR:=fun t=>if t=d then x else fr t
def zex(d:Nat):FV→FV
 | .lp s o=>if s=d then jv else .lp s o
 |x=>x
def FR.putLoc(fr:FR)(d:Nat)(cells:List Value):FR:=fun t=>if t=d then .loc cells else zex d (fr t)
def FR.init(args:List Value):FR:=fun t=>match args[t]? with
 |some x=>.v x
 |none=>.skip
def FR.ofL:List (Nat×FV)→FR
 |[],_=>jv
 |(s,x)::l,t=>if t=s then x else FR.ofL l t
def AH.push(H:AH)(k:Blk):AH:=⟨H.n+1,fun i=>if i=H.n then some k else H.b i⟩
def AH.set(H:AH)(id:Nat)(k:Option Blk):AH:=⟨H.n,fun i=>if i=id then k else H.b i⟩
def AH.load(H:AH)(id off:Nat):Option (List Value):=(H.b id).map fun k=>k.cells.drop off
def zg3:Nat→List Value→Option (List Value)
 |0,_=>some []
 |_+1,[]=>none
 |n+1,x::xs=>(zg3 n xs).map (x:: ·)
def zbQ:List Value→Nat→List Value→Option (List Value)
 |cs,_,[]=>some cs
 |[],_,_::_=>none
 |c::cs,n+1,xs=>(zbQ cs n xs).map (c:: ·)
 |_::cs,0,x::xs=>(zbQ cs 0 xs).map (x:: ·)
def tsz(P:Program)(t:TypeId):Option (Bool×Nat×Nat×List Value):=
 match P.info? t,P.underlying t with
 |some i,some d=>i.zero.map fun z=>((match d with| .struct _| .array _ _=>true|_=>false),i.size,i.bytes,z.cells.toList)
 |_,_=>none
def zah(P:Program)(s:TypeId)(f:Nat):Option (Nat×Nat):=
 match P.underlying s with
 |some (.struct fields)=>match fields[f]? with
  |some fd=>match P.info? fd.type with
   |some i=>if i.size=0 then none else some (fd.offset,i.size)
   |none=>none
  |none=>none
 |_=>none
def zaw(P:Program)(t:TypeId):Option TypeId:=
 match P.underlying t with
 |some (.slice e)=>some e
 |_=>none
def zj0(P:Program)(t:TypeId):Option (Nat×TypeId):=
 match P.underlying t with
 |some (.array n e)=>some (n,e)
 |_=>none
def zde(P:Program)(t:TypeId):Option IntKind:=
 match P.underlying t with
 |some (.int k)=>some k
 |_=>none
def zix(P:Program)(t:TypeId):Bool:=
 match P.underlying t with
 |some .bool=>true
 |_=>false
def zaE(P:Program)(t:TypeId):Bool:=
 match P.underlying t with
 |some .string=>true
 |_=>false
def zai:Value→Bool
 | .bool _| .int .. | .string _| .pointer none| .nilFunc| .nilIface=>true
 | .slice none 0 0=>true
 | .agg cs=>cs.toList.all fun| .bool _| .int .. | .string _| .pointer none| .nilFunc| .nilIface=>true| .slice none 0 0=>true|_=>false
 |_=>false
def rdv(fr:FR):Operand→Option Value
 | .tmp t=>match fr t with
  | .v x=>some x
  |_=>none
 | .const c=>if zai c then some c else none
 | .func f=>some (.func (.func f) #[] #[])
 | .global _=>none
def rda(fr:FR):Operand→Option FV
 | .tmp t=>match fr t with
  | .v x=>some (.v x)
  | .loc _=>some (.lp t 0)
  | .lp s o=>match fr s with
   | .loc _=>some (.lp s o)
   |_=>none
  |_=>none
 |x=>(rdv fr x).map .v
def mat(fr:FR)(H:AH):Operand→Option (Value×FR×AH)
 | .tmp t=>match fr t with
  | .v x=>some (x,fr,H)
  | .ls len es cells=>some (.slice (some ⟨H.n,0,some es⟩) len len,fr.put t (.v (.slice (some ⟨H.n,0,some es⟩) len len)),H.push ⟨true,cells⟩)
  |_=>none
 |x=>(rdv fr x).map fun v=>(v,fr,H)
def zaG(fr:FR)(H:AH):List Operand→Option (List Value×FR×AH)
 |[]=>some ([],fr,H)
 |x::xs=>match mat fr H x with
  |some (v,fr',H')=>match zaG fr' H' xs with
   |some (vs,r)=>some (v::vs,r)
   |none=>none
  |none=>none
def zbJ(op:BinOp)(k:IntKind)(x y:Int):Option Value:=
 match op with
 | .add=>some (.int k (k.wrap (x+y)))
 | .sub=>some (.int k (k.wrap (x-y)))
 | .mul=>some (.int k (k.wrap (x*y)))
 | .quo=>if y=0 then none else some (.int k (k.wrap (x.tdiv y)))
 | .rem=>if y=0 then none else some (.int k (x.tmod y))
 | .and=>some (.int k (k.wrap (BitVec.ofInt k.bits x&&&BitVec.ofInt k.bits y).toNat))
 | .or=>some (.int k (k.wrap (BitVec.ofInt k.bits x|||BitVec.ofInt k.bits y).toNat))
 | .xor=>some (.int k (k.wrap (BitVec.ofInt k.bits x^^^BitVec.ofInt k.bits y).toNat))
 | .eql=>some (.bool (x==y))
 | .neq=>some (.bool (x !=y))
 | .lss=>some (.bool (x<y))
 | .leq=>some (.bool (x≤y))
 | .gtr=>some (.bool (x>y))
 | .geq=>some (.bool (x≥y))
 |_=>none
def zlY(P:Program):List Field→Option (List Nat)
 |[]=>some []
 |f::fs=>if f.name≠ "_"∧(zde P f.type).isSome=true then(zlY P fs).map fun l=>f.offset::l else none
def zmL(P:Program)(t:TypeId):Option (List Nat):=
 match P.underlying t with
 |some (.struct fs)=>if P.stoodInHeld t=false∧P.eqGuardType P.depth t=false then zlY P fs.toList else none
 |_=>none
def eqL(xs ys:List Value):List Nat→Option Bool
 |[]=>some true
 |o::os=>match xs[o]?,ys[o]? with
  |some (.int j a),some (.int i b)=>if j=i then(eqL xs ys os).map fun r=>a==b&&r else none
  |_,_=>none
def za1(P:Program)(op:BinOp)(t:TypeId)(x y:Value):Option Value:=
 match x,y with
 | .agg xs,.agg ys=>match op with
  | .eql=>((zmL P t).bind (eqL xs.toList ys.toList)).map .bool
  | .neq=>((zmL P t).bind (eqL xs.toList ys.toList)).map fun r=>.bool !r
  |_=>none
 | .int k a,.int j b=>match op with
  | .shl=>if b<0 then none else some (.int k (k.wrap (a*2^min b.toNat k.bits)))
  | .shr=>if b<0 then none else some (.int k (a.fdiv (2^min b.toNat k.bits)))
  |_=>if k=j then zbJ op k a b else none
 | .bool a,.bool b=>if zix P t then match op with
  | .eql=>some (.bool (a==b))
  | .neq=>some (.bool (a !=b))
  |_=>none
  else none
 | .string a,.string b=>match op with
  | .eql=>some (.bool (a.toList==b.toList))
  | .neq=>some (.bool !(a.toList==b.toList))
  | .add=>if a.size+b.size≤9223372036854775807 then some (.string (a++b))else none
  |_=>none
 |_,_=>none
def unV(op:UnOp)(x:Value):Option Value:=
 match op,x with
 | .not,.bool b=>some (.bool !b)
 | .neg,.int k n=>some (.int k (k.wrap (0-n)))
 |_,_=>none
def ziL(P:Program)(s d:TypeId)(x:Value):Option Value:=
 match P.underlying s,zde P d,x with
 |some _,some k,.int _ n=>some (.int k (k.wrap n))
 |_,_,_=>none
def zgi:Value→Bool
 | .tuple _=>false
 |_=>true
def zdE(place:Nat→Option (Nat×Nat)):List (Nat×Value)→List Value→Option (List Value)
 |[],cs=>some cs
 |(i,v)::r,cs=>match place i with
  |some (off,size)=>if zgi v&&v.cells.toList.length==size&&size !=0 then
   match zbQ cs off v.cells.toList with
   |some cs'=>zdE place r cs'
   |none=>none
   else none
  |none=>none
def bnd(d:Nat):Option Value→Option Nat
 |none=>some d
 |some (.int _ l)=>if 0≤l then some l.toNat else none
 |_=>none
def zmB:Option Value→Option (Option Nat)
 |none=>some none
 |some (.int _ l)=>if 0≤l then some (some l.toNat)else none
 |_=>none
def zcW(lo hi mx:Option Value)(n c:Nat):Option (Nat×Nat×Option Nat):=
 match bnd 0 lo,bnd n hi,zmB mx with
 |some l,some h,some none=>if l≤h∧h≤c then some (l,h,none)else none
 |some l,some h,some (some m)=>if l≤h∧h≤m∧m≤c∧hi.isSome then some (l,h,some m)else none
 |_,_,_=>none
def ze6(P:Program)(t:TypeId)(x:Value)(lo hi mx:Option Value):Option Value:=
 match x with
 | .slice (some ⟨id,off,some es'⟩) n c=>match zaw P t with
  |some e=>match tsz P e with
   |some (_,es,_)=>if es≠es' then none else match zcW lo hi mx n c with
    |some (l,h,none)=>some (.slice (some ⟨id,off+l*es,some es⟩) (h-l) (c-l))
    |some (l,h,some m)=>if m-l=0 then some (.slice none 0 0)else some (.slice (some ⟨id,off+l*es,some es⟩) (h-l) (m-l))
    |none=>none
   |none=>none
  |none=>none
 | .slice none 0 0=>match zaw P t with
  |some e=>match tsz P e with
   |some _=>match zcW lo hi mx 0 0 with
    |some _=>some (.slice none 0 0)
    |none=>none
   |none=>none
  |none=>none
 | .string s=>if zaE P t then match zcW lo hi mx s.size s.size with
  |some (l,h,none)=>some (.string (s.extract l h))
  |_=>none
  else none
 |_=>none
def lenV(P:Program)(t:TypeId)(x:Value):Option Value:=
 match x with
 | .slice _ n _=>match zaw P t with
  |some _=>some (.int .i64 n)
  |none=>none
 | .string s=>if zaE P t then some (.int .i64 s.size)else none
 |_=>none
def zgd(mx:Bool)(x y:Value):Option Value:=
 match x,y with
 | .int k a,.int j b=>if k=j then some (.int k (if mx then(if a<b then b else a)else(if b<a then b else a)))else none
 |_,_=>none
def zqZ(P:Program)(t:TypeId)(cs:List Value)(off:Nat):Option Value:=
 match tsz P t with
 |some (true,sz,_)=>(zg3 sz (cs.drop off)).map fun l=>.agg l.toArray
 |some (false,_,_)=>(cs.drop off).head?
 |none=>none
def zrF(P:Program)(t:TypeId)(f:Nat)(x:Value):Option Value:=
 match P.underlying t,x with
 |some (.struct fields),.agg cs=>match fields[f]? with
  |some fd=>zqZ P fd.type cs.toList fd.offset
  |none=>none
 |_,_=>none
def zhS(P:Program)(t:TypeId)(x i:Value):Option Value:=
 match x,i with
 | .string s,.int _ n=>if zaE P t∧0≤n then(s[n.toNat]?).map fun b=>.int .u8 b.toNat else none
 | .agg cs,.int _ n=>match zj0 P t with
  |some (len,e)=>if 0≤n∧n<len then match tsz P e with
   |some (_,es,_)=>zqZ P e cs.toList (n.toNat*es)
   |none=>none
   else none
  |none=>none
 |_,_=>none
def zaJ:Op→Option (List Operand)
 | .move x| .assign x| .unOp _ _ x| .convert _ _ x| .field _ x _| .extract x _=>some [x]
 | .binOp _ _ x y _| .index _ x y=>some [x,y]
 | .build _ ps=>some (ps.toList.map (·.2))
 | .makeFunc _ a c=>some (a.toList++c.toList)
 | .slice _ x l h m=>some ([x]++l.toList++h.toList++m.toList)
 | .call c=>match c.callee with
  | .builtin .len| .builtin .min| .builtin .max=>some c.args.toList
  |_=>none
 |_=>none
def zkB(P:Program)(t:TypeId)(js:List Nat)(vs:List Value):Option Value:=
 match P.underlying t with
 |some (.struct fields)=>match tsz P t with
  |some (_,_,_,z)=>if z.all zai&&fields.toList.all (fun f=>(P.info? f.type).isSome)then(zdE (zah P t) (js.zip vs) z).map fun l=>.agg l.toArray else none
  |none=>none
 |some (.array _ e)=>match tsz P t with
  |some (_,_,_,z)=>match tsz P e with
   |some (_,es,_)=>if z.all zai then(zdE (fun i=>some (i*es,es)) (js.zip vs) z).map fun l=>.agg l.toArray else none
   |none=>none
  |none=>none
 |_=>none
def zaP(P:Program)(op:Op)(vs:List Value):Option Value:=
 match op with
 | .move _| .assign _=>match vs with
  |[x]=>some x
  |_=>none
 | .unOp op _ _=>match vs with
  |[x]=>unV op x
  |_=>none
 | .convert s d _=>match vs with
  |[x]=>ziL P s d x
  |_=>none
 | .field t _ f=>match vs with
  |[x]=>zrF P t f x
  |_=>none
 | .extract _ i=>match vs with
  |[.tuple us]=>us.toList[i]?
  |_=>none
 | .binOp op t _ _ _=>match vs with
  |[x,y]=>za1 P op t x y
  |_=>none
 | .index t _ _=>match vs with
  |[x,i]=>zhS P t x i
  |_=>none
 | .build t ps=>zkB P t (ps.toList.map (·.1)) vs
 | .makeFunc fn a _=>some (.func fn (vs.take a.size).toArray (vs.drop a.size).toArray)
 | .slice t _ l h m=>match l,h,m,vs with
  |none,none,none,[x]=>ze6 P t x none none none
  |some _,none,none,[x,l]=>ze6 P t x (some l) none none
  |none,some _,none,[x,h]=>ze6 P t x none (some h) none
  |some _,some _,none,[x,l,h]=>ze6 P t x (some l) (some h) none
  |some _,some _,some _,[x,l,h,m]=>ze6 P t x (some l) (some h) (some m)
  |none,some _,some _,[x,h,m]=>ze6 P t x none (some h) (some m)
  |_,_,_,_=>none
 | .call c=>match c.callee with
  | .builtin .len=>match vs,c.argTypes.toList with
   |[x],[t]=>lenV P t x
   |_,_=>none
  | .builtin .min=>match vs with
   |[x,y]=>zgd false x y
   |_=>none
  | .builtin .max=>match vs with
   |[x,y]=>zgd true x y
   |_=>none
  |_=>none
 |_=>none
def zcV(P:Program)(fr:FR):Op→Option FV
 | .fieldAddr s x f=>match zah P s f,rda fr x with
  |some (o,_),some (.lp t off)=>some (.lp t (off+o))
  |some (o,_),some (.v (.pointer (some ⟨id,off,none⟩)))=>some (.v (.pointer (some ⟨id,off+o,none⟩)))
  |_,_=>none
 | .indexAddr t x i=>match rda fr x,rdv fr i with
  |some (.v (.slice (some ⟨id,off,some es'⟩) n _)),some (.int _ j)=>match zaw P t with
   |some e=>match tsz P e with
    |some (_,es,_)=>if es=es'∧0≤j∧j<n then some (.v (.pointer (some ⟨id,off+j.toNat*es,none⟩)))else none
    |none=>none
   |none=>none
  |some (.lp s off),some (.int _ j)=>match zj0 P t with
   |some (len,e)=>match tsz P e with
    |some (_,es,_)=>if 0≤j∧j<len then some (.lp s (off+j.toNat*es))else none
    |none=>none
   |none=>none
  |some (.v (.pointer (some ⟨id,off,none⟩))),some (.int _ j)=>match zj0 P t with
   |some (len,e)=>match tsz P e with
    |some (_,es,_)=>if 0≤j∧j<len then some (.v (.pointer (some ⟨id,off+j.toNat*es,none⟩)))else none
    |none=>none
   |none=>none
  |_,_=>none
 | .nilCheck x=>match rda fr x with
  |some (.v (.pointer (some a)))=>some (.v (.pointer (some a)))
  |some (.lp s off)=>some (.lp s off)
  |_=>none
 |_=>none
def zfr(P:Program)(t:TypeId)(cs:Option (List Value)):Option Value:=
 match tsz P t,cs with
 |some (true,sz,_),some cs=>(zg3 sz cs).map fun l=>.agg l.toArray
 |some (false,_,_),some (c::_)=>some c
 |_,_=>none
def zcq(fr:FR)(H:AH)(a:Operand):Option (List Value):=
 match rda fr a with
 |some (.lp s o)=>match fr s with
  | .loc cells=>some (cells.drop o)
  |_=>none
 |some (.v (.pointer (some ⟨id,off,none⟩)))=>H.load id off
 |_=>none
def zfj(P:Program)(t:TypeId)(s:Value)(new:List Value)(m:Nat)(H:AH):Option (Value×AH):=
 match zaw P t with
 |none=>none
 |some e=>match tsz P e with
  |none=>none
  |some (_,es,by_,z)=>
   if es=0∨z.length≠es∨new.all zeb=false then none else
   match s with
   | .slice none 0 0=>if m=0 then some (.slice none 0 0,H)else
    if m*by_≤140737488355328∧m≤4611686018427387904 then some (.slice (some ⟨H.n,0,some es⟩) m m,H.push ⟨true,new⟩)else none
   | .slice (some ⟨id,off,some es'⟩) n c=>if m=0 then some (.slice (some ⟨id,off,some es'⟩) n c,H)else match H.b id with
    |none=>none
    |some k=>if k.rw=true∧es=es'∧off+n*es≤k.cells.length∧(n+m)*by_≤140737488355328∧n+m≤4611686018427387904 then
     if n+m≤c then match zbQ k.cells (off+n*es) new with
      |some cs=>some (.slice (some ⟨id,off,some es⟩) (n+m) c,H.set id (some ⟨true,cs⟩))
      |none=>none
     else if off=0 then some (.slice (some ⟨H.n,0,some es⟩) (n+m) (n+m),(H.set id none).push ⟨true,k.cells.take (n*es)++new⟩)else none
     else none
   |_=>none
def zdS(P:Program)(t:TypeId)(fr:FR)(H:AH)(x:Operand):Option (List Value×Nat):=
 match zaw P t with
 |none=>none
 |some e=>match tsz P e with
  |none=>none
  |some (_,es,_)=>
   match x with
   | .tmp s=>match fr s with
    | .ls len es' cells=>if es'=es then some (cells,len)else none
    | .v (.slice none 0 0)=>some ([],0)
    | .v (.slice (some ⟨id,off,some es'⟩) n _)=>if n=0 then some ([],0)else if es≠es' then none else(H.load id off).bind fun cs=>(zg3 (n*es) cs).map fun l=>(l,n)
    |_=>none
   | .const (.slice none 0 0)=>some ([],0)
   |_=>none
def zeD(fr:FR)(pre:List (Option Tmp))(j:Nat):Option (Option Bool):=
 match pre[j]? with
 |some (some d)=>match fr d with
  | .v (.bool b)=>some (some b)
  | .skip=>some none
  |_=>none
 |_=>none
def zar(nt:Nat)(K:FR→AH→Prop)(d:Option Tmp)(x:FV)(fr:FR)(H:AH):Prop:=
 match d with
 |some d=>if d<nt then K (fr.put d x) H else False
 |none=>K fr H
def zaB(P:Program)(nt:Nat)(o:Oper)(K:FR→AH→Prop)(fr:FR)(H:AH):Prop:=
 match zaJ o.op with
 |some xs=>match zaG fr H xs with
  |some (vs,fr',H')=>match zaP P o.op vs with
   |some v=>zar nt K o.dst (.v v) fr' H'
   |none=>False
  |none=>False
 |none=>False
def zg1(P:Program)(t:TypeId):Bool:=
 match zaw P t with
 |some e=>match zde P e,tsz P e with
  |some .u8,some (_,1,_,_)=>true
  |_,_=>false
 |none=>false
def zcY(ns:List Int):ByteArray:=⟨(ns.map fun n=>UInt8.ofNat n.toNat).toArray⟩
def lsQ(fr:FR):Operand→Option (Nat×List Value)
 | .tmp u=>match fr u with
  | .ls len es cells=>if es=1 then some (len,cells)else none
  |_=>none
 |_=>none
def zyh(P:Program)(nt:Nat)(t:TypeId)(x i:Operand)(d:Option Tmp)(K:FR→AH→Prop)(fr:FR)(H:AH):Prop:=
 ∃u l es cs k j e g r,x=.tmp u∧fr u=.ls l es cs∧rdv fr i=some (.int k j)∧zaw P t=some e∧tsz P e=some (g,es,r)∧(0≤j∧j<(l:Int))∧
  zar nt K d (.v (.pointer (some ⟨H.n,j.toNat*es,none⟩))) (fr.put u (.v (.slice (some ⟨H.n,0,some es⟩) l l))) (H.push ⟨true,cs⟩)
def aop(P:Program)(nt:Nat)(o:Oper)(K:FR→AH→Prop)(fr:FR)(H:AH):Prop:=
 match o.op with
 | .load t a=>match zfr P t (zcq fr H a)with
  |some v=>zar nt K o.dst (.v v) fr H
  |none=>False
 | .fieldAddr .. | .nilCheck .. =>match zcV P fr o.op with
  |some x=>zar nt K o.dst x fr H
  |none=>False
 | .indexAddr t x i=>(match zcV P fr o.op with
  |some x=>zar nt K o.dst x fr H
  |none=>False)∨zyh P nt t x i o.dst K fr H
 | .alloc e=>match tsz P e,o.dst with
  |some (_,_,_,z),some d=>if d<nt∧z.all zai=true then K (fr.putLoc d z) H else False
  |_,_=>False
 | .box e x=>match tsz P e,rdv fr x,o.dst with
  |some _,some v,some d=>if d<nt∧zgi v=true then K (fr.putLoc d v.cells.toList) H else False
  |_,_,_=>False
 | .buildSlice t len ps=>match zaw P t,o.dst,zaG fr H (ps.toList.map (·.2))with
  |some e,some d,some (vs,fr',H')=>match tsz P e with
   |some (_,es,_,z)=>if d<nt∧len*es≤2^24∧z.length=es∧es≠0∧z.all zai=true then
    match zdE (fun i=>some (i*es,es)) ((ps.toList.map (·.1)).zip vs) ((List.replicate len z).flatten)with
    |some cs=>K (fr'.put d (.ls len es cs)) H'
    |none=>False
    else False
   |none=>False
  |_,_,_=>False
 | .store t a x=>match mat fr H x,tsz P t with
  |some (v,fr',H'),some (_,sz,_)=>
   if zgi v=true∧v.cells.toList.length=sz∧sz≠0∧v.cells.toList.all zeb=true then
    match rda fr' a with
    |some (.lp s off)=>match fr' s with
     | .loc cells=>match zbQ cells off v.cells.toList with
      |some cs=>zar nt K o.dst .skip (fr'.put s (.loc cs)) H'
      |none=>False
     |_=>False
    |some (.v (.pointer (some ⟨id,off,none⟩)))=>match H'.b id with
     |some k=>if k.rw=true then match zbQ k.cells off v.cells.toList with
      |some cs=>zar nt K o.dst .skip fr' (H'.set id (some ⟨true,cs⟩))
      |none=>False
      else False
     |none=>False
    |_=>False
   else False
  |_,_=>False
 | .pick c a b=>match rdv fr c with
  |some (.bool true)=>match rdv fr a with
   |some v=>zar nt K o.dst (.v v) fr H
   |none=>False
  |some (.bool false)=>match rdv fr b with
   |some v=>zar nt K o.dst (.v v) fr H
   |none=>False
  |_=>False
 | .makeSlice t l c=>match zaw P t,rdv fr l,rdv fr c with
  |some e,some (.int .i64 n),some (.int .i64 c)=>match tsz P e with
   |some (_,es,by_,z)=>if 0≤n∧n≤c∧by_*c≤140737488355328∧c≤4611686018427387904∧z.length=es∧es≠0∧z.all zai=true then
    zar nt K o.dst (.v (.slice (some ⟨H.n,0,some es⟩) n.toNat c.toNat)) fr (H.push ⟨true,(List.replicate c.toNat z).flatten⟩)
    else False
   |none=>False
  |_,_,_=>False
 | .call ⟨.builtin .append,args,argTypes⟩=>match args.toList,argTypes.toList with
  |[s,x],[t,t']=>if t=t' then match mat fr H s with
   |some (sv,fr',H')=>match zdS P t fr' H' x with
    |some (new,m)=>match zfj P t sv new m H' with
     |some (v,H'')=>zar nt K o.dst (.v v) fr' H''
     |none=>False
    |none=>False
   |none=>False
   else False
  |_,_=>False
 | .call ⟨.builtin .copy,args,tys⟩=>match args.toList,tys.toList with
  |[x,y],[t,_]=>match zaw P t,rdv fr x,zdS P t fr H y with
   |some e,some (.slice (some ⟨id,off,some es'⟩) n c),some (cs,l)=>match tsz P e,H.b id with
    |some (_,es,_,_),some k=>if n≤c∧es=es'∧k.rw=true∧es≠0∧0<min l n∧(cs.take (min l n*es)).all zeb=true then
     match zbQ k.cells off (cs.take (min l n*es))with
     |some cs'=>zar nt K o.dst (.v (.int .i64 (min l n:Nat))) fr (H.set id (some ⟨true,cs'⟩))
     |none=>False
     else False
    |_,_=>False
   |_,_,_=>False
  |_,_=>False
 | .call ⟨.value f,args,_⟩=>match zaG fr H args.toList with
  |some (vs,fr',H')=>match rdv fr' f with
   |some (.func (.func g) first captured)=>ACalls P g (first.toList++vs++captured.toList) H' fun v H''=>zar nt K o.dst (.v v) fr' H''
   |_=>False
  |none=>False
 | .move x=>match rda fr x with
  |some (.lp s off)=>zar nt K o.dst (.lp s off) fr H
  |_=>zaB P nt o K fr H
 | .assign x=>match rda fr x with
  |some (.lp s off)=>zar nt K o.dst (.lp s off) fr H
  |_=>zaB P nt o K fr H
 | .convert s t x=>zaB P nt o K fr H∨((zg1 P s=true∧zaE P t=true∧o.dst.isSome=true)∧∃l ns,lsQ fr x=some (l,ns.map (Value.int .u8))∧zar nt K o.dst (.v (.string (zcY ns))) fr H)
 |_=>zaB P nt o K fr H
def zhs:List Nat→FR→AH→Option (FR×AH)
 |[],fr,H=>some (fr,H)
 |t::ts,fr,H=>match fr t with
  | .loc cells=>zhs ts (fr.put t (.v (.pointer (some ⟨H.n,0,none⟩)))) (H.push ⟨true,cells⟩)
  |_=>none
def zhi:Operand→Bool
 | .const (.slice none 0 0)=>true
 |_=>false
def zrS:BinOp→Option Bool
 | .eql=>some true
 | .neq=>some false
 |_=>none
def ahp(P:Program)(nt:Nat)(o:Oper)(K:FR→AH→Prop)(fr:FR)(H:AH):Prop:=
 match o.op,o.dst with
 | .alloc e,some d=>match tsz P e with
  |some (_,_,_,z)=>d<nt∧z.all zai=true∧K (fr.put d (.v (.pointer (some ⟨H.n,0,none⟩)))) (H.push ⟨true,z⟩)
  |none=>False
 | .box e x,some d=>match tsz P e,rdv fr x with
  |some _,some v=>d<nt∧zgi v=true∧K (fr.put d (.v (.pointer (some ⟨H.n,0,none⟩)))) (H.push ⟨true,v.cells.toList⟩)
  |_,_=>False
 | .binOp op t x y _,some d=>(d<nt∧zhi y=true∧(zaw P t).isSome=true)∧match zrS op,rdv fr x with
  |some _,some (.slice none 0 0)=>∀b,K (fr.put d (.v (.bool b))) H
  |some q,some (.slice (some _) _ _)=>K (fr.put d (.v (.bool (!q)))) H
  |_,_=>False
 | .call ⟨.builtin .cap,args,tys⟩,some d=>match args.toList,tys.toList with
  |[x],[t]=>d<nt∧(zaw P t).isSome=true∧rdv fr x=some (.slice none 0 0)∧K (fr.put d (.v (.int .i64 0))) H
  |_,_=>False
 | .call ⟨.builtin .append,args,tys⟩,some d=>match args.toList,tys.toList with
  |[s,x],[t,t']=>match zaw P t,rdv fr x with
   |some e,some (.int .i64 n)=>match tsz P e with
    |some (_,es,by_,z)=>((d<nt∧(zde P t').isSome=true∧rdv fr s=some (.slice none 0 0)∧0<n∧by_*n≤140737488355328∧n≤4611686018427387904∧z.length=es∧es≠0∧z.all zai=true)∧
     K (fr.put d (.v (.slice (some ⟨H.n,0,some es⟩) n.toNat n.toNat))) (H.push ⟨true,(List.replicate n.toNat z).flatten⟩))∨
     ((d<nt∧(zde P t').isSome=true∧0<n∧by_*n≤140737488355328∧n≤4611686018427387904∧z.length=es∧es≠0∧z.all zai=true)∧∃sv v H',rdv fr s=some sv∧zfj P t sv (List.replicate n.toNat z).flatten n.toNat H=some (v,H')∧K (fr.put d (.v v)) H')
    |none=>False
   |_,_=>False
  |_,_=>False
 | .call ⟨.builtin .clear,args,tys⟩,none=>match args.toList,tys.toList with
  |[x],[t]=>match zaw P t,rdv fr x with
   |some e,some (.slice (some ⟨id,off,some es'⟩) n c)=>match tsz P e,H.b id with
    |some (_,es,_,z),some k=>(n≠0∧n≤c∧es=es'∧k.rw=true∧z.length=es∧es≠0∧z.all zai=true∧z.all zeb=true)∧∃cs,zbQ k.cells off (List.replicate n z).flatten=some cs∧K fr (H.set id (some ⟨true,cs⟩))
    |_,_=>False
   |_,_=>False
  |_,_=>False
 | .makeFunc ..,_=>∃ts fr' H',zhs ts fr H=some (fr',H')∧zaB P nt o K fr' H'
 | .move (.tmp q),some d=>∃s cells,(d<nt∧q<nt∧fr q=.lp s 0∧fr s=.loc cells)∧K (((fr.put s (.v (.pointer (some ⟨H.n,0,none⟩)))).put q (.v (.pointer (some ⟨H.n,0,none⟩)))).put d (.v (.pointer (some ⟨H.n,0,none⟩)))) (H.push ⟨true,cells⟩)
 | .convert s t x,some d=>(d<nt∧zg1 P s=true∧zaE P t=true)∧match zdS P s fr H x with
  |some (cs,_)=>∃ns,cs=ns.map (Value.int .u8)∧K (fr.put d (.v (.string (zcY ns)))) H
  |none=>False
 |_,_=>False
def zeh(P:Program)(nt:Nat)(pre:List (Option Tmp)):List Oper→(FR→AH→Prop)→FR→AH→Prop
 |[],K,fr,H=>K fr H
 |o::r,K,fr,H=>match o.guard with
  |none=>aop P nt o (zeh P nt pre r K) fr H∨ahp P nt o (zeh P nt pre r K) fr H
  |some (j,b)=>match zeD fr pre j with
   |some y=>if y=some b then aop P nt o (zeh P nt pre r K) fr H∨ahp P nt o (zeh P nt pre r K) fr H else zar nt (zeh P nt pre r K) o.dst .skip fr H
   |none=>False
def zyx(fr2 fr:FR):Prop:=∀t,fr2 t=fr t∨fr2 t=jv
def zkC(body:(Exit→FR→AH→Prop)→FR→AH→Prop)(Q:Exit→FR→AH→Prop):Nat→FR→AH→Prop
 |0,_,_=>False
 |n+1,fr,H=>∃fr2,zyx fr2 fr∧body (fun e fr' H'=>match e with| .normal=>zkC body Q n fr' H'|e=>Q e fr' H') fr2 H
def zh1(K:FR→AH→Prop)(Q:Exit→FR→AH→Prop):Exit→FR→AH→Prop
 | .normal,fr,H=>K fr H
 |e,fr,H=>Q e fr H
def ziV(id:Nat)(Q:Exit→FR→AH→Prop):Exit→FR→AH→Prop
 | .exit i,fr,H=>if i=id then Q .normal fr H else Q (.exit i) fr H
 |e,fr,H=>Q e fr H
end Go.Am
