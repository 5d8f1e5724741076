import Derived.Test.YtekoabfndgochaaGreatDoorPmS
namespace Go.Pm
open Go.Am
section
variable {P:Program}{c co:Cfg}{k:List PIt}{Q:Exit→PFr→Prop}{pf:PFr}
variable{a n:Int}{b o:Bool}{d e es hi i lo s s':Nat}{f:Fn}{j:IntKind}{op:Op}{p:zaf}{pre:List (Option Tmp)}{r:List PV}{t ty:TypeId}{x:Operand}{y:PF}
@[go_sem] theorem zMQ{a:Nat}{b f h:List Nat}:Cfg.nohp ⟨a,b,f,h⟩=⟨a,b,f,[]⟩:=(rfl)
@[go_sem ↓] theorem zHW{id:Nat}{ops:List Oper}:pw P c (.code (.region id ops.toArray false)::k) Q pf=pw P c (.ops (ops.map (·.dst)) ops::k) Q pf:=by
 show pwp P c (.region id ops.toArray false) (zcs P c k Q) pf=_;simp only[pwp,Bool.false_eq_true,if_false];rfl
@[go_sem ↓] theorem zFr :pw P c (.ops pre []::k) Q pf=pw P c k Q pf:=rfl
def pw1(P:Program)(c co:Cfg)(ty:TypeId)(op:Op)(d:Option Tmp)(k:List PIt)(Q:Exit→PFr→Prop)(pf:PFr):Prop:=pop P co ⟨d,op,ty, "",#[],none⟩ (pw P c k Q) pf
theorem zxL{o o':Oper}{K:PFr→Prop}(h:o.op=o'.op)(hd:o.dst=o'.dst)(ht:o.type=o'.type):pop P c o K pf=pop P c o' K pf:=by
 obtain⟨d,op,ty,ps,af,g⟩:=o;obtain⟨d',op',ty',ps',af',g'⟩:=o';simp only at h hd ht;subst h;subst hd;subst ht;rfl
@[go_sem ↓] theorem zRo{d:Option Tmp}{ps:String}{af:Array Edge}{l:List Oper}:
 pw P c (.ops pre (⟨d,op,ty,ps,af,none⟩::l)::k) Q pf=pw1 P c c ty op d (.ops pre l::k) Q pf:=by
 show znl P c pre ⟨d,op,ty,ps,af,none⟩ (pw P c (.ops pre l::k) Q) pf=_;simp only[znl];exact zxL rfl rfl rfl
def pwg(P:Program)(c:Cfg)(y:Option (Option Bool))(b:Bool)(ty:TypeId)(op:Op)(d:Option Tmp)(k:List PIt)(Q:Exit→PFr→Prop)(pf:PFr):Prop:=
 pgo c b d (pw1 P c c ty op d k Q pf) (pw P c k Q) pf y
theorem zyb{y y':Option (Option Bool)}{d:Option Tmp}(h:y=y'):pwg P c y b ty op d k Q pf=pwg P c y' b ty op d k Q pf:=by rw[h]
@[go_sem ↓] theorem zPo{d:Option Tmp}{ps:String}{af:Array Edge}{j:Nat}{l:List Oper}:
 pw P c (.ops pre (⟨d,op,ty,ps,af,some (j,b)⟩::l)::k) Q pf=pwg P c (ygP pf pre[j]?) b ty op d (.ops pre l::k) Q pf:=by
 show znl P c pre ⟨d,op,ty,ps,af,some (j,b)⟩ (pw P c (.ops pre l::k) Q) pf=_;simp only[znl];unfold pwg pw1;rw[zxL (o:=⟨d,op,ty,ps,af,some (j,b)⟩) (o':=⟨d,op,ty, "",#[],none⟩) rfl rfl rfl]
@[go_sem] theorem zIZ{d:Tmp}:ygP pf (some (some d))=ygV (pf d):=(rfl)
@[go_sem] theorem zID :ygV (.v (.bool b))=some (some b):=(rfl)
@[go_sem] theorem zKe:ygV .skip=some none:=(rfl)
@[go_sem ↓] theorem zPc{d:Option Tmp}:pwg P c (some (some true)) true ty op d k Q pf=pw1 P c c ty op d k Q pf:=by simp[pwg,pgo]
@[go_sem ↓] theorem zPg{d:Option Tmp}:pwg P c (some (some false)) false ty op d k Q pf=pw1 P c c ty op d k Q pf:=by simp[pwg,pgo]
@[go_sem ↓] theorem zOU{d:Tmp}(h:ckd c d .skip=true):pwg P c (some (some true)) false ty op (some d) k Q pf=pw P c k Q (pf.put d .skip):=by simp[pwg,pgo,zj0,h]
@[go_sem ↓] theorem zPP{d:Tmp}(h:ckd c d .skip=true):pwg P c (some (some false)) true ty op (some d) k Q pf=pw P c k Q (pf.put d .skip):=by simp[pwg,pgo,zj0,h]
@[go_sem ↓] theorem zQb{d:Tmp}(h:ckd c d .skip=true):pwg P c (some none) b ty op (some d) k Q pf=pw P c k Q (pf.put d .skip):=by simp[pwg,pgo,zj0,h]
theorem zx6{y:Bool}{d:Option Tmp}(h1:y=true→pwg P c (some (some true)) b ty op d k Q pf)(h2:y=false→pwg P c (some (some false)) b ty op d k Q pf):pwg P c (some (some y)) b ty op d k Q pf:=by
 cases y
 ·exact h2 rfl
 ·exact h1 rfl
def qv(P:Program)(c co:Cfg)(x:Option (PF×PFr))(d:Option Tmp)(k:List PIt)(Q:Exit→PFr→Prop):Prop:=
 match x with
 |some a=>zbT co (pw P c k Q) d a.1 a.2
 |none=>False
def qz(P:Program)(c:Cfg)(d:Nat)(k:List PIt)(Q:Exit→PFr→Prop)(x:Option (PF×PFr)):Prop:=pfz (pw P c k Q) d x
theorem zzm{x x':Option (PF×PFr)}{d:Option Tmp}(h:x=x'):qv P c co x d k Q=qv P c co x' d k Q:=by rw[h]
theorem zyU{x x':Option (PF×PFr)}(h:x=x'):qz P c d k Q x=qz P c d k Q x':=by rw[h]
@[go_sem ↓] theorem zNa{d:Tmp}(h:ckd co d y=true)(hf:co.fz.contains d=false):qv P c co (some (y,pf)) (some d) k Q=pw P c k Q (pf.put d y):=by simp only[qv,zbT,h,hf];simp
@[go_sem ↓] theorem zQ8{d:Tmp}(h:ckd co d y=true)(hf:co.fz.contains d=true):qv P c co (some (y,pf)) (some d) k Q=qz P c d k Q (zqA pf y):=by simp only[qv,zbT,h,hf];simp[qz]
@[go_sem ↓] theorem zOR :qv P c co (some (y,pf)) none k Q=pw P c k Q pf:=rfl
@[go_sem ↓] theorem zOt :qz P c d k Q (some (y,pf))=pw P c k Q (pf.put d y):=rfl
def qf(P:Program)(c:Cfg)(x:Option PFr)(k:List PIt)(Q:Exit→PFr→Prop):Prop:=
 match x with
 |some pf=>pw P c k Q pf
 |none=>False
theorem zyz{x x':Option PFr}(h:x=x'):qf P c x k Q=qf P c x' k Q:=by rw[h]
@[go_sem ↓] theorem zMi:qf P c (some pf) k Q=pw P c k Q pf:=rfl
attribute [congr] zyH zyb zzm zyU zyz
@[go_sem] theorem zPk :ckd c d y=(decide (d<c.nt)&& !c.io.contains d&& !(zaw y==some d)):=(rfl)
@[go_sem] theorem zMv{x:PV}:zaw (.v x)=none:=(rfl)
@[go_sem] theorem zHm:zaw .skip=none:=(rfl)
@[go_sem] theorem zIE{j:Nat}:zaw (.pt s p i j)=some s:=(rfl)
@[go_sem] theorem zJ7 :zaw (.rf s p)=some s:=(rfl)
@[go_sem] theorem zL6 :zaw (.rv s p lo hi)=some s:=(rfl)
@[go_sem] theorem zLp{j n:Nat}:zaw (.ra s p i j n)=some s:=(rfl)
@[go_sem] theorem zMH{t:Nat}{x:PF}:PFr.put pf d x t=if t=d then x else zcS d (pf t):=(rfl)
@[go_sem] theorem zMq{t:Nat}{x:PF}:PFr.upd pf d x t=if t=d then x else pf t:=(rfl)
@[go_sem] theorem zLr{n t:Nat}:PFr.kill pf s n t=zbW s n (pf t):=(rfl)
@[go_sem] theorem zOB{x:PV}:zcS d (.v x)=.v x:=(rfl)
@[go_sem] theorem zE5 :zcS d .skip=.skip:=(rfl)
@[go_sem] theorem zJv{r:List (List PV)}:zcS d (.ls es r)=.ls es r:=(rfl)
@[go_sem] theorem zJ1 :zcS d (.bl r)=.bl r:=(rfl)
@[go_sem] theorem zJQ{j:Nat}:zcS d (.pt s p i j)=if s=d then jP else .pt s p i j:=by simp[zcS,zaw]
@[go_sem] theorem zKf :zcS d (.rf s p)=if s=d then jP else .rf s p:=by simp[zcS,zaw]
@[go_sem] theorem zIN :zcS d (.rv s p lo hi)=if s=d then jP else .rv s p lo hi:=by simp[zcS,zaw]
@[go_sem] theorem zIO{j n:Nat}:zcS d (.ra s p i j n)=if s=d then jP else .ra s p i j n:=by simp[zcS,zaw]
@[go_sem] theorem zMU :zcS d jP=jP:=(rfl)
@[go_sem] theorem zOl{n:Nat}{x:PV}:zbW s n (.v x)=.v x:=by simp[zbW,zaw]
@[go_sem] theorem zKd{n:Nat}{r:List (List PV)}:zbW s n (.ls es r)=.ls es r:=by simp[zbW,zaw]
@[go_sem] theorem zLW{n:Nat}:zbW s n (.bl r)=.bl r:=by simp[zbW,zaw]
@[go_sem] theorem zK3{n j:Nat}:zbW s n (.pt s' p i j)=if s'=s∧n≤p.length then jP else .pt s' p i j:=by simp[zbW,zaw,zhA]
@[go_sem] theorem zIG{n:Nat}:zbW s n (.rf s' p)=if s'=s∧n≤p.length then jP else .rf s' p:=by simp[zbW,zaw,zhA]
@[go_sem] theorem zI0{n:Nat}:zbW s n (.rv s' p lo hi)=if s'=s∧n≤p.length then jP else .rv s' p lo hi:=by simp[zbW,zaw,zhA]
@[go_sem] theorem zJw{n j m:Nat}:zbW s n (.ra s' p i j m)=if s'=s∧n≤p.length+1 then jP else .ra s' p i j m:=by simp[zbW,zaw,zhA]
@[go_sem] theorem zJC{x:PF}{l:List (Nat×PF)}{t:Nat}:PFr.ofL ((s,x)::l) t=if t=s then x else PFr.ofL l t:=(rfl)
@[go_sem] theorem zN2{t:Nat}:PFr.ofL [] t=jP:=(rfl)
@[go_sem] theorem zHv{as:List (Md×PV)}{t:Nat}:zh7 as t=zrE as[t]? :=(rfl)
@[go_sem] theorem zHT{m:Md}{x:PV}:zrE (some (m,x))=.v x:=(rfl)
@[go_sem] theorem zKy :isJ (.bool b)=false:=(rfl)
@[go_sem] theorem zMX :isJ (.int j n)=false:=(rfl)
@[go_sem] theorem zNN{s:ByteArray}:isJ (.str s)=false:=(rfl)
@[go_sem] theorem zOQ{r:List (List PV)}:isJ (.sl o es r)=false:=(rfl)
@[go_sem] theorem zPQ :isJ (.fp r)=false:=(rfl)
@[go_sem] theorem zPw :isJ (.bx r)=false:=(rfl)
@[go_sem] theorem zLL{a b:List PV}:isJ (.func f a b)=false:=(rfl)
@[go_sem] theorem zNv :isJ (.agg r)=false:=(rfl)
@[go_sem] theorem zNZ :isJ (.tup r)=false:=(rfl)
@[go_sem] theorem zH7 :zaL (.bool b)=false:=by simp[zaL]
@[go_sem] theorem zKw :zaL (.int j n)=false:=by simp[zaL]
@[go_sem] theorem zJm{s:ByteArray}:zaL (.str s)=false:=by simp[zaL]
@[go_sem] theorem zNp :zaL (.fp r)=false:=by simp[zaL]
@[go_sem] theorem zIl{a b:List PV}:zaL (.func f a b)=false:=by simp[zaL]
attribute [go_sem] zkk zuE zid zr0 zi2 zqk zoV zsv zoL zsK zqR zqV
@[go_sem] theorem zIb :drop (.bool b)=.bool b:=by simp[drop]
@[go_sem] theorem zJe :drop (.int j n)=.int j n:=by simp[drop]
@[go_sem] theorem zJX{s:ByteArray}:drop (.str s)=.str s:=by simp[drop]
@[go_sem] theorem zH4{a b:List PV}:drop (.func f a b)=.func f a b:=by simp[drop]
@[go_sem] theorem zMW:zbo .junk=true:=by simp[zbo]
@[go_sem] theorem zD2 :zbo (.bool b)=true:=by simp[zbo]
@[go_sem] theorem zHS :zbo (.int j n)=true:=by simp[zbo]
@[go_sem] theorem zIq{s:ByteArray}:zbo (.str s)=true:=by simp[zbo]
@[go_sem] theorem zEm :ziH (.int j n)=true:=(rfl)
@[go_sem] theorem zDP :ziH (.bool b)=true:=(rfl)
@[go_sem] theorem zIu{r:List (List PV)}:ziH (.sl o es r)=true:=(rfl)
@[go_sem] theorem zDI :zdh (.int j n)=true:=(rfl)
@[go_sem] theorem zBW :zdh (.bool b)=true:=(rfl)
@[go_sem] theorem zD3{r:List (List PV)}:zdh (.sl o es r)=true:=(rfl)
@[go_sem] theorem zDS :zdh (.agg r)=true:=(rfl)
@[go_sem] theorem zDb{a b:List PV}:zdh (.func f a b)=true:=(rfl)
@[go_sem] theorem zEY :zaE (.int j n)=[.int j n]:=(rfl)
@[go_sem] theorem zDQ :zaE (.bool b)=[.bool b]:=(rfl)
@[go_sem] theorem zHt{r:List (List PV)}:zaE (.sl o es r)=[.sl o es r]:=(rfl)
@[go_sem] theorem zGd :zaE (.agg r)=r:=(rfl)
@[go_sem] theorem zDT{a b:List PV}:zaE (.func f a b)=[.func f a b]:=(rfl)
@[go_sem] theorem zHB :zie e (.bool b)=.bool b:=(rfl)
@[go_sem] theorem zJr :zie e (.int j n)=.int j n:=(rfl)
@[go_sem] theorem zLy{s:ByteArray}:zie e (.string s)=.str s:=(rfl)
@[go_sem] theorem zJV :zie e (.slice none 0 0)=.sl true e []:=(rfl)
@[go_sem] theorem zMS :zat (.int j n)=true:=(rfl)
@[go_sem] theorem zKO :zat (.bool b)=true:=(rfl)
@[go_sem] theorem zM5{b:ByteArray}:zat (.string b)=true:=(rfl)
@[go_sem] theorem zNL:zat (.slice none 0 0)=true:=(rfl)
@[go_sem] theorem zNs{t:Tmp}:rdS pf (.tmp t)=zqc (pf t):=(rfl)
@[go_sem] theorem zOW{x:PV}:zqc (.v x)=toS x:=(rfl)
@[go_sem] theorem zHG:zqc .skip=none:=(rfl)
@[go_sem] theorem zLY :toS (.bool b)=some (.bool b):=(rfl)
@[go_sem] theorem zNI :toS (.int j n)=some (.int j n):=(rfl)
@[go_sem] theorem zNB{s:ByteArray}:toS (.str s)=some (.string s):=(rfl)
@[go_sem] theorem zN1{l:List PV}:toS (.agg l)=(zmn l).map fun l=>.agg l.toArray:=(rfl)
@[go_sem] theorem zKY:zmn []=some []:=(rfl)
@[go_sem] theorem zLu :zmn (.int j n::r)=(zmn r).map fun l=>.int j n::l:=(rfl)
@[go_sem] theorem zOg :rdS pf (.const (.int j n))=some (.int j n):=(rfl)
@[go_sem] theorem zLk :rdS pf (.const (.bool b))=some (.bool b):=(rfl)
@[go_sem] theorem zNl{b:ByteArray}:rdS pf (.const (.string b))=some (.string b):=(rfl)
@[go_sem] theorem zGT :zf9 (.bool b)=some (.bool b):=(rfl)
def ev1(f:Value→Option Value)(x:Option Value)(pf:PFr):Option (PF×PFr):=(x.bind fun a=>(f a).bind zf9).map fun y=>(.v y,pf)
def ev2(f:Value→Value→Option Value)(x y:Option Value)(pf:PFr):Option (PF×PFr):=(x.bind fun a=>y.bind fun b=>(f a b).bind zf9).map fun y=>(.v y,pf)
def fin(x:Option Value)(pf:PFr):Option (PF×PFr):=(x.bind zf9).map fun y=>(.v y,pf)
@[go_sem] theorem zJZ{f:Value→Option Value}{a:Value}:ev1 f (some a) pf=fin (f a) pf:=(rfl)
@[go_sem] theorem zLv{f:Value→Value→Option Value}{a b:Value}:ev2 f (some a) (some b) pf=fin (f a b) pf:=(rfl)
@[go_sem] theorem zIH :fin (some (.bool b)) pf=some (.v (.bool b),pf):=(rfl)
@[go_sem] theorem zNW :fin (some (.int j n)) pf=some (.v (.int j n),pf):=(rfl)
@[go_sem] theorem zN9{s:ByteArray}:fin (some (.string s)) pf=some (.v (.str s),pf):=(rfl)
theorem zjl{o:Oper}{x:Option (PF×PFr)}(h:(((zby o.op).bind (zi9 pf)).bind fun vs=>(zbt P o.op vs).bind zf9).map (fun y=>(PF.v y,pf))=x):zfz P co o (pw P c k Q) pf=qv P c co x o.dst k Q:=by
 subst h;unfold zfz;cases (zby o.op).bind (zi9 pf)with
 |none=>rfl
 |some vs=>
  simp only[Option.bind_some];cases (zbt P o.op vs).bind zf9<;>rfl
@[go_sem ↓] theorem zJc{op:UnOp}{d:Option Tmp}:pw1 P c co ty (.unOp op t x) d k Q pf=qv P c co (ev1 (unV op) (rdS pf x) pf) d k Q:=by
 refine zjl (o:=⟨d,.unOp op t x,ty, "",#[],none⟩) ?_;simp only[zby,zi9,Option.bind_some];cases rdS pf x<;>simp[zbt,ev1]
theorem zqY{s:TypeId}{d:Tmp}(ht:zaS P t=true)(hp:co.hp≠[]∨lsP pf x=true):pw1 P c co ty (.convert s t x) (some d) k Q pf=qv P c co (bsE P s pf x) (some d) k Q:=by
 show(if zaS P t=true then(co.hp≠[]∨lsP pf x=true)∧zkc P co s t x (some d) (pw P c k Q) pf else _)=_;rw[if_pos ht];unfold zkc qv;cases bsE P s pf x with
 |none=>simp[hp]
 |some z=>simp[hp,ht]
@[go_sem ↓] theorem zKJ{s:TypeId}{d:Tmp}(ht:zaS P t=true)(hp:co.hp.isEmpty=false):pw1 P c co ty (.convert s t x) (some d) k Q pf=qv P c co (bsE P s pf x) (some d) k Q:=zqY ht (.inl fun e=>by rw[e]at hp;cases hp)
@[go_sem] theorem zKS{rows:List (List PV)}:zpm (.ls 1 rows)=true:=(rfl)
@[go_sem ↓] theorem zH1{s:TypeId}{u:Nat}{d:Tmp}(ht:zaS P t=true)(hl:zpm (pf u)=true):pw1 P c co ty (.convert s t (.tmp u)) (some d) k Q pf=qv P c co (bsE P s pf (.tmp u)) (some d) k Q:=zqY ht (.inr hl)
@[go_sem ↓] theorem zDO{s:TypeId}{d:Option Tmp}(ht:zaS P t=false):pw1 P c co ty (.convert s t x) d k Q pf=qv P c co (ev1 (znI P s t) (rdS pf x) pf) d k Q:=by
 have e:pw1 P c co ty (.convert s t x) d k Q pf=zfz P co ⟨d,.convert s t x,ty, "",#[],none⟩ (pw P c k Q) pf:=by
  show(if zaS P t=true then(co.hp≠[]∨lsP pf x=true)∧zkc P co s t x d (pw P c k Q) pf else zfz P co ⟨d,.convert s t x,ty, "",#[],none⟩ (pw P c k Q) pf)=_;rw[if_neg (by simp[ht])]
 rw[e];refine zjl (o:=⟨d,.convert s t x,ty, "",#[],none⟩) ?_;simp only[zby,zi9,Option.bind_some];cases rdS pf x<;>simp[zbt,ev1]
@[go_sem] theorem zFX{t:Tmp}:zjv (.tmp t)=false:=(rfl)
@[go_sem] theorem zD8 :zjv (.const (.int j n))=false:=(rfl)
@[go_sem ↓] theorem zIn{u:TypeId}{op:BinOp}{y:Operand}{d:Option Tmp}(hy:zjv y=false):pw1 P c co ty (.binOp op t x y u) d k Q pf=qv P c co (ev2 (zb9 P op t) (rdS pf x) (rdS pf y) pf) d k Q:=by
 have e:pw1 P c co ty (.binOp op t x y u) d k Q pf=zfz P co ⟨d,.binOp op t x y u,ty, "",#[],none⟩ (pw P c k Q) pf:=by
  show pop P co ⟨d,.binOp op t x y u,ty, "",#[],none⟩ (pw P c k Q) pf=_;simp only[pop,hy,Bool.false_eq_true,if_false]
 rw[e];refine zjl (o:=⟨d,.binOp op t x y u,ty, "",#[],none⟩) ?_;simp only[zby,zi9,Option.bind_some];cases rdS pf x<;>cases rdS pf y<;>simp[zbt,ev2]
@[go_sem ↓] theorem zIo{y:Operand}{d:Option Tmp}:pw1 P c co ty (.index t x y) d k Q pf=qv P c co (ev2 (ziG P t) (rdS pf x) (rdS pf y) pf) d k Q:=by
 refine zjl (o:=⟨d,.index t x y,ty, "",#[],none⟩) ?_;simp only[zby,zi9,Option.bind_some];cases rdS pf x<;>cases rdS pf y<;>simp[zbt,ev2]
@[go_sem ↓] theorem zOn{y:Operand}{ts:Array TypeId}{d:Option Tmp}:pw1 P c co ty (.call ⟨.builtin .min,#[x,y],ts⟩) d k Q pf=qv P c co (ev2 (zja false) (rdS pf x) (rdS pf y) pf) d k Q:=by
 refine zjl (o:=⟨d,.call ⟨.builtin .min,#[x,y],ts⟩,ty, "",#[],none⟩) ?_;simp only[zby,zi9,Option.bind_some];cases rdS pf x<;>cases rdS pf y<;>simp[zbt,ev2]
@[go_sem] theorem zJO{s d:TypeId}{i k:IntKind}(hs:zfe P s=some i)(hd:zfe P d=some k):znI P s d (.int j n)=some (.int k (k.wrap n)):=by
 unfold znI
 have:∃u,P.underlying s=some u:=by
  unfold zfe at hs;split at hs
  ·rename_i h;exact⟨_,h⟩
  ·cases hs
 obtain⟨u,hu⟩:=this;rw[hu,hd]
@[go_sem] theorem zNr{b:Int}:zb9 P .add t (.int j a) (.int j b)=some (.int j (j.wrap (a+b))):=by simp[zb9,zeO]
@[go_sem] theorem zM8{b:Int}:zb9 P .sub t (.int j a) (.int j b)=some (.int j (j.wrap (a-b))):=by simp[zb9,zeO]
@[go_sem] theorem zOe{b:Int}:zb9 P .mul t (.int j a) (.int j b)=some (.int j (j.wrap (a*b))):=by simp[zb9,zeO]
def zmq(b:Int)(x:Value):Option Value:=if b=0 then none else some x
@[go_sem] theorem zOA{b:Int}:zb9 P .quo t (.int j a) (.int j b)=zmq b (.int j (j.wrap (a.tdiv b))):=by simp[zb9,zeO,zmq]
@[go_sem] theorem zMz{b:Int}:zb9 P .rem t (.int j a) (.int j b)=zmq b (.int j (a.tmod b)):=by simp[zb9,zeO,zmq]
theorem ztZ{b:Int}{x:Value}(h:b≠0):zmq b x=some x:=by simp[zmq,h]
@[go_sem] theorem zOo{b:Int}:zb9 P .eql t (.int j a) (.int j b)=some (.bool (a==b)):=by simp[zb9,zeO]
@[go_sem] theorem zNj{b:Int}:zb9 P .neq t (.int j a) (.int j b)=some (.bool (a !=b)):=by simp[zb9,zeO]
@[go_sem] theorem zN7{b:Int}:zb9 P .lss t (.int j a) (.int j b)=some (.bool (decide (a<b))):=by simp[zb9,zeO]
@[go_sem] theorem zMr{b:Int}:zb9 P .leq t (.int j a) (.int j b)=some (.bool (decide (a≤b))):=by simp[zb9,zeO]
@[go_sem] theorem zM0{b:Int}:zb9 P .gtr t (.int j a) (.int j b)=some (.bool (decide (b<a))):=by simp[zb9,zeO]
@[go_sem] theorem zNH{b:Int}:zb9 P .geq t (.int j a) (.int j b)=some (.bool (decide (b≤a))):=by simp[zb9,zeO]
@[go_sem] theorem zOu{b:Int}:zb9 P .and t (.int j a) (.int j b)=some (.int j (j.wrap (BitVec.ofInt j.bits a&&&BitVec.ofInt j.bits b).toNat)):=by simp[zb9,zeO]
def zoM(b:Int)(x:Value):Option Value:=if b<0 then none else some x
@[go_sem] theorem zMM{j':IntKind}{b:Int}:zb9 P .shl t (.int j a) (.int j' b)=zoM b (.int j (j.wrap (a*2^min b.toNat j.bits))):=by simp[zb9,zoM]
@[go_sem] theorem zOk{j':IntKind}{b:Int}:zb9 P .shr t (.int j a) (.int j' b)=zoM b (.int j (a.fdiv (2^min b.toNat j.bits))):=by simp[zb9,zoM]
theorem zAS{b:Int}{x:Value}(h:0≤b):zoM b x=some x:=by simp[zoM];omega
@[go_sem] theorem zJ5{a:Bool}(h:zje P t=true):zb9 P .eql t (.bool a) (.bool b)=some (.bool (a==b)):=by simp[zb9,h]
@[go_sem] theorem zKF{a:Bool}(h:zje P t=true):zb9 P .neq t (.bool a) (.bool b)=some (.bool (a !=b)):=by simp[zb9,h]
@[go_sem] theorem zKX{a b:List Value}{o:List Nat}(h:znW P t=some o):zb9 P .neq t (.agg a.toArray) (.agg b.toArray)=(eqL a b o).map fun r=>.bool !r:=by simp[zb9,h]
@[go_sem] theorem zQd{i:IntKind}{b x y:Int}:eqL [.int j a,.int i b] [.int j x,.int i y] [0,1]=some (a==x&&b==y):=by simp[eqL]
@[go_sem] theorem zsx{a b:ByteArray}(h:a.size+b.size≤9223372036854775807):zb9 P .add t (.string a) (.string b)=some (.string (a++b)):=by simp[zb9,h]
@[go_sem] theorem zRu{s:TypeId}(h:ziB P s=true):bsE P s pf x=(srO 1 pf x).bind fun z=>(zj7 z.1).map fun ns=>(.v (.str (zff ns)),z.2):=by unfold bsE;rw[if_pos h]
@[go_sem] theorem zH3:zj7 []=some []:=(rfl)
@[go_sem] theorem zGz{rs:List (List PV)}:zj7 ([.int .u8 n]::rs)=(zj7 rs).map (n:: ·):=(rfl)
@[go_sem] theorem zPD :unV .not (.bool b)=some (.bool !b):=(rfl)
@[go_sem] theorem zPt :unV .neg (.int j n)=some (.int j (j.wrap (0-n))):=(rfl)
@[go_sem] theorem zEu{b:Int}:zja false (.int j a) (.int j b)=some (.int j (if b<a then b else a)):=by simp[zja]
end
end Go.Pm
