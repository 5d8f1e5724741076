import Derived.Test.YtplemekcclpaoaaGreatDoorPmS
namespace Go.Pm
open Go.Am
section
variable {P:Program}{c co:Cfg}{k:List PIt}{Q:Exit→PFr→Prop}{pf:PFr}
variable{a n:Int}{b o:Bool}{d e es hi i lo s s':Nat}{f:Fn}{g:FuncId}{j:IntKind}{op:Op}{p:zad}{pre:List (Option Tmp)}{r us:List PV}{t ty:TypeId}{x:Operand}{y:PF}
@[go_sem] theorem zP0{a:Nat}{b f h:List Nat}:Cfg.nohp ⟨a,b,f,h⟩=⟨a,b,f,[]⟩:=(rfl)
@[go_sem ↓] theorem zGR{id:Nat}{ops:List Oper}:pw P c (.code (.region id ops.toArray false)::k) Q pf=pw P c (.ops (ops.map (·.dst)) ops::k) Q pf:=by
 show pwp P c (.region id ops.toArray false) (zbV P c k Q) pf=_;simp only[pwp,Bool.false_eq_true,if_false];rfl
@[go_sem ↓] theorem zCY :pw P c (.ops pre []::k) Q pf=pw P c k Q pf:=rfl
def pw1(P:Program)(c co:Cfg)(ty:TypeId)(op:Op)(d:Option Tmp)(k:List PIt)(Q:Exit→PFr→Prop)(pf:PFr):Prop:=pop P co ⟨d,op,ty, "",#[],none⟩ (pw P c k Q) pf
theorem zww{o o':Oper}{K:PFr→Prop}(h:o.op=o'.op)(hd:o.dst=o'.dst)(ht:o.type=o'.type):pop P c o K pf=pop P c o' K pf:=by
 obtain⟨d,op,ty,ps,af,g⟩:=o;obtain⟨d',op',ty',ps',af',g'⟩:=o';simp only at h hd ht;subst h;subst hd;subst ht;rfl
@[go_sem ↓] theorem zUY{d:Option Tmp}{ps:String}{af:Array Edge}{l:List Oper}:
 pw P c (.ops pre (⟨d,op,ty,ps,af,none⟩::l)::k) Q pf=pw1 P c c ty op d (.ops pre l::k) Q pf:=by
 show zma P c pre ⟨d,op,ty,ps,af,none⟩ (pw P c (.ops pre l::k) Q) pf=_;simp only[zma];exact zww rfl rfl rfl
def pwg(P:Program)(c:Cfg)(y:Option (Option Bool))(b:Bool)(ty:TypeId)(op:Op)(d:Option Tmp)(k:List PIt)(Q:Exit→PFr→Prop)(pf:PFr):Prop:=
 pgo c b d (pw1 P c c ty op d k Q pf) (pw P c k Q) pf y
theorem zwJ{y y':Option (Option Bool)}{d:Option Tmp}(h:y=y'):pwg P c y b ty op d k Q pf=pwg P c y' b ty op d k Q pf:=by rw[h]
@[go_sem ↓] theorem zSo{d:Option Tmp}{ps:String}{af:Array Edge}{j:Nat}{l:List Oper}:
 pw P c (.ops pre (⟨d,op,ty,ps,af,some (j,b)⟩::l)::k) Q pf=pwg P c (ygP pf pre[j]?) b ty op d (.ops pre l::k) Q pf:=by
 show zma P c pre ⟨d,op,ty,ps,af,some (j,b)⟩ (pw P c (.ops pre l::k) Q) pf=_;simp only[zma];unfold pwg pw1;rw[zww (o:=⟨d,op,ty,ps,af,some (j,b)⟩) (o':=⟨d,op,ty, "",#[],none⟩) rfl rfl rfl]
@[go_sem] theorem zKT{d:Tmp}:ygP pf (some (some d))=ygV (pf d):=(rfl)
@[go_sem] theorem zHN :ygV (.v (.bool b))=some (some b):=(rfl)
@[go_sem] theorem zLE:ygV .skip=some none:=(rfl)
@[go_sem ↓] theorem zQB{d:Option Tmp}:pwg P c (some (some true)) true ty op d k Q pf=pw1 P c c ty op d k Q pf:=by simp[pwg,pgo]
@[go_sem ↓] theorem zQJ{d:Option Tmp}:pwg P c (some (some false)) false ty op d k Q pf=pw1 P c c ty op d k Q pf:=by simp[pwg,pgo]
@[go_sem ↓] theorem zRe{d:Tmp}(h:ckd c d .skip=true):pwg P c (some (some true)) false ty op (some d) k Q pf=pw P c k Q (pf.put d .skip):=by simp[pwg,pgo,ziz,h]
@[go_sem ↓] theorem zRb{d:Tmp}(h:ckd c d .skip=true):pwg P c (some (some false)) true ty op (some d) k Q pf=pw P c k Q (pf.put d .skip):=by simp[pwg,pgo,ziz,h]
@[go_sem ↓] theorem zU2{d:Tmp}(h:ckd c d .skip=true):pwg P c (some none) b ty op (some d) k Q pf=pw P c k Q (pf.put d .skip):=by simp[pwg,pgo,ziz,h]
theorem zvN{y:Bool}{d:Option Tmp}(h1:y=true→pwg P c (some (some true)) b ty op d k Q pf)(h2:y=false→pwg P c (some (some false)) b ty op d k Q pf):pwg P c (some (some y)) b ty op d k Q pf:=by
 cases y
 ·exact h2 rfl
 ·exact h1 rfl
def qv(P:Program)(c co:Cfg)(x:Option (PF×PFr))(d:Option Tmp)(k:List PIt)(Q:Exit→PFr→Prop):Prop:=
 match x with
 |some a=>zbs co (pw P c k Q) d a.1 a.2
 |none=>False
def qz(P:Program)(c:Cfg)(d:Nat)(k:List PIt)(Q:Exit→PFr→Prop)(x:Option (PF×PFr)):Prop:=pfz (pw P c k Q) d x
theorem zxs{x x':Option (PF×PFr)}{d:Option Tmp}(h:x=x'):qv P c co x d k Q=qv P c co x' d k Q:=by rw[h]
theorem zxC{x x':Option (PF×PFr)}(h:x=x'):qz P c d k Q x=qz P c d k Q x':=by rw[h]
@[go_sem ↓] theorem zO0{d:Tmp}(h:ckd co d y=true)(hf:co.fz.contains d=false):qv P c co (some (y,pf)) (some d) k Q=pw P c k Q (pf.put d y):=by simp only[qv,zbs,h,hf];simp
@[go_sem ↓] theorem zT2{d:Tmp}(h:ckd co d y=true)(hf:co.fz.contains d=true):qv P c co (some (y,pf)) (some d) k Q=qz P c d k Q (zkb pf y):=by simp only[qv,zbs,h,hf];simp[qz]
@[go_sem ↓] theorem zQZ :qv P c co (some (y,pf)) none k Q=pw P c k Q pf:=rfl
@[go_sem ↓] theorem zO8 :qz P c d k Q (some (y,pf))=pw P c k Q (pf.put d y):=rfl
def qf(P:Program)(c:Cfg)(x:Option PFr)(k:List PIt)(Q:Exit→PFr→Prop):Prop:=
 match x with
 |some pf=>pw P c k Q pf
 |none=>False
theorem zxp{x x':Option PFr}(h:x=x'):qf P c x k Q=qf P c x' k Q:=by rw[h]
@[go_sem ↓] theorem zPD:qf P c (some pf) k Q=pw P c k Q pf:=rfl
attribute [congr] zxB zwJ zxs zxC zxp
@[go_sem] theorem zR5 :ckd c d y=(decide (d<c.nt)&& !c.io.contains d&& !(zal y==some d)):=(rfl)
@[go_sem] theorem zPN{x:PV}:zal (.v x)=none:=(rfl)
@[go_sem] theorem zFD:zal .skip=none:=(rfl)
@[go_sem] theorem zIc{r:List (List PV)}:zal (.ls es r)=none:=(rfl)
@[go_sem] theorem zIi :zal (.bl r)=none:=(rfl)
@[go_sem] theorem zJv{j:Nat}:zal (.pt s p i j)=some s:=(rfl)
@[go_sem] theorem zKr :zal (.rf s p)=some s:=(rfl)
@[go_sem] theorem zJ1 :zal (.rv s p lo hi)=some s:=(rfl)
@[go_sem] theorem zID{j n:Nat}:zal (.as b s p i j n)=some s:=(rfl)
@[go_sem] theorem zKN :zal (.cl s g us)=some s:=(rfl)
@[go_sem] theorem zHD{j n:Nat}:zal (.ra s p i j n)=some s:=(rfl)
@[go_sem] theorem zMw{t:Nat}{x:PF}:PFr.put pf d x t=if t=d then x else zbW d (pf t):=(rfl)
@[go_sem] theorem zMS{t:Nat}{x:PF}:PFr.upd pf d x t=if t=d then x else pf t:=(rfl)
@[go_sem] theorem zJ8{n t:Nat}:PFr.kill pf s n t=zaX s n (pf t):=(rfl)
@[go_sem] theorem zOb{x:PV}:zbW d (.v x)=.v x:=(rfl)
@[go_sem] theorem zFi :zbW d .skip=.skip:=(rfl)
@[go_sem] theorem zKB{r:List (List PV)}:zbW d (.ls es r)=.ls es r:=(rfl)
@[go_sem] theorem zIT :zbW d (.bl r)=.bl r:=(rfl)
@[go_sem] theorem zJH{j:Nat}:zbW d (.pt s p i j)=if s=d then jP else .pt s p i j:=by simp[zbW,zal]
@[go_sem] theorem zLs :zbW d (.rf s p)=if s=d then jP else .rf s p:=by simp[zbW,zal]
@[go_sem] theorem zIq :zbW d (.rv s p lo hi)=if s=d then jP else .rv s p lo hi:=by simp[zbW,zal]
@[go_sem] theorem zHF{j n:Nat}:zbW d (.as b s p i j n)=if s=d then jP else .as b s p i j n:=by simp[zbW,zal]
@[go_sem] theorem zJ2 :zbW d (.cl s g us)=if s=d then jP else .cl s g us:=by simp[zbW,zal]
@[go_sem] theorem zKA{j n:Nat}:zbW d (.ra s p i j n)=if s=d then jP else .ra s p i j n:=by simp[zbW,zal]
@[go_sem] theorem zPW :zbW d jP=jP:=(rfl)
@[go_sem] theorem zLS{n:Nat}{x:PV}:zaX s n (.v x)=.v x:=by simp[zaX,zal]
@[go_sem] theorem zCt{n:Nat}:zaX s n .skip=.skip:=by simp[zaX,zal]
@[go_sem] theorem zKH{n:Nat}{r:List (List PV)}:zaX s n (.ls es r)=.ls es r:=by simp[zaX,zal]
@[go_sem] theorem zHv{n:Nat}:zaX s n (.bl r)=.bl r:=by simp[zaX,zal]
@[go_sem] theorem zJT{n j:Nat}:zaX s n (.pt s' p i j)=if s'=s∧n≤p.length then jP else .pt s' p i j:=by simp[zaX,zal,zfM]
@[go_sem] theorem zI8{n:Nat}:zaX s n (.rf s' p)=if s'=s∧n≤p.length then jP else .rf s' p:=by simp[zaX,zal,zfM]
@[go_sem] theorem zKK{n:Nat}:zaX s n (.rv s' p lo hi)=if s'=s∧n≤p.length then jP else .rv s' p lo hi:=by simp[zaX,zal,zfM]
@[go_sem] theorem zIM{n j m:Nat}:zaX s n (.as b s' p i j m)=if s'=s∧n≤p.length+1 then jP else .as b s' p i j m:=by simp[zaX,zal,zfM]
@[go_sem] theorem zIB{n:Nat}:zaX s n (.cl s' g us)=if s'=s∧n≤0 then jP else .cl s' g us:=by simp[zaX,zal,zfM]
@[go_sem] theorem zJa{n j m:Nat}:zaX s n (.ra s' p i j m)=if s'=s∧n≤p.length+1 then jP else .ra s' p i j m:=by simp[zaX,zal,zfM]
@[go_sem] theorem zNH{n:Nat}:zaX s n jP=jP:=by simp[zaX,zal,jP]
@[go_sem] theorem zKt{x:PF}{l:List (Nat×PF)}{t:Nat}:PFr.ofL ((s,x)::l) t=if t=s then x else PFr.ofL l t:=(rfl)
@[go_sem] theorem zPn{t:Nat}:PFr.ofL [] t=jP:=(rfl)
@[go_sem] theorem zGZ{as:List (Md×PV)}{t:Nat}:zhh as t=zo8 as[t]? :=(rfl)
@[go_sem] theorem zGi{m:Md}{x:PV}:zo8 (some (m,x))=.v x:=(rfl)
@[go_sem] theorem zHc:zo8 none=jP:=(rfl)
@[go_sem] theorem zTR:isJ .junk=true:=(rfl)
@[go_sem] theorem zI4 :isJ (.bool b)=false:=(rfl)
@[go_sem] theorem zM7 :isJ (.int j n)=false:=(rfl)
@[go_sem] theorem zO5{s:ByteArray}:isJ (.str s)=false:=(rfl)
@[go_sem] theorem zSm{r:List (List PV)}:isJ (.sl o es r)=false:=(rfl)
@[go_sem] theorem zQQ :isJ (.fp r)=false:=(rfl)
@[go_sem] theorem zQw :isJ (.bx r)=false:=(rfl)
@[go_sem] theorem zHY{a b:List PV}:isJ (.func f a b)=false:=(rfl)
@[go_sem] theorem zOO :isJ (.agg r)=false:=(rfl)
@[go_sem] theorem zMV :isJ (.tup r)=false:=(rfl)
@[go_sem] theorem zJm:isJ .nilf=false:=(rfl)
@[go_sem] theorem zHr:isJ .nilp=false:=(rfl)
@[go_sem] theorem zHP:isJ .nili=false:=(rfl)
@[go_sem] theorem zQS:zaB .junk=false:=by simp[zaB]
@[go_sem] theorem zGy :zaB (.bool b)=false:=by simp[zaB]
@[go_sem] theorem zHz :zaB (.int j n)=false:=by simp[zaB]
@[go_sem] theorem zHH{s:ByteArray}:zaB (.str s)=false:=by simp[zaB]
@[go_sem] theorem zMq :zaB (.fp r)=false:=by simp[zaB]
@[go_sem] theorem zF7{a b:List PV}:zaB (.func f a b)=false:=by simp[zaB]
@[go_sem] theorem zGp:zaB .nilf=false:=by simp[zaB]
@[go_sem] theorem zF4:zaB .nilp=false:=by simp[zaB]
@[go_sem] theorem zG9:zaB .nili=false:=by simp[zaB]
attribute [go_sem] zjc ztW zhx zq4 zio zpF znO zrL znx zsf zpO zp2
@[go_sem] theorem zRh:drop .junk=.junk:=by simp[drop]
@[go_sem] theorem zGx :drop (.bool b)=.bool b:=by simp[drop]
@[go_sem] theorem zH5 :drop (.int j n)=.int j n:=by simp[drop]
@[go_sem] theorem zLh{s:ByteArray}:drop (.str s)=.str s:=by simp[drop]
@[go_sem] theorem zNy :drop (.fp r)=.fp r:=by simp[drop]
@[go_sem] theorem zG3{a b:List PV}:drop (.func f a b)=.func f a b:=by simp[drop]
@[go_sem] theorem zF5:drop .nilf=.nilf:=by simp[drop]
@[go_sem] theorem zGv:drop .nilp=.nilp:=by simp[drop]
@[go_sem] theorem zHk:drop .nili=.nili:=by simp[drop]
@[go_sem] theorem zPu:zaW .junk=true:=by simp[zaW]
@[go_sem] theorem zFY :zaW (.bool b)=true:=by simp[zaW]
@[go_sem] theorem zGg :zaW (.int j n)=true:=by simp[zaW]
@[go_sem] theorem zGU{s:ByteArray}:zaW (.str s)=true:=by simp[zaW]
@[go_sem] theorem zJw :zaW (.fp r)=false:=by simp[zaW]
@[go_sem] theorem zDf{a b:List PV}:zaW (.func f a b)=false:=by simp[zaW]
@[go_sem] theorem zEF:zaW .nilf=true:=by simp[zaW]
@[go_sem] theorem zCr :zfF (.int j n)=true:=(rfl)
@[go_sem] theorem zB3 :zfF (.bool b)=true:=(rfl)
@[go_sem] theorem zCW{s:ByteArray}:zfF (.str s)=true:=(rfl)
@[go_sem] theorem zGI{r:List (List PV)}:zfF (.sl o es r)=true:=(rfl)
@[go_sem] theorem zGn :zfF (.bx r)=true:=(rfl)
@[go_sem] theorem zGB :zfF (.fp r)=true:=(rfl)
@[go_sem] theorem zBY{a b:List PV}:zfF (.func f a b)=true:=(rfl)
@[go_sem] theorem zCf :zb7 (.int j n)=true:=(rfl)
@[go_sem] theorem zAe :zb7 (.bool b)=true:=(rfl)
@[go_sem] theorem zCn{s:ByteArray}:zb7 (.str s)=true:=(rfl)
@[go_sem] theorem zEm{r:List (List PV)}:zb7 (.sl o es r)=true:=(rfl)
@[go_sem] theorem zB4 :zb7 (.agg r)=true:=(rfl)
@[go_sem] theorem zDW :zb7 (.bx r)=true:=(rfl)
@[go_sem] theorem zEJ :zb7 (.fp r)=true:=(rfl)
@[go_sem] theorem zAo{a b:List PV}:zb7 (.func f a b)=true:=(rfl)
@[go_sem] theorem zEf :zaw (.int j n)=[.int j n]:=(rfl)
@[go_sem] theorem zB2 :zaw (.bool b)=[.bool b]:=(rfl)
@[go_sem] theorem zFZ{s:ByteArray}:zaw (.str s)=[.str s]:=(rfl)
@[go_sem] theorem zGH{r:List (List PV)}:zaw (.sl o es r)=[.sl o es r]:=(rfl)
@[go_sem] theorem zDt :zaw (.agg r)=r:=(rfl)
@[go_sem] theorem zG6 :zaw (.bx r)=[.bx r]:=(rfl)
@[go_sem] theorem zGJ :zaw (.fp r)=[.fp r]:=(rfl)
@[go_sem] theorem zB8{a b:List PV}:zaw (.func f a b)=[.func f a b]:=(rfl)
@[go_sem] theorem zHa :zgv e (.bool b)=.bool b:=(rfl)
@[go_sem] theorem zKf :zgv e (.int j n)=.int j n:=(rfl)
@[go_sem] theorem zJ7{s:ByteArray}:zgv e (.string s)=.str s:=(rfl)
@[go_sem] theorem zHQ :zgv e (.slice none 0 0)=.sl true e []:=(rfl)
@[go_sem] theorem zHj :zgv e .nilFunc=.nilf:=(rfl)
@[go_sem] theorem zOJ :zai (.int j n)=true:=(rfl)
@[go_sem] theorem zKd :zai (.bool b)=true:=(rfl)
@[go_sem] theorem zMN{b:ByteArray}:zai (.string b)=true:=(rfl)
@[go_sem] theorem zNo:zai (.slice none 0 0)=true:=(rfl)
@[go_sem] theorem zLw:zai .nilFunc=true:=(rfl)
@[go_sem] theorem zP6{t:Tmp}:rdS pf (.tmp t)=zoS (pf t):=(rfl)
@[go_sem] theorem zRp{x:PV}:zoS (.v x)=toS x:=(rfl)
@[go_sem] theorem zGz:zoS .skip=none:=(rfl)
@[go_sem] theorem zIN :toS (.bool b)=some (.bool b):=(rfl)
@[go_sem] theorem zNG :toS (.int j n)=some (.int j n):=(rfl)
@[go_sem] theorem zOP{s:ByteArray}:toS (.str s)=some (.string s):=(rfl)
@[go_sem] theorem zOm{l:List PV}:toS (.agg l)=(zlc l).map fun l=>.agg l.toArray:=(rfl)
@[go_sem] theorem zJM:zlc []=some []:=(rfl)
@[go_sem] theorem zKx :zlc (.int j n::r)=(zlc r).map fun l=>.int j n::l:=(rfl)
@[go_sem] theorem zM4 :rdS pf (.const (.int j n))=some (.int j n):=(rfl)
@[go_sem] theorem zK5 :rdS pf (.const (.bool b))=some (.bool b):=(rfl)
@[go_sem] theorem zL0{b:ByteArray}:rdS pf (.const (.string b))=some (.string b):=(rfl)
@[go_sem] theorem zFy :zeF (.bool b)=some (.bool b):=(rfl)
@[go_sem] theorem zGD :zeF (.int j n)=some (.int j n):=(rfl)
@[go_sem] theorem zHd{s:ByteArray}:zeF (.string s)=some (.str s):=(rfl)
def ev1(f:Value→Option Value)(x:Option Value)(pf:PFr):Option (PF×PFr):=(x.bind fun a=>(f a).bind zeF).map fun y=>(.v y,pf)
def ev2(f:Value→Value→Option Value)(x y:Option Value)(pf:PFr):Option (PF×PFr):=(x.bind fun a=>y.bind fun b=>(f a b).bind zeF).map fun y=>(.v y,pf)
def fin(x:Option Value)(pf:PFr):Option (PF×PFr):=(x.bind zeF).map fun y=>(.v y,pf)
@[go_sem] theorem zKO{f:Value→Option Value}{a:Value}:ev1 f (some a) pf=fin (f a) pf:=(rfl)
@[go_sem] theorem zHB{f:Value→Value→Option Value}{a b:Value}:ev2 f (some a) (some b) pf=fin (f a b) pf:=(rfl)
@[go_sem] theorem zLG :fin (some (.bool b)) pf=some (.v (.bool b),pf):=(rfl)
@[go_sem] theorem zMz :fin (some (.int j n)) pf=some (.v (.int j n),pf):=(rfl)
@[go_sem] theorem zPb{s:ByteArray}:fin (some (.string s)) pf=some (.v (.str s),pf):=(rfl)
theorem zhm{o:Oper}{x:Option (PF×PFr)}(h:(((zaI o.op).bind (zhW pf)).bind fun vs=>(zaN P o.op vs).bind zeF).map (fun y=>(PF.v y,pf))=x):zeE P co o (pw P c k Q) pf=qv P c co x o.dst k Q:=by
 subst h;unfold zeE;cases (zaI o.op).bind (zhW pf)with
 |none=>rfl
 |some vs=>
  simp only[Option.bind_some];cases (zaN P o.op vs).bind zeF<;>rfl
@[go_sem ↓] theorem zKU{op:UnOp}{d:Option Tmp}:pw1 P c co ty (.unOp op t x) d k Q pf=qv P c co (ev1 (unV op) (rdS pf x) pf) d k Q:=by
 refine zhm (o:=⟨d,.unOp op t x,ty, "",#[],none⟩) ?_;simp only[zaI,zhW,Option.bind_some];cases rdS pf x<;>simp[zaN,ev1]
theorem zpP{s:TypeId}{d:Tmp}(ht:zaD P t=true)(hp:co.hp≠[]∨lsP pf x=true):pw1 P c co ty (.convert s t x) (some d) k Q pf=qv P c co (bsE P s pf x) (some d) k Q:=by
 show(if zaD P t=true then(co.hp≠[]∨lsP pf x=true)∧zi0 P co s t x (some d) (pw P c k Q) pf else _)=_;rw[if_pos ht];unfold zi0 qv;cases bsE P s pf x with
 |none=>simp[hp]
 |some z=>simp[hp,ht]
@[go_sem ↓] theorem zLy{s:TypeId}{d:Tmp}(ht:zaD P t=true)(hp:co.hp.isEmpty=false):pw1 P c co ty (.convert s t x) (some d) k Q pf=qv P c co (bsE P s pf x) (some d) k Q:=zpP ht (.inl fun e=>by rw[e]at hp;cases hp)
@[go_sem] theorem zIf{rows:List (List PV)}:zoN (.ls 1 rows)=true:=(rfl)
@[go_sem ↓] theorem zGY{s:TypeId}{u:Nat}{d:Tmp}(ht:zaD P t=true)(hl:zoN (pf u)=true):pw1 P c co ty (.convert s t (.tmp u)) (some d) k Q pf=qv P c co (bsE P s pf (.tmp u)) (some d) k Q:=zpP ht (.inr hl)
@[go_sem ↓] theorem zCe{s:TypeId}{d:Option Tmp}(ht:zaD P t=false):pw1 P c co ty (.convert s t x) d k Q pf=qv P c co (ev1 (ziw P s t) (rdS pf x) pf) d k Q:=by
 have e:pw1 P c co ty (.convert s t x) d k Q pf=zeE P co ⟨d,.convert s t x,ty, "",#[],none⟩ (pw P c k Q) pf:=by
  show(if zaD P t=true then(co.hp≠[]∨lsP pf x=true)∧zi0 P co s t x d (pw P c k Q) pf else zeE P co ⟨d,.convert s t x,ty, "",#[],none⟩ (pw P c k Q) pf)=_;rw[if_neg (by simp[ht])]
 rw[e];refine zhm (o:=⟨d,.convert s t x,ty, "",#[],none⟩) ?_;simp only[zaI,zhW,Option.bind_some];cases rdS pf x<;>simp[zaN,ev1]
@[go_sem] theorem zCL{t:Tmp}:zg5 (.tmp t)=false:=(rfl)
@[go_sem] theorem zDo :zg5 (.const (.int j n))=false:=(rfl)
@[go_sem] theorem zCm :zg5 (.const (.bool b))=false:=(rfl)
@[go_sem] theorem zDH{s:ByteArray}:zg5 (.const (.string s))=false:=(rfl)
@[go_sem ↓] theorem zF2{u:TypeId}{op:BinOp}{y:Operand}{d:Option Tmp}(hy:zg5 y=false):pw1 P c co ty (.binOp op t x y u) d k Q pf=qv P c co (ev2 (zaZ P op t) (rdS pf x) (rdS pf y) pf) d k Q:=by
 have e:pw1 P c co ty (.binOp op t x y u) d k Q pf=zeE P co ⟨d,.binOp op t x y u,ty, "",#[],none⟩ (pw P c k Q) pf:=by
  show pop P co ⟨d,.binOp op t x y u,ty, "",#[],none⟩ (pw P c k Q) pf=_;simp only[pop,hy,Bool.false_eq_true,if_false]
 rw[e];refine zhm (o:=⟨d,.binOp op t x y u,ty, "",#[],none⟩) ?_;simp only[zaI,zhW,Option.bind_some];cases rdS pf x<;>cases rdS pf y<;>simp[zaN,ev2]
@[go_sem ↓] theorem zGl{y:Operand}{d:Option Tmp}:pw1 P c co ty (.index t x y) d k Q pf=qv P c co (ev2 (zh5 P t) (rdS pf x) (rdS pf y) pf) d k Q:=by
 refine zhm (o:=⟨d,.index t x y,ty, "",#[],none⟩) ?_;simp only[zaI,zhW,Option.bind_some];cases rdS pf x<;>cases rdS pf y<;>simp[zaN,ev2]
@[go_sem ↓] theorem zMe{y:Operand}{ts:Array TypeId}{d:Option Tmp}:pw1 P c co ty (.call ⟨.builtin .min,#[x,y],ts⟩) d k Q pf=qv P c co (ev2 (zgc false) (rdS pf x) (rdS pf y) pf) d k Q:=by
 refine zhm (o:=⟨d,.call ⟨.builtin .min,#[x,y],ts⟩,ty, "",#[],none⟩) ?_;simp only[zaI,zhW,Option.bind_some];cases rdS pf x<;>cases rdS pf y<;>simp[zaN,ev2]
@[go_sem ↓] theorem zMX{y:Operand}{ts:Array TypeId}{d:Option Tmp}:pw1 P c co ty (.call ⟨.builtin .max,#[x,y],ts⟩) d k Q pf=qv P c co (ev2 (zgc true) (rdS pf x) (rdS pf y) pf) d k Q:=by
 refine zhm (o:=⟨d,.call ⟨.builtin .max,#[x,y],ts⟩,ty, "",#[],none⟩) ?_;simp only[zaI,zhW,Option.bind_some];cases rdS pf x<;>cases rdS pf y<;>simp[zaN,ev2]
@[go_sem] theorem zK4{s d:TypeId}{i k:IntKind}(hs:zc2 P s=some i)(hd:zc2 P d=some k):ziw P s d (.int j n)=some (.int k (k.wrap n)):=by
 unfold ziw
 have:∃u,P.underlying s=some u:=by
  unfold zc2 at hs;split at hs
  ·rename_i h;exact⟨_,h⟩
  ·cases hs
 obtain⟨u,hu⟩:=this;rw[hu,hd]
@[go_sem] theorem zNA{b:Int}:zaZ P .add t (.int j a) (.int j b)=some (.int j (j.wrap (a+b))):=by simp[zaZ,zbI]
@[go_sem] theorem zPE{b:Int}:zaZ P .sub t (.int j a) (.int j b)=some (.int j (j.wrap (a-b))):=by simp[zaZ,zbI]
@[go_sem] theorem zMt{b:Int}:zaZ P .mul t (.int j a) (.int j b)=some (.int j (j.wrap (a*b))):=by simp[zaZ,zbI]
def zj3(b:Int)(x:Value):Option Value:=if b=0 then none else some x
@[go_sem] theorem zOH{b:Int}:zaZ P .quo t (.int j a) (.int j b)=zj3 b (.int j (j.wrap (a.tdiv b))):=by simp[zaZ,zbI,zj3]
@[go_sem] theorem zOr{b:Int}:zaZ P .rem t (.int j a) (.int j b)=zj3 b (.int j (a.tmod b)):=by simp[zaZ,zbI,zj3]
theorem zps{b:Int}{x:Value}(h:b≠0):zj3 b x=some x:=by simp[zj3,h]
@[go_sem] theorem zHL{x:Value}{n:Nat}:zj3 (OfNat.ofNat (n+1)) x=some x:=by
 refine zps ?_;show((n+1:Nat):Int)≠0;omega
@[go_sem] theorem zNM{b:Int}:zaZ P .eql t (.int j a) (.int j b)=some (.bool (a==b)):=by simp[zaZ,zbI]
@[go_sem] theorem zOs{b:Int}:zaZ P .neq t (.int j a) (.int j b)=some (.bool (a !=b)):=by simp[zaZ,zbI]
@[go_sem] theorem zOz{b:Int}:zaZ P .lss t (.int j a) (.int j b)=some (.bool (decide (a<b))):=by simp[zaZ,zbI]
@[go_sem] theorem zPp{b:Int}:zaZ P .leq t (.int j a) (.int j b)=some (.bool (decide (a≤b))):=by simp[zaZ,zbI]
@[go_sem] theorem zL5{b:Int}:zaZ P .gtr t (.int j a) (.int j b)=some (.bool (decide (b<a))):=by simp[zaZ,zbI]
@[go_sem] theorem zNP{b:Int}:zaZ P .geq t (.int j a) (.int j b)=some (.bool (decide (b≤a))):=by simp[zaZ,zbI]
@[go_sem] theorem zP5{b:Int}:zaZ P .and t (.int j a) (.int j b)=some (.int j (j.wrap (BitVec.ofInt j.bits a&&&BitVec.ofInt j.bits b).toNat)):=by simp[zaZ,zbI]
@[go_sem] theorem zRx{b:Int}:zaZ P .or t (.int j a) (.int j b)=some (.int j (j.wrap (BitVec.ofInt j.bits a|||BitVec.ofInt j.bits b).toNat)):=by simp[zaZ,zbI]
@[go_sem] theorem zPZ{b:Int}:zaZ P .xor t (.int j a) (.int j b)=some (.int j (j.wrap (BitVec.ofInt j.bits a^^^BitVec.ofInt j.bits b).toNat)):=by simp[zaZ,zbI]
def zmc(b:Int)(x:Value):Option Value:=if b<0 then none else some x
@[go_sem] theorem zNE{j':IntKind}{b:Int}:zaZ P .shl t (.int j a) (.int j' b)=zmc b (.int j (j.wrap (a*2^min b.toNat j.bits))):=by simp[zaZ,zmc]
@[go_sem] theorem zP3{j':IntKind}{b:Int}:zaZ P .shr t (.int j a) (.int j' b)=zmc b (.int j (a.fdiv (2^min b.toNat j.bits))):=by simp[zaZ,zmc]
theorem ztm{b:Int}{x:Value}(h:0≤b):zmc b x=some x:=by simp[zmc];omega
@[go_sem] theorem zK1{a:Bool}(h:zir P t=true):zaZ P .eql t (.bool a) (.bool b)=some (.bool (a==b)):=by simp[zaZ,h]
@[go_sem] theorem zJB{a:Bool}(h:zir P t=true):zaZ P .neq t (.bool a) (.bool b)=some (.bool (a !=b)):=by simp[zaZ,h]
@[go_sem] theorem zJr{a b:List Value}{o:List Nat}(h:zmC P t=some o):zaZ P .eql t (.agg a.toArray) (.agg b.toArray)=(eqL a b o).map .bool:=by simp[zaZ,h]
@[go_sem] theorem zKC{a b:List Value}{o:List Nat}(h:zmC P t=some o):zaZ P .neq t (.agg a.toArray) (.agg b.toArray)=(eqL a b o).map fun r=>.bool !r:=by simp[zaZ,h]
@[go_sem] theorem zTF{i:IntKind}{b x y:Int}:eqL [.int j a,.int i b] [.int j x,.int i y] [0,1]=some (a==x&&b==y):=by simp[eqL]
@[go_sem] theorem zJK{a b:ByteArray}:zaZ P .eql t (.string a) (.string b)=some (.bool (a.toList==b.toList)):=(rfl)
@[go_sem] theorem zrf{a b:ByteArray}(h:a.size+b.size≤9223372036854775807):zaZ P .add t (.string a) (.string b)=some (.string (a++b)):=by simp[zaZ,h]
@[go_sem] theorem zU7{s:TypeId}(h:zgU P s=true):bsE P s pf x=(srO 1 pf x).bind fun z=>(ziv z.1).map fun ns=>(.v (.str (zcT ns)),z.2):=by unfold bsE;rw[if_pos h]
@[go_sem] theorem zF6:ziv []=some []:=(rfl)
@[go_sem] theorem zuO{rs:List (List PV)}:ziv ([.int .u8 n]::rs)=(ziv rs).map (n:: ·):=(rfl)
@[go_sem] theorem zGa{f:Int→List PV}(h:∀x,f x=[.int .u8 x]){l:List Int}:ziv (l.map f)=some l:=by
 induction l with
 |nil=>rfl
 |cons x l ih=>rw[List.map_cons,h,zuO,ih];rfl
@[go_sem] theorem zLL{a b:ByteArray}:zaZ P .neq t (.string a) (.string b)=some (.bool !(a.toList==b.toList)):=(rfl)
@[go_sem] theorem zSd :unV .not (.bool b)=some (.bool !b):=(rfl)
@[go_sem] theorem zSQ :unV .neg (.int j n)=some (.int j (j.wrap (0-n))):=(rfl)
@[go_sem] theorem zFO{b:Int}:zgc true (.int j a) (.int j b)=some (.int j (if a<b then b else a)):=by simp[zgc]
@[go_sem] theorem zC5{b:Int}:zgc false (.int j a) (.int j b)=some (.int j (if b<a then b else a)):=by simp[zgc]
end
end Go.Pm
