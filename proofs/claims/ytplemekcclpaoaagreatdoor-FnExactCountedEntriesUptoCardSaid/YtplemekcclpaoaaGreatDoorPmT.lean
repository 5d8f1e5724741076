import Derived.Test.YtplemekcclpaoaaGreatDoorPmS
namespace Go.Pm
open Go.Am
section
variable {P:Program}{c co:Cfg}{k:List PIt}{Q:Exit→PFr→Prop}{pf:PFr}
variable{a n:Int}{b o:Bool}{d e es hi i lo s s':Nat}{f:Fn}{g:FuncId}{j:IntKind}{op:Op}{p:zad}{pre:List (Option Tmp)}{r us:List PV}{t ty:TypeId}{x:Operand}{y:PF}
@[go_sem] theorem zN5{a:Nat}{b f h:List Nat}:Cfg.nohp ⟨a,b,f,h⟩=⟨a,b,f,[]⟩:=(rfl)
@[go_sem ↓] theorem zFu{id:Nat}{ops:List Oper}:pw P c (.code (.region id ops.toArray false)::k) Q pf=pw P c (.ops (ops.map (·.dst)) ops::k) Q pf:=by
 show pwp P c (.region id ops.toArray false) (zbY P c k Q) pf=_;simp only[pwp,Bool.false_eq_true,if_false];rfl
@[go_sem ↓] theorem zFf :pw P c (.ops pre []::k) Q pf=pw P c k Q pf:=rfl
def pw1(P:Program)(c co:Cfg)(ty:TypeId)(op:Op)(d:Option Tmp)(k:List PIt)(Q:Exit→PFr→Prop)(pf:PFr):Prop:=pop P co ⟨d,op,ty, "",#[],none⟩ (pw P c k Q) pf
theorem zvE{o o':Oper}{K:PFr→Prop}(h:o.op=o'.op)(hd:o.dst=o'.dst)(ht:o.type=o'.type):pop P c o K pf=pop P c o' K pf:=by
 obtain⟨d,op,ty,ps,af,g⟩:=o;obtain⟨d',op',ty',ps',af',g'⟩:=o';simp only at h hd ht;subst h;subst hd;subst ht;rfl
@[go_sem ↓] theorem zUD{d:Option Tmp}{ps:String}{af:Array Edge}{l:List Oper}:
 pw P c (.ops pre (⟨d,op,ty,ps,af,none⟩::l)::k) Q pf=pw1 P c c ty op d (.ops pre l::k) Q pf:=by
 show zmC P c pre ⟨d,op,ty,ps,af,none⟩ (pw P c (.ops pre l::k) Q) pf=_;simp only[zmC];exact zvE rfl rfl rfl
def pwg(P:Program)(c:Cfg)(y:Option (Option Bool))(b:Bool)(ty:TypeId)(op:Op)(d:Option Tmp)(k:List PIt)(Q:Exit→PFr→Prop)(pf:PFr):Prop:=
 pgo c b d (pw1 P c c ty op d k Q pf) (pw P c k Q) pf y
theorem zvy{y y':Option (Option Bool)}{d:Option Tmp}(h:y=y'):pwg P c y b ty op d k Q pf=pwg P c y' b ty op d k Q pf:=by rw[h]
@[go_sem ↓] theorem zRS{d:Option Tmp}{ps:String}{af:Array Edge}{j:Nat}{l:List Oper}:
 pw P c (.ops pre (⟨d,op,ty,ps,af,some (j,b)⟩::l)::k) Q pf=pwg P c (ygP pf pre[j]?) b ty op d (.ops pre l::k) Q pf:=by
 show zmC P c pre ⟨d,op,ty,ps,af,some (j,b)⟩ (pw P c (.ops pre l::k) Q) pf=_;simp only[zmC];unfold pwg pw1;rw[zvE (o:=⟨d,op,ty,ps,af,some (j,b)⟩) (o':=⟨d,op,ty, "",#[],none⟩) rfl rfl rfl]
@[go_sem] theorem zIc{d:Tmp}:ygP pf (some (some d))=ygV (pf d):=(rfl)
@[go_sem] theorem zJu :ygV (.v (.bool b))=some (some b):=(rfl)
@[go_sem] theorem zJj:ygV .skip=some none:=(rfl)
@[go_sem ↓] theorem zQk{d:Option Tmp}:pwg P c (some (some true)) true ty op d k Q pf=pw1 P c c ty op d k Q pf:=by simp[pwg,pgo]
@[go_sem ↓] theorem zRq{d:Option Tmp}:pwg P c (some (some false)) false ty op d k Q pf=pw1 P c c ty op d k Q pf:=by simp[pwg,pgo]
@[go_sem ↓] theorem zQT{d:Tmp}(h:ckd c d .skip=true):pwg P c (some (some true)) false ty op (some d) k Q pf=pw P c k Q (pf.put d .skip):=by simp[pwg,pgo,ziI,h]
@[go_sem ↓] theorem zRK{d:Tmp}(h:ckd c d .skip=true):pwg P c (some (some false)) true ty op (some d) k Q pf=pw P c k Q (pf.put d .skip):=by simp[pwg,pgo,ziI,h]
@[go_sem ↓] theorem zTe{d:Tmp}(h:ckd c d .skip=true):pwg P c (some none) b ty op (some d) k Q pf=pw P c k Q (pf.put d .skip):=by simp[pwg,pgo,ziI,h]
theorem zwB{y:Bool}{d:Option Tmp}(h1:y=true→pwg P c (some (some true)) b ty op d k Q pf)(h2:y=false→pwg P c (some (some false)) b ty op d k Q pf):pwg P c (some (some y)) b ty op d k Q pf:=by
 cases y
 ·exact h2 rfl
 ·exact h1 rfl
def qv(P:Program)(c co:Cfg)(x:Option (PF×PFr))(d:Option Tmp)(k:List PIt)(Q:Exit→PFr→Prop):Prop:=
 match x with
 |some a=>zbr co (pw P c k Q) d a.1 a.2
 |none=>False
def qz(P:Program)(c:Cfg)(d:Nat)(k:List PIt)(Q:Exit→PFr→Prop)(x:Option (PF×PFr)):Prop:=pfz (pw P c k Q) d x
theorem zxB{x x':Option (PF×PFr)}{d:Option Tmp}(h:x=x'):qv P c co x d k Q=qv P c co x' d k Q:=by rw[h]
theorem zxV{x x':Option (PF×PFr)}(h:x=x'):qz P c d k Q x=qz P c d k Q x':=by rw[h]
@[go_sem ↓] theorem zME{d:Tmp}(h:ckd co d y=true)(hf:co.fz.contains d=false):qv P c co (some (y,pf)) (some d) k Q=pw P c k Q (pf.put d y):=by simp only[qv,zbr,h,hf];simp
@[go_sem ↓] theorem zTs{d:Tmp}(h:ckd co d y=true)(hf:co.fz.contains d=true):qv P c co (some (y,pf)) (some d) k Q=qz P c d k Q (zka pf y):=by simp only[qv,zbr,h,hf];simp[qz]
@[go_sem ↓] theorem zRV :qv P c co (some (y,pf)) none k Q=pw P c k Q pf:=rfl
@[go_sem ↓] theorem zOP :qz P c d k Q (some (y,pf))=pw P c k Q (pf.put d y):=rfl
def qf(P:Program)(c:Cfg)(x:Option PFr)(k:List PIt)(Q:Exit→PFr→Prop):Prop:=
 match x with
 |some pf=>pw P c k Q pf
 |none=>False
theorem zxQ{x x':Option PFr}(h:x=x'):qf P c x k Q=qf P c x' k Q:=by rw[h]
@[go_sem ↓] theorem zOR:qf P c (some pf) k Q=pw P c k Q pf:=rfl
attribute [congr] zys zvy zxB zxV zxQ
@[go_sem] theorem zQg :ckd c d y=(decide (d<c.nt)&& !c.io.contains d&& !(zam y==some d)):=(rfl)
@[go_sem] theorem zNa{x:PV}:zam (.v x)=none:=(rfl)
@[go_sem] theorem zCL:zam .skip=none:=(rfl)
@[go_sem] theorem zHu{r:List (List PV)}:zam (.ls es r)=none:=(rfl)
@[go_sem] theorem zG6 :zam (.bl r)=none:=(rfl)
@[go_sem] theorem zHZ{j:Nat}:zam (.pt s p i j)=some s:=(rfl)
@[go_sem] theorem zHK :zam (.rf s p)=some s:=(rfl)
@[go_sem] theorem zI4 :zam (.rv s p lo hi)=some s:=(rfl)
@[go_sem] theorem zHM{j n:Nat}:zam (.as b s p i j n)=some s:=(rfl)
@[go_sem] theorem zG0 :zam (.cl s g us)=some s:=(rfl)
@[go_sem] theorem zHz{j n:Nat}:zam (.ra s p i j n)=some s:=(rfl)
@[go_sem] theorem zNc{t:Nat}{x:PF}:PFr.put pf d x t=if t=d then x else zbZ d (pf t):=(rfl)
@[go_sem] theorem zMU{t:Nat}{x:PF}:PFr.upd pf d x t=if t=d then x else pf t:=(rfl)
@[go_sem] theorem zLc{n t:Nat}:PFr.kill pf s n t=zaW s n (pf t):=(rfl)
@[go_sem] theorem zMS{x:PV}:zbZ d (.v x)=.v x:=(rfl)
@[go_sem] theorem zFk :zbZ d .skip=.skip:=(rfl)
@[go_sem] theorem zKE{r:List (List PV)}:zbZ d (.ls es r)=.ls es r:=(rfl)
@[go_sem] theorem zIE :zbZ d (.bl r)=.bl r:=(rfl)
@[go_sem] theorem zGP{j:Nat}:zbZ d (.pt s p i j)=if s=d then jP else .pt s p i j:=by simp[zbZ,zam]
@[go_sem] theorem zKj :zbZ d (.rf s p)=if s=d then jP else .rf s p:=by simp[zbZ,zam]
@[go_sem] theorem zKB :zbZ d (.rv s p lo hi)=if s=d then jP else .rv s p lo hi:=by simp[zbZ,zam]
@[go_sem] theorem zIb{j n:Nat}:zbZ d (.as b s p i j n)=if s=d then jP else .as b s p i j n:=by simp[zbZ,zam]
@[go_sem] theorem zKo :zbZ d (.cl s g us)=if s=d then jP else .cl s g us:=by simp[zbZ,zam]
@[go_sem] theorem zHx{j n:Nat}:zbZ d (.ra s p i j n)=if s=d then jP else .ra s p i j n:=by simp[zbZ,zam]
@[go_sem] theorem zO2 :zbZ d jP=jP:=(rfl)
@[go_sem] theorem zLP{n:Nat}{x:PV}:zaW s n (.v x)=.v x:=by simp[zaW,zam]
@[go_sem] theorem zDH{n:Nat}:zaW s n .skip=.skip:=by simp[zaW,zam]
@[go_sem] theorem zIV{n:Nat}{r:List (List PV)}:zaW s n (.ls es r)=.ls es r:=by simp[zaW,zam]
@[go_sem] theorem zGU{n:Nat}:zaW s n (.bl r)=.bl r:=by simp[zaW,zam]
@[go_sem] theorem zKD{n j:Nat}:zaW s n (.pt s' p i j)=if s'=s∧n≤p.length then jP else .pt s' p i j:=by simp[zaW,zam,zfU]
@[go_sem] theorem zHn{n:Nat}:zaW s n (.rf s' p)=if s'=s∧n≤p.length then jP else .rf s' p:=by simp[zaW,zam,zfU]
@[go_sem] theorem zKL{n:Nat}:zaW s n (.rv s' p lo hi)=if s'=s∧n≤p.length then jP else .rv s' p lo hi:=by simp[zaW,zam,zfU]
@[go_sem] theorem zKU{n j m:Nat}:zaW s n (.as b s' p i j m)=if s'=s∧n≤p.length+1 then jP else .as b s' p i j m:=by simp[zaW,zam,zfU]
@[go_sem] theorem zIu{n:Nat}:zaW s n (.cl s' g us)=if s'=s∧n≤0 then jP else .cl s' g us:=by simp[zaW,zam,zfU]
@[go_sem] theorem zIU{n j m:Nat}:zaW s n (.ra s' p i j m)=if s'=s∧n≤p.length+1 then jP else .ra s' p i j m:=by simp[zaW,zam,zfU]
@[go_sem] theorem zML{n:Nat}:zaW s n jP=jP:=by simp[zaW,zam,jP]
@[go_sem] theorem zJY{x:PF}{l:List (Nat×PF)}{t:Nat}:PFr.ofL ((s,x)::l) t=if t=s then x else PFr.ofL l t:=(rfl)
@[go_sem] theorem zNi{t:Nat}:PFr.ofL [] t=jP:=(rfl)
@[go_sem] theorem zGC{as:List (Md×PV)}{t:Nat}:zhj as t=zoY as[t]? :=(rfl)
@[go_sem] theorem zFR{m:Md}{x:PV}:zoY (some (m,x))=.v x:=(rfl)
@[go_sem] theorem zFH:zoY none=jP:=(rfl)
@[go_sem] theorem zVh:isJ .junk=true:=(rfl)
@[go_sem] theorem zJz :isJ (.bool b)=false:=(rfl)
@[go_sem] theorem zMV :isJ (.int j n)=false:=(rfl)
@[go_sem] theorem zPH{s:ByteArray}:isJ (.str s)=false:=(rfl)
@[go_sem] theorem zRD{r:List (List PV)}:isJ (.sl o es r)=false:=(rfl)
@[go_sem] theorem zRL :isJ (.fp r)=false:=(rfl)
@[go_sem] theorem zSl :isJ (.bx r)=false:=(rfl)
@[go_sem] theorem zHJ{a b:List PV}:isJ (.func f a b)=false:=(rfl)
@[go_sem] theorem zLq :isJ (.agg r)=false:=(rfl)
@[go_sem] theorem zNl :isJ (.tup r)=false:=(rfl)
@[go_sem] theorem zJo:isJ .nilf=false:=(rfl)
@[go_sem] theorem zHD:isJ .nilp=false:=(rfl)
@[go_sem] theorem zIZ:isJ .nili=false:=(rfl)
@[go_sem] theorem zSp:zaC .junk=false:=by simp[zaC]
@[go_sem] theorem zGq :zaC (.bool b)=false:=by simp[zaC]
@[go_sem] theorem zGW :zaC (.int j n)=false:=by simp[zaC]
@[go_sem] theorem zKQ{s:ByteArray}:zaC (.str s)=false:=by simp[zaC]
@[go_sem] theorem zMe :zaC (.fp r)=false:=by simp[zaC]
@[go_sem] theorem zGj{a b:List PV}:zaC (.func f a b)=false:=by simp[zaC]
@[go_sem] theorem zFF:zaC .nilf=false:=by simp[zaC]
@[go_sem] theorem zGc:zaC .nilp=false:=by simp[zaC]
@[go_sem] theorem zGA:zaC .nili=false:=by simp[zaC]
attribute [go_sem] zjk ztr zhx zq4 ziv zpF zn4 zq3 znA zq8 zqa zp1
@[go_sem] theorem zQX:drop .junk=.junk:=by simp[drop]
@[go_sem] theorem zFs :drop (.bool b)=.bool b:=by simp[drop]
@[go_sem] theorem zJS :drop (.int j n)=.int j n:=by simp[drop]
@[go_sem] theorem zIk{s:ByteArray}:drop (.str s)=.str s:=by simp[drop]
@[go_sem] theorem zL7 :drop (.fp r)=.fp r:=by simp[drop]
@[go_sem] theorem zF3{a b:List PV}:drop (.func f a b)=.func f a b:=by simp[drop]
@[go_sem] theorem zGk:drop .nilf=.nilf:=by simp[drop]
@[go_sem] theorem zFV:drop .nilp=.nilp:=by simp[drop]
@[go_sem] theorem zGm:drop .nili=.nili:=by simp[drop]
@[go_sem] theorem zPq:zaU .junk=true:=by simp[zaU]
@[go_sem] theorem zD7 :zaU (.bool b)=true:=by simp[zaU]
@[go_sem] theorem zFy :zaU (.int j n)=true:=by simp[zaU]
@[go_sem] theorem zF9{s:ByteArray}:zaU (.str s)=true:=by simp[zaU]
@[go_sem] theorem zK6 :zaU (.fp r)=false:=by simp[zaU]
@[go_sem] theorem zDT{a b:List PV}:zaU (.func f a b)=false:=by simp[zaU]
@[go_sem] theorem zC3:zaU .nilf=true:=by simp[zaU]
@[go_sem] theorem zEC :zfJ (.int j n)=true:=(rfl)
@[go_sem] theorem zBZ :zfJ (.bool b)=true:=(rfl)
@[go_sem] theorem zEy{s:ByteArray}:zfJ (.str s)=true:=(rfl)
@[go_sem] theorem zFU{r:List (List PV)}:zfJ (.sl o es r)=true:=(rfl)
@[go_sem] theorem zFW :zfJ (.bx r)=true:=(rfl)
@[go_sem] theorem zF5 :zfJ (.fp r)=true:=(rfl)
@[go_sem] theorem zB1{a b:List PV}:zfJ (.func f a b)=true:=(rfl)
@[go_sem] theorem zBY :zcc (.int j n)=true:=(rfl)
@[go_sem] theorem zA0 :zcc (.bool b)=true:=(rfl)
@[go_sem] theorem zB9{s:ByteArray}:zcc (.str s)=true:=(rfl)
@[go_sem] theorem zDZ{r:List (List PV)}:zcc (.sl o es r)=true:=(rfl)
@[go_sem] theorem zCa :zcc (.agg r)=true:=(rfl)
@[go_sem] theorem zEe :zcc (.bx r)=true:=(rfl)
@[go_sem] theorem zCB :zcc (.fp r)=true:=(rfl)
@[go_sem] theorem zBf{a b:List PV}:zcc (.func f a b)=true:=(rfl)
@[go_sem] theorem zEh :zay (.int j n)=[.int j n]:=(rfl)
@[go_sem] theorem zBO :zay (.bool b)=[.bool b]:=(rfl)
@[go_sem] theorem zEE{s:ByteArray}:zay (.str s)=[.str s]:=(rfl)
@[go_sem] theorem zGB{r:List (List PV)}:zay (.sl o es r)=[.sl o es r]:=(rfl)
@[go_sem] theorem zCo :zay (.agg r)=r:=(rfl)
@[go_sem] theorem zFE :zay (.bx r)=[.bx r]:=(rfl)
@[go_sem] theorem zGx :zay (.fp r)=[.fp r]:=(rfl)
@[go_sem] theorem zB5{a b:List PV}:zay (.func f a b)=[.func f a b]:=(rfl)
@[go_sem] theorem zFw :zgF e (.bool b)=.bool b:=(rfl)
@[go_sem] theorem zI8 :zgF e (.int j n)=.int j n:=(rfl)
@[go_sem] theorem zGO{s:ByteArray}:zgF e (.string s)=.str s:=(rfl)
@[go_sem] theorem zJt :zgF e (.slice none 0 0)=.sl true e []:=(rfl)
@[go_sem] theorem zGz :zgF e .nilFunc=.nilf:=(rfl)
@[go_sem] theorem zMx :zai (.int j n)=true:=(rfl)
@[go_sem] theorem zKP :zai (.bool b)=true:=(rfl)
@[go_sem] theorem zPa{b:ByteArray}:zai (.string b)=true:=(rfl)
@[go_sem] theorem zMv:zai (.slice none 0 0)=true:=(rfl)
@[go_sem] theorem zKG:zai .nilFunc=true:=(rfl)
@[go_sem] theorem zOf{t:Tmp}:rdS pf (.tmp t)=zpx (pf t):=(rfl)
@[go_sem] theorem zQh{x:PV}:zpx (.v x)=toS x:=(rfl)
@[go_sem] theorem zFD:zpx .skip=none:=(rfl)
@[go_sem] theorem zHO :toS (.bool b)=some (.bool b):=(rfl)
@[go_sem] theorem zOu :toS (.int j n)=some (.int j n):=(rfl)
@[go_sem] theorem zMn{s:ByteArray}:toS (.str s)=some (.string s):=(rfl)
@[go_sem] theorem zL0{l:List PV}:toS (.agg l)=(zlh l).map fun l=>.agg l.toArray:=(rfl)
@[go_sem] theorem zHL:zlh []=some []:=(rfl)
@[go_sem] theorem zH5 :zlh (.int j n::r)=(zlh r).map fun l=>.int j n::l:=(rfl)
@[go_sem] theorem zL8 :rdS pf (.const (.int j n))=some (.int j n):=(rfl)
@[go_sem] theorem zJx :rdS pf (.const (.bool b))=some (.bool b):=(rfl)
@[go_sem] theorem zN1{b:ByteArray}:rdS pf (.const (.string b))=some (.string b):=(rfl)
@[go_sem] theorem zDR :zeQ (.bool b)=some (.bool b):=(rfl)
@[go_sem] theorem zFT :zeQ (.int j n)=some (.int j n):=(rfl)
@[go_sem] theorem zGI{s:ByteArray}:zeQ (.string s)=some (.str s):=(rfl)
def ev1(f:Value→Option Value)(x:Option Value)(pf:PFr):Option (PF×PFr):=(x.bind fun a=>(f a).bind zeQ).map fun y=>(.v y,pf)
def ev2(f:Value→Value→Option Value)(x y:Option Value)(pf:PFr):Option (PF×PFr):=(x.bind fun a=>y.bind fun b=>(f a b).bind zeQ).map fun y=>(.v y,pf)
def fin(x:Option Value)(pf:PFr):Option (PF×PFr):=(x.bind zeQ).map fun y=>(.v y,pf)
@[go_sem] theorem zGY{f:Value→Option Value}{a:Value}:ev1 f (some a) pf=fin (f a) pf:=(rfl)
@[go_sem] theorem zIm{f:Value→Value→Option Value}{a b:Value}:ev2 f (some a) (some b) pf=fin (f a b) pf:=(rfl)
@[go_sem] theorem zIz :fin (some (.bool b)) pf=some (.v (.bool b),pf):=(rfl)
@[go_sem] theorem zMN :fin (some (.int j n)) pf=some (.v (.int j n),pf):=(rfl)
@[go_sem] theorem zNn{s:ByteArray}:fin (some (.string s)) pf=some (.v (.str s),pf):=(rfl)
theorem zhy{o:Oper}{x:Option (PF×PFr)}(h:(((zaJ o.op).bind (zh5 pf)).bind fun vs=>(zaP P o.op vs).bind zeQ).map (fun y=>(PF.v y,pf))=x):zeP P co o (pw P c k Q) pf=qv P c co x o.dst k Q:=by
 subst h;unfold zeP;cases (zaJ o.op).bind (zh5 pf)with
 |none=>rfl
 |some vs=>
  simp only[Option.bind_some];cases (zaP P o.op vs).bind zeQ<;>rfl
@[go_sem ↓] theorem zJL{op:UnOp}{d:Option Tmp}:pw1 P c co ty (.unOp op t x) d k Q pf=qv P c co (ev1 (unV op) (rdS pf x) pf) d k Q:=by
 refine zhy (o:=⟨d,.unOp op t x,ty, "",#[],none⟩) ?_;simp only[zaJ,zh5,Option.bind_some];cases rdS pf x<;>simp[zaP,ev1]
theorem zp6{s:TypeId}{d:Tmp}(ht:zaE P t=true)(hp:co.hp≠[]∨lsP pf x=true):pw1 P c co ty (.convert s t x) (some d) k Q pf=qv P c co (bsE P s pf x) (some d) k Q:=by
 show(if zaE P t=true then(co.hp≠[]∨lsP pf x=true)∧zjg P co s t x (some d) (pw P c k Q) pf else _)=_;rw[if_pos ht];unfold zjg qv;cases bsE P s pf x with
 |none=>simp[hp]
 |some z=>simp[hp,ht]
@[go_sem ↓] theorem zJy{s:TypeId}{d:Tmp}(ht:zaE P t=true)(hp:co.hp.isEmpty=false):pw1 P c co ty (.convert s t x) (some d) k Q pf=qv P c co (bsE P s pf x) (some d) k Q:=zp6 ht (.inl fun e=>by rw[e]at hp;cases hp)
@[go_sem] theorem zKu{rows:List (List PV)}:zoR (.ls 1 rows)=true:=(rfl)
@[go_sem ↓] theorem zFt{s:TypeId}{u:Nat}{d:Tmp}(ht:zaE P t=true)(hl:zoR (pf u)=true):pw1 P c co ty (.convert s t (.tmp u)) (some d) k Q pf=qv P c co (bsE P s pf (.tmp u)) (some d) k Q:=zp6 ht (.inr hl)
@[go_sem ↓] theorem zBM{s:TypeId}{d:Option Tmp}(ht:zaE P t=false):pw1 P c co ty (.convert s t x) d k Q pf=qv P c co (ev1 (ziL P s t) (rdS pf x) pf) d k Q:=by
 have e:pw1 P c co ty (.convert s t x) d k Q pf=zeP P co ⟨d,.convert s t x,ty, "",#[],none⟩ (pw P c k Q) pf:=by
  show(if zaE P t=true then(co.hp≠[]∨lsP pf x=true)∧zjg P co s t x d (pw P c k Q) pf else zeP P co ⟨d,.convert s t x,ty, "",#[],none⟩ (pw P c k Q) pf)=_;rw[if_neg (by simp[ht])]
 rw[e];refine zhy (o:=⟨d,.convert s t x,ty, "",#[],none⟩) ?_;simp only[zaJ,zh5,Option.bind_some];cases rdS pf x<;>simp[zaP,ev1]
@[go_sem] theorem zEH{t:Tmp}:zhi (.tmp t)=false:=(rfl)
@[go_sem] theorem zDa :zhi (.const (.int j n))=false:=(rfl)
@[go_sem] theorem zBX :zhi (.const (.bool b))=false:=(rfl)
@[go_sem] theorem zDb{s:ByteArray}:zhi (.const (.string s))=false:=(rfl)
@[go_sem ↓] theorem zGa{u:TypeId}{op:BinOp}{y:Operand}{d:Option Tmp}(hy:zhi y=false):pw1 P c co ty (.binOp op t x y u) d k Q pf=qv P c co (ev2 (za1 P op t) (rdS pf x) (rdS pf y) pf) d k Q:=by
 have e:pw1 P c co ty (.binOp op t x y u) d k Q pf=zeP P co ⟨d,.binOp op t x y u,ty, "",#[],none⟩ (pw P c k Q) pf:=by
  show pop P co ⟨d,.binOp op t x y u,ty, "",#[],none⟩ (pw P c k Q) pf=_;simp only[pop,hy,Bool.false_eq_true,if_false]
 rw[e];refine zhy (o:=⟨d,.binOp op t x y u,ty, "",#[],none⟩) ?_;simp only[zaJ,zh5,Option.bind_some];cases rdS pf x<;>cases rdS pf y<;>simp[zaP,ev2]
@[go_sem ↓] theorem zGF{y:Operand}{d:Option Tmp}:pw1 P c co ty (.index t x y) d k Q pf=qv P c co (ev2 (zhS P t) (rdS pf x) (rdS pf y) pf) d k Q:=by
 refine zhy (o:=⟨d,.index t x y,ty, "",#[],none⟩) ?_;simp only[zaJ,zh5,Option.bind_some];cases rdS pf x<;>cases rdS pf y<;>simp[zaP,ev2]
@[go_sem ↓] theorem zOJ{y:Operand}{ts:Array TypeId}{d:Option Tmp}:pw1 P c co ty (.call ⟨.builtin .min,#[x,y],ts⟩) d k Q pf=qv P c co (ev2 (zgd false) (rdS pf x) (rdS pf y) pf) d k Q:=by
 refine zhy (o:=⟨d,.call ⟨.builtin .min,#[x,y],ts⟩,ty, "",#[],none⟩) ?_;simp only[zaJ,zh5,Option.bind_some];cases rdS pf x<;>cases rdS pf y<;>simp[zaP,ev2]
@[go_sem ↓] theorem zLH{y:Operand}{ts:Array TypeId}{d:Option Tmp}:pw1 P c co ty (.call ⟨.builtin .max,#[x,y],ts⟩) d k Q pf=qv P c co (ev2 (zgd true) (rdS pf x) (rdS pf y) pf) d k Q:=by
 refine zhy (o:=⟨d,.call ⟨.builtin .max,#[x,y],ts⟩,ty, "",#[],none⟩) ?_;simp only[zaJ,zh5,Option.bind_some];cases rdS pf x<;>cases rdS pf y<;>simp[zaP,ev2]
@[go_sem] theorem zJg{s d:TypeId}{i k:IntKind}(hs:zde P s=some i)(hd:zde P d=some k):ziL P s d (.int j n)=some (.int k (k.wrap n)):=by
 unfold ziL
 have:∃u,P.underlying s=some u:=by
  unfold zde at hs;split at hs
  ·rename_i h;exact⟨_,h⟩
  ·cases hs
 obtain⟨u,hu⟩:=this;rw[hu,hd]
@[go_sem] theorem zMH{b:Int}:za1 P .add t (.int j a) (.int j b)=some (.int j (j.wrap (a+b))):=by simp[za1,zbJ]
@[go_sem] theorem zNe{b:Int}:za1 P .sub t (.int j a) (.int j b)=some (.int j (j.wrap (a-b))):=by simp[za1,zbJ]
@[go_sem] theorem zOY{b:Int}:za1 P .mul t (.int j a) (.int j b)=some (.int j (j.wrap (a*b))):=by simp[za1,zbJ]
def zko(b:Int)(x:Value):Option Value:=if b=0 then none else some x
@[go_sem] theorem zN3{b:Int}:za1 P .quo t (.int j a) (.int j b)=zko b (.int j (j.wrap (a.tdiv b))):=by simp[za1,zbJ,zko]
@[go_sem] theorem zPp{b:Int}:za1 P .rem t (.int j a) (.int j b)=zko b (.int j (a.tmod b)):=by simp[za1,zbJ,zko]
theorem zpA{b:Int}{x:Value}(h:b≠0):zko b x=some x:=by simp[zko,h]
@[go_sem] theorem zJw{x:Value}{n:Nat}:zko (OfNat.ofNat (n+1)) x=some x:=by
 refine zpA ?_;show((n+1:Nat):Int)≠0;omega
@[go_sem] theorem zOB{b:Int}:za1 P .eql t (.int j a) (.int j b)=some (.bool (a==b)):=by simp[za1,zbJ]
@[go_sem] theorem zMF{b:Int}:za1 P .neq t (.int j a) (.int j b)=some (.bool (a !=b)):=by simp[za1,zbJ]
@[go_sem] theorem zNQ{b:Int}:za1 P .lss t (.int j a) (.int j b)=some (.bool (decide (a<b))):=by simp[za1,zbJ]
@[go_sem] theorem zNN{b:Int}:za1 P .leq t (.int j a) (.int j b)=some (.bool (decide (a≤b))):=by simp[za1,zbJ]
@[go_sem] theorem zL5{b:Int}:za1 P .gtr t (.int j a) (.int j b)=some (.bool (decide (b<a))):=by simp[za1,zbJ]
@[go_sem] theorem zPA{b:Int}:za1 P .geq t (.int j a) (.int j b)=some (.bool (decide (b≤a))):=by simp[za1,zbJ]
@[go_sem] theorem zMp{b:Int}:za1 P .and t (.int j a) (.int j b)=some (.int j (j.wrap (BitVec.ofInt j.bits a&&&BitVec.ofInt j.bits b).toNat)):=by simp[za1,zbJ]
@[go_sem] theorem zR6{b:Int}:za1 P .or t (.int j a) (.int j b)=some (.int j (j.wrap (BitVec.ofInt j.bits a|||BitVec.ofInt j.bits b).toNat)):=by simp[za1,zbJ]
@[go_sem] theorem zPg{b:Int}:za1 P .xor t (.int j a) (.int j b)=some (.int j (j.wrap (BitVec.ofInt j.bits a^^^BitVec.ofInt j.bits b).toNat)):=by simp[za1,zbJ]
def zl9(b:Int)(x:Value):Option Value:=if b<0 then none else some x
@[go_sem] theorem zLm{j':IntKind}{b:Int}:za1 P .shl t (.int j a) (.int j' b)=zl9 b (.int j (j.wrap (a*2^min b.toNat j.bits))):=by simp[za1,zl9]
@[go_sem] theorem zPi{j':IntKind}{b:Int}:za1 P .shr t (.int j a) (.int j' b)=zl9 b (.int j (a.fdiv (2^min b.toNat j.bits))):=by simp[za1,zl9]
theorem zt3{b:Int}{x:Value}(h:0≤b):zl9 b x=some x:=by simp[zl9];omega
@[go_sem] theorem zH4{a:Bool}(h:zix P t=true):za1 P .eql t (.bool a) (.bool b)=some (.bool (a==b)):=by simp[za1,h]
@[go_sem] theorem zKp{a:Bool}(h:zix P t=true):za1 P .neq t (.bool a) (.bool b)=some (.bool (a !=b)):=by simp[za1,h]
@[go_sem] theorem zK2{a b:List Value}{o:List Nat}(h:zmL P t=some o):za1 P .eql t (.agg a.toArray) (.agg b.toArray)=(eqL a b o).map .bool:=by simp[za1,h]
@[go_sem] theorem zKJ{a b:List Value}{o:List Nat}(h:zmL P t=some o):za1 P .neq t (.agg a.toArray) (.agg b.toArray)=(eqL a b o).map fun r=>.bool !r:=by simp[za1,h]
@[go_sem] theorem zT3{i:IntKind}{b x y:Int}:eqL [.int j a,.int i b] [.int j x,.int i y] [0,1]=some (a==x&&b==y):=by simp[eqL]
@[go_sem] theorem zJp{a b:ByteArray}:za1 P .eql t (.string a) (.string b)=some (.bool (a.toList==b.toList)):=(rfl)
@[go_sem] theorem zrD{a b:ByteArray}(h:a.size+b.size≤9223372036854775807):za1 P .add t (.string a) (.string b)=some (.string (a++b)):=by simp[za1,h]
@[go_sem] theorem zTi{s:TypeId}(h:zg1 P s=true):bsE P s pf x=(srO 1 pf x).bind fun z=>(ziM z.1).map fun ns=>(.v (.str (zcY ns)),z.2):=by unfold bsE;rw[if_pos h]
@[go_sem] theorem zGG:ziM []=some []:=(rfl)
@[go_sem] theorem zut{rs:List (List PV)}:ziM ([.int .u8 n]::rs)=(ziM rs).map (n:: ·):=(rfl)
@[go_sem] theorem zFp{f:Int→List PV}(h:∀x,f x=[.int .u8 x]){l:List Int}:ziM (l.map f)=some l:=by
 induction l with
 |nil=>rfl
 |cons x l ih=>rw[List.map_cons,h,zut,ih];rfl
@[go_sem] theorem zHT{a b:ByteArray}:za1 P .neq t (.string a) (.string b)=some (.bool !(a.toList==b.toList)):=(rfl)
@[go_sem] theorem zRM :unV .not (.bool b)=some (.bool !b):=(rfl)
@[go_sem] theorem zSh :unV .neg (.int j n)=some (.int j (j.wrap (0-n))):=(rfl)
@[go_sem] theorem zC8{b:Int}:zgd true (.int j a) (.int j b)=some (.int j (if a<b then b else a)):=by simp[zgd]
@[go_sem] theorem zC4{b:Int}:zgd false (.int j a) (.int j b)=some (.int j (if b<a then b else a)):=by simp[zgd]
end
end Go.Pm
