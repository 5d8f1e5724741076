import Derived.Test.YtnbbkiilkaebaaaGreatDoorPmS
namespace Go.Pm
open Go.Am
section
variable {P:Program}{c co:Cfg}{k:List PIt}{Q:Exit→PFr→Prop}{pf:PFr}
@[go_sem] theorem zJO {a:Nat}{b f h:List Nat}:Cfg.nohp ⟨a,b,f,h⟩=⟨a,b,f,[]⟩:=(rfl)
@[go_sem ↓] theorem zDa {id:Nat}{ops:List Oper}:pw P c (.code (.region id ops.toArray false)::k) Q pf=pw P c (.ops (ops.map (·.dst)) ops::k) Q pf:=by
 show pwp P c (.region id ops.toArray false) (zbH P c k Q) pf=_
 simp only[pwp,Bool.false_eq_true,if_false]
 rfl
@[go_sem ↓] theorem zBp {pre:List (Option Tmp)}:pw P c (.ops pre []::k) Q pf=pw P c k Q pf:=rfl
def pw1 (P:Program) (c co:Cfg) (ty:TypeId) (op:Op) (d:Option Tmp) (k:List PIt) (Q:Exit→PFr→Prop) (pf:PFr):Prop:=pop P co ⟨d,op,ty, "",#[],none⟩ (pw P c k Q) pf
theorem zuc {o o':Oper}{K:PFr→Prop}(h:o.op=o'.op) (hd:o.dst=o'.dst) (ht:o.type=o'.type):pop P c o K pf=pop P c o' K pf:=by
 obtain⟨d,op,ty,ps,af,g⟩:=o
 obtain⟨d',op',ty',ps',af',g'⟩:=o'
 simp only at h hd ht
 subst h;subst hd;subst ht
 rfl
@[go_sem ↓] theorem zPK {pre:List (Option Tmp)}{d:Option Tmp}{op:Op}{ty:TypeId}{ps:String}{af:Array Edge}{l:List Oper}:
 pw P c (.ops pre (⟨d,op,ty,ps,af,none⟩::l)::k) Q pf=pw1 P c c ty op d (.ops pre l::k) Q pf:=by
 show zk5 P c pre ⟨d,op,ty,ps,af,none⟩ (pw P c (.ops pre l::k) Q) pf=_
 simp only[zk5]
 exact zuc rfl rfl rfl
def pwg (P:Program) (c:Cfg) (y:Option (Option Bool)) (b:Bool) (ty:TypeId) (op:Op) (d:Option Tmp) (k:List PIt) (Q:Exit→PFr→Prop) (pf:PFr):Prop:=
 pgo c b d (pw1 P c c ty op d k Q pf) (pw P c k Q) pf y
theorem zuG {y y':Option (Option Bool)}{b:Bool}{ty:TypeId}{op:Op}{d:Option Tmp}(h:y=y'):pwg P c y b ty op d k Q pf=pwg P c y' b ty op d k Q pf:=by rw[h]
@[go_sem ↓] theorem zMW {pre:List (Option Tmp)}{d:Option Tmp}{op:Op}{ty:TypeId}{ps:String}{af:Array Edge}{j:Nat}{b:Bool}{l:List Oper}:
 pw P c (.ops pre (⟨d,op,ty,ps,af,some (j,b)⟩::l)::k) Q pf=pwg P c (ygP pf pre[j]?) b ty op d (.ops pre l::k) Q pf:=by
 show zk5 P c pre ⟨d,op,ty,ps,af,some (j,b)⟩ (pw P c (.ops pre l::k) Q) pf=_
 simp only[zk5]
 unfold pwg pw1
 rw[zuc (o:=⟨d,op,ty,ps,af,some (j,b)⟩) (o':=⟨d,op,ty, "",#[],none⟩) rfl rfl rfl]
@[go_sem] theorem zHP {d:Tmp}:ygP pf (some (some d))=ygV (pf d):=(rfl)
@[go_sem] theorem zEW {b:Bool}:ygV (.v (.bool b))=some (some b):=(rfl)
@[go_sem] theorem zHM:ygV .skip=some none:=(rfl)
@[go_sem ↓] theorem zOj {ty:TypeId}{op:Op}{d:Option Tmp}:pwg P c (some (some true)) true ty op d k Q pf=pw1 P c c ty op d k Q pf:=by simp[pwg,pgo]
@[go_sem ↓] theorem zOm {ty:TypeId}{op:Op}{d:Option Tmp}:pwg P c (some (some false)) false ty op d k Q pf=pw1 P c c ty op d k Q pf:=by simp[pwg,pgo]
@[go_sem ↓] theorem zNS {ty:TypeId}{op:Op}{d:Tmp}(h:ckd c d .skip=true):pwg P c (some (some true)) false ty op (some d) k Q pf=pw P c k Q (pf.put d .skip):=by simp[pwg,pgo,zhy,h]
@[go_sem ↓] theorem zNP {ty:TypeId}{op:Op}{d:Tmp}(h:ckd c d .skip=true):pwg P c (some (some false)) true ty op (some d) k Q pf=pw P c k Q (pf.put d .skip):=by simp[pwg,pgo,zhy,h]
@[go_sem ↓] theorem zQM {b:Bool}{ty:TypeId}{op:Op}{d:Tmp}(h:ckd c d .skip=true):pwg P c (some none) b ty op (some d) k Q pf=pw P c k Q (pf.put d .skip):=by simp[pwg,pgo,zhy,h]
theorem zur {y b:Bool}{ty:TypeId}{op:Op}{d:Option Tmp}(h1:y=true→pwg P c (some (some true)) b ty op d k Q pf) (h2:y=false→pwg P c (some (some false)) b ty op d k Q pf):pwg P c (some (some y)) b ty op d k Q pf:=by
 cases y
 ·exact h2 rfl
 ·exact h1 rfl
def qv (P:Program) (c co:Cfg) (x:Option (PF×PFr)) (d:Option Tmp) (k:List PIt) (Q:Exit→PFr→Prop):Prop:=
 match x with
 |some a=>zbn co (pw P c k Q) d a.1 a.2
 |none=>False
def qz (P:Program) (c:Cfg) (d:Nat) (k:List PIt) (Q:Exit→PFr→Prop) (x:Option (PF×PFr)):Prop:=pfz (pw P c k Q) d x
theorem zwd {x x':Option (PF×PFr)}{d:Option Tmp}(h:x=x'):qv P c co x d k Q=qv P c co x' d k Q:=by rw[h]
theorem zwe {x x':Option (PF×PFr)}{d:Nat}(h:x=x'):qz P c d k Q x=qz P c d k Q x':=by rw[h]
@[go_sem ↓] theorem zJK {y:PF}{d:Tmp}(h:ckd co d y=true) (hf:co.fz.contains d=false):qv P c co (some (y,pf)) (some d) k Q=pw P c k Q (pf.put d y):=by simp only[qv,zbn,h,hf];simp
@[go_sem ↓] theorem zPW {y:PF}{d:Tmp}(h:ckd co d y=true) (hf:co.fz.contains d=true):qv P c co (some (y,pf)) (some d) k Q=qz P c d k Q (zji pf y):=by simp only[qv,zbn,h,hf];simp[qz]
@[go_sem ↓] theorem zMY {y:PF}:qv P c co (some (y,pf)) none k Q=pw P c k Q pf:=rfl
@[go_sem ↓] theorem zJ0 {y:PF}{d:Nat}:qz P c d k Q (some (y,pf))=pw P c k Q (pf.put d y):=rfl
def qf (P:Program) (c:Cfg) (x:Option PFr) (k:List PIt) (Q:Exit→PFr→Prop):Prop:=
 match x with
 |some pf=>pw P c k Q pf
 |none=>False
theorem zvr {x x':Option PFr}(h:x=x'):qf P c x k Q=qf P c x' k Q:=by rw[h]
@[go_sem ↓] theorem zLQ:qf P c (some pf) k Q=pw P c k Q pf:=rfl
attribute [congr] zv3 zuG zwd zwe zvr
@[go_sem] theorem zN1 {d:Nat}{y:PF}:ckd c d y=(decide (d<c.nt)&& !c.io.contains d&& !(zai y==some d)):=(rfl)
@[go_sem] theorem zKW {x:PV}:zai (.v x)=none:=(rfl)
@[go_sem] theorem zAp:zai .skip=none:=(rfl)
@[go_sem] theorem zFC {es:Nat}{r:List (List PV)}:zai (.ls es r)=none:=(rfl)
@[go_sem] theorem zGN {r:List PV}:zai (.bl r)=none:=(rfl)
@[go_sem] theorem zG1 {s i j:Nat}{p:zab}:zai (.pt s p i j)=some s:=(rfl)
@[go_sem] theorem zHA {s:Nat}{p:zab}:zai (.rf s p)=some s:=(rfl)
@[go_sem] theorem zGT {s lo hi:Nat}{p:zab}:zai (.rv s p lo hi)=some s:=(rfl)
@[go_sem] theorem zET {b:Bool}{s i j n:Nat}{p:zab}:zai (.as b s p i j n)=some s:=(rfl)
@[go_sem] theorem zFt {s:Nat}{g:FuncId}{us:List PV}:zai (.cl s g us)=some s:=(rfl)
@[go_sem] theorem zHw {s i j n:Nat}{p:zab}:zai (.ra s p i j n)=some s:=(rfl)
@[go_sem] theorem zJ4 {d t:Nat}{x:PF}:PFr.put pf d x t=if t=d then x else zbJ d (pf t):=(rfl)
@[go_sem] theorem zKC {d t:Nat}{x:PF}:PFr.upd pf d x t=if t=d then x else pf t:=(rfl)
@[go_sem] theorem zFQ {s n t:Nat}:PFr.kill pf s n t=zaO s n (pf t):=(rfl)
@[go_sem] theorem zKD {d:Nat}{x:PV}:zbJ d (.v x)=.v x:=(rfl)
@[go_sem] theorem zAm {d:Nat}:zbJ d .skip=.skip:=(rfl)
@[go_sem] theorem zFF {d es:Nat}{r:List (List PV)}:zbJ d (.ls es r)=.ls es r:=(rfl)
@[go_sem] theorem zIj {d:Nat}{r:List PV}:zbJ d (.bl r)=.bl r:=(rfl)
@[go_sem] theorem zFZ {d s i j:Nat}{p:zab}:zbJ d (.pt s p i j)=if s=d then jP else .pt s p i j:=by simp[zbJ,zai]
@[go_sem] theorem zEQ {d s:Nat}{p:zab}:zbJ d (.rf s p)=if s=d then jP else .rf s p:=by simp[zbJ,zai]
@[go_sem] theorem zGP {d s lo hi:Nat}{p:zab}:zbJ d (.rv s p lo hi)=if s=d then jP else .rv s p lo hi:=by simp[zbJ,zai]
@[go_sem] theorem zFf {b:Bool}{d s i j n:Nat}{p:zab}:zbJ d (.as b s p i j n)=if s=d then jP else .as b s p i j n:=by simp[zbJ,zai]
@[go_sem] theorem zFr {d s:Nat}{g:FuncId}{us:List PV}:zbJ d (.cl s g us)=if s=d then jP else .cl s g us:=by simp[zbJ,zai]
@[go_sem] theorem zFR {d s i j n:Nat}{p:zab}:zbJ d (.ra s p i j n)=if s=d then jP else .ra s p i j n:=by simp[zbJ,zai]
@[go_sem] theorem zJW {d:Nat}:zbJ d jP=jP:=(rfl)
@[go_sem] theorem zIz {s n:Nat}{x:PV}:zaO s n (.v x)=.v x:=by simp[zaO,zai]
@[go_sem] theorem zAS {s n:Nat}:zaO s n .skip=.skip:=by simp[zaO,zai]
@[go_sem] theorem zEB {s n es:Nat}{r:List (List PV)}:zaO s n (.ls es r)=.ls es r:=by simp[zaO,zai]
@[go_sem] theorem zHj {s n:Nat}{r:List PV}:zaO s n (.bl r)=.bl r:=by simp[zaO,zai]
@[go_sem] theorem zFw {s n s' i j:Nat}{p:zab}:zaO s n (.pt s' p i j)=if s'=s∧n≤p.length then jP else .pt s' p i j:=by simp[zaO,zai,zfh]
@[go_sem] theorem zER {s n s':Nat}{p:zab}:zaO s n (.rf s' p)=if s'=s∧n≤p.length then jP else .rf s' p:=by simp[zaO,zai,zfh]
@[go_sem] theorem zGe {s n s' lo hi:Nat}{p:zab}:zaO s n (.rv s' p lo hi)=if s'=s∧n≤p.length then jP else .rv s' p lo hi:=by simp[zaO,zai,zfh]
@[go_sem] theorem zGS {b:Bool}{s n s' i j m:Nat}{p:zab}:zaO s n (.as b s' p i j m)=if s'=s∧n≤p.length+1 then jP else .as b s' p i j m:=by simp[zaO,zai,zfh]
@[go_sem] theorem zED {s n s':Nat}{g:FuncId}{us:List PV}:zaO s n (.cl s' g us)=if s'=s∧n≤0 then jP else .cl s' g us:=by simp[zaO,zai,zfh]
@[go_sem] theorem zGM {s n s' i j m:Nat}{p:zab}:zaO s n (.ra s' p i j m)=if s'=s∧n≤p.length+1 then jP else .ra s' p i j m:=by simp[zaO,zai,zfh]
@[go_sem] theorem zIY {s n:Nat}:zaO s n jP=jP:=by simp[zaO,zai,jP]
@[go_sem] theorem zHO {s:Nat}{x:PF}{l:List (Nat×PF)}{t:Nat}:PFr.ofL ((s,x)::l) t=if t=s then x else PFr.ofL l t:=(rfl)
@[go_sem] theorem zIU {t:Nat}:PFr.ofL [] t=jP:=(rfl)
@[go_sem] theorem zDe {as:List (Md×PV)}{t:Nat}:zgt as t=znQ as[t]? :=(rfl)
@[go_sem] theorem zD8 {m:Md}{x:PV}:znQ (some (m,x))=.v x:=(rfl)
@[go_sem] theorem zDc:znQ none=jP:=(rfl)
@[go_sem] theorem zPH:isJ .junk=true:=(rfl)
@[go_sem] theorem zF5 {b:Bool}:isJ (.bool b)=false:=(rfl)
@[go_sem] theorem zIW {j:IntKind}{n:Int}:isJ (.int j n)=false:=(rfl)
@[go_sem] theorem zLj {s:ByteArray}:isJ (.str s)=false:=(rfl)
@[go_sem] theorem zN8 {o:Bool}{es:Nat}{r:List (List PV)}:isJ (.sl o es r)=false:=(rfl)
@[go_sem] theorem zNi {r:List PV}:isJ (.fp r)=false:=(rfl)
@[go_sem] theorem zOv {r:List PV}:isJ (.bx r)=false:=(rfl)
@[go_sem] theorem zGx {f:Fn}{a b:List PV}:isJ (.func f a b)=false:=(rfl)
@[go_sem] theorem zIR {r:List PV}:isJ (.agg r)=false:=(rfl)
@[go_sem] theorem zJY {r:List PV}:isJ (.tup r)=false:=(rfl)
@[go_sem] theorem zFJ:isJ .nilf=false:=(rfl)
@[go_sem] theorem zGv:isJ .nilp=false:=(rfl)
@[go_sem] theorem zFW:isJ .nili=false:=(rfl)
@[go_sem] theorem zNR:zav .junk=false:=by simp[zav]
@[go_sem] theorem zEi {b:Bool}:zav (.bool b)=false:=by simp[zav]
@[go_sem] theorem zF7 {j:IntKind}{n:Int}:zav (.int j n)=false:=by simp[zav]
@[go_sem] theorem zHb {s:ByteArray}:zav (.str s)=false:=by simp[zav]
@[go_sem] theorem zLA {r:List PV}:zav (.fp r)=false:=by simp[zav]
@[go_sem] theorem zDr {f:Fn}{a b:List PV}:zav (.func f a b)=false:=by simp[zav]
@[go_sem] theorem zDL:zav .nilf=false:=by simp[zav]
@[go_sem] theorem zDb:zav .nilp=false:=by simp[zav]
@[go_sem] theorem zDh:zav .nili=false:=by simp[zav]
attribute [go_sem] zik zry zgE zpA zhv znM zmI zpm zmt zqy zoF zoB
@[go_sem] theorem zN5:drop .junk=.junk:=by simp[drop]
@[go_sem] theorem zDM {b:Bool}:drop (.bool b)=.bool b:=by simp[drop]
@[go_sem] theorem zIw {j:IntKind}{n:Int}:drop (.int j n)=.int j n:=by simp[drop]
@[go_sem] theorem zG7 {s:ByteArray}:drop (.str s)=.str s:=by simp[drop]
@[go_sem] theorem zJJ {r:List PV}:drop (.fp r)=.fp r:=by simp[drop]
@[go_sem] theorem zDi {f:Fn}{a b:List PV}:drop (.func f a b)=.func f a b:=by simp[drop]
@[go_sem] theorem zEm:drop .nilf=.nilf:=by simp[drop]
@[go_sem] theorem zEn:drop .nilp=.nilp:=by simp[drop]
@[go_sem] theorem zDg:drop .nili=.nili:=by simp[drop]
@[go_sem] theorem zKt:zaN .junk=true:=by simp[zaN]
@[go_sem] theorem zBH {b:Bool}:zaN (.bool b)=true:=by simp[zaN]
@[go_sem] theorem zDB {j:IntKind}{n:Int}:zaN (.int j n)=true:=by simp[zaN]
@[go_sem] theorem zEf {s:ByteArray}:zaN (.str s)=true:=by simp[zaN]
@[go_sem] theorem zGl {r:List PV}:zaN (.fp r)=false:=by simp[zaN]
@[go_sem] theorem zBz {f:Fn}{a b:List PV}:zaN (.func f a b)=false:=by simp[zaN]
@[go_sem] theorem zCY:zaN .nilf=true:=by simp[zaN]
@[go_sem] theorem zBd {j:IntKind}{n:Int}:zfa (.int j n)=true:=(rfl)
@[go_sem] theorem zzV {b:Bool}:zfa (.bool b)=true:=(rfl)
@[go_sem] theorem zCU {s:ByteArray}:zfa (.str s)=true:=(rfl)
@[go_sem] theorem zD4 {o:Bool}{es:Nat}{r:List (List PV)}:zfa (.sl o es r)=true:=(rfl)
@[go_sem] theorem zDo {r:List PV}:zfa (.bx r)=true:=(rfl)
@[go_sem] theorem zEq {r:List PV}:zfa (.fp r)=true:=(rfl)
@[go_sem] theorem zAd {f:Fn}{a b:List PV}:zfa (.func f a b)=true:=(rfl)
@[go_sem] theorem zz9 {j:IntKind}{n:Int}:zbS (.int j n)=true:=(rfl)
@[go_sem] theorem zzN {b:Bool}:zbS (.bool b)=true:=(rfl)
@[go_sem] theorem zzS {s:ByteArray}:zbS (.str s)=true:=(rfl)
@[go_sem] theorem zCA {o:Bool}{es:Nat}{r:List (List PV)}:zbS (.sl o es r)=true:=(rfl)
@[go_sem] theorem zz0 {r:List PV}:zbS (.agg r)=true:=(rfl)
@[go_sem] theorem zBe {r:List PV}:zbS (.bx r)=true:=(rfl)
@[go_sem] theorem zAA {r:List PV}:zbS (.fp r)=true:=(rfl)
@[go_sem] theorem zym {f:Fn}{a b:List PV}:zbS (.func f a b)=true:=(rfl)
@[go_sem] theorem zAE {j:IntKind}{n:Int}:zar (.int j n)=[.int j n]:=(rfl)
@[go_sem] theorem zzQ {b:Bool}:zar (.bool b)=[.bool b]:=(rfl)
@[go_sem] theorem zAH {s:ByteArray}:zar (.str s)=[.str s]:=(rfl)
@[go_sem] theorem zDO {o:Bool}{es:Nat}{r:List (List PV)}:zar (.sl o es r)=[.sl o es r]:=(rfl)
@[go_sem] theorem zCv {r:List PV}:zar (.agg r)=r:=(rfl)
@[go_sem] theorem zDk {r:List PV}:zar (.bx r)=[.bx r]:=(rfl)
@[go_sem] theorem zEp {r:List PV}:zar (.fp r)=[.fp r]:=(rfl)
@[go_sem] theorem zz8 {f:Fn}{a b:List PV}:zar (.func f a b)=[.func f a b]:=(rfl)
@[go_sem] theorem zDJ {e:Nat}{b:Bool}:zf0 e (.bool b)=.bool b:=(rfl)
@[go_sem] theorem zHa {e:Nat}{j:IntKind}{n:Int}:zf0 e (.int j n)=.int j n:=(rfl)
@[go_sem] theorem zHy {e:Nat}{s:ByteArray}:zf0 e (.string s)=.str s:=(rfl)
@[go_sem] theorem zGt {e:Nat}:zf0 e (.slice none 0 0)=.sl true e []:=(rfl)
@[go_sem] theorem zDz {e:Nat}:zf0 e .nilFunc=.nilf:=(rfl)
@[go_sem] theorem zKL {j:IntKind}{n:Int}:zaj (.int j n)=true:=(rfl)
@[go_sem] theorem zEE {b:Bool}:zaj (.bool b)=true:=(rfl)
@[go_sem] theorem zK3 {b:ByteArray}:zaj (.string b)=true:=(rfl)
@[go_sem] theorem zIA:zaj (.slice none 0 0)=true:=(rfl)
@[go_sem] theorem zFv:zaj .nilFunc=true:=(rfl)
@[go_sem] theorem zL4 {t:Tmp}:rdS pf (.tmp t)=znO (pf t):=(rfl)
@[go_sem] theorem zNx {x:PV}:znO (.v x)=toS x:=(rfl)
@[go_sem] theorem zEc:znO .skip=none:=(rfl)
@[go_sem] theorem zFo {b:Bool}:toS (.bool b)=some (.bool b):=(rfl)
@[go_sem] theorem zIy {j:IntKind}{n:Int}:toS (.int j n)=some (.int j n):=(rfl)
@[go_sem] theorem zKf {s:ByteArray}:toS (.str s)=some (.string s):=(rfl)
@[go_sem] theorem zKJ {l:List PV}:toS (.agg l)=(zkj l).map fun l=>.agg l.toArray:=(rfl)
@[go_sem] theorem zGO:zkj []=some []:=(rfl)
@[go_sem] theorem zEL {j:IntKind}{n:Int}{r:List PV}:zkj (.int j n::r)=(zkj r).map fun l=>.int j n::l:=(rfl)
@[go_sem] theorem zLO {j:IntKind}{n:Int}:rdS pf (.const (.int j n))=some (.int j n):=(rfl)
@[go_sem] theorem zGU {b:Bool}:rdS pf (.const (.bool b))=some (.bool b):=(rfl)
@[go_sem] theorem zJN {b:ByteArray}:rdS pf (.const (.string b))=some (.string b):=(rfl)
@[go_sem] theorem zBl {b:Bool}:zd4 (.bool b)=some (.bool b):=(rfl)
@[go_sem] theorem zDG {j:IntKind}{n:Int}:zd4 (.int j n)=some (.int j n):=(rfl)
@[go_sem] theorem zD0 {s:ByteArray}:zd4 (.string s)=some (.str s):=(rfl)
def ev1 (f:Value→Option Value) (x:Option Value) (pf:PFr):Option (PF×PFr):=(x.bind fun a=>(f a).bind zd4).map fun y=>(.v y,pf)
def ev2 (f:Value→Value→Option Value) (x y:Option Value) (pf:PFr):Option (PF×PFr):=(x.bind fun a=>y.bind fun b=>(f a b).bind zd4).map fun y=>(.v y,pf)
def fin (x:Option Value) (pf:PFr):Option (PF×PFr):=(x.bind zd4).map fun y=>(.v y,pf)
@[go_sem] theorem zGz {f:Value→Option Value}{a:Value}:ev1 f (some a) pf=fin (f a) pf:=(rfl)
@[go_sem] theorem zIv {f:Value→Value→Option Value}{a b:Value}:ev2 f (some a) (some b) pf=fin (f a b) pf:=(rfl)
@[go_sem] theorem zE3 {b:Bool}:fin (some (.bool b)) pf=some (.v (.bool b),pf):=(rfl)
@[go_sem] theorem zJR {j:IntKind}{n:Int}:fin (some (.int j n)) pf=some (.v (.int j n),pf):=(rfl)
@[go_sem] theorem zIN {s:ByteArray}:fin (some (.string s)) pf=some (.v (.str s),pf):=(rfl)
theorem zgw {o:Oper}{x:Option (PF×PFr)}(h:(((zbb o.op).bind (zg7 pf)).bind fun vs=>(za5 P o.op vs).bind zd4).map (fun y=>(PF.v y,pf))=x):zd5 P co o (pw P c k Q) pf=qv P c co x o.dst k Q:=by
 subst h
 unfold zd5
 cases (zbb o.op).bind (zg7 pf)with
 |none=>rfl
 |some vs=>
  simp only[Option.bind_some]
  cases (za5 P o.op vs).bind zd4<;>rfl
@[go_sem ↓] theorem zGX {ty t:TypeId}{op:UnOp}{x:Operand}{d:Option Tmp}:pw1 P c co ty (.unOp op t x) d k Q pf=qv P c co (ev1 (unV op) (rdS pf x) pf) d k Q:=by
 refine zgw (o:=⟨d,.unOp op t x,ty, "",#[],none⟩) ?_
 simp only[zbb,zg7,Option.bind_some]
 cases rdS pf x<;>simp[za5,ev1]
theorem zoA {ty s t:TypeId}{x:Operand}{d:Tmp}(ht:zax P t=true) (hp:co.hp≠[]∨lsP pf x=true):pw1 P c co ty (.convert s t x) (some d) k Q pf=qv P c co (bsE P s pf x) (some d) k Q:=by
 show(if zax P t=true then(co.hp≠[]∨lsP pf x=true)∧zib P co s t x (some d) (pw P c k Q) pf else _)=_
 rw[if_pos ht]
 unfold zib qv
 cases bsE P s pf x with
 |none=>simp[hp]
 |some z=>simp[hp,ht]
@[go_sem ↓] theorem zHl {ty s t:TypeId}{x:Operand}{d:Tmp}(ht:zax P t=true) (hp:co.hp.isEmpty=false):pw1 P c co ty (.convert s t x) (some d) k Q pf=qv P c co (bsE P s pf x) (some d) k Q:=zoA ht (.inl fun e=>by rw[e]at hp;cases hp)
@[go_sem] theorem zHF {rows:List (List PV)}:znp (.ls 1 rows)=true:=(rfl)
@[go_sem ↓] theorem zDp {ty s t:TypeId}{u:Nat}{d:Tmp}(ht:zax P t=true) (hl:znp (pf u)=true):pw1 P c co ty (.convert s t (.tmp u)) (some d) k Q pf=qv P c co (bsE P s pf (.tmp u)) (some d) k Q:=zoA ht (.inr hl)
@[go_sem ↓] theorem zzW {ty s t:TypeId}{x:Operand}{d:Option Tmp}(ht:zax P t=false):pw1 P c co ty (.convert s t x) d k Q pf=qv P c co (ev1 (zlD P s t) (rdS pf x) pf) d k Q:=by
 have e:pw1 P c co ty (.convert s t x) d k Q pf=zd5 P co ⟨d,.convert s t x,ty, "",#[],none⟩ (pw P c k Q) pf:=by
  show(if zax P t=true then(co.hp≠[]∨lsP pf x=true)∧zib P co s t x d (pw P c k Q) pf else zd5 P co ⟨d,.convert s t x,ty, "",#[],none⟩ (pw P c k Q) pf)=_
  rw[if_neg (by simp[ht])]
 rw[e]
 refine zgw (o:=⟨d,.convert s t x,ty, "",#[],none⟩) ?_
 simp only[zbb,zg7,Option.bind_some]
 cases rdS pf x<;>simp[za5,ev1]
@[go_sem] theorem zCq {t:Tmp}:zgl (.tmp t)=false:=(rfl)
@[go_sem] theorem zBB {j:IntKind}{n:Int}:zgl (.const (.int j n))=false:=(rfl)
@[go_sem] theorem zz4 {b:Bool}:zgl (.const (.bool b))=false:=(rfl)
@[go_sem] theorem zAR {s:ByteArray}:zgl (.const (.string s))=false:=(rfl)
@[go_sem ↓] theorem zDW {ty t u:TypeId}{op:BinOp}{x y:Operand}{d:Option Tmp}(hy:zgl y=false):pw1 P c co ty (.binOp op t x y u) d k Q pf=qv P c co (ev2 (zbf P op t) (rdS pf x) (rdS pf y) pf) d k Q:=by
 have e:pw1 P c co ty (.binOp op t x y u) d k Q pf=zd5 P co ⟨d,.binOp op t x y u,ty, "",#[],none⟩ (pw P c k Q) pf:=by
  show pop P co ⟨d,.binOp op t x y u,ty, "",#[],none⟩ (pw P c k Q) pf=_
  simp only[pop,hy,Bool.false_eq_true,if_false]
 rw[e]
 refine zgw (o:=⟨d,.binOp op t x y u,ty, "",#[],none⟩) ?_
 simp only[zbb,zg7,Option.bind_some]
 cases rdS pf x<;>cases rdS pf y<;>simp[za5,ev2]
@[go_sem ↓] theorem zEr {ty t:TypeId}{x y:Operand}{d:Option Tmp}:pw1 P c co ty (.index t x y) d k Q pf=qv P c co (ev2 (zg5 P t) (rdS pf x) (rdS pf y) pf) d k Q:=by
 refine zgw (o:=⟨d,.index t x y,ty, "",#[],none⟩) ?_
 simp only[zbb,zg7,Option.bind_some]
 cases rdS pf x<;>cases rdS pf y<;>simp[za5,ev2]
@[go_sem ↓] theorem zKq {ty:TypeId}{x y:Operand}{ts:Array TypeId}{d:Option Tmp}:pw1 P c co ty (.call ⟨.builtin .min,#[x,y],ts⟩) d k Q pf=qv P c co (ev2 (zfB false) (rdS pf x) (rdS pf y) pf) d k Q:=by
 refine zgw (o:=⟨d,.call ⟨.builtin .min,#[x,y],ts⟩,ty, "",#[],none⟩) ?_
 simp only[zbb,zg7,Option.bind_some]
 cases rdS pf x<;>cases rdS pf y<;>simp[za5,ev2]
@[go_sem ↓] theorem zI4 {ty:TypeId}{x y:Operand}{ts:Array TypeId}{d:Option Tmp}:pw1 P c co ty (.call ⟨.builtin .max,#[x,y],ts⟩) d k Q pf=qv P c co (ev2 (zfB true) (rdS pf x) (rdS pf y) pf) d k Q:=by
 refine zgw (o:=⟨d,.call ⟨.builtin .max,#[x,y],ts⟩,ty, "",#[],none⟩) ?_
 simp only[zbb,zg7,Option.bind_some]
 cases rdS pf x<;>cases rdS pf y<;>simp[za5,ev2]
@[go_sem] theorem zHt {s d:TypeId}{i j k:IntKind}{n:Int}(hs:zc0 P s=some i) (hd:zc0 P d=some k):zlD P s d (.int j n)=some (.int k (k.wrap n)):=by
 unfold zlD
 have:∃u,P.underlying s=some u:=by
  unfold zc0 at hs;split at hs
  ·rename_i h;exact⟨_,h⟩
  ·cases hs
 obtain⟨u,hu⟩:=this
 rw[hu,hd]
@[go_sem] theorem zJX {j:IntKind}{t:TypeId}{a b:Int}:zbf P .add t (.int j a) (.int j b)=some (.int j (j.wrap (a+b))):=by simp[zbf,zcP]
@[go_sem] theorem zJc {j:IntKind}{t:TypeId}{a b:Int}:zbf P .sub t (.int j a) (.int j b)=some (.int j (j.wrap (a-b))):=by simp[zbf,zcP]
@[go_sem] theorem zJA {j:IntKind}{t:TypeId}{a b:Int}:zbf P .mul t (.int j a) (.int j b)=some (.int j (j.wrap (a*b))):=by simp[zbf,zcP]
def zi8 (b:Int) (x:Value):Option Value:=if b=0 then none else some x
@[go_sem] theorem zKP {j:IntKind}{t:TypeId}{a b:Int}:zbf P .quo t (.int j a) (.int j b)=zi8 b (.int j (j.wrap (a.tdiv b))):=by simp[zbf,zcP,zi8]
@[go_sem] theorem zKy {j:IntKind}{t:TypeId}{a b:Int}:zbf P .rem t (.int j a) (.int j b)=zi8 b (.int j (a.tmod b)):=by simp[zbf,zcP,zi8]
theorem zog {b:Int}{x:Value}(h:b≠0):zi8 b x=some x:=by simp[zi8,h]
@[go_sem] theorem zEN {x:Value}{n:Nat}:zi8 (OfNat.ofNat (n+1)) x=some x:=by
 refine zog ?_
 show((n+1:Nat):Int)≠0
 omega
@[go_sem] theorem zKc {j:IntKind}{t:TypeId}{a b:Int}:zbf P .eql t (.int j a) (.int j b)=some (.bool (a==b)):=by simp[zbf,zcP]
@[go_sem] theorem zJ8 {j:IntKind}{t:TypeId}{a b:Int}:zbf P .neq t (.int j a) (.int j b)=some (.bool (a !=b)):=by simp[zbf,zcP]
@[go_sem] theorem zLw {j:IntKind}{t:TypeId}{a b:Int}:zbf P .lss t (.int j a) (.int j b)=some (.bool (decide (a<b))):=by simp[zbf,zcP]
@[go_sem] theorem zIV {j:IntKind}{t:TypeId}{a b:Int}:zbf P .leq t (.int j a) (.int j b)=some (.bool (decide (a≤b))):=by simp[zbf,zcP]
@[go_sem] theorem zL2 {j:IntKind}{t:TypeId}{a b:Int}:zbf P .gtr t (.int j a) (.int j b)=some (.bool (decide (b<a))):=by simp[zbf,zcP]
@[go_sem] theorem zKo {j:IntKind}{t:TypeId}{a b:Int}:zbf P .geq t (.int j a) (.int j b)=some (.bool (decide (b≤a))):=by simp[zbf,zcP]
@[go_sem] theorem zL6 {j:IntKind}{t:TypeId}{a b:Int}:zbf P .and t (.int j a) (.int j b)=some (.int j (j.wrap (BitVec.ofInt j.bits a&&&BitVec.ofInt j.bits b).toNat)):=by simp[zbf,zcP]
@[go_sem] theorem zNg {j:IntKind}{t:TypeId}{a b:Int}:zbf P .or t (.int j a) (.int j b)=some (.int j (j.wrap (BitVec.ofInt j.bits a|||BitVec.ofInt j.bits b).toNat)):=by simp[zbf,zcP]
@[go_sem] theorem zLF {j:IntKind}{t:TypeId}{a b:Int}:zbf P .xor t (.int j a) (.int j b)=some (.int j (j.wrap (BitVec.ofInt j.bits a^^^BitVec.ofInt j.bits b).toNat)):=by simp[zbf,zcP]
def zmJ (b:Int) (x:Value):Option Value:=if b<0 then none else some x
@[go_sem] theorem zLd {j j':IntKind}{t:TypeId}{a b:Int}:zbf P .shl t (.int j a) (.int j' b)=zmJ b (.int j (j.wrap (a*2^min b.toNat j.bits))):=by simp[zbf,zmJ]
@[go_sem] theorem zJr {j j':IntKind}{t:TypeId}{a b:Int}:zbf P .shr t (.int j a) (.int j' b)=zmJ b (.int j (a.fdiv (2^min b.toNat j.bits))):=by simp[zbf,zmJ]
theorem zxu {b:Int}{x:Value}(h:0≤b):zmJ b x=some x:=by simp[zmJ];omega
@[go_sem] theorem zEU {t:TypeId}{a b:Bool}(h:zhs P t=true):zbf P .eql t (.bool a) (.bool b)=some (.bool (a==b)):=by simp[zbf,h]
@[go_sem] theorem zEO {t:TypeId}{a b:Bool}(h:zhs P t=true):zbf P .neq t (.bool a) (.bool b)=some (.bool (a !=b)):=by simp[zbf,h]
@[go_sem] theorem zGu {t:TypeId}{a b:List Value}{o:List Nat}(h:zlC P t=some o):zbf P .eql t (.agg a.toArray) (.agg b.toArray)=(eqL a b o).map .bool:=by simp[zbf,h]
@[go_sem] theorem zGC {t:TypeId}{a b:List Value}{o:List Nat}(h:zlC P t=some o):zbf P .neq t (.agg a.toArray) (.agg b.toArray)=(eqL a b o).map fun r=>.bool !r:=by simp[zbf,h]
@[go_sem] theorem zQx {j i:IntKind}{a b x y:Int}:eqL [.int j a,.int i b] [.int j x,.int i y] [0,1]=some (a==x&&b==y):=by simp[eqL]
@[go_sem] theorem zG6 {t:TypeId}{a b:ByteArray}:zbf P .eql t (.string a) (.string b)=some (.bool (a.toList==b.toList)):=(rfl)
@[go_sem] theorem zqO {t:TypeId}{a b:ByteArray}(h:a.size+b.size≤9223372036854775807):zbf P .add t (.string a) (.string b)=some (.string (a++b)):=by simp[zbf,h]
@[go_sem] theorem zQF {s:TypeId}{x:Operand}(h:zhd P s=true):bsE P s pf x=(srO 1 pf x).bind fun z=>(zhA z.1).map fun ns=>(.v (.str (zdM ns)),z.2):=by unfold bsE;rw[if_pos h]
@[go_sem] theorem zDS:zhA []=some []:=(rfl)
@[go_sem] theorem zs2 {n:Int}{rs:List (List PV)}:zhA ([.int .u8 n]::rs)=(zhA rs).map (n:: ·):=(rfl)
@[go_sem] theorem zD5 {f:Int→List PV}(h:∀x,f x=[.int .u8 x]) {l:List Int}:zhA (l.map f)=some l:=by
 induction l with
 |nil=>rfl
 |cons x l ih=>rw[List.map_cons,h,zs2,ih];rfl
@[go_sem] theorem zGA {t:TypeId}{a b:ByteArray}:zbf P .neq t (.string a) (.string b)=some (.bool !(a.toList==b.toList)):=(rfl)
@[go_sem] theorem zNs {b:Bool}:unV .not (.bool b)=some (.bool !b):=(rfl)
@[go_sem] theorem zOf {j:IntKind}{n:Int}:unV .neg (.int j n)=some (.int j (j.wrap (0-n))):=(rfl)
@[go_sem] theorem zCy {j:IntKind}{a b:Int}:zfB true (.int j a) (.int j b)=some (.int j (if a<b then b else a)):=by simp[zfB]
@[go_sem] theorem zB6 {j:IntKind}{a b:Int}:zfB false (.int j a) (.int j b)=some (.int j (if b<a then b else a)):=by simp[zfB]
end
end Go.Pm
