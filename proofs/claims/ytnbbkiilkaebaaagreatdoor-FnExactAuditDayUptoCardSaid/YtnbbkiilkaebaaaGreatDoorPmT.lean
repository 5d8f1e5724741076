import Derived.Test.YtnbbkiilkaebaaaGreatDoorPmS
namespace Go.Pm
open Go.Am
section
variable {P:Program}{c co:Cfg}{k:List PIt}{Q:Exit→PFr→Prop}{pf:PFr}
@[go_sem] theorem zLD {a:Nat}{b f h:List Nat}:Cfg.nohp ⟨a,b,f,h⟩=⟨a,b,f,[]⟩:=(rfl)
@[go_sem ↓] theorem zEl {id:Nat}{ops:List Oper}:pw P c (.code (.region id ops.toArray false)::k) Q pf=pw P c (.ops (ops.map (·.dst)) ops::k) Q pf:=by
 show pwp P c (.region id ops.toArray false) (zbJ P c k Q) pf=_
 simp only[pwp,Bool.false_eq_true,if_false]
 rfl
@[go_sem ↓] theorem zC4 {pre:List (Option Tmp)}:pw P c (.ops pre []::k) Q pf=pw P c k Q pf:=rfl
def pw1 (P:Program) (c co:Cfg) (ty:TypeId) (op:Op) (d:Option Tmp) (k:List PIt) (Q:Exit→PFr→Prop) (pf:PFr):Prop:=pop P co ⟨d,op,ty, "",#[],none⟩ (pw P c k Q) pf
theorem zvD {o o':Oper}{K:PFr→Prop}(h:o.op=o'.op) (hd:o.dst=o'.dst) (ht:o.type=o'.type):pop P c o K pf=pop P c o' K pf:=by
 obtain⟨d,op,ty,ps,af,g⟩:=o
 obtain⟨d',op',ty',ps',af',g'⟩:=o'
 simp only at h hd ht
 subst h;subst hd;subst ht
 rfl
@[go_sem ↓] theorem zQT {pre:List (Option Tmp)}{d:Option Tmp}{op:Op}{ty:TypeId}{ps:String}{af:Array Edge}{l:List Oper}:
 pw P c (.ops pre (⟨d,op,ty,ps,af,none⟩::l)::k) Q pf=pw1 P c c ty op d (.ops pre l::k) Q pf:=by
 show zln P c pre ⟨d,op,ty,ps,af,none⟩ (pw P c (.ops pre l::k) Q) pf=_
 simp only[zln]
 exact zvD rfl rfl rfl
def pwg (P:Program) (c:Cfg) (y:Option (Option Bool)) (b:Bool) (ty:TypeId) (op:Op) (d:Option Tmp) (k:List PIt) (Q:Exit→PFr→Prop) (pf:PFr):Prop:=
 pgo c b d (pw1 P c c ty op d k Q pf) (pw P c k Q) pf y
theorem zur {y y':Option (Option Bool)}{b:Bool}{ty:TypeId}{op:Op}{d:Option Tmp}(h:y=y'):pwg P c y b ty op d k Q pf=pwg P c y' b ty op d k Q pf:=by rw[h]
@[go_sem ↓] theorem zNH {pre:List (Option Tmp)}{d:Option Tmp}{op:Op}{ty:TypeId}{ps:String}{af:Array Edge}{j:Nat}{b:Bool}{l:List Oper}:
 pw P c (.ops pre (⟨d,op,ty,ps,af,some (j,b)⟩::l)::k) Q pf=pwg P c (ygP pf pre[j]?) b ty op d (.ops pre l::k) Q pf:=by
 show zln P c pre ⟨d,op,ty,ps,af,some (j,b)⟩ (pw P c (.ops pre l::k) Q) pf=_
 simp only[zln]
 unfold pwg pw1
 rw[zvD (o:=⟨d,op,ty,ps,af,some (j,b)⟩) (o':=⟨d,op,ty, "",#[],none⟩) rfl rfl rfl]
@[go_sem] theorem zIc {d:Tmp}:ygP pf (some (some d))=ygV (pf d):=(rfl)
@[go_sem] theorem zIv {b:Bool}:ygV (.v (.bool b))=some (some b):=(rfl)
@[go_sem] theorem zHL:ygV .skip=some none:=(rfl)
@[go_sem ↓] theorem zOZ {ty:TypeId}{op:Op}{d:Option Tmp}:pwg P c (some (some true)) true ty op d k Q pf=pw1 P c c ty op d k Q pf:=by simp[pwg,pgo]
@[go_sem ↓] theorem zNe {ty:TypeId}{op:Op}{d:Option Tmp}:pwg P c (some (some false)) false ty op d k Q pf=pw1 P c c ty op d k Q pf:=by simp[pwg,pgo]
@[go_sem ↓] theorem zNJ {ty:TypeId}{op:Op}{d:Tmp}(h:ckd c d .skip=true):pwg P c (some (some true)) false ty op (some d) k Q pf=pw P c k Q (pf.put d .skip):=by simp[pwg,pgo,zhQ,h]
@[go_sem ↓] theorem zO5 {ty:TypeId}{op:Op}{d:Tmp}(h:ckd c d .skip=true):pwg P c (some (some false)) true ty op (some d) k Q pf=pw P c k Q (pf.put d .skip):=by simp[pwg,pgo,zhQ,h]
@[go_sem ↓] theorem zRg {b:Bool}{ty:TypeId}{op:Op}{d:Tmp}(h:ckd c d .skip=true):pwg P c (some none) b ty op (some d) k Q pf=pw P c k Q (pf.put d .skip):=by simp[pwg,pgo,zhQ,h]
theorem zuN {y b:Bool}{ty:TypeId}{op:Op}{d:Option Tmp}(h1:y=true→pwg P c (some (some true)) b ty op d k Q pf) (h2:y=false→pwg P c (some (some false)) b ty op d k Q pf):pwg P c (some (some y)) b ty op d k Q pf:=by
 cases y
 ·exact h2 rfl
 ·exact h1 rfl
def qv (P:Program) (c co:Cfg) (x:Option (PF×PFr)) (d:Option Tmp) (k:List PIt) (Q:Exit→PFr→Prop):Prop:=
 match x with
 |some a=>zbs co (pw P c k Q) d a.1 a.2
 |none=>False
def qz (P:Program) (c:Cfg) (d:Nat) (k:List PIt) (Q:Exit→PFr→Prop) (x:Option (PF×PFr)):Prop:=pfz (pw P c k Q) d x
theorem zwT {x x':Option (PF×PFr)}{d:Option Tmp}(h:x=x'):qv P c co x d k Q=qv P c co x' d k Q:=by rw[h]
theorem zwX {x x':Option (PF×PFr)}{d:Nat}(h:x=x'):qz P c d k Q x=qz P c d k Q x':=by rw[h]
@[go_sem ↓] theorem zLc {y:PF}{d:Tmp}(h:ckd co d y=true) (hf:co.fz.contains d=false):qv P c co (some (y,pf)) (some d) k Q=pw P c k Q (pf.put d y):=by simp only[qv,zbs,h,hf];simp
@[go_sem ↓] theorem zPN {y:PF}{d:Tmp}(h:ckd co d y=true) (hf:co.fz.contains d=true):qv P c co (some (y,pf)) (some d) k Q=qz P c d k Q (zjw pf y):=by simp only[qv,zbs,h,hf];simp[qz]
@[go_sem ↓] theorem zOP {y:PF}:qv P c co (some (y,pf)) none k Q=pw P c k Q pf:=rfl
@[go_sem ↓] theorem zLU {y:PF}{d:Nat}:qz P c d k Q (some (y,pf))=pw P c k Q (pf.put d y):=rfl
def qf (P:Program) (c:Cfg) (x:Option PFr) (k:List PIt) (Q:Exit→PFr→Prop):Prop:=
 match x with
 |some pf=>pw P c k Q pf
 |none=>False
theorem zwy {x x':Option PFr}(h:x=x'):qf P c x k Q=qf P c x' k Q:=by rw[h]
@[go_sem ↓] theorem zMz:qf P c (some pf) k Q=pw P c k Q pf:=rfl
attribute [congr] zvR zur zwT zwX zwy
@[go_sem] theorem zNr {d:Nat}{y:PF}:ckd c d y=(decide (d<c.nt)&& !c.io.contains d&& !(zai y==some d)):=(rfl)
@[go_sem] theorem zJ6 {x:PV}:zai (.v x)=none:=(rfl)
@[go_sem] theorem zCe:zai .skip=none:=(rfl)
@[go_sem] theorem zGN {es:Nat}{r:List (List PV)}:zai (.ls es r)=none:=(rfl)
@[go_sem] theorem zGM {r:List PV}:zai (.bl r)=none:=(rfl)
@[go_sem] theorem zIO {s i j:Nat}{p:zab}:zai (.pt s p i j)=some s:=(rfl)
@[go_sem] theorem zIV {s:Nat}{p:zab}:zai (.rf s p)=some s:=(rfl)
@[go_sem] theorem zFG {s lo hi:Nat}{p:zab}:zai (.rv s p lo hi)=some s:=(rfl)
@[go_sem] theorem zHS {b:Bool}{s i j n:Nat}{p:zab}:zai (.as b s p i j n)=some s:=(rfl)
@[go_sem] theorem zFw {s:Nat}{g:FuncId}{us:List PV}:zai (.cl s g us)=some s:=(rfl)
@[go_sem] theorem zGU {s i j n:Nat}{p:zab}:zai (.ra s p i j n)=some s:=(rfl)
@[go_sem] theorem zJR {d t:Nat}{x:PF}:PFr.put pf d x t=if t=d then x else zbL d (pf t):=(rfl)
@[go_sem] theorem zKp {d t:Nat}{x:PF}:PFr.upd pf d x t=if t=d then x else pf t:=(rfl)
@[go_sem] theorem zG7 {s n t:Nat}:PFr.kill pf s n t=zaO s n (pf t):=(rfl)
@[go_sem] theorem zMD {d:Nat}{x:PV}:zbL d (.v x)=.v x:=(rfl)
@[go_sem] theorem zDo {d:Nat}:zbL d .skip=.skip:=(rfl)
@[go_sem] theorem zFi {d es:Nat}{r:List (List PV)}:zbL d (.ls es r)=.ls es r:=(rfl)
@[go_sem] theorem zG0 {d:Nat}{r:List PV}:zbL d (.bl r)=.bl r:=(rfl)
@[go_sem] theorem zHF {d s i j:Nat}{p:zab}:zbL d (.pt s p i j)=if s=d then jP else .pt s p i j:=by simp[zbL,zai]
@[go_sem] theorem zJk {d s:Nat}{p:zab}:zbL d (.rf s p)=if s=d then jP else .rf s p:=by simp[zbL,zai]
@[go_sem] theorem zIQ {d s lo hi:Nat}{p:zab}:zbL d (.rv s p lo hi)=if s=d then jP else .rv s p lo hi:=by simp[zbL,zai]
@[go_sem] theorem zF0 {b:Bool}{d s i j n:Nat}{p:zab}:zbL d (.as b s p i j n)=if s=d then jP else .as b s p i j n:=by simp[zbL,zai]
@[go_sem] theorem zFb {d s:Nat}{g:FuncId}{us:List PV}:zbL d (.cl s g us)=if s=d then jP else .cl s g us:=by simp[zbL,zai]
@[go_sem] theorem zHz {d s i j n:Nat}{p:zab}:zbL d (.ra s p i j n)=if s=d then jP else .ra s p i j n:=by simp[zbL,zai]
@[go_sem] theorem zLQ {d:Nat}:zbL d jP=jP:=(rfl)
@[go_sem] theorem zKw {s n:Nat}{x:PV}:zaO s n (.v x)=.v x:=by simp[zaO,zai]
@[go_sem] theorem zCL {s n:Nat}:zaO s n .skip=.skip:=by simp[zaO,zai]
@[go_sem] theorem zIW {s n es:Nat}{r:List (List PV)}:zaO s n (.ls es r)=.ls es r:=by simp[zaO,zai]
@[go_sem] theorem zFN {s n:Nat}{r:List PV}:zaO s n (.bl r)=.bl r:=by simp[zaO,zai]
@[go_sem] theorem zGm {s n s' i j:Nat}{p:zab}:zaO s n (.pt s' p i j)=if s'=s∧n≤p.length then jP else .pt s' p i j:=by simp[zaO,zai,zfy]
@[go_sem] theorem zGV {s n s':Nat}{p:zab}:zaO s n (.rf s' p)=if s'=s∧n≤p.length then jP else .rf s' p:=by simp[zaO,zai,zfy]
@[go_sem] theorem zIn {s n s' lo hi:Nat}{p:zab}:zaO s n (.rv s' p lo hi)=if s'=s∧n≤p.length then jP else .rv s' p lo hi:=by simp[zaO,zai,zfy]
@[go_sem] theorem zHm {b:Bool}{s n s' i j m:Nat}{p:zab}:zaO s n (.as b s' p i j m)=if s'=s∧n≤p.length+1 then jP else .as b s' p i j m:=by simp[zaO,zai,zfy]
@[go_sem] theorem zIp {s n s':Nat}{g:FuncId}{us:List PV}:zaO s n (.cl s' g us)=if s'=s∧n≤0 then jP else .cl s' g us:=by simp[zaO,zai,zfy]
@[go_sem] theorem zHc {s n s' i j m:Nat}{p:zab}:zaO s n (.ra s' p i j m)=if s'=s∧n≤p.length+1 then jP else .ra s' p i j m:=by simp[zaO,zai,zfy]
@[go_sem] theorem zM2 {s n:Nat}:zaO s n jP=jP:=by simp[zaO,zai,jP]
@[go_sem] theorem zI2 {s:Nat}{x:PF}{l:List (Nat×PF)}{t:Nat}:PFr.ofL ((s,x)::l) t=if t=s then x else PFr.ofL l t:=(rfl)
@[go_sem] theorem zKe {t:Nat}:PFr.ofL [] t=jP:=(rfl)
@[go_sem] theorem zEs {as:List (Md×PV)}{t:Nat}:zgJ as t=zod as[t]? :=(rfl)
@[go_sem] theorem zE5 {m:Md}{x:PV}:zod (some (m,x))=.v x:=(rfl)
@[go_sem] theorem zER:zod none=jP:=(rfl)
@[go_sem] theorem zQV:isJ .junk=true:=(rfl)
@[go_sem] theorem zIY {b:Bool}:isJ (.bool b)=false:=(rfl)
@[go_sem] theorem zJD {j:IntKind}{n:Int}:isJ (.int j n)=false:=(rfl)
@[go_sem] theorem zL0 {s:ByteArray}:isJ (.str s)=false:=(rfl)
@[go_sem] theorem zOw {o:Bool}{es:Nat}{r:List (List PV)}:isJ (.sl o es r)=false:=(rfl)
@[go_sem] theorem zNO {r:List PV}:isJ (.fp r)=false:=(rfl)
@[go_sem] theorem zNX {r:List PV}:isJ (.bx r)=false:=(rfl)
@[go_sem] theorem zIM {f:Fn}{a b:List PV}:isJ (.func f a b)=false:=(rfl)
@[go_sem] theorem zK6 {r:List PV}:isJ (.agg r)=false:=(rfl)
@[go_sem] theorem zJI {r:List PV}:isJ (.tup r)=false:=(rfl)
@[go_sem] theorem zF9:isJ .nilf=false:=(rfl)
@[go_sem] theorem zHK:isJ .nilp=false:=(rfl)
@[go_sem] theorem zGs:isJ .nili=false:=(rfl)
@[go_sem] theorem zOT:zaw .junk=false:=by simp[zaw]
@[go_sem] theorem zEg {b:Bool}:zaw (.bool b)=false:=by simp[zaw]
@[go_sem] theorem zHl {j:IntKind}{n:Int}:zaw (.int j n)=false:=by simp[zaw]
@[go_sem] theorem zGK {s:ByteArray}:zaw (.str s)=false:=by simp[zaw]
@[go_sem] theorem zKN {r:List PV}:zaw (.fp r)=false:=by simp[zaw]
@[go_sem] theorem zD3 {f:Fn}{a b:List PV}:zaw (.func f a b)=false:=by simp[zaw]
@[go_sem] theorem zEK:zaw .nilf=false:=by simp[zaw]
@[go_sem] theorem zEc:zaw .nilp=false:=by simp[zaw]
@[go_sem] theorem zDU:zaw .nili=false:=by simp[zaw]
attribute [go_sem] ziA zsz zgL zqS zhD zor zmU zqO zmK zqq zoR zoO
@[go_sem] theorem zNm:drop .junk=.junk:=by simp[drop]
@[go_sem] theorem zEb {b:Bool}:drop (.bool b)=.bool b:=by simp[drop]
@[go_sem] theorem zFD {j:IntKind}{n:Int}:drop (.int j n)=.int j n:=by simp[drop]
@[go_sem] theorem zGW {s:ByteArray}:drop (.str s)=.str s:=by simp[drop]
@[go_sem] theorem zMK {r:List PV}:drop (.fp r)=.fp r:=by simp[drop]
@[go_sem] theorem zEw {f:Fn}{a b:List PV}:drop (.func f a b)=.func f a b:=by simp[drop]
@[go_sem] theorem zEm:drop .nilf=.nilf:=by simp[drop]
@[go_sem] theorem zEZ:drop .nilp=.nilp:=by simp[drop]
@[go_sem] theorem zEQ:drop .nili=.nili:=by simp[drop]
@[go_sem] theorem zKQ:zaP .junk=true:=by simp[zaP]
@[go_sem] theorem zBx {b:Bool}:zaP (.bool b)=true:=by simp[zaP]
@[go_sem] theorem zDQ {j:IntKind}{n:Int}:zaP (.int j n)=true:=by simp[zaP]
@[go_sem] theorem zE3 {s:ByteArray}:zaP (.str s)=true:=by simp[zaP]
@[go_sem] theorem zFr {r:List PV}:zaP (.fp r)=false:=by simp[zaP]
@[go_sem] theorem zBb {f:Fn}{a b:List PV}:zaP (.func f a b)=false:=by simp[zaP]
@[go_sem] theorem zCb:zaP .nilf=true:=by simp[zaP]
@[go_sem] theorem zAW {j:IntKind}{n:Int}:zfi (.int j n)=true:=(rfl)
@[go_sem] theorem zAy {b:Bool}:zfi (.bool b)=true:=(rfl)
@[go_sem] theorem zDg {s:ByteArray}:zfi (.str s)=true:=(rfl)
@[go_sem] theorem zE0 {o:Bool}{es:Nat}{r:List (List PV)}:zfi (.sl o es r)=true:=(rfl)
@[go_sem] theorem zEp {r:List PV}:zfi (.bx r)=true:=(rfl)
@[go_sem] theorem zEN {r:List PV}:zfi (.fp r)=true:=(rfl)
@[go_sem] theorem zAR {f:Fn}{a b:List PV}:zfi (.func f a b)=true:=(rfl)
@[go_sem] theorem zAG {j:IntKind}{n:Int}:zbT (.int j n)=true:=(rfl)
@[go_sem] theorem zAk {b:Bool}:zbT (.bool b)=true:=(rfl)
@[go_sem] theorem zAA {s:ByteArray}:zbT (.str s)=true:=(rfl)
@[go_sem] theorem zC7 {o:Bool}{es:Nat}{r:List (List PV)}:zbT (.sl o es r)=true:=(rfl)
@[go_sem] theorem zAB {r:List PV}:zbT (.agg r)=true:=(rfl)
@[go_sem] theorem zBB {r:List PV}:zbT (.bx r)=true:=(rfl)
@[go_sem] theorem zDq {r:List PV}:zbT (.fp r)=true:=(rfl)
@[go_sem] theorem zzt {f:Fn}{a b:List PV}:zbT (.func f a b)=true:=(rfl)
@[go_sem] theorem zCw {j:IntKind}{n:Int}:zas (.int j n)=[.int j n]:=(rfl)
@[go_sem] theorem zAQ {b:Bool}:zas (.bool b)=[.bool b]:=(rfl)
@[go_sem] theorem zC9 {s:ByteArray}:zas (.str s)=[.str s]:=(rfl)
@[go_sem] theorem zE4 {o:Bool}{es:Nat}{r:List (List PV)}:zas (.sl o es r)=[.sl o es r]:=(rfl)
@[go_sem] theorem zCQ {r:List PV}:zas (.agg r)=r:=(rfl)
@[go_sem] theorem zEG {r:List PV}:zas (.bx r)=[.bx r]:=(rfl)
@[go_sem] theorem zD7 {r:List PV}:zas (.fp r)=[.fp r]:=(rfl)
@[go_sem] theorem zAv {f:Fn}{a b:List PV}:zas (.func f a b)=[.func f a b]:=(rfl)
@[go_sem] theorem zEV {e:Nat}{b:Bool}:zgd e (.bool b)=.bool b:=(rfl)
@[go_sem] theorem zFF {e:Nat}{j:IntKind}{n:Int}:zgd e (.int j n)=.int j n:=(rfl)
@[go_sem] theorem zIP {e:Nat}{s:ByteArray}:zgd e (.string s)=.str s:=(rfl)
@[go_sem] theorem zGq {e:Nat}:zgd e (.slice none 0 0)=.sl true e []:=(rfl)
@[go_sem] theorem zEq {e:Nat}:zgd e .nilFunc=.nilf:=(rfl)
@[go_sem] theorem zJ9 {j:IntKind}{n:Int}:zaj (.int j n)=true:=(rfl)
@[go_sem] theorem zHf {b:Bool}:zaj (.bool b)=true:=(rfl)
@[go_sem] theorem zKs {b:ByteArray}:zaj (.string b)=true:=(rfl)
@[go_sem] theorem zMj:zaj (.slice none 0 0)=true:=(rfl)
@[go_sem] theorem zGy:zaj .nilFunc=true:=(rfl)
@[go_sem] theorem zKk {t:Tmp}:rdS pf (.tmp t)=zn8 (pf t):=(rfl)
@[go_sem] theorem zOt {x:PV}:zn8 (.v x)=toS x:=(rfl)
@[go_sem] theorem zEo:zn8 .skip=none:=(rfl)
@[go_sem] theorem zFs {b:Bool}:toS (.bool b)=some (.bool b):=(rfl)
@[go_sem] theorem zJB {j:IntKind}{n:Int}:toS (.int j n)=some (.int j n):=(rfl)
@[go_sem] theorem zKK {s:ByteArray}:toS (.str s)=some (.string s):=(rfl)
@[go_sem] theorem zLz {l:List PV}:toS (.agg l)=(zkE l).map fun l=>.agg l.toArray:=(rfl)
@[go_sem] theorem zGp:zkE []=some []:=(rfl)
@[go_sem] theorem zHq {j:IntKind}{n:Int}{r:List PV}:zkE (.int j n::r)=(zkE r).map fun l=>.int j n::l:=(rfl)
@[go_sem] theorem zLe {j:IntKind}{n:Int}:rdS pf (.const (.int j n))=some (.int j n):=(rfl)
@[go_sem] theorem zHv {b:Bool}:rdS pf (.const (.bool b))=some (.bool b):=(rfl)
@[go_sem] theorem zJC {b:ByteArray}:rdS pf (.const (.string b))=some (.string b):=(rfl)
@[go_sem] theorem zB3 {b:Bool}:zeh (.bool b)=some (.bool b):=(rfl)
@[go_sem] theorem zDO {j:IntKind}{n:Int}:zeh (.int j n)=some (.int j n):=(rfl)
@[go_sem] theorem zDY {s:ByteArray}:zeh (.string s)=some (.str s):=(rfl)
def ev1 (f:Value→Option Value) (x:Option Value) (pf:PFr):Option (PF×PFr):=(x.bind fun a=>(f a).bind zeh).map fun y=>(.v y,pf)
def ev2 (f:Value→Value→Option Value) (x y:Option Value) (pf:PFr):Option (PF×PFr):=(x.bind fun a=>y.bind fun b=>(f a b).bind zeh).map fun y=>(.v y,pf)
def fin (x:Option Value) (pf:PFr):Option (PF×PFr):=(x.bind zeh).map fun y=>(.v y,pf)
@[go_sem] theorem zHA {f:Value→Option Value}{a:Value}:ev1 f (some a) pf=fin (f a) pf:=(rfl)
@[go_sem] theorem zHh {f:Value→Value→Option Value}{a b:Value}:ev2 f (some a) (some b) pf=fin (f a b) pf:=(rfl)
@[go_sem] theorem zIq {b:Bool}:fin (some (.bool b)) pf=some (.v (.bool b),pf):=(rfl)
@[go_sem] theorem zMO {j:IntKind}{n:Int}:fin (some (.int j n)) pf=some (.v (.int j n),pf):=(rfl)
@[go_sem] theorem zJZ {s:ByteArray}:fin (some (.string s)) pf=some (.v (.str s),pf):=(rfl)
theorem zgU {o:Oper}{x:Option (PF×PFr)}(h:(((zbc o.op).bind (zhg pf)).bind fun vs=>(za7 P o.op vs).bind zeh).map (fun y=>(PF.v y,pf))=x):zei P co o (pw P c k Q) pf=qv P c co x o.dst k Q:=by
 subst h
 unfold zei
 cases (zbc o.op).bind (zhg pf)with
 |none=>rfl
 |some vs=>
  simp only[Option.bind_some]
  cases (za7 P o.op vs).bind zeh<;>rfl
@[go_sem ↓] theorem zFE {ty t:TypeId}{op:UnOp}{x:Operand}{d:Option Tmp}:pw1 P c co ty (.unOp op t x) d k Q pf=qv P c co (ev1 (unV op) (rdS pf x) pf) d k Q:=by
 refine zgU (o:=⟨d,.unOp op t x,ty, "",#[],none⟩) ?_
 simp only[zbc,zhg,Option.bind_some]
 cases rdS pf x<;>simp[za7,ev1]
theorem zo4 {ty s t:TypeId}{x:Operand}{d:Tmp}(ht:zay P t=true) (hp:co.hp≠[]∨lsP pf x=true):pw1 P c co ty (.convert s t x) (some d) k Q pf=qv P c co (bsE P s pf x) (some d) k Q:=by
 show(if zay P t=true then(co.hp≠[]∨lsP pf x=true)∧ziq P co s t x (some d) (pw P c k Q) pf else _)=_
 rw[if_pos ht]
 unfold ziq qv
 cases bsE P s pf x with
 |none=>simp[hp]
 |some z=>simp[hp,ht]
@[go_sem ↓] theorem zGL {ty s t:TypeId}{x:Operand}{d:Tmp}(ht:zay P t=true) (hp:co.hp.isEmpty=false):pw1 P c co ty (.convert s t x) (some d) k Q pf=qv P c co (bsE P s pf x) (some d) k Q:=zo4 ht (.inl fun e=>by rw[e]at hp;cases hp)
@[go_sem] theorem zFK {rows:List (List PV)}:zny (.ls 1 rows)=true:=(rfl)
@[go_sem ↓] theorem zEf {ty s t:TypeId}{u:Nat}{d:Tmp}(ht:zay P t=true) (hl:zny (pf u)=true):pw1 P c co ty (.convert s t (.tmp u)) (some d) k Q pf=qv P c co (bsE P s pf (.tmp u)) (some d) k Q:=zo4 ht (.inr hl)
@[go_sem ↓] theorem zAx {ty s t:TypeId}{x:Operand}{d:Option Tmp}(ht:zay P t=false):pw1 P c co ty (.convert s t x) d k Q pf=qv P c co (ev1 (zlS P s t) (rdS pf x) pf) d k Q:=by
 have e:pw1 P c co ty (.convert s t x) d k Q pf=zei P co ⟨d,.convert s t x,ty, "",#[],none⟩ (pw P c k Q) pf:=by
  show(if zay P t=true then(co.hp≠[]∨lsP pf x=true)∧ziq P co s t x d (pw P c k Q) pf else zei P co ⟨d,.convert s t x,ty, "",#[],none⟩ (pw P c k Q) pf)=_
  rw[if_neg (by simp[ht])]
 rw[e]
 refine zgU (o:=⟨d,.convert s t x,ty, "",#[],none⟩) ?_
 simp only[zbc,zhg,Option.bind_some]
 cases rdS pf x<;>simp[za7,ev1]
@[go_sem] theorem zCq {t:Tmp}:zgB (.tmp t)=false:=(rfl)
@[go_sem] theorem zBK {j:IntKind}{n:Int}:zgB (.const (.int j n))=false:=(rfl)
@[go_sem] theorem zAL {b:Bool}:zgB (.const (.bool b))=false:=(rfl)
@[go_sem] theorem zBj {s:ByteArray}:zgB (.const (.string s))=false:=(rfl)
@[go_sem ↓] theorem zE7 {ty t u:TypeId}{op:BinOp}{x y:Operand}{d:Option Tmp}(hy:zgB y=false):pw1 P c co ty (.binOp op t x y u) d k Q pf=qv P c co (ev2 (zbh P op t) (rdS pf x) (rdS pf y) pf) d k Q:=by
 have e:pw1 P c co ty (.binOp op t x y u) d k Q pf=zei P co ⟨d,.binOp op t x y u,ty, "",#[],none⟩ (pw P c k Q) pf:=by
  show pop P co ⟨d,.binOp op t x y u,ty, "",#[],none⟩ (pw P c k Q) pf=_
  simp only[pop,hy,Bool.false_eq_true,if_false]
 rw[e]
 refine zgU (o:=⟨d,.binOp op t x y u,ty, "",#[],none⟩) ?_
 simp only[zbc,zhg,Option.bind_some]
 cases rdS pf x<;>cases rdS pf y<;>simp[za7,ev2]
@[go_sem ↓] theorem zEa {ty t:TypeId}{x y:Operand}{d:Option Tmp}:pw1 P c co ty (.index t x y) d k Q pf=qv P c co (ev2 (zhk P t) (rdS pf x) (rdS pf y) pf) d k Q:=by
 refine zgU (o:=⟨d,.index t x y,ty, "",#[],none⟩) ?_
 simp only[zbc,zhg,Option.bind_some]
 cases rdS pf x<;>cases rdS pf y<;>simp[za7,ev2]
@[go_sem ↓] theorem zJW {ty:TypeId}{x y:Operand}{ts:Array TypeId}{d:Option Tmp}:pw1 P c co ty (.call ⟨.builtin .min,#[x,y],ts⟩) d k Q pf=qv P c co (ev2 (zfY false) (rdS pf x) (rdS pf y) pf) d k Q:=by
 refine zgU (o:=⟨d,.call ⟨.builtin .min,#[x,y],ts⟩,ty, "",#[],none⟩) ?_
 simp only[zbc,zhg,Option.bind_some]
 cases rdS pf x<;>cases rdS pf y<;>simp[za7,ev2]
@[go_sem ↓] theorem zKu {ty:TypeId}{x y:Operand}{ts:Array TypeId}{d:Option Tmp}:pw1 P c co ty (.call ⟨.builtin .max,#[x,y],ts⟩) d k Q pf=qv P c co (ev2 (zfY true) (rdS pf x) (rdS pf y) pf) d k Q:=by
 refine zgU (o:=⟨d,.call ⟨.builtin .max,#[x,y],ts⟩,ty, "",#[],none⟩) ?_
 simp only[zbc,zhg,Option.bind_some]
 cases rdS pf x<;>cases rdS pf y<;>simp[za7,ev2]
@[go_sem] theorem zHi {s d:TypeId}{i j k:IntKind}{n:Int}(hs:zde P s=some i) (hd:zde P d=some k):zlS P s d (.int j n)=some (.int k (k.wrap n)):=by
 unfold zlS
 have:∃u,P.underlying s=some u:=by
  unfold zde at hs;split at hs
  ·rename_i h;exact⟨_,h⟩
  ·cases hs
 obtain⟨u,hu⟩:=this
 rw[hu,hd]
@[go_sem] theorem zMW {j:IntKind}{t:TypeId}{a b:Int}:zbh P .add t (.int j a) (.int j b)=some (.int j (j.wrap (a+b))):=by simp[zbh,zc3]
@[go_sem] theorem zMe {j:IntKind}{t:TypeId}{a b:Int}:zbh P .sub t (.int j a) (.int j b)=some (.int j (j.wrap (a-b))):=by simp[zbh,zc3]
@[go_sem] theorem zJO {j:IntKind}{t:TypeId}{a b:Int}:zbh P .mul t (.int j a) (.int j b)=some (.int j (j.wrap (a*b))):=by simp[zbh,zc3]
def zjB (b:Int) (x:Value):Option Value:=if b=0 then none else some x
@[go_sem] theorem zJY {j:IntKind}{t:TypeId}{a b:Int}:zbh P .quo t (.int j a) (.int j b)=zjB b (.int j (j.wrap (a.tdiv b))):=by simp[zbh,zc3,zjB]
@[go_sem] theorem zJ8 {j:IntKind}{t:TypeId}{a b:Int}:zbh P .rem t (.int j a) (.int j b)=zjB b (.int j (a.tmod b)):=by simp[zbh,zc3,zjB]
theorem zoh {b:Int}{x:Value}(h:b≠0):zjB b x=some x:=by simp[zjB,h]
@[go_sem] theorem zGn {x:Value}{n:Nat}:zjB (OfNat.ofNat (n+1)) x=some x:=by
 refine zoh ?_
 show((n+1:Nat):Int)≠0
 omega
@[go_sem] theorem zKI {j:IntKind}{t:TypeId}{a b:Int}:zbh P .eql t (.int j a) (.int j b)=some (.bool (a==b)):=by simp[zbh,zc3]
@[go_sem] theorem zJ0 {j:IntKind}{t:TypeId}{a b:Int}:zbh P .neq t (.int j a) (.int j b)=some (.bool (a !=b)):=by simp[zbh,zc3]
@[go_sem] theorem zKt {j:IntKind}{t:TypeId}{a b:Int}:zbh P .lss t (.int j a) (.int j b)=some (.bool (decide (a<b))):=by simp[zbh,zc3]
@[go_sem] theorem zLo {j:IntKind}{t:TypeId}{a b:Int}:zbh P .leq t (.int j a) (.int j b)=some (.bool (decide (a≤b))):=by simp[zbh,zc3]
@[go_sem] theorem zJL {j:IntKind}{t:TypeId}{a b:Int}:zbh P .gtr t (.int j a) (.int j b)=some (.bool (decide (b<a))):=by simp[zbh,zc3]
@[go_sem] theorem zJz {j:IntKind}{t:TypeId}{a b:Int}:zbh P .geq t (.int j a) (.int j b)=some (.bool (decide (b≤a))):=by simp[zbh,zc3]
@[go_sem] theorem zKO {j:IntKind}{t:TypeId}{a b:Int}:zbh P .and t (.int j a) (.int j b)=some (.int j (j.wrap (BitVec.ofInt j.bits a&&&BitVec.ofInt j.bits b).toNat)):=by simp[zbh,zc3]
@[go_sem] theorem zNo {j:IntKind}{t:TypeId}{a b:Int}:zbh P .or t (.int j a) (.int j b)=some (.int j (j.wrap (BitVec.ofInt j.bits a|||BitVec.ofInt j.bits b).toNat)):=by simp[zbh,zc3]
@[go_sem] theorem zME {j:IntKind}{t:TypeId}{a b:Int}:zbh P .xor t (.int j a) (.int j b)=some (.int j (j.wrap (BitVec.ofInt j.bits a^^^BitVec.ofInt j.bits b).toNat)):=by simp[zbh,zc3]
def zm7 (b:Int) (x:Value):Option Value:=if b<0 then none else some x
@[go_sem] theorem zMg {j j':IntKind}{t:TypeId}{a b:Int}:zbh P .shl t (.int j a) (.int j' b)=zm7 b (.int j (j.wrap (a*2^min b.toNat j.bits))):=by simp[zbh,zm7]
@[go_sem] theorem zKx {j j':IntKind}{t:TypeId}{a b:Int}:zbh P .shr t (.int j a) (.int j' b)=zm7 b (.int j (a.fdiv (2^min b.toNat j.bits))):=by simp[zbh,zm7]
theorem zxJ {b:Int}{x:Value}(h:0≤b):zm7 b x=some x:=by simp[zm7];omega
@[go_sem] theorem zG5 {t:TypeId}{a b:Bool}(h:zhG P t=true):zbh P .eql t (.bool a) (.bool b)=some (.bool (a==b)):=by simp[zbh,h]
@[go_sem] theorem zFW {t:TypeId}{a b:Bool}(h:zhG P t=true):zbh P .neq t (.bool a) (.bool b)=some (.bool (a !=b)):=by simp[zbh,h]
@[go_sem] theorem zHY {t:TypeId}{a b:List Value}{o:List Nat}(h:zl1 P t=some o):zbh P .eql t (.agg a.toArray) (.agg b.toArray)=(eqL a b o).map .bool:=by simp[zbh,h]
@[go_sem] theorem zHB {t:TypeId}{a b:List Value}{o:List Nat}(h:zl1 P t=some o):zbh P .neq t (.agg a.toArray) (.agg b.toArray)=(eqL a b o).map fun r=>.bool !r:=by simp[zbh,h]
@[go_sem] theorem zQx {j i:IntKind}{a b x y:Int}:eqL [.int j a,.int i b] [.int j x,.int i y] [0,1]=some (a==x&&b==y):=by simp[eqL]
@[go_sem] theorem zFk {t:TypeId}{a b:ByteArray}:zbh P .eql t (.string a) (.string b)=some (.bool (a.toList==b.toList)):=(rfl)
@[go_sem] theorem zp3 {t:TypeId}{a b:ByteArray}(h:a.size+b.size≤9223372036854775807):zbh P .add t (.string a) (.string b)=some (.string (a++b)):=by simp[zbh,h]
@[go_sem] theorem zQf {s:TypeId}{x:Operand}(h:zhd P s=true):bsE P s pf x=(srO 1 pf x).bind fun z=>(zhP z.1).map fun ns=>(.v (.str (zdW ns)),z.2):=by unfold bsE;rw[if_pos h]
@[go_sem] theorem zEA:zhP []=some []:=(rfl)
@[go_sem] theorem ztj {n:Int}{rs:List (List PV)}:zhP ([.int .u8 n]::rs)=(zhP rs).map (n:: ·):=(rfl)
@[go_sem] theorem zDW {f:Int→List PV}(h:∀x,f x=[.int .u8 x]) {l:List Int}:zhP (l.map f)=some l:=by
 induction l with
 |nil=>rfl
 |cons x l ih=>rw[List.map_cons,h,ztj,ih];rfl
@[go_sem] theorem zFB {t:TypeId}{a b:ByteArray}:zbh P .neq t (.string a) (.string b)=some (.bool !(a.toList==b.toList)):=(rfl)
@[go_sem] theorem zN0 {b:Bool}:unV .not (.bool b)=some (.bool !b):=(rfl)
@[go_sem] theorem zM8 {j:IntKind}{n:Int}:unV .neg (.int j n)=some (.int j (j.wrap (0-n))):=(rfl)
@[go_sem] theorem zB5 {j:IntKind}{a b:Int}:zfY true (.int j a) (.int j b)=some (.int j (if a<b then b else a)):=by simp[zfY]
@[go_sem] theorem zC3 {j:IntKind}{a b:Int}:zfY false (.int j a) (.int j b)=some (.int j (if b<a then b else a)):=by simp[zfY]
end
end Go.Pm
