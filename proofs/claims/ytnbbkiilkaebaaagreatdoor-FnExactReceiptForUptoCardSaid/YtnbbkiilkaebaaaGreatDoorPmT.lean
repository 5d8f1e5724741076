import Derived.Test.YtnbbkiilkaebaaaGreatDoorPmS
namespace Go.Pm
open Go.Am
section
variable {P:Program}{c co:Cfg}{k:List PIt}{Q:Exit→PFr→Prop}{pf:PFr}
@[go_sem] theorem zJl {a:Nat}{b f h:List Nat}:Cfg.nohp ⟨a,b,f,h⟩=⟨a,b,f,[]⟩:=(rfl)
@[go_sem ↓] theorem zC7 {id:Nat}{ops:List Oper}:pw P c (.code (.region id ops.toArray false)::k) Q pf=pw P c (.ops (ops.map (·.dst)) ops::k) Q pf:=by
 show pwp P c (.region id ops.toArray false) (zbG P c k Q) pf=_
 simp only[pwp,Bool.false_eq_true,if_false]
 rfl
@[go_sem ↓] theorem zAC {pre:List (Option Tmp)}:pw P c (.ops pre []::k) Q pf=pw P c k Q pf:=rfl
def pw1 (P:Program) (c co:Cfg) (ty:TypeId) (op:Op) (d:Option Tmp) (k:List PIt) (Q:Exit→PFr→Prop) (pf:PFr):Prop:=pop P co ⟨d,op,ty, "",#[],none⟩ (pw P c k Q) pf
theorem ztC {o o':Oper}{K:PFr→Prop}(h:o.op=o'.op) (hd:o.dst=o'.dst) (ht:o.type=o'.type):pop P c o K pf=pop P c o' K pf:=by
 obtain⟨d,op,ty,ps,af,g⟩:=o
 obtain⟨d',op',ty',ps',af',g'⟩:=o'
 simp only at h hd ht
 subst h;subst hd;subst ht
 rfl
@[go_sem ↓] theorem zPY {pre:List (Option Tmp)}{d:Option Tmp}{op:Op}{ty:TypeId}{ps:String}{af:Array Edge}{l:List Oper}:
 pw P c (.ops pre (⟨d,op,ty,ps,af,none⟩::l)::k) Q pf=pw1 P c c ty op d (.ops pre l::k) Q pf:=by
 show zla P c pre ⟨d,op,ty,ps,af,none⟩ (pw P c (.ops pre l::k) Q) pf=_
 simp only[zla]
 exact ztC rfl rfl rfl
def pwg (P:Program) (c:Cfg) (y:Option (Option Bool)) (b:Bool) (ty:TypeId) (op:Op) (d:Option Tmp) (k:List PIt) (Q:Exit→PFr→Prop) (pf:PFr):Prop:=
 pgo c b d (pw1 P c c ty op d k Q pf) (pw P c k Q) pf y
theorem ztV {y y':Option (Option Bool)}{b:Bool}{ty:TypeId}{op:Op}{d:Option Tmp}(h:y=y'):pwg P c y b ty op d k Q pf=pwg P c y' b ty op d k Q pf:=by rw[h]
@[go_sem ↓] theorem zNl {pre:List (Option Tmp)}{d:Option Tmp}{op:Op}{ty:TypeId}{ps:String}{af:Array Edge}{j:Nat}{b:Bool}{l:List Oper}:
 pw P c (.ops pre (⟨d,op,ty,ps,af,some (j,b)⟩::l)::k) Q pf=pwg P c (ygP pf pre[j]?) b ty op d (.ops pre l::k) Q pf:=by
 show zla P c pre ⟨d,op,ty,ps,af,some (j,b)⟩ (pw P c (.ops pre l::k) Q) pf=_
 simp only[zla]
 unfold pwg pw1
 rw[ztC (o:=⟨d,op,ty,ps,af,some (j,b)⟩) (o':=⟨d,op,ty, "",#[],none⟩) rfl rfl rfl]
@[go_sem] theorem zEk {d:Tmp}:ygP pf (some (some d))=ygV (pf d):=(rfl)
@[go_sem] theorem zEn {b:Bool}:ygV (.v (.bool b))=some (some b):=(rfl)
@[go_sem] theorem zF6:ygV .skip=some none:=(rfl)
@[go_sem ↓] theorem zNv {ty:TypeId}{op:Op}{d:Option Tmp}:pwg P c (some (some true)) true ty op d k Q pf=pw1 P c c ty op d k Q pf:=by simp[pwg,pgo]
@[go_sem ↓] theorem zM0 {ty:TypeId}{op:Op}{d:Option Tmp}:pwg P c (some (some false)) false ty op d k Q pf=pw1 P c c ty op d k Q pf:=by simp[pwg,pgo]
@[go_sem ↓] theorem zMf {ty:TypeId}{op:Op}{d:Tmp}(h:ckd c d .skip=true):pwg P c (some (some true)) false ty op (some d) k Q pf=pw P c k Q (pf.put d .skip):=by simp[pwg,pgo,zht,h]
@[go_sem ↓] theorem zME {ty:TypeId}{op:Op}{d:Tmp}(h:ckd c d .skip=true):pwg P c (some (some false)) true ty op (some d) k Q pf=pw P c k Q (pf.put d .skip):=by simp[pwg,pgo,zht,h]
@[go_sem ↓] theorem zPU {b:Bool}{ty:TypeId}{op:Op}{d:Tmp}(h:ckd c d .skip=true):pwg P c (some none) b ty op (some d) k Q pf=pw P c k Q (pf.put d .skip):=by simp[pwg,pgo,zht,h]
theorem ztu {y b:Bool}{ty:TypeId}{op:Op}{d:Option Tmp}(h1:y=true→pwg P c (some (some true)) b ty op d k Q pf) (h2:y=false→pwg P c (some (some false)) b ty op d k Q pf):pwg P c (some (some y)) b ty op d k Q pf:=by
 cases y
 ·exact h2 rfl
 ·exact h1 rfl
def qv (P:Program) (c co:Cfg) (x:Option (PF×PFr)) (d:Option Tmp) (k:List PIt) (Q:Exit→PFr→Prop):Prop:=
 match x with
 |some a=>zbp co (pw P c k Q) d a.1 a.2
 |none=>False
def qz (P:Program) (c:Cfg) (d:Nat) (k:List PIt) (Q:Exit→PFr→Prop) (x:Option (PF×PFr)):Prop:=pfz (pw P c k Q) d x
theorem zvV {x x':Option (PF×PFr)}{d:Option Tmp}(h:x=x'):qv P c co x d k Q=qv P c co x' d k Q:=by rw[h]
theorem zvt {x x':Option (PF×PFr)}{d:Nat}(h:x=x'):qz P c d k Q x=qz P c d k Q x':=by rw[h]
@[go_sem ↓] theorem zIB {y:PF}{d:Tmp}(h:ckd co d y=true) (hf:co.fz.contains d=false):qv P c co (some (y,pf)) (some d) k Q=pw P c k Q (pf.put d y):=by simp only[qv,zbp,h,hf];simp
@[go_sem ↓] theorem zOQ {y:PF}{d:Tmp}(h:ckd co d y=true) (hf:co.fz.contains d=true):qv P c co (some (y,pf)) (some d) k Q=qz P c d k Q (zje pf y):=by simp only[qv,zbp,h,hf];simp[qz]
@[go_sem ↓] theorem zL1 {y:PF}:qv P c co (some (y,pf)) none k Q=pw P c k Q pf:=rfl
@[go_sem ↓] theorem zH6 {y:PF}{d:Nat}:qz P c d k Q (some (y,pf))=pw P c k Q (pf.put d y):=rfl
def qf (P:Program) (c:Cfg) (x:Option PFr) (k:List PIt) (Q:Exit→PFr→Prop):Prop:=
 match x with
 |some pf=>pw P c k Q pf
 |none=>False
theorem zvH {x x':Option PFr}(h:x=x'):qf P c x k Q=qf P c x' k Q:=by rw[h]
@[go_sem ↓] theorem zKt:qf P c (some pf) k Q=pw P c k Q pf:=rfl
attribute [congr] zv1 ztV zvV zvt zvH
@[go_sem] theorem zMY {d:Nat}{y:PF}:ckd c d y=(decide (d<c.nt)&& !c.io.contains d&& !(zai y==some d)):=(rfl)
@[go_sem] theorem zIF {x:PV}:zai (.v x)=none:=(rfl)
@[go_sem] theorem zBJ:zai .skip=none:=(rfl)
@[go_sem] theorem zHt {es:Nat}{r:List (List PV)}:zai (.ls es r)=none:=(rfl)
@[go_sem] theorem zES {r:List PV}:zai (.bl r)=none:=(rfl)
@[go_sem] theorem zHJ {s i j:Nat}{p:zab}:zai (.pt s p i j)=some s:=(rfl)
@[go_sem] theorem zFA {s:Nat}{p:zab}:zai (.rf s p)=some s:=(rfl)
@[go_sem] theorem zFk {s lo hi:Nat}{p:zab}:zai (.rv s p lo hi)=some s:=(rfl)
@[go_sem] theorem zFR {b:Bool}{s i j n:Nat}{p:zab}:zai (.as b s p i j n)=some s:=(rfl)
@[go_sem] theorem zFa {s:Nat}{g:FuncId}{us:List PV}:zai (.cl s g us)=some s:=(rfl)
@[go_sem] theorem zEb {s i j n:Nat}{p:zab}:zai (.ra s p i j n)=some s:=(rfl)
@[go_sem] theorem zJY {d t:Nat}{x:PF}:PFr.put pf d x t=if t=d then x else zbH d (pf t):=(rfl)
@[go_sem] theorem zJp {d t:Nat}{x:PF}:PFr.upd pf d x t=if t=d then x else pf t:=(rfl)
@[go_sem] theorem zGg {s n t:Nat}:PFr.kill pf s n t=zaN s n (pf t):=(rfl)
@[go_sem] theorem zKd {d:Nat}{x:PV}:zbH d (.v x)=.v x:=(rfl)
@[go_sem] theorem zBE {d:Nat}:zbH d .skip=.skip:=(rfl)
@[go_sem] theorem zHh {d es:Nat}{r:List (List PV)}:zbH d (.ls es r)=.ls es r:=(rfl)
@[go_sem] theorem zFy {d:Nat}{r:List PV}:zbH d (.bl r)=.bl r:=(rfl)
@[go_sem] theorem zGz {d s i j:Nat}{p:zab}:zbH d (.pt s p i j)=if s=d then jP else .pt s p i j:=by simp[zbH,zai]
@[go_sem] theorem zFX {d s:Nat}{p:zab}:zbH d (.rf s p)=if s=d then jP else .rf s p:=by simp[zbH,zai]
@[go_sem] theorem zFf {d s lo hi:Nat}{p:zab}:zbH d (.rv s p lo hi)=if s=d then jP else .rv s p lo hi:=by simp[zbH,zai]
@[go_sem] theorem zGh {b:Bool}{d s i j n:Nat}{p:zab}:zbH d (.as b s p i j n)=if s=d then jP else .as b s p i j n:=by simp[zbH,zai]
@[go_sem] theorem zHY {d s:Nat}{g:FuncId}{us:List PV}:zbH d (.cl s g us)=if s=d then jP else .cl s g us:=by simp[zbH,zai]
@[go_sem] theorem zFU {d s i j n:Nat}{p:zab}:zbH d (.ra s p i j n)=if s=d then jP else .ra s p i j n:=by simp[zbH,zai]
@[go_sem] theorem zLz {d:Nat}:zbH d jP=jP:=(rfl)
@[go_sem] theorem zKg {s n:Nat}{x:PV}:zaN s n (.v x)=.v x:=by simp[zaN,zai]
@[go_sem] theorem zz0 {s n:Nat}:zaN s n .skip=.skip:=by simp[zaN,zai]
@[go_sem] theorem zHi {s n es:Nat}{r:List (List PV)}:zaN s n (.ls es r)=.ls es r:=by simp[zaN,zai]
@[go_sem] theorem zE1 {s n:Nat}{r:List PV}:zaN s n (.bl r)=.bl r:=by simp[zaN,zai]
@[go_sem] theorem zFq {s n s' i j:Nat}{p:zab}:zaN s n (.pt s' p i j)=if s'=s∧n≤p.length then jP else .pt s' p i j:=by simp[zaN,zai,zfb]
@[go_sem] theorem zFt {s n s':Nat}{p:zab}:zaN s n (.rf s' p)=if s'=s∧n≤p.length then jP else .rf s' p:=by simp[zaN,zai,zfb]
@[go_sem] theorem zFu {s n s' lo hi:Nat}{p:zab}:zaN s n (.rv s' p lo hi)=if s'=s∧n≤p.length then jP else .rv s' p lo hi:=by simp[zaN,zai,zfb]
@[go_sem] theorem zHG {b:Bool}{s n s' i j m:Nat}{p:zab}:zaN s n (.as b s' p i j m)=if s'=s∧n≤p.length+1 then jP else .as b s' p i j m:=by simp[zaN,zai,zfb]
@[go_sem] theorem zGt {s n s':Nat}{g:FuncId}{us:List PV}:zaN s n (.cl s' g us)=if s'=s∧n≤0 then jP else .cl s' g us:=by simp[zaN,zai,zfb]
@[go_sem] theorem zE3 {s n s' i j m:Nat}{p:zab}:zaN s n (.ra s' p i j m)=if s'=s∧n≤p.length+1 then jP else .ra s' p i j m:=by simp[zaN,zai,zfb]
@[go_sem] theorem zJ9 {s n:Nat}:zaN s n jP=jP:=by simp[zaN,zai,jP]
@[go_sem] theorem zHA {s:Nat}{x:PF}{l:List (Nat×PF)}{t:Nat}:PFr.ofL ((s,x)::l) t=if t=s then x else PFr.ofL l t:=(rfl)
@[go_sem] theorem zKl {t:Nat}:PFr.ofL [] t=jP:=(rfl)
@[go_sem] theorem zDA {as:List (Md×PV)}{t:Nat}:zgk as t=znx as[t]? :=(rfl)
@[go_sem] theorem zC4 {m:Md}{x:PV}:znx (some (m,x))=.v x:=(rfl)
@[go_sem] theorem zCP:znx none=jP:=(rfl)
@[go_sem] theorem zOC:isJ .junk=true:=(rfl)
@[go_sem] theorem zGB {b:Bool}:isJ (.bool b)=false:=(rfl)
@[go_sem] theorem zJ8 {j:IntKind}{n:Int}:isJ (.int j n)=false:=(rfl)
@[go_sem] theorem zID {s:ByteArray}:isJ (.str s)=false:=(rfl)
@[go_sem] theorem zMO {o:Bool}{es:Nat}{r:List (List PV)}:isJ (.sl o es r)=false:=(rfl)
@[go_sem] theorem zL5 {r:List PV}:isJ (.fp r)=false:=(rfl)
@[go_sem] theorem zNf {r:List PV}:isJ (.bx r)=false:=(rfl)
@[go_sem] theorem zFv {f:Fn}{a b:List PV}:isJ (.func f a b)=false:=(rfl)
@[go_sem] theorem zK3 {r:List PV}:isJ (.agg r)=false:=(rfl)
@[go_sem] theorem zIU {r:List PV}:isJ (.tup r)=false:=(rfl)
@[go_sem] theorem zEV:isJ .nilf=false:=(rfl)
@[go_sem] theorem zFb:isJ .nilp=false:=(rfl)
@[go_sem] theorem zGT:isJ .nili=false:=(rfl)
@[go_sem] theorem zNU:zav .junk=false:=by simp[zav]
@[go_sem] theorem zCW {b:Bool}:zav (.bool b)=false:=by simp[zav]
@[go_sem] theorem zFs {j:IntKind}{n:Int}:zav (.int j n)=false:=by simp[zav]
@[go_sem] theorem zHa {s:ByteArray}:zav (.str s)=false:=by simp[zav]
@[go_sem] theorem zIg {r:List PV}:zav (.fp r)=false:=by simp[zav]
@[go_sem] theorem zD1 {f:Fn}{a b:List PV}:zav (.func f a b)=false:=by simp[zav]
@[go_sem] theorem zDa:zav .nilf=false:=by simp[zav]
@[go_sem] theorem zDw:zav .nilp=false:=by simp[zav]
@[go_sem] theorem zDb:zav .nili=false:=by simp[zav]
attribute [go_sem] zic zry zgw zpq zhe znZ zmd zpv zl5 zqa zoe zn8
@[go_sem] theorem zNF:drop .junk=.junk:=by simp[drop]
@[go_sem] theorem zCQ {b:Bool}:drop (.bool b)=.bool b:=by simp[drop]
@[go_sem] theorem zFM {j:IntKind}{n:Int}:drop (.int j n)=.int j n:=by simp[drop]
@[go_sem] theorem zGk {s:ByteArray}:drop (.str s)=.str s:=by simp[drop]
@[go_sem] theorem zIn {r:List PV}:drop (.fp r)=.fp r:=by simp[drop]
@[go_sem] theorem zDH {f:Fn}{a b:List PV}:drop (.func f a b)=.func f a b:=by simp[drop]
@[go_sem] theorem zDW:drop .nilf=.nilf:=by simp[drop]
@[go_sem] theorem zDX:drop .nilp=.nilp:=by simp[drop]
@[go_sem] theorem zDL:drop .nili=.nili:=by simp[drop]
@[go_sem] theorem zJK:zaO .junk=true:=by simp[zaO]
@[go_sem] theorem zCn {b:Bool}:zaO (.bool b)=true:=by simp[zaO]
@[go_sem] theorem zDt {j:IntKind}{n:Int}:zaO (.int j n)=true:=by simp[zaO]
@[go_sem] theorem zC3 {s:ByteArray}:zaO (.str s)=true:=by simp[zaO]
@[go_sem] theorem zGS {r:List PV}:zaO (.fp r)=false:=by simp[zaO]
@[go_sem] theorem zBO {f:Fn}{a b:List PV}:zaO (.func f a b)=false:=by simp[zaO]
@[go_sem] theorem zA2:zaO .nilf=true:=by simp[zaO]
@[go_sem] theorem zCt {j:IntKind}{n:Int}:zeZ (.int j n)=true:=(rfl)
@[go_sem] theorem zzC {b:Bool}:zeZ (.bool b)=true:=(rfl)
@[go_sem] theorem zBe {s:ByteArray}:zeZ (.str s)=true:=(rfl)
@[go_sem] theorem zDr {o:Bool}{es:Nat}{r:List (List PV)}:zeZ (.sl o es r)=true:=(rfl)
@[go_sem] theorem zDB {r:List PV}:zeZ (.bx r)=true:=(rfl)
@[go_sem] theorem zDi {r:List PV}:zeZ (.fp r)=true:=(rfl)
@[go_sem] theorem zzG {f:Fn}{a b:List PV}:zeZ (.func f a b)=true:=(rfl)
@[go_sem] theorem zzO {j:IntKind}{n:Int}:zbS (.int j n)=true:=(rfl)
@[go_sem] theorem zy6 {b:Bool}:zbS (.bool b)=true:=(rfl)
@[go_sem] theorem zzw {s:ByteArray}:zbS (.str s)=true:=(rfl)
@[go_sem] theorem zB5 {o:Bool}{es:Nat}{r:List (List PV)}:zbS (.sl o es r)=true:=(rfl)
@[go_sem] theorem zzT {r:List PV}:zbS (.agg r)=true:=(rfl)
@[go_sem] theorem zCc {r:List PV}:zbS (.bx r)=true:=(rfl)
@[go_sem] theorem zA0 {r:List PV}:zbS (.fp r)=true:=(rfl)
@[go_sem] theorem zyf {f:Fn}{a b:List PV}:zbS (.func f a b)=true:=(rfl)
@[go_sem] theorem zzZ {j:IntKind}{n:Int}:zas (.int j n)=[.int j n]:=(rfl)
@[go_sem] theorem zzJ {b:Bool}:zas (.bool b)=[.bool b]:=(rfl)
@[go_sem] theorem zz9 {s:ByteArray}:zas (.str s)=[.str s]:=(rfl)
@[go_sem] theorem zDm {o:Bool}{es:Nat}{r:List (List PV)}:zas (.sl o es r)=[.sl o es r]:=(rfl)
@[go_sem] theorem zz5 {r:List PV}:zas (.agg r)=r:=(rfl)
@[go_sem] theorem zD3 {r:List PV}:zas (.bx r)=[.bx r]:=(rfl)
@[go_sem] theorem zDe {r:List PV}:zas (.fp r)=[.fp r]:=(rfl)
@[go_sem] theorem zzV {f:Fn}{a b:List PV}:zas (.func f a b)=[.func f a b]:=(rfl)
@[go_sem] theorem zDY {e:Nat}{b:Bool}:zfP e (.bool b)=.bool b:=(rfl)
@[go_sem] theorem zEA {e:Nat}{j:IntKind}{n:Int}:zfP e (.int j n)=.int j n:=(rfl)
@[go_sem] theorem zHd {e:Nat}{s:ByteArray}:zfP e (.string s)=.str s:=(rfl)
@[go_sem] theorem zGn {e:Nat}:zfP e (.slice none 0 0)=.sl true e []:=(rfl)
@[go_sem] theorem zCU {e:Nat}:zfP e .nilFunc=.nilf:=(rfl)
@[go_sem] theorem zKq {j:IntKind}{n:Int}:zaj (.int j n)=true:=(rfl)
@[go_sem] theorem zHF {b:Bool}:zaj (.bool b)=true:=(rfl)
@[go_sem] theorem zJ2 {b:ByteArray}:zaj (.string b)=true:=(rfl)
@[go_sem] theorem zH5:zaj (.slice none 0 0)=true:=(rfl)
@[go_sem] theorem zFZ:zaj .nilFunc=true:=(rfl)
@[go_sem] theorem zLx {t:Tmp}:rdS pf (.tmp t)=znW (pf t):=(rfl)
@[go_sem] theorem zMK {x:PV}:znW (.v x)=toS x:=(rfl)
@[go_sem] theorem zDI:znW .skip=none:=(rfl)
@[go_sem] theorem zFd {b:Bool}:toS (.bool b)=some (.bool b):=(rfl)
@[go_sem] theorem zJn {j:IntKind}{n:Int}:toS (.int j n)=some (.int j n):=(rfl)
@[go_sem] theorem zIp {s:ByteArray}:toS (.str s)=some (.string s):=(rfl)
@[go_sem] theorem zK1 {l:List PV}:toS (.agg l)=(zjY l).map fun l=>.agg l.toArray:=(rfl)
@[go_sem] theorem zGi:zjY []=some []:=(rfl)
@[go_sem] theorem zGb {j:IntKind}{n:Int}{r:List PV}:zjY (.int j n::r)=(zjY r).map fun l=>.int j n::l:=(rfl)
@[go_sem] theorem zIr {j:IntKind}{n:Int}:rdS pf (.const (.int j n))=some (.int j n):=(rfl)
@[go_sem] theorem zFF {b:Bool}:rdS pf (.const (.bool b))=some (.bool b):=(rfl)
@[go_sem] theorem zLf {b:ByteArray}:rdS pf (.const (.string b))=some (.string b):=(rfl)
@[go_sem] theorem zAq {b:Bool}:zdY (.bool b)=some (.bool b):=(rfl)
@[go_sem] theorem zCT {j:IntKind}{n:Int}:zdY (.int j n)=some (.int j n):=(rfl)
@[go_sem] theorem zD5 {s:ByteArray}:zdY (.string s)=some (.str s):=(rfl)
def ev1 (f:Value→Option Value) (x:Option Value) (pf:PFr):Option (PF×PFr):=(x.bind fun a=>(f a).bind zdY).map fun y=>(.v y,pf)
def ev2 (f:Value→Value→Option Value) (x y:Option Value) (pf:PFr):Option (PF×PFr):=(x.bind fun a=>y.bind fun b=>(f a b).bind zdY).map fun y=>(.v y,pf)
def fin (x:Option Value) (pf:PFr):Option (PF×PFr):=(x.bind zdY).map fun y=>(.v y,pf)
@[go_sem] theorem zGC {f:Value→Option Value}{a:Value}:ev1 f (some a) pf=fin (f a) pf:=(rfl)
@[go_sem] theorem zGj {f:Value→Value→Option Value}{a b:Value}:ev2 f (some a) (some b) pf=fin (f a b) pf:=(rfl)
@[go_sem] theorem zGJ {b:Bool}:fin (some (.bool b)) pf=some (.v (.bool b),pf):=(rfl)
@[go_sem] theorem zLk {j:IntKind}{n:Int}:fin (some (.int j n)) pf=some (.v (.int j n),pf):=(rfl)
@[go_sem] theorem zIT {s:ByteArray}:fin (some (.string s)) pf=some (.v (.str s),pf):=(rfl)
theorem zgr {o:Oper}{x:Option (PF×PFr)}(h:(((zbb o.op).bind (zgZ pf)).bind fun vs=>(za6 P o.op vs).bind zdY).map (fun y=>(PF.v y,pf))=x):zdX P co o (pw P c k Q) pf=qv P c co x o.dst k Q:=by
 subst h
 unfold zdX
 cases (zbb o.op).bind (zgZ pf)with
 |none=>rfl
 |some vs=>
  simp only[Option.bind_some]
  cases (za6 P o.op vs).bind zdY<;>rfl
@[go_sem ↓] theorem zE8 {ty t:TypeId}{op:UnOp}{x:Operand}{d:Option Tmp}:pw1 P c co ty (.unOp op t x) d k Q pf=qv P c co (ev1 (unV op) (rdS pf x) pf) d k Q:=by
 refine zgr (o:=⟨d,.unOp op t x,ty, "",#[],none⟩) ?_
 simp only[zbb,zgZ,Option.bind_some]
 cases rdS pf x<;>simp[za6,ev1]
theorem zoi {ty s t:TypeId}{x:Operand}{d:Tmp}(ht:zax P t=true) (hp:co.hp≠[]∨lsP pf x=true):pw1 P c co ty (.convert s t x) (some d) k Q pf=qv P c co (bsE P s pf x) (some d) k Q:=by
 show(if zax P t=true then(co.hp≠[]∨lsP pf x=true)∧zhX P co s t x (some d) (pw P c k Q) pf else _)=_
 rw[if_pos ht]
 unfold zhX qv
 cases bsE P s pf x with
 |none=>simp[hp]
 |some z=>simp[hp,ht]
@[go_sem ↓] theorem zG5 {ty s t:TypeId}{x:Operand}{d:Tmp}(ht:zax P t=true) (hp:co.hp.isEmpty=false):pw1 P c co ty (.convert s t x) (some d) k Q pf=qv P c co (bsE P s pf x) (some d) k Q:=zoi ht (.inl fun e=>by rw[e]at hp;cases hp)
@[go_sem] theorem zG8 {rows:List (List PV)}:zm8 (.ls 1 rows)=true:=(rfl)
@[go_sem ↓] theorem zDT {ty s t:TypeId}{u:Nat}{d:Tmp}(ht:zax P t=true) (hl:zm8 (pf u)=true):pw1 P c co ty (.convert s t (.tmp u)) (some d) k Q pf=qv P c co (bsE P s pf (.tmp u)) (some d) k Q:=zoi ht (.inr hl)
@[go_sem ↓] theorem zzA {ty s t:TypeId}{x:Operand}{d:Option Tmp}(ht:zax P t=false):pw1 P c co ty (.convert s t x) d k Q pf=qv P c co (ev1 (zlz P s t) (rdS pf x) pf) d k Q:=by
 have e:pw1 P c co ty (.convert s t x) d k Q pf=zdX P co ⟨d,.convert s t x,ty, "",#[],none⟩ (pw P c k Q) pf:=by
  show(if zax P t=true then(co.hp≠[]∨lsP pf x=true)∧zhX P co s t x d (pw P c k Q) pf else zdX P co ⟨d,.convert s t x,ty, "",#[],none⟩ (pw P c k Q) pf)=_
  rw[if_neg (by simp[ht])]
 rw[e]
 refine zgr (o:=⟨d,.convert s t x,ty, "",#[],none⟩) ?_
 simp only[zbb,zgZ,Option.bind_some]
 cases rdS pf x<;>simp[za6,ev1]
@[go_sem] theorem zz4 {t:Tmp}:zgj (.tmp t)=false:=(rfl)
@[go_sem] theorem zCx {j:IntKind}{n:Int}:zgj (.const (.int j n))=false:=(rfl)
@[go_sem] theorem zzQ {b:Bool}:zgj (.const (.bool b))=false:=(rfl)
@[go_sem] theorem zCG {s:ByteArray}:zgj (.const (.string s))=false:=(rfl)
@[go_sem ↓] theorem zDh {ty t u:TypeId}{op:BinOp}{x y:Operand}{d:Option Tmp}(hy:zgj y=false):pw1 P c co ty (.binOp op t x y u) d k Q pf=qv P c co (ev2 (zbf P op t) (rdS pf x) (rdS pf y) pf) d k Q:=by
 have e:pw1 P c co ty (.binOp op t x y u) d k Q pf=zdX P co ⟨d,.binOp op t x y u,ty, "",#[],none⟩ (pw P c k Q) pf:=by
  show pop P co ⟨d,.binOp op t x y u,ty, "",#[],none⟩ (pw P c k Q) pf=_
  simp only[pop,hy,Bool.false_eq_true,if_false]
 rw[e]
 refine zgr (o:=⟨d,.binOp op t x y u,ty, "",#[],none⟩) ?_
 simp only[zbb,zgZ,Option.bind_some]
 cases rdS pf x<;>cases rdS pf y<;>simp[za6,ev2]
@[go_sem ↓] theorem zDO {ty t:TypeId}{x y:Operand}{d:Option Tmp}:pw1 P c co ty (.index t x y) d k Q pf=qv P c co (ev2 (zg2 P t) (rdS pf x) (rdS pf y) pf) d k Q:=by
 refine zgr (o:=⟨d,.index t x y,ty, "",#[],none⟩) ?_
 simp only[zbb,zgZ,Option.bind_some]
 cases rdS pf x<;>cases rdS pf y<;>simp[za6,ev2]
@[go_sem ↓] theorem zKk {ty:TypeId}{x y:Operand}{ts:Array TypeId}{d:Option Tmp}:pw1 P c co ty (.call ⟨.builtin .min,#[x,y],ts⟩) d k Q pf=qv P c co (ev2 (zfy false) (rdS pf x) (rdS pf y) pf) d k Q:=by
 refine zgr (o:=⟨d,.call ⟨.builtin .min,#[x,y],ts⟩,ty, "",#[],none⟩) ?_
 simp only[zbb,zgZ,Option.bind_some]
 cases rdS pf x<;>cases rdS pf y<;>simp[za6,ev2]
@[go_sem ↓] theorem zLm {ty:TypeId}{x y:Operand}{ts:Array TypeId}{d:Option Tmp}:pw1 P c co ty (.call ⟨.builtin .max,#[x,y],ts⟩) d k Q pf=qv P c co (ev2 (zfy true) (rdS pf x) (rdS pf y) pf) d k Q:=by
 refine zgr (o:=⟨d,.call ⟨.builtin .max,#[x,y],ts⟩,ty, "",#[],none⟩) ?_
 simp only[zbb,zgZ,Option.bind_some]
 cases rdS pf x<;>cases rdS pf y<;>simp[za6,ev2]
@[go_sem] theorem zGl {s d:TypeId}{i j k:IntKind}{n:Int}(hs:zc2 P s=some i) (hd:zc2 P d=some k):zlz P s d (.int j n)=some (.int k (k.wrap n)):=by
 unfold zlz
 have:∃u,P.underlying s=some u:=by
  unfold zc2 at hs;split at hs
  ·rename_i h;exact⟨_,h⟩
  ·cases hs
 obtain⟨u,hu⟩:=this
 rw[hu,hd]
@[go_sem] theorem zLg {j:IntKind}{t:TypeId}{a b:Int}:zbf P .add t (.int j a) (.int j b)=some (.int j (j.wrap (a+b))):=by simp[zbf,zcS]
@[go_sem] theorem zJ0 {j:IntKind}{t:TypeId}{a b:Int}:zbf P .sub t (.int j a) (.int j b)=some (.int j (j.wrap (a-b))):=by simp[zbf,zcS]
@[go_sem] theorem zKN {j:IntKind}{t:TypeId}{a b:Int}:zbf P .mul t (.int j a) (.int j b)=some (.int j (j.wrap (a*b))):=by simp[zbf,zcS]
def zjc (b:Int) (x:Value):Option Value:=if b=0 then none else some x
@[go_sem] theorem zK4 {j:IntKind}{t:TypeId}{a b:Int}:zbf P .quo t (.int j a) (.int j b)=zjc b (.int j (j.wrap (a.tdiv b))):=by simp[zbf,zcS,zjc]
@[go_sem] theorem zKS {j:IntKind}{t:TypeId}{a b:Int}:zbf P .rem t (.int j a) (.int j b)=zjc b (.int j (a.tmod b)):=by simp[zbf,zcS,zjc]
theorem znE {b:Int}{x:Value}(h:b≠0):zjc b x=some x:=by simp[zjc,h]
@[go_sem] theorem zEp {x:Value}{n:Nat}:zjc (OfNat.ofNat (n+1)) x=some x:=by
 refine znE ?_
 show((n+1:Nat):Int)≠0
 omega
@[go_sem] theorem zIw {j:IntKind}{t:TypeId}{a b:Int}:zbf P .eql t (.int j a) (.int j b)=some (.bool (a==b)):=by simp[zbf,zcS]
@[go_sem] theorem zIP {j:IntKind}{t:TypeId}{a b:Int}:zbf P .neq t (.int j a) (.int j b)=some (.bool (a !=b)):=by simp[zbf,zcS]
@[go_sem] theorem zIt {j:IntKind}{t:TypeId}{a b:Int}:zbf P .lss t (.int j a) (.int j b)=some (.bool (decide (a<b))):=by simp[zbf,zcS]
@[go_sem] theorem zIh {j:IntKind}{t:TypeId}{a b:Int}:zbf P .leq t (.int j a) (.int j b)=some (.bool (decide (a≤b))):=by simp[zbf,zcS]
@[go_sem] theorem zLs {j:IntKind}{t:TypeId}{a b:Int}:zbf P .gtr t (.int j a) (.int j b)=some (.bool (decide (b<a))):=by simp[zbf,zcS]
@[go_sem] theorem zJ4 {j:IntKind}{t:TypeId}{a b:Int}:zbf P .geq t (.int j a) (.int j b)=some (.bool (decide (b≤a))):=by simp[zbf,zcS]
@[go_sem] theorem zLp {j:IntKind}{t:TypeId}{a b:Int}:zbf P .and t (.int j a) (.int j b)=some (.int j (j.wrap (BitVec.ofInt j.bits a&&&BitVec.ofInt j.bits b).toNat)):=by simp[zbf,zcS]
@[go_sem] theorem zL2 {j:IntKind}{t:TypeId}{a b:Int}:zbf P .or t (.int j a) (.int j b)=some (.int j (j.wrap (BitVec.ofInt j.bits a|||BitVec.ofInt j.bits b).toNat)):=by simp[zbf,zcS]
@[go_sem] theorem zLu {j:IntKind}{t:TypeId}{a b:Int}:zbf P .xor t (.int j a) (.int j b)=some (.int j (j.wrap (BitVec.ofInt j.bits a^^^BitVec.ofInt j.bits b).toNat)):=by simp[zbf,zcS]
def zmo (b:Int) (x:Value):Option Value:=if b<0 then none else some x
@[go_sem] theorem zKe {j j':IntKind}{t:TypeId}{a b:Int}:zbf P .shl t (.int j a) (.int j' b)=zmo b (.int j (j.wrap (a*2^min b.toNat j.bits))):=by simp[zbf,zmo]
@[go_sem] theorem zJi {j j':IntKind}{t:TypeId}{a b:Int}:zbf P .shr t (.int j a) (.int j' b)=zmo b (.int j (a.fdiv (2^min b.toNat j.bits))):=by simp[zbf,zmo]
theorem zwL {b:Int}{x:Value}(h:0≤b):zmo b x=some x:=by simp[zmo];omega
@[go_sem] theorem zHg {t:TypeId}{a b:Bool}(h:zhp P t=true):zbf P .eql t (.bool a) (.bool b)=some (.bool (a==b)):=by simp[zbf,h]
@[go_sem] theorem zFe {t:TypeId}{a b:Bool}(h:zhp P t=true):zbf P .neq t (.bool a) (.bool b)=some (.bool (a !=b)):=by simp[zbf,h]
@[go_sem] theorem zFw {t:TypeId}{a b:List Value}{o:List Nat}(h:zlm P t=some o):zbf P .eql t (.agg a.toArray) (.agg b.toArray)=(eqL a b o).map .bool:=by simp[zbf,h]
@[go_sem] theorem zE2 {t:TypeId}{a b:List Value}{o:List Nat}(h:zlm P t=some o):zbf P .neq t (.agg a.toArray) (.agg b.toArray)=(eqL a b o).map fun r=>.bool !r:=by simp[zbf,h]
@[go_sem] theorem zOr {j i:IntKind}{a b x y:Int}:eqL [.int j a,.int i b] [.int j x,.int i y] [0,1]=some (a==x&&b==y):=by simp[eqL]
@[go_sem] theorem zEm {t:TypeId}{a b:ByteArray}:zbf P .eql t (.string a) (.string b)=some (.bool (a.toList==b.toList)):=(rfl)
@[go_sem] theorem zph {t:TypeId}{a b:ByteArray}(h:a.size+b.size≤9223372036854775807):zbf P .add t (.string a) (.string b)=some (.string (a++b)):=by simp[zbf,h]
@[go_sem] theorem zOe {s:TypeId}{x:Operand}(h:zgO P s=true):bsE P s pf x=(srO 1 pf x).bind fun z=>(zhs z.1).map fun ns=>(.v (.str (zdI ns)),z.2):=by unfold bsE;rw[if_pos h]
@[go_sem] theorem zDC:zhs []=some []:=(rfl)
@[go_sem] theorem zsY {n:Int}{rs:List (List PV)}:zhs ([.int .u8 n]::rs)=(zhs rs).map (n:: ·):=(rfl)
@[go_sem] theorem zDF {f:Int→List PV}(h:∀x,f x=[.int .u8 x]) {l:List Int}:zhs (l.map f)=some l:=by
 induction l with
 |nil=>rfl
 |cons x l ih=>rw[List.map_cons,h,zsY,ih];rfl
@[go_sem] theorem zHr {t:TypeId}{a b:ByteArray}:zbf P .neq t (.string a) (.string b)=some (.bool !(a.toList==b.toList)):=(rfl)
@[go_sem] theorem zMz {b:Bool}:unV .not (.bool b)=some (.bool !b):=(rfl)
@[go_sem] theorem zMi {j:IntKind}{n:Int}:unV .neg (.int j n)=some (.int j (j.wrap (0-n))):=(rfl)
@[go_sem] theorem zz8 {j:IntKind}{a b:Int}:zfy true (.int j a) (.int j b)=some (.int j (if a<b then b else a)):=by simp[zfy]
@[go_sem] theorem zCu {j:IntKind}{a b:Int}:zfy false (.int j a) (.int j b)=some (.int j (if b<a then b else a)):=by simp[zfy]
end
end Go.Pm
