import Derived.Test.YthafgjhkjgcdeaaGreatPmS
namespace Go.Pm
open Go.Am
section
variable {P:Program}{c co:Cfg}{k:List PIt}{Q:Exit→PFr→Prop}{pf:PFr}
@[go_sem] theorem zNc {a:Nat}{b f h:List Nat}:Cfg.nohp ⟨a,b,f,h⟩=⟨a,b,f,[]⟩:=(rfl)
@[go_sem ↓] theorem zFf {id:Nat}{ops:List Oper}:pw P c (.code (.region id ops.toArray false)::k) Q pf=pw P c (.ops (ops.map (·.dst)) ops::k) Q pf:=by
 show pwp P c (.region id ops.toArray false) (zca P c k Q) pf=_
 simp only[pwp,Bool.false_eq_true,if_false]
 rfl
@[go_sem ↓] theorem zDg {pre:List (Option Tmp)}:pw P c (.ops pre []::k) Q pf=pw P c k Q pf:=rfl
def pw1 (P:Program) (c co:Cfg) (ty:TypeId) (op:Op) (d:Option Tmp) (k:List PIt) (Q:Exit→PFr→Prop) (pf:PFr):Prop:=pop P co ⟨d,op,ty, "",#[],none⟩ (pw P c k Q) pf
theorem zu1 {o o':Oper}{K:PFr→Prop}(h:o.op=o'.op) (hd:o.dst=o'.dst) (ht:o.type=o'.type):pop P c o K pf=pop P c o' K pf:=by
 obtain⟨d,op,ty,ps,af,g⟩:=o
 obtain⟨d',op',ty',ps',af',g'⟩:=o'
 simp only at h hd ht
 subst h;subst hd;subst ht
 rfl
@[go_sem ↓] theorem zRb {pre:List (Option Tmp)}{d:Option Tmp}{op:Op}{ty:TypeId}{ps:String}{af:Array Edge}{l:List Oper}:
 pw P c (.ops pre (⟨d,op,ty,ps,af,none⟩::l)::k) Q pf=pw1 P c c ty op d (.ops pre l::k) Q pf:=by
 show zk2 P c pre ⟨d,op,ty,ps,af,none⟩ (pw P c (.ops pre l::k) Q) pf=_
 simp only[zk2]
 exact zu1 rfl rfl rfl
def pwg (P:Program) (c:Cfg) (y:Option (Option Bool)) (b:Bool) (ty:TypeId) (op:Op) (d:Option Tmp) (k:List PIt) (Q:Exit→PFr→Prop) (pf:PFr):Prop:=
 pgo c b d (pw1 P c c ty op d k Q pf) (pw P c k Q) pf y
theorem zvh {y y':Option (Option Bool)}{b:Bool}{ty:TypeId}{op:Op}{d:Option Tmp}(h:y=y'):pwg P c y b ty op d k Q pf=pwg P c y' b ty op d k Q pf:=by rw[h]
@[go_sem ↓] theorem zO0 {pre:List (Option Tmp)}{d:Option Tmp}{op:Op}{ty:TypeId}{ps:String}{af:Array Edge}{j:Nat}{b:Bool}{l:List Oper}:
 pw P c (.ops pre (⟨d,op,ty,ps,af,some (j,b)⟩::l)::k) Q pf=pwg P c (ygP pf pre[j]?) b ty op d (.ops pre l::k) Q pf:=by
 show zk2 P c pre ⟨d,op,ty,ps,af,some (j,b)⟩ (pw P c (.ops pre l::k) Q) pf=_
 simp only[zk2]
 unfold pwg pw1
 rw[zu1 (o:=⟨d,op,ty,ps,af,some (j,b)⟩) (o':=⟨d,op,ty, "",#[],none⟩) rfl rfl rfl]
@[go_sem] theorem zKc {d:Tmp}:ygP pf (some (some d))=ygV (pf d):=(rfl)
@[go_sem] theorem zKe {b:Bool}:ygV (.v (.bool b))=some (some b):=(rfl)
@[go_sem] theorem zGX:ygV .skip=some none:=(rfl)
@[go_sem ↓] theorem zOh {ty:TypeId}{op:Op}{d:Option Tmp}:pwg P c (some (some true)) true ty op d k Q pf=pw1 P c c ty op d k Q pf:=by simp[pwg,pgo]
@[go_sem ↓] theorem zPs {ty:TypeId}{op:Op}{d:Option Tmp}:pwg P c (some (some false)) false ty op d k Q pf=pw1 P c c ty op d k Q pf:=by simp[pwg,pgo]
@[go_sem ↓] theorem zND {ty:TypeId}{op:Op}{d:Tmp}(h:ckd c d .skip=true):pwg P c (some (some true)) false ty op (some d) k Q pf=pw P c k Q (pf.put d .skip):=by simp[pwg,pgo,zhR,h]
@[go_sem ↓] theorem zNT {ty:TypeId}{op:Op}{d:Tmp}(h:ckd c d .skip=true):pwg P c (some (some false)) true ty op (some d) k Q pf=pw P c k Q (pf.put d .skip):=by simp[pwg,pgo,zhR,h]
@[go_sem ↓] theorem zPE {b:Bool}{ty:TypeId}{op:Op}{d:Tmp}(h:ckd c d .skip=true):pwg P c (some none) b ty op (some d) k Q pf=pw P c k Q (pf.put d .skip):=by simp[pwg,pgo,zhR,h]
theorem ztT {y b:Bool}{ty:TypeId}{op:Op}{d:Option Tmp}(h1:y=true→pwg P c (some (some true)) b ty op d k Q pf) (h2:y=false→pwg P c (some (some false)) b ty op d k Q pf):pwg P c (some (some y)) b ty op d k Q pf:=by
 cases y
 ·exact h2 rfl
 ·exact h1 rfl
def qv (P:Program) (c co:Cfg) (x:Option (PF×PFr)) (d:Option Tmp) (k:List PIt) (Q:Exit→PFr→Prop):Prop:=
 match x with
 |some a=>zbW co (pw P c k Q) d a.1 a.2
 |none=>False
def qz (P:Program) (c:Cfg) (d:Nat) (k:List PIt) (Q:Exit→PFr→Prop) (x:Option (PF×PFr)):Prop:=pfz (pw P c k Q) d x
theorem zvE {x x':Option (PF×PFr)}{d:Option Tmp}(h:x=x'):qv P c co x d k Q=qv P c co x' d k Q:=by rw[h]
theorem zv1 {x x':Option (PF×PFr)}{d:Nat}(h:x=x'):qz P c d k Q x=qz P c d k Q x':=by rw[h]
@[go_sem ↓] theorem zKH {y:PF}{d:Tmp}(h:ckd co d y=true) (hf:co.fz.contains d=false):qv P c co (some (y,pf)) (some d) k Q=pw P c k Q (pf.put d y):=by simp only[qv,zbW,h,hf];simp
@[go_sem ↓] theorem zQV {y:PF}{d:Tmp}(h:ckd co d y=true) (hf:co.fz.contains d=true):qv P c co (some (y,pf)) (some d) k Q=qz P c d k Q (zjA pf y):=by simp only[qv,zbW,h,hf];simp[qz]
@[go_sem ↓] theorem zOo {y:PF}:qv P c co (some (y,pf)) none k Q=pw P c k Q pf:=rfl
@[go_sem ↓] theorem zNa {y:PF}{d:Nat}:qz P c d k Q (some (y,pf))=pw P c k Q (pf.put d y):=rfl
def qf (P:Program) (c:Cfg) (x:Option PFr) (k:List PIt) (Q:Exit→PFr→Prop):Prop:=
 match x with
 |some pf=>pw P c k Q pf
 |none=>False
theorem zvD {x x':Option PFr}(h:x=x'):qf P c x k Q=qf P c x' k Q:=by rw[h]
@[go_sem ↓] theorem zLL:qf P c (some pf) k Q=pw P c k Q pf:=rfl
attribute [congr] zvq zvh zvE zv1 zvD
@[go_sem] theorem zOE {d:Nat}{y:PF}:ckd c d y=(decide (d<c.nt)&& !c.io.contains d&& !(zar y==some d)):=(rfl)
@[go_sem] theorem zKv {x:PV}:zar (.v x)=none:=(rfl)
@[go_sem] theorem zBp:zar .skip=none:=(rfl)
@[go_sem] theorem zJJ {es:Nat}{r:List (List PV)}:zar (.ls es r)=none:=(rfl)
@[go_sem] theorem zGJ {r:List PV}:zar (.bl r)=none:=(rfl)
@[go_sem] theorem zH8 {s i j:Nat}{p:zad}:zar (.pt s p i j)=some s:=(rfl)
@[go_sem] theorem zIk {s:Nat}{p:zad}:zar (.rf s p)=some s:=(rfl)
@[go_sem] theorem zJ0 {s lo hi:Nat}{p:zad}:zar (.rv s p lo hi)=some s:=(rfl)
@[go_sem] theorem zIO {b:Bool}{s i j n:Nat}{p:zad}:zar (.as b s p i j n)=some s:=(rfl)
@[go_sem] theorem zJC {s:Nat}{g:FuncId}{us:List PV}:zar (.cl s g us)=some s:=(rfl)
@[go_sem] theorem zIZ {s i j n:Nat}{p:zad}:zar (.ra s p i j n)=some s:=(rfl)
@[go_sem] theorem zMe {d t:Nat}{x:PF}:PFr.put pf d x t=if t=d then x else zcb d (pf t):=(rfl)
@[go_sem] theorem zL9 {d t:Nat}{x:PF}:PFr.upd pf d x t=if t=d then x else pf t:=(rfl)
@[go_sem] theorem zGn {s n t:Nat}:PFr.kill pf s n t=zbc s n (pf t):=(rfl)
@[go_sem] theorem zL8 {d:Nat}{x:PV}:zcb d (.v x)=.v x:=(rfl)
@[go_sem] theorem zBO {d:Nat}:zcb d .skip=.skip:=(rfl)
@[go_sem] theorem zHP {d es:Nat}{r:List (List PV)}:zcb d (.ls es r)=.ls es r:=(rfl)
@[go_sem] theorem zJ3 {d:Nat}{r:List PV}:zcb d (.bl r)=.bl r:=(rfl)
@[go_sem] theorem zGy {d s i j:Nat}{p:zad}:zcb d (.pt s p i j)=if s=d then jP else .pt s p i j:=by simp[zcb,zar]
@[go_sem] theorem zHH {d s:Nat}{p:zad}:zcb d (.rf s p)=if s=d then jP else .rf s p:=by simp[zcb,zar]
@[go_sem] theorem zJv {d s lo hi:Nat}{p:zad}:zcb d (.rv s p lo hi)=if s=d then jP else .rv s p lo hi:=by simp[zcb,zar]
@[go_sem] theorem zIH {b:Bool}{d s i j n:Nat}{p:zad}:zcb d (.as b s p i j n)=if s=d then jP else .as b s p i j n:=by simp[zcb,zar]
@[go_sem] theorem zGz {d s:Nat}{g:FuncId}{us:List PV}:zcb d (.cl s g us)=if s=d then jP else .cl s g us:=by simp[zcb,zar]
@[go_sem] theorem zIj {d s i j n:Nat}{p:zad}:zcb d (.ra s p i j n)=if s=d then jP else .ra s p i j n:=by simp[zcb,zar]
@[go_sem] theorem zLX {d:Nat}:zcb d jP=jP:=(rfl)
@[go_sem] theorem zLw {s n:Nat}{x:PV}:zbc s n (.v x)=.v x:=by simp[zbc,zar]
@[go_sem] theorem zBN {s n:Nat}:zbc s n .skip=.skip:=by simp[zbc,zar]
@[go_sem] theorem zIC {s n es:Nat}{r:List (List PV)}:zbc s n (.ls es r)=.ls es r:=by simp[zbc,zar]
@[go_sem] theorem zHq {s n:Nat}{r:List PV}:zbc s n (.bl r)=.bl r:=by simp[zbc,zar]
@[go_sem] theorem zHG {s n s' i j:Nat}{p:zad}:zbc s n (.pt s' p i j)=if s'=s∧n≤p.length then jP else .pt s' p i j:=by simp[zbc,zar,zfY]
@[go_sem] theorem zH1 {s n s':Nat}{p:zad}:zbc s n (.rf s' p)=if s'=s∧n≤p.length then jP else .rf s' p:=by simp[zbc,zar,zfY]
@[go_sem] theorem zGp {s n s' lo hi:Nat}{p:zad}:zbc s n (.rv s' p lo hi)=if s'=s∧n≤p.length then jP else .rv s' p lo hi:=by simp[zbc,zar,zfY]
@[go_sem] theorem zJu {b:Bool}{s n s' i j m:Nat}{p:zad}:zbc s n (.as b s' p i j m)=if s'=s∧n≤p.length+1 then jP else .as b s' p i j m:=by simp[zbc,zar,zfY]
@[go_sem] theorem zJ2 {s n s':Nat}{g:FuncId}{us:List PV}:zbc s n (.cl s' g us)=if s'=s∧n≤0 then jP else .cl s' g us:=by simp[zbc,zar,zfY]
@[go_sem] theorem zIT {s n s' i j m:Nat}{p:zad}:zbc s n (.ra s' p i j m)=if s'=s∧n≤p.length+1 then jP else .ra s' p i j m:=by simp[zbc,zar,zfY]
@[go_sem] theorem zLb {s n:Nat}:zbc s n jP=jP:=by simp[zbc,zar,jP]
@[go_sem] theorem zHp {s:Nat}{x:PF}{l:List (Nat×PF)}{t:Nat}:PFr.ofL ((s,x)::l) t=if t=s then x else PFr.ofL l t:=(rfl)
@[go_sem] theorem zM5 {t:Nat}:PFr.ofL [] t=jP:=(rfl)
@[go_sem] theorem zEI {as:List (Md×PV)}{t:Nat}:zgO as t=znR as[t]? :=(rfl)
@[go_sem] theorem zFK {m:Md}{x:PV}:znR (some (m,x))=.v x:=(rfl)
@[go_sem] theorem zEM:znR none=jP:=(rfl)
@[go_sem] theorem zPP:isJ .junk=true:=(rfl)
@[go_sem] theorem zIz {b:Bool}:isJ (.bool b)=false:=(rfl)
@[go_sem] theorem zMk {j:IntKind}{n:Int}:isJ (.int j n)=false:=(rfl)
@[go_sem] theorem zLl {s:ByteArray}:isJ (.str s)=false:=(rfl)
@[go_sem] theorem zPi {o:Bool}{es:Nat}{r:List (List PV)}:isJ (.sl o es r)=false:=(rfl)
@[go_sem] theorem zO1 {r:List PV}:isJ (.fp r)=false:=(rfl)
@[go_sem] theorem zPk {r:List PV}:isJ (.bx r)=false:=(rfl)
@[go_sem] theorem zJl {f:Fn}{a b:List PV}:isJ (.func f a b)=false:=(rfl)
@[go_sem] theorem zNh {r:List PV}:isJ (.agg r)=false:=(rfl)
@[go_sem] theorem zKU {r:List PV}:isJ (.tup r)=false:=(rfl)
@[go_sem] theorem zGQ:isJ .nilf=false:=(rfl)
@[go_sem] theorem zJE:isJ .nilp=false:=(rfl)
@[go_sem] theorem zH4:isJ .nili=false:=(rfl)
@[go_sem] theorem zPq:zaL .junk=false:=by simp[zaL]
@[go_sem] theorem zFm {b:Bool}:zaL (.bool b)=false:=by simp[zaL]
@[go_sem] theorem zJi {j:IntKind}{n:Int}:zaL (.int j n)=false:=by simp[zaL]
@[go_sem] theorem zGV {s:ByteArray}:zaL (.str s)=false:=by simp[zaL]
@[go_sem] theorem zLf {r:List PV}:zaL (.fp r)=false:=by simp[zaL]
@[go_sem] theorem zFc {f:Fn}{a b:List PV}:zaL (.func f a b)=false:=by simp[zaL]
@[go_sem] theorem zE6:zaL .nilf=false:=by simp[zaL]
@[go_sem] theorem zFb:zaL .nilp=false:=by simp[zaL]
@[go_sem] theorem zF0:zaL .nili=false:=by simp[zaL]
attribute [go_sem] ziF zrI zgU zpL zhL zoe zmX zpz zmG zpP zoL zoJ
@[go_sem] theorem zOk:drop .junk=.junk:=by simp[drop]
@[go_sem] theorem zEP {b:Bool}:drop (.bool b)=.bool b:=by simp[drop]
@[go_sem] theorem zF8 {j:IntKind}{n:Int}:drop (.int j n)=.int j n:=by simp[drop]
@[go_sem] theorem zJG {s:ByteArray}:drop (.str s)=.str s:=by simp[drop]
@[go_sem] theorem zKF {r:List PV}:drop (.fp r)=.fp r:=by simp[drop]
@[go_sem] theorem zFp {f:Fn}{a b:List PV}:drop (.func f a b)=.func f a b:=by simp[drop]
@[go_sem] theorem zEU:drop .nilf=.nilf:=by simp[drop]
@[go_sem] theorem zE4:drop .nilp=.nilp:=by simp[drop]
@[go_sem] theorem zEV:drop .nili=.nili:=by simp[drop]
@[go_sem] theorem zMN:za4 .junk=true:=by simp[za4]
@[go_sem] theorem zC6 {b:Bool}:za4 (.bool b)=true:=by simp[za4]
@[go_sem] theorem zFo {j:IntKind}{n:Int}:za4 (.int j n)=true:=by simp[za4]
@[go_sem] theorem zFl {s:ByteArray}:za4 (.str s)=true:=by simp[za4]
@[go_sem] theorem zI2 {r:List PV}:za4 (.fp r)=false:=by simp[za4]
@[go_sem] theorem zBo {f:Fn}{a b:List PV}:za4 (.func f a b)=false:=by simp[za4]
@[go_sem] theorem zCR:za4 .nilf=true:=by simp[za4]
@[go_sem] theorem zC8 {j:IntKind}{n:Int}:zfD (.int j n)=true:=(rfl)
@[go_sem] theorem zAY {b:Bool}:zfD (.bool b)=true:=(rfl)
@[go_sem] theorem zEs {s:ByteArray}:zfD (.str s)=true:=(rfl)
@[go_sem] theorem zEY {o:Bool}{es:Nat}{r:List (List PV)}:zfD (.sl o es r)=true:=(rfl)
@[go_sem] theorem zFj {r:List PV}:zfD (.bx r)=true:=(rfl)
@[go_sem] theorem zE7 {r:List PV}:zfD (.fp r)=true:=(rfl)
@[go_sem] theorem zA2 {f:Fn}{a b:List PV}:zfD (.func f a b)=true:=(rfl)
@[go_sem] theorem zAX {j:IntKind}{n:Int}:zcj (.int j n)=true:=(rfl)
@[go_sem] theorem zAC {b:Bool}:zcj (.bool b)=true:=(rfl)
@[go_sem] theorem zBa {s:ByteArray}:zcj (.str s)=true:=(rfl)
@[go_sem] theorem zEr {o:Bool}{es:Nat}{r:List (List PV)}:zcj (.sl o es r)=true:=(rfl)
@[go_sem] theorem zA5 {r:List PV}:zcj (.agg r)=true:=(rfl)
@[go_sem] theorem zDK {r:List PV}:zcj (.bx r)=true:=(rfl)
@[go_sem] theorem zBH {r:List PV}:zcj (.fp r)=true:=(rfl)
@[go_sem] theorem zyS {f:Fn}{a b:List PV}:zcj (.func f a b)=true:=(rfl)
@[go_sem] theorem zB8 {j:IntKind}{n:Int}:zaI (.int j n)=[.int j n]:=(rfl)
@[go_sem] theorem zA6 {b:Bool}:zaI (.bool b)=[.bool b]:=(rfl)
@[go_sem] theorem zCQ {s:ByteArray}:zaI (.str s)=[.str s]:=(rfl)
@[go_sem] theorem zFt {o:Bool}{es:Nat}{r:List (List PV)}:zaI (.sl o es r)=[.sl o es r]:=(rfl)
@[go_sem] theorem zC7 {r:List PV}:zaI (.agg r)=r:=(rfl)
@[go_sem] theorem zFS {r:List PV}:zaI (.bx r)=[.bx r]:=(rfl)
@[go_sem] theorem zEJ {r:List PV}:zaI (.fp r)=[.fp r]:=(rfl)
@[go_sem] theorem zA3 {f:Fn}{a b:List PV}:zaI (.func f a b)=[.func f a b]:=(rfl)
@[go_sem] theorem zFe {e:Nat}{b:Bool}:zgl e (.bool b)=.bool b:=(rfl)
@[go_sem] theorem zJD {e:Nat}{j:IntKind}{n:Int}:zgl e (.int j n)=.int j n:=(rfl)
@[go_sem] theorem zJh {e:Nat}{s:ByteArray}:zgl e (.string s)=.str s:=(rfl)
@[go_sem] theorem zIL {e:Nat}:zgl e (.slice none 0 0)=.sl true e []:=(rfl)
@[go_sem] theorem zFI {e:Nat}:zgl e .nilFunc=.nilf:=(rfl)
@[go_sem] theorem zKP {j:IntKind}{n:Int}:zav (.int j n)=true:=(rfl)
@[go_sem] theorem zI9 {b:Bool}:zav (.bool b)=true:=(rfl)
@[go_sem] theorem zNl {b:ByteArray}:zav (.string b)=true:=(rfl)
@[go_sem] theorem zNv:zav (.slice none 0 0)=true:=(rfl)
@[go_sem] theorem zGO:zav .nilFunc=true:=(rfl)
@[go_sem] theorem zNw {t:Tmp}:rdS pf (.tmp t)=znZ (pf t):=(rfl)
@[go_sem] theorem zNV {x:PV}:znZ (.v x)=toS x:=(rfl)
@[go_sem] theorem zFd:znZ .skip=none:=(rfl)
@[go_sem] theorem zIB {b:Bool}:toS (.bool b)=some (.bool b):=(rfl)
@[go_sem] theorem zKu {j:IntKind}{n:Int}:toS (.int j n)=some (.int j n):=(rfl)
@[go_sem] theorem zLA {s:ByteArray}:toS (.str s)=some (.string s):=(rfl)
@[go_sem] theorem zMc {l:List PV}:toS (.agg l)=(zks l).map fun l=>.agg l.toArray:=(rfl)
@[go_sem] theorem zGr:zks []=some []:=(rfl)
@[go_sem] theorem zIG {j:IntKind}{n:Int}{r:List PV}:zks (.int j n::r)=(zks r).map fun l=>.int j n::l:=(rfl)
@[go_sem] theorem zKt {j:IntKind}{n:Int}:rdS pf (.const (.int j n))=some (.int j n):=(rfl)
@[go_sem] theorem zKi {b:Bool}:rdS pf (.const (.bool b))=some (.bool b):=(rfl)
@[go_sem] theorem zML {b:ByteArray}:rdS pf (.const (.string b))=some (.string b):=(rfl)
@[go_sem] theorem zDS {b:Bool}:zeE (.bool b)=some (.bool b):=(rfl)
@[go_sem] theorem zFU {j:IntKind}{n:Int}:zeE (.int j n)=some (.int j n):=(rfl)
@[go_sem] theorem zFM {s:ByteArray}:zeE (.string s)=some (.str s):=(rfl)
def ev1 (f:Value→Option Value) (x:Option Value) (pf:PFr):Option (PF×PFr):=(x.bind fun a=>(f a).bind zeE).map fun y=>(.v y,pf)
def ev2 (f:Value→Value→Option Value) (x y:Option Value) (pf:PFr):Option (PF×PFr):=(x.bind fun a=>y.bind fun b=>(f a b).bind zeE).map fun y=>(.v y,pf)
def fin (x:Option Value) (pf:PFr):Option (PF×PFr):=(x.bind zeE).map fun y=>(.v y,pf)
@[go_sem] theorem zHj {f:Value→Option Value}{a:Value}:ev1 f (some a) pf=fin (f a) pf:=(rfl)
@[go_sem] theorem zII {f:Value→Value→Option Value}{a b:Value}:ev2 f (some a) (some b) pf=fin (f a b) pf:=(rfl)
@[go_sem] theorem zJz {b:Bool}:fin (some (.bool b)) pf=some (.v (.bool b),pf):=(rfl)
@[go_sem] theorem zK4 {j:IntKind}{n:Int}:fin (some (.int j n)) pf=some (.v (.int j n),pf):=(rfl)
@[go_sem] theorem zLk {s:ByteArray}:fin (some (.string s)) pf=some (.v (.str s),pf):=(rfl)
theorem zgV {o:Oper}{x:Option (PF×PFr)}(h:(((zbq o.op).bind (zhv pf)).bind fun vs=>(zbo P o.op vs).bind zeE).map (fun y=>(PF.v y,pf))=x):zeB P co o (pw P c k Q) pf=qv P c co x o.dst k Q:=by
 subst h
 unfold zeB
 cases (zbq o.op).bind (zhv pf)with
 |none=>rfl
 |some vs=>
  simp only[Option.bind_some]
  cases (zbo P o.op vs).bind zeE<;>rfl
@[go_sem ↓] theorem zIW {ty t:TypeId}{op:UnOp}{x:Operand}{d:Option Tmp}:pw1 P c co ty (.unOp op t x) d k Q pf=qv P c co (ev1 (unV op) (rdS pf x) pf) d k Q:=by
 refine zgV (o:=⟨d,.unOp op t x,ty, "",#[],none⟩) ?_
 simp only[zbq,zhv,Option.bind_some]
 cases rdS pf x<;>simp[zbo,ev1]
theorem zoG {ty s t:TypeId}{x:Operand}{d:Tmp}(ht:zaY P t=true) (hp:co.hp≠[]∨lsP pf x=true):pw1 P c co ty (.convert s t x) (some d) k Q pf=qv P c co (bsE P s pf x) (some d) k Q:=by
 show(if zaY P t=true then(co.hp≠[]∨lsP pf x=true)∧ziy P co s t x (some d) (pw P c k Q) pf else _)=_
 rw[if_pos ht]
 unfold ziy qv
 cases bsE P s pf x with
 |none=>simp[hp]
 |some z=>simp[hp,ht]
@[go_sem ↓] theorem zIi {ty s t:TypeId}{x:Operand}{d:Tmp}(ht:zaY P t=true) (hp:co.hp.isEmpty=false):pw1 P c co ty (.convert s t x) (some d) k Q pf=qv P c co (bsE P s pf x) (some d) k Q:=zoG ht (.inl fun e=>by rw[e]at hp;cases hp)
@[go_sem] theorem zHJ {rows:List (List PV)}:znw (.ls 1 rows)=true:=(rfl)
@[go_sem ↓] theorem zFO {ty s t:TypeId}{u:Nat}{d:Tmp}(ht:zaY P t=true) (hl:znw (pf u)=true):pw1 P c co ty (.convert s t (.tmp u)) (some d) k Q pf=qv P c co (bsE P s pf (.tmp u)) (some d) k Q:=zoG ht (.inr hl)
@[go_sem ↓] theorem zA9 {ty s t:TypeId}{x:Operand}{d:Option Tmp}(ht:zaY P t=false):pw1 P c co ty (.convert s t x) d k Q pf=qv P c co (ev1 (zl6 P s t) (rdS pf x) pf) d k Q:=by
 have e:pw1 P c co ty (.convert s t x) d k Q pf=zeB P co ⟨d,.convert s t x,ty, "",#[],none⟩ (pw P c k Q) pf:=by
  show(if zaY P t=true then(co.hp≠[]∨lsP pf x=true)∧ziy P co s t x d (pw P c k Q) pf else zeB P co ⟨d,.convert s t x,ty, "",#[],none⟩ (pw P c k Q) pf)=_
  rw[if_neg (by simp[ht])]
 rw[e]
 refine zgV (o:=⟨d,.convert s t x,ty, "",#[],none⟩) ?_
 simp only[zbq,zhv,Option.bind_some]
 cases rdS pf x<;>simp[zbo,ev1]
@[go_sem] theorem zCK {t:Tmp}:zgL (.tmp t)=false:=(rfl)
@[go_sem] theorem zCj {j:IntKind}{n:Int}:zgL (.const (.int j n))=false:=(rfl)
@[go_sem] theorem zA7 {b:Bool}:zgL (.const (.bool b))=false:=(rfl)
@[go_sem] theorem zBr {s:ByteArray}:zgL (.const (.string s))=false:=(rfl)
@[go_sem ↓] theorem zFk {ty t u:TypeId}{op:BinOp}{x y:Operand}{d:Option Tmp}(hy:zgL y=false):pw1 P c co ty (.binOp op t x y u) d k Q pf=qv P c co (ev2 (zbF P op t) (rdS pf x) (rdS pf y) pf) d k Q:=by
 have e:pw1 P c co ty (.binOp op t x y u) d k Q pf=zeB P co ⟨d,.binOp op t x y u,ty, "",#[],none⟩ (pw P c k Q) pf:=by
  show pop P co ⟨d,.binOp op t x y u,ty, "",#[],none⟩ (pw P c k Q) pf=_
  simp only[pop,hy,Bool.false_eq_true,if_false]
 rw[e]
 refine zgV (o:=⟨d,.binOp op t x y u,ty, "",#[],none⟩) ?_
 simp only[zbq,zhv,Option.bind_some]
 cases rdS pf x<;>cases rdS pf y<;>simp[zbo,ev2]
@[go_sem ↓] theorem zFX {ty t:TypeId}{x y:Operand}{d:Option Tmp}:pw1 P c co ty (.index t x y) d k Q pf=qv P c co (ev2 (zhs P t) (rdS pf x) (rdS pf y) pf) d k Q:=by
 refine zgV (o:=⟨d,.index t x y,ty, "",#[],none⟩) ?_
 simp only[zbq,zhv,Option.bind_some]
 cases rdS pf x<;>cases rdS pf y<;>simp[zbo,ev2]
@[go_sem ↓] theorem zKW {ty:TypeId}{x y:Operand}{ts:Array TypeId}{d:Option Tmp}:pw1 P c co ty (.call ⟨.builtin .min,#[x,y],ts⟩) d k Q pf=qv P c co (ev2 (zf6 false) (rdS pf x) (rdS pf y) pf) d k Q:=by
 refine zgV (o:=⟨d,.call ⟨.builtin .min,#[x,y],ts⟩,ty, "",#[],none⟩) ?_
 simp only[zbq,zhv,Option.bind_some]
 cases rdS pf x<;>cases rdS pf y<;>simp[zbo,ev2]
@[go_sem ↓] theorem zKq {ty:TypeId}{x y:Operand}{ts:Array TypeId}{d:Option Tmp}:pw1 P c co ty (.call ⟨.builtin .max,#[x,y],ts⟩) d k Q pf=qv P c co (ev2 (zf6 true) (rdS pf x) (rdS pf y) pf) d k Q:=by
 refine zgV (o:=⟨d,.call ⟨.builtin .max,#[x,y],ts⟩,ty, "",#[],none⟩) ?_
 simp only[zbq,zhv,Option.bind_some]
 cases rdS pf x<;>cases rdS pf y<;>simp[zbo,ev2]
@[go_sem] theorem zJ8 {s d:TypeId}{i j k:IntKind}{n:Int}(hs:zdC P s=some i) (hd:zdC P d=some k):zl6 P s d (.int j n)=some (.int k (k.wrap n)):=by
 unfold zl6
 have:∃u,P.underlying s=some u:=by
  unfold zdC at hs;split at hs
  ·rename_i h;exact⟨_,h⟩
  ·cases hs
 obtain⟨u,hu⟩:=this
 rw[hu,hd]
@[go_sem] theorem zLg {j:IntKind}{t:TypeId}{a b:Int}:zbF P .add t (.int j a) (.int j b)=some (.int j (j.wrap (a+b))):=by simp[zbF,zdw]
@[go_sem] theorem zK3 {j:IntKind}{t:TypeId}{a b:Int}:zbF P .sub t (.int j a) (.int j b)=some (.int j (j.wrap (a-b))):=by simp[zbF,zdw]
@[go_sem] theorem zKE {j:IntKind}{t:TypeId}{a b:Int}:zbF P .mul t (.int j a) (.int j b)=some (.int j (j.wrap (a*b))):=by simp[zbF,zdw]
def zjE (b:Int) (x:Value):Option Value:=if b=0 then none else some x
@[go_sem] theorem zMV {j:IntKind}{t:TypeId}{a b:Int}:zbF P .quo t (.int j a) (.int j b)=zjE b (.int j (j.wrap (a.tdiv b))):=by simp[zbF,zdw,zjE]
@[go_sem] theorem zLd {j:IntKind}{t:TypeId}{a b:Int}:zbF P .rem t (.int j a) (.int j b)=zjE b (.int j (a.tmod b)):=by simp[zbF,zdw,zjE]
theorem zob {b:Int}{x:Value}(h:b≠0):zjE b x=some x:=by simp[zjE,h]
@[go_sem] theorem zGf {x:Value}{n:Nat}:zjE (OfNat.ofNat (n+1)) x=some x:=by
 refine zob ?_
 show((n+1:Nat):Int)≠0
 omega
@[go_sem] theorem zLP {j:IntKind}{t:TypeId}{a b:Int}:zbF P .eql t (.int j a) (.int j b)=some (.bool (a==b)):=by simp[zbF,zdw]
@[go_sem] theorem zLD {j:IntKind}{t:TypeId}{a b:Int}:zbF P .neq t (.int j a) (.int j b)=some (.bool (a !=b)):=by simp[zbF,zdw]
@[go_sem] theorem zMt {j:IntKind}{t:TypeId}{a b:Int}:zbF P .lss t (.int j a) (.int j b)=some (.bool (decide (a<b))):=by simp[zbF,zdw]
@[go_sem] theorem zMF {j:IntKind}{t:TypeId}{a b:Int}:zbF P .leq t (.int j a) (.int j b)=some (.bool (decide (a≤b))):=by simp[zbF,zdw]
@[go_sem] theorem zNf {j:IntKind}{t:TypeId}{a b:Int}:zbF P .gtr t (.int j a) (.int j b)=some (.bool (decide (b<a))):=by simp[zbF,zdw]
@[go_sem] theorem zMG {j:IntKind}{t:TypeId}{a b:Int}:zbF P .geq t (.int j a) (.int j b)=some (.bool (decide (b≤a))):=by simp[zbF,zdw]
@[go_sem] theorem zMq {j:IntKind}{t:TypeId}{a b:Int}:zbF P .and t (.int j a) (.int j b)=some (.int j (j.wrap (BitVec.ofInt j.bits a&&&BitVec.ofInt j.bits b).toNat)):=by simp[zbF,zdw]
@[go_sem] theorem zNL {j:IntKind}{t:TypeId}{a b:Int}:zbF P .or t (.int j a) (.int j b)=some (.int j (j.wrap (BitVec.ofInt j.bits a|||BitVec.ofInt j.bits b).toNat)):=by simp[zbF,zdw]
@[go_sem] theorem zMn {j:IntKind}{t:TypeId}{a b:Int}:zbF P .xor t (.int j a) (.int j b)=some (.int j (j.wrap (BitVec.ofInt j.bits a^^^BitVec.ofInt j.bits b).toNat)):=by simp[zbF,zdw]
def zmM (b:Int) (x:Value):Option Value:=if b<0 then none else some x
@[go_sem] theorem zMj {j j':IntKind}{t:TypeId}{a b:Int}:zbF P .shl t (.int j a) (.int j' b)=zmM b (.int j (j.wrap (a*2^min b.toNat j.bits))):=by simp[zbF,zmM]
@[go_sem] theorem zLq {j j':IntKind}{t:TypeId}{a b:Int}:zbF P .shr t (.int j a) (.int j' b)=zmM b (.int j (a.fdiv (2^min b.toNat j.bits))):=by simp[zbF,zmM]
theorem zxC {b:Int}{x:Value}(h:0≤b):zmM b x=some x:=by simp[zmM];omega
@[go_sem] theorem zGP {t:TypeId}{a b:Bool}(h:zhI P t=true):zbF P .eql t (.bool a) (.bool b)=some (.bool (a==b)):=by simp[zbF,h]
@[go_sem] theorem zJI {t:TypeId}{a b:Bool}(h:zhI P t=true):zbF P .neq t (.bool a) (.bool b)=some (.bool (a !=b)):=by simp[zbF,h]
@[go_sem] theorem zHR {t:TypeId}{a b:List Value}{o:List Nat}(h:zkP P t=some o):zbF P .eql t (.agg a.toArray) (.agg b.toArray)=(eqL a b o).map .bool:=by simp[zbF,h]
@[go_sem] theorem zGD {t:TypeId}{a b:List Value}{o:List Nat}(h:zkP P t=some o):zbF P .neq t (.agg a.toArray) (.agg b.toArray)=(eqL a b o).map fun r=>.bool !r:=by simp[zbF,h]
@[go_sem] theorem zRp {j i:IntKind}{a b x y:Int}:eqL [.int j a,.int i b] [.int j x,.int i y] [0,1]=some (a==x&&b==y):=by simp[eqL]
@[go_sem] theorem zJt {t:TypeId}{a b:ByteArray}:zbF P .eql t (.string a) (.string b)=some (.bool (a.toList==b.toList)):=(rfl)
@[go_sem] theorem zG6 {t:TypeId}{a b:ByteArray}(h:a.size+b.size≤9223372036854775807):zbF P .add t (.string a) (.string b)=some (.string (a++b)):=by simp[zbF,h]
@[go_sem] theorem zPG {s:TypeId}{x:Operand}(h:zhj P s=true):bsE P s pf x=(srO 1 pf x).bind fun z=>(zhS z.1).map fun ns=>(.v (.str (zgx ns)),z.2):=by unfold bsE;rw[if_pos h]
@[go_sem] theorem zFh:zhS []=some []:=(rfl)
@[go_sem] theorem zsA {n:Int}{rs:List (List PV)}:zhS ([.int .u8 n]::rs)=(zhS rs).map (n:: ·):=(rfl)
@[go_sem] theorem zE8 {f:Int→List PV}(h:∀x,f x=[.int .u8 x]) {l:List Int}:zhS (l.map f)=some l:=by
 induction l with
 |nil=>rfl
 |cons x l ih=>rw[List.map_cons,h,zsA,ih];rfl
@[go_sem] theorem zHX {t:TypeId}{a b:ByteArray}:zbF P .neq t (.string a) (.string b)=some (.bool !(a.toList==b.toList)):=(rfl)
@[go_sem] theorem zOe {b:Bool}:unV .not (.bool b)=some (.bool !b):=(rfl)
@[go_sem] theorem zPj {j:IntKind}{n:Int}:unV .neg (.int j n)=some (.int j (j.wrap (0-n))):=(rfl)
@[go_sem] theorem zB2 {j:IntKind}{a b:Int}:zf6 true (.int j a) (.int j b)=some (.int j (if a<b then b else a)):=by simp[zf6]
@[go_sem] theorem zDt {j:IntKind}{a b:Int}:zf6 false (.int j a) (.int j b)=some (.int j (if b<a then b else a)):=by simp[zf6]
end
end Go.Pm
