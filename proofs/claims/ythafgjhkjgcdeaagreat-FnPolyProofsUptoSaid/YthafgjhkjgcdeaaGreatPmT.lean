import Derived.Test.YthafgjhkjgcdeaaGreatPmS
namespace Go.Pm
open Go.Am
section
variable {P:Program}{c co:Cfg}{k:List PIt}{Q:Exit→PFr→Prop}{pf:PFr}
@[go_sem] theorem zJ7 {a:Nat}{b f h:List Nat}:Cfg.nohp ⟨a,b,f,h⟩=⟨a,b,f,[]⟩:=(rfl)
@[go_sem ↓] theorem zEa {id:Nat}{ops:List Oper}:pw P c (.code (.region id ops.toArray false)::k) Q pf=pw P c (.ops (ops.map (·.dst)) ops::k) Q pf:=by
 show pwp P c (.region id ops.toArray false) (zcb P c k Q) pf=_
 simp only[pwp,Bool.false_eq_true,if_false]
 rfl
@[go_sem ↓] theorem zDK {pre:List (Option Tmp)}:pw P c (.ops pre []::k) Q pf=pw P c k Q pf:=rfl
def pw1 (P:Program) (c co:Cfg) (ty:TypeId) (op:Op) (d:Option Tmp) (k:List PIt) (Q:Exit→PFr→Prop) (pf:PFr):Prop:=pop P co ⟨d,op,ty, "",#[],none⟩ (pw P c k Q) pf
theorem ztD {o o':Oper}{K:PFr→Prop}(h:o.op=o'.op) (hd:o.dst=o'.dst) (ht:o.type=o'.type):pop P c o K pf=pop P c o' K pf:=by
 obtain⟨d,op,ty,ps,af,g⟩:=o
 obtain⟨d',op',ty',ps',af',g'⟩:=o'
 simp only at h hd ht
 subst h;subst hd;subst ht
 rfl
@[go_sem ↓] theorem zOF {pre:List (Option Tmp)}{d:Option Tmp}{op:Op}{ty:TypeId}{ps:String}{af:Array Edge}{l:List Oper}:
 pw P c (.ops pre (⟨d,op,ty,ps,af,none⟩::l)::k) Q pf=pw1 P c c ty op d (.ops pre l::k) Q pf:=by
 show zk9 P c pre ⟨d,op,ty,ps,af,none⟩ (pw P c (.ops pre l::k) Q) pf=_
 simp only[zk9]
 exact ztD rfl rfl rfl
def pwg (P:Program) (c:Cfg) (y:Option (Option Bool)) (b:Bool) (ty:TypeId) (op:Op) (d:Option Tmp) (k:List PIt) (Q:Exit→PFr→Prop) (pf:PFr):Prop:=
 pgo c b d (pw1 P c c ty op d k Q pf) (pw P c k Q) pf y
theorem zuv {y y':Option (Option Bool)}{b:Bool}{ty:TypeId}{op:Op}{d:Option Tmp}(h:y=y'):pwg P c y b ty op d k Q pf=pwg P c y' b ty op d k Q pf:=by rw[h]
@[go_sem ↓] theorem zMW {pre:List (Option Tmp)}{d:Option Tmp}{op:Op}{ty:TypeId}{ps:String}{af:Array Edge}{j:Nat}{b:Bool}{l:List Oper}:
 pw P c (.ops pre (⟨d,op,ty,ps,af,some (j,b)⟩::l)::k) Q pf=pwg P c (ygP pf pre[j]?) b ty op d (.ops pre l::k) Q pf:=by
 show zk9 P c pre ⟨d,op,ty,ps,af,some (j,b)⟩ (pw P c (.ops pre l::k) Q) pf=_
 simp only[zk9]
 unfold pwg pw1
 rw[ztD (o:=⟨d,op,ty,ps,af,some (j,b)⟩) (o':=⟨d,op,ty, "",#[],none⟩) rfl rfl rfl]
@[go_sem] theorem zIf {d:Tmp}:ygP pf (some (some d))=ygV (pf d):=(rfl)
@[go_sem] theorem zGo {b:Bool}:ygV (.v (.bool b))=some (some b):=(rfl)
@[go_sem] theorem zHn:ygV .skip=some none:=(rfl)
@[go_sem ↓] theorem zNl {ty:TypeId}{op:Op}{d:Option Tmp}:pwg P c (some (some true)) true ty op d k Q pf=pw1 P c c ty op d k Q pf:=by simp[pwg,pgo]
@[go_sem ↓] theorem zN5 {ty:TypeId}{op:Op}{d:Option Tmp}:pwg P c (some (some false)) false ty op d k Q pf=pw1 P c c ty op d k Q pf:=by simp[pwg,pgo]
@[go_sem ↓] theorem zN4 {ty:TypeId}{op:Op}{d:Tmp}(h:ckd c d .skip=true):pwg P c (some (some true)) false ty op (some d) k Q pf=pw P c k Q (pf.put d .skip):=by simp[pwg,pgo,zh7,h]
@[go_sem ↓] theorem zMq {ty:TypeId}{op:Op}{d:Tmp}(h:ckd c d .skip=true):pwg P c (some (some false)) true ty op (some d) k Q pf=pw P c k Q (pf.put d .skip):=by simp[pwg,pgo,zh7,h]
@[go_sem ↓] theorem zOz {b:Bool}{ty:TypeId}{op:Op}{d:Tmp}(h:ckd c d .skip=true):pwg P c (some none) b ty op (some d) k Q pf=pw P c k Q (pf.put d .skip):=by simp[pwg,pgo,zh7,h]
theorem zt2 {y b:Bool}{ty:TypeId}{op:Op}{d:Option Tmp}(h1:y=true→pwg P c (some (some true)) b ty op d k Q pf) (h2:y=false→pwg P c (some (some false)) b ty op d k Q pf):pwg P c (some (some y)) b ty op d k Q pf:=by
 cases y
 ·exact h2 rfl
 ·exact h1 rfl
def qv (P:Program) (c co:Cfg) (x:Option (PF×PFr)) (d:Option Tmp) (k:List PIt) (Q:Exit→PFr→Prop):Prop:=
 match x with
 |some a=>zbR co (pw P c k Q) d a.1 a.2
 |none=>False
def qz (P:Program) (c:Cfg) (d:Nat) (k:List PIt) (Q:Exit→PFr→Prop) (x:Option (PF×PFr)):Prop:=pfz (pw P c k Q) d x
theorem zvT {x x':Option (PF×PFr)}{d:Option Tmp}(h:x=x'):qv P c co x d k Q=qv P c co x' d k Q:=by rw[h]
theorem zvj {x x':Option (PF×PFr)}{d:Nat}(h:x=x'):qz P c d k Q x=qz P c d k Q x':=by rw[h]
@[go_sem ↓] theorem zKC {y:PF}{d:Tmp}(h:ckd co d y=true) (hf:co.fz.contains d=false):qv P c co (some (y,pf)) (some d) k Q=pw P c k Q (pf.put d y):=by simp only[qv,zbR,h,hf];simp
@[go_sem ↓] theorem zPI {y:PF}{d:Tmp}(h:ckd co d y=true) (hf:co.fz.contains d=true):qv P c co (some (y,pf)) (some d) k Q=qz P c d k Q (zjy pf y):=by simp only[qv,zbR,h,hf];simp[qz]
@[go_sem ↓] theorem zMv {y:PF}:qv P c co (some (y,pf)) none k Q=pw P c k Q pf:=rfl
@[go_sem ↓] theorem zLb {y:PF}{d:Nat}:qz P c d k Q (some (y,pf))=pw P c k Q (pf.put d y):=rfl
def qf (P:Program) (c:Cfg) (x:Option PFr) (k:List PIt) (Q:Exit→PFr→Prop):Prop:=
 match x with
 |some pf=>pw P c k Q pf
 |none=>False
theorem zv0 {x x':Option PFr}(h:x=x'):qf P c x k Q=qf P c x' k Q:=by rw[h]
@[go_sem ↓] theorem zL2:qf P c (some pf) k Q=pw P c k Q pf:=rfl
attribute [congr] zvH zuv zvT zvj zv0
@[go_sem] theorem zMI {d:Nat}{y:PF}:ckd c d y=(decide (d<c.nt)&& !c.io.contains d&& !(zaq y==some d)):=(rfl)
@[go_sem] theorem zLM {x:PV}:zaq (.v x)=none:=(rfl)
@[go_sem] theorem zAV:zaq .skip=none:=(rfl)
@[go_sem] theorem zHc {es:Nat}{r:List (List PV)}:zaq (.ls es r)=none:=(rfl)
@[go_sem] theorem zFh {r:List PV}:zaq (.bl r)=none:=(rfl)
@[go_sem] theorem zGF {s i j:Nat}{p:zad}:zaq (.pt s p i j)=some s:=(rfl)
@[go_sem] theorem zHM {s:Nat}{p:zad}:zaq (.rf s p)=some s:=(rfl)
@[go_sem] theorem zFd {s lo hi:Nat}{p:zad}:zaq (.rv s p lo hi)=some s:=(rfl)
@[go_sem] theorem zHH {b:Bool}{s i j n:Nat}{p:zad}:zaq (.as b s p i j n)=some s:=(rfl)
@[go_sem] theorem zFi {s:Nat}{g:FuncId}{us:List PV}:zaq (.cl s g us)=some s:=(rfl)
@[go_sem] theorem zFo {s i j n:Nat}{p:zad}:zaq (.ra s p i j n)=some s:=(rfl)
@[go_sem] theorem zLL {d t:Nat}{x:PF}:PFr.put pf d x t=if t=d then x else zca d (pf t):=(rfl)
@[go_sem] theorem zJK {d t:Nat}{x:PF}:PFr.upd pf d x t=if t=d then x else pf t:=(rfl)
@[go_sem] theorem zF8 {s n t:Nat}:PFr.kill pf s n t=za4 s n (pf t):=(rfl)
@[go_sem] theorem zJu {d:Nat}{x:PV}:zca d (.v x)=.v x:=(rfl)
@[go_sem] theorem zBP {d:Nat}:zca d .skip=.skip:=(rfl)
@[go_sem] theorem zE8 {d es:Nat}{r:List (List PV)}:zca d (.ls es r)=.ls es r:=(rfl)
@[go_sem] theorem zGZ {d:Nat}{r:List PV}:zca d (.bl r)=.bl r:=(rfl)
@[go_sem] theorem zH8 {d s i j:Nat}{p:zad}:zca d (.pt s p i j)=if s=d then jP else .pt s p i j:=by simp[zca,zaq]
@[go_sem] theorem zIy {d s:Nat}{p:zad}:zca d (.rf s p)=if s=d then jP else .rf s p:=by simp[zca,zaq]
@[go_sem] theorem zFE {d s lo hi:Nat}{p:zad}:zca d (.rv s p lo hi)=if s=d then jP else .rv s p lo hi:=by simp[zca,zaq]
@[go_sem] theorem zGk {b:Bool}{d s i j n:Nat}{p:zad}:zca d (.as b s p i j n)=if s=d then jP else .as b s p i j n:=by simp[zca,zaq]
@[go_sem] theorem zII {d s:Nat}{g:FuncId}{us:List PV}:zca d (.cl s g us)=if s=d then jP else .cl s g us:=by simp[zca,zaq]
@[go_sem] theorem zHv {d s i j n:Nat}{p:zad}:zca d (.ra s p i j n)=if s=d then jP else .ra s p i j n:=by simp[zca,zaq]
@[go_sem] theorem zKK {d:Nat}:zca d jP=jP:=(rfl)
@[go_sem] theorem zJF {s n:Nat}{x:PV}:za4 s n (.v x)=.v x:=by simp[za4,zaq]
@[go_sem] theorem zA8 {s n:Nat}:za4 s n .skip=.skip:=by simp[za4,zaq]
@[go_sem] theorem zHU {s n es:Nat}{r:List (List PV)}:za4 s n (.ls es r)=.ls es r:=by simp[za4,zaq]
@[go_sem] theorem zGp {s n:Nat}{r:List PV}:za4 s n (.bl r)=.bl r:=by simp[za4,zaq]
@[go_sem] theorem zIo {s n s' i j:Nat}{p:zad}:za4 s n (.pt s' p i j)=if s'=s∧n≤p.length then jP else .pt s' p i j:=by simp[za4,zaq,zfT]
@[go_sem] theorem zHd {s n s':Nat}{p:zad}:za4 s n (.rf s' p)=if s'=s∧n≤p.length then jP else .rf s' p:=by simp[za4,zaq,zfT]
@[go_sem] theorem zIQ {s n s' lo hi:Nat}{p:zad}:za4 s n (.rv s' p lo hi)=if s'=s∧n≤p.length then jP else .rv s' p lo hi:=by simp[za4,zaq,zfT]
@[go_sem] theorem zHy {b:Bool}{s n s' i j m:Nat}{p:zad}:za4 s n (.as b s' p i j m)=if s'=s∧n≤p.length+1 then jP else .as b s' p i j m:=by simp[za4,zaq,zfT]
@[go_sem] theorem zGl {s n s':Nat}{g:FuncId}{us:List PV}:za4 s n (.cl s' g us)=if s'=s∧n≤0 then jP else .cl s' g us:=by simp[za4,zaq,zfT]
@[go_sem] theorem zGd {s n s' i j m:Nat}{p:zad}:za4 s n (.ra s' p i j m)=if s'=s∧n≤p.length+1 then jP else .ra s' p i j m:=by simp[za4,zaq,zfT]
@[go_sem] theorem zLu {s n:Nat}:za4 s n jP=jP:=by simp[za4,zaq,jP]
@[go_sem] theorem zHh {s:Nat}{x:PF}{l:List (Nat×PF)}{t:Nat}:PFr.ofL ((s,x)::l) t=if t=s then x else PFr.ofL l t:=(rfl)
@[go_sem] theorem zLx {t:Nat}:PFr.ofL [] t=jP:=(rfl)
@[go_sem] theorem zEL {as:List (Md×PV)}{t:Nat}:zgV as t=zoc as[t]? :=(rfl)
@[go_sem] theorem zEn {m:Md}{x:PV}:zoc (some (m,x))=.v x:=(rfl)
@[go_sem] theorem zDY:zoc none=jP:=(rfl)
@[go_sem] theorem zQp:isJ .junk=true:=(rfl)
@[go_sem] theorem zFp {b:Bool}:isJ (.bool b)=false:=(rfl)
@[go_sem] theorem zLW {j:IntKind}{n:Int}:isJ (.int j n)=false:=(rfl)
@[go_sem] theorem zLm {s:ByteArray}:isJ (.str s)=false:=(rfl)
@[go_sem] theorem zMP {o:Bool}{es:Nat}{r:List (List PV)}:isJ (.sl o es r)=false:=(rfl)
@[go_sem] theorem zNo {r:List PV}:isJ (.fp r)=false:=(rfl)
@[go_sem] theorem zNs {r:List PV}:isJ (.bx r)=false:=(rfl)
@[go_sem] theorem zFq {f:Fn}{a b:List PV}:isJ (.func f a b)=false:=(rfl)
@[go_sem] theorem zJC {r:List PV}:isJ (.agg r)=false:=(rfl)
@[go_sem] theorem zKc {r:List PV}:isJ (.tup r)=false:=(rfl)
@[go_sem] theorem zHk:isJ .nilf=false:=(rfl)
@[go_sem] theorem zIM:isJ .nilp=false:=(rfl)
@[go_sem] theorem zFz:isJ .nili=false:=(rfl)
@[go_sem] theorem zNX:zaG .junk=false:=by simp[zaG]
@[go_sem] theorem zD1 {b:Bool}:zaG (.bool b)=false:=by simp[zaG]
@[go_sem] theorem zH5 {j:IntKind}{n:Int}:zaG (.int j n)=false:=by simp[zaG]
@[go_sem] theorem zGb {s:ByteArray}:zaG (.str s)=false:=by simp[zaG]
@[go_sem] theorem zKW {r:List PV}:zaG (.fp r)=false:=by simp[zaG]
@[go_sem] theorem zEm {f:Fn}{a b:List PV}:zaG (.func f a b)=false:=by simp[zaG]
@[go_sem] theorem zEZ:zaG .nilf=false:=by simp[zaG]
@[go_sem] theorem zEh:zaG .nilp=false:=by simp[zaG]
@[go_sem] theorem zE6:zaG .nili=false:=by simp[zaG]
attribute [go_sem] ziK zrP zg7 zqc zhM zof zmP zpM zmS zqu zoO zoX
@[go_sem] theorem zNV:drop .junk=.junk:=by simp[drop]
@[go_sem] theorem zEG {b:Bool}:drop (.bool b)=.bool b:=by simp[drop]
@[go_sem] theorem zIa {j:IntKind}{n:Int}:drop (.int j n)=.int j n:=by simp[drop]
@[go_sem] theorem zIs {s:ByteArray}:drop (.str s)=.str s:=by simp[drop]
@[go_sem] theorem zJc {r:List PV}:drop (.fp r)=.fp r:=by simp[drop]
@[go_sem] theorem zE5 {f:Fn}{a b:List PV}:drop (.func f a b)=.func f a b:=by simp[drop]
@[go_sem] theorem zEt:drop .nilf=.nilf:=by simp[drop]
@[go_sem] theorem zDS:drop .nilp=.nilp:=by simp[drop]
@[go_sem] theorem zD8:drop .nili=.nili:=by simp[drop]
@[go_sem] theorem zL1:zaY .junk=true:=by simp[zaY]
@[go_sem] theorem zCO {b:Bool}:zaY (.bool b)=true:=by simp[zaY]
@[go_sem] theorem zDZ {j:IntKind}{n:Int}:zaY (.int j n)=true:=by simp[zaY]
@[go_sem] theorem zE0 {s:ByteArray}:zaY (.str s)=true:=by simp[zaY]
@[go_sem] theorem zIS {r:List PV}:zaY (.fp r)=false:=by simp[zaY]
@[go_sem] theorem zBl {f:Fn}{a b:List PV}:zaY (.func f a b)=false:=by simp[zaY]
@[go_sem] theorem zCq:zaY .nilf=true:=by simp[zaY]
@[go_sem] theorem zBy {j:IntKind}{n:Int}:zfr (.int j n)=true:=(rfl)
@[go_sem] theorem zAx {b:Bool}:zfr (.bool b)=true:=(rfl)
@[go_sem] theorem zC8 {s:ByteArray}:zfr (.str s)=true:=(rfl)
@[go_sem] theorem zEv {o:Bool}{es:Nat}{r:List (List PV)}:zfr (.sl o es r)=true:=(rfl)
@[go_sem] theorem zEI {r:List PV}:zfr (.bx r)=true:=(rfl)
@[go_sem] theorem zEN {r:List PV}:zfr (.fp r)=true:=(rfl)
@[go_sem] theorem zAA {f:Fn}{a b:List PV}:zfr (.func f a b)=true:=(rfl)
@[go_sem] theorem zAB {j:IntKind}{n:Int}:zcm (.int j n)=true:=(rfl)
@[go_sem] theorem zx0 {b:Bool}:zcm (.bool b)=true:=(rfl)
@[go_sem] theorem zAg {s:ByteArray}:zcm (.str s)=true:=(rfl)
@[go_sem] theorem zCZ {o:Bool}{es:Nat}{r:List (List PV)}:zcm (.sl o es r)=true:=(rfl)
@[go_sem] theorem zAt {r:List PV}:zcm (.agg r)=true:=(rfl)
@[go_sem] theorem zCJ {r:List PV}:zcm (.bx r)=true:=(rfl)
@[go_sem] theorem zDw {r:List PV}:zcm (.fp r)=true:=(rfl)
@[go_sem] theorem zyq {f:Fn}{a b:List PV}:zcm (.func f a b)=true:=(rfl)
@[go_sem] theorem zBr {j:IntKind}{n:Int}:zaE (.int j n)=[.int j n]:=(rfl)
@[go_sem] theorem zAr {b:Bool}:zaE (.bool b)=[.bool b]:=(rfl)
@[go_sem] theorem zBU {s:ByteArray}:zaE (.str s)=[.str s]:=(rfl)
@[go_sem] theorem zEp {o:Bool}{es:Nat}{r:List (List PV)}:zaE (.sl o es r)=[.sl o es r]:=(rfl)
@[go_sem] theorem zB2 {r:List PV}:zaE (.agg r)=r:=(rfl)
@[go_sem] theorem zDU {r:List PV}:zaE (.bx r)=[.bx r]:=(rfl)
@[go_sem] theorem zEP {r:List PV}:zaE (.fp r)=[.fp r]:=(rfl)
@[go_sem] theorem zAn {f:Fn}{a b:List PV}:zaE (.func f a b)=[.func f a b]:=(rfl)
@[go_sem] theorem zEJ {e:Nat}{b:Bool}:zgr e (.bool b)=.bool b:=(rfl)
@[go_sem] theorem zIg {e:Nat}{j:IntKind}{n:Int}:zgr e (.int j n)=.int j n:=(rfl)
@[go_sem] theorem zGe {e:Nat}{s:ByteArray}:zgr e (.string s)=.str s:=(rfl)
@[go_sem] theorem zF5 {e:Nat}:zgr e (.slice none 0 0)=.sl true e []:=(rfl)
@[go_sem] theorem zDR {e:Nat}:zgr e .nilFunc=.nilf:=(rfl)
@[go_sem] theorem zL9 {j:IntKind}{n:Int}:zas (.int j n)=true:=(rfl)
@[go_sem] theorem zIL {b:Bool}:zas (.bool b)=true:=(rfl)
@[go_sem] theorem zJr {b:ByteArray}:zas (.string b)=true:=(rfl)
@[go_sem] theorem zKu:zas (.slice none 0 0)=true:=(rfl)
@[go_sem] theorem zFL:zas .nilFunc=true:=(rfl)
@[go_sem] theorem zJS {t:Tmp}:rdS pf (.tmp t)=zox (pf t):=(rfl)
@[go_sem] theorem zOj {x:PV}:zox (.v x)=toS x:=(rfl)
@[go_sem] theorem zEV:zox .skip=none:=(rfl)
@[go_sem] theorem zHj {b:Bool}:toS (.bool b)=some (.bool b):=(rfl)
@[go_sem] theorem zJn {j:IntKind}{n:Int}:toS (.int j n)=some (.int j n):=(rfl)
@[go_sem] theorem zLl {s:ByteArray}:toS (.str s)=some (.string s):=(rfl)
@[go_sem] theorem zLh {l:List PV}:toS (.agg l)=(zkn l).map fun l=>.agg l.toArray:=(rfl)
@[go_sem] theorem zIj:zkn []=some []:=(rfl)
@[go_sem] theorem zGB {j:IntKind}{n:Int}{r:List PV}:zkn (.int j n::r)=(zkn r).map fun l=>.int j n::l:=(rfl)
@[go_sem] theorem zKy {j:IntKind}{n:Int}:rdS pf (.const (.int j n))=some (.int j n):=(rfl)
@[go_sem] theorem zG8 {b:Bool}:rdS pf (.const (.bool b))=some (.bool b):=(rfl)
@[go_sem] theorem zLV {b:ByteArray}:rdS pf (.const (.string b))=some (.string b):=(rfl)
@[go_sem] theorem zDI {b:Bool}:zeE (.bool b)=some (.bool b):=(rfl)
@[go_sem] theorem zEQ {j:IntKind}{n:Int}:zeE (.int j n)=some (.int j n):=(rfl)
@[go_sem] theorem zEy {s:ByteArray}:zeE (.string s)=some (.str s):=(rfl)
def ev1 (f:Value→Option Value) (x:Option Value) (pf:PFr):Option (PF×PFr):=(x.bind fun a=>(f a).bind zeE).map fun y=>(.v y,pf)
def ev2 (f:Value→Value→Option Value) (x y:Option Value) (pf:PFr):Option (PF×PFr):=(x.bind fun a=>y.bind fun b=>(f a b).bind zeE).map fun y=>(.v y,pf)
def fin (x:Option Value) (pf:PFr):Option (PF×PFr):=(x.bind zeE).map fun y=>(.v y,pf)
@[go_sem] theorem zGH {f:Value→Option Value}{a:Value}:ev1 f (some a) pf=fin (f a) pf:=(rfl)
@[go_sem] theorem zGm {f:Value→Value→Option Value}{a b:Value}:ev2 f (some a) (some b) pf=fin (f a b) pf:=(rfl)
@[go_sem] theorem zHm {b:Bool}:fin (some (.bool b)) pf=some (.v (.bool b),pf):=(rfl)
@[go_sem] theorem zJj {j:IntKind}{n:Int}:fin (some (.int j n)) pf=some (.v (.int j n),pf):=(rfl)
@[go_sem] theorem zKe {s:ByteArray}:fin (some (.string s)) pf=some (.v (.str s),pf):=(rfl)
theorem zg0 {o:Oper}{x:Option (PF×PFr)}(h:(((zbq o.op).bind (zhr pf)).bind fun vs=>(zbm P o.op vs).bind zeE).map (fun y=>(PF.v y,pf))=x):zeG P co o (pw P c k Q) pf=qv P c co x o.dst k Q:=by
 subst h
 unfold zeG
 cases (zbq o.op).bind (zhr pf)with
 |none=>rfl
 |some vs=>
  simp only[Option.bind_some]
  cases (zbm P o.op vs).bind zeE<;>rfl
@[go_sem ↓] theorem zGq {ty t:TypeId}{op:UnOp}{x:Operand}{d:Option Tmp}:pw1 P c co ty (.unOp op t x) d k Q pf=qv P c co (ev1 (unV op) (rdS pf x) pf) d k Q:=by
 refine zg0 (o:=⟨d,.unOp op t x,ty, "",#[],none⟩) ?_
 simp only[zbq,zhr,Option.bind_some]
 cases rdS pf x<;>simp[zbm,ev1]
theorem zoK {ty s t:TypeId}{x:Operand}{d:Tmp}(ht:zaT P t=true) (hp:co.hp≠[]∨lsP pf x=true):pw1 P c co ty (.convert s t x) (some d) k Q pf=qv P c co (bsE P s pf x) (some d) k Q:=by
 show(if zaT P t=true then(co.hp≠[]∨lsP pf x=true)∧zio P co s t x (some d) (pw P c k Q) pf else _)=_
 rw[if_pos ht]
 unfold zio qv
 cases bsE P s pf x with
 |none=>simp[hp]
 |some z=>simp[hp,ht]
@[go_sem ↓] theorem zIK {ty s t:TypeId}{x:Operand}{d:Tmp}(ht:zaT P t=true) (hp:co.hp.isEmpty=false):pw1 P c co ty (.convert s t x) (some d) k Q pf=qv P c co (bsE P s pf x) (some d) k Q:=zoK ht (.inl fun e=>by rw[e]at hp;cases hp)
@[go_sem] theorem zGS {rows:List (List PV)}:znk (.ls 1 rows)=true:=(rfl)
@[go_sem ↓] theorem zEg {ty s t:TypeId}{u:Nat}{d:Tmp}(ht:zaT P t=true) (hl:znk (pf u)=true):pw1 P c co ty (.convert s t (.tmp u)) (some d) k Q pf=qv P c co (bsE P s pf (.tmp u)) (some d) k Q:=zoK ht (.inr hl)
@[go_sem ↓] theorem zAp {ty s t:TypeId}{x:Operand}{d:Option Tmp}(ht:zaT P t=false):pw1 P c co ty (.convert s t x) d k Q pf=qv P c co (ev1 (zlQ P s t) (rdS pf x) pf) d k Q:=by
 have e:pw1 P c co ty (.convert s t x) d k Q pf=zeG P co ⟨d,.convert s t x,ty, "",#[],none⟩ (pw P c k Q) pf:=by
  show(if zaT P t=true then(co.hp≠[]∨lsP pf x=true)∧zio P co s t x d (pw P c k Q) pf else zeG P co ⟨d,.convert s t x,ty, "",#[],none⟩ (pw P c k Q) pf)=_
  rw[if_neg (by simp[ht])]
 rw[e]
 refine zg0 (o:=⟨d,.convert s t x,ty, "",#[],none⟩) ?_
 simp only[zbq,zhr,Option.bind_some]
 cases rdS pf x<;>simp[zbm,ev1]
@[go_sem] theorem zCR {t:Tmp}:zgP (.tmp t)=false:=(rfl)
@[go_sem] theorem zB0 {j:IntKind}{n:Int}:zgP (.const (.int j n))=false:=(rfl)
@[go_sem] theorem zAw {b:Bool}:zgP (.const (.bool b))=false:=(rfl)
@[go_sem] theorem zDk {s:ByteArray}:zgP (.const (.string s))=false:=(rfl)
@[go_sem ↓] theorem zEY {ty t u:TypeId}{op:BinOp}{x y:Operand}{d:Option Tmp}(hy:zgP y=false):pw1 P c co ty (.binOp op t x y u) d k Q pf=qv P c co (ev2 (zbF P op t) (rdS pf x) (rdS pf y) pf) d k Q:=by
 have e:pw1 P c co ty (.binOp op t x y u) d k Q pf=zeG P co ⟨d,.binOp op t x y u,ty, "",#[],none⟩ (pw P c k Q) pf:=by
  show pop P co ⟨d,.binOp op t x y u,ty, "",#[],none⟩ (pw P c k Q) pf=_
  simp only[pop,hy,Bool.false_eq_true,if_false]
 rw[e]
 refine zg0 (o:=⟨d,.binOp op t x y u,ty, "",#[],none⟩) ?_
 simp only[zbq,zhr,Option.bind_some]
 cases rdS pf x<;>cases rdS pf y<;>simp[zbm,ev2]
@[go_sem ↓] theorem zEU {ty t:TypeId}{x y:Operand}{d:Option Tmp}:pw1 P c co ty (.index t x y) d k Q pf=qv P c co (ev2 (zhz P t) (rdS pf x) (rdS pf y) pf) d k Q:=by
 refine zg0 (o:=⟨d,.index t x y,ty, "",#[],none⟩) ?_
 simp only[zbq,zhr,Option.bind_some]
 cases rdS pf x<;>cases rdS pf y<;>simp[zbm,ev2]
@[go_sem ↓] theorem zK0 {ty:TypeId}{x y:Operand}{ts:Array TypeId}{d:Option Tmp}:pw1 P c co ty (.call ⟨.builtin .min,#[x,y],ts⟩) d k Q pf=qv P c co (ev2 (zgb false) (rdS pf x) (rdS pf y) pf) d k Q:=by
 refine zg0 (o:=⟨d,.call ⟨.builtin .min,#[x,y],ts⟩,ty, "",#[],none⟩) ?_
 simp only[zbq,zhr,Option.bind_some]
 cases rdS pf x<;>cases rdS pf y<;>simp[zbm,ev2]
@[go_sem ↓] theorem zK5 {ty:TypeId}{x y:Operand}{ts:Array TypeId}{d:Option Tmp}:pw1 P c co ty (.call ⟨.builtin .max,#[x,y],ts⟩) d k Q pf=qv P c co (ev2 (zgb true) (rdS pf x) (rdS pf y) pf) d k Q:=by
 refine zg0 (o:=⟨d,.call ⟨.builtin .max,#[x,y],ts⟩,ty, "",#[],none⟩) ?_
 simp only[zbq,zhr,Option.bind_some]
 cases rdS pf x<;>cases rdS pf y<;>simp[zbm,ev2]
@[go_sem] theorem zF1 {s d:TypeId}{i j k:IntKind}{n:Int}(hs:zdC P s=some i) (hd:zdC P d=some k):zlQ P s d (.int j n)=some (.int k (k.wrap n)):=by
 unfold zlQ
 have:∃u,P.underlying s=some u:=by
  unfold zdC at hs;split at hs
  ·rename_i h;exact⟨_,h⟩
  ·cases hs
 obtain⟨u,hu⟩:=this
 rw[hu,hd]
@[go_sem] theorem zKV {j:IntKind}{t:TypeId}{a b:Int}:zbF P .add t (.int j a) (.int j b)=some (.int j (j.wrap (a+b))):=by simp[zbF,zdz]
@[go_sem] theorem zKD {j:IntKind}{t:TypeId}{a b:Int}:zbF P .sub t (.int j a) (.int j b)=some (.int j (j.wrap (a-b))):=by simp[zbF,zdz]
@[go_sem] theorem zJH {j:IntKind}{t:TypeId}{a b:Int}:zbF P .mul t (.int j a) (.int j b)=some (.int j (j.wrap (a*b))):=by simp[zbF,zdz]
def zjD (b:Int) (x:Value):Option Value:=if b=0 then none else some x
@[go_sem] theorem zLg {j:IntKind}{t:TypeId}{a b:Int}:zbF P .quo t (.int j a) (.int j b)=zjD b (.int j (j.wrap (a.tdiv b))):=by simp[zbF,zdz,zjD]
@[go_sem] theorem zJO {j:IntKind}{t:TypeId}{a b:Int}:zbF P .rem t (.int j a) (.int j b)=zjD b (.int j (a.tmod b)):=by simp[zbF,zdz,zjD]
theorem zoB {b:Int}{x:Value}(h:b≠0):zjD b x=some x:=by simp[zjD,h]
@[go_sem] theorem zIe {x:Value}{n:Nat}:zjD (OfNat.ofNat (n+1)) x=some x:=by
 refine zoB ?_
 show((n+1:Nat):Int)≠0
 omega
@[go_sem] theorem zI8 {j:IntKind}{t:TypeId}{a b:Int}:zbF P .eql t (.int j a) (.int j b)=some (.bool (a==b)):=by simp[zbF,zdz]
@[go_sem] theorem zJa {j:IntKind}{t:TypeId}{a b:Int}:zbF P .neq t (.int j a) (.int j b)=some (.bool (a !=b)):=by simp[zbF,zdz]
@[go_sem] theorem zJq {j:IntKind}{t:TypeId}{a b:Int}:zbF P .lss t (.int j a) (.int j b)=some (.bool (decide (a<b))):=by simp[zbF,zdz]
@[go_sem] theorem zKk {j:IntKind}{t:TypeId}{a b:Int}:zbF P .leq t (.int j a) (.int j b)=some (.bool (decide (a≤b))):=by simp[zbF,zdz]
@[go_sem] theorem zLw {j:IntKind}{t:TypeId}{a b:Int}:zbF P .gtr t (.int j a) (.int j b)=some (.bool (decide (b<a))):=by simp[zbF,zdz]
@[go_sem] theorem zMe {j:IntKind}{t:TypeId}{a b:Int}:zbF P .geq t (.int j a) (.int j b)=some (.bool (decide (b≤a))):=by simp[zbF,zdz]
@[go_sem] theorem zKL {j:IntKind}{t:TypeId}{a b:Int}:zbF P .and t (.int j a) (.int j b)=some (.int j (j.wrap (BitVec.ofInt j.bits a&&&BitVec.ofInt j.bits b).toNat)):=by simp[zbF,zdz]
@[go_sem] theorem zNu {j:IntKind}{t:TypeId}{a b:Int}:zbF P .or t (.int j a) (.int j b)=some (.int j (j.wrap (BitVec.ofInt j.bits a|||BitVec.ofInt j.bits b).toNat)):=by simp[zbF,zdz]
@[go_sem] theorem zKt {j:IntKind}{t:TypeId}{a b:Int}:zbF P .xor t (.int j a) (.int j b)=some (.int j (j.wrap (BitVec.ofInt j.bits a^^^BitVec.ofInt j.bits b).toNat)):=by simp[zbF,zdz]
def zmG (b:Int) (x:Value):Option Value:=if b<0 then none else some x
@[go_sem] theorem zLN {j j':IntKind}{t:TypeId}{a b:Int}:zbF P .shl t (.int j a) (.int j' b)=zmG b (.int j (j.wrap (a*2^min b.toNat j.bits))):=by simp[zbF,zmG]
@[go_sem] theorem zJe {j j':IntKind}{t:TypeId}{a b:Int}:zbF P .shr t (.int j a) (.int j' b)=zmG b (.int j (a.fdiv (2^min b.toNat j.bits))):=by simp[zbF,zmG]
theorem zxi {b:Int}{x:Value}(h:0≤b):zmG b x=some x:=by simp[zmG];omega
@[go_sem] theorem zHW {t:TypeId}{a b:Bool}(h:zhS P t=true):zbF P .eql t (.bool a) (.bool b)=some (.bool (a==b)):=by simp[zbF,h]
@[go_sem] theorem zI6 {t:TypeId}{a b:Bool}(h:zhS P t=true):zbF P .neq t (.bool a) (.bool b)=some (.bool (a !=b)):=by simp[zbF,h]
@[go_sem] theorem zI4 {t:TypeId}{a b:List Value}{o:List Nat}(h:zkB P t=some o):zbF P .eql t (.agg a.toArray) (.agg b.toArray)=(eqL a b o).map .bool:=by simp[zbF,h]
@[go_sem] theorem zHz {t:TypeId}{a b:List Value}{o:List Nat}(h:zkB P t=some o):zbF P .neq t (.agg a.toArray) (.agg b.toArray)=(eqL a b o).map fun r=>.bool !r:=by simp[zbF,h]
@[go_sem] theorem zOV {j i:IntKind}{a b x y:Int}:eqL [.int j a,.int i b] [.int j x,.int i y] [0,1]=some (a==x&&b==y):=by simp[eqL]
@[go_sem] theorem zGv {t:TypeId}{a b:ByteArray}:zbF P .eql t (.string a) (.string b)=some (.bool (a.toList==b.toList)):=(rfl)
@[go_sem] theorem zFw {t:TypeId}{a b:ByteArray}(h:a.size+b.size≤9223372036854775807):zbF P .add t (.string a) (.string b)=some (.string (a++b)):=by simp[zbF,h]
@[go_sem] theorem zPg {s:TypeId}{x:Operand}(h:zhs P s=true):bsE P s pf x=(srO 1 pf x).bind fun z=>(zh6 z.1).map fun ns=>(.v (.str (zgx ns)),z.2):=by unfold bsE;rw[if_pos h]
@[go_sem] theorem zD5:zh6 []=some []:=(rfl)
@[go_sem] theorem ztf {n:Int}{rs:List (List PV)}:zh6 ([.int .u8 n]::rs)=(zh6 rs).map (n:: ·):=(rfl)
@[go_sem] theorem zEz {f:Int→List PV}(h:∀x,f x=[.int .u8 x]) {l:List Int}:zh6 (l.map f)=some l:=by
 induction l with
 |nil=>rfl
 |cons x l ih=>rw[List.map_cons,h,ztf,ih];rfl
@[go_sem] theorem zG0 {t:TypeId}{a b:ByteArray}:zbF P .neq t (.string a) (.string b)=some (.bool !(a.toList==b.toList)):=(rfl)
@[go_sem] theorem zNJ {b:Bool}:unV .not (.bool b)=some (.bool !b):=(rfl)
@[go_sem] theorem zN7 {j:IntKind}{n:Int}:unV .neg (.int j n)=some (.int j (j.wrap (0-n))):=(rfl)
@[go_sem] theorem zBG {j:IntKind}{a b:Int}:zgb true (.int j a) (.int j b)=some (.int j (if a<b then b else a)):=by simp[zgb]
@[go_sem] theorem zB9 {j:IntKind}{a b:Int}:zgb false (.int j a) (.int j b)=some (.int j (if b<a then b else a)):=by simp[zgb]
end
end Go.Pm
