import Derived.Test.YtekoabfndgochaaGreatDoorPmS
namespace Go.Pm
open Go.Am
section
variable {P:Program}{c co:Cfg}{k:List PIt}{Q:Exit→PFr→Prop}{pf:PFr}
@[go_sem] theorem zNz {a:Nat}{b f h:List Nat}:Cfg.nohp ⟨a,b,f,h⟩=⟨a,b,f,[]⟩:=(rfl)
@[go_sem ↓] theorem zGx {id:Nat}{ops:List Oper}:pw P c (.code (.region id ops.toArray false)::k) Q pf=pw P c (.ops (ops.map (·.dst)) ops::k) Q pf:=by
 show pwp P c (.region id ops.toArray false) (zbT P c k Q) pf=_
 simp only[pwp,Bool.false_eq_true,if_false]
 rfl
@[go_sem ↓] theorem zEd {pre:List (Option Tmp)}:pw P c (.ops pre []::k) Q pf=pw P c k Q pf:=rfl
def pw1 (P:Program) (c co:Cfg) (ty:TypeId) (op:Op) (d:Option Tmp) (k:List PIt) (Q:Exit→PFr→Prop) (pf:PFr):Prop:=pop P co ⟨d,op,ty, "",#[],none⟩ (pw P c k Q) pf
theorem zvX {o o':Oper}{K:PFr→Prop}(h:o.op=o'.op) (hd:o.dst=o'.dst) (ht:o.type=o'.type):pop P c o K pf=pop P c o' K pf:=by
 obtain⟨d,op,ty,ps,af,g⟩:=o
 obtain⟨d',op',ty',ps',af',g'⟩:=o'
 simp only at h hd ht
 subst h;subst hd;subst ht
 rfl
@[go_sem ↓] theorem zQ9 {pre:List (Option Tmp)}{d:Option Tmp}{op:Op}{ty:TypeId}{ps:String}{af:Array Edge}{l:List Oper}:
 pw P c (.ops pre (⟨d,op,ty,ps,af,none⟩::l)::k) Q pf=pw1 P c c ty op d (.ops pre l::k) Q pf:=by
 show zmp P c pre ⟨d,op,ty,ps,af,none⟩ (pw P c (.ops pre l::k) Q) pf=_
 simp only[zmp]
 exact zvX rfl rfl rfl
def pwg (P:Program) (c:Cfg) (y:Option (Option Bool)) (b:Bool) (ty:TypeId) (op:Op) (d:Option Tmp) (k:List PIt) (Q:Exit→PFr→Prop) (pf:PFr):Prop:=
 pgo c b d (pw1 P c c ty op d k Q pf) (pw P c k Q) pf y
theorem zu7 {y y':Option (Option Bool)}{b:Bool}{ty:TypeId}{op:Op}{d:Option Tmp}(h:y=y'):pwg P c y b ty op d k Q pf=pwg P c y' b ty op d k Q pf:=by rw[h]
@[go_sem ↓] theorem zPt {pre:List (Option Tmp)}{d:Option Tmp}{op:Op}{ty:TypeId}{ps:String}{af:Array Edge}{j:Nat}{b:Bool}{l:List Oper}:
 pw P c (.ops pre (⟨d,op,ty,ps,af,some (j,b)⟩::l)::k) Q pf=pwg P c (ygP pf pre[j]?) b ty op d (.ops pre l::k) Q pf:=by
 show zmp P c pre ⟨d,op,ty,ps,af,some (j,b)⟩ (pw P c (.ops pre l::k) Q) pf=_
 simp only[zmp]
 unfold pwg pw1
 rw[zvX (o:=⟨d,op,ty,ps,af,some (j,b)⟩) (o':=⟨d,op,ty, "",#[],none⟩) rfl rfl rfl]
@[go_sem] theorem zHv {d:Tmp}:ygP pf (some (some d))=ygV (pf d):=(rfl)
@[go_sem] theorem zIn {b:Bool}:ygV (.v (.bool b))=some (some b):=(rfl)
@[go_sem] theorem zJ9:ygV .skip=some none:=(rfl)
@[go_sem ↓] theorem zOs {ty:TypeId}{op:Op}{d:Option Tmp}:pwg P c (some (some true)) true ty op d k Q pf=pw1 P c c ty op d k Q pf:=by simp[pwg,pgo]
@[go_sem ↓] theorem zPv {ty:TypeId}{op:Op}{d:Option Tmp}:pwg P c (some (some false)) false ty op d k Q pf=pw1 P c c ty op d k Q pf:=by simp[pwg,pgo]
@[go_sem ↓] theorem zOT {ty:TypeId}{op:Op}{d:Tmp}(h:ckd c d .skip=true):pwg P c (some (some true)) false ty op (some d) k Q pf=pw P c k Q (pf.put d .skip):=by simp[pwg,pgo,zil,h]
@[go_sem ↓] theorem zPh {ty:TypeId}{op:Op}{d:Tmp}(h:ckd c d .skip=true):pwg P c (some (some false)) true ty op (some d) k Q pf=pw P c k Q (pf.put d .skip):=by simp[pwg,pgo,zil,h]
@[go_sem ↓] theorem zQQ {b:Bool}{ty:TypeId}{op:Op}{d:Tmp}(h:ckd c d .skip=true):pwg P c (some none) b ty op (some d) k Q pf=pw P c k Q (pf.put d .skip):=by simp[pwg,pgo,zil,h]
theorem zv6 {y b:Bool}{ty:TypeId}{op:Op}{d:Option Tmp}(h1:y=true→pwg P c (some (some true)) b ty op d k Q pf) (h2:y=false→pwg P c (some (some false)) b ty op d k Q pf):pwg P c (some (some y)) b ty op d k Q pf:=by
 cases y
 ·exact h2 rfl
 ·exact h1 rfl
def qv (P:Program) (c co:Cfg) (x:Option (PF×PFr)) (d:Option Tmp) (k:List PIt) (Q:Exit→PFr→Prop):Prop:=
 match x with
 |some a=>zby co (pw P c k Q) d a.1 a.2
 |none=>False
def qz (P:Program) (c:Cfg) (d:Nat) (k:List PIt) (Q:Exit→PFr→Prop) (x:Option (PF×PFr)):Prop:=pfz (pw P c k Q) d x
theorem zwz {x x':Option (PF×PFr)}{d:Option Tmp}(h:x=x'):qv P c co x d k Q=qv P c co x' d k Q:=by rw[h]
theorem zxH {x x':Option (PF×PFr)}{d:Nat}(h:x=x'):qz P c d k Q x=qz P c d k Q x':=by rw[h]
@[go_sem ↓] theorem zKX {y:PF}{d:Tmp}(h:ckd co d y=true) (hf:co.fz.contains d=false):qv P c co (some (y,pf)) (some d) k Q=pw P c k Q (pf.put d y):=by simp only[qv,zby,h,hf];simp
@[go_sem ↓] theorem zQT {y:PF}{d:Tmp}(h:ckd co d y=true) (hf:co.fz.contains d=true):qv P c co (some (y,pf)) (some d) k Q=qz P c d k Q (zkc pf y):=by simp only[qv,zby,h,hf];simp[qz]
@[go_sem ↓] theorem zPY {y:PF}:qv P c co (some (y,pf)) none k Q=pw P c k Q pf:=rfl
@[go_sem ↓] theorem zNV {y:PF}{d:Nat}:qz P c d k Q (some (y,pf))=pw P c k Q (pf.put d y):=rfl
def qf (P:Program) (c:Cfg) (x:Option PFr) (k:List PIt) (Q:Exit→PFr→Prop):Prop:=
 match x with
 |some pf=>pw P c k Q pf
 |none=>False
theorem zxz {x x':Option PFr}(h:x=x'):qf P c x k Q=qf P c x' k Q:=by rw[h]
@[go_sem ↓] theorem zNo:qf P c (some pf) k Q=pw P c k Q pf:=rfl
attribute [congr] zw9 zu7 zwz zxH zxz
@[go_sem] theorem zQi {d:Nat}{y:PF}:ckd c d y=(decide (d<c.nt)&& !c.io.contains d&& !(zam y==some d)):=(rfl)
@[go_sem] theorem zL4 {x:PV}:zam (.v x)=none:=(rfl)
@[go_sem] theorem zE0:zam .skip=none:=(rfl)
@[go_sem] theorem zKv {es:Nat}{r:List (List PV)}:zam (.ls es r)=none:=(rfl)
@[go_sem] theorem zI7 {r:List PV}:zam (.bl r)=none:=(rfl)
@[go_sem] theorem zGZ {s i j:Nat}{p:zad}:zam (.pt s p i j)=some s:=(rfl)
@[go_sem] theorem zIR {s:Nat}{p:zad}:zam (.rf s p)=some s:=(rfl)
@[go_sem] theorem zGS {s lo hi:Nat}{p:zad}:zam (.rv s p lo hi)=some s:=(rfl)
@[go_sem] theorem zJr {b:Bool}{s i j n:Nat}{p:zad}:zam (.as b s p i j n)=some s:=(rfl)
@[go_sem] theorem zHY {s:Nat}{g:FuncId}{us:List PV}:zam (.cl s g us)=some s:=(rfl)
@[go_sem] theorem zHu {s i j n:Nat}{p:zad}:zam (.ra s p i j n)=some s:=(rfl)
@[go_sem] theorem zL0 {d t:Nat}{x:PF}:PFr.put pf d x t=if t=d then x else zbU d (pf t):=(rfl)
@[go_sem] theorem zLl {d t:Nat}{x:PF}:PFr.upd pf d x t=if t=d then x else pf t:=(rfl)
@[go_sem] theorem zHC {s n t:Nat}:PFr.kill pf s n t=zaT s n (pf t):=(rfl)
@[go_sem] theorem zNY {d:Nat}{x:PV}:zbU d (.v x)=.v x:=(rfl)
@[go_sem] theorem zC4 {d:Nat}:zbU d .skip=.skip:=(rfl)
@[go_sem] theorem zGU {d es:Nat}{r:List (List PV)}:zbU d (.ls es r)=.ls es r:=(rfl)
@[go_sem] theorem zHP {d:Nat}{r:List PV}:zbU d (.bl r)=.bl r:=(rfl)
@[go_sem] theorem zJQ {d s i j:Nat}{p:zad}:zbU d (.pt s p i j)=if s=d then jP else .pt s p i j:=by simp[zbU,zam]
@[go_sem] theorem zGW {d s:Nat}{p:zad}:zbU d (.rf s p)=if s=d then jP else .rf s p:=by simp[zbU,zam]
@[go_sem] theorem zHe {d s lo hi:Nat}{p:zad}:zbU d (.rv s p lo hi)=if s=d then jP else .rv s p lo hi:=by simp[zbU,zam]
@[go_sem] theorem zIZ {b:Bool}{d s i j n:Nat}{p:zad}:zbU d (.as b s p i j n)=if s=d then jP else .as b s p i j n:=by simp[zbU,zam]
@[go_sem] theorem zHK {d s:Nat}{g:FuncId}{us:List PV}:zbU d (.cl s g us)=if s=d then jP else .cl s g us:=by simp[zbU,zam]
@[go_sem] theorem zIH {d s i j n:Nat}{p:zad}:zbU d (.ra s p i j n)=if s=d then jP else .ra s p i j n:=by simp[zbU,zam]
@[go_sem] theorem zK8 {d:Nat}:zbU d jP=jP:=(rfl)
@[go_sem] theorem zLx {s n:Nat}{x:PV}:zaT s n (.v x)=.v x:=by simp[zaT,zam]
@[go_sem] theorem zFc {s n:Nat}:zaT s n .skip=.skip:=by simp[zaT,zam]
@[go_sem] theorem zHt {s n es:Nat}{r:List (List PV)}:zaT s n (.ls es r)=.ls es r:=by simp[zaT,zam]
@[go_sem] theorem zHb {s n:Nat}{r:List PV}:zaT s n (.bl r)=.bl r:=by simp[zaT,zam]
@[go_sem] theorem zIz {s n s' i j:Nat}{p:zad}:zaT s n (.pt s' p i j)=if s'=s∧n≤p.length then jP else .pt s' p i j:=by simp[zaT,zam,zfR]
@[go_sem] theorem zIj {s n s':Nat}{p:zad}:zaT s n (.rf s' p)=if s'=s∧n≤p.length then jP else .rf s' p:=by simp[zaT,zam,zfR]
@[go_sem] theorem zIQ {s n s' lo hi:Nat}{p:zad}:zaT s n (.rv s' p lo hi)=if s'=s∧n≤p.length then jP else .rv s' p lo hi:=by simp[zaT,zam,zfR]
@[go_sem] theorem zIt {b:Bool}{s n s' i j m:Nat}{p:zad}:zaT s n (.as b s' p i j m)=if s'=s∧n≤p.length+1 then jP else .as b s' p i j m:=by simp[zaT,zam,zfR]
@[go_sem] theorem zKg {s n s':Nat}{g:FuncId}{us:List PV}:zaT s n (.cl s' g us)=if s'=s∧n≤0 then jP else .cl s' g us:=by simp[zaT,zam,zfR]
@[go_sem] theorem zHI {s n s' i j m:Nat}{p:zad}:zaT s n (.ra s' p i j m)=if s'=s∧n≤p.length+1 then jP else .ra s' p i j m:=by simp[zaT,zam,zfR]
@[go_sem] theorem zLk {s n:Nat}:zaT s n jP=jP:=by simp[zaT,zam,jP]
@[go_sem] theorem zJG {s:Nat}{x:PF}{l:List (Nat×PF)}{t:Nat}:PFr.ofL ((s,x)::l) t=if t=s then x else PFr.ofL l t:=(rfl)
@[go_sem] theorem zMK {t:Nat}:PFr.ofL [] t=jP:=(rfl)
@[go_sem] theorem zF3 {as:List (Md×PV)}{t:Nat}:zha as t=zo0 as[t]? :=(rfl)
@[go_sem] theorem zFn {m:Md}{x:PV}:zo0 (some (m,x))=.v x:=(rfl)
@[go_sem] theorem zGr:zo0 none=jP:=(rfl)
@[go_sem] theorem zQZ:isJ .junk=true:=(rfl)
@[go_sem] theorem zJL {b:Bool}:isJ (.bool b)=false:=(rfl)
@[go_sem] theorem zLJ {j:IntKind}{n:Int}:isJ (.int j n)=false:=(rfl)
@[go_sem] theorem zMn {s:ByteArray}:isJ (.str s)=false:=(rfl)
@[go_sem] theorem zOC {o:Bool}{es:Nat}{r:List (List PV)}:isJ (.sl o es r)=false:=(rfl)
@[go_sem] theorem zQf {r:List PV}:isJ (.fp r)=false:=(rfl)
@[go_sem] theorem zPS {r:List PV}:isJ (.bx r)=false:=(rfl)
@[go_sem] theorem zHV {f:Fn}{a b:List PV}:isJ (.func f a b)=false:=(rfl)
@[go_sem] theorem zKK {r:List PV}:isJ (.agg r)=false:=(rfl)
@[go_sem] theorem zMz {r:List PV}:isJ (.tup r)=false:=(rfl)
@[go_sem] theorem zJJ:isJ .nilf=false:=(rfl)
@[go_sem] theorem zHq:isJ .nilp=false:=(rfl)
@[go_sem] theorem zHL:isJ .nili=false:=(rfl)
@[go_sem] theorem zQh:zay .junk=false:=by simp[zay]
@[go_sem] theorem zFl {b:Bool}:zay (.bool b)=false:=by simp[zay]
@[go_sem] theorem zHQ {j:IntKind}{n:Int}:zay (.int j n)=false:=by simp[zay]
@[go_sem] theorem zJC {s:ByteArray}:zay (.str s)=false:=by simp[zay]
@[go_sem] theorem zMj {r:List PV}:zay (.fp r)=false:=by simp[zay]
@[go_sem] theorem zGv {f:Fn}{a b:List PV}:zay (.func f a b)=false:=by simp[zay]
@[go_sem] theorem zGD:zay .nilf=false:=by simp[zay]
@[go_sem] theorem zGm:zay .nilp=false:=by simp[zay]
@[go_sem] theorem zFK:zay .nili=false:=by simp[zay]
attribute [go_sem] zjl zs9 zhj zrG zii zo9 znF zrO znn zq5 zpr zpv
@[go_sem] theorem zOz:drop .junk=.junk:=by simp[drop]
@[go_sem] theorem zF0 {b:Bool}:drop (.bool b)=.bool b:=by simp[drop]
@[go_sem] theorem zG0 {j:IntKind}{n:Int}:drop (.int j n)=.int j n:=by simp[drop]
@[go_sem] theorem zIc {s:ByteArray}:drop (.str s)=.str s:=by simp[drop]
@[go_sem] theorem zLt {r:List PV}:drop (.fp r)=.fp r:=by simp[drop]
@[go_sem] theorem zF9 {f:Fn}{a b:List PV}:drop (.func f a b)=.func f a b:=by simp[drop]
@[go_sem] theorem zFs:drop .nilf=.nilf:=by simp[drop]
@[go_sem] theorem zF8:drop .nilp=.nilp:=by simp[drop]
@[go_sem] theorem zFQ:drop .nili=.nili:=by simp[drop]
@[go_sem] theorem zKL:zaU .junk=true:=by simp[zaU]
@[go_sem] theorem zDC {b:Bool}:zaU (.bool b)=true:=by simp[zaU]
@[go_sem] theorem zF1 {j:IntKind}{n:Int}:zaU (.int j n)=true:=by simp[zaU]
@[go_sem] theorem zFv {s:ByteArray}:zaU (.str s)=true:=by simp[zaU]
@[go_sem] theorem zGI {r:List PV}:zaU (.fp r)=false:=by simp[zaU]
@[go_sem] theorem zDQ {f:Fn}{a b:List PV}:zaU (.func f a b)=false:=by simp[zaU]
@[go_sem] theorem zD4:zaU .nilf=true:=by simp[zaU]
@[go_sem] theorem zDF {j:IntKind}{n:Int}:zfL (.int j n)=true:=(rfl)
@[go_sem] theorem zBB {b:Bool}:zfL (.bool b)=true:=(rfl)
@[go_sem] theorem zDw {s:ByteArray}:zfL (.str s)=true:=(rfl)
@[go_sem] theorem zFV {o:Bool}{es:Nat}{r:List (List PV)}:zfL (.sl o es r)=true:=(rfl)
@[go_sem] theorem zGw {r:List PV}:zfL (.bx r)=true:=(rfl)
@[go_sem] theorem zGg {r:List PV}:zfL (.fp r)=true:=(rfl)
@[go_sem] theorem zBv {f:Fn}{a b:List PV}:zfL (.func f a b)=true:=(rfl)
@[go_sem] theorem zBI {j:IntKind}{n:Int}:zb6 (.int j n)=true:=(rfl)
@[go_sem] theorem zzZ {b:Bool}:zb6 (.bool b)=true:=(rfl)
@[go_sem] theorem zBT {s:ByteArray}:zb6 (.str s)=true:=(rfl)
@[go_sem] theorem zDb {o:Bool}{es:Nat}{r:List (List PV)}:zb6 (.sl o es r)=true:=(rfl)
@[go_sem] theorem zBL {r:List PV}:zb6 (.agg r)=true:=(rfl)
@[go_sem] theorem zC1 {r:List PV}:zb6 (.bx r)=true:=(rfl)
@[go_sem] theorem zCW {r:List PV}:zb6 (.fp r)=true:=(rfl)
@[go_sem] theorem zAV {f:Fn}{a b:List PV}:zb6 (.func f a b)=true:=(rfl)
@[go_sem] theorem zCy {j:IntKind}{n:Int}:zax (.int j n)=[.int j n]:=(rfl)
@[go_sem] theorem zBz {b:Bool}:zax (.bool b)=[.bool b]:=(rfl)
@[go_sem] theorem zCd {s:ByteArray}:zax (.str s)=[.str s]:=(rfl)
@[go_sem] theorem zGE {o:Bool}{es:Nat}{r:List (List PV)}:zax (.sl o es r)=[.sl o es r]:=(rfl)
@[go_sem] theorem zCB {r:List PV}:zax (.agg r)=r:=(rfl)
@[go_sem] theorem zFz {r:List PV}:zax (.bx r)=[.bx r]:=(rfl)
@[go_sem] theorem zFM {r:List PV}:zax (.fp r)=[.fp r]:=(rfl)
@[go_sem] theorem zBN {f:Fn}{a b:List PV}:zax (.func f a b)=[.func f a b]:=(rfl)
@[go_sem] theorem zGq {e:Nat}{b:Bool}:zgw e (.bool b)=.bool b:=(rfl)
@[go_sem] theorem zIa {e:Nat}{j:IntKind}{n:Int}:zgw e (.int j n)=.int j n:=(rfl)
@[go_sem] theorem zI6 {e:Nat}{s:ByteArray}:zgw e (.string s)=.str s:=(rfl)
@[go_sem] theorem zGQ {e:Nat}:zgw e (.slice none 0 0)=.sl true e []:=(rfl)
@[go_sem] theorem zGy {e:Nat}:zgw e .nilFunc=.nilf:=(rfl)
@[go_sem] theorem zMs {j:IntKind}{n:Int}:zan (.int j n)=true:=(rfl)
@[go_sem] theorem zIe {b:Bool}:zan (.bool b)=true:=(rfl)
@[go_sem] theorem zLR {b:ByteArray}:zan (.string b)=true:=(rfl)
@[go_sem] theorem zMw:zan (.slice none 0 0)=true:=(rfl)
@[go_sem] theorem zHs:zan .nilFunc=true:=(rfl)
@[go_sem] theorem zMV {t:Tmp}:rdS pf (.tmp t)=zo3 (pf t):=(rfl)
@[go_sem] theorem zOn {x:PV}:zo3 (.v x)=toS x:=(rfl)
@[go_sem] theorem zFu:zo3 .skip=none:=(rfl)
@[go_sem] theorem zJH {b:Bool}:toS (.bool b)=some (.bool b):=(rfl)
@[go_sem] theorem zNP {j:IntKind}{n:Int}:toS (.int j n)=some (.int j n):=(rfl)
@[go_sem] theorem zMC {s:ByteArray}:toS (.str s)=some (.string s):=(rfl)
@[go_sem] theorem zL5 {l:List PV}:toS (.agg l)=(zkS l).map fun l=>.agg l.toArray:=(rfl)
@[go_sem] theorem zIi:zkS []=some []:=(rfl)
@[go_sem] theorem zJ0 {j:IntKind}{n:Int}{r:List PV}:zkS (.int j n::r)=(zkS r).map fun l=>.int j n::l:=(rfl)
@[go_sem] theorem zM5 {j:IntKind}{n:Int}:rdS pf (.const (.int j n))=some (.int j n):=(rfl)
@[go_sem] theorem zJu {b:Bool}:rdS pf (.const (.bool b))=some (.bool b):=(rfl)
@[go_sem] theorem zLG {b:ByteArray}:rdS pf (.const (.string b))=some (.string b):=(rfl)
@[go_sem] theorem zCq {b:Bool}:zeH (.bool b)=some (.bool b):=(rfl)
@[go_sem] theorem zFW {j:IntKind}{n:Int}:zeH (.int j n)=some (.int j n):=(rfl)
@[go_sem] theorem zF7 {s:ByteArray}:zeH (.string s)=some (.str s):=(rfl)
def ev1 (f:Value→Option Value) (x:Option Value) (pf:PFr):Option (PF×PFr):=(x.bind fun a=>(f a).bind zeH).map fun y=>(.v y,pf)
def ev2 (f:Value→Value→Option Value) (x y:Option Value) (pf:PFr):Option (PF×PFr):=(x.bind fun a=>y.bind fun b=>(f a b).bind zeH).map fun y=>(.v y,pf)
def fin (x:Option Value) (pf:PFr):Option (PF×PFr):=(x.bind zeH).map fun y=>(.v y,pf)
@[go_sem] theorem zIu {f:Value→Option Value}{a:Value}:ev1 f (some a) pf=fin (f a) pf:=(rfl)
@[go_sem] theorem zIE {f:Value→Value→Option Value}{a b:Value}:ev2 f (some a) (some b) pf=fin (f a b) pf:=(rfl)
@[go_sem] theorem zKy {b:Bool}:fin (some (.bool b)) pf=some (.v (.bool b),pf):=(rfl)
@[go_sem] theorem zKQ {j:IntKind}{n:Int}:fin (some (.int j n)) pf=some (.v (.int j n),pf):=(rfl)
@[go_sem] theorem zMN {s:ByteArray}:fin (some (.string s)) pf=some (.v (.str s),pf):=(rfl)
theorem zhk {o:Oper}{x:Option (PF×PFr)}(h:(((zbj o.op).bind (zhO pf)).bind fun vs=>(zbe P o.op vs).bind zeH).map (fun y=>(PF.v y,pf))=x):zeK P co o (pw P c k Q) pf=qv P c co x o.dst k Q:=by
 subst h
 unfold zeK
 cases (zbj o.op).bind (zhO pf)with
 |none=>rfl
 |some vs=>
  simp only[Option.bind_some]
  cases (zbe P o.op vs).bind zeH<;>rfl
@[go_sem ↓] theorem zG1 {ty t:TypeId}{op:UnOp}{x:Operand}{d:Option Tmp}:pw1 P c co ty (.unOp op t x) d k Q pf=qv P c co (ev1 (unV op) (rdS pf x) pf) d k Q:=by
 refine zhk (o:=⟨d,.unOp op t x,ty, "",#[],none⟩) ?_
 simp only[zbj,zhO,Option.bind_some]
 cases rdS pf x<;>simp[zbe,ev1]
theorem zpx {ty s t:TypeId}{x:Operand}{d:Tmp}(ht:zaE P t=true) (hp:co.hp≠[]∨lsP pf x=true):pw1 P c co ty (.convert s t x) (some d) k Q pf=qv P c co (bsE P s pf x) (some d) k Q:=by
 show(if zaE P t=true then(co.hp≠[]∨lsP pf x=true)∧zi7 P co s t x (some d) (pw P c k Q) pf else _)=_
 rw[if_pos ht]
 unfold zi7 qv
 cases bsE P s pf x with
 |none=>simp[hp]
 |some z=>simp[hp,ht]
@[go_sem ↓] theorem zIl {ty s t:TypeId}{x:Operand}{d:Tmp}(ht:zaE P t=true) (hp:co.hp.isEmpty=false):pw1 P c co ty (.convert s t x) (some d) k Q pf=qv P c co (bsE P s pf x) (some d) k Q:=zpx ht (.inl fun e=>by rw[e]at hp;cases hp)
@[go_sem] theorem zKc {rows:List (List PV)}:znN (.ls 1 rows)=true:=(rfl)
@[go_sem ↓] theorem zGk {ty s t:TypeId}{u:Nat}{d:Tmp}(ht:zaE P t=true) (hl:znN (pf u)=true):pw1 P c co ty (.convert s t (.tmp u)) (some d) k Q pf=qv P c co (bsE P s pf (.tmp u)) (some d) k Q:=zpx ht (.inr hl)
@[go_sem ↓] theorem zBH {ty s t:TypeId}{x:Operand}{d:Option Tmp}(ht:zaE P t=false):pw1 P c co ty (.convert s t x) d k Q pf=qv P c co (ev1 (zmF P s t) (rdS pf x) pf) d k Q:=by
 have e:pw1 P c co ty (.convert s t x) d k Q pf=zeK P co ⟨d,.convert s t x,ty, "",#[],none⟩ (pw P c k Q) pf:=by
  show(if zaE P t=true then(co.hp≠[]∨lsP pf x=true)∧zi7 P co s t x d (pw P c k Q) pf else zeK P co ⟨d,.convert s t x,ty, "",#[],none⟩ (pw P c k Q) pf)=_
  rw[if_neg (by simp[ht])]
 rw[e]
 refine zhk (o:=⟨d,.convert s t x,ty, "",#[],none⟩) ?_
 simp only[zbj,zhO,Option.bind_some]
 cases rdS pf x<;>simp[zbe,ev1]
@[go_sem] theorem zEh {t:Tmp}:zg5 (.tmp t)=false:=(rfl)
@[go_sem] theorem zDV {j:IntKind}{n:Int}:zg5 (.const (.int j n))=false:=(rfl)
@[go_sem] theorem zBF {b:Bool}:zg5 (.const (.bool b))=false:=(rfl)
@[go_sem] theorem zCV {s:ByteArray}:zg5 (.const (.string s))=false:=(rfl)
@[go_sem ↓] theorem zGj {ty t u:TypeId}{op:BinOp}{x y:Operand}{d:Option Tmp}(hy:zg5 y=false):pw1 P c co ty (.binOp op t x y u) d k Q pf=qv P c co (ev2 (zbo P op t) (rdS pf x) (rdS pf y) pf) d k Q:=by
 have e:pw1 P c co ty (.binOp op t x y u) d k Q pf=zeK P co ⟨d,.binOp op t x y u,ty, "",#[],none⟩ (pw P c k Q) pf:=by
  show pop P co ⟨d,.binOp op t x y u,ty, "",#[],none⟩ (pw P c k Q) pf=_
  simp only[pop,hy,Bool.false_eq_true,if_false]
 rw[e]
 refine zhk (o:=⟨d,.binOp op t x y u,ty, "",#[],none⟩) ?_
 simp only[zbj,zhO,Option.bind_some]
 cases rdS pf x<;>cases rdS pf y<;>simp[zbe,ev2]
@[go_sem ↓] theorem zGF {ty t:TypeId}{x y:Operand}{d:Option Tmp}:pw1 P c co ty (.index t x y) d k Q pf=qv P c co (ev2 (zhV P t) (rdS pf x) (rdS pf y) pf) d k Q:=by
 refine zhk (o:=⟨d,.index t x y,ty, "",#[],none⟩) ?_
 simp only[zbj,zhO,Option.bind_some]
 cases rdS pf x<;>cases rdS pf y<;>simp[zbe,ev2]
@[go_sem ↓] theorem zLn {ty:TypeId}{x y:Operand}{ts:Array TypeId}{d:Option Tmp}:pw1 P c co ty (.call ⟨.builtin .min,#[x,y],ts⟩) d k Q pf=qv P c co (ev2 (zgf false) (rdS pf x) (rdS pf y) pf) d k Q:=by
 refine zhk (o:=⟨d,.call ⟨.builtin .min,#[x,y],ts⟩,ty, "",#[],none⟩) ?_
 simp only[zbj,zhO,Option.bind_some]
 cases rdS pf x<;>cases rdS pf y<;>simp[zbe,ev2]
@[go_sem ↓] theorem zLC {ty:TypeId}{x y:Operand}{ts:Array TypeId}{d:Option Tmp}:pw1 P c co ty (.call ⟨.builtin .max,#[x,y],ts⟩) d k Q pf=qv P c co (ev2 (zgf true) (rdS pf x) (rdS pf y) pf) d k Q:=by
 refine zhk (o:=⟨d,.call ⟨.builtin .max,#[x,y],ts⟩,ty, "",#[],none⟩) ?_
 simp only[zbj,zhO,Option.bind_some]
 cases rdS pf x<;>cases rdS pf y<;>simp[zbe,ev2]
@[go_sem] theorem zJD {s d:TypeId}{i j k:IntKind}{n:Int}(hs:zdI P s=some i) (hd:zdI P d=some k):zmF P s d (.int j n)=some (.int k (k.wrap n)):=by
 unfold zmF
 have:∃u,P.underlying s=some u:=by
  unfold zdI at hs;split at hs
  ·rename_i h;exact⟨_,h⟩
  ·cases hs
 obtain⟨u,hu⟩:=this
 rw[hu,hd]
@[go_sem] theorem zK6 {j:IntKind}{t:TypeId}{a b:Int}:zbo P .add t (.int j a) (.int j b)=some (.int j (j.wrap (a+b))):=by simp[zbo,zdv]
@[go_sem] theorem zMD {j:IntKind}{t:TypeId}{a b:Int}:zbo P .sub t (.int j a) (.int j b)=some (.int j (j.wrap (a-b))):=by simp[zbo,zdv]
@[go_sem] theorem zMP {j:IntKind}{t:TypeId}{a b:Int}:zbo P .mul t (.int j a) (.int j b)=some (.int j (j.wrap (a*b))):=by simp[zbo,zdv]
def zkk (b:Int) (x:Value):Option Value:=if b=0 then none else some x
@[go_sem] theorem zNs {j:IntKind}{t:TypeId}{a b:Int}:zbo P .quo t (.int j a) (.int j b)=zkk b (.int j (j.wrap (a.tdiv b))):=by simp[zbo,zdv,zkk]
@[go_sem] theorem zLo {j:IntKind}{t:TypeId}{a b:Int}:zbo P .rem t (.int j a) (.int j b)=zkk b (.int j (a.tmod b)):=by simp[zbo,zdv,zkk]
theorem zoZ {b:Int}{x:Value}(h:b≠0):zkk b x=some x:=by simp[zkk,h]
@[go_sem] theorem zJe {x:Value}{n:Nat}:zkk (OfNat.ofNat (n+1)) x=some x:=by
 refine zoZ ?_
 show((n+1:Nat):Int)≠0
 omega
@[go_sem] theorem zLm {j:IntKind}{t:TypeId}{a b:Int}:zbo P .eql t (.int j a) (.int j b)=some (.bool (a==b)):=by simp[zbo,zdv]
@[go_sem] theorem zNg {j:IntKind}{t:TypeId}{a b:Int}:zbo P .neq t (.int j a) (.int j b)=some (.bool (a !=b)):=by simp[zbo,zdv]
@[go_sem] theorem zNO {j:IntKind}{t:TypeId}{a b:Int}:zbo P .lss t (.int j a) (.int j b)=some (.bool (decide (a<b))):=by simp[zbo,zdv]
@[go_sem] theorem zNv {j:IntKind}{t:TypeId}{a b:Int}:zbo P .leq t (.int j a) (.int j b)=some (.bool (decide (a≤b))):=by simp[zbo,zdv]
@[go_sem] theorem zNF {j:IntKind}{t:TypeId}{a b:Int}:zbo P .gtr t (.int j a) (.int j b)=some (.bool (decide (b<a))):=by simp[zbo,zdv]
@[go_sem] theorem zK2 {j:IntKind}{t:TypeId}{a b:Int}:zbo P .geq t (.int j a) (.int j b)=some (.bool (decide (b≤a))):=by simp[zbo,zdv]
@[go_sem] theorem zNS {j:IntKind}{t:TypeId}{a b:Int}:zbo P .and t (.int j a) (.int j b)=some (.int j (j.wrap (BitVec.ofInt j.bits a&&&BitVec.ofInt j.bits b).toNat)):=by simp[zbo,zdv]
@[go_sem] theorem zPc {j:IntKind}{t:TypeId}{a b:Int}:zbo P .or t (.int j a) (.int j b)=some (.int j (j.wrap (BitVec.ofInt j.bits a|||BitVec.ofInt j.bits b).toNat)):=by simp[zbo,zdv]
@[go_sem] theorem zMT {j:IntKind}{t:TypeId}{a b:Int}:zbo P .xor t (.int j a) (.int j b)=some (.int j (j.wrap (BitVec.ofInt j.bits a^^^BitVec.ofInt j.bits b).toNat)):=by simp[zbo,zdv]
def znj (b:Int) (x:Value):Option Value:=if b<0 then none else some x
@[go_sem] theorem zMr {j j':IntKind}{t:TypeId}{a b:Int}:zbo P .shl t (.int j a) (.int j' b)=znj b (.int j (j.wrap (a*2^min b.toNat j.bits))):=by simp[zbo,znj]
@[go_sem] theorem zLQ {j j':IntKind}{t:TypeId}{a b:Int}:zbo P .shr t (.int j a) (.int j' b)=znj b (.int j (a.fdiv (2^min b.toNat j.bits))):=by simp[zbo,znj]
theorem zyh {b:Int}{x:Value}(h:0≤b):znj b x=some x:=by simp[znj];omega
@[go_sem] theorem zHg {t:TypeId}{a b:Bool}(h:zib P t=true):zbo P .eql t (.bool a) (.bool b)=some (.bool (a==b)):=by simp[zbo,h]
@[go_sem] theorem zKx {t:TypeId}{a b:Bool}(h:zib P t=true):zbo P .neq t (.bool a) (.bool b)=some (.bool (a !=b)):=by simp[zbo,h]
@[go_sem] theorem zI4 {t:TypeId}{a b:List Value}{o:List Nat}(h:zlm P t=some o):zbo P .eql t (.agg a.toArray) (.agg b.toArray)=(eqL a b o).map .bool:=by simp[zbo,h]
@[go_sem] theorem zKB {t:TypeId}{a b:List Value}{o:List Nat}(h:zlm P t=some o):zbo P .neq t (.agg a.toArray) (.agg b.toArray)=(eqL a b o).map fun r=>.bool !r:=by simp[zbo,h]
@[go_sem] theorem zSo {j i:IntKind}{a b x y:Int}:eqL [.int j a,.int i b] [.int j x,.int i y] [0,1]=some (a==x&&b==y):=by simp[eqL]
@[go_sem] theorem zHJ {t:TypeId}{a b:ByteArray}:zbo P .eql t (.string a) (.string b)=some (.bool (a.toList==b.toList)):=(rfl)
@[go_sem] theorem zql {t:TypeId}{a b:ByteArray}(h:a.size+b.size≤9223372036854775807):zbo P .add t (.string a) (.string b)=some (.string (a++b)):=by simp[zbo,h]
@[go_sem] theorem zSL {s:TypeId}{x:Operand}(h:zhK P s=true):bsE P s pf x=(srO 1 pf x).bind fun z=>(zim z.1).map fun ns=>(.v (.str (zem ns)),z.2):=by unfold bsE;rw[if_pos h]
@[go_sem] theorem zF4:zim []=some []:=(rfl)
@[go_sem] theorem ztw {n:Int}{rs:List (List PV)}:zim ([.int .u8 n]::rs)=(zim rs).map (n:: ·):=(rfl)
@[go_sem] theorem zGB {f:Int→List PV}(h:∀x,f x=[.int .u8 x]) {l:List Int}:zim (l.map f)=some l:=by
 induction l with
 |nil=>rfl
 |cons x l ih=>rw[List.map_cons,h,ztw,ih];rfl
@[go_sem] theorem zG3 {t:TypeId}{a b:ByteArray}:zbo P .neq t (.string a) (.string b)=some (.bool !(a.toList==b.toList)):=(rfl)
@[go_sem] theorem zOf {b:Bool}:unV .not (.bool b)=some (.bool !b):=(rfl)
@[go_sem] theorem zP9 {j:IntKind}{n:Int}:unV .neg (.int j n)=some (.int j (j.wrap (0-n))):=(rfl)
@[go_sem] theorem zDI {j:IntKind}{a b:Int}:zgf true (.int j a) (.int j b)=some (.int j (if a<b then b else a)):=by simp[zgf]
@[go_sem] theorem zBU {j:IntKind}{a b:Int}:zgf false (.int j a) (.int j b)=some (.int j (if b<a then b else a)):=by simp[zgf]
end
end Go.Pm
