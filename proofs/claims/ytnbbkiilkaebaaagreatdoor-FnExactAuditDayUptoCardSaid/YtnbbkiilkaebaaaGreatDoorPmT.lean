import Derived.Test.YtnbbkiilkaebaaaGreatDoorPmS
namespace Go.Pm
open Go.Am
section
variable {P:Program}{c co:Cfg}{k:List PIt}{Q:Exit→PFr→Prop}{pf:PFr}
@[go_sem] theorem zMK {a:Nat}{b f h:List Nat}:Cfg.nohp ⟨a,b,f,h⟩=⟨a,b,f,[]⟩:=(rfl)
@[go_sem ↓] theorem zEL {id:Nat}{ops:List Oper}:pw P c (.code (.region id ops.toArray false)::k) Q pf=pw P c (.ops (ops.map (·.dst)) ops::k) Q pf:=by
 show pwp P c (.region id ops.toArray false) (zbL P c k Q) pf=_
 simp only[pwp,Bool.false_eq_true,if_false]
 rfl
@[go_sem ↓] theorem zBm {pre:List (Option Tmp)}:pw P c (.ops pre []::k) Q pf=pw P c k Q pf:=rfl
def pw1 (P:Program) (c co:Cfg) (ty:TypeId) (op:Op) (d:Option Tmp) (k:List PIt) (Q:Exit→PFr→Prop) (pf:PFr):Prop:=pop P co ⟨d,op,ty, "",#[],none⟩ (pw P c k Q) pf
theorem zvo {o o':Oper}{K:PFr→Prop}(h:o.op=o'.op) (hd:o.dst=o'.dst) (ht:o.type=o'.type):pop P c o K pf=pop P c o' K pf:=by
 obtain⟨d,op,ty,ps,af,g⟩:=o
 obtain⟨d',op',ty',ps',af',g'⟩:=o'
 simp only at h hd ht
 subst h;subst hd;subst ht
 rfl
@[go_sem ↓] theorem zPS {pre:List (Option Tmp)}{d:Option Tmp}{op:Op}{ty:TypeId}{ps:String}{af:Array Edge}{l:List Oper}:
 pw P c (.ops pre (⟨d,op,ty,ps,af,none⟩::l)::k) Q pf=pw1 P c c ty op d (.ops pre l::k) Q pf:=by
 show zlC P c pre ⟨d,op,ty,ps,af,none⟩ (pw P c (.ops pre l::k) Q) pf=_
 simp only[zlC]
 exact zvo rfl rfl rfl
def pwg (P:Program) (c:Cfg) (y:Option (Option Bool)) (b:Bool) (ty:TypeId) (op:Op) (d:Option Tmp) (k:List PIt) (Q:Exit→PFr→Prop) (pf:PFr):Prop:=
 pgo c b d (pw1 P c c ty op d k Q pf) (pw P c k Q) pf y
theorem zvB {y y':Option (Option Bool)}{b:Bool}{ty:TypeId}{op:Op}{d:Option Tmp}(h:y=y'):pwg P c y b ty op d k Q pf=pwg P c y' b ty op d k Q pf:=by rw[h]
@[go_sem ↓] theorem zNN {pre:List (Option Tmp)}{d:Option Tmp}{op:Op}{ty:TypeId}{ps:String}{af:Array Edge}{j:Nat}{b:Bool}{l:List Oper}:
 pw P c (.ops pre (⟨d,op,ty,ps,af,some (j,b)⟩::l)::k) Q pf=pwg P c (ygP pf pre[j]?) b ty op d (.ops pre l::k) Q pf:=by
 show zlC P c pre ⟨d,op,ty,ps,af,some (j,b)⟩ (pw P c (.ops pre l::k) Q) pf=_
 simp only[zlC]
 unfold pwg pw1
 rw[zvo (o:=⟨d,op,ty,ps,af,some (j,b)⟩) (o':=⟨d,op,ty, "",#[],none⟩) rfl rfl rfl]
@[go_sem] theorem zHq {d:Tmp}:ygP pf (some (some d))=ygV (pf d):=(rfl)
@[go_sem] theorem zFH {b:Bool}:ygV (.v (.bool b))=some (some b):=(rfl)
@[go_sem] theorem zHw:ygV .skip=some none:=(rfl)
@[go_sem ↓] theorem zOi {ty:TypeId}{op:Op}{d:Option Tmp}:pwg P c (some (some true)) true ty op d k Q pf=pw1 P c c ty op d k Q pf:=by simp[pwg,pgo]
@[go_sem ↓] theorem zOo {ty:TypeId}{op:Op}{d:Option Tmp}:pwg P c (some (some false)) false ty op d k Q pf=pw1 P c c ty op d k Q pf:=by simp[pwg,pgo]
@[go_sem ↓] theorem zOh {ty:TypeId}{op:Op}{d:Tmp}(h:ckd c d .skip=true):pwg P c (some (some true)) false ty op (some d) k Q pf=pw P c k Q (pf.put d .skip):=by simp[pwg,pgo,zhP,h]
@[go_sem ↓] theorem zM4 {ty:TypeId}{op:Op}{d:Tmp}(h:ckd c d .skip=true):pwg P c (some (some false)) true ty op (some d) k Q pf=pw P c k Q (pf.put d .skip):=by simp[pwg,pgo,zhP,h]
@[go_sem ↓] theorem zRs {b:Bool}{ty:TypeId}{op:Op}{d:Tmp}(h:ckd c d .skip=true):pwg P c (some none) b ty op (some d) k Q pf=pw P c k Q (pf.put d .skip):=by simp[pwg,pgo,zhP,h]
theorem zug {y b:Bool}{ty:TypeId}{op:Op}{d:Option Tmp}(h1:y=true→pwg P c (some (some true)) b ty op d k Q pf) (h2:y=false→pwg P c (some (some false)) b ty op d k Q pf):pwg P c (some (some y)) b ty op d k Q pf:=by
 cases y
 ·exact h2 rfl
 ·exact h1 rfl
def qv (P:Program) (c co:Cfg) (x:Option (PF×PFr)) (d:Option Tmp) (k:List PIt) (Q:Exit→PFr→Prop):Prop:=
 match x with
 |some a=>zbr co (pw P c k Q) d a.1 a.2
 |none=>False
def qz (P:Program) (c:Cfg) (d:Nat) (k:List PIt) (Q:Exit→PFr→Prop) (x:Option (PF×PFr)):Prop:=pfz (pw P c k Q) d x
theorem zwi {x x':Option (PF×PFr)}{d:Option Tmp}(h:x=x'):qv P c co x d k Q=qv P c co x' d k Q:=by rw[h]
theorem zwo {x x':Option (PF×PFr)}{d:Nat}(h:x=x'):qz P c d k Q x=qz P c d k Q x':=by rw[h]
@[go_sem ↓] theorem zMt {y:PF}{d:Tmp}(h:ckd co d y=true) (hf:co.fz.contains d=false):qv P c co (some (y,pf)) (some d) k Q=pw P c k Q (pf.put d y):=by simp only[qv,zbr,h,hf];simp
@[go_sem ↓] theorem zRB {y:PF}{d:Tmp}(h:ckd co d y=true) (hf:co.fz.contains d=true):qv P c co (some (y,pf)) (some d) k Q=qz P c d k Q (zjw pf y):=by simp only[qv,zbr,h,hf];simp[qz]
@[go_sem ↓] theorem zOY {y:PF}:qv P c co (some (y,pf)) none k Q=pw P c k Q pf:=rfl
@[go_sem ↓] theorem zMV {y:PF}{d:Nat}:qz P c d k Q (some (y,pf))=pw P c k Q (pf.put d y):=rfl
def qf (P:Program) (c:Cfg) (x:Option PFr) (k:List PIt) (Q:Exit→PFr→Prop):Prop:=
 match x with
 |some pf=>pw P c k Q pf
 |none=>False
theorem zwK {x x':Option PFr}(h:x=x'):qf P c x k Q=qf P c x' k Q:=by rw[h]
@[go_sem ↓] theorem zKy:qf P c (some pf) k Q=pw P c k Q pf:=rfl
attribute [congr] zwP zvB zwi zwo zwK
@[go_sem] theorem zOu {d:Nat}{y:PF}:ckd c d y=(decide (d<c.nt)&& !c.io.contains d&& !(zai y==some d)):=(rfl)
@[go_sem] theorem zLp {x:PV}:zai (.v x)=none:=(rfl)
@[go_sem] theorem zCM:zai .skip=none:=(rfl)
@[go_sem] theorem zE9 {es:Nat}{r:List (List PV)}:zai (.ls es r)=none:=(rfl)
@[go_sem] theorem zHn {r:List PV}:zai (.bl r)=none:=(rfl)
@[go_sem] theorem zGJ {s i j:Nat}{p:zab}:zai (.pt s p i j)=some s:=(rfl)
@[go_sem] theorem zHO {s:Nat}{p:zab}:zai (.rf s p)=some s:=(rfl)
@[go_sem] theorem zFu {s lo hi:Nat}{p:zab}:zai (.rv s p lo hi)=some s:=(rfl)
@[go_sem] theorem zFa {b:Bool}{s i j n:Nat}{p:zab}:zai (.as b s p i j n)=some s:=(rfl)
@[go_sem] theorem zHs {s:Nat}{g:FuncId}{us:List PV}:zai (.cl s g us)=some s:=(rfl)
@[go_sem] theorem zIZ {s i j n:Nat}{p:zab}:zai (.ra s p i j n)=some s:=(rfl)
@[go_sem] theorem zJ7 {d t:Nat}{x:PF}:PFr.put pf d x t=if t=d then x else zbK d (pf t):=(rfl)
@[go_sem] theorem zKr {d t:Nat}{x:PF}:PFr.upd pf d x t=if t=d then x else pf t:=(rfl)
@[go_sem] theorem zHb {s n t:Nat}:PFr.kill pf s n t=zaO s n (pf t):=(rfl)
@[go_sem] theorem zJO {d:Nat}{x:PV}:zbK d (.v x)=.v x:=(rfl)
@[go_sem] theorem zBI {d:Nat}:zbK d .skip=.skip:=(rfl)
@[go_sem] theorem zFi {d es:Nat}{r:List (List PV)}:zbK d (.ls es r)=.ls es r:=(rfl)
@[go_sem] theorem zHf {d:Nat}{r:List PV}:zbK d (.bl r)=.bl r:=(rfl)
@[go_sem] theorem zFW {d s i j:Nat}{p:zab}:zbK d (.pt s p i j)=if s=d then jP else .pt s p i j:=by simp[zbK,zai]
@[go_sem] theorem zHJ {d s:Nat}{p:zab}:zbK d (.rf s p)=if s=d then jP else .rf s p:=by simp[zbK,zai]
@[go_sem] theorem zGq {d s lo hi:Nat}{p:zab}:zbK d (.rv s p lo hi)=if s=d then jP else .rv s p lo hi:=by simp[zbK,zai]
@[go_sem] theorem zF2 {b:Bool}{d s i j n:Nat}{p:zab}:zbK d (.as b s p i j n)=if s=d then jP else .as b s p i j n:=by simp[zbK,zai]
@[go_sem] theorem zH1 {d s:Nat}{g:FuncId}{us:List PV}:zbK d (.cl s g us)=if s=d then jP else .cl s g us:=by simp[zbK,zai]
@[go_sem] theorem zIj {d s i j n:Nat}{p:zab}:zbK d (.ra s p i j n)=if s=d then jP else .ra s p i j n:=by simp[zbK,zai]
@[go_sem] theorem zKp {d:Nat}:zbK d jP=jP:=(rfl)
@[go_sem] theorem zLu {s n:Nat}{x:PV}:zaO s n (.v x)=.v x:=by simp[zaO,zai]
@[go_sem] theorem zCY {s n:Nat}:zaO s n .skip=.skip:=by simp[zaO,zai]
@[go_sem] theorem zFJ {s n es:Nat}{r:List (List PV)}:zaO s n (.ls es r)=.ls es r:=by simp[zaO,zai]
@[go_sem] theorem zHD {s n:Nat}{r:List PV}:zaO s n (.bl r)=.bl r:=by simp[zaO,zai]
@[go_sem] theorem zHp {s n s' i j:Nat}{p:zab}:zaO s n (.pt s' p i j)=if s'=s∧n≤p.length then jP else .pt s' p i j:=by simp[zaO,zai,zfu]
@[go_sem] theorem zIW {s n s':Nat}{p:zab}:zaO s n (.rf s' p)=if s'=s∧n≤p.length then jP else .rf s' p:=by simp[zaO,zai,zfu]
@[go_sem] theorem zHd {s n s' lo hi:Nat}{p:zab}:zaO s n (.rv s' p lo hi)=if s'=s∧n≤p.length then jP else .rv s' p lo hi:=by simp[zaO,zai,zfu]
@[go_sem] theorem zGm {b:Bool}{s n s' i j m:Nat}{p:zab}:zaO s n (.as b s' p i j m)=if s'=s∧n≤p.length+1 then jP else .as b s' p i j m:=by simp[zaO,zai,zfu]
@[go_sem] theorem zI9 {s n s':Nat}{g:FuncId}{us:List PV}:zaO s n (.cl s' g us)=if s'=s∧n≤0 then jP else .cl s' g us:=by simp[zaO,zai,zfu]
@[go_sem] theorem zGb {s n s' i j m:Nat}{p:zab}:zaO s n (.ra s' p i j m)=if s'=s∧n≤p.length+1 then jP else .ra s' p i j m:=by simp[zaO,zai,zfu]
@[go_sem] theorem zJY {s n:Nat}:zaO s n jP=jP:=by simp[zaO,zai,jP]
@[go_sem] theorem zGV {s:Nat}{x:PF}{l:List (Nat×PF)}{t:Nat}:PFr.ofL ((s,x)::l) t=if t=s then x else PFr.ofL l t:=(rfl)
@[go_sem] theorem zMg {t:Nat}:PFr.ofL [] t=jP:=(rfl)
@[go_sem] theorem zDQ {as:List (Md×PV)}{t:Nat}:zgI as t=zoJ as[t]? :=(rfl)
@[go_sem] theorem zDZ {m:Md}{x:PV}:zoJ (some (m,x))=.v x:=(rfl)
@[go_sem] theorem zEp:zoJ none=jP:=(rfl)
@[go_sem] theorem zRf:isJ .junk=true:=(rfl)
@[go_sem] theorem zIi {b:Bool}:isJ (.bool b)=false:=(rfl)
@[go_sem] theorem zJZ {j:IntKind}{n:Int}:isJ (.int j n)=false:=(rfl)
@[go_sem] theorem zJB {s:ByteArray}:isJ (.str s)=false:=(rfl)
@[go_sem] theorem zPj {o:Bool}{es:Nat}{r:List (List PV)}:isJ (.sl o es r)=false:=(rfl)
@[go_sem] theorem zOd {r:List PV}:isJ (.fp r)=false:=(rfl)
@[go_sem] theorem zNW {r:List PV}:isJ (.bx r)=false:=(rfl)
@[go_sem] theorem zIE {f:Fn}{a b:List PV}:isJ (.func f a b)=false:=(rfl)
@[go_sem] theorem zJs {r:List PV}:isJ (.agg r)=false:=(rfl)
@[go_sem] theorem zL3 {r:List PV}:isJ (.tup r)=false:=(rfl)
@[go_sem] theorem zFq:isJ .nilf=false:=(rfl)
@[go_sem] theorem zHi:isJ .nilp=false:=(rfl)
@[go_sem] theorem zHN:isJ .nili=false:=(rfl)
@[go_sem] theorem zNl:zaw .junk=false:=by simp[zaw]
@[go_sem] theorem zEN {b:Bool}:zaw (.bool b)=false:=by simp[zaw]
@[go_sem] theorem zJd {j:IntKind}{n:Int}:zaw (.int j n)=false:=by simp[zaw]
@[go_sem] theorem zHy {s:ByteArray}:zaw (.str s)=false:=by simp[zaw]
@[go_sem] theorem zJq {r:List PV}:zaw (.fp r)=false:=by simp[zaw]
@[go_sem] theorem zEx {f:Fn}{a b:List PV}:zaw (.func f a b)=false:=by simp[zaw]
@[go_sem] theorem zEI:zaw .nilf=false:=by simp[zaw]
@[go_sem] theorem zD1:zaw .nilp=false:=by simp[zaw]
@[go_sem] theorem zEg:zaw .nili=false:=by simp[zaw]
attribute [go_sem] ziE zrU zgV zpZ zhF zop zm4 zqr zm8 zqc zo1 zoS
@[go_sem] theorem zNa:drop .junk=.junk:=by simp[drop]
@[go_sem] theorem zEy {b:Bool}:drop (.bool b)=.bool b:=by simp[drop]
@[go_sem] theorem zGC {j:IntKind}{n:Int}:drop (.int j n)=.int j n:=by simp[drop]
@[go_sem] theorem zIG {s:ByteArray}:drop (.str s)=.str s:=by simp[drop]
@[go_sem] theorem zJA {r:List PV}:drop (.fp r)=.fp r:=by simp[drop]
@[go_sem] theorem zEc {f:Fn}{a b:List PV}:drop (.func f a b)=.func f a b:=by simp[drop]
@[go_sem] theorem zEV:drop .nilf=.nilf:=by simp[drop]
@[go_sem] theorem zEY:drop .nilp=.nilp:=by simp[drop]
@[go_sem] theorem zEh:drop .nili=.nili:=by simp[drop]
@[go_sem] theorem zLW:zaP .junk=true:=by simp[zaP]
@[go_sem] theorem zDu {b:Bool}:zaP (.bool b)=true:=by simp[zaP]
@[go_sem] theorem zEm {j:IntKind}{n:Int}:zaP (.int j n)=true:=by simp[zaP]
@[go_sem] theorem zEz {s:ByteArray}:zaP (.str s)=true:=by simp[zaP]
@[go_sem] theorem zIg {r:List PV}:zaP (.fp r)=false:=by simp[zaP]
@[go_sem] theorem zA9 {f:Fn}{a b:List PV}:zaP (.func f a b)=false:=by simp[zaP]
@[go_sem] theorem zDx:zaP .nilf=true:=by simp[zaP]
@[go_sem] theorem zDk {j:IntKind}{n:Int}:zfo (.int j n)=true:=(rfl)
@[go_sem] theorem zAJ {b:Bool}:zfo (.bool b)=true:=(rfl)
@[go_sem] theorem zBF {s:ByteArray}:zfo (.str s)=true:=(rfl)
@[go_sem] theorem zE3 {o:Bool}{es:Nat}{r:List (List PV)}:zfo (.sl o es r)=true:=(rfl)
@[go_sem] theorem zDV {r:List PV}:zfo (.bx r)=true:=(rfl)
@[go_sem] theorem zDX {r:List PV}:zfo (.fp r)=true:=(rfl)
@[go_sem] theorem zAK {f:Fn}{a b:List PV}:zfo (.func f a b)=true:=(rfl)
@[go_sem] theorem zAH {j:IntKind}{n:Int}:zbT (.int j n)=true:=(rfl)
@[go_sem] theorem zzz {b:Bool}:zbT (.bool b)=true:=(rfl)
@[go_sem] theorem zAI {s:ByteArray}:zbT (.str s)=true:=(rfl)
@[go_sem] theorem zDs {o:Bool}{es:Nat}{r:List (List PV)}:zbT (.sl o es r)=true:=(rfl)
@[go_sem] theorem zAz {r:List PV}:zbT (.agg r)=true:=(rfl)
@[go_sem] theorem zA0 {r:List PV}:zbT (.bx r)=true:=(rfl)
@[go_sem] theorem zDE {r:List PV}:zbT (.fp r)=true:=(rfl)
@[go_sem] theorem zzB {f:Fn}{a b:List PV}:zbT (.func f a b)=true:=(rfl)
@[go_sem] theorem zBa {j:IntKind}{n:Int}:zat (.int j n)=[.int j n]:=(rfl)
@[go_sem] theorem zAt {b:Bool}:zat (.bool b)=[.bool b]:=(rfl)
@[go_sem] theorem zCL {s:ByteArray}:zat (.str s)=[.str s]:=(rfl)
@[go_sem] theorem zEu {o:Bool}{es:Nat}{r:List (List PV)}:zat (.sl o es r)=[.sl o es r]:=(rfl)
@[go_sem] theorem zB1 {r:List PV}:zat (.agg r)=r:=(rfl)
@[go_sem] theorem zEe {r:List PV}:zat (.bx r)=[.bx r]:=(rfl)
@[go_sem] theorem zED {r:List PV}:zat (.fp r)=[.fp r]:=(rfl)
@[go_sem] theorem zAC {f:Fn}{a b:List PV}:zat (.func f a b)=[.func f a b]:=(rfl)
@[go_sem] theorem zD0 {e:Nat}{b:Bool}:zgh e (.bool b)=.bool b:=(rfl)
@[go_sem] theorem zIe {e:Nat}{j:IntKind}{n:Int}:zgh e (.int j n)=.int j n:=(rfl)
@[go_sem] theorem zHa {e:Nat}{s:ByteArray}:zgh e (.string s)=.str s:=(rfl)
@[go_sem] theorem zFY {e:Nat}:zgh e (.slice none 0 0)=.sl true e []:=(rfl)
@[go_sem] theorem zEQ {e:Nat}:zgh e .nilFunc=.nilf:=(rfl)
@[go_sem] theorem zMC {j:IntKind}{n:Int}:zaj (.int j n)=true:=(rfl)
@[go_sem] theorem zG2 {b:Bool}:zaj (.bool b)=true:=(rfl)
@[go_sem] theorem zLJ {b:ByteArray}:zaj (.string b)=true:=(rfl)
@[go_sem] theorem zMT:zaj (.slice none 0 0)=true:=(rfl)
@[go_sem] theorem zFF:zaj .nilFunc=true:=(rfl)
@[go_sem] theorem zKc {t:Tmp}:rdS pf (.tmp t)=zoK (pf t):=(rfl)
@[go_sem] theorem zNq {x:PV}:zoK (.v x)=toS x:=(rfl)
@[go_sem] theorem zEo:zoK .skip=none:=(rfl)
@[go_sem] theorem zG1 {b:Bool}:toS (.bool b)=some (.bool b):=(rfl)
@[go_sem] theorem zLn {j:IntKind}{n:Int}:toS (.int j n)=some (.int j n):=(rfl)
@[go_sem] theorem zKG {s:ByteArray}:toS (.str s)=some (.string s):=(rfl)
@[go_sem] theorem zKB {l:List PV}:toS (.agg l)=(zkF l).map fun l=>.agg l.toArray:=(rfl)
@[go_sem] theorem zHC:zkF []=some []:=(rfl)
@[go_sem] theorem zHE {j:IntKind}{n:Int}{r:List PV}:zkF (.int j n::r)=(zkF r).map fun l=>.int j n::l:=(rfl)
@[go_sem] theorem zJR {j:IntKind}{n:Int}:rdS pf (.const (.int j n))=some (.int j n):=(rfl)
@[go_sem] theorem zHx {b:Bool}:rdS pf (.const (.bool b))=some (.bool b):=(rfl)
@[go_sem] theorem zK6 {b:ByteArray}:rdS pf (.const (.string b))=some (.string b):=(rfl)
@[go_sem] theorem zBM {b:Bool}:zef (.bool b)=some (.bool b):=(rfl)
@[go_sem] theorem zER {j:IntKind}{n:Int}:zef (.int j n)=some (.int j n):=(rfl)
@[go_sem] theorem zD7 {s:ByteArray}:zef (.string s)=some (.str s):=(rfl)
def ev1 (f:Value→Option Value) (x:Option Value) (pf:PFr):Option (PF×PFr):=(x.bind fun a=>(f a).bind zef).map fun y=>(.v y,pf)
def ev2 (f:Value→Value→Option Value) (x y:Option Value) (pf:PFr):Option (PF×PFr):=(x.bind fun a=>y.bind fun b=>(f a b).bind zef).map fun y=>(.v y,pf)
def fin (x:Option Value) (pf:PFr):Option (PF×PFr):=(x.bind zef).map fun y=>(.v y,pf)
@[go_sem] theorem zHH {f:Value→Option Value}{a:Value}:ev1 f (some a) pf=fin (f a) pf:=(rfl)
@[go_sem] theorem zFG {f:Value→Value→Option Value}{a b:Value}:ev2 f (some a) (some b) pf=fin (f a b) pf:=(rfl)
@[go_sem] theorem zIh {b:Bool}:fin (some (.bool b)) pf=some (.v (.bool b),pf):=(rfl)
@[go_sem] theorem zKb {j:IntKind}{n:Int}:fin (some (.int j n)) pf=some (.v (.int j n),pf):=(rfl)
@[go_sem] theorem zJ4 {s:ByteArray}:fin (some (.string s)) pf=some (.v (.str s),pf):=(rfl)
theorem zgJ {o:Oper}{x:Option (PF×PFr)}(h:(((zbc o.op).bind (zhd pf)).bind fun vs=>(za8 P o.op vs).bind zef).map (fun y=>(PF.v y,pf))=x):zej P co o (pw P c k Q) pf=qv P c co x o.dst k Q:=by
 subst h
 unfold zej
 cases (zbc o.op).bind (zhd pf)with
 |none=>rfl
 |some vs=>
  simp only[Option.bind_some]
  cases (za8 P o.op vs).bind zef<;>rfl
@[go_sem ↓] theorem zGS {ty t:TypeId}{op:UnOp}{x:Operand}{d:Option Tmp}:pw1 P c co ty (.unOp op t x) d k Q pf=qv P c co (ev1 (unV op) (rdS pf x) pf) d k Q:=by
 refine zgJ (o:=⟨d,.unOp op t x,ty, "",#[],none⟩) ?_
 simp only[zbc,zhd,Option.bind_some]
 cases rdS pf x<;>simp[za8,ev1]
theorem zo5 {ty s t:TypeId}{x:Operand}{d:Tmp}(ht:zay P t=true) (hp:co.hp≠[]∨lsP pf x=true):pw1 P c co ty (.convert s t x) (some d) k Q pf=qv P c co (bsE P s pf x) (some d) k Q:=by
 show(if zay P t=true then(co.hp≠[]∨lsP pf x=true)∧zim P co s t x (some d) (pw P c k Q) pf else _)=_
 rw[if_pos ht]
 unfold zim qv
 cases bsE P s pf x with
 |none=>simp[hp]
 |some z=>simp[hp,ht]
@[go_sem ↓] theorem zF5 {ty s t:TypeId}{x:Operand}{d:Tmp}(ht:zay P t=true) (hp:co.hp.isEmpty=false):pw1 P c co ty (.convert s t x) (some d) k Q pf=qv P c co (bsE P s pf x) (some d) k Q:=zo5 ht (.inl fun e=>by rw[e]at hp;cases hp)
@[go_sem] theorem zI2 {rows:List (List PV)}:znk (.ls 1 rows)=true:=(rfl)
@[go_sem ↓] theorem zEk {ty s t:TypeId}{u:Nat}{d:Tmp}(ht:zay P t=true) (hl:znk (pf u)=true):pw1 P c co ty (.convert s t (.tmp u)) (some d) k Q pf=qv P c co (bsE P s pf (.tmp u)) (some d) k Q:=zo5 ht (.inr hl)
@[go_sem ↓] theorem zAS {ty s t:TypeId}{x:Operand}{d:Option Tmp}(ht:zay P t=false):pw1 P c co ty (.convert s t x) d k Q pf=qv P c co (ev1 (zlU P s t) (rdS pf x) pf) d k Q:=by
 have e:pw1 P c co ty (.convert s t x) d k Q pf=zej P co ⟨d,.convert s t x,ty, "",#[],none⟩ (pw P c k Q) pf:=by
  show(if zay P t=true then(co.hp≠[]∨lsP pf x=true)∧zim P co s t x d (pw P c k Q) pf else zej P co ⟨d,.convert s t x,ty, "",#[],none⟩ (pw P c k Q) pf)=_
  rw[if_neg (by simp[ht])]
 rw[e]
 refine zgJ (o:=⟨d,.convert s t x,ty, "",#[],none⟩) ?_
 simp only[zbc,zhd,Option.bind_some]
 cases rdS pf x<;>simp[za8,ev1]
@[go_sem] theorem zB0 {t:Tmp}:zgD (.tmp t)=false:=(rfl)
@[go_sem] theorem zBB {j:IntKind}{n:Int}:zgD (.const (.int j n))=false:=(rfl)
@[go_sem] theorem zAu {b:Bool}:zgD (.const (.bool b))=false:=(rfl)
@[go_sem] theorem zCv {s:ByteArray}:zgD (.const (.string s))=false:=(rfl)
@[go_sem ↓] theorem zEO {ty t u:TypeId}{op:BinOp}{x y:Operand}{d:Option Tmp}(hy:zgD y=false):pw1 P c co ty (.binOp op t x y u) d k Q pf=qv P c co (ev2 (zbh P op t) (rdS pf x) (rdS pf y) pf) d k Q:=by
 have e:pw1 P c co ty (.binOp op t x y u) d k Q pf=zej P co ⟨d,.binOp op t x y u,ty, "",#[],none⟩ (pw P c k Q) pf:=by
  show pop P co ⟨d,.binOp op t x y u,ty, "",#[],none⟩ (pw P c k Q) pf=_
  simp only[pop,hy,Bool.false_eq_true,if_false]
 rw[e]
 refine zgJ (o:=⟨d,.binOp op t x y u,ty, "",#[],none⟩) ?_
 simp only[zbc,zhd,Option.bind_some]
 cases rdS pf x<;>cases rdS pf y<;>simp[za8,ev2]
@[go_sem ↓] theorem zE7 {ty t:TypeId}{x y:Operand}{d:Option Tmp}:pw1 P c co ty (.index t x y) d k Q pf=qv P c co (ev2 (zhi P t) (rdS pf x) (rdS pf y) pf) d k Q:=by
 refine zgJ (o:=⟨d,.index t x y,ty, "",#[],none⟩) ?_
 simp only[zbc,zhd,Option.bind_some]
 cases rdS pf x<;>cases rdS pf y<;>simp[za8,ev2]
@[go_sem ↓] theorem zKE {ty:TypeId}{x y:Operand}{ts:Array TypeId}{d:Option Tmp}:pw1 P c co ty (.call ⟨.builtin .min,#[x,y],ts⟩) d k Q pf=qv P c co (ev2 (zfU false) (rdS pf x) (rdS pf y) pf) d k Q:=by
 refine zgJ (o:=⟨d,.call ⟨.builtin .min,#[x,y],ts⟩,ty, "",#[],none⟩) ?_
 simp only[zbc,zhd,Option.bind_some]
 cases rdS pf x<;>cases rdS pf y<;>simp[za8,ev2]
@[go_sem ↓] theorem zJv {ty:TypeId}{x y:Operand}{ts:Array TypeId}{d:Option Tmp}:pw1 P c co ty (.call ⟨.builtin .max,#[x,y],ts⟩) d k Q pf=qv P c co (ev2 (zfU true) (rdS pf x) (rdS pf y) pf) d k Q:=by
 refine zgJ (o:=⟨d,.call ⟨.builtin .max,#[x,y],ts⟩,ty, "",#[],none⟩) ?_
 simp only[zbc,zhd,Option.bind_some]
 cases rdS pf x<;>cases rdS pf y<;>simp[za8,ev2]
@[go_sem] theorem zGa {s d:TypeId}{i j k:IntKind}{n:Int}(hs:zdb P s=some i) (hd:zdb P d=some k):zlU P s d (.int j n)=some (.int k (k.wrap n)):=by
 unfold zlU
 have:∃u,P.underlying s=some u:=by
  unfold zdb at hs;split at hs
  ·rename_i h;exact⟨_,h⟩
  ·cases hs
 obtain⟨u,hu⟩:=this
 rw[hu,hd]
@[go_sem] theorem zLR {j:IntKind}{t:TypeId}{a b:Int}:zbh P .add t (.int j a) (.int j b)=some (.int j (j.wrap (a+b))):=by simp[zbh,zcY]
@[go_sem] theorem zMU {j:IntKind}{t:TypeId}{a b:Int}:zbh P .sub t (.int j a) (.int j b)=some (.int j (j.wrap (a-b))):=by simp[zbh,zcY]
@[go_sem] theorem zKg {j:IntKind}{t:TypeId}{a b:Int}:zbh P .mul t (.int j a) (.int j b)=some (.int j (j.wrap (a*b))):=by simp[zbh,zcY]
def zjs (b:Int) (x:Value):Option Value:=if b=0 then none else some x
@[go_sem] theorem zM2 {j:IntKind}{t:TypeId}{a b:Int}:zbh P .quo t (.int j a) (.int j b)=zjs b (.int j (j.wrap (a.tdiv b))):=by simp[zbh,zcY,zjs]
@[go_sem] theorem zMp {j:IntKind}{t:TypeId}{a b:Int}:zbh P .rem t (.int j a) (.int j b)=zjs b (.int j (a.tmod b)):=by simp[zbh,zcY,zjs]
theorem zn9 {b:Int}{x:Value}(h:b≠0):zjs b x=some x:=by simp[zjs,h]
@[go_sem] theorem zIn {x:Value}{n:Nat}:zjs (OfNat.ofNat (n+1)) x=some x:=by
 refine zn9 ?_
 show((n+1:Nat):Int)≠0
 omega
@[go_sem] theorem zMB {j:IntKind}{t:TypeId}{a b:Int}:zbh P .eql t (.int j a) (.int j b)=some (.bool (a==b)):=by simp[zbh,zcY]
@[go_sem] theorem zJV {j:IntKind}{t:TypeId}{a b:Int}:zbh P .neq t (.int j a) (.int j b)=some (.bool (a !=b)):=by simp[zbh,zcY]
@[go_sem] theorem zLa {j:IntKind}{t:TypeId}{a b:Int}:zbh P .lss t (.int j a) (.int j b)=some (.bool (decide (a<b))):=by simp[zbh,zcY]
@[go_sem] theorem zK4 {j:IntKind}{t:TypeId}{a b:Int}:zbh P .leq t (.int j a) (.int j b)=some (.bool (decide (a≤b))):=by simp[zbh,zcY]
@[go_sem] theorem zKQ {j:IntKind}{t:TypeId}{a b:Int}:zbh P .gtr t (.int j a) (.int j b)=some (.bool (decide (b<a))):=by simp[zbh,zcY]
@[go_sem] theorem zMZ {j:IntKind}{t:TypeId}{a b:Int}:zbh P .geq t (.int j a) (.int j b)=some (.bool (decide (b≤a))):=by simp[zbh,zcY]
@[go_sem] theorem zKh {j:IntKind}{t:TypeId}{a b:Int}:zbh P .and t (.int j a) (.int j b)=some (.int j (j.wrap (BitVec.ofInt j.bits a&&&BitVec.ofInt j.bits b).toNat)):=by simp[zbh,zcY]
@[go_sem] theorem zM7 {j:IntKind}{t:TypeId}{a b:Int}:zbh P .or t (.int j a) (.int j b)=some (.int j (j.wrap (BitVec.ofInt j.bits a|||BitVec.ofInt j.bits b).toNat)):=by simp[zbh,zcY]
@[go_sem] theorem zKn {j:IntKind}{t:TypeId}{a b:Int}:zbh P .xor t (.int j a) (.int j b)=some (.int j (j.wrap (BitVec.ofInt j.bits a^^^BitVec.ofInt j.bits b).toNat)):=by simp[zbh,zcY]
def zm7 (b:Int) (x:Value):Option Value:=if b<0 then none else some x
@[go_sem] theorem zJP {j j':IntKind}{t:TypeId}{a b:Int}:zbh P .shl t (.int j a) (.int j' b)=zm7 b (.int j (j.wrap (a*2^min b.toNat j.bits))):=by simp[zbh,zm7]
@[go_sem] theorem zJu {j j':IntKind}{t:TypeId}{a b:Int}:zbh P .shr t (.int j a) (.int j' b)=zm7 b (.int j (a.fdiv (2^min b.toNat j.bits))):=by simp[zbh,zm7]
theorem zxQ {b:Int}{x:Value}(h:0≤b):zm7 b x=some x:=by simp[zm7];omega
@[go_sem] theorem zFh {t:TypeId}{a b:Bool}(h:zhO P t=true):zbh P .eql t (.bool a) (.bool b)=some (.bool (a==b)):=by simp[zbh,h]
@[go_sem] theorem zFU {t:TypeId}{a b:Bool}(h:zhO P t=true):zbh P .neq t (.bool a) (.bool b)=some (.bool (a !=b)):=by simp[zbh,h]
@[go_sem] theorem zG7 {t:TypeId}{a b:List Value}{o:List Nat}(h:zl3 P t=some o):zbh P .eql t (.agg a.toArray) (.agg b.toArray)=(eqL a b o).map .bool:=by simp[zbh,h]
@[go_sem] theorem zGp {t:TypeId}{a b:List Value}{o:List Nat}(h:zl3 P t=some o):zbh P .neq t (.agg a.toArray) (.agg b.toArray)=(eqL a b o).map fun r=>.bool !r:=by simp[zbh,h]
@[go_sem] theorem zPn {j i:IntKind}{a b x y:Int}:eqL [.int j a,.int i b] [.int j x,.int i y] [0,1]=some (a==x&&b==y):=by simp[eqL]
@[go_sem] theorem zGf {t:TypeId}{a b:ByteArray}:zbh P .eql t (.string a) (.string b)=some (.bool (a.toList==b.toList)):=(rfl)
@[go_sem] theorem zqZ {t:TypeId}{a b:ByteArray}(h:a.size+b.size≤9223372036854775807):zbh P .add t (.string a) (.string b)=some (.string (a++b)):=by simp[zbh,h]
@[go_sem] theorem zQ9 {s:TypeId}{x:Operand}(h:zhh P s=true):bsE P s pf x=(srO 1 pf x).bind fun z=>(zhU z.1).map fun ns=>(.v (.str (zdW ns)),z.2):=by unfold bsE;rw[if_pos h]
@[go_sem] theorem zEA:zhU []=some []:=(rfl)
@[go_sem] theorem zto {n:Int}{rs:List (List PV)}:zhU ([.int .u8 n]::rs)=(zhU rs).map (n:: ·):=(rfl)
@[go_sem] theorem zEK {f:Int→List PV}(h:∀x,f x=[.int .u8 x]) {l:List Int}:zhU (l.map f)=some l:=by
 induction l with
 |nil=>rfl
 |cons x l ih=>rw[List.map_cons,h,zto,ih];rfl
@[go_sem] theorem zFd {t:TypeId}{a b:ByteArray}:zbh P .neq t (.string a) (.string b)=some (.bool !(a.toList==b.toList)):=(rfl)
@[go_sem] theorem zN0 {b:Bool}:unV .not (.bool b)=some (.bool !b):=(rfl)
@[go_sem] theorem zNA {j:IntKind}{n:Int}:unV .neg (.int j n)=some (.int j (j.wrap (0-n))):=(rfl)
@[go_sem] theorem zCJ {j:IntKind}{a b:Int}:zfU true (.int j a) (.int j b)=some (.int j (if a<b then b else a)):=by simp[zfU]
@[go_sem] theorem zBT {j:IntKind}{a b:Int}:zfU false (.int j a) (.int j b)=some (.int j (if b<a then b else a)):=by simp[zfU]
end
end Go.Pm
