import Derived.Test.YtnbbkiilkaebaaaGreatDoorPmT
namespace Go.Pm
open Go.Am
section
variable {P:Program}{c co:Cfg}{k:List PIt}{Q:Exit→PFr→Prop}{pf:PFr}
attribute [go_sem] Option.bind_some Option.bind_none Option.map_some Option.map_none Option.getD_some Option.getD_none
def orE:Option (PF×PFr)→Option (PF×PFr)→Option (PF×PFr)
 |some a,_=>some a
 |none,y=>y
theorem zu3 {a b c:Option (PF×PFr)}(h:a=b):orE a c=orE b c:=by rw[h]
@[go_sem ↓] theorem zF6 {a:PF×PFr}{y:Option (PF×PFr)}:orE (some a) y=some a:=rfl
@[go_sem ↓] theorem zGR {y:Option (PF×PFr)}:orE none y=y:=rfl
def tkA:Option PF→PFr→Option (PF×PFr)→Option (PF×PFr)
 |some y,pf,_=>some (y,pf)
 |none,_,x=>x
theorem zt3 {a b:Option PF}{pf:PFr}{x:Option (PF×PFr)}(h:a=b):tkA a pf x=tkA b pf x:=by rw[h]
@[go_sem ↓] theorem zFT {y:PF}{x:Option (PF×PFr)}:tkA (some y) pf x=some (y,pf):=rfl
@[go_sem ↓] theorem zHz {x:Option (PF×PFr)}:tkA none pf x=x:=rfl
attribute [congr] zu3 zt3
def ltO (x:Option PF) (f:PF→Option (PF×PFr)) (z:Option (PF×PFr)):Option (PF×PFr):=
 match x with
 |some y=>f y
 |none=>z
@[go_sem] theorem zGQ {y:PF}{f:PF→Option (PF×PFr)}{z:Option (PF×PFr)}:ltO (some y) f z=f y:=(rfl)
@[go_sem] theorem zHK {f:PF→Option (PF×PFr)}{z:Option (PF×PFr)}:ltO none f z=z:=(rfl)
@[go_sem] theorem zOB {d:Option Tmp}{x:PV}:tkE co d pf (.v x)=some (.v x,pf):=(rfl)
@[go_sem] theorem zMX {d:Option Tmp}{s i j n:Nat}{p:zab}:tkE co d pf (.ra s p i j n)=some (.ra s p i j n,pf):=(rfl)
@[go_sem] theorem zN9 {d:Option Tmp}{s:Nat}{p:zab}:tkE co d pf (.rf s p)=if ltB co d=true then(zau pf s p).bind fun x=>if isJ x=true then none else(zbX pf s p .junk).map fun pf'=>(.v x,pf')else some (.rf s p,pf):=(rfl)
@[go_sem] theorem zP8 {d:Nat}:ltB co (some d)=co.fz.contains (d+6*co.nt):=(rfl)
@[go_sem ↓] theorem zF8 {ty t:TypeId}{a:Operand}{d:Option Tmp}:pw1 P c co ty (.load t a) d k Q pf=qv P c co (ltO ((tk P t).bind fun tz=>(adr pf a).bind (ldA tz pf)) (tkE co d pf) ((zpS P t pf a).map fun y=>(y,pf))) d k Q:=by
 show zlH P co t a d (pw P c k Q) pf=_
 unfold zlH
 cases (tk P t).bind fun tz=>(adr pf a).bind (ldA tz pf)with
 |some y=>
  show zlG co (pw P c k Q) d y pf=qv P c co (tkE co d pf y) d k Q
  unfold zlG
  cases tkE co d pf y<;>rfl
 |none=>cases zpS P t pf a<;>rfl
theorem zut {d:Option Tmp}{x:Option AD}:pad co (pw P c k Q) d pf x=qv P c co (x.map fun ad=>(zjf ad,pf)) d k Q:=by cases x<;>rfl
@[go_sem ↓] theorem zDd {ty s:TypeId}{x:Operand}{f:Nat}{d:Option Tmp}:pw1 P c co ty (.fieldAddr s x f) d k Q pf=qv P c co (((zan P s f).bind fun o=>(adr pf x).bind (zh4 o.1)).map fun ad=>(zjf ad,pf)) d k Q:=zut
@[go_sem ↓] theorem zzf {ty:TypeId}{x:Operand}{d:Option Tmp}:pw1 P c co ty (.nilCheck x) d k Q pf=qv P c co ((adr pf x).map fun ad=>(zjf ad,pf)) d k Q:=zut
@[go_sem] theorem zQX {t:TypeId}{x i:Operand}{es:Nat}(h:esz P t=some es):ixE P t x i pf=(sbO pf x).bind (ixS es (rdS pf i)):=by simp[ixE,h]
@[go_sem] theorem zQK {t:TypeId}{x i:Operand}{z:Nat×Nat}(h:asz P t=some z) (h0:esz P t=none):ixE P t x i pf=(adr pf x).bind (ixA z.1 z.2 (rdS pf i)):=by simp[ixE,h,h0]
@[go_sem ↓] theorem zx5 {ty t:TypeId}{x i:Operand}{d:Option Tmp}:pw1 P c co ty (.indexAddr t x i) d k Q pf=qv P c co (orE ((ixE P t x i pf).map fun ad=>(zjf ad,pf)) (zok P t x i pf)) d k Q:=by
 show zjz P co t x i d (pw P c k Q) pf=_
 unfold zjz
 cases ixE P t x i pf with
 |some ad=>rfl
 |none=>cases zok P t x i pf<;>rfl
@[go_sem] theorem zM6 {t:TypeId}{u:Nat}{i:Operand}:zok P t (.tmp u) i pf=zo7 P t u pf (pf u) (rdS pf i):=(rfl)
@[go_sem] theorem zIn {t:TypeId}{u s i j n:Nat}{p:zab}{kk:IntKind}{q:Int}:zo7 P t u pf (.as false s p i j n) (some (.int kk q))=if esz P t=some 1∧0≤q∧q<n then some (.as true s p i (j+q.toNat) 1,pf.put u jP)else none:=(rfl)
@[go_sem] theorem zNf {t:TypeId}{u:Nat}:zpS P t pf (.tmp u)=(tk P t).bind fun tz=>if tz.1=false then zo2 (pf u)else none:=(rfl)
@[go_sem] theorem zF3 {s i j n:Nat}{p:zab}:zo2 (.as true s p i j n)=some (.rf s (p++[(i,j)])):=(rfl)
@[go_sem] theorem zMv {t:Nat}{b:Bool}{s i j n:Nat}{p:zab}:adF pf t (.as b s p i j n)=none:=(rfl)
@[go_sem] theorem zNW {t:Nat}{b:Bool}{s i j n:Nat}{p:zab}:sbF pf t (.as b s p i j n)=none:=(rfl)
@[go_sem] theorem zMb {c:Cfg}{d:Nat}(h:c.fz=[]):mkd c d=false:=by simp[mkd,h]
@[go_sem] theorem zQr {c:Cfg}{d:Nat}:mkd c d=c.fz.contains (d+2*c.nt):=(rfl)
@[go_sem] theorem zLn {s:Nat}{p:zab}:zmf (.rf s p)=some (s,p):=(rfl)
@[go_sem] theorem zH6 {o:Bool}{es:Nat}{rows:List (List PV)}:zo9 (some (.sl o es rows))=true:=(rfl)
@[go_sem] theorem zFc {s i j q:Nat}{p:zab}:zj4 pf s p i j q []=true:=(rfl)
@[go_sem] theorem zC7 {s i j q q':Nat}{t:Tmp}{p:zab}{r:List (Nat×Operand)}:zj4 pf s p i j q ((q',.tmp t)::r)=if q'=q∧zmf (pf t)=some (s,p++[(i,j+q)])∧zo9 (zau pf s (p++[(i,j+q)]))=true then zj4 pf s p i j (q+1) r else false:=(rfl)
@[go_sem] theorem zAl {a:Nat×Nat}:zeK [a]=some ([],a.1,a.2):=(rfl)
@[go_sem] theorem zBU {a b:Nat×Nat}{r:zab}:zeK (a::b::r)=(zeK (b::r)).map fun x=>(a::x.1,x.2):=(rfl)
@[go_sem] theorem zNX {q:Nat}{t:Tmp}{r:List (Nat×Operand)}:znS pf ((q,.tmp t)::r)=(zmf (pf t)).bind fun x=>(zeK x.2).map fun y=>(x.1,y):=(rfl)
@[go_sem] theorem zIE {t:TypeId}{len:Nat}{ps:List (Nat×Operand)}:zqc P t len ps pf=(ez P t).bind fun z=>(znS pf ps).bind fun a=>if z.1=1∧len≤2^24∧ps.length=len∧zj4 pf a.1 a.2.1 a.2.2.1 a.2.2.2 0 ps=true then some (.as false a.1 a.2.1 a.2.2.1 a.2.2.2 len)else none:=(rfl)
def stA (pf:PFr) (cells:List PV):AD→Option PFr
 | .pl s p i j=>zdE pf s p i j cells
 |_=>none
def stE (P:Program) (t:TypeId) (a x:Operand) (pf:PFr):Option PFr:=
 (tk P t).bind fun tz=>(zbg (ezT P t) pf x).bind fun y=>if znX tz.2 y.1=true then(adr y.2 a).bind (stA y.2 (zar y.1))else none
@[go_sem] theorem zOe {t:TypeId}{a x:Operand}:stE P t a x pf=(tk P t).bind fun tz=>(zbg (ezT P t) pf x).bind fun y=>if znX tz.2 y.1=true then(adr y.2 a).bind (stA y.2 (zar y.1))else none:=(rfl)
@[go_sem ↓] theorem zD2 {ty t:TypeId}{a x:Operand}:pw1 P c co ty (.store t a x) none k Q pf=qf P c (stE P t a x pf) k Q:=by
 show zjy P co t a x none (pw P c k Q) pf=_
 unfold zjy stE
 cases tk P t with
 |none=>rfl
 |some tz=>
  cases zbg (ezT P t) pf x with
  |none=>rfl
  |some y=>
   obtain⟨y,pf1⟩:=y
   obtain⟨b,sz⟩:=tz
   simp only[Option.bind_some]
   by_cases h:znX sz y=true
   ·rw[if_pos h]
    cases ha:adr pf1 a with
    |none=>simp[zid,qf]
    |some ad=>cases ad with
     |pl s p i j=>cases hp:zdE pf1 s p i j (zar y)<;>simp[zid,qf,h,stA,hp]
     |fz row=>simp[zid,qf,stA]
   ·rw[if_neg h];simp[qf,h]
def alE (P:Program) (co:Cfg) (e:TypeId) (d:Nat) (pf:PFr):Option PFr:=
 (zr P e).bind fun z=>if ckd co d .skip=true then some (if co.hp.contains d=true then pf.put d (.v (.bx z))else pf.put d (.bl z))else none
@[go_sem] theorem zPo {e:TypeId}{d:Nat}{z:List PV}(h:zr P e=some z) (h1:ckd co d .skip=true) (h2:co.hp.contains d=true):alE P co e d pf=some (pf.put d (.v (.bx z))):=by unfold alE;rw[h,Option.bind_some,if_pos h1,if_pos h2]
@[go_sem] theorem zP1 {e:TypeId}{d:Nat}{z:List PV}(h:zr P e=some z) (h1:ckd co d .skip=true) (h2:co.hp.contains d=false):alE P co e d pf=some (pf.put d (.bl z)):=by unfold alE;rw[h,Option.bind_some,if_pos h1,if_neg (by rw[h2];simp)]
@[go_sem ↓] theorem zDH {ty e:TypeId}{d:Tmp}:pw1 P c co ty (.alloc e) (some d) k Q pf=qf P c (alE P co e d pf) k Q:=by
 show zjL P co e (some d) (pw P c k Q) pf=_
 unfold zjL alE
 cases zr P e with
 |none=>rfl
 |some z=>
  simp only[Option.bind_some]
  by_cases h:ckd co d .skip=true
  ·rw[if_pos h]
   by_cases h2:co.hp.contains d=true
   ·simp only[h,h2,qf,if_true,true_and]
   ·simp only[h,h2,qf,true_and];simp
  ·rw[if_neg h];simp[qf,h]
def bxE (P:Program) (co:Cfg) (e:TypeId) (x:Operand) (d:Nat) (pf:PFr):Option PFr:=
 (tk P e).bind fun _=>(zbg (ezT P e) pf x).bind fun y=>if(!lsO pf x&&zbS y.1&&ckd co d .skip)=true then some (if co.hp.contains d=true then(if co.fz.contains d=true then(y.2.put d (.v (.bx (zar y.1)))).put d (.v (drop (.bx (zar y.1))))else y.2.put d (.v (.bx (zar y.1))))else y.2.put d (.bl (zar y.1)))else none
@[go_sem] theorem zOa {e:TypeId}{x:Operand}{d:Nat}:bxE P co e x d pf=(tk P e).bind fun _=>(zbg (ezT P e) pf x).bind fun y=>if(!lsO pf x&&zbS y.1&&ckd co d .skip)=true then some (if co.hp.contains d=true then(if co.fz.contains d=true then(y.2.put d (.v (.bx (zar y.1)))).put d (.v (drop (.bx (zar y.1))))else y.2.put d (.v (.bx (zar y.1))))else y.2.put d (.bl (zar y.1)))else none:=(rfl)
@[go_sem ↓] theorem zLR {ty e:TypeId}{x:Operand}{d:Tmp}:pw1 P c co ty (.box e x) (some d) k Q pf=qf P c (bxE P co e x d pf) k Q:=by
 show znI P co e x (some d) (pw P c k Q) pf=_
 unfold znI bxE
 cases tk P e with
 |none=>rfl
 |some z=>
  cases zbg (ezT P e) pf x with
  |none=>rfl
  |some y=>
   obtain⟨y,pf1⟩:=y
   simp only[Option.bind_some]
   by_cases h:(!lsO pf x&&zbS y&&ckd co d .skip)=true
   ·rw[if_pos h]
    simp only[Bool.and_eq_true,Bool.not_eq_true']at h
    by_cases h2:co.hp.contains d=true
    ·by_cases h4:co.fz.contains d=true
     ·simp only[h.1.1,h.1.2,h.2,h2,h4,qf,if_true,true_and]
     ·simp only[h.1.1,h.1.2,h.2,h2,h4,qf,if_true,true_and];simp
    ·simp only[h.1.1,h.1.2,h.2,h2,qf,true_and];simp
   ·rw[if_neg h]
    simp only[qf,eq_iff_iff,iff_false]
    rintro⟨h1,h2,h3,_⟩
    exact h (by rw[h1,h2,h3];rfl)
def zvq (P:Program) (co:Cfg) (t:TypeId) (len:Nat) (ps:List (Nat×Operand)) (d:Nat) (pf:PFr):Option PFr:=
 (ez P t).bind fun z=>(zfM pf (ps.map fun p=>(zaz P t p.1,p.2))).bind fun y=>if len*z.1≤2^24∧ckd co d .skip=true then(zgs z.1 ((ps.map (·.1)).zip (drx co d y.1)) (List.replicate len z.2.2)).map fun rows=>y.2.put d (.ls z.1 rows)else none
@[go_sem] theorem zJt {d:Nat}{xs:List PV}(h:co.fz=[]):drx co d xs=xs:=by simp[drx,h]
@[go_sem] theorem zOA {d:Nat}{xs:List PV}:drx co d xs=if co.fz.contains (d+3*co.nt)=true then xs.map drop else xs:=(rfl)
@[go_sem] theorem zKb {t:TypeId}{len:Nat}{ps:List (Nat×Operand)}{d:Nat}:zvq P co t len ps d pf=(ez P t).bind fun z=>(zfM pf (ps.map fun p=>(zaz P t p.1,p.2))).bind fun y=>if len*z.1≤2^24∧ckd co d .skip=true then(zgs z.1 ((ps.map (·.1)).zip (drx co d y.1)) (List.replicate len z.2.2)).map fun rows=>y.2.put d (.ls z.1 rows)else none:=(rfl)
@[go_sem ↓] theorem zxF {ty t:TypeId}{len:Nat}{ps:Array (Nat×Operand)}{d:Tmp}:pw1 P c co ty (.buildSlice t len ps) (some d) k Q pf=if mkd co d=true then qv P c co ((zqc P t len ps.toList pf).map fun y=>(y,pf)) (some d) k Q else qf P c (zvq P co t len ps.toList d pf) k Q:=by
 show zoh P co t len ps.toList (some d) (pw P c k Q) pf=_
 unfold zoh zvq
 by_cases hm:mkd co d=true
 ·rw[if_pos hm,if_pos (show zwh co (some d)=true from hm)]
  unfold znG
  cases zqc P t len ps.toList pf<;>rfl
 rw[if_neg hm,if_neg (show¬zwh co (some d)=true from hm)]
 cases ez P t with
 |none=>rfl
 |some z=>
  cases zfM pf (ps.toList.map fun p=>(zaz P t p.1,p.2))with
  |none=>rfl
  |some y=>
   obtain⟨xs,pf1⟩:=y
   simp only[Option.bind_some]
   by_cases h:len*z.1≤2^24∧ckd co d .skip=true
   ·rw[if_pos h]
    cases zgs z.1 ((ps.toList.map (·.1)).zip (drx co d xs)) (List.replicate len z.2.2)<;>simp only[zo6,qf,h.1,h.2,true_and,and_false,Option.map_none,Option.map_some]
   ·rw[if_neg h]
    simp only[qf,eq_iff_iff,iff_false]
    rintro⟨h1,h2⟩
    cases hf:zgs z.1 ((ps.toList.map (·.1)).zip (drx co d xs)) (List.replicate len z.2.2)with
    |none=>rw[hf]at h2;exact h2
    |some r=>rw[hf]at h2;exact h ⟨h1,h2.1⟩
@[go_sem ↓] theorem zEh {ty t:TypeId}{ps:Array (Nat×Operand)}{d:Option Tmp}:pw1 P c co ty (.build t ps) d k Q pf=
 qv P c co ((zeT P t).bind fun b=>(zfM pf (ps.toList.map fun p=>(zaz P t p.1,p.2))).bind fun y=>(zhC b.1 ((ps.toList.map (·.1)).zip y.1) b.2).map fun row=>(.v (.agg row),y.2)) d k Q:=by
 show zjH P co t ps.toList d (pw P c k Q) pf=_
 unfold zjH
 cases zeT P t with
 |none=>rfl
 |some b=>
  cases zfM pf (ps.toList.map fun p=>(zaz P t p.1,p.2))with
  |none=>rfl
  |some y=>
   simp only[Option.bind_some]
   cases zhC b.1 ((ps.toList.map (·.1)).zip y.1) b.2<;>rfl
def pkV (b x y:Option Value):Option PV:=
 match b with
 |some (.bool true)=>x.bind zd4
 |some (.bool false)=>y.bind zd4
 |_=>none
@[go_sem ↓] theorem zGm {ty:TypeId}{b x y:Operand}{d:Option Tmp}:pw1 P c co ty (.pick b x y) d k Q pf=qv P c co ((pkV (rdS pf b) (rdS pf x) (rdS pf y)).map fun z=>(.v z,pf)) d k Q:=by
 show zlI co b x y d (pw P c k Q) pf=_
 unfold zlI zth pkV
 cases rdS pf b with
 |none=>rfl
 |some v=>
  cases v with
  |bool b=>
   cases b
   ·simp only[]
    cases (rdS pf y).bind zd4<;>rfl
   ·simp only[]
    cases (rdS pf x).bind zd4<;>rfl
  |_=>rfl
@[go_sem] theorem zP4 {x y:Option Value}:pkV (some (.bool true)) x y=x.bind zd4:=(rfl)
@[go_sem] theorem zPg {x y:Option Value}:pkV (some (.bool false)) x y=y.bind zd4:=(rfl)
@[go_sem] theorem zJv {b:Bool}{j:IntKind}{m n:Int}:pkV (some (.bool b)) (some (.int j m)) (some (.int j n))=some (.int j (if b=true then m else n)):=by cases b<;>rfl
@[go_sem] theorem zHg {b m n:Bool}:pkV (some (.bool b)) (some (.bool m)) (some (.bool n))=some (.bool (if b=true then m else n)):=by cases b<;>rfl
@[go_sem] theorem zK8 {b:Bool}{m n:ByteArray}:pkV (some (.bool b)) (some (.string m)) (some (.string n))=some (.str (if b=true then m else n)):=by cases b<;>rfl
def mkV (b:Bool) (z:Nat×Nat×List PV) (pf:PFr):Option Value→Option Value→Option (PF×PFr)
 |some (.int .i64 n),some (.int .i64 m)=>if 0≤n∧n≤m∧z.2.1*m≤140737488355328∧m≤4611686018427387904 then some (.v (.sl true z.1 (List.replicate n.toNat (uz b z.2.2))),pf)else none
 |_,_=>none
@[go_sem] theorem zJn {b:Bool}{z:Nat×Nat×List PV}{n m:Int}:mkV b z pf (some (.int .i64 n)) (some (.int .i64 m))=if 0≤n∧n≤m∧z.2.1*m≤140737488355328∧m≤4611686018427387904 then some (.v (.sl true z.1 (List.replicate n.toNat (uz b z.2.2))),pf)else none:=(rfl)
@[go_sem] theorem zGo {d:Nat}:nzB co (some d)=co.fz.contains (d+co.nt):=(rfl)
@[go_sem] theorem zE4:nzB co none=false:=(rfl)
@[go_sem] theorem zHs {z:List PV}:uz false z=z:=(rfl)
@[go_sem] theorem zKz {z:List PV}:uz true z=z.map ud:=(rfl)
@[go_sem] theorem zQE {o:Bool}{e:Nat}:ud (.sl o e [])=.sl true e []:=(rfl)
@[go_sem] theorem zMI {j:IntKind}{n:Int}:ud (.int j n)=.int j n:=(rfl)
@[go_sem] theorem zK0 {b:Bool}:ud (.bool b)=.bool b:=(rfl)
@[go_sem] theorem zMg {b:ByteArray}:ud (.str b)=.str b:=(rfl)
@[go_sem ↓] theorem zxZ {ty t:TypeId}{l cc:Operand}{d:Option Tmp}:pw1 P c co ty (.makeSlice t l cc) d k Q pf=qv P c co ((ez P t).bind fun z=>mkV (nzB co d) z pf (rdS pf l) (rdS pf cc)) d k Q:=by
 show zlx P co t l cc d (pw P c k Q) pf=_
 unfold zlx
 cases ez P t with
 |none=>rfl
 |some z=>
  simp only[Option.bind_some]
  generalize rdS pf l=x1
  generalize rdS pf cc=x2
  unfold zsN mkV
  split
  ·rename_i n m
   simp only[]
   by_cases h:0≤n∧n≤m∧z.2.1*m≤140737488355328∧m≤4611686018427387904
   ·rw[if_pos h]
    simp only[h,true_and]
    rfl
   ·rw[if_neg h]
    simp only[qv,eq_iff_iff,iff_false]
    rintro⟨a1,_⟩
    exact h a1
  ·rename_i h1
   split
   ·rename_i e1;exact absurd rfl (h1 _ _ rfl)
   ·rfl
theorem zrE {ty t u:TypeId}{op:BinOp}{x y:Operand}{d:Tmp}{q:Bool}{rows:List (List PV)}(hy:zgl y=true) (hp:co.hp.isEmpty=false) (he:(zas P t).isSome=true) (hq:zqh op=some q) (hx:zvk pf x=some rows)
 (hk:∀b,(rows≠[]→b= !q)→qv P c co (some (.v (.bool b),pf)) (some d) k Q):pw1 P c co ty (.binOp op t x y u) (some d) k Q pf:=by
 show pop P co ⟨some d,.binOp op t x y u,ty, "",#[],none⟩ (pw P c k Q) pf
 simp only[pop,hy,if_true]
 refine⟨(by intro e;rw[e]at hp;cases hp),?_⟩
 cases x with
 |tmp s=>
  unfold zkl
  simp only[hq,hx]
  exact⟨he,fun b hb=>hk b hb⟩
 |_=>simp[zvk]at hx
@[go_sem ↓] theorem zyC {ty:TypeId}{fn:Fn}{xs ys:Array Operand}{d:Option Tmp}:pw1 P c co ty (.makeFunc fn xs ys) d k Q pf=
 qv P c co (if clB co d=true then(clS pf fn xs.toList ys.toList).bind (clM co pf)else(zhR (!co.hp.isEmpty) pf (xs.toList++ys.toList)).map fun vs=>(.v (.func fn (vs.1.take xs.toList.length) (vs.1.drop xs.toList.length)),vs.2)) d k Q:=by
 show zlN co fn xs.toList ys.toList d (pw P c k Q) pf=_
 unfold zlN
 split
 ·cases (clS pf fn xs.toList ys.toList).bind (clM co pf)<;>rfl
 cases zhR (!co.hp.isEmpty) pf (xs.toList++ys.toList)<;>rfl
def mvF (co:Cfg) (d:Option Tmp) (t:Nat) (pf:PFr):PF→Option (PF×PFr)
 | .v x=>if isJ x=true then none else some (if zav x=true then .rf t []else .v x,pf)
 | .ls es rows=>if t<co.nt then some (.rf t [],(pf.upd t (.v (.sl true es rows))).kill t 0)else none
 | .bl _=>some (.pt t [] 0 0,pf)
 | .skip=>none
 | .as .. =>none
 | .pt s p i j=>if lyB co d=true then lyR pf t s p i j (pf s)else some (.pt s p i j,pf)
 |y=>some (y,pf)
@[go_sem] theorem zO8 {co:Cfg}{d:Option Tmp}{t:Nat}{x:PV}(h:isJ x=false):mvF co d t pf (.v x)=some (if zav x=true then .rf t []else .v x,pf):=by simp[mvF,h]
@[go_sem] theorem zNa {co:Cfg}{d:Option Tmp}{t es:Nat}{rows:List (List PV)}(h:t<co.nt):mvF co d t pf (.ls es rows)=some (.rf t [],(pf.upd t (.v (.sl true es rows))).kill t 0):=by simp[mvF,h]
@[go_sem] theorem zNJ {co:Cfg}{d:Option Tmp}{t:Nat}{row:List PV}:mvF co d t pf (.bl row)=some (.pt t [] 0 0,pf):=(rfl)
@[go_sem] theorem zMu {co:Cfg}{d:Option Tmp}{t s i j:Nat}{p:zab}:mvF co d t pf (.pt s p i j)=if lyB co d=true then lyR pf t s p i j (pf s)else some (.pt s p i j,pf):=(rfl)
@[go_sem] theorem zQo {co:Cfg}{d:Nat}:lyB co (some d)=(!co.hp.isEmpty&&co.fz.contains (d+5*co.nt)):=(rfl)
@[go_sem] theorem zM1 {t s:Nat}{row:List PV}:lyR pf t s [] 0 0 (.bl row)=some (.rf s [],((pf.upd s (.v (.bx row))).kill s 0).put t (.rf s [])):=(rfl)
@[go_sem] theorem zMi {co:Cfg}{d:Option Tmp}{t s:Nat}{p:zab}:mvF co d t pf (.rf s p)=some (.rf s p,pf):=(rfl)
@[go_sem] theorem zNK {co:Cfg}{d:Option Tmp}{t s lo hi:Nat}{p:zab}:mvF co d t pf (.rv s p lo hi)=some (.rv s p lo hi,pf):=(rfl)
@[go_sem] theorem zOb {co:Cfg}{d:Option Tmp}{t s i j n:Nat}{p:zab}:mvF co d t pf (.ra s p i j n)=some (.ra s p i j n,pf):=(rfl)
@[go_sem] theorem zNA {co:Cfg}{d:Option Tmp}{t s:Nat}{g:FuncId}{us:List PV}:mvF co d t pf (.cl s g us)=some (.cl s g us,pf):=(rfl)
@[go_sem] theorem zPC {co:Cfg}{d:Nat}:clB co (some d)=co.fz.contains (d+4*co.nt):=(rfl)
@[go_sem] theorem zOO {g:FuncId}{s:Nat}{ys:List Operand}:clS pf (.func g) [] (.tmp s::ys)=match pf s with| .v (.bx _)=>some (g,s,ys)|_=>none:=(rfl)
@[go_sem] theorem zPz {g:FuncId}{s:Nat}{ys:List Operand}{co:Cfg}:clM co pf (g,s,ys)=(zhR (!co.hp.isEmpty) pf ys).map fun y=>(.cl s g y.1,y.2):=(rfl)
@[go_sem] theorem zQT {t:Tmp}:clO pf (.tmp t)=clF (pf t):=(rfl)
@[go_sem] theorem zMH {s:Nat}{g:FuncId}{us:List PV}:clF (.cl s g us)=some (s,g,us):=(rfl)
@[go_sem ↓] theorem zCd {ty:TypeId}{t:Tmp}{d:Option Tmp}:pw1 P c co ty (.move (.tmp t)) d k Q pf=qv P c co (mvF co d t pf (pf t)) d k Q:=by
 show zf2 co t d (pw P c k Q) pf (pf t)=_
 unfold zf2 mvF
 cases pf t with
 |v x=>
  cases hj:isJ x
  ·cases ho:zav x<;>simp[hj,ho,qv]
  ·simp[hj,qv]
 |ls es rows=>
  by_cases h:t<co.nt
  ·simp[h,qv]
  ·simp[h,qv]
 |pt s p i j=>
  cases hl:lyB co d
  ·simp[qv]
  ·simp only[if_true]
   cases lyR pf t s p i j (pf s)<;>rfl
 |_=>rfl
def tkV (x:Option (PV×PFr)):Option (PF×PFr):=x.map fun y=>(.v y.1,y.2)
@[go_sem] theorem zFx {y:PV}:tkV (some (y,pf))=some (.v y,pf):=(rfl)
@[go_sem ↓] theorem zAC {ty:TypeId}{k0:Value}{d:Option Tmp}:pw1 P c co ty (.move (.const k0)) d k Q pf=qv P c co (tkV (zbg (ezT P ty) pf (.const k0))) d k Q:=by
 show zg8 (ezT P ty) co (.const k0) d (pw P c k Q) pf=_
 unfold zg8
 simp only[]
 cases zbg (ezT P ty) pf (.const k0)<;>rfl
@[go_sem ↓] theorem zCI {ty:TypeId}{d:Option Tmp}{g:FuncId}:pw1 P c co ty (.move (.func g)) d k Q pf=qv P c co (tkV (zbg (ezT P ty) pf (.func g))) d k Q:=by
 show zg8 (ezT P ty) co (.func g) d (pw P c k Q) pf=_
 unfold zg8
 simp only[]
 cases zbg (ezT P ty) pf (.func g)<;>rfl
@[go_sem ↓] theorem zAu {ty:TypeId}{x:Operand}{d:Option Tmp}:pw1 P c co ty (.assign x) d k Q pf=qv P c co (tkA (zmm co pf d x) pf (tkV (zbg (ezT P ty) pf x))) d k Q:=by
 show zim (ezT P ty) co x d (pw P c k Q) pf=_
 unfold zim
 cases zmm co pf d x with
 |some y=>rfl
 |none=>cases zbg (ezT P ty) pf x<;>rfl
@[go_sem] theorem zND {d:Nat}{t:Tmp}:zmm co pf (some d) (.tmp t)=if mkd co d=true then zob t (pf t)else none:=(rfl)
@[go_sem] theorem zLY {t s:Nat}{p:zab}:zob t (.rf s p)=some (.rf s p):=(rfl)
@[go_sem] theorem zLm {t:Nat}{row:List PV}:zob t (.bl row)=some (.pt t [] 0 0):=(rfl)
@[go_sem] theorem zIQ {t s:Nat}{g:FuncId}{us:List PV}:zob t (.cl s g us)=some (.cl s g us):=(rfl)
@[go_sem] theorem zNH {d:Option Tmp}{x:Value}:zmm co pf d (.const x)=none:=by cases d<;>rfl
@[go_sem] theorem zNG {d:Option Tmp}{x:FuncId}:zmm co pf d (.func x)=none:=by cases d<;>rfl
def exV (pf:PFr) (s:Nat) (xs:List PV) (i:Nat):Option PV→Option (PF×PFr)
 |some y=>if isJ y=true then none else some (.v y,if zav y=true then(pf.upd s (.v (.tup (xs.set i .junk)))).kill s 1 else pf)
 |none=>none
@[go_sem] theorem zFq {s i:Nat}{xs:List PV}{y:PV}(h:isJ y=false):exV pf s xs i (some y)=some (.v y,if zav y=true then(pf.upd s (.v (.tup (xs.set i .junk)))).kill s 1 else pf):=by simp[exV,h]
@[go_sem] theorem zKi {t:Tmp}:exO pf (.tmp t)=match pf t with
 | .rf s []=>exR s (pf s)
 |y=>exR t y:=rfl
@[go_sem] theorem zPV {s:Nat}{xs:List PV}:exR s (.v (.tup xs))=some (s,xs):=(rfl)
@[go_sem ↓] theorem zAb {ty:TypeId}{x:Operand}{i:Nat}{d:Option Tmp}:pw1 P c co ty (.extract x i) d k Q pf=qv P c co ((exO pf x).bind fun a=>if a.1<co.nt then exV pf a.1 a.2 i a.2[i]? else none) d k Q:=by
 show zhx co x i d (pw P c k Q) pf=_
 unfold zhx
 cases exO pf x with
 |none=>rfl
 |some a=>
  obtain⟨s,xs⟩:=a
  simp only[Option.bind_some]
  by_cases h:s<co.nt
  ·rw[if_pos h]
   simp only[h,true_and]
   cases xs[i]? with
   |none=>rfl
   |some y=>
    cases hj:isJ y
    ·cases ho:zav y<;>simp[pex,exV,hj,ho,qv]
    ·simp[pex,exV,hj,qv]
  ·rw[if_neg h];simp[h,qv]
def slE (es t:Nat) (pf:PFr) (l h m:Option (Option Nat)):Option (PF×PFr):=
 match l,h,m with
 |some l,some h,some none=>(slF es (l.getD 0) h pf t (pf t)).map fun y=>(y,pf)
 |some l,some (some h),some (some m)=>((za4 pf (pf t)).bind lenV).bind fun rows=>(slF es (l.getD 0) (some h) pf t (pf t)).bind fun _=>if l.getD 0=h∧h=m∧m≤rows.length then some (.v (.sl true es []),pf)else none
 |_,_,_=>none
@[go_sem] theorem zAz {es t:Nat}{l h:Option Nat}:slE es t pf (some l) (some h) (some none)=(slF es (l.getD 0) h pf t (pf t)).map fun y=>(y,pf):=by cases h<;>rfl
@[go_sem] theorem zB3 {es t:Nat}{l:Option Nat}{h m:Nat}:slE es t pf (some l) (some (some h)) (some (some m))=((za4 pf (pf t)).bind lenV).bind fun rows=>(slF es (l.getD 0) (some h) pf t (pf t)).bind fun _=>if l.getD 0=h∧h=m∧m≤rows.length then some (.v (.sl true es []),pf)else none:=(rfl)
theorem zwR {es t:Nat}{d:Option Tmp}{l h m:Option (Option Nat)}:znV co es t d (pw P c k Q) pf l h m=qv P c co (slE es t pf l h m) d k Q:=by
 cases l with
 |none=>rfl
 |some l=>
  cases h with
  |none=>rfl
  |some h=>
   cases m with
   |none=>rfl
   |some m=>
    cases m with
    |none=>
     rw[zAz]
     cases h<;>simp only[znV]<;>cases slF es (l.getD 0) _ pf t (pf t)<;>rfl
    |some m=>
     cases h with
     |none=>rfl
     |some h=>
      rw[zB3]
      simp only[znV]
      cases (za4 pf (pf t)).bind lenV with
      |none=>rfl
      |some rows=>
       simp only[Option.bind_some]
       cases slF es (l.getD 0) (some h) pf t (pf t)with
       |none=>simp[qv]
       |some y=>
        by_cases hh:l.getD 0=h∧h=m∧m≤rows.length
        ·simp[hh,qv]
        ·simp[hh,qv]
@[go_sem ↓] theorem zDf {ty t:TypeId}{x:Tmp}{l h m:Option Operand}{d:Option Tmp}(hs:zax P t=false):pw1 P c co ty (.slice t (.tmp x) l h m) d k Q pf=qv P c co ((esz P t).bind fun es=>slE es x pf (rdB pf l) (rdB pf h) (rdB pf m)) d k Q:=by
 show(if zax P t=true then zd5 P co ⟨d,.slice t (.tmp x) l h m,ty, "",#[],none⟩ (pw P c k Q) pf else zjv P co t (.tmp x) l h m d (pw P c k Q) pf)=_
 rw[if_neg (by simp[hs])]
 unfold zjv
 cases esz P t with
 |none=>rfl
 |some es=>exact zwR
def qln (P:Program) (c co:Cfg) (x:Option (List (List PV))) (d:Option Tmp) (k:List PIt) (Q:Exit→PFr→Prop) (pf:PFr):Prop:=
 match x with
 |some rows=>rows.length≤zcr→qv P c co (some (.v (.int .i64 rows.length),pf)) d k Q
 |none=>False
theorem zul {x x':Option (List (List PV))}{d:Option Tmp}(h:x=x'):qln P c co x d k Q pf=qln P c co x' d k Q pf:=by rw[h]
attribute [congr] zul
def qlm (P:Program) (c co:Cfg) (t:TypeId) (d:Option Tmp) (k:List PIt) (Q:Exit→PFr→Prop) (pf:PFr) (x:Nat):PF→Prop
 | .ls es rows=>qln P c co ((zas P t).bind fun _=>some rows) d k Q ((pf.upd x (.v (.sl true es rows))).kill x 0)
 |y=>qln P c co ((zas P t).bind fun _=>(za4 pf y).bind lenV) d k Q pf
theorem zuK {t:TypeId}{d:Option Tmp}{x:Nat}{y y':PF}(h:y=y'):qlm P c co t d k Q pf x y=qlm P c co t d k Q pf x y':=by rw[h]
attribute [congr] zuK
@[go_sem ↓] theorem zOc {t:TypeId}{d:Option Tmp}{x es:Nat}{rows:List (List PV)}:qlm P c co t d k Q pf x (.ls es rows)=qln P c co ((zas P t).bind fun _=>some rows) d k Q ((pf.upd x (.v (.sl true es rows))).kill x 0):=rfl
@[go_sem ↓] theorem zOV {t:TypeId}{d:Option Tmp}{x:Nat}{y:PV}:qlm P c co t d k Q pf x (.v y)=qln P c co ((zas P t).bind fun _=>lenV y) d k Q pf:=rfl
@[go_sem ↓] theorem zMT {t:TypeId}{d:Option Tmp}{x s:Nat}{p:zab}:qlm P c co t d k Q pf x (.rf s p)=qln P c co ((zas P t).bind fun _=>(za4 pf (.rf s p)).bind lenV) d k Q pf:=rfl
@[go_sem ↓] theorem zMB {t:TypeId}{d:Option Tmp}{x s lo hi:Nat}{p:zab}:qlm P c co t d k Q pf x (.rv s p lo hi)=qln P c co ((zas P t).bind fun _=>(za4 pf (.rv s p lo hi)).bind lenV) d k Q pf:=rfl
@[go_sem ↓] theorem zKp {ty t:TypeId}{x:Tmp}{d:Option Tmp}(hs:zax P t=false):pw1 P c co ty (.call ⟨.builtin .len,#[.tmp x],#[t]⟩) d k Q pf=qlm P c co t d k Q pf x (pf x):=by
 show(if zax P t=true then zd5 P co ⟨d,.call ⟨.builtin .len,#[.tmp x],#[t]⟩,ty, "",#[],none⟩ (pw P c k Q) pf else zme P co t (.tmp x) d (pw P c k Q) pf)=_
 rw[if_neg (by simp[hs])]
 unfold zme qlm
 cases hpt:pf x with
 |ls es rows=>
  have:((pf.upd x (.v (.sl true es rows))).kill x 0) x=.v (.sl true es rows):=by simp[PFr.kill,PFr.upd,zaO,zai]
  simp only[lsM,hpt,this,za4,lenV,Option.bind_some,qln,qv]
  cases zas P t<;>rfl
 |_=>
  simp only[lsM,hpt,qln,qv]
  generalize (zas P t).bind (fun _=>(za4 pf _).bind lenV)=o
  cases o<;>rfl
@[go_sem] theorem zJM {t:TypeId}{x:Operand}{s:ByteArray}(hs:zax P t=true):za5 P (.call ⟨.builtin .len,#[x],#[t]⟩) [.string s]=some (.int .i64 s.size):=by simp[za5,Am.lenV,hs]
@[go_sem ↓] theorem zHi {ty t:TypeId}{x:Operand}{d:Option Tmp}(hs:zax P t=true):pw1 P c co ty (.call ⟨.builtin .len,#[x],#[t]⟩) d k Q pf=qv P c co (ev1 (fun v=>za5 P (.call ⟨.builtin .len,#[x],#[t]⟩) [v]) (rdS pf x) pf) d k Q:=by
 show(if zax P t=true then zd5 P co ⟨d,.call ⟨.builtin .len,#[x],#[t]⟩,ty, "",#[],none⟩ (pw P c k Q) pf else zme P co t x d (pw P c k Q) pf)=_
 rw[if_pos hs]
 refine zgw (o:=⟨d,.call ⟨.builtin .len,#[x],#[t]⟩,ty, "",#[],none⟩) ?_
 simp only[zbb,zg7,Option.bind_some]
 cases rdS pf x<;>simp[ev1]
def apE (P:Program) (t:TypeId) (s x:Operand) (pf:PFr):Option (PF×PFr):=
 (ez P t).bind fun z=>(zbg z.1 pf s).bind fun b=>(bsR z.1 b.1).bind fun rows=>(srO z.1 b.2 x).bind fun r=>
   if zdT r.1=true∧(rows.length+r.1.length)*z.2.1≤140737488355328∧rows.length+r.1.length≤4611686018427387904 then some (.v (.sl true z.1 (rows++r.1)),r.2)else none
@[go_sem] theorem zMh {t:TypeId}{s x:Operand}:apE P t s x pf=(ez P t).bind fun z=>(zbg z.1 pf s).bind fun b=>(bsR z.1 b.1).bind fun rows=>(srO z.1 b.2 x).bind fun r=>
 if zdT r.1=true∧(rows.length+r.1.length)*z.2.1≤140737488355328∧rows.length+r.1.length≤4611686018427387904 then some (.v (.sl true z.1 (rows++r.1)),r.2)else none:=rfl
@[go_sem ↓] theorem zCM {ty t:TypeId}{s x:Operand}{d:Option Tmp}:pw1 P c co ty (.call ⟨.builtin .append,#[s,x],#[t,t]⟩) d k Q pf=qv P c co (apE P t s x pf) d k Q:=by
 show(if t=t then znT P co t s x d (pw P c k Q) pf else znB P co t t s x d (pw P c k Q) pf)=_
 rw[if_pos rfl]
 unfold znT apE
 cases ez P t with
 |none=>rfl
 |some z=>
  simp only[Option.bind_some]
  cases zbg z.1 pf s with
  |none=>rfl
  |some b=>
   obtain⟨b,pf1⟩:=b
   simp only[Option.bind_some,zpe]
   cases bsR z.1 b with
   |none=>rfl
   |some rows=>
    simp only[Option.bind_some]
    cases srO z.1 pf1 x with
    |none=>rfl
    |some r=>
     obtain⟨rows2,pf2⟩:=r
     simp only[Option.bind_some,zpa]
     by_cases h:zdT rows2=true∧(rows.length+rows2.length)*z.2.1≤140737488355328∧rows.length+rows2.length≤4611686018427387904
     ·rw[if_pos h]
      simp only[h.1,h.2.1,h.2.2,true_and,qv]
     ·rw[if_neg h]
      simp only[qv,eq_iff_iff,iff_false]
      rintro⟨a1,a2,_⟩
      exact h ⟨a1,a2⟩
theorem zxJ {ty t:TypeId}{g:FuncId}{x:Operand}{ts:Array TypeId}{d:Option Tmp}{n:Int}{z:Nat×Nat×List PV}(h:zsv P g t) (hz:ez P t=some z) (hn:rdS pf x=some (.int .i64 n)) (hb:0≤n∧z.2.1*n≤140737488355328∧n≤4611686018427387904)
 (hk:qv P c co (some (.v (.sl true z.1 []),pf)) d k Q):pw1 P c co ty (.call ⟨.value (.func g),#[.const (.slice none 0 0),x],ts⟩) d k Q pf:=.inr (.inl ⟨g,x,t,n,z,rfl,rfl,h,hn,hz,hb,hk⟩)
theorem zw6 {ty:TypeId}{f:Operand}{args:Array Operand}{ts:Array TypeId}{d:Option Tmp}(ms:List Md) {l:List (Md×Nat×Operand)}{ys:List PV}{pf1:PFr}{g:FuncId}{xs us:List PV}{as as':List (Md×PV)}
 {R:PV→List PV→Prop}(hm:ms.length=args.toList.length) (hl:ms.zip (zc2 P args.toList ts.toList)=l) (ha:zhb pf l=some (ys,pf1)) (hf:fnO pf1 f=some (g,xs,us)) (hc:cargs pf1 l ys=some as)
 (has:xs.map (fun x=>(Md.sh,x))++as++us.map (fun x=>(Md.sh,x))=as') (h:PCalls P g as' R)
 (hk:∀r outs,R r outs→(l.any (zg0 pf1)=false∨(zaN r&&outs.all zaN)=true)∧qv P c co ((back co.nt pf1 l (outs.drop xs.length)).map fun p=>(.v r,p)) d k Q):pw1 P c co ty (.call ⟨.value f,args,ts⟩) d k Q pf:=by
 refine .inl ⟨ms,hm,?_⟩
 rw[hl,ha]
 show zhI P co d (pw P c k Q) pf1 l (fnO pf1 f) (cargs pf1 l ys)
 rw[hf,hc]
 show PCalls P g _ _
 rw[has]
 refine h.mono fun r outs hr=>?_
 obtain⟨h1,h2⟩:=hk r outs hr
 refine⟨h1,?_⟩
 cases hb:back co.nt pf1 l (outs.drop xs.length)with
 |none=>rw[hb]at h2;exact h2
 |some p=>rw[hb]at h2;exact h2
theorem zxi {id:Nat}{ops:Array Oper}(D:List DE) {L:List (DE×Oper)}(h1:P.follows .mixedOrders=true) (h2:ziI D ops.toList=true) (hL:D.map (fun x=>(x,ops.toList.getD x.i default))=L)
 (h:pw P c (.dops (ops.toList.map (·.dst)) L::k) Q pf):pw P c (.code (.region id ops true)::k) Q pf:=by
 subst hL
 exact⟨h1,0,D,h2,h⟩
theorem zvo {id:Nat}{ops:Array Oper}(a b:Nat) (D D':List DE) {L L':List (DE×Oper)}(h1:P.follows .mixedOrders=true) (hab:a≠b) (h2:ziI D ops.toList [(a,b)]=true) (h2':ziI D' ops.toList [(b,a)]=true) (hL:D.map (fun x=>(x,ops.toList.getD x.i default))=L) (hL':D'.map (fun x=>(x,ops.toList.getD x.i default))=L')
 (h:pw P c (.dops (ops.toList.map (·.dst)) L::k) Q pf) (h':pw P c (.dops (ops.toList.map (·.dst)) L'::k) Q pf):pw P c (.code (.region id ops true)::k) Q pf:=by
 subst hL
 subst hL'
 exact⟨h1,1,a,b,hab,⟨D,h2,h⟩,⟨D',h2',h'⟩⟩
def zwq (D:List DE) (ops:List Oper):List (Nat×Nat)→List (Nat×Nat)→Bool
 |[],xs=>ziI D ops xs
 |p::ps,xs=>zwq D ops ps ((p.1,p.2)::xs)&&zwq D ops ps ((p.2,p.1)::xs)
@[go_sem ↓] theorem zAf {pre:List (Option Tmp)}:pw P c (.dops pre []::k) Q pf=pw P c k Q pf:=rfl
def zbs:Op→Bool
 | .call ⟨.value _,_,_⟩=>true
 |_=>false
def pwd (P:Program) (c:Cfg) (ext:Bool) (ty:TypeId) (op:Op) (d:Option Tmp) (k:List PIt) (Q:Exit→PFr→Prop) (pf:PFr):Prop:=zhV P c ext ⟨d,op,ty, "",#[],none⟩ (pw P c k Q) pf
theorem zrz {o o':Oper}{ext:Bool}{K:PFr→Prop}(h:o.op=o'.op) (hd:o.dst=o'.dst) (ht:o.type=o'.type):zhV P c ext o K pf=zhV P c ext o' K pf:=by
 obtain⟨d,op,ty,ps,af,g⟩:=o
 obtain⟨d',op',ty',ps',af',g'⟩:=o'
 simp only at h hd ht
 subst h;subst hd;subst ht
 rfl
@[go_sem ↓] theorem zMq {pre:List (Option Tmp)}{e:DE}{d:Option Tmp}{op:Op}{ty:TypeId}{ps:String}{af:Array Edge}{l:List (DE×Oper)}(h:(zj8 pf e.rg e.ls e.sl&&zmk pf e.mr)=true):
 pw P c (.dops pre ((e,⟨d,op,ty,ps,af,none⟩)::l)::k) Q pf=pwd P c e.ex ty op d (.dops pre l::k) Q pf:=by
 show zoa P c pre e ⟨d,op,ty,ps,af,none⟩ (pw P c (.dops pre l::k) Q) pf=_
 simp only[zoa,h,true_and,znm]
 exact zrz rfl rfl rfl
def zek (P:Program) (c:Cfg) (y:Option (Option Bool)) (b:Bool) (ext:Bool) (ty:TypeId) (op:Op) (d:Option Tmp) (k:List PIt) (Q:Exit→PFr→Prop) (pf:PFr):Prop:=
 pgo c b d (pwd P c ext ty op d k Q pf) (pw P c k Q) pf y
theorem ztB {y y':Option (Option Bool)}{b ext:Bool}{ty:TypeId}{op:Op}{d:Option Tmp}(h:y=y'):zek P c y b ext ty op d k Q pf=zek P c y' b ext ty op d k Q pf:=by rw[h]
attribute [congr] ztB
@[go_sem ↓] theorem zL5 {pre:List (Option Tmp)}{e:DE}{d:Option Tmp}{op:Op}{ty:TypeId}{ps:String}{af:Array Edge}{j:Nat}{b:Bool}{l:List (DE×Oper)}(h:(zj8 pf e.rg e.ls e.sl&&zmk pf e.mr)=true):
 pw P c (.dops pre ((e,⟨d,op,ty,ps,af,some (j,b)⟩)::l)::k) Q pf=zek P c (ygP pf pre[j]?) b e.ex ty op d (.dops pre l::k) Q pf:=by
 show zoa P c pre e ⟨d,op,ty,ps,af,some (j,b)⟩ (pw P c (.dops pre l::k) Q) pf=_
 simp only[zoa,h,true_and,znm]
 unfold zek pwd
 rw[zrz (o:=⟨d,op,ty,ps,af,some (j,b)⟩) (o':=⟨d,op,ty, "",#[],none⟩) rfl rfl rfl]
@[go_sem ↓] theorem zJD {ext:Bool}{ty:TypeId}{op:Op}{d:Option Tmp}:zek P c (some (some true)) true ext ty op d k Q pf=pwd P c ext ty op d k Q pf:=by simp[zek,pgo]
@[go_sem ↓] theorem zKE {ext:Bool}{ty:TypeId}{op:Op}{d:Option Tmp}:zek P c (some (some false)) false ext ty op d k Q pf=pwd P c ext ty op d k Q pf:=by simp[zek,pgo]
@[go_sem ↓] theorem zLy {ext:Bool}{ty:TypeId}{op:Op}{d:Tmp}(h:ckd c d .skip=true):zek P c (some (some true)) false ext ty op (some d) k Q pf=pw P c k Q (pf.put d .skip):=by simp[zek,pgo,zhy,h]
@[go_sem ↓] theorem zKs {ext:Bool}{ty:TypeId}{op:Op}{d:Tmp}(h:ckd c d .skip=true):zek P c (some (some false)) true ext ty op (some d) k Q pf=pw P c k Q (pf.put d .skip):=by simp[zek,pgo,zhy,h]
@[go_sem ↓] theorem zNz {ext b:Bool}{ty:TypeId}{op:Op}{d:Tmp}(h:ckd c d .skip=true):zek P c (some none) b ext ty op (some d) k Q pf=pw P c k Q (pf.put d .skip):=by simp[zek,pgo,zhy,h]
theorem ztx {y b ext:Bool}{ty:TypeId}{op:Op}{d:Option Tmp}(h1:y=true→zek P c (some (some true)) b ext ty op d k Q pf) (h2:y=false→zek P c (some (some false)) b ext ty op d k Q pf):zek P c (some (some y)) b ext ty op d k Q pf:=by
 cases y
 ·exact h2 rfl
 ·exact h1 rfl
@[go_sem ↓] theorem zM0 {ext:Bool}{ty:TypeId}{op:Op}{d:Option Tmp}(hc:zbs op=false) (he:(!ext||zcg op)=true):pwd P c ext ty op d k Q pf=pw1 P c c.nohp ty op d k Q pf:=by
 have he':ext=true→zcg op=true:=by intro h;subst h;simpa using he
 unfold pwd zhV pw1
 split
 ·simp_all [zbs]
 ·simp only[eq_iff_iff]
  exact⟨fun h=>h.2,fun h=>⟨he',h⟩⟩
@[go_sem] theorem zPb {i:Nat}{sl rg:List Nat}{mr:Option Nat}{ls a b:Bool}:DE.ex ⟨i,sl,rg,mr,ls,a,b⟩=(a&& !b):=(rfl)
@[go_sem ↓] theorem zNy {ty:TypeId}{f:Operand}{args:Array Operand}{ts:Array TypeId}{d:Option Tmp}:pwd P c false ty (.call ⟨.value f,args,ts⟩) d k Q pf=pw1 P c c.nohp ty (.call ⟨.value f,args,ts⟩) d k Q pf:=by
 unfold pwd zhV pw1
 simp
theorem zvU {ty:TypeId}{f:Operand}{args:Array Operand}{ts:Array TypeId}{d:Option Tmp}{l:List (Md×Nat×Operand)}{ys:List PV}{pf1:PFr}{g:FuncId}{xs us:List PV}{as as':List (Md×PV)}
 {R:PV→List PV→Prop}(hl:(List.replicate args.toList.length Md.sh).zip (zc2 P args.toList ts.toList)=l) (ha:zhb pf l=some (ys,pf1)) (hf:fnO pf1 f=some (g,xs,us)) (hc:cargs pf1 l ys=some as)
 (has:xs.map (fun x=>(Md.sh,x))++as++us.map (fun x=>(Md.sh,x))=as') (h:PCalls P g as' R)
 (hk:∀r outs,R r outs→(l.any (zg0 pf1)=false∨(zaN r&&outs.all zaN)=true)∧qv P c c ((back c.nt pf1 l (outs.drop xs.length)).map fun p=>(.v r,p)) d k Q):pwd P c true ty (.call ⟨.value f,args,ts⟩) d k Q pf:=by
 refine⟨by simp,?_⟩
 rw[hl,ha]
 show zhI P c d (pw P c k Q) pf1 l (fnO pf1 f) (cargs pf1 l ys)
 rw[hf,hc]
 show PCalls P g _ _
 rw[has]
 refine h.mono fun r outs hr=>?_
 obtain⟨h1,h2⟩:=hk r outs hr
 refine⟨h1,?_⟩
 cases hb:back c.nt pf1 l (outs.drop xs.length)with
 |none=>rw[hb]at h2;exact h2
 |some p=>rw[hb]at h2;exact h2
theorem zrn {f:FuncId}{fn:Func}{code:Code}{as:List (Md×PV)}{R:PV→List PV→Prop}(fz hp:List Nat) (hc:zac P f) (hf:P.funcs[f]? =some fn) (hb:fn.body=some code) (hlen:as.length≤fn.ntmps)
 (h:pw P ⟨fn.ntmps,ioL 0 as,fz,hp⟩ [.code code] (ziJ P fn.results.toList as R) (zgt as)):PCalls P f as R:=by
 refine zpj (fz:=fz) (hp:=hp) hc hf hb hlen ?_
 have e:zbH P ⟨fn.ntmps,ioL 0 as,fz,hp⟩ [] (ziJ P fn.results.toList as R)=ziJ P fn.results.toList as R:=by funext e;cases e<;>rfl
 have h':pwp P ⟨fn.ntmps,ioL 0 as,fz,hp⟩ code (zbH P ⟨fn.ntmps,ioL 0 as,fz,hp⟩ [] (ziJ P fn.results.toList as R)) (zgt as):=h
 rwa [e]at h'
@[go_sem] theorem zH4 {rs:List ResultVar}{as:List (Md×PV)}{R:PV→List PV→Prop}:ziJ P rs as R .ret pf=zlO as R (zg2 P pf rs):=(rfl)
@[go_sem] theorem zzX {rs:List ResultVar}{as:List (Md×PV)}{R:PV→List PV→Prop}:ziJ P rs as R .normal pf=zlO as R (zg2 P pf rs):=(rfl)
@[go_sem] theorem zCQ {as:List (Md×PV)}{R:PV→List PV→Prop}{x:List PV}:zlO as R (some (x,pf))=R (zpW x) (zfk pf 0 as):=(rfl)
@[go_sem] theorem zDs:zg2 P pf []=some ([],pf):=(rfl)
@[go_sem] theorem zCl {x:ResultVar}{xs:List ResultVar}:zg2 P pf (x::xs)=(zkm P pf x).bind fun a=>(zg2 P a.2 xs).map fun b=>(a.1::b.1,b.2):=(rfl)
@[go_sem] theorem zC9 {t:Tmp}:zkm P pf (.tmp t)=if zhw (pf t)=true then none else zd6 pf t (pf t):=(rfl)
@[go_sem] theorem zCT {t:Tmp}{ty:TypeId}:zkm P pf (.cell t ty)=zls pf t (pf t) (tk P ty):=(rfl)
@[go_sem] theorem zKn {t sz:Nat}{row:List PV}:zls pf t (.bl row) (some (true,sz))=if sz=row.length then some (.agg row,(pf.upd t jP).kill t 0)else none:=by cases row<;>rfl
@[go_sem] theorem zKU {t sz:Nat}{x:PV}{row:List PV}:zls pf t (.bl (x::row)) (some (false,sz))=some (x,(pf.upd t jP).kill t 0):=(rfl)
@[go_sem] theorem zMD {x:PV}:zhw (.v x)=false:=(rfl)
@[go_sem] theorem zII {s:Nat}{p:zab}:zhw (.rf s p)=false:=(rfl)
@[go_sem] theorem zKv {s lo hi:Nat}{p:zab}:zhw (.rv s p lo hi)=false:=(rfl)
@[go_sem] theorem zLf {s i j n:Nat}{p:zab}:zhw (.ra s p i j n)=false:=(rfl)
@[go_sem] theorem zLI {es:Nat}{rows:List (List PV)}:zhw (.ls es rows)=true:=(rfl)
@[go_sem] theorem zJk {s i j:Nat}{p:zab}:zhw (.pt s p i j)=false:=(rfl)
@[go_sem] theorem zJa {row:List PV}:zhw (.bl row)=false:=(rfl)
@[go_sem] theorem zJl {t:Tmp}:lsO pf (.tmp t)=zhw (pf t):=(rfl)
@[go_sem] theorem zEk {v:Value}:lsO pf (.const v)=false:=(rfl)
@[go_sem] theorem zEX {g:FuncId}:lsO pf (.func g)=false:=(rfl)
@[go_sem] theorem zGG:zpW []=.junk:=(rfl)
@[go_sem] theorem zH7 {x:PV}:zpW [x]=x:=(rfl)
@[go_sem] theorem zFN {x y:PV}{l:List PV}:zpW (x::y::l)=.tup (x::y::l):=(rfl)
@[go_sem] theorem zF0 {n:Nat}:zfk pf n []=[]:=(rfl)
@[go_sem] theorem zJu {n:Nat}{x:PV}{l:List (Md×PV)}:zfk pf n ((.io,x)::l)=zsQ (pf n)::zfk pf (n+1) l:=(rfl)
@[go_sem] theorem zJm {n:Nat}{x:PV}{l:List (Md×PV)}:zfk pf n ((.sh,x)::l)=.junk::zfk pf (n+1) l:=(rfl)
@[go_sem] theorem zIG {n:Nat}{x:PV}{l:List (Md×PV)}:zfk pf n ((.mv,x)::l)=.junk::zfk pf (n+1) l:=(rfl)
@[go_sem] theorem zNl {x:PV}:zsQ (.v x)=x:=(rfl)
@[go_sem] theorem zLT {n:Nat}:ioL n []=[]:=(rfl)
@[go_sem] theorem zNT {n:Nat}{x:PV}{l:List (Md×PV)}:ioL n ((.io,x)::l)=n::ioL (n+1) l:=(rfl)
@[go_sem] theorem zNw {n:Nat}{x:PV}{l:List (Md×PV)}:ioL n ((.sh,x)::l)=ioL (n+1) l:=(rfl)
@[go_sem] theorem zME {n:Nat}{x:PV}{l:List (Md×PV)}:ioL n ((.mv,x)::l)=ioL (n+1) l:=(rfl)
end
end Go.Pm
