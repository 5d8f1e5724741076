import Derived.Test.YtnbbkiilkaebaaaGreatDoorPmT
namespace Go.Pm
open Go.Am
section
variable {P:Program}{c co:Cfg}{k:List PIt}{Q:Exit→PFr→Prop}{pf:PFr}
attribute [go_sem] Option.bind_some Option.bind_none Option.map_some Option.map_none Option.getD_some Option.getD_none
def orE:Option (PF×PFr)→Option (PF×PFr)→Option (PF×PFr)
 |some a,_=>some a
 |none,y=>y
theorem zuO {a b c:Option (PF×PFr)}(h:a=b):orE a c=orE b c:=by rw[h]
@[go_sem ↓] theorem zIi {a:PF×PFr}{y:Option (PF×PFr)}:orE (some a) y=some a:=rfl
@[go_sem ↓] theorem zIU {y:Option (PF×PFr)}:orE none y=y:=rfl
def tkA:Option PF→PFr→Option (PF×PFr)→Option (PF×PFr)
 |some y,pf,_=>some (y,pf)
 |none,_,x=>x
theorem zuA {a b:Option PF}{pf:PFr}{x:Option (PF×PFr)}(h:a=b):tkA a pf x=tkA b pf x:=by rw[h]
@[go_sem ↓] theorem zGJ {y:PF}{x:Option (PF×PFr)}:tkA (some y) pf x=some (y,pf):=rfl
@[go_sem ↓] theorem zH8 {x:Option (PF×PFr)}:tkA none pf x=x:=rfl
attribute [congr] zuO zuA
def ltO (x:Option PF) (f:PF→Option (PF×PFr)) (z:Option (PF×PFr)):Option (PF×PFr):=
 match x with
 |some y=>f y
 |none=>z
@[go_sem] theorem zHo {y:PF}{f:PF→Option (PF×PFr)}{z:Option (PF×PFr)}:ltO (some y) f z=f y:=(rfl)
@[go_sem] theorem zI6 {f:PF→Option (PF×PFr)}{z:Option (PF×PFr)}:ltO none f z=z:=(rfl)
@[go_sem] theorem zQN {d:Option Tmp}{x:PV}:tkE co d pf (.v x)=some (.v x,pf):=(rfl)
@[go_sem] theorem zOS {d:Option Tmp}{s i j n:Nat}{p:zab}:tkE co d pf (.ra s p i j n)=some (.ra s p i j n,pf):=(rfl)
@[go_sem] theorem zO6 {d:Option Tmp}{s:Nat}{p:zab}:tkE co d pf (.rf s p)=if ltB co d=true then(zau pf s p).bind fun x=>if isJ x=true then none else(zbX pf s p .junk).map fun pf'=>(.v x,pf')else some (.rf s p,pf):=(rfl)
@[go_sem] theorem zQE {d:Nat}:ltB co (some d)=co.fz.contains (d+6*co.nt):=(rfl)
@[go_sem ↓] theorem zFP {ty t:TypeId}{a:Operand}{d:Option Tmp}:pw1 P c co ty (.load t a) d k Q pf=qv P c co (ltO ((tk P t).bind fun tz=>(adr pf a).bind (ldA tz pf)) (tkE co d pf) ((zqs P t pf a).map fun y=>(y,pf))) d k Q:=by
 show zl0 P co t a d (pw P c k Q) pf=_
 unfold zl0
 cases (tk P t).bind fun tz=>(adr pf a).bind (ldA tz pf)with
 |some y=>
  show zlY co (pw P c k Q) d y pf=qv P c co (tkE co d pf y) d k Q
  unfold zlY
  cases tkE co d pf y<;>rfl
 |none=>cases zqs P t pf a<;>rfl
theorem zuz {d:Option Tmp}{x:Option AD}:pad co (pw P c k Q) d pf x=qv P c co (x.map fun ad=>(zjv ad,pf)) d k Q:=by cases x<;>rfl
@[go_sem ↓] theorem zEi {ty s:TypeId}{x:Operand}{f:Nat}{d:Option Tmp}:pw1 P c co ty (.fieldAddr s x f) d k Q pf=qv P c co (((zao P s f).bind fun o=>(adr pf x).bind (zio o.1)).map fun ad=>(zjv ad,pf)) d k Q:=zuz
@[go_sem ↓] theorem zz4 {ty:TypeId}{x:Operand}{d:Option Tmp}:pw1 P c co ty (.nilCheck x) d k Q pf=qv P c co ((adr pf x).map fun ad=>(zjv ad,pf)) d k Q:=zuz
@[go_sem] theorem zQq {t:TypeId}{x i:Operand}{es:Nat}(h:esz P t=some es):ixE P t x i pf=(sbO pf x).bind (ixS es (rdS pf i)):=by simp[ixE,h]
@[go_sem] theorem zQ6 {t:TypeId}{x i:Operand}{z:Nat×Nat}(h:asz P t=some z) (h0:esz P t=none):ixE P t x i pf=(adr pf x).bind (ixA z.1 z.2 (rdS pf i)):=by simp[ixE,h,h0]
@[go_sem ↓] theorem zyG {ty t:TypeId}{x i:Operand}{d:Option Tmp}:pw1 P c co ty (.indexAddr t x i) d k Q pf=qv P c co (orE ((ixE P t x i pf).map fun ad=>(zjv ad,pf)) (zoj P t x i pf)) d k Q:=by
 show zjI P co t x i d (pw P c k Q) pf=_
 unfold zjI
 cases ixE P t x i pf with
 |some ad=>rfl
 |none=>cases zoj P t x i pf<;>rfl
@[go_sem] theorem zNp {t:TypeId}{u:Nat}{i:Operand}:zoj P t (.tmp u) i pf=zpA P t u pf (pf u) (rdS pf i):=(rfl)
@[go_sem] theorem zGx {t:TypeId}{u s i j n:Nat}{p:zab}{kk:IntKind}{q:Int}:zpA P t u pf (.as false s p i j n) (some (.int kk q))=if esz P t=some 1∧0≤q∧q<n then some (.as true s p i (j+q.toNat) 1,pf.put u jP)else none:=(rfl)
@[go_sem] theorem zM5 {t:TypeId}{u:Nat}:zqs P t pf (.tmp u)=(tk P t).bind fun tz=>if tz.1=false then zpt (pf u)else none:=(rfl)
@[go_sem] theorem zIT {s i j n:Nat}{p:zab}:zpt (.as true s p i j n)=some (.rf s (p++[(i,j)])):=(rfl)
@[go_sem] theorem zM4 {t:Nat}{b:Bool}{s i j n:Nat}{p:zab}:adF pf t (.as b s p i j n)=none:=(rfl)
@[go_sem] theorem zNz {t:Nat}{b:Bool}{s i j n:Nat}{p:zab}:sbF pf t (.as b s p i j n)=none:=(rfl)
@[go_sem] theorem zJJ {c:Cfg}{d:Nat}(h:c.fz=[]):mkd c d=false:=by simp[mkd,h]
@[go_sem] theorem zPU {c:Cfg}{d:Nat}:mkd c d=c.fz.contains (d+2*c.nt):=(rfl)
@[go_sem] theorem zJM {s:Nat}{p:zab}:zmW (.rf s p)=some (s,p):=(rfl)
@[go_sem] theorem zHX {o:Bool}{es:Nat}{rows:List (List PV)}:zpC (some (.sl o es rows))=true:=(rfl)
@[go_sem] theorem zFt {s i j q:Nat}{p:zab}:zkk pf s p i j q []=true:=(rfl)
@[go_sem] theorem zD1 {s i j q q':Nat}{t:Tmp}{p:zab}{r:List (Nat×Operand)}:zkk pf s p i j q ((q',.tmp t)::r)=if q'=q∧zmW (pf t)=some (s,p++[(i,j+q)])∧zpC (zau pf s (p++[(i,j+q)]))=true then zkk pf s p i j (q+1) r else false:=(rfl)
@[go_sem] theorem zCs {a:Nat×Nat}:zeV [a]=some ([],a.1,a.2):=(rfl)
@[go_sem] theorem zB4 {a b:Nat×Nat}{r:zab}:zeV (a::b::r)=(zeV (b::r)).map fun x=>(a::x.1,x.2):=(rfl)
@[go_sem] theorem zOh {q:Nat}{t:Tmp}{r:List (Nat×Operand)}:zov pf ((q,.tmp t)::r)=(zmW (pf t)).bind fun x=>(zeV x.2).map fun y=>(x.1,y):=(rfl)
@[go_sem] theorem zKL {t:TypeId}{len:Nat}{ps:List (Nat×Operand)}:zpU P t len ps pf=(ez P t).bind fun z=>(zov pf ps).bind fun a=>if z.1=1∧len≤2^24∧ps.length=len∧zkk pf a.1 a.2.1 a.2.2.1 a.2.2.2 0 ps=true then some (.as false a.1 a.2.1 a.2.2.1 a.2.2.2 len)else none:=(rfl)
def stA (pf:PFr) (cells:List PV):AD→Option PFr
 | .pl s p i j=>zdP pf s p i j cells
 |_=>none
def stE (P:Program) (t:TypeId) (a x:Operand) (pf:PFr):Option PFr:=
 (tk P t).bind fun tz=>(zbi (ezT P t) pf x).bind fun y=>if zob tz.2 y.1=true then(adr y.2 a).bind (stA y.2 (zas y.1))else none
@[go_sem] theorem zOR {t:TypeId}{a x:Operand}:stE P t a x pf=(tk P t).bind fun tz=>(zbi (ezT P t) pf x).bind fun y=>if zob tz.2 y.1=true then(adr y.2 a).bind (stA y.2 (zas y.1))else none:=(rfl)
@[go_sem ↓] theorem zEd {ty t:TypeId}{a x:Operand}:pw1 P c co ty (.store t a x) none k Q pf=qf P c (stE P t a x pf) k Q:=by
 show zjK P co t a x none (pw P c k Q) pf=_
 unfold zjK stE
 cases tk P t with
 |none=>rfl
 |some tz=>
  cases zbi (ezT P t) pf x with
  |none=>rfl
  |some y=>
   obtain⟨y,pf1⟩:=y
   obtain⟨b,sz⟩:=tz
   simp only[Option.bind_some]
   by_cases h:zob sz y=true
   ·rw[if_pos h]
    cases ha:adr pf1 a with
    |none=>simp[ziE,qf]
    |some ad=>cases ad with
     |pl s p i j=>cases hp:zdP pf1 s p i j (zas y)<;>simp[ziE,qf,h,stA,hp]
     |fz row=>simp[ziE,qf,stA]
   ·rw[if_neg h];simp[qf,h]
def alE (P:Program) (co:Cfg) (e:TypeId) (d:Nat) (pf:PFr):Option PFr:=
 (zr P e).bind fun z=>if ckd co d .skip=true then some (if co.hp.contains d=true then pf.put d (.v (.bx z))else pf.put d (.bl z))else none
@[go_sem] theorem zPq {e:TypeId}{d:Nat}{z:List PV}(h:zr P e=some z) (h1:ckd co d .skip=true) (h2:co.hp.contains d=true):alE P co e d pf=some (pf.put d (.v (.bx z))):=by unfold alE;rw[h,Option.bind_some,if_pos h1,if_pos h2]
@[go_sem] theorem zP2 {e:TypeId}{d:Nat}{z:List PV}(h:zr P e=some z) (h1:ckd co d .skip=true) (h2:co.hp.contains d=false):alE P co e d pf=some (pf.put d (.bl z)):=by unfold alE;rw[h,Option.bind_some,if_pos h1,if_neg (by rw[h2];simp)]
@[go_sem ↓] theorem zD5 {ty e:TypeId}{d:Tmp}:pw1 P c co ty (.alloc e) (some d) k Q pf=qf P c (alE P co e d pf) k Q:=by
 show zj0 P co e (some d) (pw P c k Q) pf=_
 unfold zj0 alE
 cases zr P e with
 |none=>rfl
 |some z=>
  simp only[Option.bind_some]
  by_cases h:ckd co d .skip=true
  ·rw[if_pos h]
   by_cases h2:co.hp.contains d=true
   ·simp only[h,h2,qf,if_true,true_and]
   ·simp only[h,h2,qf,true_and];simp
  ·rw[if_neg h];simp[qf,h]
def bxE (P:Program) (co:Cfg) (e:TypeId) (x:Operand) (d:Nat) (pf:PFr):Option PFr:=
 (tk P e).bind fun _=>(zbi (ezT P e) pf x).bind fun y=>if(!lsO pf x&&zbT y.1&&ckd co d .skip)=true then some (if co.hp.contains d=true then(if co.fz.contains d=true then(y.2.put d (.v (.bx (zas y.1)))).put d (.v (drop (.bx (zas y.1))))else y.2.put d (.v (.bx (zas y.1))))else y.2.put d (.bl (zas y.1)))else none
@[go_sem] theorem zPa {e:TypeId}{x:Operand}{d:Nat}:bxE P co e x d pf=(tk P e).bind fun _=>(zbi (ezT P e) pf x).bind fun y=>if(!lsO pf x&&zbT y.1&&ckd co d .skip)=true then some (if co.hp.contains d=true then(if co.fz.contains d=true then(y.2.put d (.v (.bx (zas y.1)))).put d (.v (drop (.bx (zas y.1))))else y.2.put d (.v (.bx (zas y.1))))else y.2.put d (.bl (zas y.1)))else none:=(rfl)
@[go_sem ↓] theorem zLT {ty e:TypeId}{x:Operand}{d:Tmp}:pw1 P c co ty (.box e x) (some d) k Q pf=qf P c (bxE P co e x d pf) k Q:=by
 show zot P co e x (some d) (pw P c k Q) pf=_
 unfold zot bxE
 cases tk P e with
 |none=>rfl
 |some z=>
  cases zbi (ezT P e) pf x with
  |none=>rfl
  |some y=>
   obtain⟨y,pf1⟩:=y
   simp only[Option.bind_some]
   by_cases h:(!lsO pf x&&zbT y&&ckd co d .skip)=true
   ·rw[if_pos h]
    simp only[Bool.and_eq_true,Bool.not_eq_true']at h
    by_cases h2:co.hp.contains d=true
    ·by_cases h4:co.fz.contains d=true
     ·simp only[h.1.1,h.1.2,h.2,h2,h4,qf,if_true,true_and]
     ·simp only[h.1.1,h.1.2,h.2,h2,h4,qf,if_true,true_and];simp
    ·simp only[h.1.1,h.1.2,h.2,h2,qf,true_and];simp
   ·rw[if_neg h]
    simp only[qf,eq_iff_iff,iff_false]
    rintro⟨h1,h2,h3,_⟩
    exact h (by rw[h1,h2,h3];rfl)
def zv1 (P:Program) (co:Cfg) (t:TypeId) (len:Nat) (ps:List (Nat×Operand)) (d:Nat) (pf:PFr):Option PFr:=
 (ez P t).bind fun z=>(zf6 pf (ps.map fun p=>(zaA P t p.1,p.2))).bind fun y=>if len*z.1≤2^24∧ckd co d .skip=true then(zgH z.1 ((ps.map (·.1)).zip (drx co d y.1)) (List.replicate len z.2.2)).map fun rows=>y.2.put d (.ls z.1 rows)else none
@[go_sem] theorem zMk {d:Nat}{xs:List PV}(h:co.fz=[]):drx co d xs=xs:=by simp[drx,h]
@[go_sem] theorem zRP {d:Nat}{xs:List PV}:drx co d xs=if co.fz.contains (d+3*co.nt)=true then xs.map drop else xs:=(rfl)
@[go_sem] theorem zLM {t:TypeId}{len:Nat}{ps:List (Nat×Operand)}{d:Nat}:zv1 P co t len ps d pf=(ez P t).bind fun z=>(zf6 pf (ps.map fun p=>(zaA P t p.1,p.2))).bind fun y=>if len*z.1≤2^24∧ckd co d .skip=true then(zgH z.1 ((ps.map (·.1)).zip (drx co d y.1)) (List.replicate len z.2.2)).map fun rows=>y.2.put d (.ls z.1 rows)else none:=(rfl)
@[go_sem ↓] theorem zxI {ty t:TypeId}{len:Nat}{ps:Array (Nat×Operand)}{d:Tmp}:pw1 P c co ty (.buildSlice t len ps) (some d) k Q pf=if mkd co d=true then qv P c co ((zpU P t len ps.toList pf).map fun y=>(y,pf)) (some d) k Q else qf P c (zv1 P co t len ps.toList d pf) k Q:=by
 show zoA P co t len ps.toList (some d) (pw P c k Q) pf=_
 unfold zoA zv1
 by_cases hm:mkd co d=true
 ·rw[if_pos hm,if_pos (show zwV co (some d)=true from hm)]
  unfold znF
  cases zpU P t len ps.toList pf<;>rfl
 rw[if_neg hm,if_neg (show¬zwV co (some d)=true from hm)]
 cases ez P t with
 |none=>rfl
 |some z=>
  cases zf6 pf (ps.toList.map fun p=>(zaA P t p.1,p.2))with
  |none=>rfl
  |some y=>
   obtain⟨xs,pf1⟩:=y
   simp only[Option.bind_some]
   by_cases h:len*z.1≤2^24∧ckd co d .skip=true
   ·rw[if_pos h]
    cases zgH z.1 ((ps.toList.map (·.1)).zip (drx co d xs)) (List.replicate len z.2.2)<;>simp only[zpE,qf,h.1,h.2,true_and,and_false,Option.map_none,Option.map_some]
   ·rw[if_neg h]
    simp only[qf,eq_iff_iff,iff_false]
    rintro⟨h1,h2⟩
    cases hf:zgH z.1 ((ps.toList.map (·.1)).zip (drx co d xs)) (List.replicate len z.2.2)with
    |none=>rw[hf]at h2;exact h2
    |some r=>rw[hf]at h2;exact h ⟨h1,h2.1⟩
@[go_sem ↓] theorem zEj {ty t:TypeId}{ps:Array (Nat×Operand)}{d:Option Tmp}:pw1 P c co ty (.build t ps) d k Q pf=
 qv P c co ((zfa P t).bind fun b=>(zf6 pf (ps.toList.map fun p=>(zaA P t p.1,p.2))).bind fun y=>(zhU b.1 ((ps.toList.map (·.1)).zip y.1) b.2).map fun row=>(.v (.agg row),y.2)) d k Q:=by
 show zj3 P co t ps.toList d (pw P c k Q) pf=_
 unfold zj3
 cases zfa P t with
 |none=>rfl
 |some b=>
  cases zf6 pf (ps.toList.map fun p=>(zaA P t p.1,p.2))with
  |none=>rfl
  |some y=>
   simp only[Option.bind_some]
   cases zhU b.1 ((ps.toList.map (·.1)).zip y.1) b.2<;>rfl
def pkV (b x y:Option Value):Option PV:=
 match b with
 |some (.bool true)=>x.bind zeh
 |some (.bool false)=>y.bind zeh
 |_=>none
@[go_sem ↓] theorem zH1 {ty:TypeId}{b x y:Operand}{d:Option Tmp}:pw1 P c co ty (.pick b x y) d k Q pf=qv P c co ((pkV (rdS pf b) (rdS pf x) (rdS pf y)).map fun z=>(.v z,pf)) d k Q:=by
 show zlP co b x y d (pw P c k Q) pf=_
 unfold zlP zsV pkV
 cases rdS pf b with
 |none=>rfl
 |some v=>
  cases v with
  |bool b=>
   cases b
   ·simp only[]
    cases (rdS pf y).bind zeh<;>rfl
   ·simp only[]
    cases (rdS pf x).bind zeh<;>rfl
  |_=>rfl
@[go_sem] theorem zQc {x y:Option Value}:pkV (some (.bool true)) x y=x.bind zeh:=(rfl)
@[go_sem] theorem zPr {x y:Option Value}:pkV (some (.bool false)) x y=y.bind zeh:=(rfl)
@[go_sem] theorem zMA {b:Bool}{j:IntKind}{m n:Int}:pkV (some (.bool b)) (some (.int j m)) (some (.int j n))=some (.int j (if b=true then m else n)):=by cases b<;>rfl
@[go_sem] theorem zFY {b m n:Bool}:pkV (some (.bool b)) (some (.bool m)) (some (.bool n))=some (.bool (if b=true then m else n)):=by cases b<;>rfl
@[go_sem] theorem zLi {b:Bool}{m n:ByteArray}:pkV (some (.bool b)) (some (.string m)) (some (.string n))=some (.str (if b=true then m else n)):=by cases b<;>rfl
def mkV (b:Bool) (z:Nat×Nat×List PV) (pf:PFr):Option Value→Option Value→Option (PF×PFr)
 |some (.int .i64 n),some (.int .i64 m)=>if 0≤n∧n≤m∧z.2.1*m≤140737488355328∧m≤4611686018427387904 then some (.v (.sl true z.1 (List.replicate n.toNat (uz b z.2.2))),pf)else none
 |_,_=>none
@[go_sem] theorem zMH {b:Bool}{z:Nat×Nat×List PV}{n m:Int}:mkV b z pf (some (.int .i64 n)) (some (.int .i64 m))=if 0≤n∧n≤m∧z.2.1*m≤140737488355328∧m≤4611686018427387904 then some (.v (.sl true z.1 (List.replicate n.toNat (uz b z.2.2))),pf)else none:=(rfl)
@[go_sem] theorem zJa {d:Nat}:nzB co (some d)=co.fz.contains (d+co.nt):=(rfl)
@[go_sem] theorem zIs:nzB co none=false:=(rfl)
@[go_sem] theorem zGt {z:List PV}:uz false z=z:=(rfl)
@[go_sem] theorem zKH {z:List PV}:uz true z=z.map ud:=(rfl)
@[go_sem] theorem zQp {o:Bool}{e:Nat}:ud (.sl o e [])=.sl true e []:=(rfl)
@[go_sem] theorem zOD {j:IntKind}{n:Int}:ud (.int j n)=.int j n:=(rfl)
@[go_sem] theorem zKr {b:Bool}:ud (.bool b)=.bool b:=(rfl)
@[go_sem] theorem zOW {b:ByteArray}:ud (.str b)=.str b:=(rfl)
@[go_sem ↓] theorem zyH {ty t:TypeId}{l cc:Operand}{d:Option Tmp}:pw1 P c co ty (.makeSlice t l cc) d k Q pf=qv P c co ((ez P t).bind fun z=>mkV (nzB co d) z pf (rdS pf l) (rdS pf cc)) d k Q:=by
 show zl6 P co t l cc d (pw P c k Q) pf=_
 unfold zl6
 cases ez P t with
 |none=>rfl
 |some z=>
  simp only[Option.bind_some]
  generalize rdS pf l=x1
  generalize rdS pf cc=x2
  unfold zt1 mkV
  split
  ·rename_i n m
   simp only[]
   by_cases h:0≤n∧n≤m∧z.2.1*m≤140737488355328∧m≤4611686018427387904
   ·rw[if_pos h]
    simp only[h,true_and]
    rfl
   ·rw[if_neg h]
    simp only[qv,eq_iff_iff,iff_false]
    rintro⟨a1,_⟩
    exact h a1
  ·rename_i h1
   split
   ·rename_i e1;exact absurd rfl (h1 _ _ rfl)
   ·rfl
theorem zsq {ty t u:TypeId}{op:BinOp}{x y:Operand}{d:Tmp}{q:Bool}{rows:List (List PV)}(hy:zgB y=true) (hp:co.hp.isEmpty=false) (he:(zat P t).isSome=true) (hq:zqE op=some q) (hx:zwg pf x=some rows)
 (hk:∀b,(rows≠[]→b= !q)→qv P c co (some (.v (.bool b),pf)) (some d) k Q):pw1 P c co ty (.binOp op t x y u) (some d) k Q pf:=by
 show pop P co ⟨some d,.binOp op t x y u,ty, "",#[],none⟩ (pw P c k Q) pf
 simp only[pop,hy,if_true]
 refine⟨(by intro e;rw[e]at hp;cases hp),?_⟩
 cases x with
 |tmp s=>
  unfold zkF
  simp only[hq,hx]
  exact⟨he,fun b hb=>hk b hb⟩
 |_=>simp[zwg]at hx
@[go_sem ↓] theorem zzC {ty:TypeId}{fn:Fn}{xs ys:Array Operand}{d:Option Tmp}:pw1 P c co ty (.makeFunc fn xs ys) d k Q pf=
 qv P c co (if clB co d=true then(clS pf fn xs.toList ys.toList).bind (clM co pf)else(zid (!co.hp.isEmpty) pf (xs.toList++ys.toList)).map fun vs=>(.v (.func fn (vs.1.take xs.toList.length) (vs.1.drop xs.toList.length)),vs.2)) d k Q:=by
 show zl4 co fn xs.toList ys.toList d (pw P c k Q) pf=_
 unfold zl4
 split
 ·cases (clS pf fn xs.toList ys.toList).bind (clM co pf)<;>rfl
 cases zid (!co.hp.isEmpty) pf (xs.toList++ys.toList)<;>rfl
def mvF (co:Cfg) (d:Option Tmp) (t:Nat) (pf:PFr):PF→Option (PF×PFr)
 | .v x=>if isJ x=true then none else some (if zaw x=true then .rf t []else .v x,pf)
 | .ls es rows=>if t<co.nt then some (.rf t [],(pf.upd t (.v (.sl true es rows))).kill t 0)else none
 | .bl _=>some (.pt t [] 0 0,pf)
 | .skip=>none
 | .as .. =>none
 | .pt s p i j=>if lyB co d=true then lyR pf t s p i j (pf s)else some (.pt s p i j,pf)
 |y=>some (y,pf)
@[go_sem] theorem zQK {co:Cfg}{d:Option Tmp}{t:Nat}{x:PV}(h:isJ x=false):mvF co d t pf (.v x)=some (if zaw x=true then .rf t []else .v x,pf):=by simp[mvF,h]
@[go_sem] theorem zO9 {co:Cfg}{d:Option Tmp}{t es:Nat}{rows:List (List PV)}(h:t<co.nt):mvF co d t pf (.ls es rows)=some (.rf t [],(pf.upd t (.v (.sl true es rows))).kill t 0):=by simp[mvF,h]
@[go_sem] theorem zNw {co:Cfg}{d:Option Tmp}{t:Nat}{row:List PV}:mvF co d t pf (.bl row)=some (.pt t [] 0 0,pf):=(rfl)
@[go_sem] theorem zNc {co:Cfg}{d:Option Tmp}{t s i j:Nat}{p:zab}:mvF co d t pf (.pt s p i j)=if lyB co d=true then lyR pf t s p i j (pf s)else some (.pt s p i j,pf):=(rfl)
@[go_sem] theorem zPn {co:Cfg}{d:Nat}:lyB co (some d)=(!co.hp.isEmpty&&co.fz.contains (d+5*co.nt)):=(rfl)
@[go_sem] theorem zOa {t s:Nat}{row:List PV}:lyR pf t s [] 0 0 (.bl row)=some (.rf s [],((pf.upd s (.v (.bx row))).kill s 0).put t (.rf s [])):=(rfl)
@[go_sem] theorem zOA {co:Cfg}{d:Option Tmp}{t s:Nat}{p:zab}:mvF co d t pf (.rf s p)=some (.rf s p,pf):=(rfl)
@[go_sem] theorem zOJ {co:Cfg}{d:Option Tmp}{t s lo hi:Nat}{p:zab}:mvF co d t pf (.rv s p lo hi)=some (.rv s p lo hi,pf):=(rfl)
@[go_sem] theorem zN9 {co:Cfg}{d:Option Tmp}{t s i j n:Nat}{p:zab}:mvF co d t pf (.ra s p i j n)=some (.ra s p i j n,pf):=(rfl)
@[go_sem] theorem zNb {co:Cfg}{d:Option Tmp}{t s:Nat}{g:FuncId}{us:List PV}:mvF co d t pf (.cl s g us)=some (.cl s g us,pf):=(rfl)
@[go_sem] theorem zPo {co:Cfg}{d:Nat}:clB co (some d)=co.fz.contains (d+4*co.nt):=(rfl)
@[go_sem] theorem zPK {g:FuncId}{s:Nat}{ys:List Operand}:clS pf (.func g) [] (.tmp s::ys)=match pf s with| .v (.bx _)=>some (g,s,ys)|_=>none:=(rfl)
@[go_sem] theorem zRz {g:FuncId}{s:Nat}{ys:List Operand}{co:Cfg}:clM co pf (g,s,ys)=(zid (!co.hp.isEmpty) pf ys).map fun y=>(.cl s g y.1,y.2):=(rfl)
@[go_sem] theorem zQQ {t:Tmp}:clO pf (.tmp t)=clF (pf t):=(rfl)
@[go_sem] theorem zNE {s:Nat}{g:FuncId}{us:List PV}:clF (.cl s g us)=some (s,g,us):=(rfl)
@[go_sem ↓] theorem zBJ {ty:TypeId}{t:Tmp}{d:Option Tmp}:pw1 P c co ty (.move (.tmp t)) d k Q pf=qv P c co (mvF co d t pf (pf t)) d k Q:=by
 show zgg co t d (pw P c k Q) pf (pf t)=_
 unfold zgg mvF
 cases pf t with
 |v x=>
  cases hj:isJ x
  ·cases ho:zaw x<;>simp[hj,ho,qv]
  ·simp[hj,qv]
 |ls es rows=>
  by_cases h:t<co.nt
  ·simp[h,qv]
  ·simp[h,qv]
 |pt s p i j=>
  cases hl:lyB co d
  ·simp[qv]
  ·simp only[if_true]
   cases lyR pf t s p i j (pf s)<;>rfl
 |_=>rfl
def tkV (x:Option (PV×PFr)):Option (PF×PFr):=x.map fun y=>(.v y.1,y.2)
@[go_sem] theorem zIm {y:PV}:tkV (some (y,pf))=some (.v y,pf):=(rfl)
@[go_sem ↓] theorem zDn {ty:TypeId}{k0:Value}{d:Option Tmp}:pw1 P c co ty (.move (.const k0)) d k Q pf=qv P c co (tkV (zbi (ezT P ty) pf (.const k0))) d k Q:=by
 show zhc (ezT P ty) co (.const k0) d (pw P c k Q) pf=_
 unfold zhc
 simp only[]
 cases zbi (ezT P ty) pf (.const k0)<;>rfl
@[go_sem ↓] theorem zCu {ty:TypeId}{d:Option Tmp}{g:FuncId}:pw1 P c co ty (.move (.func g)) d k Q pf=qv P c co (tkV (zbi (ezT P ty) pf (.func g))) d k Q:=by
 show zhc (ezT P ty) co (.func g) d (pw P c k Q) pf=_
 unfold zhc
 simp only[]
 cases zbi (ezT P ty) pf (.func g)<;>rfl
@[go_sem ↓] theorem zBz {ty:TypeId}{x:Operand}{d:Option Tmp}:pw1 P c co ty (.assign x) d k Q pf=qv P c co (tkA (zm6 co pf d x) pf (tkV (zbi (ezT P ty) pf x))) d k Q:=by
 show ziD (ezT P ty) co x d (pw P c k Q) pf=_
 unfold ziD
 cases zm6 co pf d x with
 |some y=>rfl
 |none=>cases zbi (ezT P ty) pf x<;>rfl
@[go_sem] theorem zNn {d:Nat}{t:Tmp}:zm6 co pf (some d) (.tmp t)=if mkd co d=true then zn9 t (pf t)else none:=(rfl)
@[go_sem] theorem zLC {t s:Nat}{p:zab}:zn9 t (.rf s p)=some (.rf s p):=(rfl)
@[go_sem] theorem zKF {t:Nat}{row:List PV}:zn9 t (.bl row)=some (.pt t [] 0 0):=(rfl)
@[go_sem] theorem zMt {t s:Nat}{g:FuncId}{us:List PV}:zn9 t (.cl s g us)=some (.cl s g us):=(rfl)
@[go_sem] theorem zPb {d:Option Tmp}{x:Value}:zm6 co pf d (.const x)=none:=by cases d<;>rfl
@[go_sem] theorem zOp {d:Option Tmp}{x:FuncId}:zm6 co pf d (.func x)=none:=by cases d<;>rfl
def exV (pf:PFr) (s:Nat) (xs:List PV) (i:Nat):Option PV→Option (PF×PFr)
 |some y=>if isJ y=true then none else some (.v y,if zaw y=true then(pf.upd s (.v (.tup (xs.set i .junk)))).kill s 1 else pf)
 |none=>none
@[go_sem] theorem zJh {s i:Nat}{xs:List PV}{y:PV}(h:isJ y=false):exV pf s xs i (some y)=some (.v y,if zaw y=true then(pf.upd s (.v (.tup (xs.set i .junk)))).kill s 1 else pf):=by simp[exV,h]
@[go_sem] theorem zKq {t:Tmp}:exO pf (.tmp t)=match pf t with
 | .rf s []=>exR s (pf s)
 |y=>exR t y:=rfl
@[go_sem] theorem zQu {s:Nat}{xs:List PV}:exR s (.v (.tup xs))=some (s,xs):=(rfl)
@[go_sem ↓] theorem zAN {ty:TypeId}{x:Operand}{i:Nat}{d:Option Tmp}:pw1 P c co ty (.extract x i) d k Q pf=qv P c co ((exO pf x).bind fun a=>if a.1<co.nt then exV pf a.1 a.2 i a.2[i]? else none) d k Q:=by
 show zhC co x i d (pw P c k Q) pf=_
 unfold zhC
 cases exO pf x with
 |none=>rfl
 |some a=>
  obtain⟨s,xs⟩:=a
  simp only[Option.bind_some]
  by_cases h:s<co.nt
  ·rw[if_pos h]
   simp only[h,true_and]
   cases xs[i]? with
   |none=>rfl
   |some y=>
    cases hj:isJ y
    ·cases ho:zaw y<;>simp[pex,exV,hj,ho,qv]
    ·simp[pex,exV,hj,qv]
  ·rw[if_neg h];simp[h,qv]
def slE (es t:Nat) (pf:PFr) (l h m:Option (Option Nat)):Option (PF×PFr):=
 match l,h,m with
 |some l,some h,some none=>(slF es (l.getD 0) h pf t (pf t)).map fun y=>(y,pf)
 |some l,some (some h),some (some m)=>((za5 pf (pf t)).bind lenV).bind fun rows=>(slF es (l.getD 0) (some h) pf t (pf t)).bind fun _=>if l.getD 0=h∧h=m∧m≤rows.length then some (.v (.sl true es []),pf)else none
 |_,_,_=>none
@[go_sem] theorem zCf {es t:Nat}{l h:Option Nat}:slE es t pf (some l) (some h) (some none)=(slF es (l.getD 0) h pf t (pf t)).map fun y=>(y,pf):=by cases h<;>rfl
@[go_sem] theorem zB2 {es t:Nat}{l:Option Nat}{h m:Nat}:slE es t pf (some l) (some (some h)) (some (some m))=((za5 pf (pf t)).bind lenV).bind fun rows=>(slF es (l.getD 0) (some h) pf t (pf t)).bind fun _=>if l.getD 0=h∧h=m∧m≤rows.length then some (.v (.sl true es []),pf)else none:=(rfl)
theorem zyz {es t:Nat}{d:Option Tmp}{l h m:Option (Option Nat)}:zoz co es t d (pw P c k Q) pf l h m=qv P c co (slE es t pf l h m) d k Q:=by
 cases l with
 |none=>rfl
 |some l=>
  cases h with
  |none=>rfl
  |some h=>
   cases m with
   |none=>rfl
   |some m=>
    cases m with
    |none=>
     rw[zCf]
     cases h<;>simp only[zoz]<;>cases slF es (l.getD 0) _ pf t (pf t)<;>rfl
    |some m=>
     cases h with
     |none=>rfl
     |some h=>
      rw[zB2]
      simp only[zoz]
      cases (za5 pf (pf t)).bind lenV with
      |none=>rfl
      |some rows=>
       simp only[Option.bind_some]
       cases slF es (l.getD 0) (some h) pf t (pf t)with
       |none=>simp[qv]
       |some y=>
        by_cases hh:l.getD 0=h∧h=m∧m≤rows.length
        ·simp[hh,qv]
        ·simp[hh,qv]
@[go_sem ↓] theorem zEk {ty t:TypeId}{x:Tmp}{l h m:Option Operand}{d:Option Tmp}(hs:zay P t=false):pw1 P c co ty (.slice t (.tmp x) l h m) d k Q pf=qv P c co ((esz P t).bind fun es=>slE es x pf (rdB pf l) (rdB pf h) (rdB pf m)) d k Q:=by
 show(if zay P t=true then zei P co ⟨d,.slice t (.tmp x) l h m,ty, "",#[],none⟩ (pw P c k Q) pf else zjY P co t (.tmp x) l h m d (pw P c k Q) pf)=_
 rw[if_neg (by simp[hs])]
 unfold zjY
 cases esz P t with
 |none=>rfl
 |some es=>exact zyz
def qln (P:Program) (c co:Cfg) (x:Option (List (List PV))) (d:Option Tmp) (k:List PIt) (Q:Exit→PFr→Prop) (pf:PFr):Prop:=
 match x with
 |some rows=>rows.length≤zcw→qv P c co (some (.v (.int .i64 rows.length),pf)) d k Q
 |none=>False
theorem zvl {x x':Option (List (List PV))}{d:Option Tmp}(h:x=x'):qln P c co x d k Q pf=qln P c co x' d k Q pf:=by rw[h]
attribute [congr] zvl
def qlm (P:Program) (c co:Cfg) (t:TypeId) (d:Option Tmp) (k:List PIt) (Q:Exit→PFr→Prop) (pf:PFr) (x:Nat):PF→Prop
 | .ls es rows=>qln P c co ((zat P t).bind fun _=>some rows) d k Q ((pf.upd x (.v (.sl true es rows))).kill x 0)
 |y=>qln P c co ((zat P t).bind fun _=>(za5 pf y).bind lenV) d k Q pf
theorem zuZ {t:TypeId}{d:Option Tmp}{x:Nat}{y y':PF}(h:y=y'):qlm P c co t d k Q pf x y=qlm P c co t d k Q pf x y':=by rw[h]
attribute [congr] zuZ
@[go_sem ↓] theorem zNu {t:TypeId}{d:Option Tmp}{x es:Nat}{rows:List (List PV)}:qlm P c co t d k Q pf x (.ls es rows)=qln P c co ((zat P t).bind fun _=>some rows) d k Q ((pf.upd x (.v (.sl true es rows))).kill x 0):=rfl
@[go_sem ↓] theorem zRj {t:TypeId}{d:Option Tmp}{x:Nat}{y:PV}:qlm P c co t d k Q pf x (.v y)=qln P c co ((zat P t).bind fun _=>lenV y) d k Q pf:=rfl
@[go_sem ↓] theorem zNB {t:TypeId}{d:Option Tmp}{x s:Nat}{p:zab}:qlm P c co t d k Q pf x (.rf s p)=qln P c co ((zat P t).bind fun _=>(za5 pf (.rf s p)).bind lenV) d k Q pf:=rfl
@[go_sem ↓] theorem zNv {t:TypeId}{d:Option Tmp}{x s lo hi:Nat}{p:zab}:qlm P c co t d k Q pf x (.rv s p lo hi)=qln P c co ((zat P t).bind fun _=>(za5 pf (.rv s p lo hi)).bind lenV) d k Q pf:=rfl
@[go_sem ↓] theorem zKW {ty t:TypeId}{x:Tmp}{d:Option Tmp}(hs:zay P t=false):pw1 P c co ty (.call ⟨.builtin .len,#[.tmp x],#[t]⟩) d k Q pf=qlm P c co t d k Q pf x (pf x):=by
 show(if zay P t=true then zei P co ⟨d,.call ⟨.builtin .len,#[.tmp x],#[t]⟩,ty, "",#[],none⟩ (pw P c k Q) pf else zm0 P co t (.tmp x) d (pw P c k Q) pf)=_
 rw[if_neg (by simp[hs])]
 unfold zm0 qlm
 cases hpt:pf x with
 |ls es rows=>
  have:((pf.upd x (.v (.sl true es rows))).kill x 0) x=.v (.sl true es rows):=by simp[PFr.kill,PFr.upd,zaO,zai]
  simp only[lsM,hpt,this,za5,lenV,Option.bind_some,qln,qv]
  cases zat P t<;>rfl
 |_=>
  simp only[lsM,hpt,qln,qv]
  generalize (zat P t).bind (fun _=>(za5 pf _).bind lenV)=o
  cases o<;>rfl
@[go_sem] theorem zL3 {t:TypeId}{x:Operand}{s:ByteArray}(hs:zay P t=true):za7 P (.call ⟨.builtin .len,#[x],#[t]⟩) [.string s]=some (.int .i64 s.size):=by simp[za7,Am.lenV,hs]
@[go_sem ↓] theorem zFy {ty t:TypeId}{x:Operand}{d:Option Tmp}(hs:zay P t=true):pw1 P c co ty (.call ⟨.builtin .len,#[x],#[t]⟩) d k Q pf=qv P c co (ev1 (fun v=>za7 P (.call ⟨.builtin .len,#[x],#[t]⟩) [v]) (rdS pf x) pf) d k Q:=by
 show(if zay P t=true then zei P co ⟨d,.call ⟨.builtin .len,#[x],#[t]⟩,ty, "",#[],none⟩ (pw P c k Q) pf else zm0 P co t x d (pw P c k Q) pf)=_
 rw[if_pos hs]
 refine zgU (o:=⟨d,.call ⟨.builtin .len,#[x],#[t]⟩,ty, "",#[],none⟩) ?_
 simp only[zbc,zhg,Option.bind_some]
 cases rdS pf x<;>simp[ev1]
def apE (P:Program) (t:TypeId) (s x:Operand) (pf:PFr):Option (PF×PFr):=
 (ez P t).bind fun z=>(zbi z.1 pf s).bind fun b=>(bsR z.1 b.1).bind fun rows=>(srO z.1 b.2 x).bind fun r=>
   if zd8 r.1=true∧(rows.length+r.1.length)*z.2.1≤140737488355328∧rows.length+r.1.length≤4611686018427387904 then some (.v (.sl true z.1 (rows++r.1)),r.2)else none
@[go_sem] theorem zM6 {t:TypeId}{s x:Operand}:apE P t s x pf=(ez P t).bind fun z=>(zbi z.1 pf s).bind fun b=>(bsR z.1 b.1).bind fun rows=>(srO z.1 b.2 x).bind fun r=>
 if zd8 r.1=true∧(rows.length+r.1.length)*z.2.1≤140737488355328∧rows.length+r.1.length≤4611686018427387904 then some (.v (.sl true z.1 (rows++r.1)),r.2)else none:=rfl
@[go_sem ↓] theorem zBq {ty t:TypeId}{s x:Operand}{d:Option Tmp}:pw1 P c co ty (.call ⟨.builtin .append,#[s,x],#[t,t]⟩) d k Q pf=qv P c co (apE P t s x pf) d k Q:=by
 show(if t=t then zom P co t s x d (pw P c k Q) pf else znE P co t t s x d (pw P c k Q) pf)=_
 rw[if_pos rfl]
 unfold zom apE
 cases ez P t with
 |none=>rfl
 |some z=>
  simp only[Option.bind_some]
  cases zbi z.1 pf s with
  |none=>rfl
  |some b=>
   obtain⟨b,pf1⟩:=b
   simp only[Option.bind_some,zpq]
   cases bsR z.1 b with
   |none=>rfl
   |some rows=>
    simp only[Option.bind_some]
    cases srO z.1 pf1 x with
    |none=>rfl
    |some r=>
     obtain⟨rows2,pf2⟩:=r
     simp only[Option.bind_some,zpx]
     by_cases h:zd8 rows2=true∧(rows.length+rows2.length)*z.2.1≤140737488355328∧rows.length+rows2.length≤4611686018427387904
     ·rw[if_pos h]
      simp only[h.1,h.2.1,h.2.2,true_and,qv]
     ·rw[if_neg h]
      simp only[qv,eq_iff_iff,iff_false]
      rintro⟨a1,a2,_⟩
      exact h ⟨a1,a2⟩
theorem zyu {ty t:TypeId}{g:FuncId}{x:Operand}{ts:Array TypeId}{d:Option Tmp}{n:Int}{z:Nat×Nat×List PV}(h:ztd P g t) (hz:ez P t=some z) (hn:rdS pf x=some (.int .i64 n)) (hb:0≤n∧z.2.1*n≤140737488355328∧n≤4611686018427387904)
 (hk:qv P c co (some (.v (.sl true z.1 []),pf)) d k Q):pw1 P c co ty (.call ⟨.value (.func g),#[.const (.slice none 0 0),x],ts⟩) d k Q pf:=.inr (.inl ⟨g,x,t,n,z,rfl,rfl,h,hn,hz,hb,hk⟩)
theorem zxD {ty:TypeId}{f:Operand}{args:Array Operand}{ts:Array TypeId}{d:Option Tmp}(ms:List Md) {l:List (Md×Nat×Operand)}{ys:List PV}{pf1:PFr}{g:FuncId}{xs us:List PV}{as as':List (Md×PV)}
 {R:PV→List PV→Prop}(hm:ms.length=args.toList.length) (hl:ms.zip (zdi P args.toList ts.toList)=l) (ha:zhn pf l=some (ys,pf1)) (hf:fnO pf1 f=some (g,xs,us)) (hc:cargs pf1 l ys=some as)
 (has:xs.map (fun x=>(Md.sh,x))++as++us.map (fun x=>(Md.sh,x))=as') (h:PCalls P g as' R)
 (hk:∀r outs,R r outs→(l.any (zht pf1)=false∨(zaP r&&outs.all zaP)=true)∧qv P c co ((back co.nt pf1 l (outs.drop xs.length)).map fun p=>(.v r,p)) d k Q):pw1 P c co ty (.call ⟨.value f,args,ts⟩) d k Q pf:=by
 refine .inl ⟨ms,hm,?_⟩
 rw[hl,ha]
 show zh6 P co d (pw P c k Q) pf1 l (fnO pf1 f) (cargs pf1 l ys)
 rw[hf,hc]
 show PCalls P g _ _
 rw[has]
 refine h.mono fun r outs hr=>?_
 obtain⟨h1,h2⟩:=hk r outs hr
 refine⟨h1,?_⟩
 cases hb:back co.nt pf1 l (outs.drop xs.length)with
 |none=>rw[hb]at h2;exact h2
 |some p=>rw[hb]at h2;exact h2
theorem zyy {id:Nat}{ops:Array Oper}(D:List DE) {L:List (DE×Oper)}(h1:P.follows .mixedOrders=true) (h2:ziT D ops.toList=true) (hL:D.map (fun x=>(x,ops.toList.getD x.i default))=L)
 (h:pw P c (.dops (ops.toList.map (·.dst)) L::k) Q pf):pw P c (.code (.region id ops true)::k) Q pf:=by
 subst hL
 exact⟨h1,0,D,h2,h⟩
theorem zwO {id:Nat}{ops:Array Oper}(a b:Nat) (D D':List DE) {L L':List (DE×Oper)}(h1:P.follows .mixedOrders=true) (hab:a≠b) (h2:ziT D ops.toList [(a,b)]=true) (h2':ziT D' ops.toList [(b,a)]=true) (hL:D.map (fun x=>(x,ops.toList.getD x.i default))=L) (hL':D'.map (fun x=>(x,ops.toList.getD x.i default))=L')
 (h:pw P c (.dops (ops.toList.map (·.dst)) L::k) Q pf) (h':pw P c (.dops (ops.toList.map (·.dst)) L'::k) Q pf):pw P c (.code (.region id ops true)::k) Q pf:=by
 subst hL
 subst hL'
 exact⟨h1,1,a,b,hab,⟨D,h2,h⟩,⟨D',h2',h'⟩⟩
def zxe (D:List DE) (ops:List Oper):List (Nat×Nat)→List (Nat×Nat)→Bool
 |[],xs=>ziT D ops xs
 |p::ps,xs=>zxe D ops ps ((p.1,p.2)::xs)&&zxe D ops ps ((p.2,p.1)::xs)
@[go_sem ↓] theorem zAP {pre:List (Option Tmp)}:pw P c (.dops pre []::k) Q pf=pw P c k Q pf:=rfl
def zbu:Op→Bool
 | .call ⟨.value _,_,_⟩=>true
 |_=>false
def pwd (P:Program) (c:Cfg) (ext:Bool) (ty:TypeId) (op:Op) (d:Option Tmp) (k:List PIt) (Q:Exit→PFr→Prop) (pf:PFr):Prop:=zih P c ext ⟨d,op,ty, "",#[],none⟩ (pw P c k Q) pf
theorem zso {o o':Oper}{ext:Bool}{K:PFr→Prop}(h:o.op=o'.op) (hd:o.dst=o'.dst) (ht:o.type=o'.type):zih P c ext o K pf=zih P c ext o' K pf:=by
 obtain⟨d,op,ty,ps,af,g⟩:=o
 obtain⟨d',op',ty',ps',af',g'⟩:=o'
 simp only at h hd ht
 subst h;subst hd;subst ht
 rfl
@[go_sem ↓] theorem zN8 {pre:List (Option Tmp)}{e:DE}{d:Option Tmp}{op:Op}{ty:TypeId}{ps:String}{af:Array Edge}{l:List (DE×Oper)}(h:(zks pf e.rg e.ls e.sl&&zm8 pf e.mr)=true):
 pw P c (.dops pre ((e,⟨d,op,ty,ps,af,none⟩)::l)::k) Q pf=pwd P c e.ex ty op d (.dops pre l::k) Q pf:=by
 show zoK P c pre e ⟨d,op,ty,ps,af,none⟩ (pw P c (.dops pre l::k) Q) pf=_
 simp only[zoK,h,true_and,znb]
 exact zso rfl rfl rfl
def zex (P:Program) (c:Cfg) (y:Option (Option Bool)) (b:Bool) (ext:Bool) (ty:TypeId) (op:Op) (d:Option Tmp) (k:List PIt) (Q:Exit→PFr→Prop) (pf:PFr):Prop:=
 pgo c b d (pwd P c ext ty op d k Q pf) (pw P c k Q) pf y
theorem ztY {y y':Option (Option Bool)}{b ext:Bool}{ty:TypeId}{op:Op}{d:Option Tmp}(h:y=y'):zex P c y b ext ty op d k Q pf=zex P c y' b ext ty op d k Q pf:=by rw[h]
attribute [congr] ztY
@[go_sem ↓] theorem zMs {pre:List (Option Tmp)}{e:DE}{d:Option Tmp}{op:Op}{ty:TypeId}{ps:String}{af:Array Edge}{j:Nat}{b:Bool}{l:List (DE×Oper)}(h:(zks pf e.rg e.ls e.sl&&zm8 pf e.mr)=true):
 pw P c (.dops pre ((e,⟨d,op,ty,ps,af,some (j,b)⟩)::l)::k) Q pf=zex P c (ygP pf pre[j]?) b e.ex ty op d (.dops pre l::k) Q pf:=by
 show zoK P c pre e ⟨d,op,ty,ps,af,some (j,b)⟩ (pw P c (.dops pre l::k) Q) pf=_
 simp only[zoK,h,true_and,znb]
 unfold zex pwd
 rw[zso (o:=⟨d,op,ty,ps,af,some (j,b)⟩) (o':=⟨d,op,ty, "",#[],none⟩) rfl rfl rfl]
@[go_sem ↓] theorem zML {ext:Bool}{ty:TypeId}{op:Op}{d:Option Tmp}:zex P c (some (some true)) true ext ty op d k Q pf=pwd P c ext ty op d k Q pf:=by simp[zex,pgo]
@[go_sem ↓] theorem zMn {ext:Bool}{ty:TypeId}{op:Op}{d:Option Tmp}:zex P c (some (some false)) false ext ty op d k Q pf=pwd P c ext ty op d k Q pf:=by simp[zex,pgo]
@[go_sem ↓] theorem zJT {ext:Bool}{ty:TypeId}{op:Op}{d:Tmp}(h:ckd c d .skip=true):zex P c (some (some true)) false ext ty op (some d) k Q pf=pw P c k Q (pf.put d .skip):=by simp[zex,pgo,zhQ,h]
@[go_sem ↓] theorem zLm {ext:Bool}{ty:TypeId}{op:Op}{d:Tmp}(h:ckd c d .skip=true):zex P c (some (some false)) true ext ty op (some d) k Q pf=pw P c k Q (pf.put d .skip):=by simp[zex,pgo,zhQ,h]
@[go_sem ↓] theorem zOI {ext b:Bool}{ty:TypeId}{op:Op}{d:Tmp}(h:ckd c d .skip=true):zex P c (some none) b ext ty op (some d) k Q pf=pw P c k Q (pf.put d .skip):=by simp[zex,pgo,zhQ,h]
theorem ztR {y b ext:Bool}{ty:TypeId}{op:Op}{d:Option Tmp}(h1:y=true→zex P c (some (some true)) b ext ty op d k Q pf) (h2:y=false→zex P c (some (some false)) b ext ty op d k Q pf):zex P c (some (some y)) b ext ty op d k Q pf:=by
 cases y
 ·exact h2 rfl
 ·exact h1 rfl
@[go_sem ↓] theorem zOX {ext:Bool}{ty:TypeId}{op:Op}{d:Option Tmp}(hc:zbu op=false) (he:(!ext||zch op)=true):pwd P c ext ty op d k Q pf=pw1 P c c.nohp ty op d k Q pf:=by
 have he':ext=true→zch op=true:=by intro h;subst h;simpa using he
 unfold pwd zih pw1
 split
 ·simp_all [zbu]
 ·simp only[eq_iff_iff]
  exact⟨fun h=>h.2,fun h=>⟨he',h⟩⟩
@[go_sem] theorem zQr {i:Nat}{sl rg:List Nat}{mr:Option Nat}{ls a b:Bool}:DE.ex ⟨i,sl,rg,mr,ls,a,b⟩=(a&& !b):=(rfl)
@[go_sem ↓] theorem zND {ty:TypeId}{f:Operand}{args:Array Operand}{ts:Array TypeId}{d:Option Tmp}:pwd P c false ty (.call ⟨.value f,args,ts⟩) d k Q pf=pw1 P c c.nohp ty (.call ⟨.value f,args,ts⟩) d k Q pf:=by
 unfold pwd zih pw1
 simp
theorem zwr {ty:TypeId}{f:Operand}{args:Array Operand}{ts:Array TypeId}{d:Option Tmp}{l:List (Md×Nat×Operand)}{ys:List PV}{pf1:PFr}{g:FuncId}{xs us:List PV}{as as':List (Md×PV)}
 {R:PV→List PV→Prop}(hl:(List.replicate args.toList.length Md.sh).zip (zdi P args.toList ts.toList)=l) (ha:zhn pf l=some (ys,pf1)) (hf:fnO pf1 f=some (g,xs,us)) (hc:cargs pf1 l ys=some as)
 (has:xs.map (fun x=>(Md.sh,x))++as++us.map (fun x=>(Md.sh,x))=as') (h:PCalls P g as' R)
 (hk:∀r outs,R r outs→(l.any (zht pf1)=false∨(zaP r&&outs.all zaP)=true)∧qv P c c ((back c.nt pf1 l (outs.drop xs.length)).map fun p=>(.v r,p)) d k Q):pwd P c true ty (.call ⟨.value f,args,ts⟩) d k Q pf:=by
 refine⟨by simp,?_⟩
 rw[hl,ha]
 show zh6 P c d (pw P c k Q) pf1 l (fnO pf1 f) (cargs pf1 l ys)
 rw[hf,hc]
 show PCalls P g _ _
 rw[has]
 refine h.mono fun r outs hr=>?_
 obtain⟨h1,h2⟩:=hk r outs hr
 refine⟨h1,?_⟩
 cases hb:back c.nt pf1 l (outs.drop xs.length)with
 |none=>rw[hb]at h2;exact h2
 |some p=>rw[hb]at h2;exact h2
theorem zrJ {f:FuncId}{fn:Func}{code:Code}{as:List (Md×PV)}{R:PV→List PV→Prop}(fz hp:List Nat) (hc:zac P f) (hf:P.funcs[f]? =some fn) (hb:fn.body=some code) (hlen:as.length≤fn.ntmps)
 (h:pw P ⟨fn.ntmps,ioL 0 as,fz,hp⟩ [.code code] (ziQ P fn.results.toList as R) (zgJ as)):PCalls P f as R:=by
 refine zqV (fz:=fz) (hp:=hp) hc hf hb hlen ?_
 have e:zbJ P ⟨fn.ntmps,ioL 0 as,fz,hp⟩ [] (ziQ P fn.results.toList as R)=ziQ P fn.results.toList as R:=by funext e;cases e<;>rfl
 have h':pwp P ⟨fn.ntmps,ioL 0 as,fz,hp⟩ code (zbJ P ⟨fn.ntmps,ioL 0 as,fz,hp⟩ [] (ziQ P fn.results.toList as R)) (zgJ as):=h
 rwa [e]at h'
@[go_sem] theorem zHw {rs:List ResultVar}{as:List (Md×PV)}{R:PV→List PV→Prop}:ziQ P rs as R .ret pf=zlO as R (zho P pf rs):=(rfl)
@[go_sem] theorem zAw {rs:List ResultVar}{as:List (Md×PV)}{R:PV→List PV→Prop}:ziQ P rs as R .normal pf=zlO as R (zho P pf rs):=(rfl)
@[go_sem] theorem zCy {as:List (Md×PV)}{R:PV→List PV→Prop}{x:List PV}:zlO as R (some (x,pf))=R (zqr x) (zfA pf 0 as):=(rfl)
@[go_sem] theorem zDN:zho P pf []=some ([],pf):=(rfl)
@[go_sem] theorem zBH {x:ResultVar}{xs:List ResultVar}:zho P pf (x::xs)=(zkq P pf x).bind fun a=>(zho P a.2 xs).map fun b=>(a.1::b.1,b.2):=(rfl)
@[go_sem] theorem zD9 {t:Tmp}:zkq P pf (.tmp t)=if zhN (pf t)=true then none else zel pf t (pf t):=(rfl)
@[go_sem] theorem zCn {t:Tmp}{ty:TypeId}:zkq P pf (.cell t ty)=zl3 pf t (pf t) (tk P ty):=(rfl)
@[go_sem] theorem zLj {t sz:Nat}{row:List PV}:zl3 pf t (.bl row) (some (true,sz))=if sz=row.length then some (.agg row,(pf.upd t jP).kill t 0)else none:=by cases row<;>rfl
@[go_sem] theorem zMm {t sz:Nat}{x:PV}{row:List PV}:zl3 pf t (.bl (x::row)) (some (false,sz))=some (x,(pf.upd t jP).kill t 0):=(rfl)
@[go_sem] theorem zOG {x:PV}:zhN (.v x)=false:=(rfl)
@[go_sem] theorem zJP {s:Nat}{p:zab}:zhN (.rf s p)=false:=(rfl)
@[go_sem] theorem zMf {s lo hi:Nat}{p:zab}:zhN (.rv s p lo hi)=false:=(rfl)
@[go_sem] theorem zMq {s i j n:Nat}{p:zab}:zhN (.ra s p i j n)=false:=(rfl)
@[go_sem] theorem zKj {es:Nat}{rows:List (List PV)}:zhN (.ls es rows)=true:=(rfl)
@[go_sem] theorem zKB {s i j:Nat}{p:zab}:zhN (.pt s p i j)=false:=(rfl)
@[go_sem] theorem zJ4 {row:List PV}:zhN (.bl row)=false:=(rfl)
@[go_sem] theorem zMM {t:Tmp}:lsO pf (.tmp t)=zhN (pf t):=(rfl)
@[go_sem] theorem zEW {v:Value}:lsO pf (.const v)=false:=(rfl)
@[go_sem] theorem zHa {g:FuncId}:lsO pf (.func g)=false:=(rfl)
@[go_sem] theorem zIu:zqr []=.junk:=(rfl)
@[go_sem] theorem zFp {x:PV}:zqr [x]=x:=(rfl)
@[go_sem] theorem zF8 {x y:PV}{l:List PV}:zqr (x::y::l)=.tup (x::y::l):=(rfl)
@[go_sem] theorem zG9 {n:Nat}:zfA pf n []=[]:=(rfl)
@[go_sem] theorem zJq {n:Nat}{x:PV}{l:List (Md×PV)}:zfA pf n ((.io,x)::l)=ztL (pf n)::zfA pf (n+1) l:=(rfl)
@[go_sem] theorem zKd {n:Nat}{x:PV}{l:List (Md×PV)}:zfA pf n ((.sh,x)::l)=.junk::zfA pf (n+1) l:=(rfl)
@[go_sem] theorem zKD {n:Nat}{x:PV}{l:List (Md×PV)}:zfA pf n ((.mv,x)::l)=.junk::zfA pf (n+1) l:=(rfl)
@[go_sem] theorem zPe {x:PV}:ztL (.v x)=x:=(rfl)
@[go_sem] theorem zJU {n:Nat}:ioL n []=[]:=(rfl)
@[go_sem] theorem zOV {n:Nat}{x:PV}{l:List (Md×PV)}:ioL n ((.io,x)::l)=n::ioL (n+1) l:=(rfl)
@[go_sem] theorem zOf {n:Nat}{x:PV}{l:List (Md×PV)}:ioL n ((.sh,x)::l)=ioL (n+1) l:=(rfl)
@[go_sem] theorem zNt {n:Nat}{x:PV}{l:List (Md×PV)}:ioL n ((.mv,x)::l)=ioL (n+1) l:=(rfl)
end
end Go.Pm
