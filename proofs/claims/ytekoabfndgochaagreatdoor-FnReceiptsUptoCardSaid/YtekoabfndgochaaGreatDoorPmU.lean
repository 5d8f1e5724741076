import Derived.Test.YtekoabfndgochaaGreatDoorPmT
namespace Go.Pm
open Go.Am
section
variable {P:Program}{c co:Cfg}{k:List PIt}{Q:Exit→PFr→Prop}{pf:PFr}
attribute [go_sem] Option.bind_some Option.bind_none Option.map_some Option.map_none Option.getD_some Option.getD_none
def orE:Option (PF×PFr)→Option (PF×PFr)→Option (PF×PFr)
 |some a,_=>some a
 |none,y=>y
theorem zvh {a b c:Option (PF×PFr)}(h:a=b):orE a c=orE b c:=by rw[h]
@[go_sem ↓] theorem zG8 {a:PF×PFr}{y:Option (PF×PFr)}:orE (some a) y=some a:=rfl
@[go_sem ↓] theorem zIS {y:Option (PF×PFr)}:orE none y=y:=rfl
def tkA:Option PF→PFr→Option (PF×PFr)→Option (PF×PFr)
 |some y,pf,_=>some (y,pf)
 |none,_,x=>x
theorem zwh {a b:Option PF}{pf:PFr}{x:Option (PF×PFr)}(h:a=b):tkA a pf x=tkA b pf x:=by rw[h]
@[go_sem ↓] theorem zKi {y:PF}{x:Option (PF×PFr)}:tkA (some y) pf x=some (y,pf):=rfl
@[go_sem ↓] theorem zHc {x:Option (PF×PFr)}:tkA none pf x=x:=rfl
attribute [congr] zvh zwh
def ltO (x:Option PF) (f:PF→Option (PF×PFr)) (z:Option (PF×PFr)):Option (PF×PFr):=
 match x with
 |some y=>f y
 |none=>z
@[go_sem] theorem zHy {y:PF}{f:PF→Option (PF×PFr)}{z:Option (PF×PFr)}:ltO (some y) f z=f y:=(rfl)
@[go_sem] theorem zHF {f:PF→Option (PF×PFr)}{z:Option (PF×PFr)}:ltO none f z=z:=(rfl)
@[go_sem] theorem zSJ {d:Option Tmp}{x:PV}:tkE co d pf (.v x)=some (.v x,pf):=(rfl)
@[go_sem] theorem zO2 {d:Option Tmp}{s i j n:Nat}{p:zad}:tkE co d pf (.ra s p i j n)=some (.ra s p i j n,pf):=(rfl)
@[go_sem] theorem zOo {d:Option Tmp}{s:Nat}{p:zad}:tkE co d pf (.rf s p)=if ltB co d=true then(zaw pf s p).bind fun x=>if isJ x=true then none else(zb4 pf s p .junk).map fun pf'=>(.v x,pf')else some (.rf s p,pf):=(rfl)
@[go_sem] theorem zR8 {d:Nat}:ltB co (some d)=co.fz.contains (d+6*co.nt):=(rfl)
@[go_sem ↓] theorem zJi {ty t:TypeId}{a:Operand}{d:Option Tmp}:pw1 P c co ty (.load t a) d k Q pf=qv P c co (ltO ((tk P t).bind fun tz=>(adr pf a).bind (ldA tz pf)) (tkE co d pf) ((zqB P t pf a).map fun y=>(y,pf))) d k Q:=by
 show zmJ P co t a d (pw P c k Q) pf=_
 unfold zmJ
 cases (tk P t).bind fun tz=>(adr pf a).bind (ldA tz pf)with
 |some y=>
  show zmA co (pw P c k Q) d y pf=qv P c co (tkE co d pf y) d k Q
  unfold zmA
  cases tkE co d pf y<;>rfl
 |none=>cases zqB P t pf a<;>rfl
theorem zvz {d:Option Tmp}{x:Option AD}:pad co (pw P c k Q) d pf x=qv P c co (x.map fun ad=>(zki ad,pf)) d k Q:=by cases x<;>rfl
@[go_sem ↓] theorem zGf {ty s:TypeId}{x:Operand}{f:Nat}{d:Option Tmp}:pw1 P c co ty (.fieldAddr s x f) d k Q pf=qv P c co (((zaC P s f).bind fun o=>(adr pf x).bind (ziZ o.1)).map fun ad=>(zki ad,pf)) d k Q:=zvz
@[go_sem ↓] theorem zBt {ty:TypeId}{x:Operand}{d:Option Tmp}:pw1 P c co ty (.nilCheck x) d k Q pf=qv P c co ((adr pf x).map fun ad=>(zki ad,pf)) d k Q:=zvz
@[go_sem] theorem zR5 {t:TypeId}{x i:Operand}{es:Nat}(h:esz P t=some es):ixE P t x i pf=(sbO pf x).bind (ixS es (rdS pf i)):=by simp[ixE,h]
@[go_sem] theorem zSz {t:TypeId}{x i:Operand}{z:Nat×Nat}(h:asz P t=some z) (h0:esz P t=none):ixE P t x i pf=(adr pf x).bind (ixA z.1 z.2 (rdS pf i)):=by simp[ixE,h,h0]
@[go_sem ↓] theorem zzs {ty t:TypeId}{x i:Operand}{d:Option Tmp}:pw1 P c co ty (.indexAddr t x i) d k Q pf=qv P c co (orE ((ixE P t x i pf).map fun ad=>(zki ad,pf)) (zo5 P t x i pf)) d k Q:=by
 show zks P co t x i d (pw P c k Q) pf=_
 unfold zks
 cases ixE P t x i pf with
 |some ad=>rfl
 |none=>cases zo5 P t x i pf<;>rfl
@[go_sem] theorem zO1 {t:TypeId}{u:Nat}{i:Operand}:zo5 P t (.tmp u) i pf=zpZ P t u pf (pf u) (rdS pf i):=(rfl)
@[go_sem] theorem zIy {t:TypeId}{u s i j n:Nat}{p:zad}{kk:IntKind}{q:Int}:zpZ P t u pf (.as false s p i j n) (some (.int kk q))=if esz P t=some 1∧0≤q∧q<n then some (.as true s p i (j+q.toNat) 1,pf.put u jP)else none:=(rfl)
@[go_sem] theorem zOt {t:TypeId}{u:Nat}:zqB P t pf (.tmp u)=(tk P t).bind fun tz=>if tz.1=false then zqe (pf u)else none:=(rfl)
@[go_sem] theorem zJF {s i j n:Nat}{p:zad}:zqe (.as true s p i j n)=some (.rf s (p++[(i,j)])):=(rfl)
@[go_sem] theorem zPp {t:Nat}{b:Bool}{s i j n:Nat}{p:zad}:adF pf t (.as b s p i j n)=none:=(rfl)
@[go_sem] theorem zOL {t:Nat}{b:Bool}{s i j n:Nat}{p:zad}:sbF pf t (.as b s p i j n)=none:=(rfl)
@[go_sem] theorem zKS {c:Cfg}{d:Nat}(h:c.fz=[]):mkd c d=false:=by simp[mkd,h]
@[go_sem] theorem zSF {c:Cfg}{d:Nat}:mkd c d=c.fz.contains (d+2*c.nt):=(rfl)
@[go_sem] theorem zLu {s:Nat}{p:zad}:znG (.rf s p)=some (s,p):=(rfl)
@[go_sem] theorem zH5 {o:Bool}{es:Nat}{rows:List (List PV)}:zp6 (some (.sl o es rows))=true:=(rfl)
@[go_sem] theorem zGJ {s i j q:Nat}{p:zad}:zlg pf s p i j q []=true:=(rfl)
@[go_sem] theorem zF6 {s i j q q':Nat}{t:Tmp}{p:zad}{r:List (Nat×Operand)}:zlg pf s p i j q ((q',.tmp t)::r)=if q'=q∧znG (pf t)=some (s,p++[(i,j+q)])∧zp6 (zaw pf s (p++[(i,j+q)]))=true then zlg pf s p i j (q+1) r else false:=(rfl)
@[go_sem] theorem zBY {a:Nat×Nat}:zeX [a]=some ([],a.1,a.2):=(rfl)
@[go_sem] theorem zB2 {a b:Nat×Nat}{r:zad}:zeX (a::b::r)=(zeX (b::r)).map fun x=>(a::x.1,x.2):=(rfl)
@[go_sem] theorem zO0 {q:Nat}{t:Tmp}{r:List (Nat×Operand)}:zo7 pf ((q,.tmp t)::r)=(znG (pf t)).bind fun x=>(zeX x.2).map fun y=>(x.1,y):=(rfl)
@[go_sem] theorem zN1 {t:TypeId}{len:Nat}{ps:List (Nat×Operand)}:zrH P t len ps pf=(ez P t).bind fun z=>(zo7 pf ps).bind fun a=>if z.1=1∧len≤2^24∧ps.length=len∧zlg pf a.1 a.2.1 a.2.2.1 a.2.2.2 0 ps=true then some (.as false a.1 a.2.1 a.2.2.1 a.2.2.2 len)else none:=(rfl)
def stA (pf:PFr) (cells:List PV):AD→Option PFr
 | .pl s p i j=>zdU pf s p i j cells
 |_=>none
def stE (P:Program) (t:TypeId) (a x:Operand) (pf:PFr):Option PFr:=
 (tk P t).bind fun tz=>(zbq (ezT P t) pf x).bind fun y=>if zph tz.2 y.1=true then(adr y.2 a).bind (stA y.2 (zax y.1))else none
@[go_sem] theorem zPQ {t:TypeId}{a x:Operand}:stE P t a x pf=(tk P t).bind fun tz=>(zbq (ezT P t) pf x).bind fun y=>if zph tz.2 y.1=true then(adr y.2 a).bind (stA y.2 (zax y.1))else none:=(rfl)
@[go_sem ↓] theorem zFj {ty t:TypeId}{a x:Operand}:pw1 P c co ty (.store t a x) none k Q pf=qf P c (stE P t a x pf) k Q:=by
 show zkp P co t a x none (pw P c k Q) pf=_
 unfold zkp stE
 cases tk P t with
 |none=>rfl
 |some tz=>
  cases zbq (ezT P t) pf x with
  |none=>rfl
  |some y=>
   obtain⟨y,pf1⟩:=y
   obtain⟨b,sz⟩:=tz
   simp only[Option.bind_some]
   by_cases h:zph sz y=true
   ·rw[if_pos h]
    cases ha:adr pf1 a with
    |none=>simp[zjb,qf]
    |some ad=>cases ad with
     |pl s p i j=>cases hp:zdU pf1 s p i j (zax y)<;>simp[zjb,qf,h,stA,hp]
     |fz row=>simp[zjb,qf,stA]
   ·rw[if_neg h];simp[qf,h]
def alE (P:Program) (co:Cfg) (e:TypeId) (d:Nat) (pf:PFr):Option PFr:=
 (zr P e).bind fun z=>if ckd co d .skip=true then some (if co.hp.contains d=true then pf.put d (.v (.bx z))else pf.put d (.bl z))else none
@[go_sem] theorem zRb {e:TypeId}{d:Nat}{z:List PV}(h:zr P e=some z) (h1:ckd co d .skip=true) (h2:co.hp.contains d=true):alE P co e d pf=some (pf.put d (.v (.bx z))):=by unfold alE;rw[h,Option.bind_some,if_pos h1,if_pos h2]
@[go_sem] theorem zQy {e:TypeId}{d:Nat}{z:List PV}(h:zr P e=some z) (h1:ckd co d .skip=true) (h2:co.hp.contains d=false):alE P co e d pf=some (pf.put d (.bl z)):=by unfold alE;rw[h,Option.bind_some,if_pos h1,if_neg (by rw[h2];simp)]
@[go_sem ↓] theorem zGt {ty e:TypeId}{d:Tmp}:pw1 P c co ty (.alloc e) (some d) k Q pf=qf P c (alE P co e d pf) k Q:=by
 show zku P co e (some d) (pw P c k Q) pf=_
 unfold zku alE
 cases zr P e with
 |none=>rfl
 |some z=>
  simp only[Option.bind_some]
  by_cases h:ckd co d .skip=true
  ·rw[if_pos h]
   by_cases h2:co.hp.contains d=true
   ·simp only[h,h2,qf,if_true,true_and]
   ·simp only[h,h2,qf,true_and];simp
  ·rw[if_neg h];simp[qf,h]
def bxE (P:Program) (co:Cfg) (e:TypeId) (x:Operand) (d:Nat) (pf:PFr):Option PFr:=
 (tk P e).bind fun _=>(zbq (ezT P e) pf x).bind fun y=>if(!lsO pf x&&zb6 y.1&&ckd co d .skip)=true then some (if co.hp.contains d=true then(if co.fz.contains d=true then(y.2.put d (.v (.bx (zax y.1)))).put d (.v (drop (.bx (zax y.1))))else y.2.put d (.v (.bx (zax y.1))))else y.2.put d (.bl (zax y.1)))else none
@[go_sem] theorem zPm {e:TypeId}{x:Operand}{d:Nat}:bxE P co e x d pf=(tk P e).bind fun _=>(zbq (ezT P e) pf x).bind fun y=>if(!lsO pf x&&zb6 y.1&&ckd co d .skip)=true then some (if co.hp.contains d=true then(if co.fz.contains d=true then(y.2.put d (.v (.bx (zax y.1)))).put d (.v (drop (.bx (zax y.1))))else y.2.put d (.v (.bx (zax y.1))))else y.2.put d (.bl (zax y.1)))else none:=(rfl)
@[go_sem ↓] theorem zLf {ty e:TypeId}{x:Operand}{d:Tmp}:pw1 P c co ty (.box e x) (some d) k Q pf=qf P c (bxE P co e x d pf) k Q:=by
 show zoU P co e x (some d) (pw P c k Q) pf=_
 unfold zoU bxE
 cases tk P e with
 |none=>rfl
 |some z=>
  cases zbq (ezT P e) pf x with
  |none=>rfl
  |some y=>
   obtain⟨y,pf1⟩:=y
   simp only[Option.bind_some]
   by_cases h:(!lsO pf x&&zb6 y&&ckd co d .skip)=true
   ·rw[if_pos h]
    simp only[Bool.and_eq_true,Bool.not_eq_true']at h
    by_cases h2:co.hp.contains d=true
    ·by_cases h4:co.fz.contains d=true
     ·simp only[h.1.1,h.1.2,h.2,h2,h4,qf,if_true,true_and]
     ·simp only[h.1.1,h.1.2,h.2,h2,h4,qf,if_true,true_and];simp
    ·simp only[h.1.1,h.1.2,h.2,h2,qf,true_and];simp
   ·rw[if_neg h]
    simp only[qf,eq_iff_iff,iff_false]
    rintro⟨h1,h2,h3,_⟩
    exact h (by rw[h1,h2,h3];rfl)
def zwD (P:Program) (co:Cfg) (t:TypeId) (len:Nat) (ps:List (Nat×Operand)) (d:Nat) (pf:PFr):Option PFr:=
 (ez P t).bind fun z=>(zgp pf (ps.map fun p=>(zaV P t p.1,p.2))).bind fun y=>if len*z.1≤2^24∧ckd co d .skip=true then(zg9 z.1 ((ps.map (·.1)).zip (drx co d y.1)) (List.replicate len z.2.2)).map fun rows=>y.2.put d (.ls z.1 rows)else none
@[go_sem] theorem zKR {d:Nat}{xs:List PV}(h:co.fz=[]):drx co d xs=xs:=by simp[drx,h]
@[go_sem] theorem zRP {d:Nat}{xs:List PV}:drx co d xs=if co.fz.contains (d+3*co.nt)=true then xs.map drop else xs:=(rfl)
@[go_sem] theorem zLN {t:TypeId}{len:Nat}{ps:List (Nat×Operand)}{d:Nat}:zwD P co t len ps d pf=(ez P t).bind fun z=>(zgp pf (ps.map fun p=>(zaV P t p.1,p.2))).bind fun y=>if len*z.1≤2^24∧ckd co d .skip=true then(zg9 z.1 ((ps.map (·.1)).zip (drx co d y.1)) (List.replicate len z.2.2)).map fun rows=>y.2.put d (.ls z.1 rows)else none:=(rfl)
@[go_sem ↓] theorem zyc {ty t:TypeId}{len:Nat}{ps:Array (Nat×Operand)}{d:Tmp}:pw1 P c co ty (.buildSlice t len ps) (some d) k Q pf=if mkd co d=true then qv P c co ((zrH P t len ps.toList pf).map fun y=>(y,pf)) (some d) k Q else qf P c (zwD P co t len ps.toList d pf) k Q:=by
 show zo1 P co t len ps.toList (some d) (pw P c k Q) pf=_
 unfold zo1 zwD
 by_cases hm:mkd co d=true
 ·rw[if_pos hm,if_pos (show zwV co (some d)=true from hm)]
  unfold zoj
  cases zrH P t len ps.toList pf<;>rfl
 rw[if_neg hm,if_neg (show¬zwV co (some d)=true from hm)]
 cases ez P t with
 |none=>rfl
 |some z=>
  cases zgp pf (ps.toList.map fun p=>(zaV P t p.1,p.2))with
  |none=>rfl
  |some y=>
   obtain⟨xs,pf1⟩:=y
   simp only[Option.bind_some]
   by_cases h:len*z.1≤2^24∧ckd co d .skip=true
   ·rw[if_pos h]
    cases zg9 z.1 ((ps.toList.map (·.1)).zip (drx co d xs)) (List.replicate len z.2.2)<;>simp only[zp8,qf,h.1,h.2,true_and,and_false,Option.map_none,Option.map_some]
   ·rw[if_neg h]
    simp only[qf,eq_iff_iff,iff_false]
    rintro⟨h1,h2⟩
    cases hf:zg9 z.1 ((ps.toList.map (·.1)).zip (drx co d xs)) (List.replicate len z.2.2)with
    |none=>rw[hf]at h2;exact h2
    |some r=>rw[hf]at h2;exact h ⟨h1,h2.1⟩
@[go_sem ↓] theorem zFY {ty t:TypeId}{ps:Array (Nat×Operand)}{d:Option Tmp}:pw1 P c co ty (.build t ps) d k Q pf=
 qv P c co ((zfH P t).bind fun b=>(zgp pf (ps.toList.map fun p=>(zaV P t p.1,p.2))).bind fun y=>(zio b.1 ((ps.toList.map (·.1)).zip y.1) b.2).map fun row=>(.v (.agg row),y.2)) d k Q:=by
 show zkx P co t ps.toList d (pw P c k Q) pf=_
 unfold zkx
 cases zfH P t with
 |none=>rfl
 |some b=>
  cases zgp pf (ps.toList.map fun p=>(zaV P t p.1,p.2))with
  |none=>rfl
  |some y=>
   simp only[Option.bind_some]
   cases zio b.1 ((ps.toList.map (·.1)).zip y.1) b.2<;>rfl
def pkV (b x y:Option Value):Option PV:=
 match b with
 |some (.bool true)=>x.bind zeH
 |some (.bool false)=>y.bind zeH
 |_=>none
@[go_sem ↓] theorem zJ2 {ty:TypeId}{b x y:Operand}{d:Option Tmp}:pw1 P c co ty (.pick b x y) d k Q pf=qv P c co ((pkV (rdS pf b) (rdS pf x) (rdS pf y)).map fun z=>(.v z,pf)) d k Q:=by
 show zmG co b x y d (pw P c k Q) pf=_
 unfold zmG zun pkV
 cases rdS pf b with
 |none=>rfl
 |some v=>
  cases v with
  |bool b=>
   cases b
   ·simp only[]
    cases (rdS pf y).bind zeH<;>rfl
   ·simp only[]
    cases (rdS pf x).bind zeH<;>rfl
  |_=>rfl
@[go_sem] theorem zQM {x y:Option Value}:pkV (some (.bool true)) x y=x.bind zeH:=(rfl)
@[go_sem] theorem zRk {x y:Option Value}:pkV (some (.bool false)) x y=y.bind zeH:=(rfl)
@[go_sem] theorem zK3 {b:Bool}{j:IntKind}{m n:Int}:pkV (some (.bool b)) (some (.int j m)) (some (.int j n))=some (.int j (if b=true then m else n)):=by cases b<;>rfl
@[go_sem] theorem zJn {b m n:Bool}:pkV (some (.bool b)) (some (.bool m)) (some (.bool n))=some (.bool (if b=true then m else n)):=by cases b<;>rfl
@[go_sem] theorem zNL {b:Bool}{m n:ByteArray}:pkV (some (.bool b)) (some (.string m)) (some (.string n))=some (.str (if b=true then m else n)):=by cases b<;>rfl
def mkV (b:Bool) (z:Nat×Nat×List PV) (pf:PFr):Option Value→Option Value→Option (PF×PFr)
 |some (.int .i64 n),some (.int .i64 m)=>if 0≤n∧n≤m∧z.2.1*m≤140737488355328∧m≤4611686018427387904 then some (.v (.sl true z.1 (List.replicate n.toNat (uz b z.2.2))),pf)else none
 |_,_=>none
@[go_sem] theorem zNG {b:Bool}{z:Nat×Nat×List PV}{n m:Int}:mkV b z pf (some (.int .i64 n)) (some (.int .i64 m))=if 0≤n∧n≤m∧z.2.1*m≤140737488355328∧m≤4611686018427387904 then some (.v (.sl true z.1 (List.replicate n.toNat (uz b z.2.2))),pf)else none:=(rfl)
@[go_sem] theorem zJZ {d:Nat}:nzB co (some d)=co.fz.contains (d+co.nt):=(rfl)
@[go_sem] theorem zH1:nzB co none=false:=(rfl)
@[go_sem] theorem zH0 {z:List PV}:uz false z=z:=(rfl)
@[go_sem] theorem zKV {z:List PV}:uz true z=z.map ud:=(rfl)
@[go_sem] theorem zSl {o:Bool}{e:Nat}:ud (.sl o e [])=.sl true e []:=(rfl)
@[go_sem] theorem zPq {j:IntKind}{n:Int}:ud (.int j n)=.int j n:=(rfl)
@[go_sem] theorem zNc {b:Bool}:ud (.bool b)=.bool b:=(rfl)
@[go_sem] theorem zPx {b:ByteArray}:ud (.str b)=.str b:=(rfl)
@[go_sem ↓] theorem zzl {ty t:TypeId}{l cc:Operand}{d:Option Tmp}:pw1 P c co ty (.makeSlice t l cc) d k Q pf=qv P c co ((ez P t).bind fun z=>mkV (nzB co d) z pf (rdS pf l) (rdS pf cc)) d k Q:=by
 show zmK P co t l cc d (pw P c k Q) pf=_
 unfold zmK
 cases ez P t with
 |none=>rfl
 |some z=>
  simp only[Option.bind_some]
  generalize rdS pf l=x1
  generalize rdS pf cc=x2
  unfold ztT mkV
  split
  ·rename_i n m
   simp only[]
   by_cases h:0≤n∧n≤m∧z.2.1*m≤140737488355328∧m≤4611686018427387904
   ·rw[if_pos h]
    simp only[h,true_and]
    rfl
   ·rw[if_neg h]
    simp only[qv,eq_iff_iff,iff_false]
    rintro⟨a1,_⟩
    exact h a1
  ·rename_i h1
   split
   ·rename_i e1;exact absurd rfl (h1 _ _ rfl)
   ·rfl
theorem zsD {ty t u:TypeId}{op:BinOp}{x y:Operand}{d:Tmp}{q:Bool}{rows:List (List PV)}(hy:zg5 y=true) (hp:co.hp.isEmpty=false) (he:(zaz P t).isSome=true) (hq:zq4 op=some q) (hx:zw4 pf x=some rows)
 (hk:∀b,(rows≠[]→b= !q)→qv P c co (some (.v (.bool b),pf)) (some d) k Q):pw1 P c co ty (.binOp op t x y u) (some d) k Q pf:=by
 show pop P co ⟨some d,.binOp op t x y u,ty, "",#[],none⟩ (pw P c k Q) pf
 simp only[pop,hy,if_true]
 refine⟨(by intro e;rw[e]at hp;cases hp),?_⟩
 cases x with
 |tmp s=>
  unfold zk5
  simp only[hq,hx]
  exact⟨he,fun b hb=>hk b hb⟩
 |_=>simp[zw4]at hx
@[go_sem ↓] theorem zAS {ty:TypeId}{fn:Fn}{xs ys:Array Operand}{d:Option Tmp}:pw1 P c co ty (.makeFunc fn xs ys) d k Q pf=
 qv P c co (if clB co d=true then(clS pf fn xs.toList ys.toList).bind (clM co pf)else(ziJ (!co.hp.isEmpty) pf (xs.toList++ys.toList)).map fun vs=>(.v (.func fn (vs.1.take xs.toList.length) (vs.1.drop xs.toList.length)),vs.2)) d k Q:=by
 show zmP co fn xs.toList ys.toList d (pw P c k Q) pf=_
 unfold zmP
 split
 ·cases (clS pf fn xs.toList ys.toList).bind (clM co pf)<;>rfl
 cases ziJ (!co.hp.isEmpty) pf (xs.toList++ys.toList)<;>rfl
def mvF (co:Cfg) (d:Option Tmp) (t:Nat) (pf:PFr):PF→Option (PF×PFr)
 | .v x=>if isJ x=true then none else some (if zay x=true then .rf t []else .v x,pf)
 | .ls es rows=>if t<co.nt then some (.rf t [],(pf.upd t (.v (.sl true es rows))).kill t 0)else none
 | .bl _=>some (.pt t [] 0 0,pf)
 | .skip=>none
 | .as .. =>none
 | .pt s p i j=>if lyB co d=true then lyR pf t s p i j (pf s)else some (.pt s p i j,pf)
 |y=>some (y,pf)
@[go_sem] theorem zRW {co:Cfg}{d:Option Tmp}{t:Nat}{x:PV}(h:isJ x=false):mvF co d t pf (.v x)=some (if zay x=true then .rf t []else .v x,pf):=by simp[mvF,h]
@[go_sem] theorem zPn {co:Cfg}{d:Option Tmp}{t es:Nat}{rows:List (List PV)}(h:t<co.nt):mvF co d t pf (.ls es rows)=some (.rf t [],(pf.upd t (.v (.sl true es rows))).kill t 0):=by simp[mvF,h]
@[go_sem] theorem zP2 {co:Cfg}{d:Option Tmp}{t:Nat}{row:List PV}:mvF co d t pf (.bl row)=some (.pt t [] 0 0,pf):=(rfl)
@[go_sem] theorem zP3 {co:Cfg}{d:Option Tmp}{t s i j:Nat}{p:zad}:mvF co d t pf (.pt s p i j)=if lyB co d=true then lyR pf t s p i j (pf s)else some (.pt s p i j,pf):=(rfl)
@[go_sem] theorem zRR {co:Cfg}{d:Nat}:lyB co (some d)=(!co.hp.isEmpty&&co.fz.contains (d+5*co.nt)):=(rfl)
@[go_sem] theorem zP6 {t s:Nat}{row:List PV}:lyR pf t s [] 0 0 (.bl row)=some (.rf s [],((pf.upd s (.v (.bx row))).kill s 0).put t (.rf s [])):=(rfl)
@[go_sem] theorem zOv {co:Cfg}{d:Option Tmp}{t s:Nat}{p:zad}:mvF co d t pf (.rf s p)=some (.rf s p,pf):=(rfl)
@[go_sem] theorem zPI {co:Cfg}{d:Option Tmp}{t s lo hi:Nat}{p:zad}:mvF co d t pf (.rv s p lo hi)=some (.rv s p lo hi,pf):=(rfl)
@[go_sem] theorem zPb {co:Cfg}{d:Option Tmp}{t s i j n:Nat}{p:zad}:mvF co d t pf (.ra s p i j n)=some (.ra s p i j n,pf):=(rfl)
@[go_sem] theorem zPd {co:Cfg}{d:Option Tmp}{t s:Nat}{g:FuncId}{us:List PV}:mvF co d t pf (.cl s g us)=some (.cl s g us,pf):=(rfl)
@[go_sem] theorem zQw {co:Cfg}{d:Nat}:clB co (some d)=co.fz.contains (d+4*co.nt):=(rfl)
@[go_sem] theorem zRG {g:FuncId}{s:Nat}{ys:List Operand}:clS pf (.func g) [] (.tmp s::ys)=match pf s with| .v (.bx _)=>some (g,s,ys)|_=>none:=(rfl)
@[go_sem] theorem zQr {g:FuncId}{s:Nat}{ys:List Operand}{co:Cfg}:clM co pf (g,s,ys)=(ziJ (!co.hp.isEmpty) pf ys).map fun y=>(.cl s g y.1,y.2):=(rfl)
@[go_sem] theorem zRY {t:Tmp}:clO pf (.tmp t)=clF (pf t):=(rfl)
@[go_sem] theorem zPJ {s:Nat}{g:FuncId}{us:List PV}:clF (.cl s g us)=some (s,g,us):=(rfl)
@[go_sem ↓] theorem zCR {ty:TypeId}{t:Tmp}{d:Option Tmp}:pw1 P c co ty (.move (.tmp t)) d k Q pf=qv P c co (mvF co d t pf (pf t)) d k Q:=by
 show zgy co t d (pw P c k Q) pf (pf t)=_
 unfold zgy mvF
 cases pf t with
 |v x=>
  cases hj:isJ x
  ·cases ho:zay x<;>simp[hj,ho,qv]
  ·simp[hj,qv]
 |ls es rows=>
  by_cases h:t<co.nt
  ·simp[h,qv]
  ·simp[h,qv]
 |pt s p i j=>
  cases hl:lyB co d
  ·simp[qv]
  ·simp only[if_true]
   cases lyR pf t s p i j (pf s)<;>rfl
 |_=>rfl
def tkV (x:Option (PV×PFr)):Option (PF×PFr):=x.map fun y=>(.v y.1,y.2)
@[go_sem] theorem zIB {y:PV}:tkV (some (y,pf))=some (.v y,pf):=(rfl)
@[go_sem ↓] theorem zDm {ty:TypeId}{k0:Value}{d:Option Tmp}:pw1 P c co ty (.move (.const k0)) d k Q pf=qv P c co (tkV (zbq (ezT P ty) pf (.const k0))) d k Q:=by
 show zhF (ezT P ty) co (.const k0) d (pw P c k Q) pf=_
 unfold zhF
 simp only[]
 cases zbq (ezT P ty) pf (.const k0)<;>rfl
@[go_sem ↓] theorem zEF {ty:TypeId}{d:Option Tmp}{g:FuncId}:pw1 P c co ty (.move (.func g)) d k Q pf=qv P c co (tkV (zbq (ezT P ty) pf (.func g))) d k Q:=by
 show zhF (ezT P ty) co (.func g) d (pw P c k Q) pf=_
 unfold zhF
 simp only[]
 cases zbq (ezT P ty) pf (.func g)<;>rfl
@[go_sem ↓] theorem zCf {ty:TypeId}{x:Operand}{d:Option Tmp}:pw1 P c co ty (.assign x) d k Q pf=qv P c co (tkA (znJ co pf d x) pf (tkV (zbq (ezT P ty) pf x))) d k Q:=by
 show zjj (ezT P ty) co x d (pw P c k Q) pf=_
 unfold zjj
 cases znJ co pf d x with
 |some y=>rfl
 |none=>cases zbq (ezT P ty) pf x<;>rfl
@[go_sem] theorem zQg {d:Nat}{t:Tmp}:znJ co pf (some d) (.tmp t)=if mkd co d=true then zpg t (pf t)else none:=(rfl)
@[go_sem] theorem zN2 {t s:Nat}{p:zad}:zpg t (.rf s p)=some (.rf s p):=(rfl)
@[go_sem] theorem zK0 {t:Nat}{row:List PV}:zpg t (.bl row)=some (.pt t [] 0 0):=(rfl)
@[go_sem] theorem zM0 {t s:Nat}{g:FuncId}{us:List PV}:zpg t (.cl s g us)=some (.cl s g us):=(rfl)
@[go_sem] theorem zOu {d:Option Tmp}{x:Value}:znJ co pf d (.const x)=none:=by cases d<;>rfl
@[go_sem] theorem zPM {d:Option Tmp}{x:FuncId}:znJ co pf d (.func x)=none:=by cases d<;>rfl
def exV (pf:PFr) (s:Nat) (xs:List PV) (i:Nat):Option PV→Option (PF×PFr)
 |some y=>if isJ y=true then none else some (.v y,if zay y=true then(pf.upd s (.v (.tup (xs.set i .junk)))).kill s 1 else pf)
 |none=>none
@[go_sem] theorem zJY {s i:Nat}{xs:List PV}{y:PV}(h:isJ y=false):exV pf s xs i (some y)=some (.v y,if zay y=true then(pf.upd s (.v (.tup (xs.set i .junk)))).kill s 1 else pf):=by simp[exV,h]
@[go_sem] theorem zNW {t:Tmp}:exO pf (.tmp t)=match pf t with
 | .rf s []=>exR s (pf s)
 |y=>exR t y:=rfl
@[go_sem] theorem zRB {s:Nat}{xs:List PV}:exR s (.v (.tup xs))=some (s,xs):=(rfl)
@[go_sem ↓] theorem zBw {ty:TypeId}{x:Operand}{i:Nat}{d:Option Tmp}:pw1 P c co ty (.extract x i) d k Q pf=qv P c co ((exO pf x).bind fun a=>if a.1<co.nt then exV pf a.1 a.2 i a.2[i]? else none) d k Q:=by
 show zig co x i d (pw P c k Q) pf=_
 unfold zig
 cases exO pf x with
 |none=>rfl
 |some a=>
  obtain⟨s,xs⟩:=a
  simp only[Option.bind_some]
  by_cases h:s<co.nt
  ·rw[if_pos h]
   simp only[h,true_and]
   cases xs[i]? with
   |none=>rfl
   |some y=>
    cases hj:isJ y
    ·cases ho:zay y<;>simp[pex,exV,hj,ho,qv]
    ·simp[pex,exV,hj,qv]
  ·rw[if_neg h];simp[h,qv]
def slE (es t:Nat) (pf:PFr) (l h m:Option (Option Nat)):Option (PF×PFr):=
 match l,h,m with
 |some l,some h,some none=>(slF es (l.getD 0) h pf t (pf t)).map fun y=>(y,pf)
 |some l,some (some h),some (some m)=>((zbd pf (pf t)).bind lenV).bind fun rows=>(slF es (l.getD 0) (some h) pf t (pf t)).bind fun _=>if l.getD 0=h∧h=m∧m≤rows.length then some (.v (.sl true es []),pf)else none
 |_,_,_=>none
@[go_sem] theorem zE3 {es t:Nat}{l h:Option Nat}:slE es t pf (some l) (some h) (some none)=(slF es (l.getD 0) h pf t (pf t)).map fun y=>(y,pf):=by cases h<;>rfl
@[go_sem] theorem zCv {es t:Nat}{l:Option Nat}{h m:Nat}:slE es t pf (some l) (some (some h)) (some (some m))=((zbd pf (pf t)).bind lenV).bind fun rows=>(slF es (l.getD 0) (some h) pf t (pf t)).bind fun _=>if l.getD 0=h∧h=m∧m≤rows.length then some (.v (.sl true es []),pf)else none:=(rfl)
theorem zyL {es t:Nat}{d:Option Tmp}{l h m:Option (Option Nat)}:zoW co es t d (pw P c k Q) pf l h m=qv P c co (slE es t pf l h m) d k Q:=by
 cases l with
 |none=>rfl
 |some l=>
  cases h with
  |none=>rfl
  |some h=>
   cases m with
   |none=>rfl
   |some m=>
    cases m with
    |none=>
     rw[zE3]
     cases h<;>simp only[zoW]<;>cases slF es (l.getD 0) _ pf t (pf t)<;>rfl
    |some m=>
     cases h with
     |none=>rfl
     |some h=>
      rw[zCv]
      simp only[zoW]
      cases (zbd pf (pf t)).bind lenV with
      |none=>rfl
      |some rows=>
       simp only[Option.bind_some]
       cases slF es (l.getD 0) (some h) pf t (pf t)with
       |none=>simp[qv]
       |some y=>
        by_cases hh:l.getD 0=h∧h=m∧m≤rows.length
        ·simp[hh,qv]
        ·simp[hh,qv]
@[go_sem ↓] theorem zFO {ty t:TypeId}{x:Tmp}{l h m:Option Operand}{d:Option Tmp}(hs:zaE P t=false):pw1 P c co ty (.slice t (.tmp x) l h m) d k Q pf=qv P c co ((esz P t).bind fun es=>slE es x pf (rdB pf l) (rdB pf h) (rdB pf m)) d k Q:=by
 show(if zaE P t=true then zeK P co ⟨d,.slice t (.tmp x) l h m,ty, "",#[],none⟩ (pw P c k Q) pf else zkN P co t (.tmp x) l h m d (pw P c k Q) pf)=_
 rw[if_neg (by simp[hs])]
 unfold zkN
 cases esz P t with
 |none=>rfl
 |some es=>exact zyL
def qln (P:Program) (c co:Cfg) (x:Option (List (List PV))) (d:Option Tmp) (k:List PIt) (Q:Exit→PFr→Prop) (pf:PFr):Prop:=
 match x with
 |some rows=>rows.length≤zcQ→qv P c co (some (.v (.int .i64 rows.length),pf)) d k Q
 |none=>False
theorem zwb {x x':Option (List (List PV))}{d:Option Tmp}(h:x=x'):qln P c co x d k Q pf=qln P c co x' d k Q pf:=by rw[h]
attribute [congr] zwb
def qlm (P:Program) (c co:Cfg) (t:TypeId) (d:Option Tmp) (k:List PIt) (Q:Exit→PFr→Prop) (pf:PFr) (x:Nat):PF→Prop
 | .ls es rows=>qln P c co ((zaz P t).bind fun _=>some rows) d k Q ((pf.upd x (.v (.sl true es rows))).kill x 0)
 |y=>qln P c co ((zaz P t).bind fun _=>(zbd pf y).bind lenV) d k Q pf
theorem zu8 {t:TypeId}{d:Option Tmp}{x:Nat}{y y':PF}(h:y=y'):qlm P c co t d k Q pf x y=qlm P c co t d k Q pf x y':=by rw[h]
attribute [congr] zu8
@[go_sem ↓] theorem zO8 {t:TypeId}{d:Option Tmp}{x es:Nat}{rows:List (List PV)}:qlm P c co t d k Q pf x (.ls es rows)=qln P c co ((zaz P t).bind fun _=>some rows) d k Q ((pf.upd x (.v (.sl true es rows))).kill x 0):=rfl
@[go_sem ↓] theorem zRw {t:TypeId}{d:Option Tmp}{x:Nat}{y:PV}:qlm P c co t d k Q pf x (.v y)=qln P c co ((zaz P t).bind fun _=>lenV y) d k Q pf:=rfl
@[go_sem ↓] theorem zOI {t:TypeId}{d:Option Tmp}{x s:Nat}{p:zad}:qlm P c co t d k Q pf x (.rf s p)=qln P c co ((zaz P t).bind fun _=>(zbd pf (.rf s p)).bind lenV) d k Q pf:=rfl
@[go_sem ↓] theorem zP7 {t:TypeId}{d:Option Tmp}{x s lo hi:Nat}{p:zad}:qlm P c co t d k Q pf x (.rv s p lo hi)=qln P c co ((zaz P t).bind fun _=>(zbd pf (.rv s p lo hi)).bind lenV) d k Q pf:=rfl
@[go_sem ↓] theorem zNN {ty t:TypeId}{x:Tmp}{d:Option Tmp}(hs:zaE P t=false):pw1 P c co ty (.call ⟨.builtin .len,#[.tmp x],#[t]⟩) d k Q pf=qlm P c co t d k Q pf x (pf x):=by
 show(if zaE P t=true then zeK P co ⟨d,.call ⟨.builtin .len,#[.tmp x],#[t]⟩,ty, "",#[],none⟩ (pw P c k Q) pf else zno P co t (.tmp x) d (pw P c k Q) pf)=_
 rw[if_neg (by simp[hs])]
 unfold zno qlm
 cases hpt:pf x with
 |ls es rows=>
  have:((pf.upd x (.v (.sl true es rows))).kill x 0) x=.v (.sl true es rows):=by simp[PFr.kill,PFr.upd,zaT,zam]
  simp only[lsM,hpt,this,zbd,lenV,Option.bind_some,qln,qv]
  cases zaz P t<;>rfl
 |_=>
  simp only[lsM,hpt,qln,qv]
  generalize (zaz P t).bind (fun _=>(zbd pf _).bind lenV)=o
  cases o<;>rfl
@[go_sem] theorem zME {t:TypeId}{x:Operand}{s:ByteArray}(hs:zaE P t=true):zbe P (.call ⟨.builtin .len,#[x],#[t]⟩) [.string s]=some (.int .i64 s.size):=by simp[zbe,Am.lenV,hs]
@[go_sem ↓] theorem zHU {ty t:TypeId}{x:Operand}{d:Option Tmp}(hs:zaE P t=true):pw1 P c co ty (.call ⟨.builtin .len,#[x],#[t]⟩) d k Q pf=qv P c co (ev1 (fun v=>zbe P (.call ⟨.builtin .len,#[x],#[t]⟩) [v]) (rdS pf x) pf) d k Q:=by
 show(if zaE P t=true then zeK P co ⟨d,.call ⟨.builtin .len,#[x],#[t]⟩,ty, "",#[],none⟩ (pw P c k Q) pf else zno P co t x d (pw P c k Q) pf)=_
 rw[if_pos hs]
 refine zhk (o:=⟨d,.call ⟨.builtin .len,#[x],#[t]⟩,ty, "",#[],none⟩) ?_
 simp only[zbj,zhO,Option.bind_some]
 cases rdS pf x<;>simp[ev1]
def apE (P:Program) (t:TypeId) (s x:Operand) (pf:PFr):Option (PF×PFr):=
 (ez P t).bind fun z=>(zbq z.1 pf s).bind fun b=>(bsR z.1 b.1).bind fun rows=>(srO z.1 b.2 x).bind fun r=>
   if zew r.1=true∧(rows.length+r.1.length)*z.2.1≤140737488355328∧rows.length+r.1.length≤4611686018427387904 then some (.v (.sl true z.1 (rows++r.1)),r.2)else none
@[go_sem] theorem zQa {t:TypeId}{s x:Operand}:apE P t s x pf=(ez P t).bind fun z=>(zbq z.1 pf s).bind fun b=>(bsR z.1 b.1).bind fun rows=>(srO z.1 b.2 x).bind fun r=>
 if zew r.1=true∧(rows.length+r.1.length)*z.2.1≤140737488355328∧rows.length+r.1.length≤4611686018427387904 then some (.v (.sl true z.1 (rows++r.1)),r.2)else none:=rfl
@[go_sem ↓] theorem zEC {ty t:TypeId}{s x:Operand}{d:Option Tmp}:pw1 P c co ty (.call ⟨.builtin .append,#[s,x],#[t,t]⟩) d k Q pf=qv P c co (apE P t s x pf) d k Q:=by
 show(if t=t then zoM P co t s x d (pw P c k Q) pf else zoC P co t t s x d (pw P c k Q) pf)=_
 rw[if_pos rfl]
 unfold zoM apE
 cases ez P t with
 |none=>rfl
 |some z=>
  simp only[Option.bind_some]
  cases zbq z.1 pf s with
  |none=>rfl
  |some b=>
   obtain⟨b,pf1⟩:=b
   simp only[Option.bind_some,zp5]
   cases bsR z.1 b with
   |none=>rfl
   |some rows=>
    simp only[Option.bind_some]
    cases srO z.1 pf1 x with
    |none=>rfl
    |some r=>
     obtain⟨rows2,pf2⟩:=r
     simp only[Option.bind_some,zqd]
     by_cases h:zew rows2=true∧(rows.length+rows2.length)*z.2.1≤140737488355328∧rows.length+rows2.length≤4611686018427387904
     ·rw[if_pos h]
      simp only[h.1,h.2.1,h.2.2,true_and,qv]
     ·rw[if_neg h]
      simp only[qv,eq_iff_iff,iff_false]
      rintro⟨a1,a2,_⟩
      exact h ⟨a1,a2⟩
theorem zy6 {ty t:TypeId}{g:FuncId}{x:Operand}{ts:Array TypeId}{d:Option Tmp}{n:Int}{z:Nat×Nat×List PV}(h:zuo P g t) (hz:ez P t=some z) (hn:rdS pf x=some (.int .i64 n)) (hb:0≤n∧z.2.1*n≤140737488355328∧n≤4611686018427387904)
 (hk:qv P c co (some (.v (.sl true z.1 []),pf)) d k Q):pw1 P c co ty (.call ⟨.value (.func g),#[.const (.slice none 0 0),x],ts⟩) d k Q pf:=.inr (.inl ⟨g,x,t,n,z,rfl,rfl,h,hn,hz,hb,hk⟩)
theorem zyW {ty:TypeId}{f:Operand}{args:Array Operand}{ts:Array TypeId}{d:Option Tmp}(ms:List Md) {l:List (Md×Nat×Operand)}{ys:List PV}{pf1:PFr}{g:FuncId}{xs us:List PV}{as as':List (Md×PV)}
 {R:PV→List PV→Prop}(hm:ms.length=args.toList.length) (hl:ms.zip (zdz P args.toList ts.toList)=l) (ha:zhU pf l=some (ys,pf1)) (hf:fnO pf1 f=some (g,xs,us)) (hc:cargs pf1 l ys=some as)
 (has:xs.map (fun x=>(Md.sh,x))++as++us.map (fun x=>(Md.sh,x))=as') (h:PCalls P g as' R)
 (hk:∀r outs,R r outs→(l.any (zhE pf1)=false∨(zaU r&&outs.all zaU)=true)∧qv P c co ((back co.nt pf1 l (outs.drop xs.length)).map fun p=>(.v r,p)) d k Q):pw1 P c co ty (.call ⟨.value f,args,ts⟩) d k Q pf:=by
 refine .inl ⟨ms,hm,?_⟩
 rw[hl,ha]
 show zis P co d (pw P c k Q) pf1 l (fnO pf1 f) (cargs pf1 l ys)
 rw[hf,hc]
 show PCalls P g _ _
 rw[has]
 refine h.mono fun r outs hr=>?_
 obtain⟨h1,h2⟩:=hk r outs hr
 refine⟨h1,?_⟩
 cases hb:back co.nt pf1 l (outs.drop xs.length)with
 |none=>rw[hb]at h2;exact h2
 |some p=>rw[hb]at h2;exact h2
theorem zym {id:Nat}{ops:Array Oper}(D:List DE) {L:List (DE×Oper)}(h1:P.follows .mixedOrders=true) (h2:zjG D ops.toList=true) (hL:D.map (fun x=>(x,ops.toList.getD x.i default))=L)
 (h:pw P c (.dops (ops.toList.map (·.dst)) L::k) Q pf):pw P c (.code (.region id ops true)::k) Q pf:=by
 subst hL
 exact⟨h1,0,D,h2,h⟩
theorem zxh {id:Nat}{ops:Array Oper}(a b:Nat) (D D':List DE) {L L':List (DE×Oper)}(h1:P.follows .mixedOrders=true) (hab:a≠b) (h2:zjG D ops.toList [(a,b)]=true) (h2':zjG D' ops.toList [(b,a)]=true) (hL:D.map (fun x=>(x,ops.toList.getD x.i default))=L) (hL':D'.map (fun x=>(x,ops.toList.getD x.i default))=L')
 (h:pw P c (.dops (ops.toList.map (·.dst)) L::k) Q pf) (h':pw P c (.dops (ops.toList.map (·.dst)) L'::k) Q pf):pw P c (.code (.region id ops true)::k) Q pf:=by
 subst hL
 subst hL'
 exact⟨h1,1,a,b,hab,⟨D,h2,h⟩,⟨D',h2',h'⟩⟩
def zxZ (D:List DE) (ops:List Oper):List (Nat×Nat)→List (Nat×Nat)→Bool
 |[],xs=>zjG D ops xs
 |p::ps,xs=>zxZ D ops ps ((p.1,p.2)::xs)&&zxZ D ops ps ((p.2,p.1)::xs)
@[go_sem ↓] theorem zBM {pre:List (Option Tmp)}:pw P c (.dops pre []::k) Q pf=pw P c k Q pf:=rfl
def zbC:Op→Bool
 | .call ⟨.value _,_,_⟩=>true
 |_=>false
def pwd (P:Program) (c:Cfg) (ext:Bool) (ty:TypeId) (op:Op) (d:Option Tmp) (k:List PIt) (Q:Exit→PFr→Prop) (pf:PFr):Prop:=ziK P c ext ⟨d,op,ty, "",#[],none⟩ (pw P c k Q) pf
theorem zsI {o o':Oper}{ext:Bool}{K:PFr→Prop}(h:o.op=o'.op) (hd:o.dst=o'.dst) (ht:o.type=o'.type):ziK P c ext o K pf=ziK P c ext o' K pf:=by
 obtain⟨d,op,ty,ps,af,g⟩:=o
 obtain⟨d',op',ty',ps',af',g'⟩:=o'
 simp only at h hd ht
 subst h;subst hd;subst ht
 rfl
@[go_sem ↓] theorem zOR {pre:List (Option Tmp)}{e:DE}{d:Option Tmp}{op:Op}{ty:TypeId}{ps:String}{af:Array Edge}{l:List (DE×Oper)}(h:(zlb pf e.rg e.ls e.sl&&znE pf e.mr)=true):
 pw P c (.dops pre ((e,⟨d,op,ty,ps,af,none⟩)::l)::k) Q pf=pwd P c e.ex ty op d (.dops pre l::k) Q pf:=by
 show zpc P c pre e ⟨d,op,ty,ps,af,none⟩ (pw P c (.dops pre l::k) Q) pf=_
 simp only[zpc,h,true_and,zov]
 exact zsI rfl rfl rfl
def zeU (P:Program) (c:Cfg) (y:Option (Option Bool)) (b:Bool) (ext:Bool) (ty:TypeId) (op:Op) (d:Option Tmp) (k:List PIt) (Q:Exit→PFr→Prop) (pf:PFr):Prop:=
 pgo c b d (pwd P c ext ty op d k Q pf) (pw P c k Q) pf y
theorem ztV {y y':Option (Option Bool)}{b ext:Bool}{ty:TypeId}{op:Op}{d:Option Tmp}(h:y=y'):zeU P c y b ext ty op d k Q pf=zeU P c y' b ext ty op d k Q pf:=by rw[h]
attribute [congr] ztV
@[go_sem ↓] theorem zMl {pre:List (Option Tmp)}{e:DE}{d:Option Tmp}{op:Op}{ty:TypeId}{ps:String}{af:Array Edge}{j:Nat}{b:Bool}{l:List (DE×Oper)}(h:(zlb pf e.rg e.ls e.sl&&znE pf e.mr)=true):
 pw P c (.dops pre ((e,⟨d,op,ty,ps,af,some (j,b)⟩)::l)::k) Q pf=zeU P c (ygP pf pre[j]?) b e.ex ty op d (.dops pre l::k) Q pf:=by
 show zpc P c pre e ⟨d,op,ty,ps,af,some (j,b)⟩ (pw P c (.dops pre l::k) Q) pf=_
 simp only[zpc,h,true_and,zov]
 unfold zeU pwd
 rw[zsI (o:=⟨d,op,ty,ps,af,some (j,b)⟩) (o':=⟨d,op,ty, "",#[],none⟩) rfl rfl rfl]
@[go_sem ↓] theorem zLY {ext:Bool}{ty:TypeId}{op:Op}{d:Option Tmp}:zeU P c (some (some true)) true ext ty op d k Q pf=pwd P c ext ty op d k Q pf:=by simp[zeU,pgo]
@[go_sem ↓] theorem zMq {ext:Bool}{ty:TypeId}{op:Op}{d:Option Tmp}:zeU P c (some (some false)) false ext ty op d k Q pf=pwd P c ext ty op d k Q pf:=by simp[zeU,pgo]
@[go_sem ↓] theorem zNC {ext:Bool}{ty:TypeId}{op:Op}{d:Tmp}(h:ckd c d .skip=true):zeU P c (some (some true)) false ext ty op (some d) k Q pf=pw P c k Q (pf.put d .skip):=by simp[zeU,pgo,zil,h]
@[go_sem ↓] theorem zNA {ext:Bool}{ty:TypeId}{op:Op}{d:Tmp}(h:ckd c d .skip=true):zeU P c (some (some false)) true ext ty op (some d) k Q pf=pw P c k Q (pf.put d .skip):=by simp[zeU,pgo,zil,h]
@[go_sem ↓] theorem zPl {ext b:Bool}{ty:TypeId}{op:Op}{d:Tmp}(h:ckd c d .skip=true):zeU P c (some none) b ext ty op (some d) k Q pf=pw P c k Q (pf.put d .skip):=by simp[zeU,pgo,zil,h]
theorem zt9 {y b ext:Bool}{ty:TypeId}{op:Op}{d:Option Tmp}(h1:y=true→zeU P c (some (some true)) b ext ty op d k Q pf) (h2:y=false→zeU P c (some (some false)) b ext ty op d k Q pf):zeU P c (some (some y)) b ext ty op d k Q pf:=by
 cases y
 ·exact h2 rfl
 ·exact h1 rfl
@[go_sem ↓] theorem zP8 {ext:Bool}{ty:TypeId}{op:Op}{d:Option Tmp}(hc:zbC op=false) (he:(!ext||zcD op)=true):pwd P c ext ty op d k Q pf=pw1 P c c.nohp ty op d k Q pf:=by
 have he':ext=true→zcD op=true:=by intro h;subst h;simpa using he
 unfold pwd ziK pw1
 split
 ·simp_all [zbC]
 ·simp only[eq_iff_iff]
  exact⟨fun h=>h.2,fun h=>⟨he',h⟩⟩
@[go_sem] theorem zSD {i:Nat}{sl rg:List Nat}{mr:Option Nat}{ls a b:Bool}:DE.ex ⟨i,sl,rg,mr,ls,a,b⟩=(a&& !b):=(rfl)
@[go_sem ↓] theorem zPL {ty:TypeId}{f:Operand}{args:Array Operand}{ts:Array TypeId}{d:Option Tmp}:pwd P c false ty (.call ⟨.value f,args,ts⟩) d k Q pf=pw1 P c c.nohp ty (.call ⟨.value f,args,ts⟩) d k Q pf:=by
 unfold pwd ziK pw1
 simp
theorem zwX {ty:TypeId}{f:Operand}{args:Array Operand}{ts:Array TypeId}{d:Option Tmp}{l:List (Md×Nat×Operand)}{ys:List PV}{pf1:PFr}{g:FuncId}{xs us:List PV}{as as':List (Md×PV)}
 {R:PV→List PV→Prop}(hl:(List.replicate args.toList.length Md.sh).zip (zdz P args.toList ts.toList)=l) (ha:zhU pf l=some (ys,pf1)) (hf:fnO pf1 f=some (g,xs,us)) (hc:cargs pf1 l ys=some as)
 (has:xs.map (fun x=>(Md.sh,x))++as++us.map (fun x=>(Md.sh,x))=as') (h:PCalls P g as' R)
 (hk:∀r outs,R r outs→(l.any (zhE pf1)=false∨(zaU r&&outs.all zaU)=true)∧qv P c c ((back c.nt pf1 l (outs.drop xs.length)).map fun p=>(.v r,p)) d k Q):pwd P c true ty (.call ⟨.value f,args,ts⟩) d k Q pf:=by
 refine⟨by simp,?_⟩
 rw[hl,ha]
 show zis P c d (pw P c k Q) pf1 l (fnO pf1 f) (cargs pf1 l ys)
 rw[hf,hc]
 show PCalls P g _ _
 rw[has]
 refine h.mono fun r outs hr=>?_
 obtain⟨h1,h2⟩:=hk r outs hr
 refine⟨h1,?_⟩
 cases hb:back c.nt pf1 l (outs.drop xs.length)with
 |none=>rw[hb]at h2;exact h2
 |some p=>rw[hb]at h2;exact h2
theorem zr8 {f:FuncId}{fn:Func}{code:Code}{as:List (Md×PV)}{R:PV→List PV→Prop}(fz hp:List Nat) (hc:zac P f) (hf:P.funcs[f]? =some fn) (hb:fn.body=some code) (hlen:as.length≤fn.ntmps)
 (h:pw P ⟨fn.ntmps,ioL 0 as,fz,hp⟩ [.code code] (zjM P fn.results.toList as R) (zha as)):PCalls P f as R:=by
 refine zqg (fz:=fz) (hp:=hp) hc hf hb hlen ?_
 have e:zbT P ⟨fn.ntmps,ioL 0 as,fz,hp⟩ [] (zjM P fn.results.toList as R)=zjM P fn.results.toList as R:=by funext e;cases e<;>rfl
 have h':pwp P ⟨fn.ntmps,ioL 0 as,fz,hp⟩ code (zbT P ⟨fn.ntmps,ioL 0 as,fz,hp⟩ [] (zjM P fn.results.toList as R)) (zha as):=h
 rwa [e]at h'
@[go_sem] theorem zKj {rs:List ResultVar}{as:List (Md×PV)}{R:PV→List PV→Prop}:zjM P rs as R .ret pf=zmE as R (zhJ P pf rs):=(rfl)
@[go_sem] theorem zBy {rs:List ResultVar}{as:List (Md×PV)}{R:PV→List PV→Prop}:zjM P rs as R .normal pf=zmE as R (zhJ P pf rs):=(rfl)
@[go_sem] theorem zDx {as:List (Md×PV)}{R:PV→List PV→Prop}{x:List PV}:zmE as R (some (x,pf))=R (zqA x) (zfW pf 0 as):=(rfl)
@[go_sem] theorem zFB:zhJ P pf []=some ([],pf):=(rfl)
@[go_sem] theorem zEz {x:ResultVar}{xs:List ResultVar}:zhJ P pf (x::xs)=(zk0 P pf x).bind fun a=>(zhJ P a.2 xs).map fun b=>(a.1::b.1,b.2):=(rfl)
@[go_sem] theorem zFw {t:Tmp}:zk0 P pf (.tmp t)=if zh9 (pf t)=true then none else zeI pf t (pf t):=(rfl)
@[go_sem] theorem zEM {t:Tmp}{ty:TypeId}:zk0 P pf (.cell t ty)=zmH pf t (pf t) (tk P ty):=(rfl)
@[go_sem] theorem zM9 {t sz:Nat}{row:List PV}:zmH pf t (.bl row) (some (true,sz))=if sz=row.length then some (.agg row,(pf.upd t jP).kill t 0)else none:=by cases row<;>rfl
@[go_sem] theorem zNJ {t sz:Nat}{x:PV}{row:List PV}:zmH pf t (.bl (x::row)) (some (false,sz))=some (x,(pf.upd t jP).kill t 0):=(rfl)
@[go_sem] theorem zOi {x:PV}:zh9 (.v x)=false:=(rfl)
@[go_sem] theorem zKW {s:Nat}{p:zad}:zh9 (.rf s p)=false:=(rfl)
@[go_sem] theorem zLP {s lo hi:Nat}{p:zad}:zh9 (.rv s p lo hi)=false:=(rfl)
@[go_sem] theorem zNI {s i j n:Nat}{p:zad}:zh9 (.ra s p i j n)=false:=(rfl)
@[go_sem] theorem zKP {es:Nat}{rows:List (List PV)}:zh9 (.ls es rows)=true:=(rfl)
@[go_sem] theorem zMB {s i j:Nat}{p:zad}:zh9 (.pt s p i j)=false:=(rfl)
@[go_sem] theorem zNr {row:List PV}:zh9 (.bl row)=false:=(rfl)
@[go_sem] theorem zLc {t:Tmp}:lsO pf (.tmp t)=zh9 (pf t):=(rfl)
@[go_sem] theorem zFD {v:Value}:lsO pf (.const v)=false:=(rfl)
@[go_sem] theorem zIq {g:FuncId}:lsO pf (.func g)=false:=(rfl)
@[go_sem] theorem zJA:zqA []=.junk:=(rfl)
@[go_sem] theorem zKe {x:PV}:zqA [x]=x:=(rfl)
@[go_sem] theorem zGM {x y:PV}{l:List PV}:zqA (x::y::l)=.tup (x::y::l):=(rfl)
@[go_sem] theorem zG4 {n:Nat}:zfW pf n []=[]:=(rfl)
@[go_sem] theorem zL2 {n:Nat}{x:PV}{l:List (Md×PV)}:zfW pf n ((.io,x)::l)=ztK (pf n)::zfW pf (n+1) l:=(rfl)
@[go_sem] theorem zNn {n:Nat}{x:PV}{l:List (Md×PV)}:zfW pf n ((.sh,x)::l)=.junk::zfW pf (n+1) l:=(rfl)
@[go_sem] theorem zN0 {n:Nat}{x:PV}{l:List (Md×PV)}:zfW pf n ((.mv,x)::l)=.junk::zfW pf (n+1) l:=(rfl)
@[go_sem] theorem zPr {x:PV}:ztK (.v x)=x:=(rfl)
@[go_sem] theorem zMf {n:Nat}:ioL n []=[]:=(rfl)
@[go_sem] theorem zOH {n:Nat}{x:PV}{l:List (Md×PV)}:ioL n ((.io,x)::l)=n::ioL (n+1) l:=(rfl)
@[go_sem] theorem zN9 {n:Nat}{x:PV}{l:List (Md×PV)}:ioL n ((.sh,x)::l)=ioL (n+1) l:=(rfl)
@[go_sem] theorem zOk {n:Nat}{x:PV}{l:List (Md×PV)}:ioL n ((.mv,x)::l)=ioL (n+1) l:=(rfl)
end
end Go.Pm
