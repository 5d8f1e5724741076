import Derived.Test.YthafgjhkjgcdeaaGreatPmT
namespace Go.Pm
open Go.Am
section
variable {P:Program}{c co:Cfg}{k:List PIt}{Q:Exit→PFr→Prop}{pf:PFr}
attribute [go_sem] Option.bind_some Option.bind_none Option.map_some Option.map_none Option.getD_some Option.getD_none
def orE:Option (PF×PFr)→Option (PF×PFr)→Option (PF×PFr)
 |some a,_=>some a
 |none,y=>y
theorem zuo {a b c:Option (PF×PFr)}(h:a=b):orE a c=orE b c:=by rw[h]
@[go_sem ↓] theorem zFl {a:PF×PFr}{y:Option (PF×PFr)}:orE (some a) y=some a:=rfl
@[go_sem ↓] theorem zHt {y:Option (PF×PFr)}:orE none y=y:=rfl
def tkA:Option PF→PFr→Option (PF×PFr)→Option (PF×PFr)
 |some y,pf,_=>some (y,pf)
 |none,_,x=>x
theorem zue {a b:Option PF}{pf:PFr}{x:Option (PF×PFr)}(h:a=b):tkA a pf x=tkA b pf x:=by rw[h]
@[go_sem ↓] theorem zHQ {y:PF}{x:Option (PF×PFr)}:tkA (some y) pf x=some (y,pf):=rfl
@[go_sem ↓] theorem zGu {x:Option (PF×PFr)}:tkA none pf x=x:=rfl
attribute [congr] zuo zue
@[go_sem ↓] theorem zFX {ty t:TypeId}{a:Operand}{d:Option Tmp}:pw1 P c co ty (.load t a) d k Q pf=qv P c co (orE (((tk P t).bind fun tz=>(adr pf a).bind (ldA tz pf)).map fun y=>(y,pf)) ((zpU P t pf a).map fun y=>(y,pf))) d k Q:=by
 show zlP P co t a d (pw P c k Q) pf=_
 unfold zlP
 cases (tk P t).bind fun tz=>(adr pf a).bind (ldA tz pf)with
 |some y=>rfl
 |none=>cases zpU P t pf a<;>rfl
theorem zt5 {d:Option Tmp}{x:Option AD}:pad co (pw P c k Q) d pf x=qv P c co (x.map fun ad=>(zjF ad,pf)) d k Q:=by cases x<;>rfl
@[go_sem ↓] theorem zEK {ty s:TypeId}{x:Operand}{f:Nat}{d:Option Tmp}:pw1 P c co ty (.fieldAddr s x f) d k Q pf=qv P c co (((za5 P s f).bind fun o=>(adr pf x).bind (ziq o.1)).map fun ad=>(zjF ad,pf)) d k Q:=zt5
@[go_sem ↓] theorem zzK {ty:TypeId}{x:Operand}{d:Option Tmp}:pw1 P c co ty (.nilCheck x) d k Q pf=qv P c co ((adr pf x).map fun ad=>(zjF ad,pf)) d k Q:=zt5
@[go_sem] theorem zPx {t:TypeId}{x i:Operand}{es:Nat}(h:esz P t=some es):ixE P t x i pf=(sbO pf x).bind (ixS es (rdS pf i)):=by simp[ixE,h]
@[go_sem] theorem zPm {t:TypeId}{x i:Operand}{z:Nat×Nat}(h:asz P t=some z) (h0:esz P t=none):ixE P t x i pf=(adr pf x).bind (ixA z.1 z.2 (rdS pf i)):=by simp[ixE,h,h0]
@[go_sem ↓] theorem zxI {ty t:TypeId}{x i:Operand}{d:Option Tmp}:pw1 P c co ty (.indexAddr t x i) d k Q pf=qv P c co (orE ((ixE P t x i pf).map fun ad=>(zjF ad,pf)) (zol P t x i pf)) d k Q:=by
 show zj5 P co t x i d (pw P c k Q) pf=_
 unfold zj5
 cases ixE P t x i pf with
 |some ad=>rfl
 |none=>cases zol P t x i pf<;>rfl
@[go_sem] theorem zMX {t:TypeId}{u:Nat}{i:Operand}:zol P t (.tmp u) i pf=zpe P t u pf (pf u) (rdS pf i):=(rfl)
@[go_sem] theorem zGw {t:TypeId}{u s i j n:Nat}{p:zad}{kk:IntKind}{q:Int}:zpe P t u pf (.as false s p i j n) (some (.int kk q))=if esz P t=some 1∧0≤q∧q<n then some (.as true s p i (j+q.toNat) 1,pf.put u jP)else none:=(rfl)
@[go_sem] theorem zNI {t:TypeId}{u:Nat}:zpU P t pf (.tmp u)=(tk P t).bind fun tz=>if tz.1=false then zpf (pf u)else none:=(rfl)
@[go_sem] theorem zIv {s i j n:Nat}{p:zad}:zpf (.as true s p i j n)=some (.rf s (p++[(i,j)])):=(rfl)
@[go_sem] theorem zMJ {t:Nat}{b:Bool}{s i j n:Nat}{p:zad}:adF pf t (.as b s p i j n)=none:=(rfl)
@[go_sem] theorem zNt {t:Nat}{b:Bool}{s i j n:Nat}{p:zad}:sbF pf t (.as b s p i j n)=none:=(rfl)
@[go_sem] theorem zK6 {c:Cfg}{d:Nat}(h:c.fz=[]):mkd c d=false:=by simp[mkd,h]
@[go_sem] theorem zOn {c:Cfg}{d:Nat}:mkd c d=c.fz.contains (d+2*c.nt):=(rfl)
@[go_sem] theorem zKB {s:Nat}{p:zad}:zm1 (.rf s p)=some (s,p):=(rfl)
@[go_sem] theorem zFa {o:Bool}{es:Nat}{rows:List (List PV)}:zpm (some (.sl o es rows))=true:=(rfl)
@[go_sem] theorem zHi {s i j q:Nat}{p:zad}:zkL pf s p i j q []=true:=(rfl)
@[go_sem] theorem zE3 {s i j q q':Nat}{t:Tmp}{p:zad}{r:List (Nat×Operand)}:zkL pf s p i j q ((q',.tmp t)::r)=if q'=q∧zm1 (pf t)=some (s,p++[(i,j+q)])∧zpm (zaH pf s (p++[(i,j+q)]))=true then zkL pf s p i j (q+1) r else false:=(rfl)
@[go_sem] theorem zDd {a:Nat×Nat}:zfd [a]=some ([],a.1,a.2):=(rfl)
@[go_sem] theorem zDF {a b:Nat×Nat}{r:zad}:zfd (a::b::r)=(zfd (b::r)).map fun x=>(a::x.1,x.2):=(rfl)
@[go_sem] theorem zNh {q:Nat}{t:Tmp}{r:List (Nat×Operand)}:zoG pf ((q,.tmp t)::r)=(zm1 (pf t)).bind fun x=>(zfd x.2).map fun y=>(x.1,y):=(rfl)
@[go_sem] theorem zLZ {t:TypeId}{len:Nat}{ps:List (Nat×Operand)}:zpW P t len ps pf=(ez P t).bind fun z=>(zoG pf ps).bind fun a=>if z.1=1∧len≤2^24∧ps.length=len∧zkL pf a.1 a.2.1 a.2.2.1 a.2.2.2 0 ps=true then some (.as false a.1 a.2.1 a.2.2.1 a.2.2.2 len)else none:=(rfl)
def stA (pf:PFr) (cells:List PV):AD→Option PFr
 | .pl s p i j=>zel pf s p i j cells
 |_=>none
def stE (P:Program) (t:TypeId) (a x:Operand) (pf:PFr):Option PFr:=
 (tk P t).bind fun tz=>(zbw (ezT P t) pf x).bind fun y=>if zoi tz.2 y.1=true then(adr y.2 a).bind (stA y.2 (zaE y.1))else none
@[go_sem] theorem zNa {t:TypeId}{a x:Operand}:stE P t a x pf=(tk P t).bind fun tz=>(zbw (ezT P t) pf x).bind fun y=>if zoi tz.2 y.1=true then(adr y.2 a).bind (stA y.2 (zaE y.1))else none:=(rfl)
@[go_sem ↓] theorem zEF {ty t:TypeId}{a x:Operand}:pw1 P c co ty (.store t a x) none k Q pf=qf P c (stE P t a x pf) k Q:=by
 show zj4 P co t a x none (pw P c k Q) pf=_
 unfold zj4 stE
 cases tk P t with
 |none=>rfl
 |some tz=>
  cases zbw (ezT P t) pf x with
  |none=>rfl
  |some y=>
   obtain⟨y,pf1⟩:=y
   obtain⟨b,sz⟩:=tz
   simp only[Option.bind_some]
   by_cases h:zoi sz y=true
   ·rw[if_pos h]
    cases ha:adr pf1 a with
    |none=>simp[ziN,qf]
    |some ad=>cases ad with
     |pl s p i j=>cases hp:zel pf1 s p i j (zaE y)<;>simp[ziN,qf,h,stA,hp]
     |fz row=>simp[ziN,qf,stA]
   ·rw[if_neg h];simp[qf,h]
def alE (P:Program) (co:Cfg) (e:TypeId) (d:Nat) (pf:PFr):Option PFr:=
 (zr P e).bind fun z=>if ckd co d .skip=true then some (if co.hp.contains d=true then pf.put d (.v (.bx z))else pf.put d (.bl z))else none
@[go_sem] theorem zPc {e:TypeId}{d:Nat}{z:List PV}(h:zr P e=some z) (h1:ckd co d .skip=true) (h2:co.hp.contains d=true):alE P co e d pf=some (pf.put d (.v (.bx z))):=by unfold alE;rw[h,Option.bind_some,if_pos h1,if_pos h2]
@[go_sem] theorem zPr {e:TypeId}{d:Nat}{z:List PV}(h:zr P e=some z) (h1:ckd co d .skip=true) (h2:co.hp.contains d=false):alE P co e d pf=some (pf.put d (.bl z)):=by unfold alE;rw[h,Option.bind_some,if_pos h1,if_neg (by rw[h2];simp)]
@[go_sem ↓] theorem zD6 {ty e:TypeId}{d:Tmp}:pw1 P c co ty (.alloc e) (some d) k Q pf=qf P c (alE P co e d pf) k Q:=by
 show zjT P co e (some d) (pw P c k Q) pf=_
 unfold zjT alE
 cases zr P e with
 |none=>rfl
 |some z=>
  simp only[Option.bind_some]
  by_cases h:ckd co d .skip=true
  ·rw[if_pos h]
   by_cases h2:co.hp.contains d=true
   ·simp only[h,h2,qf,if_true,true_and]
   ·simp only[h,h2,qf,true_and];simp
  ·rw[if_neg h];simp[qf,h]
def bxE (P:Program) (co:Cfg) (e:TypeId) (x:Operand) (d:Nat) (pf:PFr):Option PFr:=
 (tk P e).bind fun _=>(zbw (ezT P e) pf x).bind fun y=>if(!lsO pf x&&zcm y.1&&ckd co d .skip)=true then some (if co.hp.contains d=true then(if co.fz.contains d=true then(y.2.put d (.v (.bx (zaE y.1)))).put d (.v (drop (.bx (zaE y.1))))else y.2.put d (.v (.bx (zaE y.1))))else y.2.put d (.bl (zaE y.1)))else none
@[go_sem] theorem zMQ {e:TypeId}{x:Operand}{d:Nat}:bxE P co e x d pf=(tk P e).bind fun _=>(zbw (ezT P e) pf x).bind fun y=>if(!lsO pf x&&zcm y.1&&ckd co d .skip)=true then some (if co.hp.contains d=true then(if co.fz.contains d=true then(y.2.put d (.v (.bx (zaE y.1)))).put d (.v (drop (.bx (zaE y.1))))else y.2.put d (.v (.bx (zaE y.1))))else y.2.put d (.bl (zaE y.1)))else none:=(rfl)
@[go_sem ↓] theorem zKZ {ty e:TypeId}{x:Operand}{d:Tmp}:pw1 P c co ty (.box e x) (some d) k Q pf=qf P c (bxE P co e x d pf) k Q:=by
 show zn8 P co e x (some d) (pw P c k Q) pf=_
 unfold zn8 bxE
 cases tk P e with
 |none=>rfl
 |some z=>
  cases zbw (ezT P e) pf x with
  |none=>rfl
  |some y=>
   obtain⟨y,pf1⟩:=y
   simp only[Option.bind_some]
   by_cases h:(!lsO pf x&&zcm y&&ckd co d .skip)=true
   ·rw[if_pos h]
    simp only[Bool.and_eq_true,Bool.not_eq_true']at h
    by_cases h2:co.hp.contains d=true
    ·by_cases h4:co.fz.contains d=true
     ·simp only[h.1.1,h.1.2,h.2,h2,h4,qf,if_true,true_and]
     ·simp only[h.1.1,h.1.2,h.2,h2,h4,qf,if_true,true_and];simp
    ·simp only[h.1.1,h.1.2,h.2,h2,qf,true_and];simp
   ·rw[if_neg h]
    simp only[qf,eq_iff_iff,iff_false]
    rintro⟨h1,h2,h3,_⟩
    exact h (by rw[h1,h2,h3];rfl)
def zvb (P:Program) (co:Cfg) (t:TypeId) (len:Nat) (ps:List (Nat×Operand)) (d:Nat) (pf:PFr):Option PFr:=
 (ez P t).bind fun z=>(zgh pf (ps.map fun p=>(zb2 P t p.1,p.2))).bind fun y=>if len*z.1≤2^24∧ckd co d .skip=true then(zgY z.1 ((ps.map (·.1)).zip (drx co d y.1)) (List.replicate len z.2.2)).map fun rows=>y.2.put d (.ls z.1 rows)else none
@[go_sem] theorem zJx {d:Nat}{xs:List PV}(h:co.fz=[]):drx co d xs=xs:=by simp[drx,h]
@[go_sem] theorem zP7 {d:Nat}{xs:List PV}:drx co d xs=if co.fz.contains (d+3*co.nt)=true then xs.map drop else xs:=(rfl)
@[go_sem] theorem zL3 {t:TypeId}{len:Nat}{ps:List (Nat×Operand)}{d:Nat}:zvb P co t len ps d pf=(ez P t).bind fun z=>(zgh pf (ps.map fun p=>(zb2 P t p.1,p.2))).bind fun y=>if len*z.1≤2^24∧ckd co d .skip=true then(zgY z.1 ((ps.map (·.1)).zip (drx co d y.1)) (List.replicate len z.2.2)).map fun rows=>y.2.put d (.ls z.1 rows)else none:=(rfl)
@[go_sem ↓] theorem zxf {ty t:TypeId}{len:Nat}{ps:Array (Nat×Operand)}{d:Tmp}:pw1 P c co ty (.buildSlice t len ps) (some d) k Q pf=if mkd co d=true then qv P c co ((zpW P t len ps.toList pf).map fun y=>(y,pf)) (some d) k Q else qf P c (zvb P co t len ps.toList d pf) k Q:=by
 show zoy P co t len ps.toList (some d) (pw P c k Q) pf=_
 unfold zoy zvb
 by_cases hm:mkd co d=true
 ·rw[if_pos hm,if_pos (show zvo co (some d)=true from hm)]
  unfold znW
  cases zpW P t len ps.toList pf<;>rfl
 rw[if_neg hm,if_neg (show¬zvo co (some d)=true from hm)]
 cases ez P t with
 |none=>rfl
 |some z=>
  cases zgh pf (ps.toList.map fun p=>(zb2 P t p.1,p.2))with
  |none=>rfl
  |some y=>
   obtain⟨xs,pf1⟩:=y
   simp only[Option.bind_some]
   by_cases h:len*z.1≤2^24∧ckd co d .skip=true
   ·rw[if_pos h]
    cases zgY z.1 ((ps.toList.map (·.1)).zip (drx co d xs)) (List.replicate len z.2.2)<;>simp only[zps,qf,h.1,h.2,true_and,and_false,Option.map_none,Option.map_some]
   ·rw[if_neg h]
    simp only[qf,eq_iff_iff,iff_false]
    rintro⟨h1,h2⟩
    cases hf:zgY z.1 ((ps.toList.map (·.1)).zip (drx co d xs)) (List.replicate len z.2.2)with
    |none=>rw[hf]at h2;exact h2
    |some r=>rw[hf]at h2;exact h ⟨h1,h2.1⟩
@[go_sem ↓] theorem zDL {ty t:TypeId}{ps:Array (Nat×Operand)}{d:Option Tmp}:pw1 P c co ty (.build t ps) d k Q pf=
 qv P c co ((zg6 P t).bind fun b=>(zgh pf (ps.toList.map fun p=>(zb2 P t p.1,p.2))).bind fun y=>(zh3 b.1 ((ps.toList.map (·.1)).zip y.1) b.2).map fun row=>(.v (.agg row),y.2)) d k Q:=by
 show zjU P co t ps.toList d (pw P c k Q) pf=_
 unfold zjU
 cases zg6 P t with
 |none=>rfl
 |some b=>
  cases zgh pf (ps.toList.map fun p=>(zb2 P t p.1,p.2))with
  |none=>rfl
  |some y=>
   simp only[Option.bind_some]
   cases zh3 b.1 ((ps.toList.map (·.1)).zip y.1) b.2<;>rfl
def pkV (b x y:Option Value):Option PV:=
 match b with
 |some (.bool true)=>x.bind zeE
 |some (.bool false)=>y.bind zeE
 |_=>none
@[go_sem ↓] theorem zHV {ty:TypeId}{b x y:Operand}{d:Option Tmp}:pw1 P c co ty (.pick b x y) d k Q pf=qv P c co ((pkV (rdS pf b) (rdS pf x) (rdS pf y)).map fun z=>(.v z,pf)) d k Q:=by
 show zl1 co b x y d (pw P c k Q) pf=_
 unfold zl1 zst pkV
 cases rdS pf b with
 |none=>rfl
 |some v=>
  cases v with
  |bool b=>
   cases b
   ·simp only[]
    cases (rdS pf y).bind zeE<;>rfl
   ·simp only[]
    cases (rdS pf x).bind zeE<;>rfl
  |_=>rfl
@[go_sem] theorem zPV {x y:Option Value}:pkV (some (.bool true)) x y=x.bind zeE:=(rfl)
@[go_sem] theorem zPO {x y:Option Value}:pkV (some (.bool false)) x y=y.bind zeE:=(rfl)
@[go_sem] theorem zLR {b:Bool}{j:IntKind}{m n:Int}:pkV (some (.bool b)) (some (.int j m)) (some (.int j n))=some (.int j (if b=true then m else n)):=by cases b<;>rfl
@[go_sem] theorem zF6 {b m n:Bool}:pkV (some (.bool b)) (some (.bool m)) (some (.bool n))=some (.bool (if b=true then m else n)):=by cases b<;>rfl
@[go_sem] theorem zKN {b:Bool}{m n:ByteArray}:pkV (some (.bool b)) (some (.string m)) (some (.string n))=some (.str (if b=true then m else n)):=by cases b<;>rfl
def mkV (b:Bool) (z:Nat×Nat×List PV) (pf:PFr):Option Value→Option Value→Option (PF×PFr)
 |some (.int .i64 n),some (.int .i64 m)=>if 0≤n∧n≤m∧z.2.1*m≤140737488355328∧m≤4611686018427387904 then some (.v (.sl true z.1 (List.replicate n.toNat (uz b z.2.2))),pf)else none
 |_,_=>none
@[go_sem] theorem zLc {b:Bool}{z:Nat×Nat×List PV}{n m:Int}:mkV b z pf (some (.int .i64 n)) (some (.int .i64 m))=if 0≤n∧n≤m∧z.2.1*m≤140737488355328∧m≤4611686018427387904 then some (.v (.sl true z.1 (List.replicate n.toNat (uz b z.2.2))),pf)else none:=(rfl)
@[go_sem] theorem zIH {d:Nat}:nzB co (some d)=co.fz.contains (d+co.nt):=(rfl)
@[go_sem] theorem zHr:nzB co none=false:=(rfl)
@[go_sem] theorem zHR {z:List PV}:uz false z=z:=(rfl)
@[go_sem] theorem zLT {z:List PV}:uz true z=z.map ud:=(rfl)
@[go_sem] theorem zPT {o:Bool}{e:Nat}:ud (.sl o e [])=.sl true e []:=(rfl)
@[go_sem] theorem zM5 {j:IntKind}{n:Int}:ud (.int j n)=.int j n:=(rfl)
@[go_sem] theorem zKi {b:Bool}:ud (.bool b)=.bool b:=(rfl)
@[go_sem] theorem zMO {b:ByteArray}:ud (.str b)=.str b:=(rfl)
@[go_sem ↓] theorem zxJ {ty t:TypeId}{l cc:Operand}{d:Option Tmp}:pw1 P c co ty (.makeSlice t l cc) d k Q pf=qv P c co ((ez P t).bind fun z=>mkV (nzB co d) z pf (rdS pf l) (rdS pf cc)) d k Q:=by
 show zlR P co t l cc d (pw P c k Q) pf=_
 unfold zlR
 cases ez P t with
 |none=>rfl
 |some z=>
  simp only[Option.bind_some]
  generalize rdS pf l=x1
  generalize rdS pf cc=x2
  unfold zs4 mkV
  split
  ·rename_i n m
   simp only[]
   by_cases h:0≤n∧n≤m∧z.2.1*m≤140737488355328∧m≤4611686018427387904
   ·rw[if_pos h]
    simp only[h,true_and]
    rfl
   ·rw[if_neg h]
    simp only[qv,eq_iff_iff,iff_false]
    rintro⟨a1,_⟩
    exact h a1
  ·rename_i h1
   split
   ·rename_i e1;exact absurd rfl (h1 _ _ rfl)
   ·rfl
theorem zrW {ty t u:TypeId}{op:BinOp}{x y:Operand}{d:Tmp}{q:Bool}{rows:List (List PV)}(hy:zgP y=true) (hp:co.hp.isEmpty=false) (he:(zaL P t).isSome=true) (hq:zqg op=some q) (hx:zu6 pf x=some rows)
 (hk:∀b,(rows≠[]→b= !q)→qv P c co (some (.v (.bool b),pf)) (some d) k Q):pw1 P c co ty (.binOp op t x y u) (some d) k Q pf:=by
 show pop P co ⟨some d,.binOp op t x y u,ty, "",#[],none⟩ (pw P c k Q) pf
 simp only[pop,hy,if_true]
 refine⟨(by intro e;rw[e]at hp;cases hp),?_⟩
 cases x with
 |tmp s=>
  unfold zkl
  simp only[hq,hx]
  exact⟨he,fun b hb=>hk b hb⟩
 |_=>simp[zu6]at hx
@[go_sem ↓] theorem zyZ {ty:TypeId}{fn:Fn}{xs ys:Array Operand}{d:Option Tmp}:pw1 P c co ty (.makeFunc fn xs ys) d k Q pf=
 qv P c co (if clB co d=true then(clS pf fn xs.toList ys.toList).bind (clM co pf)else(zil (!co.hp.isEmpty) pf (xs.toList++ys.toList)).map fun vs=>(.v (.func fn (vs.1.take xs.toList.length) (vs.1.drop xs.toList.length)),vs.2)) d k Q:=by
 show zlN co fn xs.toList ys.toList d (pw P c k Q) pf=_
 unfold zlN
 split
 ·cases (clS pf fn xs.toList ys.toList).bind (clM co pf)<;>rfl
 cases zil (!co.hp.isEmpty) pf (xs.toList++ys.toList)<;>rfl
def mvF (co:Cfg) (d:Option Tmp) (t:Nat) (pf:PFr):PF→Option (PF×PFr)
 | .v x=>if isJ x=true then none else some (if zaG x=true then .rf t []else .v x,pf)
 | .ls es rows=>if t<co.nt then some (.rf t [],(pf.upd t (.v (.sl true es rows))).kill t 0)else none
 | .bl _=>some (.pt t [] 0 0,pf)
 | .skip=>none
 | .as .. =>none
 | .pt s p i j=>if lyB co d=true then lyR pf t s p i j (pf s)else some (.pt s p i j,pf)
 |y=>some (y,pf)
@[go_sem] theorem zO6 {co:Cfg}{d:Option Tmp}{t:Nat}{x:PV}(h:isJ x=false):mvF co d t pf (.v x)=some (if zaG x=true then .rf t []else .v x,pf):=by simp[mvF,h]
@[go_sem] theorem zNm {co:Cfg}{d:Option Tmp}{t es:Nat}{rows:List (List PV)}(h:t<co.nt):mvF co d t pf (.ls es rows)=some (.rf t [],(pf.upd t (.v (.sl true es rows))).kill t 0):=by simp[mvF,h]
@[go_sem] theorem zOd {co:Cfg}{d:Option Tmp}{t:Nat}{row:List PV}:mvF co d t pf (.bl row)=some (.pt t [] 0 0,pf):=(rfl)
@[go_sem] theorem zN2 {co:Cfg}{d:Option Tmp}{t s i j:Nat}{p:zad}:mvF co d t pf (.pt s p i j)=if lyB co d=true then lyR pf t s p i j (pf s)else some (.pt s p i j,pf):=(rfl)
@[go_sem] theorem zPi {co:Cfg}{d:Nat}:lyB co (some d)=(!co.hp.isEmpty&&co.fz.contains (d+5*co.nt)):=(rfl)
@[go_sem] theorem zMo {t s:Nat}{row:List PV}:lyR pf t s [] 0 0 (.bl row)=some (.rf s [],((pf.upd s (.v (.bx row))).kill s 0).put t (.rf s [])):=(rfl)
@[go_sem] theorem zNB {co:Cfg}{d:Option Tmp}{t s:Nat}{p:zad}:mvF co d t pf (.rf s p)=some (.rf s p,pf):=(rfl)
@[go_sem] theorem zNc {co:Cfg}{d:Option Tmp}{t s lo hi:Nat}{p:zad}:mvF co d t pf (.rv s p lo hi)=some (.rv s p lo hi,pf):=(rfl)
@[go_sem] theorem zMp {co:Cfg}{d:Option Tmp}{t s i j n:Nat}{p:zad}:mvF co d t pf (.ra s p i j n)=some (.ra s p i j n,pf):=(rfl)
@[go_sem] theorem zOc {co:Cfg}{d:Option Tmp}{t s:Nat}{g:FuncId}{us:List PV}:mvF co d t pf (.cl s g us)=some (.cl s g us,pf):=(rfl)
@[go_sem] theorem zOC {co:Cfg}{d:Nat}:clB co (some d)=co.fz.contains (d+4*co.nt):=(rfl)
@[go_sem] theorem zOA {g:FuncId}{s:Nat}{ys:List Operand}:clS pf (.func g) [] (.tmp s::ys)=match pf s with| .v (.bx _)=>some (g,s,ys)|_=>none:=(rfl)
@[go_sem] theorem zPu {g:FuncId}{s:Nat}{ys:List Operand}{co:Cfg}:clM co pf (g,s,ys)=(zil (!co.hp.isEmpty) pf ys).map fun y=>(.cl s g y.1,y.2):=(rfl)
@[go_sem] theorem zPw {t:Tmp}:clO pf (.tmp t)=clF (pf t):=(rfl)
@[go_sem] theorem zMG {s:Nat}{g:FuncId}{us:List PV}:clF (.cl s g us)=some (s,g,us):=(rfl)
@[go_sem ↓] theorem zC1 {ty:TypeId}{t:Tmp}{d:Option Tmp}:pw1 P c co ty (.move (.tmp t)) d k Q pf=qv P c co (mvF co d t pf (pf t)) d k Q:=by
 show zgk co t d (pw P c k Q) pf (pf t)=_
 unfold zgk mvF
 cases pf t with
 |v x=>
  cases hj:isJ x
  ·cases ho:zaG x<;>simp[hj,ho,qv]
  ·simp[hj,qv]
 |ls es rows=>
  by_cases h:t<co.nt
  ·simp[h,qv]
  ·simp[h,qv]
 |pt s p i j=>
  cases hl:lyB co d
  ·simp[qv]
  ·simp only[if_true]
   cases lyR pf t s p i j (pf s)<;>rfl
 |_=>rfl
def tkV (x:Option (PV×PFr)):Option (PF×PFr):=x.map fun y=>(.v y.1,y.2)
@[go_sem] theorem zHI {y:PV}:tkV (some (y,pf))=some (.v y,pf):=(rfl)
@[go_sem ↓] theorem zDE {ty:TypeId}{k0:Value}{d:Option Tmp}:pw1 P c co ty (.move (.const k0)) d k Q pf=qv P c co (tkV (zbw (ezT P ty) pf (.const k0))) d k Q:=by
 show zhx (ezT P ty) co (.const k0) d (pw P c k Q) pf=_
 unfold zhx
 simp only[]
 cases zbw (ezT P ty) pf (.const k0)<;>rfl
@[go_sem ↓] theorem zCh {ty:TypeId}{d:Option Tmp}{g:FuncId}:pw1 P c co ty (.move (.func g)) d k Q pf=qv P c co (tkV (zbw (ezT P ty) pf (.func g))) d k Q:=by
 show zhx (ezT P ty) co (.func g) d (pw P c k Q) pf=_
 unfold zhx
 simp only[]
 cases zbw (ezT P ty) pf (.func g)<;>rfl
@[go_sem ↓] theorem zAK {ty:TypeId}{x:Operand}{d:Option Tmp}:pw1 P c co ty (.assign x) d k Q pf=qv P c co (tkA (zmM co pf d x) pf (tkV (zbw (ezT P ty) pf x))) d k Q:=by
 show ziM (ezT P ty) co x d (pw P c k Q) pf=_
 unfold ziM
 cases zmM co pf d x with
 |some y=>rfl
 |none=>cases zbw (ezT P ty) pf x<;>rfl
@[go_sem] theorem zNU {d:Nat}{t:Tmp}:zmM co pf (some d) (.tmp t)=if mkd co d=true then zos t (pf t)else none:=(rfl)
@[go_sem] theorem zJA {t s:Nat}{p:zad}:zos t (.rf s p)=some (.rf s p):=(rfl)
@[go_sem] theorem zLS {t:Nat}{row:List PV}:zos t (.bl row)=some (.pt t [] 0 0):=(rfl)
@[go_sem] theorem zLY {t s:Nat}{g:FuncId}{us:List PV}:zos t (.cl s g us)=some (.cl s g us):=(rfl)
@[go_sem] theorem zMN {d:Option Tmp}{x:Value}:zmM co pf d (.const x)=none:=by cases d<;>rfl
@[go_sem] theorem zMM {d:Option Tmp}{x:FuncId}:zmM co pf d (.func x)=none:=by cases d<;>rfl
def exV (pf:PFr) (s:Nat) (xs:List PV) (i:Nat):Option PV→Option (PF×PFr)
 |some y=>if isJ y=true then none else some (.v y,if zaG y=true then(pf.upd s (.v (.tup (xs.set i .junk)))).kill s 1 else pf)
 |none=>none
@[go_sem] theorem zHT {s i:Nat}{xs:List PV}{y:PV}(h:isJ y=false):exV pf s xs i (some y)=some (.v y,if zaG y=true then(pf.upd s (.v (.tup (xs.set i .junk)))).kill s 1 else pf):=by simp[exV,h]
@[go_sem] theorem zK3 {t:Tmp}:exO pf (.tmp t)=match pf t with
 | .rf s []=>exR s (pf s)
 |y=>exR t y:=rfl
@[go_sem] theorem zOY {s:Nat}{xs:List PV}:exR s (.v (.tup xs))=some (s,xs):=(rfl)
@[go_sem ↓] theorem zAl {ty:TypeId}{x:Operand}{i:Nat}{d:Option Tmp}:pw1 P c co ty (.extract x i) d k Q pf=qv P c co ((exO pf x).bind fun a=>if a.1<co.nt then exV pf a.1 a.2 i a.2[i]? else none) d k Q:=by
 show zhY co x i d (pw P c k Q) pf=_
 unfold zhY
 cases exO pf x with
 |none=>rfl
 |some a=>
  obtain⟨s,xs⟩:=a
  simp only[Option.bind_some]
  by_cases h:s<co.nt
  ·rw[if_pos h]
   simp only[h,true_and]
   cases xs[i]? with
   |none=>rfl
   |some y=>
    cases hj:isJ y
    ·cases ho:zaG y<;>simp[pex,exV,hj,ho,qv]
    ·simp[pex,exV,hj,qv]
  ·rw[if_neg h];simp[h,qv]
def slE (es t:Nat) (pf:PFr) (l h m:Option (Option Nat)):Option (PF×PFr):=
 match l,h,m with
 |some l,some h,some none=>(slF es (l.getD 0) h pf t (pf t)).map fun y=>(y,pf)
 |some l,some (some h),some (some m)=>((zbi pf (pf t)).bind lenV).bind fun rows=>(slF es (l.getD 0) (some h) pf t (pf t)).bind fun _=>if l.getD 0=h∧h=m∧m≤rows.length then some (.v (.sl true es []),pf)else none
 |_,_,_=>none
@[go_sem] theorem zDD {es t:Nat}{l h:Option Nat}:slE es t pf (some l) (some h) (some none)=(slF es (l.getD 0) h pf t (pf t)).map fun y=>(y,pf):=by cases h<;>rfl
@[go_sem] theorem zBK {es t:Nat}{l:Option Nat}{h m:Nat}:slE es t pf (some l) (some (some h)) (some (some m))=((zbi pf (pf t)).bind lenV).bind fun rows=>(slF es (l.getD 0) (some h) pf t (pf t)).bind fun _=>if l.getD 0=h∧h=m∧m≤rows.length then some (.v (.sl true es []),pf)else none:=(rfl)
theorem zxg {es t:Nat}{d:Option Tmp}{l h m:Option (Option Nat)}:zob co es t d (pw P c k Q) pf l h m=qv P c co (slE es t pf l h m) d k Q:=by
 cases l with
 |none=>rfl
 |some l=>
  cases h with
  |none=>rfl
  |some h=>
   cases m with
   |none=>rfl
   |some m=>
    cases m with
    |none=>
     rw[zDD]
     cases h<;>simp only[zob]<;>cases slF es (l.getD 0) _ pf t (pf t)<;>rfl
    |some m=>
     cases h with
     |none=>rfl
     |some h=>
      rw[zBK]
      simp only[zob]
      cases (zbi pf (pf t)).bind lenV with
      |none=>rfl
      |some rows=>
       simp only[Option.bind_some]
       cases slF es (l.getD 0) (some h) pf t (pf t)with
       |none=>simp[qv]
       |some y=>
        by_cases hh:l.getD 0=h∧h=m∧m≤rows.length
        ·simp[hh,qv]
        ·simp[hh,qv]
@[go_sem ↓] theorem zE2 {ty t:TypeId}{x:Tmp}{l h m:Option Operand}{d:Option Tmp}(hs:zaT P t=false):pw1 P c co ty (.slice t (.tmp x) l h m) d k Q pf=qv P c co ((esz P t).bind fun es=>slE es x pf (rdB pf l) (rdB pf h) (rdB pf m)) d k Q:=by
 show(if zaT P t=true then zeG P co ⟨d,.slice t (.tmp x) l h m,ty, "",#[],none⟩ (pw P c k Q) pf else zjP P co t (.tmp x) l h m d (pw P c k Q) pf)=_
 rw[if_neg (by simp[hs])]
 unfold zjP
 cases esz P t with
 |none=>rfl
 |some es=>exact zxg
def qln (P:Program) (c co:Cfg) (x:Option (List (List PV))) (d:Option Tmp) (k:List PIt) (Q:Exit→PFr→Prop) (pf:PFr):Prop:=
 match x with
 |some rows=>rows.length≤zdg→qv P c co (some (.v (.int .i64 rows.length),pf)) d k Q
 |none=>False
theorem ztT {x x':Option (List (List PV))}{d:Option Tmp}(h:x=x'):qln P c co x d k Q pf=qln P c co x' d k Q pf:=by rw[h]
attribute [congr] ztT
def qlm (P:Program) (c co:Cfg) (t:TypeId) (d:Option Tmp) (k:List PIt) (Q:Exit→PFr→Prop) (pf:PFr) (x:Nat):PF→Prop
 | .ls es rows=>qln P c co ((zaL P t).bind fun _=>some rows) d k Q ((pf.upd x (.v (.sl true es rows))).kill x 0)
 |y=>qln P c co ((zaL P t).bind fun _=>(zbi pf y).bind lenV) d k Q pf
theorem ztP {t:TypeId}{d:Option Tmp}{x:Nat}{y y':PF}(h:y=y'):qlm P c co t d k Q pf x y=qlm P c co t d k Q pf x y':=by rw[h]
attribute [congr] ztP
@[go_sem ↓] theorem zOh {t:TypeId}{d:Option Tmp}{x es:Nat}{rows:List (List PV)}:qlm P c co t d k Q pf x (.ls es rows)=qln P c co ((zaL P t).bind fun _=>some rows) d k Q ((pf.upd x (.v (.sl true es rows))).kill x 0):=rfl
@[go_sem ↓] theorem zQf {t:TypeId}{d:Option Tmp}{x:Nat}{y:PV}:qlm P c co t d k Q pf x (.v y)=qln P c co ((zaL P t).bind fun _=>lenV y) d k Q pf:=rfl
@[go_sem ↓] theorem zNv {t:TypeId}{d:Option Tmp}{x s:Nat}{p:zad}:qlm P c co t d k Q pf x (.rf s p)=qln P c co ((zaL P t).bind fun _=>(zbi pf (.rf s p)).bind lenV) d k Q pf:=rfl
@[go_sem ↓] theorem zML {t:TypeId}{d:Option Tmp}{x s lo hi:Nat}{p:zad}:qlm P c co t d k Q pf x (.rv s p lo hi)=qln P c co ((zaL P t).bind fun _=>(zbi pf (.rv s p lo hi)).bind lenV) d k Q pf:=rfl
@[go_sem ↓] theorem zJZ {ty t:TypeId}{x:Tmp}{d:Option Tmp}(hs:zaT P t=false):pw1 P c co ty (.call ⟨.builtin .len,#[.tmp x],#[t]⟩) d k Q pf=qlm P c co t d k Q pf x (pf x):=by
 show(if zaT P t=true then zeG P co ⟨d,.call ⟨.builtin .len,#[.tmp x],#[t]⟩,ty, "",#[],none⟩ (pw P c k Q) pf else zmH P co t (.tmp x) d (pw P c k Q) pf)=_
 rw[if_neg (by simp[hs])]
 unfold zmH qlm
 cases hpt:pf x with
 |ls es rows=>
  have:((pf.upd x (.v (.sl true es rows))).kill x 0) x=.v (.sl true es rows):=by simp[PFr.kill,PFr.upd,za4,zaq]
  simp only[lsM,hpt,this,zbi,lenV,Option.bind_some,qln,qv]
  cases zaL P t<;>rfl
 |_=>
  simp only[lsM,hpt,qln,qv]
  generalize (zaL P t).bind (fun _=>(zbi pf _).bind lenV)=o
  cases o<;>rfl
@[go_sem] theorem zLn {t:TypeId}{x:Operand}{s:ByteArray}(hs:zaT P t=true):zbm P (.call ⟨.builtin .len,#[x],#[t]⟩) [.string s]=some (.int .i64 s.size):=by simp[zbm,Am.lenV,hs]
@[go_sem ↓] theorem zIN {ty t:TypeId}{x:Operand}{d:Option Tmp}(hs:zaT P t=true):pw1 P c co ty (.call ⟨.builtin .len,#[x],#[t]⟩) d k Q pf=qv P c co (ev1 (fun v=>zbm P (.call ⟨.builtin .len,#[x],#[t]⟩) [v]) (rdS pf x) pf) d k Q:=by
 show(if zaT P t=true then zeG P co ⟨d,.call ⟨.builtin .len,#[x],#[t]⟩,ty, "",#[],none⟩ (pw P c k Q) pf else zmH P co t x d (pw P c k Q) pf)=_
 rw[if_pos hs]
 refine zg0 (o:=⟨d,.call ⟨.builtin .len,#[x],#[t]⟩,ty, "",#[],none⟩) ?_
 simp only[zbq,zhr,Option.bind_some]
 cases rdS pf x<;>simp[ev1]
def apE (P:Program) (t:TypeId) (s x:Operand) (pf:PFr):Option (PF×PFr):=
 (ez P t).bind fun z=>(zbw z.1 pf s).bind fun b=>(bsR z.1 b.1).bind fun rows=>(srO z.1 b.2 x).bind fun r=>
   if zev r.1=true∧(rows.length+r.1.length)*z.2.1≤140737488355328∧rows.length+r.1.length≤4611686018427387904 then some (.v (.sl true z.1 (rows++r.1)),r.2)else none
@[go_sem] theorem zM4 {t:TypeId}{s x:Operand}:apE P t s x pf=(ez P t).bind fun z=>(zbw z.1 pf s).bind fun b=>(bsR z.1 b.1).bind fun rows=>(srO z.1 b.2 x).bind fun r=>
 if zev r.1=true∧(rows.length+r.1.length)*z.2.1≤140737488355328∧rows.length+r.1.length≤4611686018427387904 then some (.v (.sl true z.1 (rows++r.1)),r.2)else none:=rfl
@[go_sem ↓] theorem zBb {ty t:TypeId}{s x:Operand}{d:Option Tmp}:pw1 P c co ty (.call ⟨.builtin .append,#[s,x],#[t,t]⟩) d k Q pf=qv P c co (apE P t s x pf) d k Q:=by
 show(if t=t then zn2 P co t s x d (pw P c k Q) pf else znc P co t t s x d (pw P c k Q) pf)=_
 rw[if_pos rfl]
 unfold zn2 apE
 cases ez P t with
 |none=>rfl
 |some z=>
  simp only[Option.bind_some]
  cases zbw z.1 pf s with
  |none=>rfl
  |some b=>
   obtain⟨b,pf1⟩:=b
   simp only[Option.bind_some,zpt]
   cases bsR z.1 b with
   |none=>rfl
   |some rows=>
    simp only[Option.bind_some]
    cases srO z.1 pf1 x with
    |none=>rfl
    |some r=>
     obtain⟨rows2,pf2⟩:=r
     simp only[Option.bind_some,zpr]
     by_cases h:zev rows2=true∧(rows.length+rows2.length)*z.2.1≤140737488355328∧rows.length+rows2.length≤4611686018427387904
     ·rw[if_pos h]
      simp only[h.1,h.2.1,h.2.2,true_and,qv]
     ·rw[if_neg h]
      simp only[qv,eq_iff_iff,iff_false]
      rintro⟨a1,a2,_⟩
      exact h ⟨a1,a2⟩
theorem zwP {ty t:TypeId}{g:FuncId}{x:Operand}{ts:Array TypeId}{d:Option Tmp}{n:Int}{z:Nat×Nat×List PV}(h:ztx P g t) (hz:ez P t=some z) (hn:rdS pf x=some (.int .i64 n)) (hb:0≤n∧z.2.1*n≤140737488355328∧n≤4611686018427387904)
 (hk:qv P c co (some (.v (.sl true z.1 []),pf)) d k Q):pw1 P c co ty (.call ⟨.value (.func g),#[.const (.slice none 0 0),x],ts⟩) d k Q pf:=.inr (.inl ⟨g,x,t,n,z,rfl,rfl,h,hn,hz,hb,hk⟩)
theorem zwE {ty:TypeId}{f:Operand}{args:Array Operand}{ts:Array TypeId}{d:Option Tmp}(ms:List Md) {l:List (Md×Nat×Operand)}{ys:List PV}{pf1:PFr}{g:FuncId}{xs us:List PV}{as as':List (Md×PV)}
 {R:PV→List PV→Prop}(hm:ms.length=args.toList.length) (hl:ms.zip (zdm P args.toList ts.toList)=l) (ha:zg1 pf l=some (ys,pf1)) (hf:fnO pf1 f=some (g,xs,us)) (hc:cargs pf1 l ys=some as)
 (has:xs.map (fun x=>(Md.sh,x))++as++us.map (fun x=>(Md.sh,x))=as') (h:PCalls P g as' R)
 (hk:∀r outs,R r outs→(l.any (zgW pf1)=false∨(zaY r&&outs.all zaY)=true)∧qv P c co ((back co.nt pf1 l (outs.drop xs.length)).map fun p=>(.v r,p)) d k Q):pw1 P c co ty (.call ⟨.value f,args,ts⟩) d k Q pf:=by
 refine .inl ⟨ms,hm,?_⟩
 rw[hl,ha]
 show zh9 P co d (pw P c k Q) pf1 l (fnO pf1 f) (cargs pf1 l ys)
 rw[hf,hc]
 show PCalls P g _ _
 rw[has]
 refine h.mono fun r outs hr=>?_
 obtain⟨h1,h2⟩:=hk r outs hr
 refine⟨h1,?_⟩
 cases hb:back co.nt pf1 l (outs.drop xs.length)with
 |none=>rw[hb]at h2;exact h2
 |some p=>rw[hb]at h2;exact h2
theorem zuW {ty:TypeId}{f:Operand}{args:Array Operand}{ts:Array TypeId}{d:Option Tmp}(ms:List Md) {l:List (Md×Nat×Operand)}{ys:List PV}{pf1:PFr}{s:Nat}{g:FuncId}{us:List PV}{as as':List (Md×PV)}
 {R:PV→List PV→Prop}(hm:ms.length=args.toList.length) (hf:clO pf f=some (s,g,us)) (hl:ms.zip (zdm P args.toList ts.toList)++[(.io,0,.tmp s)]=l) (ha:zg1 pf l=some (ys,pf1)) (hf1:clO pf1 f=some (s,g,us)) (hc:cargs pf1 l ys=some as)
 (has:as++us.map (fun x=>(Md.sh,x))=as') (h:PCalls P g as' R)
 (hk:∀r outs,R r outs→(l.any (zgW pf1)=false∨(zaY r&&outs.all zaY)=true)∧qv P c co ((back co.nt pf1 l outs).map fun p=>(.v r,p)) d k Q):pw1 P c co ty (.call ⟨.value f,args,ts⟩) d k Q pf:=by
 refine .inr (.inr ⟨ms,(s,g,us),hf,hm,?_⟩)
 rw[hl,ha]
 refine⟨hf1,?_⟩
 rw[hc]
 show PCalls P g _ _
 simp only[List.map_nil,List.nil_append]
 rw[has]
 refine h.mono fun r outs hr=>?_
 obtain⟨h1,h2⟩:=hk r outs hr
 refine⟨h1,?_⟩
 show zpB co d _ r (back co.nt pf1 l outs)
 cases hb:back co.nt pf1 l outs with
 |none=>rw[hb]at h2;exact h2
 |some p=>rw[hb]at h2;exact h2
theorem zxc {id:Nat}{ops:Array Oper}(D:List DE) {L:List (DE×Oper)}(h1:P.follows .mixedOrders=true) (h2:zhy D ops.toList=true) (hL:D.map (fun x=>(x,ops.toList.getD x.i default))=L)
 (h:pw P c (.dops (ops.toList.map (·.dst)) L::k) Q pf):pw P c (.code (.region id ops true)::k) Q pf:=by
 subst hL
 exact⟨h1,0,D,h2,h⟩
theorem zmx {id:Nat}{ops:Array Oper}(a b x y u v:Nat) (D D' D2:List DE) {L L' L2:List (DE×Oper)}(h1:P.follows .mixedOrders=true) (hab:a≠b∧x≠y∧u≠v) (h2:zhy D ops.toList [(u,v),(a,b)]=true) (h3:zhy D ops.toList [(v,u),(a,b)]=true)
 (h4:zhy D' ops.toList [(x,y),(b,a)]=true) (h5:zhy D2 ops.toList [(y,x),(b,a)]=true) (hL:D.map (fun x=>(x,ops.toList.getD x.i default))=L) (hL':D'.map (fun x=>(x,ops.toList.getD x.i default))=L') (hL2:D2.map (fun x=>(x,ops.toList.getD x.i default))=L2)
 (h:pw P c (.dops (ops.toList.map (·.dst)) L::k) Q pf) (h':pw P c (.dops (ops.toList.map (·.dst)) L'::k) Q pf) (h'':pw P c (.dops (ops.toList.map (·.dst)) L2::k) Q pf):pw P c (.code (.region id ops true)::k) Q pf:=by
 subst hL
 subst hL'
 subst hL2
 exact⟨h1,2,a,b,hab.1,⟨u,v,hab.2.2,⟨D,h2,h⟩,⟨D,h3,h⟩⟩,⟨x,y,hab.2.1,⟨D',h4,h'⟩,⟨D2,h5,h''⟩⟩⟩
def zwg (D:List DE) (ops:List Oper):List (Nat×Nat)→List (Nat×Nat)→Bool
 |[],xs=>zhy D ops xs
 |p::ps,xs=>zwg D ops ps ((p.1,p.2)::xs)&&zwg D ops ps ((p.2,p.1)::xs)
@[go_sem ↓] theorem zAv {pre:List (Option Tmp)}:pw P c (.dops pre []::k) Q pf=pw P c k Q pf:=rfl
def zbP:Op→Bool
 | .call ⟨.value _,_,_⟩=>true
 |_=>false
def pwd (P:Program) (c:Cfg) (ext:Bool) (ty:TypeId) (op:Op) (d:Option Tmp) (k:List PIt) (Q:Exit→PFr→Prop) (pf:PFr):Prop:=zih P c ext ⟨d,op,ty, "",#[],none⟩ (pw P c k Q) pf
theorem zsf {o o':Oper}{ext:Bool}{K:PFr→Prop}(h:o.op=o'.op) (hd:o.dst=o'.dst) (ht:o.type=o'.type):zih P c ext o K pf=zih P c ext o' K pf:=by
 obtain⟨d,op,ty,ps,af,g⟩:=o
 obtain⟨d',op',ty',ps',af',g'⟩:=o'
 simp only at h hd ht
 subst h;subst hd;subst ht
 rfl
@[go_sem ↓] theorem zNA {pre:List (Option Tmp)}{e:DE}{d:Option Tmp}{op:Op}{ty:TypeId}{ps:String}{af:Array Edge}{l:List (DE×Oper)}(h:(zkA pf e.rg e.ls e.sl&&zna pf e.mr)=true):
 pw P c (.dops pre ((e,⟨d,op,ty,ps,af,none⟩)::l)::k) Q pf=pwd P c e.ex ty op d (.dops pre l::k) Q pf:=by
 show zom P c pre e ⟨d,op,ty,ps,af,none⟩ (pw P c (.dops pre l::k) Q) pf=_
 simp only[zom,h,true_and,znP]
 exact zsf rfl rfl rfl
def zeP (P:Program) (c:Cfg) (y:Option (Option Bool)) (b:Bool) (ext:Bool) (ty:TypeId) (op:Op) (d:Option Tmp) (k:List PIt) (Q:Exit→PFr→Prop) (pf:PFr):Prop:=
 pgo c b d (pwd P c ext ty op d k Q pf) (pw P c k Q) pf y
theorem zth {y y':Option (Option Bool)}{b ext:Bool}{ty:TypeId}{op:Op}{d:Option Tmp}(h:y=y'):zeP P c y b ext ty op d k Q pf=zeP P c y' b ext ty op d k Q pf:=by rw[h]
attribute [congr] zth
@[go_sem ↓] theorem zKT {pre:List (Option Tmp)}{e:DE}{d:Option Tmp}{op:Op}{ty:TypeId}{ps:String}{af:Array Edge}{j:Nat}{b:Bool}{l:List (DE×Oper)}(h:(zkA pf e.rg e.ls e.sl&&zna pf e.mr)=true):
 pw P c (.dops pre ((e,⟨d,op,ty,ps,af,some (j,b)⟩)::l)::k) Q pf=zeP P c (ygP pf pre[j]?) b e.ex ty op d (.dops pre l::k) Q pf:=by
 show zom P c pre e ⟨d,op,ty,ps,af,some (j,b)⟩ (pw P c (.dops pre l::k) Q) pf=_
 simp only[zom,h,true_and,znP]
 unfold zeP pwd
 rw[zsf (o:=⟨d,op,ty,ps,af,some (j,b)⟩) (o':=⟨d,op,ty, "",#[],none⟩) rfl rfl rfl]
@[go_sem ↓] theorem zKJ {ext:Bool}{ty:TypeId}{op:Op}{d:Option Tmp}:zeP P c (some (some true)) true ext ty op d k Q pf=pwd P c ext ty op d k Q pf:=by simp[zeP,pgo]
@[go_sem ↓] theorem zJi {ext:Bool}{ty:TypeId}{op:Op}{d:Option Tmp}:zeP P c (some (some false)) false ext ty op d k Q pf=pwd P c ext ty op d k Q pf:=by simp[zeP,pgo]
@[go_sem ↓] theorem zLj {ext:Bool}{ty:TypeId}{op:Op}{d:Tmp}(h:ckd c d .skip=true):zeP P c (some (some true)) false ext ty op (some d) k Q pf=pw P c k Q (pf.put d .skip):=by simp[zeP,pgo,zh7,h]
@[go_sem ↓] theorem zKF {ext:Bool}{ty:TypeId}{op:Op}{d:Tmp}(h:ckd c d .skip=true):zeP P c (some (some false)) true ext ty op (some d) k Q pf=pw P c k Q (pf.put d .skip):=by simp[zeP,pgo,zh7,h]
@[go_sem ↓] theorem zMK {ext b:Bool}{ty:TypeId}{op:Op}{d:Tmp}(h:ckd c d .skip=true):zeP P c (some none) b ext ty op (some d) k Q pf=pw P c k Q (pf.put d .skip):=by simp[zeP,pgo,zh7,h]
theorem zsB {y b ext:Bool}{ty:TypeId}{op:Op}{d:Option Tmp}(h1:y=true→zeP P c (some (some true)) b ext ty op d k Q pf) (h2:y=false→zeP P c (some (some false)) b ext ty op d k Q pf):zeP P c (some (some y)) b ext ty op d k Q pf:=by
 cases y
 ·exact h2 rfl
 ·exact h1 rfl
@[go_sem ↓] theorem zM8 {ext:Bool}{ty:TypeId}{op:Op}{d:Option Tmp}(hc:zbP op=false) (he:(!ext||zcI op)=true):pwd P c ext ty op d k Q pf=pw1 P c c.nohp ty op d k Q pf:=by
 have he':ext=true→zcI op=true:=by intro h;subst h;simpa using he
 unfold pwd zih pw1
 split
 ·simp_all [zbP]
 ·simp only[eq_iff_iff]
  exact⟨fun h=>h.2,fun h=>⟨he',h⟩⟩
@[go_sem] theorem zQo {i:Nat}{sl rg:List Nat}{mr:Option Nat}{ls a b:Bool}:DE.ex ⟨i,sl,rg,mr,ls,a,b⟩=(a&& !b):=(rfl)
@[go_sem ↓] theorem zNH {ty:TypeId}{f:Operand}{args:Array Operand}{ts:Array TypeId}{d:Option Tmp}:pwd P c false ty (.call ⟨.value f,args,ts⟩) d k Q pf=pw1 P c c.nohp ty (.call ⟨.value f,args,ts⟩) d k Q pf:=by
 unfold pwd zih pw1
 simp
theorem zv4 {ty:TypeId}{f:Operand}{args:Array Operand}{ts:Array TypeId}{d:Option Tmp}{l:List (Md×Nat×Operand)}{ys:List PV}{pf1:PFr}{g:FuncId}{xs us:List PV}{as as':List (Md×PV)}
 {R:PV→List PV→Prop}(hl:(List.replicate args.toList.length Md.sh).zip (zdm P args.toList ts.toList)=l) (ha:zg1 pf l=some (ys,pf1)) (hf:fnO pf1 f=some (g,xs,us)) (hc:cargs pf1 l ys=some as)
 (has:xs.map (fun x=>(Md.sh,x))++as++us.map (fun x=>(Md.sh,x))=as') (h:PCalls P g as' R)
 (hk:∀r outs,R r outs→(l.any (zgW pf1)=false∨(zaY r&&outs.all zaY)=true)∧qv P c c ((back c.nt pf1 l (outs.drop xs.length)).map fun p=>(.v r,p)) d k Q):pwd P c true ty (.call ⟨.value f,args,ts⟩) d k Q pf:=by
 refine⟨by simp,?_⟩
 rw[hl,ha]
 show zh9 P c d (pw P c k Q) pf1 l (fnO pf1 f) (cargs pf1 l ys)
 rw[hf,hc]
 show PCalls P g _ _
 rw[has]
 refine h.mono fun r outs hr=>?_
 obtain⟨h1,h2⟩:=hk r outs hr
 refine⟨h1,?_⟩
 cases hb:back c.nt pf1 l (outs.drop xs.length)with
 |none=>rw[hb]at h2;exact h2
 |some p=>rw[hb]at h2;exact h2
theorem zrp {f:FuncId}{fn:Func}{code:Code}{as:List (Md×PV)}{R:PV→List PV→Prop}(fz hp:List Nat) (hc:zae P f) (hf:P.funcs[f]? =some fn) (hb:fn.body=some code) (hlen:as.length≤fn.ntmps)
 (h:pw P ⟨fn.ntmps,ioL 0 as,fz,hp⟩ [.code code] (zja P fn.results.toList as R) (zgV as)):PCalls P f as R:=by
 refine zp7 (fz:=fz) (hp:=hp) hc hf hb hlen ?_
 have e:zcb P ⟨fn.ntmps,ioL 0 as,fz,hp⟩ [] (zja P fn.results.toList as R)=zja P fn.results.toList as R:=by funext e;cases e<;>rfl
 have h':pwp P ⟨fn.ntmps,ioL 0 as,fz,hp⟩ code (zcb P ⟨fn.ntmps,ioL 0 as,fz,hp⟩ [] (zja P fn.results.toList as R)) (zgV as):=h
 rwa [e]at h'
@[go_sem] theorem zHa {rs:List ResultVar}{as:List (Md×PV)}{R:PV→List PV→Prop}:zja P rs as R .ret pf=zlS as R (zhB P pf rs):=(rfl)
@[go_sem] theorem zAC {rs:List ResultVar}{as:List (Md×PV)}{R:PV→List PV→Prop}:zja P rs as R .normal pf=zlS as R (zhB P pf rs):=(rfl)
@[go_sem] theorem zAR {as:List (Md×PV)}{R:PV→List PV→Prop}{x:List PV}:zlS as R (some (x,pf))=R (zpQ x) (zfX pf 0 as):=(rfl)
@[go_sem] theorem zEo:zhB P pf []=some ([],pf):=(rfl)
@[go_sem] theorem zCM {x:ResultVar}{xs:List ResultVar}:zhB P pf (x::xs)=(zkJ P pf x).bind fun a=>(zhB P a.2 xs).map fun b=>(a.1::b.1,b.2):=(rfl)
@[go_sem] theorem zE7 {t:Tmp}:zkJ P pf (.tmp t)=if zhX (pf t)=true then none else zeD pf t (pf t):=(rfl)
@[go_sem] theorem zCf {t:Tmp}{ty:TypeId}:zkJ P pf (.cell t ty)=zl7 pf t (pf t) (tk P ty):=(rfl)
@[go_sem] theorem zJk {t sz:Nat}{row:List PV}:zl7 pf t (.bl row) (some (true,sz))=if sz=row.length then some (.agg row,(pf.upd t jP).kill t 0)else none:=by cases row<;>rfl
@[go_sem] theorem zJm {t sz:Nat}{x:PV}{row:List PV}:zl7 pf t (.bl (x::row)) (some (false,sz))=some (x,(pf.upd t jP).kill t 0):=(rfl)
@[go_sem] theorem zNM {x:PV}:zhX (.v x)=false:=(rfl)
@[go_sem] theorem zJh {s:Nat}{p:zad}:zhX (.rf s p)=false:=(rfl)
@[go_sem] theorem zKq {s lo hi:Nat}{p:zad}:zhX (.rv s p lo hi)=false:=(rfl)
@[go_sem] theorem zLt {s i j n:Nat}{p:zad}:zhX (.ra s p i j n)=false:=(rfl)
@[go_sem] theorem zJw {es:Nat}{rows:List (List PV)}:zhX (.ls es rows)=true:=(rfl)
@[go_sem] theorem zKA {s i j:Nat}{p:zad}:zhX (.pt s p i j)=false:=(rfl)
@[go_sem] theorem zKg {row:List PV}:zhX (.bl row)=false:=(rfl)
@[go_sem] theorem zMf {t:Tmp}:lsO pf (.tmp t)=zhX (pf t):=(rfl)
@[go_sem] theorem zD3 {v:Value}:lsO pf (.const v)=false:=(rfl)
@[go_sem] theorem zIr {g:FuncId}:lsO pf (.func g)=false:=(rfl)
@[go_sem] theorem zIB:zpQ []=.junk:=(rfl)
@[go_sem] theorem zG7 {x:PV}:zpQ [x]=x:=(rfl)
@[go_sem] theorem zIp {x y:PV}{l:List PV}:zpQ (x::y::l)=.tup (x::y::l):=(rfl)
@[go_sem] theorem zI2 {n:Nat}:zfX pf n []=[]:=(rfl)
@[go_sem] theorem zKI {n:Nat}{x:PV}{l:List (Md×PV)}:zfX pf n ((.io,x)::l)=zss (pf n)::zfX pf (n+1) l:=(rfl)
@[go_sem] theorem zLd {n:Nat}{x:PV}{l:List (Md×PV)}:zfX pf n ((.sh,x)::l)=.junk::zfX pf (n+1) l:=(rfl)
@[go_sem] theorem zJ8 {n:Nat}{x:PV}{l:List (Md×PV)}:zfX pf n ((.mv,x)::l)=.junk::zfX pf (n+1) l:=(rfl)
@[go_sem] theorem zOg {x:PV}:zss (.v x)=x:=(rfl)
@[go_sem] theorem zJU {n:Nat}:ioL n []=[]:=(rfl)
@[go_sem] theorem zMH {n:Nat}{x:PV}{l:List (Md×PV)}:ioL n ((.io,x)::l)=n::ioL (n+1) l:=(rfl)
@[go_sem] theorem zOb {n:Nat}{x:PV}{l:List (Md×PV)}:ioL n ((.sh,x)::l)=ioL (n+1) l:=(rfl)
@[go_sem] theorem zNy {n:Nat}{x:PV}{l:List (Md×PV)}:ioL n ((.mv,x)::l)=ioL (n+1) l:=(rfl)
end
end Go.Pm
