import Derived.Test.YtplemekcclpaoaaGreatDoorPmT
namespace Go.Pm
open Go.Am
section
variable {P:Program}{c co:Cfg}{k:List PIt}{Q:Exit→PFr→Prop}{pf:PFr}
attribute [go_sem] Option.bind_some Option.bind_none Option.map_some Option.map_none Option.getD_some Option.getD_none
def orE:Option (PF×PFr)→Option (PF×PFr)→Option (PF×PFr)
 |some a,_=>some a
 |none,y=>y
variable{R:PV→List PV→Prop}{a f x:Operand}{args:Array Operand}{as l:List (Md×PV)}{b ext:Bool}{d:Option Tmp}{e t ty:TypeId}{es hi i j len lo n q s u:Nat}{g:FuncId}{op:Op}{p:zad}{pre:List (Option Tmp)}{row us xs z:List PV}{rows:List (List PV)}{ts:Array TypeId}{y:PV}
theorem zw5{a b c:Option (PF×PFr)}(h:a=b):orE a c=orE b c:=by rw[h]
@[go_sem ↓] theorem zIf{a:PF×PFr}{y:Option (PF×PFr)}:orE (some a) y=some a:=rfl
@[go_sem ↓] theorem zHw{y:Option (PF×PFr)}:orE none y=y:=rfl
def tkA:Option PF→PFr→Option (PF×PFr)→Option (PF×PFr)
 |some y,pf,_=>some (y,pf)
 |none,_,x=>x
theorem zvM{a b:Option PF}{pf:PFr}{x:Option (PF×PFr)}(h:a=b):tkA a pf x=tkA b pf x:=by rw[h]
@[go_sem ↓] theorem zHV{y:PF}{x:Option (PF×PFr)}:tkA (some y) pf x=some (y,pf):=rfl
@[go_sem ↓] theorem zHo{x:Option (PF×PFr)}:tkA none pf x=x:=rfl
attribute [congr] zw5 zvM
def ltO(x:Option PF)(f:PF→Option (PF×PFr))(z:Option (PF×PFr)):Option (PF×PFr):=
 match x with
 |some y=>f y
 |none=>z
@[go_sem] theorem zIC{y:PF}{f:PF→Option (PF×PFr)}{z:Option (PF×PFr)}:ltO (some y) f z=f y:=(rfl)
@[go_sem] theorem zLf{f:PF→Option (PF×PFr)}{z:Option (PF×PFr)}:ltO none f z=z:=(rfl)
@[go_sem] theorem zSP{x:PV}:tkE co d pf (.v x)=some (.v x,pf):=(rfl)
@[go_sem] theorem zRx :tkE co d pf (.ra s p i j n)=some (.ra s p i j n,pf):=(rfl)
@[go_sem] theorem zRX :tkE co d pf (.rf s p)=if ltB co d=true then(zaz pf s p).bind fun x=>if isJ x=true then none else(zck pf s p .junk).map fun pf'=>(.v x,pf')else some (.rf s p,pf):=(rfl)
@[go_sem] theorem zUm{d:Nat}:ltB co (some d)=co.fz.contains (d+6*co.nt):=(rfl)
@[go_sem ↓] theorem zK8 :pw1 P c co ty (.load t a) d k Q pf=qv P c co (ltO ((tk P t).bind fun tz=>(adr pf a).bind (ldA tz pf)) (tkE co d pf) ((zrf P t pf a).map fun y=>(y,pf))) d k Q:=by
 show zmW P co t a d (pw P c k Q) pf=_;unfold zmW;cases (tk P t).bind fun tz=>(adr pf a).bind (ldA tz pf)with
 |some y=>
  show zm1 co (pw P c k Q) d y pf=qv P c co (tkE co d pf y) d k Q;unfold zm1;cases tkE co d pf y<;>rfl
 |none=>cases zrf P t pf a<;>rfl
theorem zwY{x:Option AD}:pad co (pw P c k Q) d pf x=qv P c co (x.map fun ad=>(zj9 ad,pf)) d k Q:=by cases x<;>rfl
@[go_sem ↓] theorem zF6{s:TypeId}{f:Nat}:pw1 P c co ty (.fieldAddr s x f) d k Q pf=qv P c co (((zah P s f).bind fun o=>(adr pf x).bind (zi8 o.1)).map fun ad=>(zj9 ad,pf)) d k Q:=zwY
@[go_sem ↓] theorem zBd :pw1 P c co ty (.nilCheck x) d k Q pf=qv P c co ((adr pf x).map fun ad=>(zj9 ad,pf)) d k Q:=zwY
@[go_sem] theorem zUG{i:Operand}(h:esz P t=some es):ixE P t x i pf=(sbO pf x).bind (ixS es (rdS pf i)):=by simp[ixE,h]
@[go_sem] theorem zUq{i:Operand}{z:Nat×Nat}(h:asz P t=some z)(h0:esz P t=none):ixE P t x i pf=(adr pf x).bind (ixA z.1 z.2 (rdS pf i)):=by simp[ixE,h,h0]
@[go_sem ↓] theorem zAs{i:Operand}:pw1 P c co ty (.indexAddr t x i) d k Q pf=qv P c co (orE ((ixE P t x i pf).map fun ad=>(zj9 ad,pf)) (zpL P t x i pf)) d k Q:=by
 show zkF P co t x i d (pw P c k Q) pf=_;unfold zkF;cases ixE P t x i pf with
 |some ad=>rfl
 |none=>cases zpL P t x i pf<;>rfl
@[go_sem] theorem zQ2{i:Operand}:zpL P t (.tmp u) i pf=zq0 P t u pf (pf u) (rdS pf i):=(rfl)
@[go_sem] theorem zJi{kk:IntKind}{q:Int}:zq0 P t u pf (.as false s p i j n) (some (.int kk q))=if esz P t=some 1∧0≤q∧q<n then some (.as true s p i (j+q.toNat) 1,pf.put u jP)else none:=(rfl)
@[go_sem] theorem zR7 :zrf P t pf (.tmp u)=(tk P t).bind fun tz=>if tz.1=false then zqM (pf u)else none:=(rfl)
@[go_sem] theorem zH2 :zqM (.as true s p i j n)=some (.rf s (p++[(i,j)])):=(rfl)
@[go_sem] theorem zQB{t:Nat}:adF pf t (.as b s p i j n)=none:=(rfl)
@[go_sem] theorem zQm{t:Nat}:sbF pf t (.as b s p i j n)=none:=(rfl)
@[go_sem] theorem zPb{c:Cfg}{d:Nat}(h:c.fz=[]):mkd c d=false:=by simp[mkd,h]
@[go_sem] theorem zUe{c:Cfg}{d:Nat}:mkd c d=c.fz.contains (d+2*c.nt):=(rfl)
@[go_sem] theorem zO1 :zn1 (.rf s p)=some (s,p):=(rfl)
@[go_sem] theorem zJ5{o:Bool}:zqP (some (.sl o es rows))=true:=(rfl)
@[go_sem] theorem zG5 :zlj pf s p i j q []=true:=(rfl)
@[go_sem] theorem zFL{q':Nat}{t:Tmp}{r:List (Nat×Operand)}:zlj pf s p i j q ((q',.tmp t)::r)=if q'=q∧zn1 (pf t)=some (s,p++[(i,j+q)])∧zqP (zaz pf s (p++[(i,j+q)]))=true then zlj pf s p i j (q+1) r else false:=(rfl)
@[go_sem] theorem zE6{a:Nat×Nat}:zfn [a]=some ([],a.1,a.2):=(rfl)
@[go_sem] theorem zDI{a b:Nat×Nat}{r:zad}:zfn (a::b::r)=(zfn (b::r)).map fun x=>(a::x.1,x.2):=(rfl)
@[go_sem] theorem zRy{t:Tmp}{r:List (Nat×Operand)}:zpI pf ((q,.tmp t)::r)=(zn1 (pf t)).bind fun x=>(zfn x.2).map fun y=>(x.1,y):=(rfl)
@[go_sem] theorem zMt{ps:List (Nat×Operand)}:zrx P t len ps pf=(ez P t).bind fun z=>(zpI pf ps).bind fun a=>if z.1=1∧len≤2^24∧ps.length=len∧zlj pf a.1 a.2.1 a.2.2.1 a.2.2.2 0 ps=true then some (.as false a.1 a.2.1 a.2.2.1 a.2.2.2 len)else none:=(rfl)
def stA(pf:PFr)(cells:List PV):AD→Option PFr
 | .pl s p i j=>zeo pf s p i j cells
 |_=>none
def stE(P:Program)(t:TypeId)(a x:Operand)(pf:PFr):Option PFr:=
 (tk P t).bind fun tz=>(zbg (ezT P t) pf x).bind fun y=>if zpa tz.2 y.1=true then(adr y.2 a).bind (stA y.2 (zay y.1))else none
@[go_sem] theorem zQ8 :stE P t a x pf=(tk P t).bind fun tz=>(zbg (ezT P t) pf x).bind fun y=>if zpa tz.2 y.1=true then(adr y.2 a).bind (stA y.2 (zay y.1))else none:=(rfl)
@[go_sem ↓] theorem zFX :pw1 P c co ty (.store t a x) none k Q pf=qf P c (stE P t a x pf) k Q:=by
 show zkx P co t a x none (pw P c k Q) pf=_;unfold zkx stE;cases tk P t with
 |none=>rfl
 |some tz=>
  cases zbg (ezT P t) pf x with
  |none=>rfl
  |some y=>
   obtain⟨y,pf1⟩:=y;obtain⟨b,sz⟩:=tz;simp only[Option.bind_some];by_cases h:zpa sz y=true
   ·rw[if_pos h];cases ha:adr pf1 a with
    |none=>simp[zjp,qf]
    |some ad=>cases ad with
     |pl s p i j=>cases hp:zeo pf1 s p i j (zay y)<;>simp[zjp,qf,h,stA,hp]
     |fz row=>simp[zjp,qf,stA]
   ·rw[if_neg h];simp[qf,h]
def alE(P:Program)(co:Cfg)(e:TypeId)(d:Nat)(pf:PFr):Option PFr:=
 (zr P e).bind fun z=>if ckd co d .skip=true then some (if co.hp.contains d=true then pf.put d (.v (.bx z))else pf.put d (.bl z))else none
@[go_sem] theorem zSw{d:Nat}(h:zr P e=some z)(h1:ckd co d .skip=true)(h2:co.hp.contains d=true):alE P co e d pf=some (pf.put d (.v (.bx z))):=by unfold alE;rw[h,Option.bind_some,if_pos h1,if_pos h2]
@[go_sem] theorem zTQ{d:Nat}(h:zr P e=some z)(h1:ckd co d .skip=true)(h2:co.hp.contains d=false):alE P co e d pf=some (pf.put d (.bl z)):=by unfold alE;rw[h,Option.bind_some,if_pos h1,if_neg (by rw[h2];simp)]
@[go_sem ↓] theorem zFq{d:Tmp}:pw1 P c co ty (.alloc e) (some d) k Q pf=qf P c (alE P co e d pf) k Q:=by
 show zkt P co e (some d) (pw P c k Q) pf=_;unfold zkt alE;cases zr P e with
 |none=>rfl
 |some z=>
  simp only[Option.bind_some];by_cases h:ckd co d .skip=true
  ·rw[if_pos h];by_cases h2:co.hp.contains d=true
   ·simp only[h,h2,qf,if_true,true_and]
   ·simp only[h,h2,qf,true_and];simp
  ·rw[if_neg h];simp[qf,h]
def bxE(P:Program)(co:Cfg)(e:TypeId)(x:Operand)(d:Nat)(pf:PFr):Option PFr:=
 (tk P e).bind fun _=>(zbg (ezT P e) pf x).bind fun y=>if(!lsO pf x&&zcc y.1&&ckd co d .skip)=true then some (if co.hp.contains d=true then(if co.fz.contains d=true then(y.2.put d (.v (.bx (zay y.1)))).put d (.v (drop (.bx (zay y.1))))else y.2.put d (.v (.bx (zay y.1))))else y.2.put d (.bl (zay y.1)))else none
@[go_sem] theorem zSn{d:Nat}:bxE P co e x d pf=(tk P e).bind fun _=>(zbg (ezT P e) pf x).bind fun y=>if(!lsO pf x&&zcc y.1&&ckd co d .skip)=true then some (if co.hp.contains d=true then(if co.fz.contains d=true then(y.2.put d (.v (.bx (zay y.1)))).put d (.v (drop (.bx (zay y.1))))else y.2.put d (.v (.bx (zay y.1))))else y.2.put d (.bl (zay y.1)))else none:=(rfl)
@[go_sem ↓] theorem zLJ{d:Tmp}:pw1 P c co ty (.box e x) (some d) k Q pf=qf P c (bxE P co e x d pf) k Q:=by
 show zpP P co e x (some d) (pw P c k Q) pf=_;unfold zpP bxE;cases tk P e with
 |none=>rfl
 |some z=>
  cases zbg (ezT P e) pf x with
  |none=>rfl
  |some y=>
   obtain⟨y,pf1⟩:=y;simp only[Option.bind_some];by_cases h:(!lsO pf x&&zcc y&&ckd co d .skip)=true
   ·rw[if_pos h];simp only[Bool.and_eq_true,Bool.not_eq_true']at h;by_cases h2:co.hp.contains d=true
    ·by_cases h4:co.fz.contains d=true
     ·simp only[h.1.1,h.1.2,h.2,h2,h4,qf,if_true,true_and]
     ·simp only[h.1.1,h.1.2,h.2,h2,h4,qf,if_true,true_and];simp
    ·simp only[h.1.1,h.1.2,h.2,h2,qf,true_and];simp
   ·rw[if_neg h];simp only[qf,eq_iff_iff,iff_false];rintro⟨h1,h2,h3,_⟩;exact h (by rw[h1,h2,h3];rfl)
def zyo(P:Program)(co:Cfg)(t:TypeId)(len:Nat)(ps:List (Nat×Operand))(d:Nat)(pf:PFr):Option PFr:=
 (ez P t).bind fun z=>(zgr pf (ps.map fun p=>(zao P t p.1,p.2))).bind fun y=>if len*z.1≤2^24∧ckd co d .skip=true then(zhp z.1 ((ps.map (·.1)).zip (drx co d y.1)) (List.replicate len z.2.2)).map fun rows=>y.2.put d (.ls z.1 rows)else none
@[go_sem] theorem zOl{d:Nat}(h:co.fz=[]):drx co d xs=xs:=by simp[drx,h]
@[go_sem] theorem zU4{d:Nat}:drx co d xs=if co.fz.contains (d+3*co.nt)=true then xs.map drop else xs:=(rfl)
@[go_sem] theorem zOO{ps:List (Nat×Operand)}{d:Nat}:zyo P co t len ps d pf=(ez P t).bind fun z=>(zgr pf (ps.map fun p=>(zao P t p.1,p.2))).bind fun y=>if len*z.1≤2^24∧ckd co d .skip=true then(zhp z.1 ((ps.map (·.1)).zip (drx co d y.1)) (List.replicate len z.2.2)).map fun rows=>y.2.put d (.ls z.1 rows)else none:=(rfl)
@[go_sem ↓] theorem zAd{ps:Array (Nat×Operand)}{d:Tmp}:pw1 P c co ty (.buildSlice t len ps) (some d) k Q pf=if mkd co d=true then qv P c co ((zrx P t len ps.toList pf).map fun y=>(y,pf)) (some d) k Q else qf P c (zyo P co t len ps.toList d pf) k Q:=by
 show zpE P co t len ps.toList (some d) (pw P c k Q) pf=_;unfold zpE zyo;by_cases hm:mkd co d=true
 ·rw[if_pos hm,if_pos (show zxJ co (some d)=true from hm)];unfold zoa;cases zrx P t len ps.toList pf<;>rfl
 rw[if_neg hm,if_neg (show¬zxJ co (some d)=true from hm)];cases ez P t with
 |none=>rfl
 |some z=>
  cases zgr pf (ps.toList.map fun p=>(zao P t p.1,p.2))with
  |none=>rfl
  |some y=>
   obtain⟨xs,pf1⟩:=y;simp only[Option.bind_some];by_cases h:len*z.1≤2^24∧ckd co d .skip=true
   ·rw[if_pos h];cases zhp z.1 ((ps.toList.map (·.1)).zip (drx co d xs)) (List.replicate len z.2.2)<;>simp only[zqF,qf,h.1,h.2,true_and,and_false,Option.map_none,Option.map_some]
   ·rw[if_neg h];simp only[qf,eq_iff_iff,iff_false];rintro⟨h1,h2⟩;cases hf:zhp z.1 ((ps.toList.map (·.1)).zip (drx co d xs)) (List.replicate len z.2.2)with
    |none=>rw[hf]at h2;exact h2
    |some r=>rw[hf]at h2;exact h ⟨h1,h2.1⟩
@[go_sem ↓] theorem zGs{ps:Array (Nat×Operand)}:pw1 P c co ty (.build t ps) d k Q pf=
 qv P c co ((zdu P t).bind fun b=>(zgr pf (ps.toList.map fun p=>(zao P t p.1,p.2))).bind fun y=>(ziK b.1 ((ps.toList.map (·.1)).zip y.1) b.2).map fun row=>(.v (.agg row),y.2)) d k Q:=by
 show zkJ P co t ps.toList d (pw P c k Q) pf=_;unfold zkJ;cases zdu P t with
 |none=>rfl
 |some b=>
  cases zgr pf (ps.toList.map fun p=>(zao P t p.1,p.2))with
  |none=>rfl
  |some y=>
   simp only[Option.bind_some];cases ziK b.1 ((ps.toList.map (·.1)).zip y.1) b.2<;>rfl
def pkV(b x y:Option Value):Option PV:=
 match b with
 |some (.bool true)=>x.bind zeQ
 |some (.bool false)=>y.bind zeQ
 |_=>none
@[go_sem ↓] theorem zLe{b y:Operand}:pw1 P c co ty (.pick b x y) d k Q pf=qv P c co ((pkV (rdS pf b) (rdS pf x) (rdS pf y)).map fun z=>(.v z,pf)) d k Q:=by
 show zmJ co b x y d (pw P c k Q) pf=_;unfold zmJ zvp pkV;cases rdS pf b with
 |none=>rfl
 |some v=>
  cases v with
  |bool b=>
   cases b
   ·simp only[];cases (rdS pf y).bind zeQ<;>rfl
   ·simp only[];cases (rdS pf x).bind zeQ<;>rfl
  |_=>rfl
@[go_sem] theorem zVe{x y:Option Value}:pkV (some (.bool true)) x y=x.bind zeQ:=(rfl)
@[go_sem] theorem zTP{x y:Option Value}:pkV (some (.bool false)) x y=y.bind zeQ:=(rfl)
@[go_sem] theorem zPf{j:IntKind}{m n:Int}:pkV (some (.bool b)) (some (.int j m)) (some (.int j n))=some (.int j (if b=true then m else n)):=by cases b<;>rfl
@[go_sem] theorem zKv{m n:Bool}:pkV (some (.bool b)) (some (.bool m)) (some (.bool n))=some (.bool (if b=true then m else n)):=by cases b<;>rfl
@[go_sem] theorem zOH{m n:ByteArray}:pkV (some (.bool b)) (some (.string m)) (some (.string n))=some (.str (if b=true then m else n)):=by cases b<;>rfl
def mkV(b:Bool)(z:Nat×Nat×List PV)(pf:PFr):Option Value→Option Value→Option (PF×PFr)
 |some (.int .i64 n),some (.int .i64 m)=>if 0≤n∧n≤m∧z.2.1*m≤140737488355328∧m≤4611686018427387904 then some (.v (.sl true z.1 (List.replicate n.toNat (uz b z.2.2))),pf)else none
 |_,_=>none
@[go_sem] theorem zL4{z:Nat×Nat×List PV}{n m:Int}:mkV b z pf (some (.int .i64 n)) (some (.int .i64 m))=if 0≤n∧n≤m∧z.2.1*m≤140737488355328∧m≤4611686018427387904 then some (.v (.sl true z.1 (List.replicate n.toNat (uz b z.2.2))),pf)else none:=(rfl)
@[go_sem] theorem zIn{d:Nat}:nzB co (some d)=co.fz.contains (d+co.nt):=(rfl)
@[go_sem] theorem zHk:nzB co none=false:=(rfl)
@[go_sem] theorem zH8 :uz false z=z:=(rfl)
@[go_sem] theorem zMw :uz true z=z.map ud:=(rfl)
@[go_sem] theorem zT8{o:Bool}{e:Nat}:ud (.sl o e [])=.sl true e []:=(rfl)
@[go_sem] theorem zP5{j:IntKind}{n:Int}:ud (.int j n)=.int j n:=(rfl)
@[go_sem] theorem zLV :ud (.bool b)=.bool b:=(rfl)
@[go_sem] theorem zQ7{b:ByteArray}:ud (.str b)=.str b:=(rfl)
@[go_sem ↓] theorem zAn{l cc:Operand}:pw1 P c co ty (.makeSlice t l cc) d k Q pf=qv P c co ((ez P t).bind fun z=>mkV (nzB co d) z pf (rdS pf l) (rdS pf cc)) d k Q:=by
 show zmS P co t l cc d (pw P c k Q) pf=_;unfold zmS;cases ez P t with
 |none=>rfl
 |some z=>
  simp only[Option.bind_some];generalize rdS pf l=x1;generalize rdS pf cc=x2;unfold zvn mkV;split
  ·rename_i n m;simp only[];by_cases h:0≤n∧n≤m∧z.2.1*m≤140737488355328∧m≤4611686018427387904
   ·rw[if_pos h];simp only[h,true_and];rfl
   ·rw[if_neg h];simp only[qv,eq_iff_iff,iff_false];rintro⟨a1,_⟩;exact h a1
  ·rename_i h1;split
   ·rename_i e1;exact absurd rfl (h1 _ _ rfl)
   ·rfl
theorem zt2{u:TypeId}{op:BinOp}{y:Operand}{d:Tmp}{q:Bool}(hy:zhi y=true)(hp:co.hp.isEmpty=false)(he:(zaw P t).isSome=true)(hq:zrS op=some q)(hx:zyc pf x=some rows)
(hk:∀b,(rows≠[]→b= !q)→qv P c co (some (.v (.bool b),pf)) (some d) k Q):pw1 P c co ty (.binOp op t x y u) (some d) k Q pf:=by
 show pop P co ⟨some d,.binOp op t x y u,ty, "",#[],none⟩ (pw P c k Q) pf;simp only[pop,hy,if_true];refine⟨(by intro e;rw[e]at hp;cases hp),?_⟩;cases x with
 |tmp s=>
  unfold zle;simp only[hq,hx];exact⟨he,fun b hb=>hk b hb⟩
 |_=>simp[zyc]at hx
@[go_sem ↓] theorem zAN{fn:Fn}{xs ys:Array Operand}:pw1 P c co ty (.makeFunc fn xs ys) d k Q pf=
 qv P c co (if clB co d=true then(clS pf fn xs.toList ys.toList).bind (clM co pf)else(zi0 (!co.hp.isEmpty) pf (xs.toList++ys.toList)).map fun vs=>(.v (.func fn (vs.1.take xs.toList.length) (vs.1.drop xs.toList.length)),vs.2)) d k Q:=by
 show zmT co fn xs.toList ys.toList d (pw P c k Q) pf=_;unfold zmT;split
 ·cases (clS pf fn xs.toList ys.toList).bind (clM co pf)<;>rfl
 cases zi0 (!co.hp.isEmpty) pf (xs.toList++ys.toList)<;>rfl
def mvF(co:Cfg)(d:Option Tmp)(t:Nat)(pf:PFr):PF→Option (PF×PFr)
 | .v x=>if isJ x=true then none else some (if zaC x=true then .rf t []else .v x,pf)
 | .ls es rows=>if t<co.nt then some (.rf t [],(pf.upd t (.v (.sl true es rows))).kill t 0)else none
 | .bl _=>some (.pt t [] 0 0,pf)
 | .skip=>none
 | .as .. =>none
 | .pt s p i j=>if lyB co d=true then lyR pf t s p i j (pf s)else some (.pt s p i j,pf)
 |y=>some (y,pf)
@[go_sem] theorem zSu{co:Cfg}{t:Nat}{x:PV}(h:isJ x=false):mvF co d t pf (.v x)=some (if zaC x=true then .rf t []else .v x,pf):=by simp[mvF,h]
@[go_sem] theorem zQC{co:Cfg}{t:Nat}(h:t<co.nt):mvF co d t pf (.ls es rows)=some (.rf t [],(pf.upd t (.v (.sl true es rows))).kill t 0):=by simp[mvF,h]
@[go_sem] theorem zRz{co:Cfg}{t:Nat}:mvF co d t pf (.bl row)=some (.pt t [] 0 0,pf):=(rfl)
@[go_sem] theorem zRh{co:Cfg}{t:Nat}:mvF co d t pf (.pt s p i j)=if lyB co d=true then lyR pf t s p i j (pf s)else some (.pt s p i j,pf):=(rfl)
@[go_sem] theorem zUp{co:Cfg}{d:Nat}:lyB co (some d)=(!co.hp.isEmpty&&co.fz.contains (d+5*co.nt)):=(rfl)
@[go_sem] theorem zSj{t:Nat}:lyR pf t s [] 0 0 (.bl row)=some (.rf s [],((pf.upd s (.v (.bx row))).kill s 0).put t (.rf s [])):=(rfl)
@[go_sem] theorem zRe{co:Cfg}{t:Nat}:mvF co d t pf (.rf s p)=some (.rf s p,pf):=(rfl)
@[go_sem] theorem zQN{co:Cfg}{t:Nat}:mvF co d t pf (.rv s p lo hi)=some (.rv s p lo hi,pf):=(rfl)
@[go_sem] theorem zRH{co:Cfg}{t:Nat}:mvF co d t pf (.ra s p i j n)=some (.ra s p i j n,pf):=(rfl)
@[go_sem] theorem zQS{co:Cfg}{t:Nat}:mvF co d t pf (.cl s g us)=some (.cl s g us,pf):=(rfl)
@[go_sem] theorem zTT{co:Cfg}{d:Nat}:clB co (some d)=co.fz.contains (d+4*co.nt):=(rfl)
@[go_sem] theorem zU9{ys:List Operand}:clS pf (.func g) [] (.tmp s::ys)=match pf s with| .v (.bx _)=>some (g,s,ys)|_=>none:=(rfl)
@[go_sem] theorem zTN{ys:List Operand}{co:Cfg}:clM co pf (g,s,ys)=(zi0 (!co.hp.isEmpty) pf ys).map fun y=>(.cl s g y.1,y.2):=(rfl)
@[go_sem] theorem zUh{t:Tmp}:clO pf (.tmp t)=clF (pf t):=(rfl)
@[go_sem] theorem zQ3 :clF (.cl s g us)=some (s,g,us):=(rfl)
@[go_sem ↓] theorem zEb{t:Tmp}:pw1 P c co ty (.move (.tmp t)) d k Q pf=qv P c co (mvF co d t pf (pf t)) d k Q:=by
 show zgK co t d (pw P c k Q) pf (pf t)=_;unfold zgK mvF;cases pf t with
 |v x=>
  cases hj:isJ x
  ·cases ho:zaC x<;>simp[hj,ho,qv]
  ·simp[hj,qv]
 |ls es rows=>
  by_cases h:t<co.nt
  ·simp[h,qv]
  ·simp[h,qv]
 |pt s p i j=>
  cases hl:lyB co d
  ·simp[qv]
  ·simp only[if_true];cases lyR pf t s p i j (pf s)<;>rfl
 |_=>rfl
def tkV(x:Option (PV×PFr)):Option (PF×PFr):=x.map fun y=>(.v y.1,y.2)
@[go_sem] theorem zHP :tkV (some (y,pf))=some (.v y,pf):=(rfl)
@[go_sem ↓] theorem zCZ{k0:Value}:pw1 P c co ty (.move (.const k0)) d k Q pf=qv P c co (tkV (zbg (ezT P ty) pf (.const k0))) d k Q:=by
 show zhZ (ezT P ty) co (.const k0) d (pw P c k Q) pf=_;unfold zhZ;simp only[];cases zbg (ezT P ty) pf (.const k0)<;>rfl
@[go_sem ↓] theorem zDs :pw1 P c co ty (.move (.func g)) d k Q pf=qv P c co (tkV (zbg (ezT P ty) pf (.func g))) d k Q:=by
 show zhZ (ezT P ty) co (.func g) d (pw P c k Q) pf=_;unfold zhZ;simp only[];cases zbg (ezT P ty) pf (.func g)<;>rfl
@[go_sem ↓] theorem zE9 :pw1 P c co ty (.assign x) d k Q pf=qv P c co (tkA (znv co pf d x) pf (tkV (zbg (ezT P ty) pf x))) d k Q:=by
 show zjo (ezT P ty) co x d (pw P c k Q) pf=_;unfold zjo;cases znv co pf d x with
 |some y=>rfl
 |none=>cases zbg (ezT P ty) pf x<;>rfl
@[go_sem] theorem zRQ{d:Nat}{t:Tmp}:znv co pf (some d) (.tmp t)=if mkd co d=true then zpg t (pf t)else none:=(rfl)
@[go_sem] theorem zMG{t:Nat}:zpg t (.rf s p)=some (.rf s p):=(rfl)
@[go_sem] theorem zLr{t:Nat}:zpg t (.bl row)=some (.pt t [] 0 0):=(rfl)
@[go_sem] theorem zOw{t:Nat}:zpg t (.cl s g us)=some (.cl s g us):=(rfl)
@[go_sem] theorem zQE{x:Value}:znv co pf d (.const x)=none:=by cases d<;>rfl
@[go_sem] theorem zRB{x:FuncId}:znv co pf d (.func x)=none:=by cases d<;>rfl
def exV(pf:PFr)(s:Nat)(xs:List PV)(i:Nat):Option PV→Option (PF×PFr)
 |some y=>if isJ y=true then none else some (.v y,if zaC y=true then(pf.upd s (.v (.tup (xs.set i .junk)))).kill s 1 else pf)
 |none=>none
@[go_sem] theorem zHR(h:isJ y=false):exV pf s xs i (some y)=some (.v y,if zaC y=true then(pf.upd s (.v (.tup (xs.set i .junk)))).kill s 1 else pf):=by simp[exV,h]
@[go_sem] theorem zOD{t:Tmp}:exO pf (.tmp t)=match pf t with
 | .rf s []=>exR s (pf s)
 |y=>exR t y:=rfl
@[go_sem] theorem zSL :exR s (.v (.tup xs))=some (s,xs):=(rfl)
@[go_sem ↓] theorem zBN :pw1 P c co ty (.extract x i) d k Q pf=qv P c co ((exO pf x).bind fun a=>if a.1<co.nt then exV pf a.1 a.2 i a.2[i]? else none) d k Q:=by
 show ziE co x i d (pw P c k Q) pf=_;unfold ziE;cases exO pf x with
 |none=>rfl
 |some a=>
  obtain⟨s,xs⟩:=a;simp only[Option.bind_some];by_cases h:s<co.nt
  ·rw[if_pos h];simp only[h,true_and];cases xs[i]? with
   |none=>rfl
   |some y=>
    cases hj:isJ y
    ·cases ho:zaC y<;>simp[pex,exV,hj,ho,qv]
    ·simp[pex,exV,hj,qv]
  ·rw[if_neg h];simp[h,qv]
def slE(es t:Nat)(pf:PFr)(l h m:Option (Option Nat)):Option (PF×PFr):=
 match l,h,m with
 |some l,some h,some none=>(slF es (l.getD 0) h pf t (pf t)).map fun y=>(y,pf)
 |some l,some (some h),some (some m)=>((za9 pf (pf t)).bind lenV).bind fun rows=>(slF es (l.getD 0) (some h) pf t (pf t)).bind fun _=>if l.getD 0=h∧h=m∧m≤rows.length then some (.v (.sl true es []),pf)else none
 |_,_,_=>none
@[go_sem] theorem zDX{t:Nat}{l h:Option Nat}:slE es t pf (some l) (some h) (some none)=(slF es (l.getD 0) h pf t (pf t)).map fun y=>(y,pf):=by cases h<;>rfl
@[go_sem] theorem zDC{t:Nat}{l:Option Nat}{h m:Nat}:slE es t pf (some l) (some (some h)) (some (some m))=((za9 pf (pf t)).bind lenV).bind fun rows=>(slF es (l.getD 0) (some h) pf t (pf t)).bind fun _=>if l.getD 0=h∧h=m∧m≤rows.length then some (.v (.sl true es []),pf)else none:=(rfl)
theorem zzf{t:Nat}{l h m:Option (Option Nat)}:zpk co es t d (pw P c k Q) pf l h m=qv P c co (slE es t pf l h m) d k Q:=by
 cases l with
 |none=>rfl
 |some l=>
  cases h with
  |none=>rfl
  |some h=>
   cases m with
   |none=>rfl
   |some m=>
    cases m with
    |none=>
     rw[zDX];cases h<;>simp only[zpk]<;>cases slF es (l.getD 0) _ pf t (pf t)<;>rfl
    |some m=>
     cases h with
     |none=>rfl
     |some h=>
      rw[zDC];simp only[zpk];cases (za9 pf (pf t)).bind lenV with
      |none=>rfl
      |some rows=>
       simp only[Option.bind_some];cases slF es (l.getD 0) (some h) pf t (pf t)with
       |none=>simp[qv]
       |some y=>
        by_cases hh:l.getD 0=h∧h=m∧m≤rows.length
        ·simp[hh,qv]
        ·simp[hh,qv]
@[go_sem ↓] theorem zFJ{x:Tmp}{l h m:Option Operand}(hs:zaE P t=false):pw1 P c co ty (.slice t (.tmp x) l h m) d k Q pf=qv P c co ((esz P t).bind fun es=>slE es x pf (rdB pf l) (rdB pf h) (rdB pf m)) d k Q:=by
 show(if zaE P t=true then zeP P co ⟨d,.slice t (.tmp x) l h m,ty, "",#[],none⟩ (pw P c k Q) pf else zks P co t (.tmp x) l h m d (pw P c k Q) pf)=_;rw[if_neg (by simp[hs])];unfold zks;cases esz P t with
 |none=>rfl
 |some es=>exact zzf
def qln(P:Program)(c co:Cfg)(x:Option (List (List PV)))(d:Option Tmp)(k:List PIt)(Q:Exit→PFr→Prop)(pf:PFr):Prop:=
 match x with
 |some rows=>rows.length≤zcx→qv P c co (some (.v (.int .i64 rows.length),pf)) d k Q
 |none=>False
theorem zwc{x x':Option (List (List PV))}{d:Option Tmp}(h:x=x'):qln P c co x d k Q pf=qln P c co x' d k Q pf:=by rw[h]
attribute [congr] zwc
def qlm(P:Program)(c co:Cfg)(t:TypeId)(d:Option Tmp)(k:List PIt)(Q:Exit→PFr→Prop)(pf:PFr)(x:Nat):PF→Prop
 | .ls es rows=>qln P c co ((zaw P t).bind fun _=>some rows) d k Q ((pf.upd x (.v (.sl true es rows))).kill x 0)
 |y=>qln P c co ((zaw P t).bind fun _=>(za9 pf y).bind lenV) d k Q pf
theorem zwZ{t:TypeId}{d:Option Tmp}{x:Nat}{y y':PF}(h:y=y'):qlm P c co t d k Q pf x y=qlm P c co t d k Q pf x y':=by rw[h]
attribute [congr] zwZ
@[go_sem ↓] theorem zRZ{x:Nat}:qlm P c co t d k Q pf x (.ls es rows)=qln P c co ((zaw P t).bind fun _=>some rows) d k Q ((pf.upd x (.v (.sl true es rows))).kill x 0):=rfl
@[go_sem ↓] theorem zTr{x:Nat}:qlm P c co t d k Q pf x (.v y)=qln P c co ((zaw P t).bind fun _=>lenV y) d k Q pf:=rfl
@[go_sem ↓] theorem zR1{x:Nat}:qlm P c co t d k Q pf x (.rf s p)=qln P c co ((zaw P t).bind fun _=>(za9 pf (.rf s p)).bind lenV) d k Q pf:=rfl
@[go_sem ↓] theorem zRN{x:Nat}:qlm P c co t d k Q pf x (.rv s p lo hi)=qln P c co ((zaw P t).bind fun _=>(za9 pf (.rv s p lo hi)).bind lenV) d k Q pf:=rfl
@[go_sem ↓] theorem zNt{x:Tmp}(hs:zaE P t=false):pw1 P c co ty (.call ⟨.builtin .len,#[.tmp x],#[t]⟩) d k Q pf=qlm P c co t d k Q pf x (pf x):=by
 show(if zaE P t=true then zeP P co ⟨d,.call ⟨.builtin .len,#[.tmp x],#[t]⟩,ty, "",#[],none⟩ (pw P c k Q) pf else zn2 P co t (.tmp x) d (pw P c k Q) pf)=_;rw[if_neg (by simp[hs])];unfold zn2 qlm;cases hpt:pf x with
 |ls es rows=>
  have:((pf.upd x (.v (.sl true es rows))).kill x 0) x=.v (.sl true es rows):=by simp[PFr.kill,PFr.upd,zaW,zam]
  simp only[lsM,hpt,this,za9,lenV,Option.bind_some,qln,qv];cases zaw P t<;>rfl
 |_=>
  simp only[lsM,hpt,qln,qv];generalize (zaw P t).bind (fun _=>(za9 pf _).bind lenV)=o;cases o<;>rfl
@[go_sem] theorem zPh{s:ByteArray}(hs:zaE P t=true):zaP P (.call ⟨.builtin .len,#[x],#[t]⟩) [.string s]=some (.int .i64 s.size):=by simp[zaP,Am.lenV,hs]
@[go_sem ↓] theorem zIi(hs:zaE P t=true):pw1 P c co ty (.call ⟨.builtin .len,#[x],#[t]⟩) d k Q pf=qv P c co (ev1 (fun v=>zaP P (.call ⟨.builtin .len,#[x],#[t]⟩) [v]) (rdS pf x) pf) d k Q:=by
 show(if zaE P t=true then zeP P co ⟨d,.call ⟨.builtin .len,#[x],#[t]⟩,ty, "",#[],none⟩ (pw P c k Q) pf else zn2 P co t x d (pw P c k Q) pf)=_;rw[if_pos hs];refine zhy (o:=⟨d,.call ⟨.builtin .len,#[x],#[t]⟩,ty, "",#[],none⟩) ?_;simp only[zaJ,zh5,Option.bind_some];cases rdS pf x<;>simp[ev1]
def apE(P:Program)(t:TypeId)(s x:Operand)(pf:PFr):Option (PF×PFr):=
 (ez P t).bind fun z=>(zbg z.1 pf s).bind fun b=>(bsR z.1 b.1).bind fun rows=>(srO z.1 b.2 x).bind fun r=>
   if zeK r.1=true∧(rows.length+r.1.length)*z.2.1≤140737488355328∧rows.length+r.1.length≤4611686018427387904 then some (.v (.sl true z.1 (rows++r.1)),r.2)else none
@[go_sem] theorem zQd{s:Operand}:apE P t s x pf=(ez P t).bind fun z=>(zbg z.1 pf s).bind fun b=>(bsR z.1 b.1).bind fun rows=>(srO z.1 b.2 x).bind fun r=>
 if zeK r.1=true∧(rows.length+r.1.length)*z.2.1≤140737488355328∧rows.length+r.1.length≤4611686018427387904 then some (.v (.sl true z.1 (rows++r.1)),r.2)else none:=rfl
@[go_sem ↓] theorem zD3{s:Operand}:pw1 P c co ty (.call ⟨.builtin .append,#[s,x],#[t,t]⟩) d k Q pf=qv P c co (apE P t s x pf) d k Q:=by
 show(if t=t then zpm P co t s x d (pw P c k Q) pf else zos P co t t s x d (pw P c k Q) pf)=_;rw[if_pos rfl];unfold zpm apE;cases ez P t with
 |none=>rfl
 |some z=>
  simp only[Option.bind_some];cases zbg z.1 pf s with
  |none=>rfl
  |some b=>
   obtain⟨b,pf1⟩:=b;simp only[Option.bind_some,zqQ];cases bsR z.1 b with
   |none=>rfl
   |some rows=>
    simp only[Option.bind_some];cases srO z.1 pf1 x with
    |none=>rfl
    |some r=>
     obtain⟨rows2,pf2⟩:=r;simp only[Option.bind_some,zqG];by_cases h:zeK rows2=true∧(rows.length+rows2.length)*z.2.1≤140737488355328∧rows.length+rows2.length≤4611686018427387904
     ·rw[if_pos h];simp only[h.1,h.2.1,h.2.2,true_and,qv]
     ·rw[if_neg h];simp only[qv,eq_iff_iff,iff_false];rintro⟨a1,a2,_⟩;exact h ⟨a1,a2⟩
theorem zAI{b:Nat}{kk:IntKind}{n:Int}{rows2:List (List PV)}(hh:co.hp≠[])(hq:pf q=.rv s [] lo hi)(hz:ez P t=some (1,b,[.int kk n]))(hs:pf s=.v (.sl true 1 rows))(hl:lo<hi∧hi≤rows.length)
(hr:rows.take lo++(List.replicate (hi-lo) [.int kk n]++rows.drop hi)=rows2)(hk:pw P c k Q ((pf.upd s (.v (.sl true 1 rows2))).kill s 1)):pw1 P c co ty (.call ⟨.builtin .clear,#[.tmp q],#[t]⟩) none k Q pf:=by
 show none=none∧zuo co (pw P c k Q) (zud P t pf (pf q));refine⟨rfl,?_⟩;subst hr;simp only[zud,hq,hz,hs,if_pos hl];exact⟨hh,hk⟩
theorem zzS{n:Int}{z:Nat×Nat×List PV}(h:zuK P g t)(hz:ez P t=some z)(hn:rdS pf x=some (.int .i64 n))(hb:0≤n∧z.2.1*n≤140737488355328∧n≤4611686018427387904)
(hk:qv P c co (some (.v (.sl true z.1 []),pf)) d k Q):pw1 P c co ty (.call ⟨.value (.func g),#[.const (.slice none 0 0),x],ts⟩) d k Q pf:=.inr (.inl ⟨g,x,t,n,z,rfl,rfl,h,hn,hz,hb,hk⟩)
theorem zzh(ms:List Md){l:List (Md×Nat×Operand)}{ys:List PV}{pf1:PFr}{as':List (Md×PV)}
(hm:ms.length=args.toList.length)(hl:ms.zip (zdt P args.toList ts.toList)=l)(ha:zic pf l=some (ys,pf1))(hf:fnO pf1 f=some (g,xs,us))(hc:cargs pf1 l ys=some as)
(has:xs.map (fun x=>(Md.sh,x))++as++us.map (fun x=>(Md.sh,x))=as')(h:PCalls P g as' R)
(hk:∀r outs,R r outs→(l.any (zii pf1)=false∨(zaU r&&outs.all zaU)=true)∧qv P c co ((back co.nt pf1 l (outs.drop xs.length)).map fun p=>(.v r,p)) d k Q):pw1 P c co ty (.call ⟨.value f,args,ts⟩) d k Q pf:=by
 refine .inl ⟨ms,hm,?_⟩;rw[hl,ha];show ziQ P co d (pw P c k Q) pf1 l (fnO pf1 f) (cargs pf1 l ys);rw[hf,hc];show PCalls P g _ _;rw[has];refine h.mono fun r outs hr=>?_
 obtain⟨h1,h2⟩:=hk r outs hr;refine⟨h1,?_⟩;cases hb:back co.nt pf1 l (outs.drop xs.length)with
 |none=>rw[hb]at h2;exact h2
 |some p=>rw[hb]at h2;exact h2
theorem zzH{id:Nat}{ops:Array Oper}(D:List DE){L:List (DE×Oper)}(h1:P.follows .mixedOrders=true)(h2:zjv D ops.toList=true)(hL:D.map (fun x=>(x,ops.toList.getD x.i default))=L)
(h:pw P c (.dops (ops.toList.map (·.dst)) L::k) Q pf):pw P c (.code (.region id ops true)::k) Q pf:=by
 subst hL;exact⟨h1,0,D,h2,h⟩
theorem zxm{id:Nat}{ops:Array Oper}(a b:Nat)(D D':List DE){L L':List (DE×Oper)}(h1:P.follows .mixedOrders=true)(hab:a≠b)(h2:zjv D ops.toList [(a,b)]=true)(h2':zjv D' ops.toList [(b,a)]=true)(hL:D.map (fun x=>(x,ops.toList.getD x.i default))=L)(hL':D'.map (fun x=>(x,ops.toList.getD x.i default))=L')
(h:pw P c (.dops (ops.toList.map (·.dst)) L::k) Q pf)(h':pw P c (.dops (ops.toList.map (·.dst)) L'::k) Q pf):pw P c (.code (.region id ops true)::k) Q pf:=by
 subst hL;subst hL';exact⟨h1,1,a,b,hab,⟨D,h2,h⟩,⟨D',h2',h'⟩⟩
def zyK(D:List DE)(ops:List Oper):List (Nat×Nat)→List (Nat×Nat)→Bool
 |[],xs=>zjv D ops xs
 |p::ps,xs=>zyK D ops ps ((p.1,p.2)::xs)&&zyK D ops ps ((p.2,p.1)::xs)
@[go_sem ↓] theorem zBQ :pw P c (.dops pre []::k) Q pf=pw P c k Q pf:=rfl
def zbv:Op→Bool
 | .call ⟨.value _,_,_⟩=>true
 |_=>false
def pwd(P:Program)(c:Cfg)(ext:Bool)(ty:TypeId)(op:Op)(d:Option Tmp)(k:List PIt)(Q:Exit→PFr→Prop)(pf:PFr):Prop:=ziZ P c ext ⟨d,op,ty, "",#[],none⟩ (pw P c k Q) pf
theorem zt0{o o':Oper}{K:PFr→Prop}(h:o.op=o'.op)(hd:o.dst=o'.dst)(ht:o.type=o'.type):ziZ P c ext o K pf=ziZ P c ext o' K pf:=by
 obtain⟨d,op,ty,ps,af,g⟩:=o;obtain⟨d',op',ty',ps',af',g'⟩:=o';simp only at h hd ht;subst h;subst hd;subst ht;rfl
@[go_sem ↓] theorem zSi{e:DE}{ps:String}{af:Array Edge}{l:List (DE×Oper)}(h:(zlw pf e.rg e.ls e.sl&&zny pf e.mr)=true):
 pw P c (.dops pre ((e,⟨d,op,ty,ps,af,none⟩)::l)::k) Q pf=pwd P c e.ex ty op d (.dops pre l::k) Q pf:=by
 show zo0 P c pre e ⟨d,op,ty,ps,af,none⟩ (pw P c (.dops pre l::k) Q) pf=_;simp only[zo0,h,true_and,zok];exact zt0 rfl rfl rfl
def ze4(P:Program)(c:Cfg)(y:Option (Option Bool))(b:Bool)(ext:Bool)(ty:TypeId)(op:Op)(d:Option Tmp)(k:List PIt)(Q:Exit→PFr→Prop)(pf:PFr):Prop:=
 pgo c b d (pwd P c ext ty op d k Q pf) (pw P c k Q) pf y
theorem zuR{y y':Option (Option Bool)}{b ext:Bool}{ty:TypeId}{op:Op}{d:Option Tmp}(h:y=y'):ze4 P c y b ext ty op d k Q pf=ze4 P c y' b ext ty op d k Q pf:=by rw[h]
attribute [congr] zuR
@[go_sem ↓] theorem zOE{e:DE}{ps:String}{af:Array Edge}{l:List (DE×Oper)}(h:(zlw pf e.rg e.ls e.sl&&zny pf e.mr)=true):
 pw P c (.dops pre ((e,⟨d,op,ty,ps,af,some (j,b)⟩)::l)::k) Q pf=ze4 P c (ygP pf pre[j]?) b e.ex ty op d (.dops pre l::k) Q pf:=by
 show zo0 P c pre e ⟨d,op,ty,ps,af,some (j,b)⟩ (pw P c (.dops pre l::k) Q) pf=_;simp only[zo0,h,true_and,zok];unfold ze4 pwd;rw[zt0 (o:=⟨d,op,ty,ps,af,some (j,b)⟩) (o':=⟨d,op,ty, "",#[],none⟩) rfl rfl rfl]
@[go_sem ↓] theorem zLC :ze4 P c (some (some true)) true ext ty op d k Q pf=pwd P c ext ty op d k Q pf:=by simp[ze4,pgo]
@[go_sem ↓] theorem zOG :ze4 P c (some (some false)) false ext ty op d k Q pf=pwd P c ext ty op d k Q pf:=by simp[ze4,pgo]
@[go_sem ↓] theorem zPn{d:Tmp}(h:ckd c d .skip=true):ze4 P c (some (some true)) false ext ty op (some d) k Q pf=pw P c k Q (pf.put d .skip):=by simp[ze4,pgo,ziI,h]
@[go_sem ↓] theorem zNw{d:Tmp}(h:ckd c d .skip=true):ze4 P c (some (some false)) true ext ty op (some d) k Q pf=pw P c k Q (pf.put d .skip):=by simp[ze4,pgo,ziI,h]
@[go_sem ↓] theorem zP2{d:Tmp}(h:ckd c d .skip=true):ze4 P c (some none) b ext ty op (some d) k Q pf=pw P c k Q (pf.put d .skip):=by simp[ze4,pgo,ziI,h]
theorem zu7{y:Bool}(h1:y=true→ze4 P c (some (some true)) b ext ty op d k Q pf)(h2:y=false→ze4 P c (some (some false)) b ext ty op d k Q pf):ze4 P c (some (some y)) b ext ty op d k Q pf:=by
 cases y
 ·exact h2 rfl
 ·exact h1 rfl
@[go_sem ↓] theorem zQ9(hc:zbv op=false)(he:(!ext||zcs op)=true):pwd P c ext ty op d k Q pf=pw1 P c c.nohp ty op d k Q pf:=by
 have he':ext=true→zcs op=true:=by intro h;subst h;simpa using he
 unfold pwd ziZ pw1;split
 ·simp_all [zbv]
 ·simp only[eq_iff_iff];exact⟨fun h=>h.2,fun h=>⟨he',h⟩⟩
@[go_sem] theorem zUH{sl rg:List Nat}{mr:Option Nat}{ls a:Bool}:DE.ex ⟨i,sl,rg,mr,ls,a,b⟩=(a&& !b):=(rfl)
@[go_sem ↓] theorem zQp :pwd P c false ty (.call ⟨.value f,args,ts⟩) d k Q pf=pw1 P c c.nohp ty (.call ⟨.value f,args,ts⟩) d k Q pf:=by
 unfold pwd ziZ pw1;simp
theorem zxG{l:List (Md×Nat×Operand)}{ys:List PV}{pf1:PFr}{as':List (Md×PV)}
(hl:(List.replicate args.toList.length Md.sh).zip (zdt P args.toList ts.toList)=l)(ha:zic pf l=some (ys,pf1))(hf:fnO pf1 f=some (g,xs,us))(hc:cargs pf1 l ys=some as)
(has:xs.map (fun x=>(Md.sh,x))++as++us.map (fun x=>(Md.sh,x))=as')(h:PCalls P g as' R)
(hk:∀r outs,R r outs→(l.any (zii pf1)=false∨(zaU r&&outs.all zaU)=true)∧qv P c c ((back c.nt pf1 l (outs.drop xs.length)).map fun p=>(.v r,p)) d k Q):pwd P c true ty (.call ⟨.value f,args,ts⟩) d k Q pf:=by
 refine⟨by simp,?_⟩;rw[hl,ha];show ziQ P c d (pw P c k Q) pf1 l (fnO pf1 f) (cargs pf1 l ys);rw[hf,hc];show PCalls P g _ _;rw[has];refine h.mono fun r outs hr=>?_
 obtain⟨h1,h2⟩:=hk r outs hr;refine⟨h1,?_⟩;cases hb:back c.nt pf1 l (outs.drop xs.length)with
 |none=>rw[hb]at h2;exact h2
 |some p=>rw[hb]at h2;exact h2
theorem ztc{f:FuncId}{fn:Func}{code:Code}(fz hp:List Nat)(hc:zac P f)(hf:P.funcs[f]? =some fn)(hb:fn.body=some code)(hlen:as.length≤fn.ntmps)
(h:pw P ⟨fn.ntmps,ioL 0 as,fz,hp⟩ [.code code] (zjK P fn.results.toList as R) (zhj as)):PCalls P f as R:=by
 refine zsp (fz:=fz) (hp:=hp) hc hf hb hlen ?_;have e:zbY P ⟨fn.ntmps,ioL 0 as,fz,hp⟩ [] (zjK P fn.results.toList as R)=zjK P fn.results.toList as R:=by funext e;cases e<;>rfl
 have h':pwp P ⟨fn.ntmps,ioL 0 as,fz,hp⟩ code (zbY P ⟨fn.ntmps,ioL 0 as,fz,hp⟩ [] (zjK P fn.results.toList as R)) (zhj as):=h
 rwa [e]at h'
@[go_sem] theorem zIN{rs:List ResultVar}:zjK P rs as R .ret pf=zmK as R (zhT P pf rs):=(rfl)
@[go_sem] theorem zB4{rs:List ResultVar}:zjK P rs as R .normal pf=zmK as R (zhT P pf rs):=(rfl)
@[go_sem] theorem zEu{x:List PV}:zmK as R (some (x,pf))=R (zq5 x) (zfZ pf 0 as):=(rfl)
@[go_sem] theorem zGe:zhT P pf []=some ([],pf):=(rfl)
@[go_sem] theorem zEi{x:ResultVar}{xs:List ResultVar}:zhT P pf (x::xs)=(zlv P pf x).bind fun a=>(zhT P a.2 xs).map fun b=>(a.1::b.1,b.2):=(rfl)
@[go_sem] theorem zGp{t:Tmp}:zlv P pf (.tmp t)=if zio (pf t)=true then none else zeO pf t (pf t):=(rfl)
@[go_sem] theorem zCd{t:Tmp}:zlv P pf (.cell t ty)=zmR pf t (pf t) (tk P ty):=(rfl)
@[go_sem] theorem zNY{t sz:Nat}:zmR pf t (.bl row) (some (true,sz))=if sz=row.length then some (.agg row,(pf.upd t jP).kill t 0)else none:=by cases row<;>rfl
@[go_sem] theorem zMC{t sz:Nat}{x:PV}:zmR pf t (.bl (x::row)) (some (false,sz))=some (x,(pf.upd t jP).kill t 0):=(rfl)
@[go_sem] theorem zQM{x:PV}:zio (.v x)=false:=(rfl)
@[go_sem] theorem zN4 :zio (.rf s p)=false:=(rfl)
@[go_sem] theorem zLL :zio (.rv s p lo hi)=false:=(rfl)
@[go_sem] theorem zOy :zio (.ra s p i j n)=false:=(rfl)
@[go_sem] theorem zMf :zio (.ls es rows)=true:=(rfl)
@[go_sem] theorem zPm :zio (.pt s p i j)=false:=(rfl)
@[go_sem] theorem zLo :zio (.bl row)=false:=(rfl)
@[go_sem] theorem zM3{t:Tmp}:lsO pf (.tmp t)=zio (pf t):=(rfl)
@[go_sem] theorem zFI{v:Value}:lsO pf (.const v)=false:=(rfl)
@[go_sem] theorem zJ6 :lsO pf (.func g)=false:=(rfl)
@[go_sem] theorem zJf:zq5 []=.junk:=(rfl)
@[go_sem] theorem zKq{x:PV}:zq5 [x]=x:=(rfl)
@[go_sem] theorem zJQ{x:PV}{l:List PV}:zq5 (x::y::l)=.tup (x::y::l):=(rfl)
@[go_sem] theorem zKx :zfZ pf n []=[]:=(rfl)
@[go_sem] theorem zOs{x:PV}:zfZ pf n ((.io,x)::l)=zuS (pf n)::zfZ pf (n+1) l:=(rfl)
@[go_sem] theorem zPd{x:PV}:zfZ pf n ((.sh,x)::l)=.junk::zfZ pf (n+1) l:=(rfl)
@[go_sem] theorem zLp{x:PV}:zfZ pf n ((.mv,x)::l)=.junk::zfZ pf (n+1) l:=(rfl)
@[go_sem] theorem zRE{x:PV}:zuS (.v x)=x:=(rfl)
@[go_sem] theorem zMW :ioL n []=[]:=(rfl)
@[go_sem] theorem zQ6{x:PV}:ioL n ((.io,x)::l)=n::ioL (n+1) l:=(rfl)
@[go_sem] theorem zQV{x:PV}:ioL n ((.sh,x)::l)=ioL (n+1) l:=(rfl)
@[go_sem] theorem zRC{x:PV}:ioL n ((.mv,x)::l)=ioL (n+1) l:=(rfl)
end
end Go.Pm
