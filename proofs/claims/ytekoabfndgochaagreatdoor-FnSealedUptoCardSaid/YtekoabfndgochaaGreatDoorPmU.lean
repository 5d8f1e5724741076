import Derived.Test.YtekoabfndgochaaGreatDoorPmT
namespace Go.Pm
open Go.Am
section
variable {P:Program}{c co:Cfg}{k:List PIt}{Q:Exit→PFr→Prop}{pf:PFr}
attribute [go_sem] Option.bind_some Option.bind_none Option.map_some Option.map_none Option.getD_some Option.getD_none
def orE:Option (PF×PFr)→Option (PF×PFr)→Option (PF×PFr)
 |some a,_=>some a
 |none,y=>y
variable{R:PV→List PV→Prop}{a f x:Operand}{args:Array Operand}{as l:List (Md×PV)}{b ext:Bool}{d:Option Tmp}{e t ty:TypeId}{es i n s:Nat}{g:FuncId}{op:Op}{p:zaf}{pre:List (Option Tmp)}{ts:Array TypeId}{xs:List PV}{y:PV}
theorem zwQ{a b c:Option (PF×PFr)}(h:a=b):orE a c=orE b c:=by rw[h]
@[go_sem ↓] theorem zL3{a:PF×PFr}{y:Option (PF×PFr)}:orE (some a) y=some a:=rfl
@[go_sem ↓] theorem zKD{y:Option (PF×PFr)}:orE none y=y:=rfl
def tkA:Option PF→PFr→Option (PF×PFr)→Option (PF×PFr)
 |some y,pf,_=>some (y,pf)
 |none,_,x=>x
theorem zw9{a b:Option PF}{pf:PFr}{x:Option (PF×PFr)}(h:a=b):tkA a pf x=tkA b pf x:=by rw[h]
@[go_sem ↓] theorem zI8{y:PF}{x:Option (PF×PFr)}:tkA (some y) pf x=some (y,pf):=rfl
@[go_sem ↓] theorem zKz{x:Option (PF×PFr)}:tkA none pf x=x:=rfl
attribute [congr] zwQ zw9
def ltO(x:Option PF)(f:PF→Option (PF×PFr))(z:Option (PF×PFr)):Option (PF×PFr):=
 match x with
 |some y=>f y
 |none=>z
@[go_sem] theorem zJD{y:PF}{f:PF→Option (PF×PFr)}{z:Option (PF×PFr)}:ltO (some y) f z=f y:=(rfl)
@[go_sem] theorem zRz{x:PV}:tkE co d pf (.v x)=some (.v x,pf):=(rfl)
@[go_sem] theorem zPm{j:Nat}:tkE co d pf (.ra s p i j n)=some (.ra s p i j n,pf):=(rfl)
@[go_sem] theorem zPv :tkE co d pf (.rf s p)=if ltB co d=true then(zaG pf s p).bind fun x=>if isJ x=true then none else(zda pf s p .junk).map fun pf'=>(.v x,pf')else some (.rf s p,pf):=(rfl)
@[go_sem] theorem zQs{d:Nat}:ltB co (some d)=co.fz.contains (d+6*co.nt):=(rfl)
@[go_sem ↓] theorem zKT :pw1 P c co ty (.load t a) d k Q pf=qv P c co (ltO ((tk P t).bind fun tz=>(adr pf a).bind (ldA tz pf)) (tkE co d pf) ((zsB P t pf a).map fun y=>(y,pf))) d k Q:=by
 show znT P co t a d (pw P c k Q) pf=_;unfold znT;cases (tk P t).bind fun tz=>(adr pf a).bind (ldA tz pf)with
 |some y=>
  show zn1 co (pw P c k Q) d y pf=qv P c co (tkE co d pf y) d k Q;unfold zn1;cases tkE co d pf y<;>rfl
 |none=>cases zsB P t pf a<;>rfl
theorem zyd{x:Option AD}:pad co (pw P c k Q) d pf x=qv P c co (x.map fun ad=>(zlr ad,pf)) d k Q:=by cases x<;>rfl
@[go_sem ↓] theorem zHN{s:TypeId}{f:Nat}:pw1 P c co ty (.fieldAddr s x f) d k Q pf=qv P c co (((zaT P s f).bind fun o=>(adr pf x).bind (zk3 o.1)).map fun ad=>(zlr ad,pf)) d k Q:=zyd
@[go_sem ↓] theorem zC6 :pw1 P c co ty (.nilCheck x) d k Q pf=qv P c co ((adr pf x).map fun ad=>(zlr ad,pf)) d k Q:=zyd
@[go_sem] theorem zRg{i:Operand}(h:esz P t=some es):ixE P t x i pf=(sbO pf x).bind (ixS es (rdS pf i)):=by simp[ixE,h]
@[go_sem ↓] theorem zA9{i:Operand}:pw1 P c co ty (.indexAddr t x i) d k Q pf=qv P c co (orE ((ixE P t x i pf).map fun ad=>(zlr ad,pf)) (zs3 P t x i pf)) d k Q:=by
 show zlC P co t x i d (pw P c k Q) pf=_;unfold zlC;cases ixE P t x i pf with
 |some ad=>rfl
 |none=>cases zs3 P t x i pf<;>rfl
@[go_sem] theorem zPR{u:Nat}:zsB P t pf (.tmp u)=(tk P t).bind fun tz=>if tz.1=false then zu1 (pf u)else none:=(rfl)
@[go_sem] theorem zNq{c:Cfg}{d:Nat}(h:c.fz=[]):mkd c d=false:=by simp[mkd,h]
@[go_sem] theorem zQm{c:Cfg}{d:Nat}:mkd c d=c.fz.contains (d+2*c.nt):=(rfl)
def stA(pf:PFr)(cells:List PV):AD→Option PFr
 | .pl s p i j=>zfr pf s p i j cells
 |_=>none
def stE(P:Program)(t:TypeId)(a x:Operand)(pf:PFr):Option PFr:=
 (tk P t).bind fun tz=>(zbQ (ezT P t) pf x).bind fun y=>if zp4 tz.2 y.1=true then(adr y.2 a).bind (stA y.2 (zaE y.1))else none
@[go_sem] theorem zOZ :stE P t a x pf=(tk P t).bind fun tz=>(zbQ (ezT P t) pf x).bind fun y=>if zp4 tz.2 y.1=true then(adr y.2 a).bind (stA y.2 (zaE y.1))else none:=(rfl)
@[go_sem ↓] theorem zHY :pw1 P c co ty (.store t a x) none k Q pf=qf P c (stE P t a x pf) k Q:=by
 show zlP P co t a x none (pw P c k Q) pf=_;unfold zlP stE;cases tk P t with
 |none=>rfl
 |some tz=>
  cases zbQ (ezT P t) pf x with
  |none=>rfl
  |some y=>
   obtain⟨y,pf1⟩:=y;obtain⟨b,sz⟩:=tz;simp only[Option.bind_some];by_cases h:zp4 sz y=true
   ·rw[if_pos h];cases ha:adr pf1 a with
    |none=>simp[zke,qf]
    |some ad=>cases ad with
     |pl s p i j=>cases hp:zfr pf1 s p i j (zaE y)<;>simp[zke,qf,h,stA,hp]
     |fz row=>simp[zke,qf,stA]
   ·rw[if_neg h];simp[qf,h]
def alE(P:Program)(co:Cfg)(e:TypeId)(d:Nat)(pf:PFr):Option PFr:=
 (zr P e).bind fun z=>if ckd co d .skip=true then some (if co.hp.contains d=true then pf.put d (.v (.bx z))else pf.put d (.bl z))else none
@[go_sem] theorem zQy{d:Nat}{z:List PV}(h:zr P e=some z)(h1:ckd co d .skip=true)(h2:co.hp.contains d=false):alE P co e d pf=some (pf.put d (.bl z)):=by unfold alE;rw[h,Option.bind_some,if_pos h1,if_neg (by rw[h2];simp)]
@[go_sem ↓] theorem zIp{d:Tmp}:pw1 P c co ty (.alloc e) (some d) k Q pf=qf P c (alE P co e d pf) k Q:=by
 show zlJ P co e (some d) (pw P c k Q) pf=_;unfold zlJ alE;cases zr P e with
 |none=>rfl
 |some z=>
  simp only[Option.bind_some];by_cases h:ckd co d .skip=true
  ·rw[if_pos h];by_cases h2:co.hp.contains d=true
   ·simp only[h,h2,qf,if_true,true_and]
   ·simp only[h,h2,qf,true_and];simp
  ·rw[if_neg h];simp[qf,h]
def bxE(P:Program)(co:Cfg)(e:TypeId)(x:Operand)(d:Nat)(pf:PFr):Option PFr:=
 (tk P e).bind fun _=>(zbQ (ezT P e) pf x).bind fun y=>if(!lsO pf x&&zdh y.1&&ckd co d .skip)=true then some (if co.hp.contains d=true then(if co.fz.contains d=true then(y.2.put d (.v (.bx (zaE y.1)))).put d (.v (drop (.bx (zaE y.1))))else y.2.put d (.v (.bx (zaE y.1))))else y.2.put d (.bl (zaE y.1)))else none
@[go_sem] theorem zPK{d:Nat}:bxE P co e x d pf=(tk P e).bind fun _=>(zbQ (ezT P e) pf x).bind fun y=>if(!lsO pf x&&zdh y.1&&ckd co d .skip)=true then some (if co.hp.contains d=true then(if co.fz.contains d=true then(y.2.put d (.v (.bx (zaE y.1)))).put d (.v (drop (.bx (zaE y.1))))else y.2.put d (.v (.bx (zaE y.1))))else y.2.put d (.bl (zaE y.1)))else none:=(rfl)
@[go_sem ↓] theorem zNf{d:Tmp}:pw1 P c co ty (.box e x) (some d) k Q pf=qf P c (bxE P co e x d pf) k Q:=by
 show zqg P co e x (some d) (pw P c k Q) pf=_;unfold zqg bxE;cases tk P e with
 |none=>rfl
 |some z=>
  cases zbQ (ezT P e) pf x with
  |none=>rfl
  |some y=>
   obtain⟨y,pf1⟩:=y;simp only[Option.bind_some];by_cases h:(!lsO pf x&&zdh y&&ckd co d .skip)=true
   ·rw[if_pos h];simp only[Bool.and_eq_true,Bool.not_eq_true']at h;by_cases h2:co.hp.contains d=true
    ·by_cases h4:co.fz.contains d=true
     ·simp only[h.1.1,h.1.2,h.2,h2,h4,qf,if_true,true_and]
     ·simp only[h.1.1,h.1.2,h.2,h2,h4,qf,if_true,true_and];simp
    ·simp only[h.1.1,h.1.2,h.2,h2,qf,true_and];simp
   ·rw[if_neg h];simp only[qf,eq_iff_iff,iff_false];rintro⟨h1,h2,h3,_⟩;exact h (by rw[h1,h2,h3];rfl)
def zyQ(P:Program)(co:Cfg)(t:TypeId)(len:Nat)(ps:List (Nat×Operand))(d:Nat)(pf:PFr):Option PFr:=
 (ez P t).bind fun z=>(zhf pf (ps.map fun p=>(zb1 P t p.1,p.2))).bind fun y=>if len*z.1≤2^24∧ckd co d .skip=true then(zh9 z.1 ((ps.map (·.1)).zip (drx co d y.1)) (List.replicate len z.2.2)).map fun rows=>y.2.put d (.ls z.1 rows)else none
@[go_sem] theorem zOp{d:Nat}(h:co.fz=[]):drx co d xs=xs:=by simp[drx,h]
@[go_sem] theorem zQK{d:Nat}:drx co d xs=if co.fz.contains (d+3*co.nt)=true then xs.map drop else xs:=(rfl)
@[go_sem] theorem zML{len:Nat}{ps:List (Nat×Operand)}{d:Nat}:zyQ P co t len ps d pf=(ez P t).bind fun z=>(zhf pf (ps.map fun p=>(zb1 P t p.1,p.2))).bind fun y=>if len*z.1≤2^24∧ckd co d .skip=true then(zh9 z.1 ((ps.map (·.1)).zip (drx co d y.1)) (List.replicate len z.2.2)).map fun rows=>y.2.put d (.ls z.1 rows)else none:=(rfl)
@[go_sem ↓] theorem zAG{len:Nat}{ps:Array (Nat×Operand)}{d:Tmp}:pw1 P c co ty (.buildSlice t len ps) (some d) k Q pf=if mkd co d=true then qv P c co ((zvx P t len ps.toList pf).map fun y=>(y,pf)) (some d) k Q else qf P c (zyQ P co t len ps.toList d pf) k Q:=by
 show zqr P co t len ps.toList (some d) (pw P c k Q) pf=_;unfold zqr zyQ;by_cases hm:mkd co d=true
 ·rw[if_pos hm,if_pos (show zyM co (some d)=true from hm)];unfold zpQ;cases zvx P t len ps.toList pf<;>rfl
 rw[if_neg hm,if_neg (show¬zyM co (some d)=true from hm)];cases ez P t with
 |none=>rfl
 |some z=>
  cases zhf pf (ps.toList.map fun p=>(zb1 P t p.1,p.2))with
  |none=>rfl
  |some y=>
   obtain⟨xs,pf1⟩:=y;simp only[Option.bind_some];by_cases h:len*z.1≤2^24∧ckd co d .skip=true
   ·rw[if_pos h];cases zh9 z.1 ((ps.toList.map (·.1)).zip (drx co d xs)) (List.replicate len z.2.2)<;>simp only[zru,qf,h.1,h.2,true_and,and_false,Option.map_none,Option.map_some]
   ·rw[if_neg h];simp only[qf,eq_iff_iff,iff_false];rintro⟨h1,h2⟩;cases hf:zh9 z.1 ((ps.toList.map (·.1)).zip (drx co d xs)) (List.replicate len z.2.2)with
    |none=>rw[hf]at h2;exact h2
    |some r=>rw[hf]at h2;exact h ⟨h1,h2.1⟩
@[go_sem ↓] theorem zHU{ps:Array (Nat×Operand)}:pw1 P c co ty (.build t ps) d k Q pf=
 qv P c co ((ziy P t).bind fun b=>(zhf pf (ps.toList.map fun p=>(zb1 P t p.1,p.2))).bind fun y=>(zjm b.1 ((ps.toList.map (·.1)).zip y.1) b.2).map fun row=>(.v (.agg row),y.2)) d k Q:=by
 show zlW P co t ps.toList d (pw P c k Q) pf=_;unfold zlW;cases ziy P t with
 |none=>rfl
 |some b=>
  cases zhf pf (ps.toList.map fun p=>(zb1 P t p.1,p.2))with
  |none=>rfl
  |some y=>
   simp only[Option.bind_some];cases zjm b.1 ((ps.toList.map (·.1)).zip y.1) b.2<;>rfl
def pkV(b x y:Option Value):Option PV:=
 match b with
 |some (.bool true)=>x.bind zf9
 |some (.bool false)=>y.bind zf9
 |_=>none
@[go_sem ↓] theorem zLP{b y:Operand}:pw1 P c co ty (.pick b x y) d k Q pf=qv P c co ((pkV (rdS pf b) (rdS pf x) (rdS pf y)).map fun z=>(.v z,pf)) d k Q:=by
 show znS co b x y d (pw P c k Q) pf=_;unfold znS zu7 pkV;cases rdS pf b with
 |none=>rfl
 |some v=>
  cases v with
  |bool b=>
   cases b
   ·simp only[];cases (rdS pf y).bind zf9<;>rfl
   ·simp only[];cases (rdS pf x).bind zf9<;>rfl
  |_=>rfl
@[go_sem] theorem zQj{x y:Option Value}:pkV (some (.bool true)) x y=x.bind zf9:=(rfl)
@[go_sem] theorem zP3{x y:Option Value}:pkV (some (.bool false)) x y=y.bind zf9:=(rfl)
@[go_sem] theorem zI7{m n:Bool}:pkV (some (.bool b)) (some (.bool m)) (some (.bool n))=some (.bool (if b=true then m else n)):=by cases b<;>rfl
def mkV(b:Bool)(z:Nat×Nat×List PV)(pf:PFr):Option Value→Option Value→Option (PF×PFr)
 |some (.int .i64 n),some (.int .i64 m)=>if 0≤n∧n≤m∧z.2.1*m≤140737488355328∧m≤4611686018427387904 then some (.v (.sl true z.1 (List.replicate n.toNat (uz b z.2.2))),pf)else none
 |_,_=>none
@[go_sem] theorem zM6{z:Nat×Nat×List PV}{n m:Int}:mkV b z pf (some (.int .i64 n)) (some (.int .i64 m))=if 0≤n∧n≤m∧z.2.1*m≤140737488355328∧m≤4611686018427387904 then some (.v (.sl true z.1 (List.replicate n.toNat (uz b z.2.2))),pf)else none:=(rfl)
@[go_sem] theorem zJB{d:Nat}:nzB co (some d)=co.fz.contains (d+co.nt):=(rfl)
@[go_sem] theorem zLR{z:List PV}:uz false z=z:=(rfl)
@[go_sem ↓] theorem zBa{l cc:Operand}:pw1 P c co ty (.makeSlice t l cc) d k Q pf=qv P c co ((ez P t).bind fun z=>mkV (nzB co d) z pf (rdS pf l) (rdS pf cc)) d k Q:=by
 show zn3 P co t l cc d (pw P c k Q) pf=_;unfold zn3;cases ez P t with
 |none=>rfl
 |some z=>
  simp only[Option.bind_some];generalize rdS pf l=x1;generalize rdS pf cc=x2;unfold zvn mkV;split
  ·rename_i n m;simp only[];by_cases h:0≤n∧n≤m∧z.2.1*m≤140737488355328∧m≤4611686018427387904
   ·rw[if_pos h];simp only[h,true_and];rfl
   ·rw[if_neg h];simp only[qv,eq_iff_iff,iff_false];rintro⟨a1,_⟩;exact h a1
  ·rename_i h1;split
   ·rename_i e1;exact absurd rfl (h1 _ _ rfl)
   ·rfl
theorem zua{u:TypeId}{op:BinOp}{y:Operand}{d:Tmp}{q:Bool}{rows:List (List PV)}(hy:zjv y=true)(hp:co.hp.isEmpty=false)(he:(zaF P t).isSome=true)(hq:zta op=some q)(hx:zym pf x=some rows)
(hk:∀b,(rows≠[]→b= !q)→qv P c co (some (.v (.bool b),pf)) (some d) k Q):pw1 P c co ty (.binOp op t x y u) (some d) k Q pf:=by
 show pop P co ⟨some d,.binOp op t x y u,ty, "",#[],none⟩ (pw P c k Q) pf;simp only[pop,hy,if_true];refine⟨(by intro e;rw[e]at hp;cases hp),?_⟩;cases x with
 |tmp s=>
  unfold zl0;simp only[hq,hx];exact⟨he,fun b hb=>hk b hb⟩
 |_=>simp[zym]at hx
@[go_sem ↓] theorem zCI{fn:Fn}{xs ys:Array Operand}:pw1 P c co ty (.makeFunc fn xs ys) d k Q pf=
 qv P c co (if clB co d=true then(clS pf fn xs.toList ys.toList).bind (clM co pf)else(zkv (!co.hp.isEmpty) pf (xs.toList++ys.toList)).map fun vs=>(.v (.func fn (vs.1.take xs.toList.length) (vs.1.drop xs.toList.length)),vs.2)) d k Q:=by
 show znR co fn xs.toList ys.toList d (pw P c k Q) pf=_;unfold znR;split
 ·cases (clS pf fn xs.toList ys.toList).bind (clM co pf)<;>rfl
 cases zkv (!co.hp.isEmpty) pf (xs.toList++ys.toList)<;>rfl
def mvF(co:Cfg)(d:Option Tmp)(t:Nat)(pf:PFr):PF→Option (PF×PFr)
 | .v x=>if isJ x=true then none else some (if zaL x=true then .rf t []else .v x,pf)
 | .ls es rows=>if t<co.nt then some (.rf t [],(pf.upd t (.v (.sl true es rows))).kill t 0)else none
 | .bl _=>some (.pt t [] 0 0,pf)
 | .skip=>none
 | .as .. =>none
 | .pt s p i j=>if lyB co d=true then lyR pf t s p i j (pf s)else some (.pt s p i j,pf)
 |y=>some (y,pf)
@[go_sem] theorem zQR{co:Cfg}{t:Nat}{x:PV}(h:isJ x=false):mvF co d t pf (.v x)=some (if zaL x=true then .rf t []else .v x,pf):=by simp[mvF,h]
@[go_sem] theorem zQX{co:Cfg}{d:Nat}:clB co (some d)=co.fz.contains (d+4*co.nt):=(rfl)
@[go_sem ↓] theorem zG0{t:Tmp}:pw1 P c co ty (.move (.tmp t)) d k Q pf=qv P c co (mvF co d t pf (pf t)) d k Q:=by
 show zhB co t d (pw P c k Q) pf (pf t)=_;unfold zhB mvF;cases pf t with
 |v x=>
  cases hj:isJ x
  ·cases ho:zaL x<;>simp[hj,ho,qv]
  ·simp[hj,qv]
 |ls es rows=>
  by_cases h:t<co.nt
  ·simp[h,qv]
  ·simp[h,qv]
 |pt s p i j=>
  cases hl:lyB co d
  ·simp[qv]
  ·simp only[if_true];cases lyR pf t s p i j (pf s)<;>rfl
 |_=>rfl
def tkV(x:Option (PV×PFr)):Option (PF×PFr):=x.map fun y=>(.v y.1,y.2)
@[go_sem] theorem zLB :tkV (some (y,pf))=some (.v y,pf):=(rfl)
@[go_sem ↓] theorem zGQ{k0:Value}:pw1 P c co ty (.move (.const k0)) d k Q pf=qv P c co (tkV (zbQ (ezT P ty) pf (.const k0))) d k Q:=by
 show zj9 (ezT P ty) co (.const k0) d (pw P c k Q) pf=_;unfold zj9;simp only[];cases zbQ (ezT P ty) pf (.const k0)<;>rfl
@[go_sem ↓] theorem zD7 :pw1 P c co ty (.assign x) d k Q pf=qv P c co (tkA (zqy co pf d x) pf (tkV (zbQ (ezT P ty) pf x))) d k Q:=by
 show zko (ezT P ty) co x d (pw P c k Q) pf=_;unfold zko;cases zqy co pf d x with
 |some y=>rfl
 |none=>cases zbQ (ezT P ty) pf x<;>rfl
@[go_sem] theorem zPM{d:Nat}{t:Tmp}:zqy co pf (some d) (.tmp t)=if mkd co d=true then zyp t (pf t)else none:=(rfl)
@[go_sem] theorem zO6{x:Value}:zqy co pf d (.const x)=none:=by cases d<;>rfl
def exV(pf:PFr)(s:Nat)(xs:List PV)(i:Nat):Option PV→Option (PF×PFr)
 |some y=>if isJ y=true then none else some (.v y,if zaL y=true then(pf.upd s (.v (.tup (xs.set i .junk)))).kill s 1 else pf)
 |none=>none
@[go_sem] theorem zJa(h:isJ y=false):exV pf s xs i (some y)=some (.v y,if zaL y=true then(pf.upd s (.v (.tup (xs.set i .junk)))).kill s 1 else pf):=by simp[exV,h]
@[go_sem] theorem zMy{t:Tmp}:exO pf (.tmp t)=match pf t with
 | .rf s []=>exR s (pf s)
 |y=>exR t y:=rfl
@[go_sem] theorem zP5 :exR s (.v (.tup xs))=some (s,xs):=(rfl)
@[go_sem ↓] theorem zDW :pw1 P c co ty (.extract x i) d k Q pf=qv P c co ((exO pf x).bind fun a=>if a.1<co.nt then exV pf a.1 a.2 i a.2[i]? else none) d k Q:=by
 show zi8 co x i d (pw P c k Q) pf=_;unfold zi8;cases exO pf x with
 |none=>rfl
 |some a=>
  obtain⟨s,xs⟩:=a;simp only[Option.bind_some];by_cases h:s<co.nt
  ·rw[if_pos h];simp only[h,true_and];cases xs[i]? with
   |none=>rfl
   |some y=>
    cases hj:isJ y
    ·cases ho:zaL y<;>simp[pex,exV,hj,ho,qv]
    ·simp[pex,exV,hj,qv]
  ·rw[if_neg h];simp[h,qv]
def slE(es t:Nat)(pf:PFr)(l h m:Option (Option Nat)):Option (PF×PFr):=
 match l,h,m with
 |some l,some h,some none=>(slF es (l.getD 0) h pf t (pf t)).map fun y=>(y,pf)
 |some l,some (some h),some (some m)=>((zbv pf (pf t)).bind lenV).bind fun rows=>(slF es (l.getD 0) (some h) pf t (pf t)).bind fun _=>if l.getD 0=h∧h=m∧m≤rows.length then some (.v (.sl true es []),pf)else none
 |_,_,_=>none
@[go_sem] theorem zHk{t:Nat}{l h:Option Nat}:slE es t pf (some l) (some h) (some none)=(slF es (l.getD 0) h pf t (pf t)).map fun y=>(y,pf):=by cases h<;>rfl
@[go_sem] theorem zHo{t:Nat}{l:Option Nat}{h m:Nat}:slE es t pf (some l) (some (some h)) (some (some m))=((zbv pf (pf t)).bind lenV).bind fun rows=>(slF es (l.getD 0) (some h) pf t (pf t)).bind fun _=>if l.getD 0=h∧h=m∧m≤rows.length then some (.v (.sl true es []),pf)else none:=(rfl)
theorem zzV{t:Nat}{l h m:Option (Option Nat)}:zqz co es t d (pw P c k Q) pf l h m=qv P c co (slE es t pf l h m) d k Q:=by
 cases l with
 |none=>rfl
 |some l=>
  cases h with
  |none=>rfl
  |some h=>
   cases m with
   |none=>rfl
   |some m=>
    cases m with
    |none=>
     rw[zHk];cases h<;>simp only[zqz]<;>cases slF es (l.getD 0) _ pf t (pf t)<;>rfl
    |some m=>
     cases h with
     |none=>rfl
     |some h=>
      rw[zHo];simp only[zqz];cases (zbv pf (pf t)).bind lenV with
      |none=>rfl
      |some rows=>
       simp only[Option.bind_some];cases slF es (l.getD 0) (some h) pf t (pf t)with
       |none=>simp[qv]
       |some y=>
        by_cases hh:l.getD 0=h∧h=m∧m≤rows.length
        ·simp[hh,qv]
        ·simp[hh,qv]
@[go_sem ↓] theorem zHP{x:Tmp}{l h m:Option Operand}(hs:zaS P t=false):pw1 P c co ty (.slice t (.tmp x) l h m) d k Q pf=qv P c co ((esz P t).bind fun es=>slE es x pf (rdB pf l) (rdB pf h) (rdB pf m)) d k Q:=by
 show(if zaS P t=true then zfz P co ⟨d,.slice t (.tmp x) l h m,ty, "",#[],none⟩ (pw P c k Q) pf else zlE P co t (.tmp x) l h m d (pw P c k Q) pf)=_;rw[if_neg (by simp[hs])];unfold zlE;cases esz P t with
 |none=>rfl
 |some es=>exact zzV
def qln(P:Program)(c co:Cfg)(x:Option (List (List PV)))(d:Option Tmp)(k:List PIt)(Q:Exit→PFr→Prop)(pf:PFr):Prop:=
 match x with
 |some rows=>rows.length≤zdp→qv P c co (some (.v (.int .i64 rows.length),pf)) d k Q
 |none=>False
theorem zxT{x x':Option (List (List PV))}{d:Option Tmp}(h:x=x'):qln P c co x d k Q pf=qln P c co x' d k Q pf:=by rw[h]
attribute [congr] zxT
def qlm(P:Program)(c co:Cfg)(t:TypeId)(d:Option Tmp)(k:List PIt)(Q:Exit→PFr→Prop)(pf:PFr)(x:Nat):PF→Prop
 | .ls es rows=>qln P c co ((zaF P t).bind fun _=>some rows) d k Q ((pf.upd x (.v (.sl true es rows))).kill x 0)
 |y=>qln P c co ((zaF P t).bind fun _=>(zbv pf y).bind lenV) d k Q pf
theorem zwy{t:TypeId}{d:Option Tmp}{x:Nat}{y y':PF}(h:y=y'):qlm P c co t d k Q pf x y=qlm P c co t d k Q pf x y':=by rw[h]
attribute [congr] zwy
@[go_sem ↓] theorem zPE{x:Nat}{rows:List (List PV)}:qlm P c co t d k Q pf x (.ls es rows)=qln P c co ((zaF P t).bind fun _=>some rows) d k Q ((pf.upd x (.v (.sl true es rows))).kill x 0):=rfl
@[go_sem ↓] theorem zPZ{x:Nat}:qlm P c co t d k Q pf x (.v y)=qln P c co ((zaF P t).bind fun _=>lenV y) d k Q pf:=rfl
@[go_sem ↓] theorem zPS{x:Nat}:qlm P c co t d k Q pf x (.rf s p)=qln P c co ((zaF P t).bind fun _=>(zbv pf (.rf s p)).bind lenV) d k Q pf:=rfl
@[go_sem ↓] theorem zPL{x lo hi:Nat}:qlm P c co t d k Q pf x (.rv s p lo hi)=qln P c co ((zaF P t).bind fun _=>(zbv pf (.rv s p lo hi)).bind lenV) d k Q pf:=rfl
@[go_sem ↓] theorem zNV{x:Tmp}(hs:zaS P t=false):pw1 P c co ty (.call ⟨.builtin .len,#[.tmp x],#[t]⟩) d k Q pf=qlm P c co t d k Q pf x (pf x):=by
 show(if zaS P t=true then zfz P co ⟨d,.call ⟨.builtin .len,#[.tmp x],#[t]⟩,ty, "",#[],none⟩ (pw P c k Q) pf else zo4 P co t (.tmp x) d (pw P c k Q) pf)=_;rw[if_neg (by simp[hs])];unfold zo4 qlm;cases hpt:pf x with
 |ls es rows=>
  have:((pf.upd x (.v (.sl true es rows))).kill x 0) x=.v (.sl true es rows):=by simp[PFr.kill,PFr.upd,zbW,zaw]
  simp only[lsM,hpt,this,zbv,lenV,Option.bind_some,qln,qv];cases zaF P t<;>rfl
 |_=>
  simp only[lsM,hpt,qln,qv];generalize (zaF P t).bind (fun _=>(zbv pf _).bind lenV)=o;cases o<;>rfl
@[go_sem] theorem zNd{s:ByteArray}(hs:zaS P t=true):zbt P (.call ⟨.builtin .len,#[x],#[t]⟩) [.string s]=some (.int .i64 s.size):=by simp[zbt,Am.lenV,hs]
@[go_sem ↓] theorem zL9(hs:zaS P t=true):pw1 P c co ty (.call ⟨.builtin .len,#[x],#[t]⟩) d k Q pf=qv P c co (ev1 (fun v=>zbt P (.call ⟨.builtin .len,#[x],#[t]⟩) [v]) (rdS pf x) pf) d k Q:=by
 show(if zaS P t=true then zfz P co ⟨d,.call ⟨.builtin .len,#[x],#[t]⟩,ty, "",#[],none⟩ (pw P c k Q) pf else zo4 P co t x d (pw P c k Q) pf)=_;rw[if_pos hs];refine zjl (o:=⟨d,.call ⟨.builtin .len,#[x],#[t]⟩,ty, "",#[],none⟩) ?_;simp only[zby,zi9,Option.bind_some];cases rdS pf x<;>simp[ev1]
def apE(P:Program)(t:TypeId)(s x:Operand)(pf:PFr):Option (PF×PFr):=
 (ez P t).bind fun z=>(zbQ z.1 pf s).bind fun b=>(bsR z.1 b.1).bind fun rows=>(srO z.1 b.2 x).bind fun r=>
   if zfu r.1=true∧(rows.length+r.1.length)*z.2.1≤140737488355328∧rows.length+r.1.length≤4611686018427387904 then some (.v (.sl true z.1 (rows++r.1)),r.2)else none
@[go_sem] theorem zOO{s:Operand}:apE P t s x pf=(ez P t).bind fun z=>(zbQ z.1 pf s).bind fun b=>(bsR z.1 b.1).bind fun rows=>(srO z.1 b.2 x).bind fun r=>
 if zfu r.1=true∧(rows.length+r.1.length)*z.2.1≤140737488355328∧rows.length+r.1.length≤4611686018427387904 then some (.v (.sl true z.1 (rows++r.1)),r.2)else none:=rfl
@[go_sem ↓] theorem zDZ{s:Operand}:pw1 P c co ty (.call ⟨.builtin .append,#[s,x],#[t,t]⟩) d k Q pf=qv P c co (apE P t s x pf) d k Q:=by
 show(if t=t then zqt P co t s x d (pw P c k Q) pf else zpa P co t t s x d (pw P c k Q) pf)=_;rw[if_pos rfl];unfold zqt apE;cases ez P t with
 |none=>rfl
 |some z=>
  simp only[Option.bind_some];cases zbQ z.1 pf s with
  |none=>rfl
  |some b=>
   obtain⟨b,pf1⟩:=b;simp only[Option.bind_some,zrw];cases bsR z.1 b with
   |none=>rfl
   |some rows=>
    simp only[Option.bind_some];cases srO z.1 pf1 x with
    |none=>rfl
    |some r=>
     obtain⟨rows2,pf2⟩:=r;simp only[Option.bind_some,zrs];by_cases h:zfu rows2=true∧(rows.length+rows2.length)*z.2.1≤140737488355328∧rows.length+rows2.length≤4611686018427387904
     ·rw[if_pos h];simp only[h.1,h.2.1,h.2.2,true_and,qv]
     ·rw[if_neg h];simp only[qv,eq_iff_iff,iff_false];rintro⟨a1,a2,_⟩;exact h ⟨a1,a2⟩
theorem zAX{n:Int}{z:Nat×Nat×List PV}(h:zv7 P g t)(hz:ez P t=some z)(hn:rdS pf x=some (.int .i64 n))(hb:0≤n∧z.2.1*n≤140737488355328∧n≤4611686018427387904)
(hk:qv P c co (some (.v (.sl true z.1 []),pf)) d k Q):pw1 P c co ty (.call ⟨.value (.func g),#[.const (.slice none 0 0),x],ts⟩) d k Q pf:=.inr (.inl ⟨g,x,t,n,z,rfl,rfl,h,hn,hz,hb,hk⟩)
theorem zAs(ms:List Md){l:List (Md×Nat×Operand)}{ys:List PV}{pf1:PFr}{us:List PV}{as':List (Md×PV)}
(hm:ms.length=args.toList.length)(hl:ms.zip (zeu P args.toList ts.toList)=l)(ha:zjj pf l=some (ys,pf1))(hf:fnO pf1 f=some (g,xs,us))(hc:cargs pf1 l ys=some as)
(has:xs.map (fun x=>(Md.sh,x))++as++us.map (fun x=>(Md.sh,x))=as')(h:PCalls P g as' R)
(hk:∀r outs,R r outs→(l.any (zjn pf1)=false∨(zbo r&&outs.all zbo)=true)∧qv P c co ((back co.nt pf1 l (outs.drop xs.length)).map fun p=>(.v r,p)) d k Q):pw1 P c co ty (.call ⟨.value f,args,ts⟩) d k Q pf:=by
 refine .inl ⟨ms,hm,?_⟩;rw[hl,ha];show zjC P co d (pw P c k Q) pf1 l (fnO pf1 f) (cargs pf1 l ys);rw[hf,hc];show PCalls P g _ _;rw[has];refine h.mono fun r outs hr=>?_
 obtain⟨h1,h2⟩:=hk r outs hr;refine⟨h1,?_⟩;cases hb:back co.nt pf1 l (outs.drop xs.length)with
 |none=>rw[hb]at h2;exact h2
 |some p=>rw[hb]at h2;exact h2
theorem zAd{id:Nat}{ops:Array Oper}(D:List DE){L:List (DE×Oper)}(h1:P.follows .mixedOrders=true)(h2:zlV D ops.toList=true)(hL:D.map (fun x=>(x,ops.toList.getD x.i default))=L)
(h:pw P c (.dops (ops.toList.map (·.dst)) L::k) Q pf):pw P c (.code (.region id ops true)::k) Q pf:=by
 subst hL;exact⟨h1,0,D,h2,h⟩
theorem zyv{id:Nat}{ops:Array Oper}(a b:Nat)(D D':List DE){L L':List (DE×Oper)}(h1:P.follows .mixedOrders=true)(hab:a≠b)(h2:zlV D ops.toList [(a,b)]=true)(h2':zlV D' ops.toList [(b,a)]=true)(hL:D.map (fun x=>(x,ops.toList.getD x.i default))=L)(hL':D'.map (fun x=>(x,ops.toList.getD x.i default))=L')
(h:pw P c (.dops (ops.toList.map (·.dst)) L::k) Q pf)(h':pw P c (.dops (ops.toList.map (·.dst)) L'::k) Q pf):pw P c (.code (.region id ops true)::k) Q pf:=by
 subst hL;subst hL';exact⟨h1,1,a,b,hab,⟨D,h2,h⟩,⟨D',h2',h'⟩⟩
@[go_sem ↓] theorem zDH :pw P c (.dops pre []::k) Q pf=pw P c k Q pf:=rfl
def zcK:Op→Bool
 | .call ⟨.value _,_,_⟩=>true
 |_=>false
def pwd(P:Program)(c:Cfg)(ext:Bool)(ty:TypeId)(op:Op)(d:Option Tmp)(k:List PIt)(Q:Exit→PFr→Prop)(pf:PFr):Prop:=zjH P c ext ⟨d,op,ty, "",#[],none⟩ (pw P c k Q) pf
theorem zuh{o o':Oper}{K:PFr→Prop}(h:o.op=o'.op)(hd:o.dst=o'.dst)(ht:o.type=o'.type):zjH P c ext o K pf=zjH P c ext o' K pf:=by
 obtain⟨d,op,ty,ps,af,g⟩:=o;obtain⟨d',op',ty',ps',af',g'⟩:=o';simp only at h hd ht;subst h;subst hd;subst ht;rfl
@[go_sem ↓] theorem zPO{e:DE}{ps:String}{af:Array Edge}{l:List (DE×Oper)}(h:(zmb pf e.rg e.ls e.sl&&zoA pf e.mr)=true):
 pw P c (.dops pre ((e,⟨d,op,ty,ps,af,none⟩)::l)::k) Q pf=pwd P c e.ex ty op d (.dops pre l::k) Q pf:=by
 show zql P c pre e ⟨d,op,ty,ps,af,none⟩ (pw P c (.dops pre l::k) Q) pf=_;simp only[zql,h,true_and,zpS];exact zuh rfl rfl rfl
def zgr(P:Program)(c:Cfg)(y:Option (Option Bool))(b:Bool)(ext:Bool)(ty:TypeId)(op:Op)(d:Option Tmp)(k:List PIt)(Q:Exit→PFr→Prop)(pf:PFr):Prop:=
 pgo c b d (pwd P c ext ty op d k Q pf) (pw P c k Q) pf y
theorem zvw{y y':Option (Option Bool)}{b ext:Bool}{ty:TypeId}{op:Op}{d:Option Tmp}(h:y=y'):zgr P c y b ext ty op d k Q pf=zgr P c y' b ext ty op d k Q pf:=by rw[h]
attribute [congr] zvw
@[go_sem ↓] theorem zN5{e:DE}{ps:String}{af:Array Edge}{j:Nat}{l:List (DE×Oper)}(h:(zmb pf e.rg e.ls e.sl&&zoA pf e.mr)=true):
 pw P c (.dops pre ((e,⟨d,op,ty,ps,af,some (j,b)⟩)::l)::k) Q pf=zgr P c (ygP pf pre[j]?) b e.ex ty op d (.dops pre l::k) Q pf:=by
 show zql P c pre e ⟨d,op,ty,ps,af,some (j,b)⟩ (pw P c (.dops pre l::k) Q) pf=_;simp only[zql,h,true_and,zpS];unfold zgr pwd;rw[zuh (o:=⟨d,op,ty,ps,af,some (j,b)⟩) (o':=⟨d,op,ty, "",#[],none⟩) rfl rfl rfl]
@[go_sem ↓] theorem zNz :zgr P c (some (some true)) true ext ty op d k Q pf=pwd P c ext ty op d k Q pf:=by simp[zgr,pgo]
@[go_sem ↓] theorem zOi :zgr P c (some (some false)) false ext ty op d k Q pf=pwd P c ext ty op d k Q pf:=by simp[zgr,pgo]
@[go_sem ↓] theorem zNC{d:Tmp}(h:ckd c d .skip=true):zgr P c (some (some true)) false ext ty op (some d) k Q pf=pw P c k Q (pf.put d .skip):=by simp[zgr,pgo,zj0,h]
@[go_sem ↓] theorem zMs{d:Tmp}(h:ckd c d .skip=true):zgr P c (some (some false)) true ext ty op (some d) k Q pf=pw P c k Q (pf.put d .skip):=by simp[zgr,pgo,zj0,h]
theorem zwm{y:Bool}(h1:y=true→zgr P c (some (some true)) b ext ty op d k Q pf)(h2:y=false→zgr P c (some (some false)) b ext ty op d k Q pf):zgr P c (some (some y)) b ext ty op d k Q pf:=by
 cases y
 ·exact h2 rfl
 ·exact h1 rfl
@[go_sem ↓] theorem zPW(hc:zcK op=false)(he:(!ext||zep op)=true):pwd P c ext ty op d k Q pf=pw1 P c c.nohp ty op d k Q pf:=by
 have he':ext=true→zep op=true:=by intro h;subst h;simpa using he
 unfold pwd zjH pw1;split
 ·simp_all [zcK]
 ·simp only[eq_iff_iff];exact⟨fun h=>h.2,fun h=>⟨he',h⟩⟩
@[go_sem] theorem zQZ{sl rg:List Nat}{mr:Option Nat}{ls a:Bool}:DE.ex ⟨i,sl,rg,mr,ls,a,b⟩=(a&& !b):=(rfl)
@[go_sem ↓] theorem zO1 :pwd P c false ty (.call ⟨.value f,args,ts⟩) d k Q pf=pw1 P c c.nohp ty (.call ⟨.value f,args,ts⟩) d k Q pf:=by
 unfold pwd zjH pw1;simp
theorem zyI{l:List (Md×Nat×Operand)}{ys:List PV}{pf1:PFr}{us:List PV}{as':List (Md×PV)}
(hl:(List.replicate args.toList.length Md.sh).zip (zeu P args.toList ts.toList)=l)(ha:zjj pf l=some (ys,pf1))(hf:fnO pf1 f=some (g,xs,us))(hc:cargs pf1 l ys=some as)
(has:xs.map (fun x=>(Md.sh,x))++as++us.map (fun x=>(Md.sh,x))=as')(h:PCalls P g as' R)
(hk:∀r outs,R r outs→(l.any (zjn pf1)=false∨(zbo r&&outs.all zbo)=true)∧qv P c c ((back c.nt pf1 l (outs.drop xs.length)).map fun p=>(.v r,p)) d k Q):pwd P c true ty (.call ⟨.value f,args,ts⟩) d k Q pf:=by
 refine⟨by simp,?_⟩;rw[hl,ha];show zjC P c d (pw P c k Q) pf1 l (fnO pf1 f) (cargs pf1 l ys);rw[hf,hc];show PCalls P g _ _;rw[has];refine h.mono fun r outs hr=>?_
 obtain⟨h1,h2⟩:=hk r outs hr;refine⟨h1,?_⟩;cases hb:back c.nt pf1 l (outs.drop xs.length)with
 |none=>rw[hb]at h2;exact h2
 |some p=>rw[hb]at h2;exact h2
theorem ztI{f:FuncId}{fn:Func}{code:Code}(fz hp:List Nat)(hc:zad P f)(hf:P.funcs[f]? =some fn)(hb:fn.body=some code)(hlen:as.length≤fn.ntmps)
(h:pw P ⟨fn.ntmps,ioL 0 as,fz,hp⟩ [.code code] (zkq P fn.results.toList as R) (zh7 as)):PCalls P f as R:=by
 refine zsT (fz:=fz) (hp:=hp) hc hf hb hlen ?_;have e:zcs P ⟨fn.ntmps,ioL 0 as,fz,hp⟩ [] (zkq P fn.results.toList as R)=zkq P fn.results.toList as R:=by funext e;cases e<;>rfl
 have h':pwp P ⟨fn.ntmps,ioL 0 as,fz,hp⟩ code (zcs P ⟨fn.ntmps,ioL 0 as,fz,hp⟩ [] (zkq P fn.results.toList as R)) (zh7 as):=h
 rwa [e]at h'
@[go_sem] theorem zII{rs:List ResultVar}:zkq P rs as R .ret pf=znL as R (ziV P pf rs):=(rfl)
@[go_sem] theorem zDE{rs:List ResultVar}:zkq P rs as R .normal pf=znL as R (ziV P pf rs):=(rfl)
@[go_sem] theorem zG8{x:List PV}:znL as R (some (x,pf))=R (zs7 x) (zgO pf 0 as):=(rfl)
@[go_sem] theorem zIe:ziV P pf []=some ([],pf):=(rfl)
@[go_sem] theorem zE2{x:ResultVar}{xs:List ResultVar}:ziV P pf (x::xs)=(zmh P pf x).bind fun a=>(ziV P a.2 xs).map fun b=>(a.1::b.1,b.2):=(rfl)
@[go_sem] theorem zH2{t:Tmp}:zmh P pf (.tmp t)=if zoP (pf t)=true then none else zfy pf t (pf t):=(rfl)
@[go_sem] theorem zHp{t:Tmp}:zmh P pf (.cell t ty)=zp1 pf t (pf t) (tk P ty):=(rfl)
@[go_sem] theorem zNG{t sz:Nat}{row:List PV}:zp1 pf t (.bl row) (some (true,sz))=if sz=row.length then some (.agg row,(pf.upd t jP).kill t 0)else none:=by cases row<;>rfl
@[go_sem] theorem zPl{x:PV}:zoP (.v x)=false:=(rfl)
@[go_sem] theorem zNn{t:Tmp}:lsO pf (.tmp t)=zoP (pf t):=(rfl)
@[go_sem] theorem zIM:zs7 []=.junk:=(rfl)
@[go_sem] theorem zJ2{x:PV}:zs7 [x]=x:=(rfl)
@[go_sem] theorem zLn{x:PV}{l:List PV}:zs7 (x::y::l)=.tup (x::y::l):=(rfl)
@[go_sem] theorem zJ3 :zgO pf n []=[]:=(rfl)
@[go_sem] theorem zNS{x:PV}:zgO pf n ((.io,x)::l)=zve (pf n)::zgO pf (n+1) l:=(rfl)
@[go_sem] theorem zMA{x:PV}:zgO pf n ((.sh,x)::l)=.junk::zgO pf (n+1) l:=(rfl)
@[go_sem] theorem zM1{x:PV}:zgO pf n ((.mv,x)::l)=.junk::zgO pf (n+1) l:=(rfl)
@[go_sem] theorem zPT{x:PV}:zve (.v x)=x:=(rfl)
end
end Go.Pm
