import Derived.Test.YtnojafnlicbhpaaGreatPmT
open Bool renaming false→aa,true→Z
open Option renaming none→ae,some→J
set_option linter.defProp false
namespace Go.Pm
open Go.Am
def OD:=@eq_iff_iff
def Ui:=@iff_false
section
variable {P:Program}{c co:aY}{k:List iv}{Q:Exit->ah->Prop}{pf:ah}
attribute [go_sem] Option.bind_some Option.bind_none Option.map_some Option.map_none Option.getD_some Option.getD_none
def IU:Option (PF×ah)->Option (PF×ah)->Option (PF×ah)
 |some a,_=>J a
 |none,y=>y
variable{R:PV->List PV->Prop}{a f x:Operand}{args:Array Operand}{as ju l:List (Md×PV)}{b ext:Bool}{d:Option Tmp}{e t ty:TypeId}{es hi i j len lo n q s u:Nat}{g:FuncId}{op:Op}{p:aA}{aQ:ah}{pre:List (Option Tmp)}{row us xs ys z:List PV}{rows:List (List PV)}{ts:Array TypeId}{y:PV}
def zxv{a b c:Option (PF×ah)}(h:a=b):IU a c=IU b c:=by rw[h]
@[go_sem ↓] theorem zNc{a:PF×ah}{y:Option (PF×ah)}:IU (J a) y=J a:=rfl
@[go_sem ↓] theorem zNC{y:Option (PF×ah)}:IU ae y=y:=rfl
def HB:Option PF->ah->Option (PF×ah)->Option (PF×ah)
 |some y,pf,_=>J (y,pf)
 |none,_,x=>x
def zxC{a b:Option PF}{pf:ah}{x:Option (PF×ah)}(h:a=b):HB a pf x=HB b pf x:=by rw[h]
@[go_sem ↓] theorem zJO{y:PF}{x:Option (PF×ah)}:HB (J y) pf x=J (y,pf):=rfl
@[go_sem ↓] theorem zLi{x:Option (PF×ah)}:HB ae pf x=x:=rfl
attribute [congr] zxv zxC
def Ql(x:Option PF)(f:PF->Option (PF×ah))(z:Option (PF×ah)):Option (PF×ah):=
 match x with
 |some y=>f y
 |none=>z
@[go_sem] def zMq{y:PF}{f:PF->Option (PF×ah)}{z:Option (PF×ah)}:Ql (J y) f z=f y:=(rfl)
@[go_sem] def zLd{f:PF->Option (PF×ah)}{z:Option (PF×ah)}:Ql ae f z=z:=(rfl)
@[go_sem] def zTZ{x:PV}:zm co d pf (.v x)=J (.v x,pf):=(rfl)
@[go_sem] def zSx :zm co d pf (.ra s p i j n)=J (.ra s p i j n,pf):=(rfl)
@[go_sem] def zR1 :zm co d pf (.rf s p)=if TM co d=Z then(ce pf s p).bind λx=>if dv x=Z then ae else(iz pf s p .au).map λpf'=>(.v x,pf')else J (.rf s p,pf):=(rfl)
@[go_sem] def zVU{d:Nat}:TM co (J d)=co.fz.contains (d+6*co.nt):=(rfl)
@[go_sem ↓] def zNq :pw1 P c co ty (.load t a) d k Q pf=qv P c co (Ql ((tk P t).bind λtz=>(m7 pf a).bind (Cm tz pf)) (zm co d pf) ((II P t pf a).map λy=>(y,pf))) d k Q:=by
 show Dy P co t a d (pw P c k Q) pf=_;unfold Dy;cases (tk P t).bind λtz=>(m7 pf a).bind (Cm tz pf)with
 |some y=>
  show DC co (pw P c k Q) d y pf=qv P c co (zm co d pf y) d k Q;unfold DC;cases zm co d pf y<;>rfl
 |none=>cases II P t pf a<;>rfl
def zxP{x:Option AD}:E7 co (pw P c k Q) d pf x=qv P c co (x.map λad=>(ua ad,pf)) d k Q:=by cases x<;>rfl
@[go_sem ↓] def zIV{s:TypeId}{f:Nat}:pw1 P c co ty (.fieldAddr s x f) d k Q pf=qv P c co (((du P s f).bind λo=>(m7 pf x).bind (wN o.1)).map λad=>(ua ad,pf)) d k Q:=zxP
@[go_sem ↓] def zCH :pw1 P c co ty (.nilCheck x) d k Q pf=qv P c co ((m7 pf x).map λad=>(ua ad,pf)) d k Q:=zxP
@[go_sem] def zTC{i:Operand}(h:lX P t=J es):zN P t x i pf=(FE pf x).bind (Lm es (cu pf i)):=by simp[zN,h]
@[go_sem] def zUy{i:Operand}{z:Nat×Nat}(h:IP P t=J z)(h0:lX P t=ae):zN P t x i pf=(m7 pf x).bind (Li z.1 z.2 (cu pf i)):=by simp[zN,h,h0]
@[go_sem ↓] def zCc{i:Operand}:pw1 P c co ty (.indexAddr t x i) d k Q pf=qv P c co (IU ((zN P t x i pf).map λad=>(ua ad,pf)) (Fb P t x i pf)) d k Q:=by
 show EF P co t x i d (pw P c k Q) pf=_;unfold EF;cases zN P t x i pf with
 |some ad=>rfl
 |none=>cases Fb P t x i pf<;>rfl
@[go_sem] def zSV{i:Operand}:Fb P t (.tmp u) i pf=LN P t u pf (pf u) (cu pf i):=(rfl)
@[go_sem] def zNB{kk:IntKind}{q:Int}:LN P t u pf (.as aa s p i j n) (J (.int kk q))=if lX P t=J 1/\0<=q/\q<n then J (.as Z s p i (j+q.toNat) 1,pf.put u jP)else ae:=(rfl)
@[go_sem] def zRv :II P t pf (.tmp u)=(tk P t).bind λtz=>if tz.1=aa then MG (pf u)else ae:=(rfl)
@[go_sem] def zMg :MG (.as Z s p i j n)=J (.rf s (p++[(i,j)])):=(rfl)
@[go_sem] def zS7{t:Nat}:q7 pf t (.as b s p i j n)=ae:=(rfl)
@[go_sem] def zSv{t:Nat}:s9 pf t (.as b s p i j n)=ae:=(rfl)
@[go_sem] def zO5{c:aY}{d:Nat}(h:c.fz=[]):zK c d=aa:=by simp[zK,h]
@[go_sem] def zVo{c:aY}{d:Nat}:zK c d=c.fz.contains (d+2*c.nt):=(rfl)
@[go_sem] def zOI :Bi (.rf s p)=J (s,p):=(rfl)
@[go_sem] def zLX{o:Bool}:LJ (J (.sl o es rows))=Z:=(rfl)
@[go_sem] def zKK :ww pf s p i j q []=Z:=(rfl)
@[go_sem] def zIt{q':Nat}{t:Tmp}{r:List (Nat×Operand)}:ww pf s p i j q ((q',.tmp t)::r)=if q'=q/\Bi (pf t)=J (s,p++[(i,j+q)])/\LJ (ce pf s (p++[(i,j+q)]))=Z then ww pf s p i j (q+1) r else aa:=(rfl)
@[go_sem] def zFQ{a:Nat×Nat}:oL [a]=J ([],a.1,a.2):=(rfl)
@[go_sem] def zGf{a b:Nat×Nat}{r:aA}:oL (a::b::r)=(oL (b::r)).map λx=>(a::x.1,x.2):=(rfl)
@[go_sem] def zS1{t:Tmp}{r:List (Nat×Operand)}:Fe pf ((q,.tmp t)::r)=(Bi (pf t)).bind λx=>(oL x.2).map λy=>(x.1,y):=(rfl)
@[go_sem] def zQT{ps:List (Nat×Operand)}:GX P t len ps pf=(ez P t).bind λz=>(Fe pf ps).bind λa=>if z.1=1/\len<=2^24/\ps.length=len/\ww pf a.1 a.2.1 a.2.2.1 a.2.2.2 0 ps=Z then J (.as aa a.1 a.2.1 a.2.2.1 a.2.2.2 len)else ae:=(rfl)
def Ka(pf:ah)(cells:List PV):AD->Option ah
 | .pl s p i j=>mz pf s p i j cells
 |_=>ae
def Qy(P:Program)(t:TypeId)(a x:Operand)(pf:ah):Option ah:=
 (tk P t).bind λtz=>(ew (cS P t) pf x).bind λy=>if Fh tz.2 y.1=Z then(m7 y.2 a).bind (Ka y.2 (cN y.1))else ae
@[go_sem] def zSb :Qy P t a x pf=(tk P t).bind λtz=>(ew (cS P t) pf x).bind λy=>if Fh tz.2 y.1=Z then(m7 y.2 a).bind (Ka y.2 (cN y.1))else ae:=(rfl)
@[go_sem ↓] def zIy :pw1 P c co ty (.store t a x) ae k Q pf=qf P c (Qy P t a x pf) k Q:=by
 show E5 P co t a x ae (pw P c k Q) pf=_;unfold E5 Qy;cases tk P t with
 |none=>rfl
 |some tz=>
  cases ew (cS P t) pf x with
  |none=>rfl
  |some y=>
   obtain⟨y,aQ⟩:=y;obtain⟨b,sz⟩:=tz;simp only[aR];by_cases h:Fh sz y=Z
   ·rw[aB h];cases ha:m7 aQ a with
    |none=>simp[Dk,qf]
    |some ad=>cases ad with
     |pl s p i j=>cases hp:mz aQ s p i j (cN y)<;>simp[Dk,qf,h,Ka,hp]
     |fz row=>simp[Dk,qf,Ka]
   ·rw[az h];simp[qf,h]
def F3(P:Program)(co:aY)(e:TypeId)(d:Nat)(pf:ah):Option ah:=
 (zr P e).bind λz=>if gJ co d .skip=Z then J (if co.hp.contains d=Z then pf.put d (.v (.bx z))else pf.put d (.bl z))else ae
@[go_sem] def zUJ{d:Nat}(h:zr P e=J z)(h1:gJ co d .skip=Z)(h2:co.hp.contains d=Z):F3 P co e d pf=J (pf.put d (.v (.bx z))):=by unfold F3;rw[h,aR,aB h1,aB h2]
@[go_sem] def zT1{d:Nat}(h:zr P e=J z)(h1:gJ co d .skip=Z)(h2:co.hp.contains d=aa):F3 P co e d pf=J (pf.put d (.bl z)):=by unfold F3;rw[h,aR,aB h1,az (by rw[h2];simp)]
@[go_sem ↓] def zIX{d:Tmp}:pw1 P c co ty (.alloc e) (J d) k Q pf=qf P c (F3 P co e d pf) k Q:=by
 show Gd P co e (J d) (pw P c k Q) pf=_;unfold Gd F3;cases zr P e with
 |none=>rfl
 |some z=>
  simp only[aR];by_cases h:gJ co d .skip=Z
  ·rw[aB h];by_cases h2:co.hp.contains d=Z
   ·simp only[h,h2,qf,eP,o5]
   ·simp only[h,h2,qf,o5];simp
  ·rw[az h];simp[qf,h]
def T5(P:Program)(co:aY)(e:TypeId)(x:Operand)(d:Nat)(pf:ah):Option ah:=
 (tk P e).bind λ_=>(ew (cS P e) pf x).bind λy=>if(!uE pf x&&jR y.1&&gJ co d .skip)=Z then J (if co.hp.contains d=Z then(if co.fz.contains d=Z then(y.2.put d (.v (.bx (cN y.1)))).put d (.v (drop (.bx (cN y.1))))else y.2.put d (.v (.bx (cN y.1))))else y.2.put d (.bl (cN y.1)))else ae
@[go_sem] def zTn{d:Nat}:T5 P co e x d pf=(tk P e).bind λ_=>(ew (cS P e) pf x).bind λy=>if(!uE pf x&&jR y.1&&gJ co d .skip)=Z then J (if co.hp.contains d=Z then(if co.fz.contains d=Z then(y.2.put d (.v (.bx (cN y.1)))).put d (.v (drop (.bx (cN y.1))))else y.2.put d (.v (.bx (cN y.1))))else y.2.put d (.bl (cN y.1)))else ae:=(rfl)
@[go_sem ↓] def zQ3{d:Tmp}:pw1 P c co ty (.box e x) (J d) k Q pf=qf P c (T5 P co e x d pf) k Q:=by
 show DG P co e x (J d) (pw P c k Q) pf=_;unfold DG T5;cases tk P e with
 |none=>rfl
 |some z=>
  cases ew (cS P e) pf x with
  |none=>rfl
  |some y=>
   obtain⟨y,aQ⟩:=y;simp only[aR];by_cases h:(!uE pf x&&jR y&&gJ co d .skip)=Z
   ·rw[aB h];simp only[bI,qc]at h;by_cases h2:co.hp.contains d=Z
    ·by_cases h4:co.fz.contains d=Z
     ·simp only[h.1.1,h.1.2,h.2,h2,h4,qf,eP,o5]
     ·simp only[h.1.1,h.1.2,h.2,h2,h4,qf,eP,o5];simp
    ·simp only[h.1.1,h.1.2,h.2,h2,qf,o5];simp
   ·rw[az h];simp only[qf,OD,Ui];rintro⟨h1,h2,h3,_⟩;exact h (by rw[h1,h2,h3];rfl)
def Q1(P:Program)(co:aY)(t:TypeId)(len:Nat)(ps:List (Nat×Operand))(d:Nat)(pf:ah):Option ah:=
 (ez P t).bind λz=>(ph pf (ps.map λp=>(d6 P t p.1,p.2))).bind λy=>if len*z.1<=2^24/\gJ co d .skip=Z then(rH z.1 ((ps.map (·.1)).zip (uX co d y.1)) (List.replicate len z.2.2)).map λrows=>y.2.put d (.ls z.1 rows)else ae
@[go_sem] def zOg{d:Nat}(h:co.fz=[]):uX co d xs=xs:=by simp[uX,h]
@[go_sem] def zVL{d:Nat}:uX co d xs=if co.fz.contains (d+3*co.nt)=Z then xs.map drop else xs:=(rfl)
@[go_sem] def zP9{ps:List (Nat×Operand)}{d:Nat}:Q1 P co t len ps d pf=(ez P t).bind λz=>(ph pf (ps.map λp=>(d6 P t p.1,p.2))).bind λy=>if len*z.1<=2^24/\gJ co d .skip=Z then(rH z.1 ((ps.map (·.1)).zip (uX co d y.1)) (List.replicate len z.2.2)).map λrows=>y.2.put d (.ls z.1 rows)else ae:=(rfl)
@[go_sem ↓] def zBt{ps:Array (Nat×Operand)}{d:Tmp}:pw1 P c co ty (.buildSlice t len ps) (J d) k Q pf=if zK co d=Z then qv P c co ((GX P t len ps.toList pf).map λy=>(y,pf)) (J d) k Q else qf P c (Q1 P co t len ps.toList d pf) k Q:=by
 show DQ P co t len ps.toList (J d) (pw P c k Q) pf=_;unfold DQ Q1;by_cases hm:zK co d=Z
 ·rw[aB hm,aB (show Qg co (J d)=Z from hm)];unfold Iw;cases GX P t len ps.toList pf<;>rfl
 rw[az hm,az (show¬Qg co (J d)=Z from hm)];cases ez P t with
 |none=>rfl
 |some z=>
  cases ph pf (ps.toList.map λp=>(d6 P t p.1,p.2))with
  |none=>rfl
  |some y=>
   obtain⟨xs,aQ⟩:=y;simp only[aR];by_cases h:len*z.1<=2^24/\gJ co d .skip=Z
   ·rw[aB h];cases rH z.1 ((ps.toList.map (·.1)).zip (uX co d xs)) (List.replicate len z.2.2)<;>simp only[N0,qf,h.1,h.2,o5,and_false,Option.map_none,l9]
   ·rw[az h];simp only[qf,OD,Ui];rintro⟨h1,h2⟩;cases hf:rH z.1 ((ps.toList.map (·.1)).zip (uX co d xs)) (List.replicate len z.2.2)with
    |none=>rw[hf]at h2;exact h2
    |some r=>rw[hf]at h2;exact h ⟨h1,h2.1⟩
@[go_sem ↓] def zI6{ps:Array (Nat×Operand)}:pw1 P c co ty (.build t ps) d k Q pf=
 qv P c co ((nq P t).bind λb=>(ph pf (ps.toList.map λp=>(d6 P t p.1,p.2))).bind λy=>(ur b.1 ((ps.toList.map (·.1)).zip y.1) b.2).map λrow=>(.v (.agg row),y.2)) d k Q:=by
 show Gm P co t ps.toList d (pw P c k Q) pf=_;unfold Gm;cases nq P t with
 |none=>rfl
 |some b=>
  cases ph pf (ps.toList.map λp=>(d6 P t p.1,p.2))with
  |none=>rfl
  |some y=>
   simp only[aR];cases ur b.1 ((ps.toList.map (·.1)).zip y.1) b.2<;>rfl
def Br(b x y:Option Value):Option PV:=
 match b with
 |some (.bool Z)=>x.bind lG
 |some (.bool aa)=>y.bind lG
 |_=>ae
@[go_sem ↓] def zNU{b y:Operand}:pw1 P c co ty (.pick b x y) d k Q pf=qv P c co ((Br (cu pf b) (cu pf x) (cu pf y)).map λz=>(.v z,pf)) d k Q:=by
 show Gn co b x y d (pw P c k Q) pf=_;unfold Gn MZ Br;cases cu pf b with
 |none=>rfl
 |some v=>
  cases v with
  |bool b=>
   cases b
   ·simp only[];cases (cu pf y).bind lG<;>rfl
   ·simp only[];cases (cu pf x).bind lG<;>rfl
  |_=>rfl
@[go_sem] def zVI{x y:Option Value}:Br (J (.bool Z)) x y=x.bind lG:=(rfl)
@[go_sem] def zTp{x y:Option Value}:Br (J (.bool aa)) x y=y.bind lG:=(rfl)
@[go_sem] def zPA{j:IntKind}{m n:Int}:Br (J (.bool b)) (J (.int j m)) (J (.int j n))=J (.int j (if b=Z then m else n)):=by cases b<;>rfl
@[go_sem] def zLR{m n:Bool}:Br (J (.bool b)) (J (.bool m)) (J (.bool n))=J (.bool (if b=Z then m else n)):=by cases b<;>rfl
@[go_sem] def zPC{m n:ByteArray}:Br (J (.bool b)) (J (.string m)) (J (.string n))=J (.str (if b=Z then m else n)):=by cases b<;>rfl
def Pt(b:Bool)(z:Nat×Nat×List PV)(pf:ah):Option Value->Option Value->Option (PF×ah)
 |some (.int .i64 n),J (.int .i64 m)=>if 0<=n/\n<=m/\z.2.1*m<=140737488355328/\m<=4611686018427387904 then J (.v (.sl Z z.1 (List.replicate n.toNat (uz b z.2.2))),pf)else ae
 |_,_=>ae
@[go_sem] def zPO{z:Nat×Nat×List PV}{n m:Int}:Pt b z pf (J (.int .i64 n)) (J (.int .i64 m))=if 0<=n/\n<=m/\z.2.1*m<=140737488355328/\m<=4611686018427387904 then J (.v (.sl Z z.1 (List.replicate n.toNat (uz b z.2.2))),pf)else ae:=(rfl)
@[go_sem] def zKS{d:Nat}:rL co (J d)=co.fz.contains (d+co.nt):=(rfl)
@[go_sem] def zK4:rL co ae=aa:=(rfl)
@[go_sem] def zLE :uz aa z=z:=(rfl)
@[go_sem] def zPU :uz Z z=z.map ud:=(rfl)
@[go_sem] def zUd{o:Bool}{e:Nat}:ud (.sl o e [])=.sl Z e []:=(rfl)
@[go_sem] def zTe{j:IntKind}{n:Int}:ud (.int j n)=.int j n:=(rfl)
@[go_sem] def zPi :ud (.bool b)=.bool b:=(rfl)
@[go_sem] def zSD{b:ByteArray}:ud (.str b)=.str b:=(rfl)
@[go_sem ↓] def zCg{l cc:Operand}:pw1 P c co ty (.makeSlice t l cc) d k Q pf=qv P c co ((ez P t).bind λz=>Pt (rL co d) z pf (cu pf l) (cu pf cc)) d k Q:=by
 show Df P co t l cc d (pw P c k Q) pf=_;unfold Df;cases ez P t with
 |none=>rfl
 |some z=>
  simp only[aR];generalize cu pf l=x1;generalize cu pf cc=x2;unfold NH Pt;split
  ·rename_i n m;simp only[];by_cases h:0<=n/\n<=m/\z.2.1*m<=140737488355328/\m<=4611686018427387904
   ·rw[aB h];simp only[h,o5];rfl
   ·rw[az h];simp only[qv,OD,Ui];rintro⟨a1,_⟩;exact h a1
  ·rename_i h1;split
   ·rename_i e1;exact absurd rfl (h1 _ _ rfl)
   ·rfl
def X5{u:TypeId}{op:BinOp}{y:Operand}{d:Tmp}{q:Bool}(hy:v6 y=Z)(hp:co.hp.isEmpty=aa)(he:(cR P t).isSome=Z)(hq:J2 op=J q)(hx:P1 pf x=J rows)
(hk:∀b,(rows≠[]->b= !q)->qv P c co (J (.v (.bool b),pf)) (J d) k Q):pw1 P c co ty (.binOp op t x y u) (J d) k Q pf:=by
 show nw P co ⟨J d,.binOp op t x y u,ty, "",#[],ae⟩ (pw P c k Q) pf;simp only[nw,hy,eP];refine⟨(by intro e;rw[e]at hp;cases hp),?_⟩;cases x with
 |tmp s=>
  unfold Cb;simp only[hq,hx];exact⟨he,λb hb=>hk b hb⟩
 |_=>simp[P1]at hx
@[go_sem ↓] def zCL{fn:Fn}{xs ys:Array Operand}:pw1 P c co ty (.makeFunc fn xs ys) d k Q pf=
 qv P c co (if Qo co d=Z then(Jd pf fn xs.toList ys.toList).bind (Iv co pf)else(rS (!co.hp.isEmpty) pf (xs.toList++ys.toList)).map λvs=>(.v (.func fn (vs.1.take xs.toList.length) (vs.1.drop xs.toList.length)),vs.2)) d k Q:=by
 show DU co fn xs.toList ys.toList d (pw P c k Q) pf=_;unfold DU;split
 ·cases (Jd pf fn xs.toList ys.toList).bind (Iv co pf)<;>rfl
 cases rS (!co.hp.isEmpty) pf (xs.toList++ys.toList)<;>rfl
def ry(co:aY)(d:Option Tmp)(t:Nat)(pf:ah):PF->Option (PF×ah)
 | .v x=>if dv x=Z then ae else J (if bL x=Z then .rf t []else .v x,pf)
 | .ls es rows=>if t<co.nt then J (.rf t [],(pf.bU t (.v (.sl Z es rows))).kill t 0)else ae
 | .bl _=>J (.pt t [] 0 0,pf)
 | .skip=>ae
 | .as .. =>ae
 | .pt s p i j=>if AN co d=Z then CY pf t s p i j (pf s)else J (.pt s p i j,pf)
 |y=>J (y,pf)
@[go_sem] def zUr{co:aY}{t:Nat}{x:PV}(h:dv x=aa):ry co d t pf (.v x)=J (if bL x=Z then .rf t []else .v x,pf):=by simp[ry,h]
@[go_sem] def zRu{co:aY}{t:Nat}(h:t<co.nt):ry co d t pf (.ls es rows)=J (.rf t [],(pf.bU t (.v (.sl Z es rows))).kill t 0):=by simp[ry,h]
@[go_sem] def zR6{co:aY}{t:Nat}:ry co d t pf (.bl row)=J (.pt t [] 0 0,pf):=(rfl)
@[go_sem] def zRI{co:aY}{t:Nat}:ry co d t pf (.pt s p i j)=if AN co d=Z then CY pf t s p i j (pf s)else J (.pt s p i j,pf):=(rfl)
@[go_sem] def zUf{co:aY}{d:Nat}:AN co (J d)=(!co.hp.isEmpty&&co.fz.contains (d+5*co.nt)):=(rfl)
@[go_sem] def zSB{t:Nat}:CY pf t s [] 0 0 (.bl row)=J (.rf s [],((pf.bU s (.v (.bx row))).kill s 0).put t (.rf s [])):=(rfl)
@[go_sem] def zTa{co:aY}{t:Nat}:ry co d t pf (.rf s p)=J (.rf s p,pf):=(rfl)
@[go_sem] def zSS{co:aY}{t:Nat}:ry co d t pf (.rv s p lo hi)=J (.rv s p lo hi,pf):=(rfl)
@[go_sem] def zRt{co:aY}{t:Nat}:ry co d t pf (.ra s p i j n)=J (.ra s p i j n,pf):=(rfl)
@[go_sem] def zSE{co:aY}{t:Nat}:ry co d t pf (.cl s g us)=J (.cl s g us,pf):=(rfl)
@[go_sem] def zVn{co:aY}{d:Nat}:Qo co (J d)=co.fz.contains (d+4*co.nt):=(rfl)
@[go_sem] def zVO{ys:List Operand}:Jd pf (.func g) [] (.tmp s::ys)=match pf s with| .v (.bx _)=>J (g,s,ys)|_=>ae:=(rfl)
@[go_sem] def zU1{ys:List Operand}{co:aY}:Iv co pf (g,s,ys)=(rS (!co.hp.isEmpty) pf ys).map λy=>(.cl s g y.1,y.2):=(rfl)
@[go_sem] def zVr{t:Tmp}:vk pf (.tmp t)=La (pf t):=(rfl)
@[go_sem] def zRR :La (.cl s g us)=J (s,g,us):=(rfl)
@[go_sem ↓] def zHc{t:Tmp}:pw1 P c co ty (.move (.tmp t)) d k Q pf=qv P c co (ry co d t pf (pf t)) d k Q:=by
 show tv co t d (pw P c k Q) pf (pf t)=_;unfold tv ry;cases pf t with
 |v x=>
  cases hj:dv x
  ·cases ho:bL x<;>simp[hj,ho,qv]
  ·simp[hj,qv]
 |ls es rows=>
  by_cases h:t<co.nt
  ·simp[h,qv]
  ·simp[h,qv]
 |pt s p i j=>
  cases hl:AN co d
  ·simp[qv]
  ·simp only[eP];cases CY pf t s p i j (pf s)<;>rfl
 |_=>rfl
def MI(x:Option (PV×ah)):Option (PF×ah):=x.map λy=>(.v y.1,y.2)
@[go_sem] def zKj :MI (J (y,pf))=J (.v y,pf):=(rfl)
@[go_sem ↓] def zEI{k0:Value}:pw1 P c co ty (.move (.const k0)) d k Q pf=qv P c co (MI (ew (cS P ty) pf (.const k0))) d k Q:=by
 show sU (cS P ty) co (.const k0) d (pw P c k Q) pf=_;unfold sU;simp only[];cases ew (cS P ty) pf (.const k0)<;>rfl
@[go_sem ↓] def zF8 :pw1 P c co ty (.move (.func g)) d k Q pf=qv P c co (MI (ew (cS P ty) pf (.func g))) d k Q:=by
 show sU (cS P ty) co (.func g) d (pw P c k Q) pf=_;unfold sU;simp only[];cases ew (cS P ty) pf (.func g)<;>rfl
@[go_sem ↓] def zER :pw1 P c co ty (.assign x) d k Q pf=qv P c co (HB (CD co pf d x) pf (MI (ew (cS P ty) pf x))) d k Q:=by
 show Ga (cS P ty) co x d (pw P c k Q) pf=_;unfold Ga;cases CD co pf d x with
 |some y=>rfl
 |none=>cases ew (cS P ty) pf x<;>rfl
@[go_sem] def zRy{d:Nat}{t:Tmp}:CD co pf (J d) (.tmp t)=if zK co d=Z then FN t (pf t)else ae:=(rfl)
@[go_sem] def zOd{t:Nat}:FN t (.rf s p)=J (.rf s p):=(rfl)
@[go_sem] def zO1{t:Nat}:FN t (.bl row)=J (.pt t [] 0 0):=(rfl)
@[go_sem] def zPQ{t:Nat}:FN t (.cl s g us)=J (.cl s g us):=(rfl)
@[go_sem] def zRK{x:Value}:CD co pf d (.const x)=ae:=by cases d<;>rfl
@[go_sem] def zSp{x:FuncId}:CD co pf d (.func x)=ae:=by cases d<;>rfl
def GL(pf:ah)(s:Nat)(xs:List PV)(i:Nat):Option PV->Option (PF×ah)
 |some y=>if dv y=Z then ae else J (.v y,if bL y=Z then(pf.bU s (.v (.bO (xs.set i .au)))).kill s 1 else pf)
 |none=>ae
@[go_sem] def zMY(h:dv y=aa):GL pf s xs i (J y)=J (.v y,if bL y=Z then(pf.bU s (.v (.bO (xs.set i .au)))).kill s 1 else pf):=by simp[GL,h]
@[go_sem] theorem zQ6{t:Tmp}:BP pf (.tmp t)=match pf t with
 | .rf s []=>CA s (pf s)
 |y=>CA t y:=rfl
@[go_sem] def zT9 :CA s (.v (.bO xs))=J (s,xs):=(rfl)
@[go_sem ↓] def zEn :pw1 P c co ty (.extract x i) d k Q pf=qv P c co ((BP pf x).bind λa=>if a.1<co.nt then GL pf a.1 a.2 i a.2[i]? else ae) d k Q:=by
 show EX co x i d (pw P c k Q) pf=_;unfold EX;cases BP pf x with
 |none=>rfl
 |some a=>
  obtain⟨s,xs⟩:=a;simp only[aR];by_cases h:s<co.nt
  ·rw[aB h];simp only[h,o5];cases xs[i]? with
   |none=>rfl
   |some y=>
    cases hj:dv y
    ·cases ho:bL y<;>simp[Jn,GL,hj,ho,qv]
    ·simp[Jn,GL,hj,qv]
  ·rw[az h];simp[h,qv]
def Lp(es t:Nat)(pf:ah)(l h m:Option (Option Nat)):Option (PF×ah):=
 match l,h,m with
 |some l,J h,J ae=>(nc es (l.getD 0) h pf t (pf t)).map λy=>(y,pf)
 |some l,J (J h),J (J m)=>((dM pf (pf t)).bind iE).bind λrows=>(nc es (l.getD 0) (J h) pf t (pf t)).bind λ_=>if l.getD 0=h/\h=m/\m<=rows.length then J (.v (.sl Z es []),pf)else ae
 |_,_,_=>ae
@[go_sem] def zH1{t:Nat}{l h:Option Nat}:Lp es t pf (J l) (J h) (J ae)=(nc es (l.getD 0) h pf t (pf t)).map λy=>(y,pf):=by cases h<;>rfl
@[go_sem] def zHt{t:Nat}{l:Option Nat}{h m:Nat}:Lp es t pf (J l) (J (J h)) (J (J m))=((dM pf (pf t)).bind iE).bind λrows=>(nc es (l.getD 0) (J h) pf t (pf t)).bind λ_=>if l.getD 0=h/\h=m/\m<=rows.length then J (.v (.sl Z es []),pf)else ae:=(rfl)
def zBg{t:Nat}{l h m:Option (Option Nat)}:EU co es t d (pw P c k Q) pf l h m=qv P c co (Lp es t pf l h m) d k Q:=by
 cases l with
 |none=>rfl
 |some l=>
  cases h with
  |none=>rfl
  |some h=>
   cases m with
   |none=>rfl
   |some m=>
    cases m with
    |none=>
     rw[zH1];cases h<;>simp only[EU]<;>cases nc es (l.getD 0) _ pf t (pf t)<;>rfl
    |some m=>
     cases h with
     |none=>rfl
     |some h=>
      rw[zHt];simp only[EU];cases (dM pf (pf t)).bind iE with
      |none=>rfl
      |some rows=>
       simp only[aR];cases nc es (l.getD 0) (J h) pf t (pf t)with
       |none=>simp[qv]
       |some y=>
        by_cases hh:l.getD 0=h/\h=m/\m<=rows.length
        ·simp[hh,qv]
        ·simp[hh,qv]
@[go_sem ↓] def zJy{x:Tmp}{l h m:Option Operand}(hs:dW P t=aa):pw1 P c co ty (.slice t (.tmp x) l h m) d k Q pf=qv P c co ((lX P t).bind λes=>Lp es x pf (oO pf l) (oO pf h) (oO pf m)) d k Q:=by
 show(if dW P t=Z then lZ P co ⟨d,.slice t (.tmp x) l h m,ty, "",#[],ae⟩ (pw P c k Q) pf else FW P co t (.tmp x) l h m d (pw P c k Q) pf)=_;rw[az (by simp[hs])];unfold FW;cases lX P t with
 |none=>rfl
 |some es=>exact zBg
def tL(P:Program)(c co:aY)(x:Option (List (List PV)))(d:Option Tmp)(k:List iv)(Q:Exit->ah->Prop)(pf:ah):Prop:=
 match x with
 |some rows=>rows.length<=j3->qv P c co (J (.v (.int .i64 rows.length),pf)) d k Q
 |none=>False
def zyj{x x':Option (List (List PV))}{d:Option Tmp}(h:x=x'):tL P c co x d k Q pf=tL P c co x' d k Q pf:=by rw[h]
attribute [congr] zyj
def AW(P:Program)(c co:aY)(t:TypeId)(d:Option Tmp)(k:List iv)(Q:Exit->ah->Prop)(pf:ah)(x:Nat):PF->Prop
 | .ls es rows=>tL P c co ((cR P t).bind λ_=>J rows) d k Q ((pf.bU x (.v (.sl Z es rows))).kill x 0)
 |y=>tL P c co ((cR P t).bind λ_=>(dM pf y).bind iE) d k Q pf
def zyE{t:TypeId}{d:Option Tmp}{x:Nat}{y y':PF}(h:y=y'):AW P c co t d k Q pf x y=AW P c co t d k Q pf x y':=by rw[h]
attribute [congr] zyE
@[go_sem ↓] theorem zSF{x:Nat}:AW P c co t d k Q pf x (.ls es rows)=tL P c co ((cR P t).bind λ_=>J rows) d k Q ((pf.bU x (.v (.sl Z es rows))).kill x 0):=rfl
@[go_sem ↓] theorem zUk{x:Nat}:AW P c co t d k Q pf x (.v y)=tL P c co ((cR P t).bind λ_=>iE y) d k Q pf:=rfl
@[go_sem ↓] theorem zR5{x:Nat}:AW P c co t d k Q pf x (.rf s p)=tL P c co ((cR P t).bind λ_=>(dM pf (.rf s p)).bind iE) d k Q pf:=rfl
@[go_sem ↓] theorem zRA{x:Nat}:AW P c co t d k Q pf x (.rv s p lo hi)=tL P c co ((cR P t).bind λ_=>(dM pf (.rv s p lo hi)).bind iE) d k Q pf:=rfl
@[go_sem ↓] def zO3{x:Tmp}(hs:dW P t=aa):pw1 P c co ty (.call ⟨.builtin .len,#[.tmp x],#[t]⟩) d k Q pf=AW P c co t d k Q pf x (pf x):=by
 show(if dW P t=Z then lZ P co ⟨d,.call ⟨.builtin .len,#[.tmp x],#[t]⟩,ty, "",#[],ae⟩ (pw P c k Q) pf else BZ P co t (.tmp x) d (pw P c k Q) pf)=_;rw[az (by simp[hs])];unfold BZ AW;cases aD:pf x with
 |ls es rows=>
  have:((pf.bU x (.v (.sl Z es rows))).kill x 0) x=.v (.sl Z es rows):=by simp[ah.kill,ah.bU,df,bC]
  simp only[Ac,aD,this,dM,iE,aR,tL,qv];cases cR P t<;>rfl
 |_=>
  simp only[Ac,aD,tL,qv];generalize (cR P t).bind (λ_=>(dM pf _).bind iE)=o;cases o<;>rfl
@[go_sem] def zQG{s:ByteArray}(hs:dW P t=Z):eG P (.call ⟨.builtin .len,#[x],#[t]⟩) [.string s]=J (.int .i64 s.size):=by simp[eG,Am.iE,hs]
@[go_sem ↓] def zNS(hs:dW P t=Z):pw1 P c co ty (.call ⟨.builtin .len,#[x],#[t]⟩) d k Q pf=qv P c co (B2 (λv=>eG P (.call ⟨.builtin .len,#[x],#[t]⟩) [v]) (cu pf x) pf) d k Q:=by
 show(if dW P t=Z then lZ P co ⟨d,.call ⟨.builtin .len,#[x],#[t]⟩,ty, "",#[],ae⟩ (pw P c k Q) pf else BZ P co t x d (pw P c k Q) pf)=_;rw[aB hs];refine Bm (o:=⟨d,.call ⟨.builtin .len,#[x],#[t]⟩,ty, "",#[],ae⟩) ?_;simp only[gp,pB,aR];cases cu pf x<;>simp[B2]
def QN(P:Program)(t:TypeId)(s x:Operand)(pf:ah):Option (PF×ah):=
 (ez P t).bind λz=>(ew z.1 pf s).bind λb=>(y9 z.1 b.1).bind λrows=>(pI z.1 b.2 x).bind λr=>
   if nJ r.1=Z/\(rows.length+r.1.length)*z.2.1<=140737488355328/\rows.length+r.1.length<=4611686018427387904 then J (.v (.sl Z z.1 (rows++r.1)),r.2)else ae
@[go_sem] theorem zSd{s:Operand}:QN P t s x pf=(ez P t).bind λz=>(ew z.1 pf s).bind λb=>(y9 z.1 b.1).bind λrows=>(pI z.1 b.2 x).bind λr=>
 if nJ r.1=Z/\(rows.length+r.1.length)*z.2.1<=140737488355328/\rows.length+r.1.length<=4611686018427387904 then J (.v (.sl Z z.1 (rows++r.1)),r.2)else ae:=rfl
@[go_sem ↓] def zEP{s:Operand}:pw1 P c co ty (.call ⟨.builtin .append,#[s,x],#[t,t]⟩) d k Q pf=qv P c co (QN P t s x pf) d k Q:=by
 show(if t=t then FK P co t s x d (pw P c k Q) pf else Hb P co t t s x d (pw P c k Q) pf)=_;rw[aB rfl];unfold FK QN;cases ez P t with
 |none=>rfl
 |some z=>
  simp only[aR];cases ew z.1 pf s with
  |none=>rfl
  |some b=>
   obtain⟨b,aQ⟩:=b;simp only[aR,KV];cases y9 z.1 b with
   |none=>rfl
   |some rows=>
    simp only[aR];cases pI z.1 aQ x with
    |none=>rfl
    |some r=>
     obtain⟨rows2,bW⟩:=r;simp only[aR,Nb];by_cases h:nJ rows2=Z/\(rows.length+rows2.length)*z.2.1<=140737488355328/\rows.length+rows2.length<=4611686018427387904
     ·rw[aB h];simp only[h.1,h.2.1,h.2.2,o5,qv]
     ·rw[az h];simp only[qv,OD,Ui];rintro⟨a1,a2,_⟩;exact h ⟨a1,a2⟩
def SV{n:Int}{z:Nat×Nat×List PV}(h:KI P g t)(hz:ez P t=J z)(hn:cu pf x=J (.int .i64 n))(hb:0<=n/\z.2.1*n<=140737488355328/\n<=4611686018427387904)
(hk:qv P c co (J (.v (.sl Z z.1 []),pf)) d k Q):pw1 P c co ty (.call ⟨.value (.func g),#[.const (.slice ae 0 0),x],ts⟩) d k Q pf:=.inr (.inl ⟨g,x,t,n,z,rfl,rfl,h,hn,hz,hb,hk⟩)
def zBp(ms:List Md){l:List (Md×Nat×Operand)}
(hm:ms.length=args.toList.length)(hl:ms.zip (ic P args.toList ts.toList)=l)(ha:oG pf l=J (ys,aQ))(hf:pZ aQ f=J (g,xs,us))(hc:eJ aQ l ys=J as)
(has:xs.map (λx=>(Md.sh,x))++as++us.map (λx=>(Md.sh,x))=ju)(h:ap P g ju R)
(hk:∀r outs,R r outs->(l.any (rk aQ)=aa\/(cP r&&outs.all cP)=Z)/\qv P c co ((back co.nt aQ l (outs.drop xs.length)).map λp=>(.v r,p)) d k Q):pw1 P c co ty (.call ⟨.value f,args,ts⟩) d k Q pf:=by
 refine .inl ⟨ms,hm,?_⟩;rw[hl,ha];show Al P co d (pw P c k Q) aQ l (pZ aQ f) (eJ aQ l ys);rw[hf,hc];show ap P g _ _;rw[has];refine h.mono λr outs hr=>?_
 obtain⟨h1,h2⟩:=hk r outs hr;refine⟨h1,?_⟩;cases hb:back co.nt aQ l (outs.drop xs.length)with
 |none=>rw[hb]at h2;exact h2
 |some p=>rw[hb]at h2;exact h2
def zzG(ms:List Md){l:List (Md×Nat×Operand)}
(hm:ms.length=args.toList.length)(hf:vk pf f=J (s,g,us))(hl:ms.zip (ic P args.toList ts.toList)++[(.io,0,.tmp s)]=l)(ha:oG pf l=J (ys,aQ))(Tp:vk aQ f=J (s,g,us))(hc:eJ aQ l ys=J as)
(has:as++us.map (λx=>(Md.sh,x))=ju)(h:ap P g ju R)
(hk:∀r outs,R r outs->(l.any (rk aQ)=aa\/(cP r&&outs.all cP)=Z)/\qv P c co ((back co.nt aQ l outs).map λp=>(.v r,p)) d k Q):pw1 P c co ty (.call ⟨.value f,args,ts⟩) d k Q pf:=by
 refine .inr (.inr ⟨ms,(s,g,us),hf,hm,?_⟩);rw[hl,ha];refine⟨Tp,?_⟩;rw[hc];show ap P g _ _;simp only[p8,mL];rw[has];refine h.mono λr outs hr=>?_
 obtain⟨h1,h2⟩:=hk r outs hr;refine⟨h1,?_⟩;show HQ co d _ r (back co.nt aQ l outs);cases hb:back co.nt aQ l outs with
 |none=>rw[hb]at h2;exact h2
 |some p=>rw[hb]at h2;exact h2
def zA5{id:Nat}{ops:Array Oper}(D:List DE){L:List (DE×Oper)}(h1:P.follows .mixedOrders=Z)(h2:G8 D ops.toList=Z)(hL:D.map (λx=>(x,ops.toList.getD x.i default))=L)
(h:pw P c (.ir (ops.toList.map (·.dst)) L::k) Q pf):pw P c (.code (.region id ops Z)::k) Q pf:=by
 subst hL;exact⟨h1,0,D,h2,h⟩
def zAA(D:List DE)(ops:List Oper):List (Nat×Nat)->List (Nat×Nat)->Bool
 |[],xs=>G8 D ops xs
 |p::ps,xs=>zAA D ops ps ((p.1,p.2)::xs)&&zAA D ops ps ((p.2,p.1)::xs)
@[go_sem ↓] theorem zD4 :pw P c (.ir pre []::k) Q pf=pw P c k Q pf:=rfl
def ii:Op->Bool
 | .call ⟨.value _,_,_⟩=>Z
 |_=>aa
def qw(P:Program)(c:aY)(ext:Bool)(ty:TypeId)(op:Op)(d:Option Tmp)(k:List iv)(Q:Exit->ah->Prop)(pf:ah):Prop:=sf P c ext ⟨d,op,ty, "",#[],ae⟩ (pw P c k Q) pf
def zvy{o o':Oper}{K:ah->Prop}(h:o.op=o'.op)(hd:o.dst=o'.dst)(ht:o.type=o'.type):sf P c ext o K pf=sf P c ext o' K pf:=by
 obtain⟨d,op,ty,ps,af,g⟩:=o;obtain⟨d',op',Lg,ps',af',g'⟩:=o';simp only at h hd ht;subst h;subst hd;subst ht;rfl
@[go_sem ↓] def zTc{e:DE}{ps:String}{af:Array Edge}{l:List (DE×Oper)}(h:(xO pf e.rg e.ls e.sl&&A4 pf e.mr)=Z):
 pw P c (.ir pre ((e,⟨d,op,ty,ps,af,ae⟩)::l)::k) Q pf=qw P c e.ex ty op d (.ir pre l::k) Q pf:=by
 show Fo P c pre e ⟨d,op,ty,ps,af,ae⟩ (pw P c (.ir pre l::k) Q) pf=_;simp only[Fo,h,o5,IH];exact zvy rfl rfl rfl
def ji(P:Program)(c:aY)(y:Option (Option Bool))(b:Bool)(ext:Bool)(ty:TypeId)(op:Op)(d:Option Tmp)(k:List iv)(Q:Exit->ah->Prop)(pf:ah):Prop:=
 k9 c b d (qw P c ext ty op d k Q pf) (pw P c k Q) pf y
def zvR{y y':Option (Option Bool)}{b ext:Bool}{ty:TypeId}{op:Op}{d:Option Tmp}(h:y=y'):ji P c y b ext ty op d k Q pf=ji P c y' b ext ty op d k Q pf:=by rw[h]
attribute [congr] zvR
@[go_sem ↓] def zQN{e:DE}{ps:String}{af:Array Edge}{l:List (DE×Oper)}(h:(xO pf e.rg e.ls e.sl&&A4 pf e.mr)=Z):
 pw P c (.ir pre ((e,⟨d,op,ty,ps,af,J (j,b)⟩)::l)::k) Q pf=ji P c (A8 pf pre[j]?) b e.ex ty op d (.ir pre l::k) Q pf:=by
 show Fo P c pre e ⟨d,op,ty,ps,af,J (j,b)⟩ (pw P c (.ir pre l::k) Q) pf=_;simp only[Fo,h,o5,IH];unfold ji qw;rw[zvy (o:=⟨d,op,ty,ps,af,J (j,b)⟩) (o':=⟨d,op,ty, "",#[],ae⟩) rfl rfl rfl]
@[go_sem ↓] def zQr :ji P c (J (J Z)) Z ext ty op d k Q pf=qw P c ext ty op d k Q pf:=by simp[ji,k9]
@[go_sem ↓] def zOQ :ji P c (J (J aa)) aa ext ty op d k Q pf=qw P c ext ty op d k Q pf:=by simp[ji,k9]
@[go_sem ↓] def zO9{d:Tmp}(h:gJ c d .skip=Z):ji P c (J (J Z)) aa ext ty op (J d) k Q pf=pw P c k Q (pf.put d .skip):=by simp[ji,k9,uk,h]
@[go_sem ↓] def zPI{d:Tmp}(h:gJ c d .skip=Z):ji P c (J (J aa)) Z ext ty op (J d) k Q pf=pw P c k Q (pf.put d .skip):=by simp[ji,k9,uk,h]
@[go_sem ↓] def zSu{d:Tmp}(h:gJ c d .skip=Z):ji P c (J ae) b ext ty op (J d) k Q pf=pw P c k Q (pf.put d .skip):=by simp[ji,k9,uk,h]
def zwb{y:Bool}(h1:y=Z->ji P c (J (J Z)) b ext ty op d k Q pf)(h2:y=aa->ji P c (J (J aa)) b ext ty op d k Q pf):ji P c (J (J y)) b ext ty op d k Q pf:=by
 cases y
 ·exact h2 rfl
 ·exact h1 rfl
@[go_sem ↓] def zTb(hc:ii op=aa)(he:(!ext||gC op)=Z):qw P c ext ty op d k Q pf=pw1 P c c.CB ty op d k Q pf:=by
 have Ke:ext=Z->gC op=Z:=by intro h;subst h;simpa using he
 unfold qw sf pw1;split
 ·simp_all [ii]
 ·simp only[OD];exact⟨λh=>h.2,λh=>⟨Ke,h⟩⟩
@[go_sem] def zUZ{sl rg:List Nat}{mr:Option Nat}{ls a:Bool}:DE.ex ⟨i,sl,rg,mr,ls,a,b⟩=(a&& !b):=(rfl)
@[go_sem ↓] def zTj :qw P c aa ty (.call ⟨.value f,args,ts⟩) d k Q pf=pw1 P c c.CB ty (.call ⟨.value f,args,ts⟩) d k Q pf:=by
 unfold qw sf pw1;simp
def zzE{l:List (Md×Nat×Operand)}
(hl:(List.replicate args.toList.length Md.sh).zip (ic P args.toList ts.toList)=l)(ha:oG pf l=J (ys,aQ))(hf:pZ aQ f=J (g,xs,us))(hc:eJ aQ l ys=J as)
(has:xs.map (λx=>(Md.sh,x))++as++us.map (λx=>(Md.sh,x))=ju)(h:ap P g ju R)
(hk:∀r outs,R r outs->(l.any (rk aQ)=aa\/(cP r&&outs.all cP)=Z)/\qv P c c ((back c.nt aQ l (outs.drop xs.length)).map λp=>(.v r,p)) d k Q):qw P c Z ty (.call ⟨.value f,args,ts⟩) d k Q pf:=by
 refine⟨by simp,?_⟩;rw[hl,ha];show Al P c d (pw P c k Q) aQ l (pZ aQ f) (eJ aQ l ys);rw[hf,hc];show ap P g _ _;rw[has];refine h.mono λr outs hr=>?_
 obtain⟨h1,h2⟩:=hk r outs hr;refine⟨h1,?_⟩;cases hb:back c.nt aQ l (outs.drop xs.length)with
 |none=>rw[hb]at h2;exact h2
 |some p=>rw[hb]at h2;exact h2
def zuc{f:FuncId}{fn:Func}{code:Code}(fz hp:List Nat)(hc:ax P f)(hf:P.funcs[f]? =J fn)(hb:fn.body=J code)(hlen:as.length<=fn.ntmps)
(h:pw P ⟨fn.ntmps,jw 0 as,fz,hp⟩ [.code code] (rB P fn.results.toList as R) (qi as)):ap P f as R:=by
 refine ztQ (fz:=fz) (hp:=hp) hc hf hb hlen ?_;have e:fF P ⟨fn.ntmps,jw 0 as,fz,hp⟩ [] (rB P fn.results.toList as R)=rB P fn.results.toList as R:=by funext e;cases e<;>rfl
 have h':gx P ⟨fn.ntmps,jw 0 as,fz,hp⟩ code (fF P ⟨fn.ntmps,jw 0 as,fz,hp⟩ [] (rB P fn.results.toList as R)) (qi as):=h
 rwa [e]at h'
@[go_sem] def zK9{rs:List ResultVar}:rB P rs as R .ret pf=EB as R (tJ P pf rs):=(rfl)
@[go_sem] def zD7{rs:List ResultVar}:rB P rs as R .normal pf=EB as R (tJ P pf rs):=(rfl)
@[go_sem] def zES{x:List PV}:EB as R (J (x,pf))=R (GW x) (lL pf 0 as):=(rfl)
@[go_sem] def zI4:tJ P pf []=J ([],pf):=(rfl)
@[go_sem] def zGD{x:ResultVar}{xs:List ResultVar}:tJ P pf (x::xs)=(B7 P pf x).bind λa=>(tJ P a.2 xs).map λb=>(a.1::b.1,b.2):=(rfl)
@[go_sem] def zJi{t:Tmp}:B7 P pf (.tmp t)=if qK (pf t)=Z then ae else ll pf t (pf t):=(rfl)
@[go_sem] def zHI{t:Tmp}:B7 P pf (.cell t ty)=EV pf t (pf t) (tk P ty):=(rfl)
@[go_sem] def zQy{t sz:Nat}:EV pf t (.bl row) (J (Z,sz))=if sz=row.length then J (.agg row,(pf.bU t jP).kill t 0)else ae:=by cases row<;>rfl
@[go_sem] def zQ5{t sz:Nat}{x:PV}:EV pf t (.bl (x::row)) (J (aa,sz))=J (x,(pf.bU t jP).kill t 0):=(rfl)
@[go_sem] def zRT{x:PV}:qK (.v x)=aa:=(rfl)
@[go_sem] def zPk :qK (.rf s p)=aa:=(rfl)
@[go_sem] def zRb :qK (.rv s p lo hi)=aa:=(rfl)
@[go_sem] def zO8 :qK (.ra s p i j n)=aa:=(rfl)
@[go_sem] def zPf :qK (.ls es rows)=Z:=(rfl)
@[go_sem] def zQx :qK (.pt s p i j)=aa:=(rfl)
@[go_sem] def zRc :qK (.bl row)=aa:=(rfl)
@[go_sem] def zQE{t:Tmp}:uE pf (.tmp t)=qK (pf t):=(rfl)
@[go_sem] def zJE{v:Value}:uE pf (.const v)=aa:=(rfl)
@[go_sem] def zKe :uE pf (.func g)=aa:=(rfl)
@[go_sem] def zLx:GW []=.au:=(rfl)
@[go_sem] def zMW{x:PV}:GW [x]=x:=(rfl)
@[go_sem] def zKQ{x:PV}{l:List PV}:GW (x::y::l)=.bO (x::y::l):=(rfl)
@[go_sem] def zMS :lL pf n []=[]:=(rfl)
@[go_sem] def zP2{x:PV}:lL pf n ((.io,x)::l)=Ma (pf n)::lL pf (n+1) l:=(rfl)
@[go_sem] def zPg{x:PV}:lL pf n ((.sh,x)::l)=.au::lL pf (n+1) l:=(rfl)
@[go_sem] def zOc{x:PV}:lL pf n ((.mv,x)::l)=.au::lL pf (n+1) l:=(rfl)
@[go_sem] def zSj{x:PV}:Ma (.v x)=x:=(rfl)
@[go_sem] def zQ8 :jw n []=[]:=(rfl)
@[go_sem] def zSy{x:PV}:jw n ((.io,x)::l)=n::jw (n+1) l:=(rfl)
@[go_sem] def zRZ{x:PV}:jw n ((.sh,x)::l)=jw (n+1) l:=(rfl)
@[go_sem] def zR4{x:PV}:jw n ((.mv,x)::l)=jw (n+1) l:=(rfl)
end
end Go.Pm
