import Derived.Test.YtnojafnlicbhpaaGreatPmT
open Bool renaming false→aa,true→Z
open Option renaming none→ae,some→J
set_option linter.defProp false
namespace Go.Pm
open Go.Am
def OK:=@eq_iff_iff
def Up:=@iff_false
section
variable {P:Program}{c co:aY}{k:List iu}{Q:Exit->ah->Prop}{pf:ah}
attribute [go_sem] Option.bind_some Option.bind_none Option.map_some Option.map_none Option.getD_some Option.getD_none
def Js:Option (PF×ah)->Option (PF×ah)->Option (PF×ah)
 |some a,_=>J a
 |none,y=>y
variable{R:PV->List PV->Prop}{a f x:Operand}{args:Array Operand}{as ji l:List (Md×PV)}{b ext:Bool}{d:Option Tmp}{e t ty:TypeId}{es hi i j len lo n q s u:Nat}{g:FuncId}{op:Op}{p:aA}{aQ:ah}{pre:List (Option Tmp)}{row us xs ys z:List PV}{rows:List (List PV)}{ts:Array TypeId}{y:PV}
def zyA{a b c:Option (PF×ah)}(h:a=b):Js a c=Js b c:=by rw[h]
@[go_sem ↓] theorem zKb{a:PF×ah}{y:Option (PF×ah)}:Js (J a) y=J a:=rfl
@[go_sem ↓] theorem zNz{y:Option (PF×ah)}:Js ae y=y:=rfl
def H8:Option PF->ah->Option (PF×ah)->Option (PF×ah)
 |some y,pf,_=>J (y,pf)
 |none,_,x=>x
def zxd{a b:Option PF}{pf:ah}{x:Option (PF×ah)}(h:a=b):H8 a pf x=H8 b pf x:=by rw[h]
@[go_sem ↓] theorem zLO{y:PF}{x:Option (PF×ah)}:H8 (J y) pf x=J (y,pf):=rfl
@[go_sem ↓] theorem zK9{x:Option (PF×ah)}:H8 ae pf x=x:=rfl
attribute [congr] zyA zxd
def QV(x:Option PF)(f:PF->Option (PF×ah))(z:Option (PF×ah)):Option (PF×ah):=
 match x with
 |some y=>f y
 |none=>z
@[go_sem] def zLt{y:PF}{f:PF->Option (PF×ah)}{z:Option (PF×ah)}:QV (J y) f z=f y:=(rfl)
@[go_sem] def zNB{f:PF->Option (PF×ah)}{z:Option (PF×ah)}:QV ae f z=z:=(rfl)
@[go_sem] def zVE{x:PV}:Ac co d pf (.v x)=J (.v x,pf):=(rfl)
@[go_sem] def zRD :Ac co d pf (.ra s p i j n)=J (.ra s p i j n,pf):=(rfl)
@[go_sem] def zSP :Ac co d pf (.rf s p)=if P3 co d=Z then(cj pf s p).bind λx=>if dt x=Z then ae else(iw pf s p .au).map λpf'=>(.v x,pf')else J (.rf s p,pf):=(rfl)
@[go_sem] def zTw{d:Nat}:P3 co (J d)=co.fz.contains (d+6*co.nt):=(rfl)
@[go_sem ↓] def zLk :pw1 P c co ty (.load t a) d k Q pf=qv P c co (QV ((tk P t).bind λtz=>(mT pf a).bind (Cz tz pf)) (Ac co d pf) ((IH P t pf a).map λy=>(y,pf))) d k Q:=by
 show DU P co t a d (pw P c k Q) pf=_;unfold DU;cases (tk P t).bind λtz=>(mT pf a).bind (Cz tz pf)with
 |some y=>
  show EE co (pw P c k Q) d y pf=qv P c co (Ac co d pf y) d k Q;unfold EE;cases Ac co d pf y<;>rfl
 |none=>cases IH P t pf a<;>rfl
def Z3{x:Option AD}:Dm co (pw P c k Q) d pf x=qv P c co (x.map λad=>(uB ad,pf)) d k Q:=by cases x<;>rfl
@[go_sem ↓] def zI4{s:TypeId}{f:Nat}:pw1 P c co ty (.fieldAddr s x f) d k Q pf=qv P c co (((dv P s f).bind λo=>(mT pf x).bind (wM o.1)).map λad=>(uB ad,pf)) d k Q:=Z3
@[go_sem ↓] def zCF :pw1 P c co ty (.nilCheck x) d k Q pf=qv P c co ((mT pf x).map λad=>(uB ad,pf)) d k Q:=Z3
@[go_sem] def zVj{i:Operand}(h:kV P t=J es):zR P t x i pf=(ER pf x).bind (LV es (cq pf i)):=by simp[zR,h]
@[go_sem] def zVm{i:Operand}{z:Nat×Nat}(h:JP P t=J z)(h0:kV P t=ae):zR P t x i pf=(mT pf x).bind (Ly z.1 z.2 (cq pf i)):=by simp[zR,h,h0]
@[go_sem ↓] def zB7{i:Operand}:pw1 P c co ty (.indexAddr t x i) d k Q pf=qv P c co (Js ((zR P t x i pf).map λad=>(uB ad,pf)) (EJ P t x i pf)) d k Q:=by
 show Dj P co t x i d (pw P c k Q) pf=_;unfold Dj;cases zR P t x i pf with
 |some ad=>rfl
 |none=>cases EJ P t x i pf<;>rfl
@[go_sem] def zSm{i:Operand}:EJ P t (.tmp u) i pf=K1 P t u pf (pf u) (cq pf i):=(rfl)
@[go_sem] def zKz{kk:IntKind}{q:Int}:K1 P t u pf (.as aa s p i j n) (J (.int kk q))=if kV P t=J 1/\0<=q/\q<n then J (.as Z s p i (j+q.toNat) 1,pf.put u jP)else ae:=(rfl)
@[go_sem] def zR4 :IH P t pf (.tmp u)=(tk P t).bind λtz=>if tz.1=aa then M5 (pf u)else ae:=(rfl)
@[go_sem] def zML :M5 (.as Z s p i j n)=J (.rf s (p++[(i,j)])):=(rfl)
@[go_sem] def zTl{t:Nat}:qA pf t (.as b s p i j n)=ae:=(rfl)
@[go_sem] def zSM{t:Nat}:tG pf t (.as b s p i j n)=ae:=(rfl)
@[go_sem] def zPn{c:aY}{d:Nat}(h:c.fz=[]):yF c d=aa:=by simp[yF,h]
@[go_sem] def zUe{c:aY}{d:Nat}:yF c d=c.fz.contains (d+2*c.nt):=(rfl)
@[go_sem] def zP9 :Ci (.rf s p)=J (s,p):=(rfl)
@[go_sem] def zJK{o:Bool}:Ob (J (.sl o es rows))=Z:=(rfl)
@[go_sem] def zJO :yy pf s p i j q []=Z:=(rfl)
@[go_sem] def zIU{q':Nat}{t:Tmp}{r:List (Nat×Operand)}:yy pf s p i j q ((q',.tmp t)::r)=if q'=q/\Ci (pf t)=J (s,p++[(i,j+q)])/\Ob (cj pf s (p++[(i,j+q)]))=Z then yy pf s p i j (q+1) r else aa:=(rfl)
@[go_sem] def zHk{a:Nat×Nat}:oQ [a]=J ([],a.1,a.2):=(rfl)
@[go_sem] def zH2{a b:Nat×Nat}{r:aA}:oQ (a::b::r)=(oQ (b::r)).map λx=>(a::x.1,x.2):=(rfl)
@[go_sem] def zTk{t:Tmp}{r:List (Nat×Operand)}:FG pf ((q,.tmp t)::r)=(Ci (pf t)).bind λx=>(oQ x.2).map λy=>(x.1,y):=(rfl)
@[go_sem] def zRf{ps:List (Nat×Operand)}:JG P t len ps pf=(ez P t).bind λz=>(FG pf ps).bind λa=>if z.1=1/\len<=2^24/\ps.length=len/\yy pf a.1 a.2.1 a.2.2.1 a.2.2.2 0 ps=Z then J (.as aa a.1 a.2.1 a.2.2.1 a.2.2.2 len)else ae:=(rfl)
def Ig(pf:ah)(cells:List PV):AD->Option ah
 | .pl s p i j=>mz pf s p i j cells
 |_=>ae
def SH(P:Program)(t:TypeId)(a x:Operand)(pf:ah):Option ah:=
 (tk P t).bind λtz=>(eu (cR P t) pf x).bind λy=>if DK tz.2 y.1=Z then(mT y.2 a).bind (Ig y.2 (cN y.1))else ae
@[go_sem] def zRt :SH P t a x pf=(tk P t).bind λtz=>(eu (cR P t) pf x).bind λy=>if DK tz.2 y.1=Z then(mT y.2 a).bind (Ig y.2 (cN y.1))else ae:=(rfl)
@[go_sem ↓] def zIy :pw1 P c co ty (.store t a x) ae k Q pf=qf P c (SH P t a x pf) k Q:=by
 show EK P co t a x ae (pw P c k Q) pf=_;unfold EK SH;cases tk P t with
 |none=>rfl
 |some tz=>
  cases eu (cR P t) pf x with
  |none=>rfl
  |some y=>
   obtain⟨y,aQ⟩:=y;obtain⟨b,sz⟩:=tz;simp only[aR];by_cases h:DK sz y=Z
   ·rw[aB h];cases ha:mT aQ a with
    |none=>simp[El,qf]
    |some ad=>cases ad with
     |pl s p i j=>cases hp:mz aQ s p i j (cN y)<;>simp[El,qf,h,Ig,hp]
     |fz row=>simp[El,qf,Ig]
   ·rw[az h];simp[qf,h]
def Ga(P:Program)(co:aY)(e:TypeId)(d:Nat)(pf:ah):Option ah:=
 (zr P e).bind λz=>if gO co d .skip=Z then J (if co.hp.contains d=Z then pf.put d (.v (.bx z))else pf.put d (.bl z))else ae
@[go_sem] def zTH{d:Nat}(h:zr P e=J z)(h1:gO co d .skip=Z)(h2:co.hp.contains d=Z):Ga P co e d pf=J (pf.put d (.v (.bx z))):=by unfold Ga;rw[h,aR,aB h1,aB h2]
@[go_sem] def zVY{d:Nat}(h:zr P e=J z)(h1:gO co d .skip=Z)(h2:co.hp.contains d=aa):Ga P co e d pf=J (pf.put d (.bl z)):=by unfold Ga;rw[h,aR,aB h1,az (by rw[h2];simp)]
@[go_sem ↓] def zI6{d:Tmp}:pw1 P c co ty (.alloc e) (J d) k Q pf=qf P c (Ga P co e d pf) k Q:=by
 show D1 P co e (J d) (pw P c k Q) pf=_;unfold D1 Ga;cases zr P e with
 |none=>rfl
 |some z=>
  simp only[aR];by_cases h:gO co d .skip=Z
  ·rw[aB h];by_cases h2:co.hp.contains d=Z
   ·simp only[h,h2,qf,eP,o6]
   ·simp only[h,h2,qf,o6];simp
  ·rw[az h];simp[qf,h]
def Qy(P:Program)(co:aY)(e:TypeId)(x:Operand)(d:Nat)(pf:ah):Option ah:=
 (tk P e).bind λ_=>(eu (cR P e) pf x).bind λy=>if(!vr pf x&&jS y.1&&gO co d .skip)=Z then J (if co.hp.contains d=Z then(if co.fz.contains d=Z then(y.2.put d (.v (.bx (cN y.1)))).put d (.v (drop (.bx (cN y.1))))else y.2.put d (.v (.bx (cN y.1))))else y.2.put d (.bl (cN y.1)))else ae
@[go_sem] def zTh{d:Nat}:Qy P co e x d pf=(tk P e).bind λ_=>(eu (cR P e) pf x).bind λy=>if(!vr pf x&&jS y.1&&gO co d .skip)=Z then J (if co.hp.contains d=Z then(if co.fz.contains d=Z then(y.2.put d (.v (.bx (cN y.1)))).put d (.v (drop (.bx (cN y.1))))else y.2.put d (.v (.bx (cN y.1))))else y.2.put d (.bl (cN y.1)))else ae:=(rfl)
@[go_sem ↓] def zPh{d:Tmp}:pw1 P c co ty (.box e x) (J d) k Q pf=qf P c (Qy P co e x d pf) k Q:=by
 show Gl P co e x (J d) (pw P c k Q) pf=_;unfold Gl Qy;cases tk P e with
 |none=>rfl
 |some z=>
  cases eu (cR P e) pf x with
  |none=>rfl
  |some y=>
   obtain⟨y,aQ⟩:=y;simp only[aR];by_cases h:(!vr pf x&&jS y&&gO co d .skip)=Z
   ·rw[aB h];simp only[bI,qd]at h;by_cases h2:co.hp.contains d=Z
    ·by_cases h4:co.fz.contains d=Z
     ·simp only[h.1.1,h.1.2,h.2,h2,h4,qf,eP,o6]
     ·simp only[h.1.1,h.1.2,h.2,h2,h4,qf,eP,o6];simp
    ·simp only[h.1.1,h.1.2,h.2,h2,qf,o6];simp
   ·rw[az h];simp only[qf,OK,Up];rintro⟨h1,h2,h3,_⟩;exact h (by rw[h1,h2,h3];rfl)
def S4(P:Program)(co:aY)(t:TypeId)(len:Nat)(ps:List (Nat×Operand))(d:Nat)(pf:ah):Option ah:=
 (ez P t).bind λz=>(pX pf (ps.map λp=>(dY P t p.1,p.2))).bind λy=>if len*z.1<=2^24/\gO co d .skip=Z then(sf z.1 ((ps.map (·.1)).zip (uJ co d y.1)) (List.replicate len z.2.2)).map λrows=>y.2.put d (.ls z.1 rows)else ae
@[go_sem] def zOk{d:Nat}(h:co.fz=[]):uJ co d xs=xs:=by simp[uJ,h]
@[go_sem] def zVl{d:Nat}:uJ co d xs=if co.fz.contains (d+3*co.nt)=Z then xs.map drop else xs:=(rfl)
@[go_sem] def zPI{ps:List (Nat×Operand)}{d:Nat}:S4 P co t len ps d pf=(ez P t).bind λz=>(pX pf (ps.map λp=>(dY P t p.1,p.2))).bind λy=>if len*z.1<=2^24/\gO co d .skip=Z then(sf z.1 ((ps.map (·.1)).zip (uJ co d y.1)) (List.replicate len z.2.2)).map λrows=>y.2.put d (.ls z.1 rows)else ae:=(rfl)
@[go_sem ↓] def zAU{ps:Array (Nat×Operand)}{d:Tmp}:pw1 P c co ty (.buildSlice t len ps) (J d) k Q pf=if yF co d=Z then qv P c co ((JG P t len ps.toList pf).map λy=>(y,pf)) (J d) k Q else qf P c (S4 P co t len ps.toList d pf) k Q:=by
 show Ex P co t len ps.toList (J d) (pw P c k Q) pf=_;unfold Ex S4;by_cases hm:yF co d=Z
 ·rw[aB hm,aB (show Tg co (J d)=Z from hm)];unfold HT;cases JG P t len ps.toList pf<;>rfl
 rw[az hm,az (show¬Tg co (J d)=Z from hm)];cases ez P t with
 |none=>rfl
 |some z=>
  cases pX pf (ps.toList.map λp=>(dY P t p.1,p.2))with
  |none=>rfl
  |some y=>
   obtain⟨xs,aQ⟩:=y;simp only[aR];by_cases h:len*z.1<=2^24/\gO co d .skip=Z
   ·rw[aB h];cases sf z.1 ((ps.toList.map (·.1)).zip (uJ co d xs)) (List.replicate len z.2.2)<;>simp only[Ot,qf,h.1,h.2,o6,and_false,Option.map_none,l9]
   ·rw[az h];simp only[qf,OK,Up];rintro⟨h1,h2⟩;cases hf:sf z.1 ((ps.toList.map (·.1)).zip (uJ co d xs)) (List.replicate len z.2.2)with
    |none=>rw[hf]at h2;exact h2
    |some r=>rw[hf]at h2;exact h ⟨h1,h2.1⟩
@[go_sem ↓] def zI5{ps:Array (Nat×Operand)}:pw1 P c co ty (.build t ps) d k Q pf=
 qv P c co ((mS P t).bind λb=>(pX pf (ps.toList.map λp=>(dY P t p.1,p.2))).bind λy=>(vw b.1 ((ps.toList.map (·.1)).zip y.1) b.2).map λrow=>(.v (.agg row),y.2)) d k Q:=by
 show Fh P co t ps.toList d (pw P c k Q) pf=_;unfold Fh;cases mS P t with
 |none=>rfl
 |some b=>
  cases pX pf (ps.toList.map λp=>(dY P t p.1,p.2))with
  |none=>rfl
  |some y=>
   simp only[aR];cases vw b.1 ((ps.toList.map (·.1)).zip y.1) b.2<;>rfl
def BT(b x y:Option Value):Option PV:=
 match b with
 |some (.bool Z)=>x.bind kT
 |some (.bool aa)=>y.bind kT
 |_=>ae
@[go_sem ↓] def zMy{b y:Operand}:pw1 P c co ty (.pick b x y) d k Q pf=qv P c co ((BT (cq pf b) (cq pf x) (cq pf y)).map λz=>(.v z,pf)) d k Q:=by
 show Fs co b x y d (pw P c k Q) pf=_;unfold Fs LK BT;cases cq pf b with
 |none=>rfl
 |some v=>
  cases v with
  |bool b=>
   cases b
   ·simp only[];cases (cq pf y).bind kT<;>rfl
   ·simp only[];cases (cq pf x).bind kT<;>rfl
  |_=>rfl
@[go_sem] def zVI{x y:Option Value}:BT (J (.bool Z)) x y=x.bind kT:=(rfl)
@[go_sem] def zTY{x y:Option Value}:BT (J (.bool aa)) x y=y.bind kT:=(rfl)
@[go_sem] def zP1{j:IntKind}{m n:Int}:BT (J (.bool b)) (J (.int j m)) (J (.int j n))=J (.int j (if b=Z then m else n)):=by cases b<;>rfl
@[go_sem] def zLS{m n:Bool}:BT (J (.bool b)) (J (.bool m)) (J (.bool n))=J (.bool (if b=Z then m else n)):=by cases b<;>rfl
@[go_sem] def zQO{m n:ByteArray}:BT (J (.bool b)) (J (.string m)) (J (.string n))=J (.str (if b=Z then m else n)):=by cases b<;>rfl
def QM(b:Bool)(z:Nat×Nat×List PV)(pf:ah):Option Value->Option Value->Option (PF×ah)
 |some (.int .i64 n),J (.int .i64 m)=>if 0<=n/\n<=m/\z.2.1*m<=140737488355328/\m<=4611686018427387904 then J (.v (.sl Z z.1 (List.replicate n.toNat (uz b z.2.2))),pf)else ae
 |_,_=>ae
@[go_sem] def zOp{z:Nat×Nat×List PV}{n m:Int}:QM b z pf (J (.int .i64 n)) (J (.int .i64 m))=if 0<=n/\n<=m/\z.2.1*m<=140737488355328/\m<=4611686018427387904 then J (.v (.sl Z z.1 (List.replicate n.toNat (uz b z.2.2))),pf)else ae:=(rfl)
@[go_sem] def zKp{d:Nat}:rQ co (J d)=co.fz.contains (d+co.nt):=(rfl)
@[go_sem] def zNR:rQ co ae=aa:=(rfl)
@[go_sem] def zLa :uz aa z=z:=(rfl)
@[go_sem] def zQ0 :uz Z z=z.map ud:=(rfl)
@[go_sem] def zUQ{o:Bool}{e:Nat}:ud (.sl o e [])=.sl Z e []:=(rfl)
@[go_sem] def zRy{j:IntKind}{n:Int}:ud (.int j n)=.int j n:=(rfl)
@[go_sem] def zQ8 :ud (.bool b)=.bool b:=(rfl)
@[go_sem] def zRA{b:ByteArray}:ud (.str b)=.str b:=(rfl)
@[go_sem ↓] def zCc{l cc:Operand}:pw1 P c co ty (.makeSlice t l cc) d k Q pf=qv P c co ((ez P t).bind λz=>QM (rQ co d) z pf (cq pf l) (cq pf cc)) d k Q:=by
 show DH P co t l cc d (pw P c k Q) pf=_;unfold DH;cases ez P t with
 |none=>rfl
 |some z=>
  simp only[aR];generalize cq pf l=x1;generalize cq pf cc=x2;unfold Mt QM;split
  ·rename_i n m;simp only[];by_cases h:0<=n/\n<=m/\z.2.1*m<=140737488355328/\m<=4611686018427387904
   ·rw[aB h];simp only[h,o6];rfl
   ·rw[az h];simp only[qv,OK,Up];rintro⟨a1,_⟩;exact h a1
  ·rename_i h1;split
   ·rename_i e1;exact absurd rfl (h1 _ _ rfl)
   ·rfl
def ZC{u:TypeId}{op:BinOp}{y:Operand}{d:Tmp}{q:Bool}(hy:ua y=Z)(hp:co.hp.isEmpty=aa)(he:(cS P t).isSome=Z)(hq:Hl op=J q)(hx:Rl pf x=J rows)
(hk:∀b,(rows≠[]->b= !q)->qv P c co (J (.v (.bool b),pf)) (J d) k Q):pw1 P c co ty (.binOp op t x y u) (J d) k Q pf:=by
 show nE P co ⟨J d,.binOp op t x y u,ty, "",#[],ae⟩ (pw P c k Q) pf;simp only[nE,hy,eP];refine⟨(by intro e;rw[e]at hp;cases hp),?_⟩;cases x with
 |tmp s=>
  unfold BZ;simp only[hq,hx];exact⟨he,λb hb=>hk b hb⟩
 |_=>simp[Rl]at hx
@[go_sem ↓] def zCA{fn:Fn}{xs ys:Array Operand}:pw1 P c co ty (.makeFunc fn xs ys) d k Q pf=
 qv P c co (if SG co d=Z then(Ko pf fn xs.toList ys.toList).bind (IW co pf)else(rM (!co.hp.isEmpty) pf (xs.toList++ys.toList)).map λvs=>(.v (.func fn (vs.1.take xs.toList.length) (vs.1.drop xs.toList.length)),vs.2)) d k Q:=by
 show EO co fn xs.toList ys.toList d (pw P c k Q) pf=_;unfold EO;split
 ·cases (Ko pf fn xs.toList ys.toList).bind (IW co pf)<;>rfl
 cases rM (!co.hp.isEmpty) pf (xs.toList++ys.toList)<;>rfl
def rK(co:aY)(d:Option Tmp)(t:Nat)(pf:ah):PF->Option (PF×ah)
 | .v x=>if dt x=Z then ae else J (if bK x=Z then .rf t []else .v x,pf)
 | .ls es rows=>if t<co.nt then J (.rf t [],(pf.bS t (.v (.sl Z es rows))).kill t 0)else ae
 | .bl _=>J (.pt t [] 0 0,pf)
 | .skip=>ae
 | .as .. =>ae
 | .pt s p i j=>if Ai co d=Z then BF pf t s p i j (pf s)else J (.pt s p i j,pf)
 |y=>J (y,pf)
@[go_sem] def zU0{co:aY}{t:Nat}{x:PV}(h:dt x=aa):rK co d t pf (.v x)=J (if bK x=Z then .rf t []else .v x,pf):=by simp[rK,h]
@[go_sem] def zSU{co:aY}{t:Nat}(h:t<co.nt):rK co d t pf (.ls es rows)=J (.rf t [],(pf.bS t (.v (.sl Z es rows))).kill t 0):=by simp[rK,h]
@[go_sem] def zRJ{co:aY}{t:Nat}:rK co d t pf (.bl row)=J (.pt t [] 0 0,pf):=(rfl)
@[go_sem] def zSL{co:aY}{t:Nat}:rK co d t pf (.pt s p i j)=if Ai co d=Z then BF pf t s p i j (pf s)else J (.pt s p i j,pf):=(rfl)
@[go_sem] def zUD{co:aY}{d:Nat}:Ai co (J d)=(!co.hp.isEmpty&&co.fz.contains (d+5*co.nt)):=(rfl)
@[go_sem] def zSh{t:Nat}:BF pf t s [] 0 0 (.bl row)=J (.rf s [],((pf.bS s (.v (.bx row))).kill s 0).put t (.rf s [])):=(rfl)
@[go_sem] def zSY{co:aY}{t:Nat}:rK co d t pf (.rf s p)=J (.rf s p,pf):=(rfl)
@[go_sem] def zSR{co:aY}{t:Nat}:rK co d t pf (.rv s p lo hi)=J (.rv s p lo hi,pf):=(rfl)
@[go_sem] def zSQ{co:aY}{t:Nat}:rK co d t pf (.ra s p i j n)=J (.ra s p i j n,pf):=(rfl)
@[go_sem] def zR5{co:aY}{t:Nat}:rK co d t pf (.cl s g us)=J (.cl s g us,pf):=(rfl)
@[go_sem] def zVn{co:aY}{d:Nat}:SG co (J d)=co.fz.contains (d+4*co.nt):=(rfl)
@[go_sem] def zVT{ys:List Operand}:Ko pf (.func g) [] (.tmp s::ys)=match pf s with| .v (.bx _)=>J (g,s,ys)|_=>ae:=(rfl)
@[go_sem] def zTB{ys:List Operand}{co:aY}:IW co pf (g,s,ys)=(rM (!co.hp.isEmpty) pf ys).map λy=>(.cl s g y.1,y.2):=(rfl)
@[go_sem] def zUx{t:Tmp}:t8 pf (.tmp t)=MD (pf t):=(rfl)
@[go_sem] def zSy :MD (.cl s g us)=J (s,g,us):=(rfl)
@[go_sem ↓] def zES{t:Tmp}:pw1 P c co ty (.move (.tmp t)) d k Q pf=qv P c co (rK co d t pf (pf t)) d k Q:=by
 show tE co t d (pw P c k Q) pf (pf t)=_;unfold tE rK;cases pf t with
 |v x=>
  cases hj:dt x
  ·cases ho:bK x<;>simp[hj,ho,qv]
  ·simp[hj,qv]
 |ls es rows=>
  by_cases h:t<co.nt
  ·simp[h,qv]
  ·simp[h,qv]
 |pt s p i j=>
  cases hl:Ai co d
  ·simp[qv]
  ·simp only[eP];cases BF pf t s p i j (pf s)<;>rfl
 |_=>rfl
def Ll(x:Option (PV×ah)):Option (PF×ah):=x.map λy=>(.v y.1,y.2)
@[go_sem] def zMc :Ll (J (y,pf))=J (.v y,pf):=(rfl)
@[go_sem ↓] def zH0{k0:Value}:pw1 P c co ty (.move (.const k0)) d k Q pf=qv P c co (Ll (eu (cR P ty) pf (.const k0))) d k Q:=by
 show tw (cR P ty) co (.const k0) d (pw P c k Q) pf=_;unfold tw;simp only[];cases eu (cR P ty) pf (.const k0)<;>rfl
@[go_sem ↓] def zGX :pw1 P c co ty (.move (.func g)) d k Q pf=qv P c co (Ll (eu (cR P ty) pf (.func g))) d k Q:=by
 show tw (cR P ty) co (.func g) d (pw P c k Q) pf=_;unfold tw;simp only[];cases eu (cR P ty) pf (.func g)<;>rfl
@[go_sem ↓] def zFa :pw1 P c co ty (.assign x) d k Q pf=qv P c co (H8 (BO co pf d x) pf (Ll (eu (cR P ty) pf x))) d k Q:=by
 show Eg (cR P ty) co x d (pw P c k Q) pf=_;unfold Eg;cases BO co pf d x with
 |some y=>rfl
 |none=>cases eu (cR P ty) pf x<;>rfl
@[go_sem] def zRU{d:Nat}{t:Tmp}:BO co pf (J d) (.tmp t)=if yF co d=Z then Dl t (pf t)else ae:=(rfl)
@[go_sem] def zPV{t:Nat}:Dl t (.rf s p)=J (.rf s p):=(rfl)
@[go_sem] def zQD{t:Nat}:Dl t (.bl row)=J (.pt t [] 0 0):=(rfl)
@[go_sem] def zO3{t:Nat}:Dl t (.cl s g us)=J (.cl s g us):=(rfl)
@[go_sem] def zSu{x:Value}:BO co pf d (.const x)=ae:=by cases d<;>rfl
@[go_sem] def zSK{x:FuncId}:BO co pf d (.func x)=ae:=by cases d<;>rfl
def I9(pf:ah)(s:Nat)(xs:List PV)(i:Nat):Option PV->Option (PF×ah)
 |some y=>if dt y=Z then ae else J (.v y,if bK y=Z then(pf.bS s (.v (.bO (xs.set i .au)))).kill s 1 else pf)
 |none=>ae
@[go_sem] def zKl(h:dt y=aa):I9 pf s xs i (J y)=J (.v y,if bK y=Z then(pf.bS s (.v (.bO (xs.set i .au)))).kill s 1 else pf):=by simp[I9,h]
@[go_sem] theorem zRc{t:Tmp}:CB pf (.tmp t)=match pf t with
 | .rf s []=>CS s (pf s)
 |y=>CS t y:=rfl
@[go_sem] def zVP :CS s (.v (.bO xs))=J (s,xs):=(rfl)
@[go_sem ↓] def zEc :pw1 P c co ty (.extract x i) d k Q pf=qv P c co ((CB pf x).bind λa=>if a.1<co.nt then I9 pf a.1 a.2 i a.2[i]? else ae) d k Q:=by
 show Ek co x i d (pw P c k Q) pf=_;unfold Ek;cases CB pf x with
 |none=>rfl
 |some a=>
  obtain⟨s,xs⟩:=a;simp only[aR];by_cases h:s<co.nt
  ·rw[aB h];simp only[h,o6];cases xs[i]? with
   |none=>rfl
   |some y=>
    cases hj:dt y
    ·cases ho:bK y<;>simp[Jh,I9,hj,ho,qv]
    ·simp[Jh,I9,hj,qv]
  ·rw[az h];simp[h,qv]
def Lq(es t:Nat)(pf:ah)(l h m:Option (Option Nat)):Option (PF×ah):=
 match l,h,m with
 |some l,J h,J ae=>(mU es (l.getD 0) h pf t (pf t)).map λy=>(y,pf)
 |some l,J (J h),J (J m)=>((dR pf (pf t)).bind iM).bind λrows=>(mU es (l.getD 0) (J h) pf t (pf t)).bind λ_=>if l.getD 0=h/\h=m/\m<=rows.length then J (.v (.sl Z es []),pf)else ae
 |_,_,_=>ae
@[go_sem] def zEI{t:Nat}{l h:Option Nat}:Lq es t pf (J l) (J h) (J ae)=(mU es (l.getD 0) h pf t (pf t)).map λy=>(y,pf):=by cases h<;>rfl
@[go_sem] def zIh{t:Nat}{l:Option Nat}{h m:Nat}:Lq es t pf (J l) (J (J h)) (J (J m))=((dR pf (pf t)).bind iM).bind λrows=>(mU es (l.getD 0) (J h) pf t (pf t)).bind λ_=>if l.getD 0=h/\h=m/\m<=rows.length then J (.v (.sl Z es []),pf)else ae:=(rfl)
def zAJ{t:Nat}{l h m:Option (Option Nat)}:D7 co es t d (pw P c k Q) pf l h m=qv P c co (Lq es t pf l h m) d k Q:=by
 cases l with
 |none=>rfl
 |some l=>
  cases h with
  |none=>rfl
  |some h=>
   cases m with
   |none=>rfl
   |some m=>
    cases m with
    |none=>
     rw[zEI];cases h<;>simp only[D7]<;>cases mU es (l.getD 0) _ pf t (pf t)<;>rfl
    |some m=>
     cases h with
     |none=>rfl
     |some h=>
      rw[zIh];simp only[D7];cases (dR pf (pf t)).bind iM with
      |none=>rfl
      |some rows=>
       simp only[aR];cases mU es (l.getD 0) (J h) pf t (pf t)with
       |none=>simp[qv]
       |some y=>
        by_cases hh:l.getD 0=h/\h=m/\m<=rows.length
        ·simp[hh,qv]
        ·simp[hh,qv]
@[go_sem ↓] def zJA{x:Tmp}{l h m:Option Operand}(hs:dU P t=aa):pw1 P c co ty (.slice t (.tmp x) l h m) d k Q pf=qv P c co ((kV P t).bind λes=>Lq es x pf (oE pf l) (oE pf h) (oE pf m)) d k Q:=by
 show(if dU P t=Z then lR P co ⟨d,.slice t (.tmp x) l h m,ty, "",#[],ae⟩ (pw P c k Q) pf else E6 P co t (.tmp x) l h m d (pw P c k Q) pf)=_;rw[az (by simp[hs])];unfold E6;cases kV P t with
 |none=>rfl
 |some es=>exact zAJ
def tv(P:Program)(c co:aY)(x:Option (List (List PV)))(d:Option Tmp)(k:List iu)(Q:Exit->ah->Prop)(pf:ah):Prop:=
 match x with
 |some rows=>rows.length<=km->qv P c co (J (.v (.int .i64 rows.length),pf)) d k Q
 |none=>False
def zxy{x x':Option (List (List PV))}{d:Option Tmp}(h:x=x'):tv P c co x d k Q pf=tv P c co x' d k Q pf:=by rw[h]
attribute [congr] zxy
def zn(P:Program)(c co:aY)(t:TypeId)(d:Option Tmp)(k:List iu)(Q:Exit->ah->Prop)(pf:ah)(x:Nat):PF->Prop
 | .ls es rows=>tv P c co ((cS P t).bind λ_=>J rows) d k Q ((pf.bS x (.v (.sl Z es rows))).kill x 0)
 |y=>tv P c co ((cS P t).bind λ_=>(dR pf y).bind iM) d k Q pf
def zxl{t:TypeId}{d:Option Tmp}{x:Nat}{y y':PF}(h:y=y'):zn P c co t d k Q pf x y=zn P c co t d k Q pf x y':=by rw[h]
attribute [congr] zxl
@[go_sem ↓] theorem zRG{x:Nat}:zn P c co t d k Q pf x (.ls es rows)=tv P c co ((cS P t).bind λ_=>J rows) d k Q ((pf.bS x (.v (.sl Z es rows))).kill x 0):=rfl
@[go_sem ↓] theorem zT2{x:Nat}:zn P c co t d k Q pf x (.v y)=tv P c co ((cS P t).bind λ_=>iM y) d k Q pf:=rfl
@[go_sem ↓] theorem zSp{x:Nat}:zn P c co t d k Q pf x (.rf s p)=tv P c co ((cS P t).bind λ_=>(dR pf (.rf s p)).bind iM) d k Q pf:=rfl
@[go_sem ↓] theorem zRN{x:Nat}:zn P c co t d k Q pf x (.rv s p lo hi)=tv P c co ((cS P t).bind λ_=>(dR pf (.rv s p lo hi)).bind iM) d k Q pf:=rfl
@[go_sem ↓] def zPf{x:Tmp}(hs:dU P t=aa):pw1 P c co ty (.call ⟨.builtin .len,#[.tmp x],#[t]⟩) d k Q pf=zn P c co t d k Q pf x (pf x):=by
 show(if dU P t=Z then lR P co ⟨d,.call ⟨.builtin .len,#[.tmp x],#[t]⟩,ty, "",#[],ae⟩ (pw P c k Q) pf else A8 P co t (.tmp x) d (pw P c k Q) pf)=_;rw[az (by simp[hs])];unfold A8 zn;cases aE:pf x with
 |ls es rows=>
  have:((pf.bS x (.v (.sl Z es rows))).kill x 0) x=.v (.sl Z es rows):=by simp[ah.kill,ah.bS,cZ,bC]
  simp only[yZ,aE,this,dR,iM,aR,tv,qv];cases cS P t<;>rfl
 |_=>
  simp only[yZ,aE,tv,qv];generalize (cS P t).bind (λ_=>(dR pf _).bind iM)=o;cases o<;>rfl
@[go_sem] def zP6{s:ByteArray}(hs:dU P t=Z):eD P (.call ⟨.builtin .len,#[x],#[t]⟩) [.string s]=J (.int .i64 s.size):=by simp[eD,Am.iM,hs]
@[go_sem ↓] def zJ5(hs:dU P t=Z):pw1 P c co ty (.call ⟨.builtin .len,#[x],#[t]⟩) d k Q pf=qv P c co (CW (λv=>eD P (.call ⟨.builtin .len,#[x],#[t]⟩) [v]) (cq pf x) pf) d k Q:=by
 show(if dU P t=Z then lR P co ⟨d,.call ⟨.builtin .len,#[x],#[t]⟩,ty, "",#[],ae⟩ (pw P c k Q) pf else A8 P co t x d (pw P c k Q) pf)=_;rw[aB hs];refine Bb (o:=⟨d,.call ⟨.builtin .len,#[x],#[t]⟩,ty, "",#[],ae⟩) ?_;simp only[gw,pm,aR];cases cq pf x<;>simp[CW]
def RM(P:Program)(t:TypeId)(s x:Operand)(pf:ah):Option (PF×ah):=
 (ez P t).bind λz=>(eu z.1 pf s).bind λb=>(zG z.1 b.1).bind λrows=>(pi z.1 b.2 x).bind λr=>
   if nQ r.1=Z/\(rows.length+r.1.length)*z.2.1<=140737488355328/\rows.length+r.1.length<=4611686018427387904 then J (.v (.sl Z z.1 (rows++r.1)),r.2)else ae
@[go_sem] theorem zS0{s:Operand}:RM P t s x pf=(ez P t).bind λz=>(eu z.1 pf s).bind λb=>(zG z.1 b.1).bind λrows=>(pi z.1 b.2 x).bind λr=>
 if nQ r.1=Z/\(rows.length+r.1.length)*z.2.1<=140737488355328/\rows.length+r.1.length<=4611686018427387904 then J (.v (.sl Z z.1 (rows++r.1)),r.2)else ae:=rfl
@[go_sem ↓] def zFj{s:Operand}:pw1 P c co ty (.call ⟨.builtin .append,#[s,x],#[t,t]⟩) d k Q pf=qv P c co (RM P t s x pf) d k Q:=by
 show(if t=t then DO P co t s x d (pw P c k Q) pf else Jm P co t t s x d (pw P c k Q) pf)=_;rw[aB rfl];unfold DO RM;cases ez P t with
 |none=>rfl
 |some z=>
  simp only[aR];cases eu z.1 pf s with
  |none=>rfl
  |some b=>
   obtain⟨b,aQ⟩:=b;simp only[aR,Og];cases zG z.1 b with
   |none=>rfl
   |some rows=>
    simp only[aR];cases pi z.1 aQ x with
    |none=>rfl
    |some r=>
     obtain⟨rows2,bV⟩:=r;simp only[aR,MA];by_cases h:nQ rows2=Z/\(rows.length+rows2.length)*z.2.1<=140737488355328/\rows.length+rows2.length<=4611686018427387904
     ·rw[aB h];simp only[h.1,h.2.1,h.2.2,o6,qv]
     ·rw[az h];simp only[qv,OK,Up];rintro⟨a1,a2,_⟩;exact h ⟨a1,a2⟩
def OQ{n:Int}{z:Nat×Nat×List PV}(h:KV P g t)(hz:ez P t=J z)(hn:cq pf x=J (.int .i64 n))(hb:0<=n/\z.2.1*n<=140737488355328/\n<=4611686018427387904)
(hk:qv P c co (J (.v (.sl Z z.1 []),pf)) d k Q):pw1 P c co ty (.call ⟨.value (.func g),#[.const (.slice ae 0 0),x],ts⟩) d k Q pf:=.inr (.inl ⟨g,x,t,n,z,rfl,rfl,h,hn,hz,hb,hk⟩)
def zBZ(ms:List Md){l:List (Md×Nat×Operand)}
(hm:ms.length=args.toList.length)(hl:ms.zip (ij P args.toList ts.toList)=l)(ha:oe pf l=J (ys,aQ))(hf:pU aQ f=J (g,xs,us))(hc:eG aQ l ys=J as)
(has:xs.map (λx=>(Md.sh,x))++as++us.map (λx=>(Md.sh,x))=ji)(h:ap P g ji R)
(hk:∀r outs,R r outs->(l.any (sj aQ)=aa\/(cP r&&outs.all cP)=Z)/\qv P c co ((back co.nt aQ l (outs.drop xs.length)).map λp=>(.v r,p)) d k Q):pw1 P c co ty (.call ⟨.value f,args,ts⟩) d k Q pf:=by
 refine .inl ⟨ms,hm,?_⟩;rw[hl,ha];show zJ P co d (pw P c k Q) aQ l (pU aQ f) (eG aQ l ys);rw[hf,hc];show ap P g _ _;rw[has];refine h.mono λr outs hr=>?_
 obtain⟨h1,h2⟩:=hk r outs hr;refine⟨h1,?_⟩;cases hb:back co.nt aQ l (outs.drop xs.length)with
 |none=>rw[hb]at h2;exact h2
 |some p=>rw[hb]at h2;exact h2
def zzc(ms:List Md){l:List (Md×Nat×Operand)}
(hm:ms.length=args.toList.length)(hf:t8 pf f=J (s,g,us))(hl:ms.zip (ij P args.toList ts.toList)++[(.io,0,.tmp s)]=l)(ha:oe pf l=J (ys,aQ))(Ts:t8 aQ f=J (s,g,us))(hc:eG aQ l ys=J as)
(has:as++us.map (λx=>(Md.sh,x))=ji)(h:ap P g ji R)
(hk:∀r outs,R r outs->(l.any (sj aQ)=aa\/(cP r&&outs.all cP)=Z)/\qv P c co ((back co.nt aQ l outs).map λp=>(.v r,p)) d k Q):pw1 P c co ty (.call ⟨.value f,args,ts⟩) d k Q pf:=by
 refine .inr (.inr ⟨ms,(s,g,us),hf,hm,?_⟩);rw[hl,ha];refine⟨Ts,?_⟩;rw[hc];show ap P g _ _;simp only[p9,mM];rw[has];refine h.mono λr outs hr=>?_
 obtain⟨h1,h2⟩:=hk r outs hr;refine⟨h1,?_⟩;show GO co d _ r (back co.nt aQ l outs);cases hb:back co.nt aQ l outs with
 |none=>rw[hb]at h2;exact h2
 |some p=>rw[hb]at h2;exact h2
def zAY{id:Nat}{ops:Array Oper}(D:List DE){L:List (DE×Oper)}(h1:P.follows .mixedOrders=Z)(h2:HV D ops.toList=Z)(hL:D.map (λx=>(x,ops.toList.getD x.i default))=L)
(h:pw P c (.iz (ops.toList.map (·.dst)) L::k) Q pf):pw P c (.code (.region id ops Z)::k) Q pf:=by
 subst hL;exact⟨h1,0,D,h2,h⟩
def Xh(D:List DE)(ops:List Oper):List (Nat×Nat)->List (Nat×Nat)->Bool
 |[],xs=>HV D ops xs
 |p::ps,xs=>Xh D ops ps ((p.1,p.2)::xs)&&Xh D ops ps ((p.2,p.1)::xs)
@[go_sem ↓] theorem zD9 :pw P c (.iz pre []::k) Q pf=pw P c k Q pf:=rfl
def ip:Op->Bool
 | .call ⟨.value _,_,_⟩=>Z
 |_=>aa
def qp(P:Program)(c:aY)(ext:Bool)(ty:TypeId)(op:Op)(d:Option Tmp)(k:List iu)(Q:Exit->ah->Prop)(pf:ah):Prop:=rO P c ext ⟨d,op,ty, "",#[],ae⟩ (pw P c k Q) pf
def Y4{o o':Oper}{K:ah->Prop}(h:o.op=o'.op)(hd:o.dst=o'.dst)(ht:o.type=o'.type):rO P c ext o K pf=rO P c ext o' K pf:=by
 obtain⟨d,op,ty,ps,af,g⟩:=o;obtain⟨d',op',MH,ps',af',g'⟩:=o';simp only at h hd ht;subst h;subst hd;subst ht;rfl
@[go_sem ↓] def zR3{e:DE}{ps:String}{af:Array Edge}{l:List (DE×Oper)}(h:(yj pf e.rg e.ls e.sl&&CG pf e.mr)=Z):
 pw P c (.iz pre ((e,⟨d,op,ty,ps,af,ae⟩)::l)::k) Q pf=qp P c e.ex ty op d (.iz pre l::k) Q pf:=by
 show EV P c pre e ⟨d,op,ty,ps,af,ae⟩ (pw P c (.iz pre l::k) Q) pf=_;simp only[EV,h,o6,GS];exact Y4 rfl rfl rfl
def jh(P:Program)(c:aY)(y:Option (Option Bool))(b:Bool)(ext:Bool)(ty:TypeId)(op:Op)(d:Option Tmp)(k:List iu)(Q:Exit->ah->Prop)(pf:ah):Prop:=
 lX c b d (qp P c ext ty op d k Q pf) (pw P c k Q) pf y
def zwu{y y':Option (Option Bool)}{b ext:Bool}{ty:TypeId}{op:Op}{d:Option Tmp}(h:y=y'):jh P c y b ext ty op d k Q pf=jh P c y' b ext ty op d k Q pf:=by rw[h]
attribute [congr] zwu
@[go_sem ↓] def zQK{e:DE}{ps:String}{af:Array Edge}{l:List (DE×Oper)}(h:(yj pf e.rg e.ls e.sl&&CG pf e.mr)=Z):
 pw P c (.iz pre ((e,⟨d,op,ty,ps,af,J (j,b)⟩)::l)::k) Q pf=jh P c (Bm pf pre[j]?) b e.ex ty op d (.iz pre l::k) Q pf:=by
 show EV P c pre e ⟨d,op,ty,ps,af,J (j,b)⟩ (pw P c (.iz pre l::k) Q) pf=_;simp only[EV,h,o6,GS];unfold jh qp;rw[Y4 (o:=⟨d,op,ty,ps,af,J (j,b)⟩) (o':=⟨d,op,ty, "",#[],ae⟩) rfl rfl rfl]
@[go_sem ↓] def zOf :jh P c (J (J Z)) Z ext ty op d k Q pf=qp P c ext ty op d k Q pf:=by simp[jh,lX]
@[go_sem ↓] def zQ1 :jh P c (J (J aa)) aa ext ty op d k Q pf=qp P c ext ty op d k Q pf:=by simp[jh,lX]
@[go_sem ↓] def zPL{d:Tmp}(h:gO c d .skip=Z):jh P c (J (J Z)) aa ext ty op (J d) k Q pf=pw P c k Q (pf.put d .skip):=by simp[jh,lX,vv,h]
@[go_sem ↓] def zOl{d:Tmp}(h:gO c d .skip=Z):jh P c (J (J aa)) Z ext ty op (J d) k Q pf=pw P c k Q (pf.put d .skip):=by simp[jh,lX,vv,h]
@[go_sem ↓] def zR9{d:Tmp}(h:gO c d .skip=Z):jh P c (J ae) b ext ty op (J d) k Q pf=pw P c k Q (pf.put d .skip):=by simp[jh,lX,vv,h]
def zwC{y:Bool}(h1:y=Z->jh P c (J (J Z)) b ext ty op d k Q pf)(h2:y=aa->jh P c (J (J aa)) b ext ty op d k Q pf):jh P c (J (J y)) b ext ty op d k Q pf:=by
 cases y
 ·exact h2 rfl
 ·exact h1 rfl
@[go_sem ↓] def zSl(hc:ip op=aa)(he:(!ext||gK op)=Z):qp P c ext ty op d k Q pf=pw1 P c c.Cb ty op d k Q pf:=by
 have Kd:ext=Z->gK op=Z:=by intro h;subst h;simpa using he
 unfold qp rO pw1;split
 ·simp_all [ip]
 ·simp only[OK];exact⟨λh=>h.2,λh=>⟨Kd,h⟩⟩
@[go_sem] def zUG{sl rg:List Nat}{mr:Option Nat}{ls a:Bool}:DE.ex ⟨i,sl,rg,mr,ls,a,b⟩=(a&& !b):=(rfl)
@[go_sem ↓] def zTn :qp P c aa ty (.call ⟨.value f,args,ts⟩) d k Q pf=pw1 P c c.Cb ty (.call ⟨.value f,args,ts⟩) d k Q pf:=by
 unfold qp rO pw1;simp
def zza{l:List (Md×Nat×Operand)}
(hl:(List.replicate args.toList.length Md.sh).zip (ij P args.toList ts.toList)=l)(ha:oe pf l=J (ys,aQ))(hf:pU aQ f=J (g,xs,us))(hc:eG aQ l ys=J as)
(has:xs.map (λx=>(Md.sh,x))++as++us.map (λx=>(Md.sh,x))=ji)(h:ap P g ji R)
(hk:∀r outs,R r outs->(l.any (sj aQ)=aa\/(cP r&&outs.all cP)=Z)/\qv P c c ((back c.nt aQ l (outs.drop xs.length)).map λp=>(.v r,p)) d k Q):qp P c Z ty (.call ⟨.value f,args,ts⟩) d k Q pf:=by
 refine⟨by simp,?_⟩;rw[hl,ha];show zJ P c d (pw P c k Q) aQ l (pU aQ f) (eG aQ l ys);rw[hf,hc];show ap P g _ _;rw[has];refine h.mono λr outs hr=>?_
 obtain⟨h1,h2⟩:=hk r outs hr;refine⟨h1,?_⟩;cases hb:back c.nt aQ l (outs.drop xs.length)with
 |none=>rw[hb]at h2;exact h2
 |some p=>rw[hb]at h2;exact h2
def zuv{f:FuncId}{fn:Func}{code:Code}(fz hp:List Nat)(hc:ax P f)(hf:P.funcs[f]? =J fn)(hb:fn.body=J code)(hlen:as.length<=fn.ntmps)
(h:pw P ⟨fn.ntmps,jA 0 as,fz,hp⟩ [.code code] (sg P fn.results.toList as R) (qF as)):ap P f as R:=by
 refine ztd (fz:=fz) (hp:=hp) hc hf hb hlen ?_;have e:fC P ⟨fn.ntmps,jA 0 as,fz,hp⟩ [] (sg P fn.results.toList as R)=sg P fn.results.toList as R:=by funext e;cases e<;>rfl
 have h':gq P ⟨fn.ntmps,jA 0 as,fz,hp⟩ code (fC P ⟨fn.ntmps,jA 0 as,fz,hp⟩ [] (sg P fn.results.toList as R)) (qF as):=h
 rwa [e]at h'
@[go_sem] def zKj{rs:List ResultVar}:sg P rs as R .ret pf=Fj as R (sN P pf rs):=(rfl)
@[go_sem] def zEk{rs:List ResultVar}:sg P rs as R .normal pf=Fj as R (sN P pf rs):=(rfl)
@[go_sem] def zGQ{x:List PV}:Fj as R (J (x,pf))=R (HH x) (kX pf 0 as):=(rfl)
@[go_sem] def zJr:sN P pf []=J ([],pf):=(rfl)
@[go_sem] def zGk{x:ResultVar}{xs:List ResultVar}:sN P pf (x::xs)=(CU P pf x).bind λa=>(sN P a.2 xs).map λb=>(a.1::b.1,b.2):=(rfl)
@[go_sem] def zJv{t:Tmp}:CU P pf (.tmp t)=if qh (pf t)=Z then ae else lz pf t (pf t):=(rfl)
@[go_sem] def zHn{t:Tmp}:CU P pf (.cell t ty)=F7 pf t (pf t) (tk P ty):=(rfl)
@[go_sem] def zO9{t sz:Nat}:F7 pf t (.bl row) (J (Z,sz))=if sz=row.length then J (.agg row,(pf.bS t jP).kill t 0)else ae:=by cases row<;>rfl
@[go_sem] def zQ6{t sz:Nat}{x:PV}:F7 pf t (.bl (x::row)) (J (aa,sz))=J (x,(pf.bS t jP).kill t 0):=(rfl)
@[go_sem] def zSo{x:PV}:qh (.v x)=aa:=(rfl)
@[go_sem] def zOQ :qh (.rf s p)=aa:=(rfl)
@[go_sem] def zPr :qh (.rv s p lo hi)=aa:=(rfl)
@[go_sem] def zPu :qh (.ra s p i j n)=aa:=(rfl)
@[go_sem] def zO7 :qh (.ls es rows)=Z:=(rfl)
@[go_sem] def zQa :qh (.pt s p i j)=aa:=(rfl)
@[go_sem] def zOg :qh (.bl row)=aa:=(rfl)
@[go_sem] def zRk{t:Tmp}:vr pf (.tmp t)=qh (pf t):=(rfl)
@[go_sem] def zJI{v:Value}:vr pf (.const v)=aa:=(rfl)
@[go_sem] def zNM :vr pf (.func g)=aa:=(rfl)
@[go_sem] def zNE:HH []=.au:=(rfl)
@[go_sem] def zKD{x:PV}:HH [x]=x:=(rfl)
@[go_sem] def zKq{x:PV}{l:List PV}:HH (x::y::l)=.bO (x::y::l):=(rfl)
@[go_sem] def zKu :kX pf n []=[]:=(rfl)
@[go_sem] def zOG{x:PV}:kX pf n ((.io,x)::l)=KO (pf n)::kX pf (n+1) l:=(rfl)
@[go_sem] def zQF{x:PV}:kX pf n ((.sh,x)::l)=.au::kX pf (n+1) l:=(rfl)
@[go_sem] def zPp{x:PV}:kX pf n ((.mv,x)::l)=.au::kX pf (n+1) l:=(rfl)
@[go_sem] def zTa{x:PV}:KO (.v x)=x:=(rfl)
@[go_sem] def zOq :jA n []=[]:=(rfl)
@[go_sem] def zR8{x:PV}:jA n ((.io,x)::l)=n::jA (n+1) l:=(rfl)
@[go_sem] def zRP{x:PV}:jA n ((.sh,x)::l)=jA (n+1) l:=(rfl)
@[go_sem] def zSi{x:PV}:jA n ((.mv,x)::l)=jA (n+1) l:=(rfl)
end
end Go.Pm
