import Derived.Test.YtnojafnlicbhpaaGreatPmT
namespace Go.Pm
set_option linter.defProp false
open Go.Am
open Bool renaming false→aa,true→Z
open Option renaming none→ae,some→J
def OD:=@eq_iff_iff
def Um:=@iff_false
section
variable {P:Program}{c co:aY}{k:List ip}{Q:Exit->ah->Prop}{pf:ah}
attribute [go_sem] Option.bind_some Option.bind_none Option.map_some Option.map_none Option.getD_some Option.getD_none
def II:Option (PF×ah)->Option (PF×ah)->Option (PF×ah)
 |some a,_=>J a
 |none,y=>y
variable{R:PV->List PV->Prop}{a f x:Operand}{args:Array Operand}{as jt l:List (Md×PV)}{b ext:Bool}{d:Option Tmp}{e t ty:TypeId}{es hi i j len lo n q s u:Nat}{g:FuncId}{op:Op}{p:aA}{aQ:ah}{pre:List (Option Tmp)}{row us xs ys z:List PV}{rows:List (List PV)}{ts:Array TypeId}{y:PV}
def zyJ{a b c:Option (PF×ah)}(h:a=b):II a c=II b c:=by rw[h]
@[go_sem ↓] theorem zLm{a:PF×ah}{y:Option (PF×ah)}:II (J a) y=J a:=rfl
@[go_sem ↓] theorem zMw{y:Option (PF×ah)}:II ae y=y:=rfl
def IJ:Option PF->ah->Option (PF×ah)->Option (PF×ah)
 |some y,pf,_=>J (y,pf)
 |none,_,x=>x
def zys{a b:Option PF}{pf:ah}{x:Option (PF×ah)}(h:a=b):IJ a pf x=IJ b pf x:=by rw[h]
@[go_sem ↓] theorem zLZ{y:PF}{x:Option (PF×ah)}:IJ (J y) pf x=J (y,pf):=rfl
@[go_sem ↓] theorem zKV{x:Option (PF×ah)}:IJ ae pf x=x:=rfl
attribute [congr] zyJ zys
def SE(x:Option PF)(f:PF->Option (PF×ah))(z:Option (PF×ah)):Option (PF×ah):=
 match x with
 |some y=>f y
 |none=>z
@[go_sem] def zMf{y:PF}{f:PF->Option (PF×ah)}{z:Option (PF×ah)}:SE (J y) f z=f y:=(rfl)
@[go_sem] def zNh{f:PF->Option (PF×ah)}{z:Option (PF×ah)}:SE ae f z=z:=(rfl)
@[go_sem] def zUU{x:PV}:zj co d pf (.v x)=J (.v x,pf):=(rfl)
@[go_sem] def zSx :zj co d pf (.ra s p i j n)=J (.ra s p i j n,pf):=(rfl)
@[go_sem] def zRF :zj co d pf (.rf s p)=if R7 co d=Z then(cb pf s p).bind λx=>if dr x=Z then ae else(iy pf s p .au).map λpf'=>(.v x,pf')else J (.rf s p,pf):=(rfl)
@[go_sem] def zT0{d:Nat}:R7 co (J d)=co.fz.contains (d+6*co.nt):=(rfl)
@[go_sem ↓] def zN5 :pw1 P c co ty (.load t a) d k Q pf=qv P c co (SE ((tk P t).bind λtz=>(mR pf a).bind (Co tz pf)) (zj co d pf) ((HQ P t pf a).map λy=>(y,pf))) d k Q:=by
 show EN P co t a d (pw P c k Q) pf=_;unfold EN;cases (tk P t).bind λtz=>(mR pf a).bind (Co tz pf)with
 |some y=>
  show Dh co (pw P c k Q) d y pf=qv P c co (zj co d pf y) d k Q;unfold Dh;cases zj co d pf y<;>rfl
 |none=>cases HQ P t pf a<;>rfl
def zyu{x:Option AD}:F1 co (pw P c k Q) d pf x=qv P c co (x.map λad=>(uI ad,pf)) d k Q:=by cases x<;>rfl
@[go_sem ↓] def zIy{s:TypeId}{f:Nat}:pw1 P c co ty (.fieldAddr s x f) d k Q pf=qv P c co (((du P s f).bind λo=>(mR pf x).bind (ya o.1)).map λad=>(uI ad,pf)) d k Q:=zyu
@[go_sem ↓] def zDk :pw1 P c co ty (.nilCheck x) d k Q pf=qv P c co ((mR pf x).map λad=>(uI ad,pf)) d k Q:=zyu
@[go_sem] def zTZ{i:Operand}(h:kV P t=J es):yP P t x i pf=(F7 pf x).bind (NB es (cr pf i)):=by simp[yP,h]
@[go_sem] def zVH{i:Operand}{z:Nat×Nat}(h:Kf P t=J z)(h0:kV P t=ae):yP P t x i pf=(mR pf x).bind (M2 z.1 z.2 (cr pf i)):=by simp[yP,h,h0]
@[go_sem ↓] def zB7{i:Operand}:pw1 P c co ty (.indexAddr t x i) d k Q pf=qv P c co (II ((yP P t x i pf).map λad=>(uI ad,pf)) (FO P t x i pf)) d k Q:=by
 show EY P co t x i d (pw P c k Q) pf=_;unfold EY;cases yP P t x i pf with
 |some ad=>rfl
 |none=>cases FO P t x i pf<;>rfl
@[go_sem] def zRY{i:Operand}:FO P t (.tmp u) i pf=LI P t u pf (pf u) (cr pf i):=(rfl)
@[go_sem] def zM0{kk:IntKind}{q:Int}:LI P t u pf (.as aa s p i j n) (J (.int kk q))=if kV P t=J 1/\0<=q/\q<n then J (.as Z s p i (j+q.toNat) 1,pf.put u jP)else ae:=(rfl)
@[go_sem] def zSF :HQ P t pf (.tmp u)=(tk P t).bind λtz=>if tz.1=aa then MK (pf u)else ae:=(rfl)
@[go_sem] def zK2 :MK (.as Z s p i j n)=J (.rf s (p++[(i,j)])):=(rfl)
@[go_sem] def zSn{t:Nat}:qq pf t (.as b s p i j n)=ae:=(rfl)
@[go_sem] def zSC{t:Nat}:s8 pf t (.as b s p i j n)=ae:=(rfl)
@[go_sem] def zRf{c:aY}{d:Nat}(h:c.fz=[]):y6 c d=aa:=by simp[y6,h]
@[go_sem] def zVu{c:aY}{d:Nat}:y6 c d=c.fz.contains (d+2*c.nt):=(rfl)
@[go_sem] def zOY :Cg (.rf s p)=J (s,p):=(rfl)
@[go_sem] def zKb{o:Bool}:KN (J (.sl o es rows))=Z:=(rfl)
@[go_sem] def zNJ :yj pf s p i j q []=Z:=(rfl)
@[go_sem] def zIX{q':Nat}{t:Tmp}{r:List (Nat×Operand)}:yj pf s p i j q ((q',.tmp t)::r)=if q'=q/\Cg (pf t)=J (s,p++[(i,j+q)])/\KN (cb pf s (p++[(i,j+q)]))=Z then yj pf s p i j (q+1) r else aa:=(rfl)
@[go_sem] def zGb{a:Nat×Nat}:oQ [a]=J ([],a.1,a.2):=(rfl)
@[go_sem] def zHy{a b:Nat×Nat}{r:aA}:oQ (a::b::r)=(oQ (b::r)).map λx=>(a::x.1,x.2):=(rfl)
@[go_sem] def zSJ{t:Tmp}{r:List (Nat×Operand)}:D5 pf ((q,.tmp t)::r)=(Cg (pf t)).bind λx=>(oQ x.2).map λy=>(x.1,y):=(rfl)
@[go_sem] def zQX{ps:List (Nat×Operand)}:G5 P t len ps pf=(ez P t).bind λz=>(D5 pf ps).bind λa=>if z.1=1/\len<=2^24/\ps.length=len/\yj pf a.1 a.2.1 a.2.2.1 a.2.2.2 0 ps=Z then J (.as aa a.1 a.2.1 a.2.2.1 a.2.2.2 len)else ae:=(rfl)
def HX(pf:ah)(cells:List PV):AD->Option ah
 | .pl s p i j=>ml pf s p i j cells
 |_=>ae
def Qo(P:Program)(t:TypeId)(a x:Operand)(pf:ah):Option ah:=
 (tk P t).bind λtz=>(ep (cR P t) pf x).bind λy=>if EH tz.2 y.1=Z then(mR y.2 a).bind (HX y.2 (cO y.1))else ae
@[go_sem] def zSf :Qo P t a x pf=(tk P t).bind λtz=>(ep (cR P t) pf x).bind λy=>if EH tz.2 y.1=Z then(mR y.2 a).bind (HX y.2 (cO y.1))else ae:=(rfl)
@[go_sem ↓] def zIM :pw1 P c co ty (.store t a x) ae k Q pf=qf P c (Qo P t a x pf) k Q:=by
 show Ev P co t a x ae (pw P c k Q) pf=_;unfold Ev Qo;cases tk P t with
 |none=>rfl
 |some tz=>
  cases ep (cR P t) pf x with
  |none=>rfl
  |some y=>
   obtain⟨y,aQ⟩:=y;obtain⟨b,sz⟩:=tz;simp only[aR];by_cases h:EH sz y=Z
   ·rw[aB h];cases ha:mR aQ a with
    |none=>simp[FJ,qf]
    |some ad=>cases ad with
     |pl s p i j=>cases hp:ml aQ s p i j (cO y)<;>simp[FJ,qf,h,HX,hp]
     |fz row=>simp[FJ,qf,HX]
   ·rw[az h];simp[qf,h]
def EK(P:Program)(co:aY)(e:TypeId)(d:Nat)(pf:ah):Option ah:=
 (zr P e).bind λz=>if gG co d .skip=Z then J (if co.hp.contains d=Z then pf.put d (.v (.bx z))else pf.put d (.bl z))else ae
@[go_sem] def zU3{d:Nat}(h:zr P e=J z)(h1:gG co d .skip=Z)(h2:co.hp.contains d=Z):EK P co e d pf=J (pf.put d (.v (.bx z))):=by unfold EK;rw[h,aR,aB h1,aB h2]
@[go_sem] def zUL{d:Nat}(h:zr P e=J z)(h1:gG co d .skip=Z)(h2:co.hp.contains d=aa):EK P co e d pf=J (pf.put d (.bl z)):=by unfold EK;rw[h,aR,aB h1,az (by rw[h2];simp)]
@[go_sem ↓] def zIN{d:Tmp}:pw1 P c co ty (.alloc e) (J d) k Q pf=qf P c (EK P co e d pf) k Q:=by
 show Fo P co e (J d) (pw P c k Q) pf=_;unfold Fo EK;cases zr P e with
 |none=>rfl
 |some z=>
  simp only[aR];by_cases h:gG co d .skip=Z
  ·rw[aB h];by_cases h2:co.hp.contains d=Z
   ·simp only[h,h2,qf,eP,o5]
   ·simp only[h,h2,qf,o5];simp
  ·rw[az h];simp[qf,h]
def Qz(P:Program)(co:aY)(e:TypeId)(x:Operand)(d:Nat)(pf:ah):Option ah:=
 (tk P e).bind λ_=>(ep (cR P e) pf x).bind λy=>if(!uY pf x&&jQ y.1&&gG co d .skip)=Z then J (if co.hp.contains d=Z then(if co.fz.contains d=Z then(y.2.put d (.v (.bx (cO y.1)))).put d (.v (drop (.bx (cO y.1))))else y.2.put d (.v (.bx (cO y.1))))else y.2.put d (.bl (cO y.1)))else ae
@[go_sem] def zRM{d:Nat}:Qz P co e x d pf=(tk P e).bind λ_=>(ep (cR P e) pf x).bind λy=>if(!uY pf x&&jQ y.1&&gG co d .skip)=Z then J (if co.hp.contains d=Z then(if co.fz.contains d=Z then(y.2.put d (.v (.bx (cO y.1)))).put d (.v (drop (.bx (cO y.1))))else y.2.put d (.v (.bx (cO y.1))))else y.2.put d (.bl (cO y.1)))else ae:=(rfl)
@[go_sem ↓] def zQk{d:Tmp}:pw1 P c co ty (.box e x) (J d) k Q pf=qf P c (Qz P co e x d pf) k Q:=by
 show DQ P co e x (J d) (pw P c k Q) pf=_;unfold DQ Qz;cases tk P e with
 |none=>rfl
 |some z=>
  cases ep (cR P e) pf x with
  |none=>rfl
  |some y=>
   obtain⟨y,aQ⟩:=y;simp only[aR];by_cases h:(!uY pf x&&jQ y&&gG co d .skip)=Z
   ·rw[aB h];simp only[bI,qc]at h;by_cases h2:co.hp.contains d=Z
    ·by_cases h4:co.fz.contains d=Z
     ·simp only[h.1.1,h.1.2,h.2,h2,h4,qf,eP,o5]
     ·simp only[h.1.1,h.1.2,h.2,h2,h4,qf,eP,o5];simp
    ·simp only[h.1.1,h.1.2,h.2,h2,qf,o5];simp
   ·rw[az h];simp only[qf,OD,Um];rintro⟨h1,h2,h3,_⟩;exact h (by rw[h1,h2,h3];rfl)
def Rj(P:Program)(co:aY)(t:TypeId)(len:Nat)(ps:List (Nat×Operand))(d:Nat)(pf:ah):Option ah:=
 (ez P t).bind λz=>(pA pf (ps.map λp=>(dZ P t p.1,p.2))).bind λy=>if len*z.1<=2^24/\gG co d .skip=Z then(rL z.1 ((ps.map (·.1)).zip (uH co d y.1)) (List.replicate len z.2.2)).map λrows=>y.2.put d (.ls z.1 rows)else ae
@[go_sem] def zQe{d:Nat}(h:co.fz=[]):uH co d xs=xs:=by simp[uH,h]
@[go_sem] def zUD{d:Nat}:uH co d xs=if co.fz.contains (d+3*co.nt)=Z then xs.map drop else xs:=(rfl)
@[go_sem] def zPi{ps:List (Nat×Operand)}{d:Nat}:Rj P co t len ps d pf=(ez P t).bind λz=>(pA pf (ps.map λp=>(dZ P t p.1,p.2))).bind λy=>if len*z.1<=2^24/\gG co d .skip=Z then(rL z.1 ((ps.map (·.1)).zip (uH co d y.1)) (List.replicate len z.2.2)).map λrows=>y.2.put d (.ls z.1 rows)else ae:=(rfl)
@[go_sem ↓] def zBm{ps:Array (Nat×Operand)}{d:Tmp}:pw1 P c co ty (.buildSlice t len ps) (J d) k Q pf=if y6 co d=Z then qv P c co ((G5 P t len ps.toList pf).map λy=>(y,pf)) (J d) k Q else qf P c (Rj P co t len ps.toList d pf) k Q:=by
 show Fh P co t len ps.toList (J d) (pw P c k Q) pf=_;unfold Fh Rj;by_cases hm:y6 co d=Z
 ·rw[aB hm,aB (show Q9 co (J d)=Z from hm)];unfold JG;cases G5 P t len ps.toList pf<;>rfl
 rw[az hm,az (show¬Q9 co (J d)=Z from hm)];cases ez P t with
 |none=>rfl
 |some z=>
  cases pA pf (ps.toList.map λp=>(dZ P t p.1,p.2))with
  |none=>rfl
  |some y=>
   obtain⟨xs,aQ⟩:=y;simp only[aR];by_cases h:len*z.1<=2^24/\gG co d .skip=Z
   ·rw[aB h];cases rL z.1 ((ps.toList.map (·.1)).zip (uH co d xs)) (List.replicate len z.2.2)<;>simp only[Lz,qf,h.1,h.2,o5,and_false,Option.map_none,l9]
   ·rw[az h];simp only[qf,OD,Um];rintro⟨h1,h2⟩;cases hf:rL z.1 ((ps.toList.map (·.1)).zip (uH co d xs)) (List.replicate len z.2.2)with
    |none=>rw[hf]at h2;exact h2
    |some r=>rw[hf]at h2;exact h ⟨h1,h2.1⟩
@[go_sem ↓] def zJg{ps:Array (Nat×Operand)}:pw1 P c co ty (.build t ps) d k Q pf=
 qv P c co ((nl P t).bind λb=>(pA pf (ps.toList.map λp=>(dZ P t p.1,p.2))).bind λy=>(vz b.1 ((ps.toList.map (·.1)).zip y.1) b.2).map λrow=>(.v (.agg row),y.2)) d k Q:=by
 show EO P co t ps.toList d (pw P c k Q) pf=_;unfold EO;cases nl P t with
 |none=>rfl
 |some b=>
  cases pA pf (ps.toList.map λp=>(dZ P t p.1,p.2))with
  |none=>rfl
  |some y=>
   simp only[aR];cases vz b.1 ((ps.toList.map (·.1)).zip y.1) b.2<;>rfl
def BN(b x y:Option Value):Option PV:=
 match b with
 |some (.bool Z)=>x.bind ll
 |some (.bool aa)=>y.bind ll
 |_=>ae
@[go_sem ↓] def zLI{b y:Operand}:pw1 P c co ty (.pick b x y) d k Q pf=qv P c co ((BN (cr pf b) (cr pf x) (cr pf y)).map λz=>(.v z,pf)) d k Q:=by
 show Df co b x y d (pw P c k Q) pf=_;unfold Df Lk BN;cases cr pf b with
 |none=>rfl
 |some v=>
  cases v with
  |bool b=>
   cases b
   ·simp only[];cases (cr pf y).bind ll<;>rfl
   ·simp only[];cases (cr pf x).bind ll<;>rfl
  |_=>rfl
@[go_sem] def zVT{x y:Option Value}:BN (J (.bool Z)) x y=x.bind ll:=(rfl)
@[go_sem] def zUN{x y:Option Value}:BN (J (.bool aa)) x y=y.bind ll:=(rfl)
@[go_sem] def zP3{j:IntKind}{m n:Int}:BN (J (.bool b)) (J (.int j m)) (J (.int j n))=J (.int j (if b=Z then m else n)):=by cases b<;>rfl
@[go_sem] def zLa{m n:Bool}:BN (J (.bool b)) (J (.bool m)) (J (.bool n))=J (.bool (if b=Z then m else n)):=by cases b<;>rfl
@[go_sem] def zQ9{m n:ByteArray}:BN (J (.bool b)) (J (.string m)) (J (.string n))=J (.str (if b=Z then m else n)):=by cases b<;>rfl
def PK(b:Bool)(z:Nat×Nat×List PV)(pf:ah):Option Value->Option Value->Option (PF×ah)
 |some (.int .i64 n),J (.int .i64 m)=>if 0<=n/\n<=m/\z.2.1*m<=140737488355328/\m<=4611686018427387904 then J (.v (.sl Z z.1 (List.replicate n.toNat (uz b z.2.2))),pf)else ae
 |_,_=>ae
@[go_sem] def zPy{z:Nat×Nat×List PV}{n m:Int}:PK b z pf (J (.int .i64 n)) (J (.int .i64 m))=if 0<=n/\n<=m/\z.2.1*m<=140737488355328/\m<=4611686018427387904 then J (.v (.sl Z z.1 (List.replicate n.toNat (uz b z.2.2))),pf)else ae:=(rfl)
@[go_sem] def zMI{d:Nat}:sw co (J d)=co.fz.contains (d+co.nt):=(rfl)
@[go_sem] def zNZ:sw co ae=aa:=(rfl)
@[go_sem] def zKB :uz aa z=z:=(rfl)
@[go_sem] def zPG :uz Z z=z.map ud:=(rfl)
@[go_sem] def zUE{o:Bool}{e:Nat}:ud (.sl o e [])=.sl Z e []:=(rfl)
@[go_sem] def zRC{j:IntKind}{n:Int}:ud (.int j n)=.int j n:=(rfl)
@[go_sem] def zOe :ud (.bool b)=.bool b:=(rfl)
@[go_sem] def zR0{b:ByteArray}:ud (.str b)=.str b:=(rfl)
@[go_sem ↓] def zB8{l cc:Operand}:pw1 P c co ty (.makeSlice t l cc) d k Q pf=qv P c co ((ez P t).bind λz=>PK (sw co d) z pf (cr pf l) (cr pf cc)) d k Q:=by
 show F4 P co t l cc d (pw P c k Q) pf=_;unfold F4;cases ez P t with
 |none=>rfl
 |some z=>
  simp only[aR];generalize cr pf l=x1;generalize cr pf cc=x2;unfold K3 PK;split
  ·rename_i n m;simp only[];by_cases h:0<=n/\n<=m/\z.2.1*m<=140737488355328/\m<=4611686018427387904
   ·rw[aB h];simp only[h,o5];rfl
   ·rw[az h];simp only[qv,OD,Um];rintro⟨a1,_⟩;exact h a1
  ·rename_i h1;split
   ·rename_i e1;exact absurd rfl (h1 _ _ rfl)
   ·rfl
def Zx{u:TypeId}{op:BinOp}{y:Operand}{d:Tmp}{q:Bool}(hy:uP y=Z)(hp:co.hp.isEmpty=aa)(he:(cS P t).isSome=Z)(hq:IZ op=J q)(hx:QH pf x=J rows)
(hk:∀b,(rows≠[]->b= !q)->qv P c co (J (.v (.bool b),pf)) (J d) k Q):pw1 P c co ty (.binOp op t x y u) (J d) k Q pf:=by
 show ny P co ⟨J d,.binOp op t x y u,ty, "",#[],ae⟩ (pw P c k Q) pf;simp only[ny,hy,eP];refine⟨(by intro e;rw[e]at hp;cases hp),?_⟩;cases x with
 |tmp s=>
  unfold BX;simp only[hq,hx];exact⟨he,λb hb=>hk b hb⟩
 |_=>simp[QH]at hx
@[go_sem ↓] def zDJ{fn:Fn}{xs ys:Array Operand}:pw1 P c co ty (.makeFunc fn xs ys) d k Q pf=
 qv P c co (if Pj co d=Z then(He pf fn xs.toList ys.toList).bind (Kb co pf)else(rj (!co.hp.isEmpty) pf (xs.toList++ys.toList)).map λvs=>(.v (.func fn (vs.1.take xs.toList.length) (vs.1.drop xs.toList.length)),vs.2)) d k Q:=by
 show D2 co fn xs.toList ys.toList d (pw P c k Q) pf=_;unfold D2;split
 ·cases (He pf fn xs.toList ys.toList).bind (Kb co pf)<;>rfl
 cases rj (!co.hp.isEmpty) pf (xs.toList++ys.toList)<;>rfl
def su(co:aY)(d:Option Tmp)(t:Nat)(pf:ah):PF->Option (PF×ah)
 | .v x=>if dr x=Z then ae else J (if bK x=Z then .rf t []else .v x,pf)
 | .ls es rows=>if t<co.nt then J (.rf t [],(pf.bU t (.v (.sl Z es rows))).kill t 0)else ae
 | .bl _=>J (.pt t [] 0 0,pf)
 | .skip=>ae
 | .as .. =>ae
 | .pt s p i j=>if AW co d=Z then B2 pf t s p i j (pf s)else J (.pt s p i j,pf)
 |y=>J (y,pf)
@[go_sem] def zUy{co:aY}{t:Nat}{x:PV}(h:dr x=aa):su co d t pf (.v x)=J (if bK x=Z then .rf t []else .v x,pf):=by simp[su,h]
@[go_sem] def zSr{co:aY}{t:Nat}(h:t<co.nt):su co d t pf (.ls es rows)=J (.rf t [],(pf.bU t (.v (.sl Z es rows))).kill t 0):=by simp[su,h]
@[go_sem] def zSb{co:aY}{t:Nat}:su co d t pf (.bl row)=J (.pt t [] 0 0,pf):=(rfl)
@[go_sem] def zRH{co:aY}{t:Nat}:su co d t pf (.pt s p i j)=if AW co d=Z then B2 pf t s p i j (pf s)else J (.pt s p i j,pf):=(rfl)
@[go_sem] def zVF{co:aY}{d:Nat}:AW co (J d)=(!co.hp.isEmpty&&co.fz.contains (d+5*co.nt)):=(rfl)
@[go_sem] def zRE{t:Nat}:B2 pf t s [] 0 0 (.bl row)=J (.rf s [],((pf.bU s (.v (.bx row))).kill s 0).put t (.rf s [])):=(rfl)
@[go_sem] def zTf{co:aY}{t:Nat}:su co d t pf (.rf s p)=J (.rf s p,pf):=(rfl)
@[go_sem] def zSp{co:aY}{t:Nat}:su co d t pf (.rv s p lo hi)=J (.rv s p lo hi,pf):=(rfl)
@[go_sem] def zSh{co:aY}{t:Nat}:su co d t pf (.ra s p i j n)=J (.ra s p i j n,pf):=(rfl)
@[go_sem] def zSj{co:aY}{t:Nat}:su co d t pf (.cl s g us)=J (.cl s g us,pf):=(rfl)
@[go_sem] def zVh{co:aY}{d:Nat}:Pj co (J d)=co.fz.contains (d+4*co.nt):=(rfl)
@[go_sem] def zTQ{ys:List Operand}:He pf (.func g) [] (.tmp s::ys)=match pf s with| .v (.bx _)=>J (g,s,ys)|_=>ae:=(rfl)
@[go_sem] def zUr{ys:List Operand}{co:aY}:Kb co pf (g,s,ys)=(rj (!co.hp.isEmpty) pf ys).map λy=>(.cl s g y.1,y.2):=(rfl)
@[go_sem] def zUe{t:Tmp}:uy pf (.tmp t)=LX (pf t):=(rfl)
@[go_sem] def zSX :LX (.cl s g us)=J (s,g,us):=(rfl)
@[go_sem ↓] def zFe{t:Tmp}:pw1 P c co ty (.move (.tmp t)) d k Q pf=qv P c co (su co d t pf (pf t)) d k Q:=by
 show sW co t d (pw P c k Q) pf (pf t)=_;unfold sW su;cases pf t with
 |v x=>
  cases hj:dr x
  ·cases ho:bK x<;>simp[hj,ho,qv]
  ·simp[hj,qv]
 |ls es rows=>
  by_cases h:t<co.nt
  ·simp[h,qv]
  ·simp[h,qv]
 |pt s p i j=>
  cases hl:AW co d
  ·simp[qv]
  ·simp only[eP];cases B2 pf t s p i j (pf s)<;>rfl
 |_=>rfl
def LZ(x:Option (PV×ah)):Option (PF×ah):=x.map λy=>(.v y.1,y.2)
@[go_sem] def zNe :LZ (J (y,pf))=J (.v y,pf):=(rfl)
@[go_sem ↓] def zGd{k0:Value}:pw1 P c co ty (.move (.const k0)) d k Q pf=qv P c co (LZ (ep (cR P ty) pf (.const k0))) d k Q:=by
 show tn (cR P ty) co (.const k0) d (pw P c k Q) pf=_;unfold tn;simp only[];cases ep (cR P ty) pf (.const k0)<;>rfl
@[go_sem ↓] def zEy :pw1 P c co ty (.move (.func g)) d k Q pf=qv P c co (LZ (ep (cR P ty) pf (.func g))) d k Q:=by
 show tn (cR P ty) co (.func g) d (pw P c k Q) pf=_;unfold tn;simp only[];cases ep (cR P ty) pf (.func g)<;>rfl
@[go_sem ↓] def zG3 :pw1 P c co ty (.assign x) d k Q pf=qv P c co (IJ (Ba co pf d x) pf (LZ (ep (cR P ty) pf x))) d k Q:=by
 show FZ (cR P ty) co x d (pw P c k Q) pf=_;unfold FZ;cases Ba co pf d x with
 |some y=>rfl
 |none=>cases ep (cR P ty) pf x<;>rfl
@[go_sem] def zTb{d:Nat}{t:Tmp}:Ba co pf (J d) (.tmp t)=if y6 co d=Z then Fl t (pf t)else ae:=(rfl)
@[go_sem] def zPj{t:Nat}:Fl t (.rf s p)=J (.rf s p):=(rfl)
@[go_sem] def zQm{t:Nat}:Fl t (.bl row)=J (.pt t [] 0 0):=(rfl)
@[go_sem] def zOl{t:Nat}:Fl t (.cl s g us)=J (.cl s g us):=(rfl)
@[go_sem] def zSi{x:Value}:Ba co pf d (.const x)=ae:=by cases d<;>rfl
@[go_sem] def zSY{x:FuncId}:Ba co pf d (.func x)=ae:=by cases d<;>rfl
def JC(pf:ah)(s:Nat)(xs:List PV)(i:Nat):Option PV->Option (PF×ah)
 |some y=>if dr y=Z then ae else J (.v y,if bK y=Z then(pf.bU s (.v (.bO (xs.set i .au)))).kill s 1 else pf)
 |none=>ae
@[go_sem] def zNc(h:dr y=aa):JC pf s xs i (J y)=J (.v y,if bK y=Z then(pf.bU s (.v (.bO (xs.set i .au)))).kill s 1 else pf):=by simp[JC,h]
@[go_sem] theorem zQ6{t:Tmp}:CA pf (.tmp t)=match pf t with
 | .rf s []=>Cw s (pf s)
 |y=>Cw t y:=rfl
@[go_sem] def zTF :Cw s (.v (.bO xs))=J (s,xs):=(rfl)
@[go_sem ↓] def zEk :pw1 P c co ty (.extract x i) d k Q pf=qv P c co ((CA pf x).bind λa=>if a.1<co.nt then JC pf a.1 a.2 i a.2[i]? else ae) d k Q:=by
 show EF co x i d (pw P c k Q) pf=_;unfold EF;cases CA pf x with
 |none=>rfl
 |some a=>
  obtain⟨s,xs⟩:=a;simp only[aR];by_cases h:s<co.nt
  ·rw[aB h];simp only[h,o5];cases xs[i]? with
   |none=>rfl
   |some y=>
    cases hj:dr y
    ·cases ho:bK y<;>simp[JD,JC,hj,ho,qv]
    ·simp[JD,JC,hj,qv]
  ·rw[az h];simp[h,qv]
def MH(es t:Nat)(pf:ah)(l h m:Option (Option Nat)):Option (PF×ah):=
 match l,h,m with
 |some l,J h,J ae=>(mZ es (l.getD 0) h pf t (pf t)).map λy=>(y,pf)
 |some l,J (J h),J (J m)=>((dQ pf (pf t)).bind iH).bind λrows=>(mZ es (l.getD 0) (J h) pf t (pf t)).bind λ_=>if l.getD 0=h/\h=m/\m<=rows.length then J (.v (.sl Z es []),pf)else ae
 |_,_,_=>ae
@[go_sem] def zIc{t:Nat}{l h:Option Nat}:MH es t pf (J l) (J h) (J ae)=(mZ es (l.getD 0) h pf t (pf t)).map λy=>(y,pf):=by cases h<;>rfl
@[go_sem] def zG2{t:Nat}{l:Option Nat}{h m:Nat}:MH es t pf (J l) (J (J h)) (J (J m))=((dQ pf (pf t)).bind iH).bind λrows=>(mZ es (l.getD 0) (J h) pf t (pf t)).bind λ_=>if l.getD 0=h/\h=m/\m<=rows.length then J (.v (.sl Z es []),pf)else ae:=(rfl)
def zAW{t:Nat}{l h m:Option (Option Nat)}:Dx co es t d (pw P c k Q) pf l h m=qv P c co (MH es t pf l h m) d k Q:=by
 cases l with
 |none=>rfl
 |some l=>
  cases h with
  |none=>rfl
  |some h=>
   cases m with
   |none=>rfl
   |some m=>
    cases m with
    |none=>
     rw[zIc];cases h<;>simp only[Dx]<;>cases mZ es (l.getD 0) _ pf t (pf t)<;>rfl
    |some m=>
     cases h with
     |none=>rfl
     |some h=>
      rw[zG2];simp only[Dx];cases (dQ pf (pf t)).bind iH with
      |none=>rfl
      |some rows=>
       simp only[aR];cases mZ es (l.getD 0) (J h) pf t (pf t)with
       |none=>simp[qv]
       |some y=>
        by_cases hh:l.getD 0=h/\h=m/\m<=rows.length
        ·simp[hh,qv]
        ·simp[hh,qv]
@[go_sem ↓] def zI5{x:Tmp}{l h m:Option Operand}(hs:dU P t=aa):pw1 P c co ty (.slice t (.tmp x) l h m) d k Q pf=qv P c co ((kV P t).bind λes=>MH es x pf (oJ pf l) (oJ pf h) (oJ pf m)) d k Q:=by
 show(if dU P t=Z then kT P co ⟨d,.slice t (.tmp x) l h m,ty, "",#[],ae⟩ (pw P c k Q) pf else Ed P co t (.tmp x) l h m d (pw P c k Q) pf)=_;rw[az (by simp[hs])];unfold Ed;cases kV P t with
 |none=>rfl
 |some es=>exact zAW
def tV(P:Program)(c co:aY)(x:Option (List (List PV)))(d:Option Tmp)(k:List ip)(Q:Exit->ah->Prop)(pf:ah):Prop:=
 match x with
 |some rows=>rows.length<=kj->qv P c co (J (.v (.int .i64 rows.length),pf)) d k Q
 |none=>False
def zw5{x x':Option (List (List PV))}{d:Option Tmp}(h:x=x'):tV P c co x d k Q pf=tV P c co x' d k Q pf:=by rw[h]
attribute [congr] zw5
def AJ(P:Program)(c co:aY)(t:TypeId)(d:Option Tmp)(k:List ip)(Q:Exit->ah->Prop)(pf:ah)(x:Nat):PF->Prop
 | .ls es rows=>tV P c co ((cS P t).bind λ_=>J rows) d k Q ((pf.bU x (.v (.sl Z es rows))).kill x 0)
 |y=>tV P c co ((cS P t).bind λ_=>(dQ pf y).bind iH) d k Q pf
def zx8{t:TypeId}{d:Option Tmp}{x:Nat}{y y':PF}(h:y=y'):AJ P c co t d k Q pf x y=AJ P c co t d k Q pf x y':=by rw[h]
attribute [congr] zx8
@[go_sem ↓] theorem zS5{x:Nat}:AJ P c co t d k Q pf x (.ls es rows)=tV P c co ((cS P t).bind λ_=>J rows) d k Q ((pf.bU x (.v (.sl Z es rows))).kill x 0):=rfl
@[go_sem ↓] theorem zTs{x:Nat}:AJ P c co t d k Q pf x (.v y)=tV P c co ((cS P t).bind λ_=>iH y) d k Q pf:=rfl
@[go_sem ↓] theorem zSe{x:Nat}:AJ P c co t d k Q pf x (.rf s p)=tV P c co ((cS P t).bind λ_=>(dQ pf (.rf s p)).bind iH) d k Q pf:=rfl
@[go_sem ↓] theorem zTg{x:Nat}:AJ P c co t d k Q pf x (.rv s p lo hi)=tV P c co ((cS P t).bind λ_=>(dQ pf (.rv s p lo hi)).bind iH) d k Q pf:=rfl
@[go_sem ↓] def zPY{x:Tmp}(hs:dU P t=aa):pw1 P c co ty (.call ⟨.builtin .len,#[.tmp x],#[t]⟩) d k Q pf=AJ P c co t d k Q pf x (pf x):=by
 show(if dU P t=Z then kT P co ⟨d,.call ⟨.builtin .len,#[.tmp x],#[t]⟩,ty, "",#[],ae⟩ (pw P c k Q) pf else Cz P co t (.tmp x) d (pw P c k Q) pf)=_;rw[az (by simp[hs])];unfold Cz AJ;cases aE:pf x with
 |ls es rows=>
  have:((pf.bU x (.v (.sl Z es rows))).kill x 0) x=.v (.sl Z es rows):=by simp[ah.kill,ah.bU,cZ,bC]
  simp only[As,aE,this,dQ,iH,aR,tV,qv];cases cS P t<;>rfl
 |_=>
  simp only[As,aE,tV,qv];generalize (cS P t).bind (λ_=>(dQ pf _).bind iH)=o;cases o<;>rfl
@[go_sem] def zRd{s:ByteArray}(hs:dU P t=Z):eD P (.call ⟨.builtin .len,#[x],#[t]⟩) [.string s]=J (.int .i64 s.size):=by simp[eD,Am.iH,hs]
@[go_sem ↓] def zMN(hs:dU P t=Z):pw1 P c co ty (.call ⟨.builtin .len,#[x],#[t]⟩) d k Q pf=qv P c co (BO (λv=>eD P (.call ⟨.builtin .len,#[x],#[t]⟩) [v]) (cr pf x) pf) d k Q:=by
 show(if dU P t=Z then kT P co ⟨d,.call ⟨.builtin .len,#[x],#[t]⟩,ty, "",#[],ae⟩ (pw P c k Q) pf else Cz P co t x d (pw P c k Q) pf)=_;rw[aB hs];refine Bl (o:=⟨d,.call ⟨.builtin .len,#[x],#[t]⟩,ty, "",#[],ae⟩) ?_;simp only[gp,pM,aR];cases cr pf x<;>simp[BO]
def RB(P:Program)(t:TypeId)(s x:Operand)(pf:ah):Option (PF×ah):=
 (ez P t).bind λz=>(ep z.1 pf s).bind λb=>(Ao z.1 b.1).bind λrows=>(po z.1 b.2 x).bind λr=>
   if nA r.1=Z/\(rows.length+r.1.length)*z.2.1<=140737488355328/\rows.length+r.1.length<=4611686018427387904 then J (.v (.sl Z z.1 (rows++r.1)),r.2)else ae
@[go_sem] theorem zST{s:Operand}:RB P t s x pf=(ez P t).bind λz=>(ep z.1 pf s).bind λb=>(Ao z.1 b.1).bind λrows=>(po z.1 b.2 x).bind λr=>
 if nA r.1=Z/\(rows.length+r.1.length)*z.2.1<=140737488355328/\rows.length+r.1.length<=4611686018427387904 then J (.v (.sl Z z.1 (rows++r.1)),r.2)else ae:=rfl
@[go_sem ↓] def zGD{s:Operand}:pw1 P c co ty (.call ⟨.builtin .append,#[s,x],#[t,t]⟩) d k Q pf=qv P c co (RB P t s x pf) d k Q:=by
 show(if t=t then EX P co t s x d (pw P c k Q) pf else I4 P co t t s x d (pw P c k Q) pf)=_;rw[aB rfl];unfold EX RB;cases ez P t with
 |none=>rfl
 |some z=>
  simp only[aR];cases ep z.1 pf s with
  |none=>rfl
  |some b=>
   obtain⟨b,aQ⟩:=b;simp only[aR,NP];cases Ao z.1 b with
   |none=>rfl
   |some rows=>
    simp only[aR];cases po z.1 aQ x with
    |none=>rfl
    |some r=>
     obtain⟨rows2,bW⟩:=r;simp only[aR,Nv];by_cases h:nA rows2=Z/\(rows.length+rows2.length)*z.2.1<=140737488355328/\rows.length+rows2.length<=4611686018427387904
     ·rw[aB h];simp only[h.1,h.2.1,h.2.2,o5,qv]
     ·rw[az h];simp only[qv,OD,Um];rintro⟨a1,a2,_⟩;exact h ⟨a1,a2⟩
def Ts{n:Int}{z:Nat×Nat×List PV}(h:L3 P g t)(hz:ez P t=J z)(hn:cr pf x=J (.int .i64 n))(hb:0<=n/\z.2.1*n<=140737488355328/\n<=4611686018427387904)
(hk:qv P c co (J (.v (.sl Z z.1 []),pf)) d k Q):pw1 P c co ty (.call ⟨.value (.func g),#[.const (.slice ae 0 0),x],ts⟩) d k Q pf:=.inr (.inl ⟨g,x,t,n,z,rfl,rfl,h,hn,hz,hb,hk⟩)
def zBD(ms:List Md){l:List (Md×Nat×Operand)}
(hm:ms.length=args.toList.length)(hl:ms.zip (ii P args.toList ts.toList)=l)(ha:o4 pf l=J (ys,aQ))(hf:pI aQ f=J (g,xs,us))(hc:eL aQ l ys=J as)
(has:xs.map (λx=>(Md.sh,x))++as++us.map (λx=>(Md.sh,x))=jt)(h:ap P g jt R)
(hk:∀r outs,R r outs->(l.any (rT aQ)=aa\/(cQ r&&outs.all cQ)=Z)/\qv P c co ((back co.nt aQ l (outs.drop xs.length)).map λp=>(.v r,p)) d k Q):pw1 P c co ty (.call ⟨.value f,args,ts⟩) d k Q pf:=by
 refine .inl ⟨ms,hm,?_⟩;rw[hl,ha];show y9 P co d (pw P c k Q) aQ l (pI aQ f) (eL aQ l ys);rw[hf,hc];show ap P g _ _;rw[has];refine h.mono λr outs hr=>?_
 obtain⟨h1,h2⟩:=hk r outs hr;refine⟨h1,?_⟩;cases hb:back co.nt aQ l (outs.drop xs.length)with
 |none=>rw[hb]at h2;exact h2
 |some p=>rw[hb]at h2;exact h2
def zzn(ms:List Md){l:List (Md×Nat×Operand)}
(hm:ms.length=args.toList.length)(hf:uy pf f=J (s,g,us))(hl:ms.zip (ii P args.toList ts.toList)++[(.io,0,.tmp s)]=l)(ha:o4 pf l=J (ys,aQ))(Sq:uy aQ f=J (s,g,us))(hc:eL aQ l ys=J as)
(has:as++us.map (λx=>(Md.sh,x))=jt)(h:ap P g jt R)
(hk:∀r outs,R r outs->(l.any (rT aQ)=aa\/(cQ r&&outs.all cQ)=Z)/\qv P c co ((back co.nt aQ l outs).map λp=>(.v r,p)) d k Q):pw1 P c co ty (.call ⟨.value f,args,ts⟩) d k Q pf:=by
 refine .inr (.inr ⟨ms,(s,g,us),hf,hm,?_⟩);rw[hl,ha];refine⟨Sq,?_⟩;rw[hc];show ap P g _ _;simp only[p8,mL];rw[has];refine h.mono λr outs hr=>?_
 obtain⟨h1,h2⟩:=hk r outs hr;refine⟨h1,?_⟩;show J6 co d _ r (back co.nt aQ l outs);cases hb:back co.nt aQ l outs with
 |none=>rw[hb]at h2;exact h2
 |some p=>rw[hb]at h2;exact h2
def zB6{id:Nat}{ops:Array Oper}(D:List DE){L:List (DE×Oper)}(h1:P.follows .mixedOrders=Z)(h2:GI D ops.toList=Z)(hL:D.map (λx=>(x,ops.toList.getD x.i default))=L)
(h:pw P c (.iq (ops.toList.map (·.dst)) L::k) Q pf):pw P c (.code (.region id ops Z)::k) Q pf:=by
 subst hL;exact⟨h1,0,D,h2,h⟩
def XJ(D:List DE)(ops:List Oper):List (Nat×Nat)->List (Nat×Nat)->Bool
 |[],xs=>GI D ops xs
 |p::ps,xs=>XJ D ops ps ((p.1,p.2)::xs)&&XJ D ops ps ((p.2,p.1)::xs)
@[go_sem ↓] theorem zEh :pw P c (.iq pre []::k) Q pf=pw P c k Q pf:=rfl
def iz:Op->Bool
 | .call ⟨.value _,_,_⟩=>Z
 |_=>aa
def q9(P:Program)(c:aY)(ext:Bool)(ty:TypeId)(op:Op)(d:Option Tmp)(k:List ip)(Q:Exit->ah->Prop)(pf:ah):Prop:=rJ P c ext ⟨d,op,ty, "",#[],ae⟩ (pw P c k Q) pf
def YN{o o':Oper}{K:ah->Prop}(h:o.op=o'.op)(hd:o.dst=o'.dst)(ht:o.type=o'.type):rJ P c ext o K pf=rJ P c ext o' K pf:=by
 obtain⟨d,op,ty,ps,af,g⟩:=o;obtain⟨d',op',LT,ps',af',g'⟩:=o';simp only at h hd ht;subst h;subst hd;subst ht;rfl
@[go_sem ↓] def zTl{e:DE}{ps:String}{af:Array Edge}{l:List (DE×Oper)}(h:(xf pf e.rg e.ls e.sl&&Cd pf e.mr)=Z):
 pw P c (.iq pre ((e,⟨d,op,ty,ps,af,ae⟩)::l)::k) Q pf=q9 P c e.ex ty op d (.iq pre l::k) Q pf:=by
 show Ep P c pre e ⟨d,op,ty,ps,af,ae⟩ (pw P c (.iq pre l::k) Q) pf=_;simp only[Ep,h,o5,HE];exact YN rfl rfl rfl
def jm(P:Program)(c:aY)(y:Option (Option Bool))(b:Bool)(ext:Bool)(ty:TypeId)(op:Op)(d:Option Tmp)(k:List ip)(Q:Exit->ah->Prop)(pf:ah):Prop:=
 lm c b d (q9 P c ext ty op d k Q pf) (pw P c k Q) pf y
def zv5{y y':Option (Option Bool)}{b ext:Bool}{ty:TypeId}{op:Op}{d:Option Tmp}(h:y=y'):jm P c y b ext ty op d k Q pf=jm P c y' b ext ty op d k Q pf:=by rw[h]
attribute [congr] zv5
@[go_sem ↓] def zP5{e:DE}{ps:String}{af:Array Edge}{l:List (DE×Oper)}(h:(xf pf e.rg e.ls e.sl&&Cd pf e.mr)=Z):
 pw P c (.iq pre ((e,⟨d,op,ty,ps,af,J (j,b)⟩)::l)::k) Q pf=jm P c (CY pf pre[j]?) b e.ex ty op d (.iq pre l::k) Q pf:=by
 show Ep P c pre e ⟨d,op,ty,ps,af,J (j,b)⟩ (pw P c (.iq pre l::k) Q) pf=_;simp only[Ep,h,o5,HE];unfold jm q9;rw[YN (o:=⟨d,op,ty,ps,af,J (j,b)⟩) (o':=⟨d,op,ty, "",#[],ae⟩) rfl rfl rfl]
@[go_sem ↓] def zOH :jm P c (J (J Z)) Z ext ty op d k Q pf=q9 P c ext ty op d k Q pf:=by simp[jm,lm]
@[go_sem ↓] def zQb :jm P c (J (J aa)) aa ext ty op d k Q pf=q9 P c ext ty op d k Q pf:=by simp[jm,lm]
@[go_sem ↓] def zO6{d:Tmp}(h:gG c d .skip=Z):jm P c (J (J Z)) aa ext ty op (J d) k Q pf=pw P c k Q (pf.put d .skip):=by simp[jm,lm,uG,h]
@[go_sem ↓] def zOZ{d:Tmp}(h:gG c d .skip=Z):jm P c (J (J aa)) Z ext ty op (J d) k Q pf=pw P c k Q (pf.put d .skip):=by simp[jm,lm,uG,h]
@[go_sem ↓] def zRL{d:Tmp}(h:gG c d .skip=Z):jm P c (J ae) b ext ty op (J d) k Q pf=pw P c k Q (pf.put d .skip):=by simp[jm,lm,uG,h]
def zwx{y:Bool}(h1:y=Z->jm P c (J (J Z)) b ext ty op d k Q pf)(h2:y=aa->jm P c (J (J aa)) b ext ty op d k Q pf):jm P c (J (J y)) b ext ty op d k Q pf:=by
 cases y
 ·exact h2 rfl
 ·exact h1 rfl
@[go_sem ↓] def zRB(hc:iz op=aa)(he:(!ext||gT op)=Z):q9 P c ext ty op d k Q pf=pw1 P c c.Bk ty op d k Q pf:=by
 have I9:ext=Z->gT op=Z:=by intro h;subst h;simpa using he
 unfold q9 rJ pw1;split
 ·simp_all [iz]
 ·simp only[OD];exact⟨λh=>h.2,λh=>⟨I9,h⟩⟩
@[go_sem] def zUO{sl rg:List Nat}{mr:Option Nat}{ls a:Bool}:DE.ex ⟨i,sl,rg,mr,ls,a,b⟩=(a&& !b):=(rfl)
@[go_sem ↓] def zR6 :q9 P c aa ty (.call ⟨.value f,args,ts⟩) d k Q pf=pw1 P c c.Bk ty (.call ⟨.value f,args,ts⟩) d k Q pf:=by
 unfold q9 rJ pw1;simp
def zyN{l:List (Md×Nat×Operand)}
(hl:(List.replicate args.toList.length Md.sh).zip (ii P args.toList ts.toList)=l)(ha:o4 pf l=J (ys,aQ))(hf:pI aQ f=J (g,xs,us))(hc:eL aQ l ys=J as)
(has:xs.map (λx=>(Md.sh,x))++as++us.map (λx=>(Md.sh,x))=jt)(h:ap P g jt R)
(hk:∀r outs,R r outs->(l.any (rT aQ)=aa\/(cQ r&&outs.all cQ)=Z)/\qv P c c ((back c.nt aQ l (outs.drop xs.length)).map λp=>(.v r,p)) d k Q):q9 P c Z ty (.call ⟨.value f,args,ts⟩) d k Q pf:=by
 refine⟨by simp,?_⟩;rw[hl,ha];show y9 P c d (pw P c k Q) aQ l (pI aQ f) (eL aQ l ys);rw[hf,hc];show ap P g _ _;rw[has];refine h.mono λr outs hr=>?_
 obtain⟨h1,h2⟩:=hk r outs hr;refine⟨h1,?_⟩;cases hb:back c.nt aQ l (outs.drop xs.length)with
 |none=>rw[hb]at h2;exact h2
 |some p=>rw[hb]at h2;exact h2
def zuC{f:FuncId}{fn:Func}{code:Code}(fz hp:List Nat)(hc:ax P f)(hf:P.funcs[f]? =J fn)(hb:fn.body=J code)(hlen:as.length<=fn.ntmps)
(h:pw P ⟨fn.ntmps,jk 0 as,fz,hp⟩ [.code code] (rW P fn.results.toList as R) (qy as)):ap P f as R:=by
 refine ztv (fz:=fz) (hp:=hp) hc hf hb hlen ?_;have e:fB P ⟨fn.ntmps,jk 0 as,fz,hp⟩ [] (rW P fn.results.toList as R)=rW P fn.results.toList as R:=by funext e;cases e<;>rfl
 have h':gu P ⟨fn.ntmps,jk 0 as,fz,hp⟩ code (fB P ⟨fn.ntmps,jk 0 as,fz,hp⟩ [] (rW P fn.results.toList as R)) (qy as):=h
 rwa [e]at h'
@[go_sem] def zJT{rs:List ResultVar}:rW P rs as R .ret pf=Ei as R (tS P pf rs):=(rfl)
@[go_sem] def zEp{rs:List ResultVar}:rW P rs as R .normal pf=Ei as R (tS P pf rs):=(rfl)
@[go_sem] def zGu{x:List PV}:Ei as R (J (x,pf))=R (Jo x) (lY pf 0 as):=(rfl)
@[go_sem] def zIm:tS P pf []=J ([],pf):=(rfl)
@[go_sem] def zE6{x:ResultVar}{xs:List ResultVar}:tS P pf (x::xs)=(B4 P pf x).bind λa=>(tS P a.2 xs).map λb=>(a.1::b.1,b.2):=(rfl)
@[go_sem] def zJA{t:Tmp}:B4 P pf (.tmp t)=if qX (pf t)=Z then ae else lh pf t (pf t):=(rfl)
@[go_sem] def zG1{t:Tmp}:B4 P pf (.cell t ty)=Gp pf t (pf t) (tk P ty):=(rfl)
@[go_sem] def zPA{t sz:Nat}:Gp pf t (.bl row) (J (Z,sz))=if sz=row.length then J (.agg row,(pf.bU t jP).kill t 0)else ae:=by cases row<;>rfl
@[go_sem] def zOn{t sz:Nat}{x:PV}:Gp pf t (.bl (x::row)) (J (aa,sz))=J (x,(pf.bU t jP).kill t 0):=(rfl)
@[go_sem] def zSL{x:PV}:qX (.v x)=aa:=(rfl)
@[go_sem] def zQc :qX (.rf s p)=aa:=(rfl)
@[go_sem] def zOq :qX (.rv s p lo hi)=aa:=(rfl)
@[go_sem] def zOB :qX (.ra s p i j n)=aa:=(rfl)
@[go_sem] def zOX :qX (.ls es rows)=Z:=(rfl)
@[go_sem] def zOE :qX (.pt s p i j)=aa:=(rfl)
@[go_sem] def zQE :qX (.bl row)=aa:=(rfl)
@[go_sem] def zO0{t:Tmp}:uY pf (.tmp t)=qX (pf t):=(rfl)
@[go_sem] def zJy{v:Value}:uY pf (.const v)=aa:=(rfl)
@[go_sem] def zMW :uY pf (.func g)=aa:=(rfl)
@[go_sem] def zMX:Jo []=.au:=(rfl)
@[go_sem] def zJ2{x:PV}:Jo [x]=x:=(rfl)
@[go_sem] def zKc{x:PV}{l:List PV}:Jo (x::y::l)=.bO (x::y::l):=(rfl)
@[go_sem] def zKo :lY pf n []=[]:=(rfl)
@[go_sem] def zQg{x:PV}:lY pf n ((.io,x)::l)=Mo (pf n)::lY pf (n+1) l:=(rfl)
@[go_sem] def zOv{x:PV}:lY pf n ((.sh,x)::l)=.au::lY pf (n+1) l:=(rfl)
@[go_sem] def zOi{x:PV}:lY pf n ((.mv,x)::l)=.au::lY pf (n+1) l:=(rfl)
@[go_sem] def zRy{x:PV}:Mo (.v x)=x:=(rfl)
@[go_sem] def zQP :jk n []=[]:=(rfl)
@[go_sem] def zS0{x:PV}:jk n ((.io,x)::l)=n::jk (n+1) l:=(rfl)
@[go_sem] def zRT{x:PV}:jk n ((.sh,x)::l)=jk (n+1) l:=(rfl)
@[go_sem] def zRV{x:PV}:jk n ((.mv,x)::l)=jk (n+1) l:=(rfl)
end
end Go.Pm
