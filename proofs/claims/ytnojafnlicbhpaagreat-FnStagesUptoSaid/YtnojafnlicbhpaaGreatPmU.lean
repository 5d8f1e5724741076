import Derived.Test.YtnojafnlicbhpaaGreatPmT
open Bool renaming false→aa,true→Z
open Option renaming none→ae,some→J
set_option linter.defProp false
namespace Go.Pm
open Go.Am
def Qn:=@eq_iff_iff
def V6:=@iff_false
section
variable {P:Program}{c co:aY}{k:List iO}{Q:Exit->ah->Prop}{pf:ah}
attribute [go_sem] Option.bind_some Option.bind_none Option.map_some Option.map_none Option.getD_some Option.getD_none
def JN:Option (PF×ah)->Option (PF×ah)->Option (PF×ah)
 |some a,_=>J a
 |none,y=>y
variable{R:PV->List PV->Prop}{a f x:Operand}{args:Array Operand}{as jH l:List (Md×PV)}{b ext:Bool}{d:Option Tmp}{e t ty:TypeId}{es hi i j len lo n q s u:Nat}{g:FuncId}{op:Op}{p:aC}{aR:ah}{pre:List (Option Tmp)}{row us xs ys z:List PV}{rows:List (List PV)}{ts:Array TypeId}{y:PV}
def zxd{a b c:Option (PF×ah)}(h:a=b):JN a c=JN b c:=by rw[h]
@[go_sem ↓] theorem zKN{a:PF×ah}{y:Option (PF×ah)}:JN (J a) y=J a:=rfl
@[go_sem ↓] theorem zK8{y:Option (PF×ah)}:JN ae y=y:=rfl
def KP:Option PF->ah->Option (PF×ah)->Option (PF×ah)
 |some y,pf,_=>J (y,pf)
 |none,_,x=>x
def zxi{a b:Option PF}{pf:ah}{x:Option (PF×ah)}(h:a=b):KP a pf x=KP b pf x:=by rw[h]
@[go_sem ↓] theorem zMJ{y:PF}{x:Option (PF×ah)}:KP (J y) pf x=J (y,pf):=rfl
@[go_sem ↓] theorem zLl{x:Option (PF×ah)}:KP ae pf x=x:=rfl
attribute [congr] zxd zxi
def UG(x:Option PF)(f:PF->Option (PF×ah))(z:Option (PF×ah)):Option (PF×ah):=
 match x with
 |some y=>f y
 |none=>z
@[go_sem] def zMn{y:PF}{f:PF->Option (PF×ah)}{z:Option (PF×ah)}:UG (J y) f z=f y:=(rfl)
@[go_sem] def zLH{f:PF->Option (PF×ah)}{z:Option (PF×ah)}:UG ae f z=z:=(rfl)
@[go_sem] def zVC{x:PV}:BV co d pf (.v x)=J (.v x,pf):=(rfl)
@[go_sem] def zRA :BV co d pf (.ra s p i j n)=J (.ra s p i j n,pf):=(rfl)
@[go_sem] def zSM :BV co d pf (.rf s p)=if Sw co d=Z then(cn pf s p).bind λx=>if dB x=Z then ae else(iC pf s p .ax).map λpf'=>(.v x,pf')else J (.rf s p,pf):=(rfl)
@[go_sem] def zVz{d:Nat}:Sw co (J d)=co.fz.contains (d+6*co.nt):=(rfl)
@[go_sem ↓] def zNc :pw1 P c co ty (.load t a) d k Q pf=qv P c co (UG ((tk P t).bind λtz=>(nh pf a).bind (Dn tz pf)) (BV co d pf) ((KC P t pf a).map λy=>(y,pf))) d k Q:=by
 show Fy P co t a d (pw P c k Q) pf=_;unfold Fy;cases (tk P t).bind λtz=>(nh pf a).bind (Dn tz pf)with
 |some y=>
  show Fp co (pw P c k Q) d y pf=qv P c co (BV co d pf y) d k Q;unfold Fp;cases BV co d pf y<;>rfl
 |none=>cases KC P t pf a<;>rfl
def Yc{x:Option AD}:Gn co (pw P c k Q) d pf x=qv P c co (x.map λad=>(uM ad,pf)) d k Q:=by cases x<;>rfl
@[go_sem ↓] def zJw{s:TypeId}{f:Nat}:pw1 P c co ty (.fieldAddr s x f) d k Q pf=qv P c co (((dA P s f).bind λo=>(nh pf x).bind (yy o.1)).map λad=>(uM ad,pf)) d k Q:=Yc
@[go_sem ↓] def zCN :pw1 P c co ty (.nilCheck x) d k Q pf=qv P c co ((nh pf x).map λad=>(uM ad,pf)) d k Q:=Yc
@[go_sem] def zUG{i:Operand}(h:ma P t=J es):AZ P t x i pf=(EF pf x).bind (Me es (cu pf i)):=by simp[AZ,h]
@[go_sem] def zUT{i:Operand}{z:Nat×Nat}(h:JA P t=J z)(h0:ma P t=ae):AZ P t x i pf=(nh pf x).bind (Ok z.1 z.2 (cu pf i)):=by simp[AZ,h,h0]
@[go_sem ↓] def zCc{i:Operand}:pw1 P c co ty (.indexAddr t x i) d k Q pf=qv P c co (JN ((AZ P t x i pf).map λad=>(uM ad,pf)) (Hw P t x i pf)) d k Q:=by
 show Hg P co t x i d (pw P c k Q) pf=_;unfold Hg;cases AZ P t x i pf with
 |some ad=>rfl
 |none=>cases Hw P t x i pf<;>rfl
@[go_sem] def zRv{i:Operand}:Hw P t (.tmp u) i pf=NT P t u pf (pf u) (cu pf i):=(rfl)
@[go_sem] def zLP{kk:IntKind}{q:Int}:NT P t u pf (.as aa s p i j n) (J (.int kk q))=if ma P t=J 1/\0<=q/\q<n then J (.as Z s p i (j+q.toNat) 1,pf.put u jP)else ae:=(rfl)
@[go_sem] def zSX :KC P t pf (.tmp u)=(tk P t).bind λtz=>if tz.1=aa then Mh (pf u)else ae:=(rfl)
@[go_sem] def zNt :Mh (.as Z s p i j n)=J (.rf s (p++[(i,j)])):=(rfl)
@[go_sem] def zSs{t:Nat}:rJ pf t (.as b s p i j n)=ae:=(rfl)
@[go_sem] def zRE{t:Nat}:uE pf t (.as b s p i j n)=ae:=(rfl)
@[go_sem] def zRf{c:aY}{d:Nat}(h:c.fz=[]):AR c d=aa:=by simp[AR,h]
@[go_sem] def zTP{c:aY}{d:Nat}:AR c d=c.fz.contains (d+2*c.nt):=(rfl)
@[go_sem] def zRt :Cf (.rf s p)=J (s,p):=(rfl)
@[go_sem] def zMy{o:Bool}:P1 (J (.sl o es rows))=Z:=(rfl)
@[go_sem] def zJ9 :xU pf s p i j q []=Z:=(rfl)
@[go_sem] def zI7{q':Nat}{t:Tmp}{r:List (Nat×Operand)}:xU pf s p i j q ((q',.tmp t)::r)=if q'=q/\Cf (pf t)=J (s,p++[(i,j+q)])/\P1 (cn pf s (p++[(i,j+q)]))=Z then xU pf s p i j (q+1) r else aa:=(rfl)
@[go_sem] def zHY{a:Nat×Nat}:oV [a]=J ([],a.1,a.2):=(rfl)
@[go_sem] def zE6{a b:Nat×Nat}{r:aC}:oV (a::b::r)=(oV (b::r)).map λx=>(a::x.1,x.2):=(rfl)
@[go_sem] def zS3{t:Tmp}{r:List (Nat×Operand)}:GW pf ((q,.tmp t)::r)=(Cf (pf t)).bind λx=>(oV x.2).map λy=>(x.1,y):=(rfl)
@[go_sem] def zOo{ps:List (Nat×Operand)}:LS P t len ps pf=(ez P t).bind λz=>(GW pf ps).bind λa=>if z.1=1/\len<=2^24/\ps.length=len/\xU pf a.1 a.2.1 a.2.2.1 a.2.2.2 0 ps=Z then J (.as aa a.1 a.2.1 a.2.2.1 a.2.2.2 len)else ae:=(rfl)
def KM(pf:ah)(cells:List PV):AD->Option ah
 | .pl s p i j=>mT pf s p i j cells
 |_=>ae
def SW(P:Program)(t:TypeId)(a x:Operand)(pf:ah):Option ah:=
 (tk P t).bind λtz=>(eB (cX P t) pf x).bind λy=>if F8 tz.2 y.1=Z then(nh y.2 a).bind (KM y.2 (cR y.1))else ae
@[go_sem] def zSE :SW P t a x pf=(tk P t).bind λtz=>(eB (cX P t) pf x).bind λy=>if F8 tz.2 y.1=Z then(nh y.2 a).bind (KM y.2 (cR y.1))else ae:=(rfl)
@[go_sem ↓] def zJs :pw1 P c co ty (.store t a x) ae k Q pf=qf P c (SW P t a x pf) k Q:=by
 show FU P co t a x ae (pw P c k Q) pf=_;unfold FU SW;cases tk P t with
 |none=>rfl
 |some tz=>
  cases eB (cX P t) pf x with
  |none=>rfl
  |some y=>
   obtain⟨y,aR⟩:=y;obtain⟨b,sz⟩:=tz;simp only[aS];by_cases h:F8 sz y=Z
   ·rw[aD h];cases ha:nh aR a with
    |none=>simp[Hc,qf]
    |some ad=>cases ad with
     |pl s p i j=>cases hp:mT aR s p i j (cR y)<;>simp[Hc,qf,h,KM,hp]
     |fz row=>simp[Hc,qf,KM]
   ·rw[aB h];simp[qf,h]
def Hp(P:Program)(co:aY)(e:TypeId)(d:Nat)(pf:ah):Option ah:=
 (zr P e).bind λz=>if ic co d .skip=Z then J (if co.hp.contains d=Z then pf.put d (.v (.bx z))else pf.put d (.bl z))else ae
@[go_sem] def zVN{d:Nat}(h:zr P e=J z)(h1:ic co d .skip=Z)(h2:co.hp.contains d=Z):Hp P co e d pf=J (pf.put d (.v (.bx z))):=by unfold Hp;rw[h,aS,aD h1,aD h2]
@[go_sem] def zUh{d:Nat}(h:zr P e=J z)(h1:ic co d .skip=Z)(h2:co.hp.contains d=aa):Hp P co e d pf=J (pf.put d (.bl z)):=by unfold Hp;rw[h,aS,aD h1,aB (by rw[h2];simp)]
@[go_sem ↓] def zIR{d:Tmp}:pw1 P c co ty (.alloc e) (J d) k Q pf=qf P c (Hp P co e d pf) k Q:=by
 show Fr P co e (J d) (pw P c k Q) pf=_;unfold Fr Hp;cases zr P e with
 |none=>rfl
 |some z=>
  simp only[aS];by_cases h:ic co d .skip=Z
  ·rw[aD h];by_cases h2:co.hp.contains d=Z
   ·simp only[h,h2,qf,e9,pM]
   ·simp only[h,h2,qf,pM];simp
  ·rw[aB h];simp[qf,h]
def Tr(P:Program)(co:aY)(e:TypeId)(x:Operand)(d:Nat)(pf:ah):Option ah:=
 (tk P e).bind λ_=>(eB (cX P e) pf x).bind λy=>if(!wA pf x&&kg y.1&&ic co d .skip)=Z then J (if co.hp.contains d=Z then(if co.fz.contains d=Z then(y.2.put d (.v (.bx (cR y.1)))).put d (.v (drop (.bx (cR y.1))))else y.2.put d (.v (.bx (cR y.1))))else y.2.put d (.bl (cR y.1)))else ae
@[go_sem] def zRX{d:Nat}:Tr P co e x d pf=(tk P e).bind λ_=>(eB (cX P e) pf x).bind λy=>if(!wA pf x&&kg y.1&&ic co d .skip)=Z then J (if co.hp.contains d=Z then(if co.fz.contains d=Z then(y.2.put d (.v (.bx (cR y.1)))).put d (.v (drop (.bx (cR y.1))))else y.2.put d (.v (.bx (cR y.1))))else y.2.put d (.bl (cR y.1)))else ae:=(rfl)
@[go_sem ↓] def zO9{d:Tmp}:pw1 P c co ty (.box e x) (J d) k Q pf=qf P c (Tr P co e x d pf) k Q:=by
 show F3 P co e x (J d) (pw P c k Q) pf=_;unfold F3 Tr;cases tk P e with
 |none=>rfl
 |some z=>
  cases eB (cX P e) pf x with
  |none=>rfl
  |some y=>
   obtain⟨y,aR⟩:=y;simp only[aS];by_cases h:(!wA pf x&&kg y&&ic co d .skip)=Z
   ·rw[aD h];simp only[bK,qK]at h;by_cases h2:co.hp.contains d=Z
    ·by_cases h4:co.fz.contains d=Z
     ·simp only[h.1.1,h.1.2,h.2,h2,h4,qf,e9,pM]
     ·simp only[h.1.1,h.1.2,h.2,h2,h4,qf,e9,pM];simp
    ·simp only[h.1.1,h.1.2,h.2,h2,qf,pM];simp
   ·rw[aB h];simp only[qf,Qn,V6];rintro⟨h1,h2,h3,_⟩;exact h (by rw[h1,h2,h3];rfl)
def Ut(P:Program)(co:aY)(t:TypeId)(len:Nat)(ps:List (Nat×Operand))(d:Nat)(pf:ah):Option ah:=
 (ez P t).bind λz=>(pS pf (ps.map λp=>(ec P t p.1,p.2))).bind λy=>if len*z.1<=2^24/\ic co d .skip=Z then(sg z.1 ((ps.map (·.1)).zip (vo co d y.1)) (List.replicate len z.2.2)).map λrows=>y.2.put d (.ls z.1 rows)else ae
@[go_sem] def zOJ{d:Nat}(h:co.fz=[]):vo co d xs=xs:=by simp[vo,h]
@[go_sem] def zTt{d:Nat}:vo co d xs=if co.fz.contains (d+3*co.nt)=Z then xs.map drop else xs:=(rfl)
@[go_sem] def zOB{ps:List (Nat×Operand)}{d:Nat}:Ut P co t len ps d pf=(ez P t).bind λz=>(pS pf (ps.map λp=>(ec P t p.1,p.2))).bind λy=>if len*z.1<=2^24/\ic co d .skip=Z then(sg z.1 ((ps.map (·.1)).zip (vo co d y.1)) (List.replicate len z.2.2)).map λrows=>y.2.put d (.ls z.1 rows)else ae:=(rfl)
@[go_sem ↓] def zBn{ps:Array (Nat×Operand)}{d:Tmp}:pw1 P c co ty (.buildSlice t len ps) (J d) k Q pf=if AR co d=Z then qv P c co ((LS P t len ps.toList pf).map λy=>(y,pf)) (J d) k Q else qf P c (Ut P co t len ps.toList d pf) k Q:=by
 show Hb P co t len ps.toList (J d) (pw P c k Q) pf=_;unfold Hb Ut;by_cases hm:AR co d=Z
 ·rw[aD hm,aD (show RD co (J d)=Z from hm)];unfold Jj;cases LS P t len ps.toList pf<;>rfl
 rw[aB hm,aB (show¬RD co (J d)=Z from hm)];cases ez P t with
 |none=>rfl
 |some z=>
  cases pS pf (ps.toList.map λp=>(ec P t p.1,p.2))with
  |none=>rfl
  |some y=>
   obtain⟨xs,aR⟩:=y;simp only[aS];by_cases h:len*z.1<=2^24/\ic co d .skip=Z
   ·rw[aD h];cases sg z.1 ((ps.toList.map (·.1)).zip (vo co d xs)) (List.replicate len z.2.2)<;>simp only[Px,qf,h.1,h.2,pM,and_false,Option.map_none,mA]
   ·rw[aB h];simp only[qf,Qn,V6];rintro⟨h1,h2⟩;cases hf:sg z.1 ((ps.toList.map (·.1)).zip (vo co d xs)) (List.replicate len z.2.2)with
    |none=>rw[hf]at h2;exact h2
    |some r=>rw[hf]at h2;exact h ⟨h1,h2.1⟩
@[go_sem ↓] def zID{ps:Array (Nat×Operand)}:pw1 P c co ty (.build t ps) d k Q pf=
 qv P c co ((nE P t).bind λb=>(pS pf (ps.toList.map λp=>(ec P t p.1,p.2))).bind λy=>(v8 b.1 ((ps.toList.map (·.1)).zip y.1) b.2).map λrow=>(.v (.agg row),y.2)) d k Q:=by
 show Gr P co t ps.toList d (pw P c k Q) pf=_;unfold Gr;cases nE P t with
 |none=>rfl
 |some b=>
  cases pS pf (ps.toList.map λp=>(ec P t p.1,p.2))with
  |none=>rfl
  |some y=>
   simp only[aS];cases v8 b.1 ((ps.toList.map (·.1)).zip y.1) b.2<;>rfl
def D4(b x y:Option Value):Option PV:=
 match b with
 |some (.bool Z)=>x.bind l4
 |some (.bool aa)=>y.bind l4
 |_=>ae
@[go_sem ↓] def zNF{b y:Operand}:pw1 P c co ty (.pick b x y) d k Q pf=qv P c co ((D4 (cu pf b) (cu pf x) (cu pf y)).map λz=>(.v z,pf)) d k Q:=by
 show EH co b x y d (pw P c k Q) pf=_;unfold EH PA D4;cases cu pf b with
 |none=>rfl
 |some v=>
  cases v with
  |bool b=>
   cases b
   ·simp only[];cases (cu pf y).bind l4<;>rfl
   ·simp only[];cases (cu pf x).bind l4<;>rfl
  |_=>rfl
@[go_sem] def zTF{x y:Option Value}:D4 (J (.bool Z)) x y=x.bind l4:=(rfl)
@[go_sem] def zVk{x y:Option Value}:D4 (J (.bool aa)) x y=y.bind l4:=(rfl)
@[go_sem] def zP8{j:IntKind}{m n:Int}:D4 (J (.bool b)) (J (.int j m)) (J (.int j n))=J (.int j (if b=Z then m else n)):=by cases b<;>rfl
@[go_sem] def zJP{m n:Bool}:D4 (J (.bool b)) (J (.bool m)) (J (.bool n))=J (.bool (if b=Z then m else n)):=by cases b<;>rfl
@[go_sem] def zOu{m n:ByteArray}:D4 (J (.bool b)) (J (.string m)) (J (.string n))=J (.str (if b=Z then m else n)):=by cases b<;>rfl
def Q7(b:Bool)(z:Nat×Nat×List PV)(pf:ah):Option Value->Option Value->Option (PF×ah)
 |some (.int .i64 n),J (.int .i64 m)=>if 0<=n/\n<=m/\z.2.1*m<=140737488355328/\m<=4611686018427387904 then J (.v (.sl Z z.1 (List.replicate n.toNat (uz b z.2.2))),pf)else ae
 |_,_=>ae
@[go_sem] def zOF{z:Nat×Nat×List PV}{n m:Int}:Q7 b z pf (J (.int .i64 n)) (J (.int .i64 m))=if 0<=n/\n<=m/\z.2.1*m<=140737488355328/\m<=4611686018427387904 then J (.v (.sl Z z.1 (List.replicate n.toNat (uz b z.2.2))),pf)else ae:=(rfl)
@[go_sem] def zMU{d:Nat}:r9 co (J d)=co.fz.contains (d+co.nt):=(rfl)
@[go_sem] def zM3:r9 co ae=aa:=(rfl)
@[go_sem] def zKg :uz aa z=z:=(rfl)
@[go_sem] def zQS :uz Z z=z.map ud:=(rfl)
@[go_sem] def zVB{o:Bool}{e:Nat}:ud (.sl o e [])=.sl Z e []:=(rfl)
@[go_sem] def zSu{j:IntKind}{n:Int}:ud (.int j n)=.int j n:=(rfl)
@[go_sem] def zOz :ud (.bool b)=.bool b:=(rfl)
@[go_sem] def zRH{b:ByteArray}:ud (.str b)=.str b:=(rfl)
@[go_sem ↓] def zCh{l cc:Operand}:pw1 P c co ty (.makeSlice t l cc) d k Q pf=qv P c co ((ez P t).bind λz=>Q7 (r9 co d) z pf (cu pf l) (cu pf cc)) d k Q:=by
 show G9 P co t l cc d (pw P c k Q) pf=_;unfold G9;cases ez P t with
 |none=>rfl
 |some z=>
  simp only[aS];generalize cu pf l=x1;generalize cu pf cc=x2;unfold OM Q7;split
  ·rename_i n m;simp only[];by_cases h:0<=n/\n<=m/\z.2.1*m<=140737488355328/\m<=4611686018427387904
   ·rw[aD h];simp only[h,pM];rfl
   ·rw[aB h];simp only[qv,Qn,V6];rintro⟨a1,_⟩;exact h a1
  ·rename_i h1;split
   ·rename_i e1;exact absurd rfl (h1 _ _ rfl)
   ·rfl
def zvg{u:TypeId}{op:BinOp}{y:Operand}{d:Tmp}{q:Bool}(hy:vk y=Z)(hp:co.hp.isEmpty=aa)(he:(cW P t).isSome=Z)(hq:K9 op=J q)(hx:UJ pf x=J rows)
(hk:∀b,(rows≠[]->b= !q)->qv P c co (J (.v (.bool b),pf)) (J d) k Q):pw1 P c co ty (.binOp op t x y u) (J d) k Q pf:=by
 show oe P co ⟨J d,.binOp op t x y u,ty, "",#[],ae⟩ (pw P c k Q) pf;simp only[oe,hy,e9];refine⟨(by intro e;rw[e]at hp;cases hp),?_⟩;cases x with
 |tmp s=>
  unfold Dq;simp only[hq,hx];exact⟨he,λb hb=>hk b hb⟩
 |_=>simp[UJ]at hx
@[go_sem ↓] def zDx{fn:Fn}{xs ys:Array Operand}:pw1 P c co ty (.makeFunc fn xs ys) d k Q pf=
 qv P c co (if Qx co d=Z then(IX pf fn xs.toList ys.toList).bind (KG co pf)else(sy (!co.hp.isEmpty) pf (xs.toList++ys.toList)).map λvs=>(.v (.func fn (vs.1.take xs.toList.length) (vs.1.drop xs.toList.length)),vs.2)) d k Q:=by
 show GE co fn xs.toList ys.toList d (pw P c k Q) pf=_;unfold GE;split
 ·cases (IX pf fn xs.toList ys.toList).bind (KG co pf)<;>rfl
 cases sy (!co.hp.isEmpty) pf (xs.toList++ys.toList)<;>rfl
def sL(co:aY)(d:Option Tmp)(t:Nat)(pf:ah):PF->Option (PF×ah)
 | .v x=>if dB x=Z then ae else J (if bN x=Z then .rf t []else .v x,pf)
 | .ls es rows=>if t<co.nt then J (.rf t [],(pf.bY t (.v (.sl Z es rows))).kill t 0)else ae
 | .bl _=>J (.pt t [] 0 0,pf)
 | .skip=>ae
 | .as .. =>ae
 | .pt s p i j=>if Bz co d=Z then Ea pf t s p i j (pf s)else J (.pt s p i j,pf)
 |y=>J (y,pf)
@[go_sem] def zVp{co:aY}{t:Nat}{x:PV}(h:dB x=aa):sL co d t pf (.v x)=J (if bN x=Z then .rf t []else .v x,pf):=by simp[sL,h]
@[go_sem] def zRy{co:aY}{t:Nat}(h:t<co.nt):sL co d t pf (.ls es rows)=J (.rf t [],(pf.bY t (.v (.sl Z es rows))).kill t 0):=by simp[sL,h]
@[go_sem] def zTc{co:aY}{t:Nat}:sL co d t pf (.bl row)=J (.pt t [] 0 0,pf):=(rfl)
@[go_sem] def zTp{co:aY}{t:Nat}:sL co d t pf (.pt s p i j)=if Bz co d=Z then Ea pf t s p i j (pf s)else J (.pt s p i j,pf):=(rfl)
@[go_sem] def zTy{co:aY}{d:Nat}:Bz co (J d)=(!co.hp.isEmpty&&co.fz.contains (d+5*co.nt)):=(rfl)
@[go_sem] def zSl{t:Nat}:Ea pf t s [] 0 0 (.bl row)=J (.rf s [],((pf.bY s (.v (.bx row))).kill s 0).put t (.rf s [])):=(rfl)
@[go_sem] def zRF{co:aY}{t:Nat}:sL co d t pf (.rf s p)=J (.rf s p,pf):=(rfl)
@[go_sem] def zSC{co:aY}{t:Nat}:sL co d t pf (.rv s p lo hi)=J (.rv s p lo hi,pf):=(rfl)
@[go_sem] def zS2{co:aY}{t:Nat}:sL co d t pf (.ra s p i j n)=J (.ra s p i j n,pf):=(rfl)
@[go_sem] def zSL{co:aY}{t:Nat}:sL co d t pf (.cl s g us)=J (.cl s g us,pf):=(rfl)
@[go_sem] def zVi{co:aY}{d:Nat}:Qx co (J d)=co.fz.contains (d+4*co.nt):=(rfl)
@[go_sem] def zUf{ys:List Operand}:IX pf (.func g) [] (.tmp s::ys)=match pf s with| .v (.bx _)=>J (g,s,ys)|_=>ae:=(rfl)
@[go_sem] def zUd{ys:List Operand}{co:aY}:KG co pf (g,s,ys)=(sy (!co.hp.isEmpty) pf ys).map λy=>(.cl s g y.1,y.2):=(rfl)
@[go_sem] def zVa{t:Tmp}:uZ pf (.tmp t)=MR (pf t):=(rfl)
@[go_sem] def zSi :MR (.cl s g us)=J (s,g,us):=(rfl)
@[go_sem ↓] def zGR{t:Tmp}:pw1 P c co ty (.move (.tmp t)) d k Q pf=qv P c co (sL co d t pf (pf t)) d k Q:=by
 show tS co t d (pw P c k Q) pf (pf t)=_;unfold tS sL;cases pf t with
 |v x=>
  cases hj:dB x
  ·cases ho:bN x<;>simp[hj,ho,qv]
  ·simp[hj,qv]
 |ls es rows=>
  by_cases h:t<co.nt
  ·simp[h,qv]
  ·simp[h,qv]
 |pt s p i j=>
  cases hl:Bz co d
  ·simp[qv]
  ·simp only[e9];cases Ea pf t s p i j (pf s)<;>rfl
 |_=>rfl
def Mw(x:Option (PV×ah)):Option (PF×ah):=x.map λy=>(.v y.1,y.2)
@[go_sem] def zKG :Mw (J (y,pf))=J (.v y,pf):=(rfl)
@[go_sem ↓] def zF9{k0:Value}:pw1 P c co ty (.move (.const k0)) d k Q pf=qv P c co (Mw (eB (cX P ty) pf (.const k0))) d k Q:=by
 show tu (cX P ty) co (.const k0) d (pw P c k Q) pf=_;unfold tu;simp only[];cases eB (cX P ty) pf (.const k0)<;>rfl
@[go_sem ↓] def zIf :pw1 P c co ty (.move (.func g)) d k Q pf=qv P c co (Mw (eB (cX P ty) pf (.func g))) d k Q:=by
 show tu (cX P ty) co (.func g) d (pw P c k Q) pf=_;unfold tu;simp only[];cases eB (cX P ty) pf (.func g)<;>rfl
@[go_sem ↓] def zF7 :pw1 P c co ty (.assign x) d k Q pf=qv P c co (KP (CJ co pf d x) pf (Mw (eB (cX P ty) pf x))) d k Q:=by
 show Gj (cX P ty) co x d (pw P c k Q) pf=_;unfold Gj;cases CJ co pf d x with
 |some y=>rfl
 |none=>cases eB (cX P ty) pf x<;>rfl
@[go_sem] def zRL{d:Nat}{t:Tmp}:CJ co pf (J d) (.tmp t)=if AR co d=Z then EM t (pf t)else ae:=(rfl)
@[go_sem] def zPo{t:Nat}:EM t (.rf s p)=J (.rf s p):=(rfl)
@[go_sem] def zPl{t:Nat}:EM t (.bl row)=J (.pt t [] 0 0):=(rfl)
@[go_sem] def zQr{t:Nat}:EM t (.cl s g us)=J (.cl s g us):=(rfl)
@[go_sem] def zTm{x:Value}:CJ co pf d (.const x)=ae:=by cases d<;>rfl
@[go_sem] def zR9{x:FuncId}:CJ co pf d (.func x)=ae:=by cases d<;>rfl
def J1(pf:ah)(s:Nat)(xs:List PV)(i:Nat):Option PV->Option (PF×ah)
 |some y=>if dB y=Z then ae else J (.v y,if bN y=Z then(pf.bY s (.v (.bS (xs.set i .ax)))).kill s 1 else pf)
 |none=>ae
@[go_sem] def zM6(h:dB y=aa):J1 pf s xs i (J y)=J (.v y,if bN y=Z then(pf.bY s (.v (.bS (xs.set i .ax)))).kill s 1 else pf):=by simp[J1,h]
@[go_sem] theorem zPE{t:Tmp}:Cj pf (.tmp t)=match pf t with
 | .rf s []=>D1 s (pf s)
 |y=>D1 t y:=rfl
@[go_sem] def zVP :D1 s (.v (.bS xs))=J (s,xs):=(rfl)
@[go_sem ↓] def zD3 :pw1 P c co ty (.extract x i) d k Q pf=qv P c co ((Cj pf x).bind λa=>if a.1<co.nt then J1 pf a.1 a.2 i a.2[i]? else ae) d k Q:=by
 show G1 co x i d (pw P c k Q) pf=_;unfold G1;cases Cj pf x with
 |none=>rfl
 |some a=>
  obtain⟨s,xs⟩:=a;simp only[aS];by_cases h:s<co.nt
  ·rw[aD h];simp only[h,pM];cases xs[i]? with
   |none=>rfl
   |some y=>
    cases hj:dB y
    ·cases ho:bN y<;>simp[JV,J1,hj,ho,qv]
    ·simp[JV,J1,hj,qv]
  ·rw[aB h];simp[h,qv]
def M6(es t:Nat)(pf:ah)(l h m:Option (Option Nat)):Option (PF×ah):=
 match l,h,m with
 |some l,J h,J ae=>(nM es (l.getD 0) h pf t (pf t)).map λy=>(y,pf)
 |some l,J (J h),J (J m)=>((dW pf (pf t)).bind iX).bind λrows=>(nM es (l.getD 0) (J h) pf t (pf t)).bind λ_=>if l.getD 0=h/\h=m/\m<=rows.length then J (.v (.sl Z es []),pf)else ae
 |_,_,_=>ae
@[go_sem] def zEC{t:Nat}{l h:Option Nat}:M6 es t pf (J l) (J h) (J ae)=(nM es (l.getD 0) h pf t (pf t)).map λy=>(y,pf):=by cases h<;>rfl
@[go_sem] def zIj{t:Nat}{l:Option Nat}{h m:Nat}:M6 es t pf (J l) (J (J h)) (J (J m))=((dW pf (pf t)).bind iX).bind λrows=>(nM es (l.getD 0) (J h) pf t (pf t)).bind λ_=>if l.getD 0=h/\h=m/\m<=rows.length then J (.v (.sl Z es []),pf)else ae:=(rfl)
def zBo{t:Nat}{l h m:Option (Option Nat)}:Gl co es t d (pw P c k Q) pf l h m=qv P c co (M6 es t pf l h m) d k Q:=by
 cases l with
 |none=>rfl
 |some l=>
  cases h with
  |none=>rfl
  |some h=>
   cases m with
   |none=>rfl
   |some m=>
    cases m with
    |none=>
     rw[zEC];cases h<;>simp only[Gl]<;>cases nM es (l.getD 0) _ pf t (pf t)<;>rfl
    |some m=>
     cases h with
     |none=>rfl
     |some h=>
      rw[zIj];simp only[Gl];cases (dW pf (pf t)).bind iX with
      |none=>rfl
      |some rows=>
       simp only[aS];cases nM es (l.getD 0) (J h) pf t (pf t)with
       |none=>simp[qv]
       |some y=>
        by_cases hh:l.getD 0=h/\h=m/\m<=rows.length
        ·simp[hh,qv]
        ·simp[hh,qv]
@[go_sem ↓] def zIE{x:Tmp}{l h m:Option Operand}(hs:eC P t=aa):pw1 P c co ty (.slice t (.tmp x) l h m) d k Q pf=qv P c co ((ma P t).bind λes=>M6 es x pf (pK pf l) (pK pf h) (pK pf m)) d k Q:=by
 show(if eC P t=Z then lU P co ⟨d,.slice t (.tmp x) l h m,ty, "",#[],ae⟩ (pw P c k Q) pf else G8 P co t (.tmp x) l h m d (pw P c k Q) pf)=_;rw[aB (by simp[hs])];unfold G8;cases ma P t with
 |none=>rfl
 |some es=>exact zBo
def ur(P:Program)(c co:aY)(x:Option (List (List PV)))(d:Option Tmp)(k:List iO)(Q:Exit->ah->Prop)(pf:ah):Prop:=
 match x with
 |some rows=>rows.length<=kK->qv P c co (J (.v (.int .i64 rows.length),pf)) d k Q
 |none=>False
def zxa{x x':Option (List (List PV))}{d:Option Tmp}(h:x=x'):ur P c co x d k Q pf=ur P c co x' d k Q pf:=by rw[h]
attribute [congr] zxa
def BH(P:Program)(c co:aY)(t:TypeId)(d:Option Tmp)(k:List iO)(Q:Exit->ah->Prop)(pf:ah)(x:Nat):PF->Prop
 | .ls es rows=>ur P c co ((cW P t).bind λ_=>J rows) d k Q ((pf.bY x (.v (.sl Z es rows))).kill x 0)
 |y=>ur P c co ((cW P t).bind λ_=>(dW pf y).bind iX) d k Q pf
def zx4{t:TypeId}{d:Option Tmp}{x:Nat}{y y':PF}(h:y=y'):BH P c co t d k Q pf x y=BH P c co t d k Q pf x y':=by rw[h]
attribute [congr] zx4
@[go_sem ↓] theorem zSp{x:Nat}:BH P c co t d k Q pf x (.ls es rows)=ur P c co ((cW P t).bind λ_=>J rows) d k Q ((pf.bY x (.v (.sl Z es rows))).kill x 0):=rfl
@[go_sem ↓] theorem zUm{x:Nat}:BH P c co t d k Q pf x (.v y)=ur P c co ((cW P t).bind λ_=>iX y) d k Q pf:=rfl
@[go_sem ↓] theorem zTg{x:Nat}:BH P c co t d k Q pf x (.rf s p)=ur P c co ((cW P t).bind λ_=>(dW pf (.rf s p)).bind iX) d k Q pf:=rfl
@[go_sem ↓] theorem zRJ{x:Nat}:BH P c co t d k Q pf x (.rv s p lo hi)=ur P c co ((cW P t).bind λ_=>(dW pf (.rv s p lo hi)).bind iX) d k Q pf:=rfl
@[go_sem ↓] def zQJ{x:Tmp}(hs:eC P t=aa):pw1 P c co ty (.call ⟨.builtin .len,#[.tmp x],#[t]⟩) d k Q pf=BH P c co t d k Q pf x (pf x):=by
 show(if eC P t=Z then lU P co ⟨d,.call ⟨.builtin .len,#[.tmp x],#[t]⟩,ty, "",#[],ae⟩ (pw P c k Q) pf else Cm P co t (.tmp x) d (pw P c k Q) pf)=_;rw[aB (by simp[hs])];unfold Cm BH;cases aF:pf x with
 |ls es rows=>
  have:((pf.bY x (.v (.sl Z es rows))).kill x 0) x=.v (.sl Z es rows):=by simp[ah.kill,ah.bY,dr,bE]
  simp only[A7,aF,this,dW,iX,aS,ur,qv];cases cW P t<;>rfl
 |_=>
  simp only[A7,aF,ur,qv];generalize (cW P t).bind (λ_=>(dW pf _).bind iX)=o;cases o<;>rfl
@[go_sem] def zP5{s:ByteArray}(hs:eC P t=Z):eY P (.call ⟨.builtin .len,#[x],#[t]⟩) [.string s]=J (.int .i64 s.size):=by simp[eY,Am.iX,hs]
@[go_sem ↓] def zMs(hs:eC P t=Z):pw1 P c co ty (.call ⟨.builtin .len,#[x],#[t]⟩) d k Q pf=qv P c co (CD (λv=>eY P (.call ⟨.builtin .len,#[x],#[t]⟩) [v]) (cu pf x) pf) d k Q:=by
 show(if eC P t=Z then lU P co ⟨d,.call ⟨.builtin .len,#[x],#[t]⟩,ty, "",#[],ae⟩ (pw P c k Q) pf else Cm P co t x d (pw P c k Q) pf)=_;rw[aD hs];refine CL (o:=⟨d,.call ⟨.builtin .len,#[x],#[t]⟩,ty, "",#[],ae⟩) ?_;simp only[gG,pR,aS];cases cu pf x<;>simp[CD]
def VE(P:Program)(t:TypeId)(s x:Operand)(pf:ah):Option (PF×ah):=
 (ez P t).bind λz=>(eB z.1 pf s).bind λb=>(Be z.1 b.1).bind λrows=>(qn z.1 b.2 x).bind λr=>
   if og r.1=Z/\(rows.length+r.1.length)*z.2.1<=140737488355328/\rows.length+r.1.length<=4611686018427387904 then J (.v (.sl Z z.1 (rows++r.1)),r.2)else ae
@[go_sem] theorem zSa{s:Operand}:VE P t s x pf=(ez P t).bind λz=>(eB z.1 pf s).bind λb=>(Be z.1 b.1).bind λrows=>(qn z.1 b.2 x).bind λr=>
 if og r.1=Z/\(rows.length+r.1.length)*z.2.1<=140737488355328/\rows.length+r.1.length<=4611686018427387904 then J (.v (.sl Z z.1 (rows++r.1)),r.2)else ae:=rfl
@[go_sem ↓] def zGu{s:Operand}:pw1 P c co ty (.call ⟨.builtin .append,#[s,x],#[t,t]⟩) d k Q pf=qv P c co (VE P t s x pf) d k Q:=by
 show(if t=t then GF P co t s x d (pw P c k Q) pf else K7 P co t t s x d (pw P c k Q) pf)=_;rw[aD rfl];unfold GF VE;cases ez P t with
 |none=>rfl
 |some z=>
  simp only[aS];cases eB z.1 pf s with
  |none=>rfl
  |some b=>
   obtain⟨b,aR⟩:=b;simp only[aS,NJ];cases Be z.1 b with
   |none=>rfl
   |some rows=>
    simp only[aS];cases qn z.1 aR x with
    |none=>rfl
    |some r=>
     obtain⟨rows2,b7⟩:=r;simp only[aS,N2];by_cases h:og rows2=Z/\(rows.length+rows2.length)*z.2.1<=140737488355328/\rows.length+rows2.length<=4611686018427387904
     ·rw[aD h];simp only[h.1,h.2.1,h.2.2,pM,qv]
     ·rw[aB h];simp only[qv,Qn,V6];rintro⟨a1,a2,_⟩;exact h ⟨a1,a2⟩
def Tj{n:Int}{z:Nat×Nat×List PV}(h:Ng P g t)(hz:ez P t=J z)(hn:cu pf x=J (.int .i64 n))(hb:0<=n/\z.2.1*n<=140737488355328/\n<=4611686018427387904)
(hk:qv P c co (J (.v (.sl Z z.1 []),pf)) d k Q):pw1 P c co ty (.call ⟨.value (.func g),#[.const (.slice ae 0 0),x],ts⟩) d k Q pf:=.inr (.inl ⟨g,x,t,n,z,rfl,rfl,h,hn,hz,hb,hk⟩)
def zBN(ms:List Md){l:List (Md×Nat×Operand)}
(hm:ms.length=args.toList.length)(hl:ms.zip (iQ P args.toList ts.toList)=l)(ha:pd pf l=J (ys,aR))(hf:pU aR f=J (g,xs,us))(hc:eT aR l ys=J as)
(has:xs.map (λx=>(Md.sh,x))++as++us.map (λx=>(Md.sh,x))=jH)(h:au P g jH R)
(hk:∀r outs,R r outs->(l.any (rX aR)=aa\/(cV r&&outs.all cV)=Z)/\qv P c co ((back co.nt aR l (outs.drop xs.length)).map λp=>(.v r,p)) d k Q):pw1 P c co ty (.call ⟨.value f,args,ts⟩) d k Q pf:=by
 refine .inl ⟨ms,hm,?_⟩;rw[hl,ha];show Aj P co d (pw P c k Q) aR l (pU aR f) (eT aR l ys);rw[hf,hc];show au P g _ _;rw[has];refine h.mono λr outs hr=>?_
 obtain⟨h1,h2⟩:=hk r outs hr;refine⟨h1,?_⟩;cases hb:back co.nt aR l (outs.drop xs.length)with
 |none=>rw[hb]at h2;exact h2
 |some p=>rw[hb]at h2;exact h2
def zzg(ms:List Md){l:List (Md×Nat×Operand)}
(hm:ms.length=args.toList.length)(hf:uZ pf f=J (s,g,us))(hl:ms.zip (iQ P args.toList ts.toList)++[(.io,0,.tmp s)]=l)(ha:pd pf l=J (ys,aR))(Tp:uZ aR f=J (s,g,us))(hc:eT aR l ys=J as)
(has:as++us.map (λx=>(Md.sh,x))=jH)(h:au P g jH R)
(hk:∀r outs,R r outs->(l.any (rX aR)=aa\/(cV r&&outs.all cV)=Z)/\qv P c co ((back co.nt aR l outs).map λp=>(.v r,p)) d k Q):pw1 P c co ty (.call ⟨.value f,args,ts⟩) d k Q pf:=by
 refine .inr (.inr ⟨ms,(s,g,us),hf,hm,?_⟩);rw[hl,ha];refine⟨Tp,?_⟩;rw[hc];show au P g _ _;simp only[qI,na];rw[has];refine h.mono λr outs hr=>?_
 obtain⟨h1,h2⟩:=hk r outs hr;refine⟨h1,?_⟩;show Lr co d _ r (back co.nt aR l outs);cases hb:back co.nt aR l outs with
 |none=>rw[hb]at h2;exact h2
 |some p=>rw[hb]at h2;exact h2
def zBu{id:Nat}{ops:Array Oper}(D:List DE){L:List (DE×Oper)}(h1:P.follows .mixedOrders=Z)(h2:H9 D ops.toList=Z)(hL:D.map (λx=>(x,ops.toList.getD x.i default))=L)
(h:pw P c (.iF (ops.toList.map (·.dst)) L::k) Q pf):pw P c (.code (.region id ops Z)::k) Q pf:=by
 subst hL;exact⟨h1,0,D,h2,h⟩
def XA(D:List DE)(ops:List Oper):List (Nat×Nat)->List (Nat×Nat)->Bool
 |[],xs=>H9 D ops xs
 |p::ps,xs=>XA D ops ps ((p.1,p.2)::xs)&&XA D ops ps ((p.2,p.1)::xs)
@[go_sem ↓] theorem zEj :pw P c (.iF pre []::k) Q pf=pw P c k Q pf:=rfl
def iE:Op->Bool
 | .call ⟨.value _,_,_⟩=>Z
 |_=>aa
def rk(P:Program)(c:aY)(ext:Bool)(ty:TypeId)(op:Op)(d:Option Tmp)(k:List iO)(Q:Exit->ah->Prop)(pf:ah):Prop:=sQ P c ext ⟨d,op,ty, "",#[],ae⟩ (pw P c k Q) pf
def zuQ{o o':Oper}{K:ah->Prop}(h:o.op=o'.op)(hd:o.dst=o'.dst)(ht:o.type=o'.type):sQ P c ext o K pf=sQ P c ext o' K pf:=by
 obtain⟨d,op,ty,ps,af,g⟩:=o;obtain⟨d',op',Mr,ps',af',g'⟩:=o';simp only at h hd ht;subst h;subst hd;subst ht;rfl
@[go_sem ↓] def zR5{e:DE}{ps:String}{af:Array Edge}{l:List (DE×Oper)}(h:(yT pf e.rg e.ls e.sl&&DR pf e.mr)=Z):
 pw P c (.iF pre ((e,⟨d,op,ty,ps,af,ae⟩)::l)::k) Q pf=rk P c e.ex ty op d (.iF pre l::k) Q pf:=by
 show Hr P c pre e ⟨d,op,ty,ps,af,ae⟩ (pw P c (.iF pre l::k) Q) pf=_;simp only[Hr,h,pM,Ip];exact zuQ rfl rfl rfl
def jR(P:Program)(c:aY)(y:Option (Option Bool))(b:Bool)(ext:Bool)(ty:TypeId)(op:Op)(d:Option Tmp)(k:List iO)(Q:Exit->ah->Prop)(pf:ah):Prop:=
 me c b d (rk P c ext ty op d k Q pf) (pw P c k Q) pf y
def zwx{y y':Option (Option Bool)}{b ext:Bool}{ty:TypeId}{op:Op}{d:Option Tmp}(h:y=y'):jR P c y b ext ty op d k Q pf=jR P c y' b ext ty op d k Q pf:=by rw[h]
attribute [congr] zwx
@[go_sem ↓] def zRp{e:DE}{ps:String}{af:Array Edge}{l:List (DE×Oper)}(h:(yT pf e.rg e.ls e.sl&&DR pf e.mr)=Z):
 pw P c (.iF pre ((e,⟨d,op,ty,ps,af,J (j,b)⟩)::l)::k) Q pf=jR P c (CP pf pre[j]?) b e.ex ty op d (.iF pre l::k) Q pf:=by
 show Hr P c pre e ⟨d,op,ty,ps,af,J (j,b)⟩ (pw P c (.iF pre l::k) Q) pf=_;simp only[Hr,h,pM,Ip];unfold jR rk;rw[zuQ (o:=⟨d,op,ty,ps,af,J (j,b)⟩) (o':=⟨d,op,ty, "",#[],ae⟩) rfl rfl rfl]
@[go_sem ↓] def zO5 :jR P c (J (J Z)) Z ext ty op d k Q pf=rk P c ext ty op d k Q pf:=by simp[jR,me]
@[go_sem ↓] def zOM :jR P c (J (J aa)) aa ext ty op d k Q pf=rk P c ext ty op d k Q pf:=by simp[jR,me]
@[go_sem ↓] def zOr{d:Tmp}(h:ic c d .skip=Z):jR P c (J (J Z)) aa ext ty op (J d) k Q pf=pw P c k Q (pf.put d .skip):=by simp[jR,me,xt,h]
@[go_sem ↓] def zP0{d:Tmp}(h:ic c d .skip=Z):jR P c (J (J aa)) Z ext ty op (J d) k Q pf=pw P c k Q (pf.put d .skip):=by simp[jR,me,xt,h]
@[go_sem ↓] def zRZ{d:Tmp}(h:ic c d .skip=Z):jR P c (J ae) b ext ty op (J d) k Q pf=pw P c k Q (pf.put d .skip):=by simp[jR,me,xt,h]
def zvW{y:Bool}(h1:y=Z->jR P c (J (J Z)) b ext ty op d k Q pf)(h2:y=aa->jR P c (J (J aa)) b ext ty op d k Q pf):jR P c (J (J y)) b ext ty op d k Q pf:=by
 cases y
 ·exact h2 rfl
 ·exact h1 rfl
@[go_sem ↓] def zTh(hc:iE op=aa)(he:(!ext||hZ op)=Z):rk P c ext ty op d k Q pf=pw1 P c c.CQ ty op d k Q pf:=by
 have KJ:ext=Z->hZ op=Z:=by intro h;subst h;simpa using he
 unfold rk sQ pw1;split
 ·simp_all [iE]
 ·simp only[Qn];exact⟨λh=>h.2,λh=>⟨KJ,h⟩⟩
@[go_sem] def zU4{sl rg:List Nat}{mr:Option Nat}{ls a:Bool}:DE.ex ⟨i,sl,rg,mr,ls,a,b⟩=(a&& !b):=(rfl)
@[go_sem ↓] def zRP :rk P c aa ty (.call ⟨.value f,args,ts⟩) d k Q pf=pw1 P c c.CQ ty (.call ⟨.value f,args,ts⟩) d k Q pf:=by
 unfold rk sQ pw1;simp
def zy2{l:List (Md×Nat×Operand)}
(hl:(List.replicate args.toList.length Md.sh).zip (iQ P args.toList ts.toList)=l)(ha:pd pf l=J (ys,aR))(hf:pU aR f=J (g,xs,us))(hc:eT aR l ys=J as)
(has:xs.map (λx=>(Md.sh,x))++as++us.map (λx=>(Md.sh,x))=jH)(h:au P g jH R)
(hk:∀r outs,R r outs->(l.any (rX aR)=aa\/(cV r&&outs.all cV)=Z)/\qv P c c ((back c.nt aR l (outs.drop xs.length)).map λp=>(.v r,p)) d k Q):rk P c Z ty (.call ⟨.value f,args,ts⟩) d k Q pf:=by
 refine⟨by simp,?_⟩;rw[hl,ha];show Aj P c d (pw P c k Q) aR l (pU aR f) (eT aR l ys);rw[hf,hc];show au P g _ _;rw[has];refine h.mono λr outs hr=>?_
 obtain⟨h1,h2⟩:=hk r outs hr;refine⟨h1,?_⟩;cases hb:back c.nt aR l (outs.drop xs.length)with
 |none=>rw[hb]at h2;exact h2
 |some p=>rw[hb]at h2;exact h2
def zt9{f:FuncId}{fn:Func}{code:Code}(fz hp:List Nat)(hc:aA P f)(hf:P.funcs[f]? =J fn)(hb:fn.body=J code)(hlen:as.length<=fn.ntmps)
(h:pw P ⟨fn.ntmps,j3 0 as,fz,hp⟩ [.code code] (uc P fn.results.toList as R) (r8 as)):au P f as R:=by
 refine zsX (fz:=fz) (hp:=hp) hc hf hb hlen ?_;have e:fN P ⟨fn.ntmps,j3 0 as,fz,hp⟩ [] (uc P fn.results.toList as R)=uc P fn.results.toList as R:=by funext e;cases e<;>rfl
 have h':gJ P ⟨fn.ntmps,j3 0 as,fz,hp⟩ code (fN P ⟨fn.ntmps,j3 0 as,fz,hp⟩ [] (uc P fn.results.toList as R)) (r8 as):=h
 rwa [e]at h'
@[go_sem] def zJ2{rs:List ResultVar}:uc P rs as R .ret pf=G0 as R (ua P pf rs):=(rfl)
@[go_sem] def zEn{rs:List ResultVar}:uc P rs as R .normal pf=G0 as R (ua P pf rs):=(rfl)
@[go_sem] def zEs{x:List PV}:G0 as R (J (x,pf))=R (Jk x) (lY pf 0 as):=(rfl)
@[go_sem] def zIC:ua P pf []=J ([],pf):=(rfl)
@[go_sem] def zFh{x:ResultVar}{xs:List ResultVar}:ua P pf (x::xs)=(Cd P pf x).bind λa=>(ua P a.2 xs).map λb=>(a.1::b.1,b.2):=(rfl)
@[go_sem] def zJB{t:Tmp}:Cd P pf (.tmp t)=if rG (pf t)=Z then ae else mn pf t (pf t):=(rfl)
@[go_sem] def zFA{t:Tmp}:Cd P pf (.cell t ty)=EZ pf t (pf t) (tk P ty):=(rfl)
@[go_sem] def zQD{t sz:Nat}:EZ pf t (.bl row) (J (Z,sz))=if sz=row.length then J (.agg row,(pf.bY t jP).kill t 0)else ae:=by cases row<;>rfl
@[go_sem] def zQj{t sz:Nat}{x:PV}:EZ pf t (.bl (x::row)) (J (aa,sz))=J (x,(pf.bY t jP).kill t 0):=(rfl)
@[go_sem] def zRW{x:PV}:rG (.v x)=aa:=(rfl)
@[go_sem] def zPs :rG (.rf s p)=aa:=(rfl)
@[go_sem] def zOE :rG (.rv s p lo hi)=aa:=(rfl)
@[go_sem] def zOT :rG (.ra s p i j n)=aa:=(rfl)
@[go_sem] def zPL :rG (.ls es rows)=Z:=(rfl)
@[go_sem] def zQA :rG (.pt s p i j)=aa:=(rfl)
@[go_sem] def zPP :rG (.bl row)=aa:=(rfl)
@[go_sem] def zPy{t:Tmp}:wA pf (.tmp t)=rG (pf t):=(rfl)
@[go_sem] def zJn{v:Value}:wA pf (.const v)=aa:=(rfl)
@[go_sem] def zKT :wA pf (.func g)=aa:=(rfl)
@[go_sem] def zLm:Jk []=.ax:=(rfl)
@[go_sem] def zKa{x:PV}:Jk [x]=x:=(rfl)
@[go_sem] def zK5{x:PV}{l:List PV}:Jk (x::y::l)=.bS (x::y::l):=(rfl)
@[go_sem] def zLW :lY pf n []=[]:=(rfl)
@[go_sem] def zQ2{x:PV}:lY pf n ((.io,x)::l)=Ni (pf n)::lY pf (n+1) l:=(rfl)
@[go_sem] def zRb{x:PV}:lY pf n ((.sh,x)::l)=.ax::lY pf (n+1) l:=(rfl)
@[go_sem] def zQe{x:PV}:lY pf n ((.mv,x)::l)=.ax::lY pf (n+1) l:=(rfl)
@[go_sem] def zSd{x:PV}:Ni (.v x)=x:=(rfl)
@[go_sem] def zRu :j3 n []=[]:=(rfl)
@[go_sem] def zSS{x:PV}:j3 n ((.io,x)::l)=n::j3 (n+1) l:=(rfl)
@[go_sem] def zSK{x:PV}:j3 n ((.sh,x)::l)=j3 (n+1) l:=(rfl)
@[go_sem] def zSz{x:PV}:j3 n ((.mv,x)::l)=j3 (n+1) l:=(rfl)
end
end Go.Pm
