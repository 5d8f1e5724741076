import Derived.Test.YtjnidpmkglobfaaGreatPmT
open Bool renaming false→Z,true→O
open Option renaming none→aa,some→J
set_option linter.defProp false
namespace Go.Pm
open Go.Am
def QB:=@eq_iff_iff
def Wp:=@iff_false
section
variable {P:Program}{c X:aW}{k:List iG}{Q:Exit->ae->Prop}{Y:ae}
attribute [go_sem] Option.bind_some Option.bind_none Option.map_some Option.map_none Option.getD_some Option.getD_none
def LS:Option (PF×ae)->Option (PF×ae)->Option (PF×ae)
 |some a,_=>J a
 |none,y=>y
variable{R:PV->List PV->Prop}{a f x:Operand}{args:Array Operand}{L E l:List (Md×PV)}{b ext:Bool}{d:Option Tmp}{e t W:TypeId}{M hi i j I D n q s u:Nat}{g:FuncId}{S:Op}{p:aB}{N:ae}{pre:List (Option Tmp)}{G H T K z:List PV}{U:List (List PV)}{F:Array TypeId}{y:PV}
def zxJ{a b c:Option (PF×ae)}(h:a=b):LS a c=LS b c:=by rw[h]
@[go_sem ↓] theorem zKm{a:PF×ae}{y:Option (PF×ae)}:LS (J a) y=J a:=rfl
@[go_sem ↓] theorem zMT{y:Option (PF×ae)}:LS aa y=y:=rfl
def K0:Option PF->ae->Option (PF×ae)->Option (PF×ae)
 |some y,Y,_=>J (y,Y)
 |none,_,x=>x
def zxx{a b:Option PF}{Y:ae}{x:Option (PF×ae)}(h:a=b):K0 a Y x=K0 b Y x:=by rw[h]
@[go_sem ↓] theorem zJw{y:PF}{x:Option (PF×ae)}:K0 (J y) Y x=J (y,Y):=rfl
@[go_sem ↓] theorem zIV{x:Option (PF×ae)}:K0 aa Y x=x:=rfl
attribute [congr] zxJ zxx
def QQ(x:Option PF)(f:PF->Option (PF×ae))(z:Option (PF×ae)):Option (PF×ae):=
 match x with
 |some y=>f y
 |none=>z
@[go_sem] def zJu{y:PF}{f:PF->Option (PF×ae)}{z:Option (PF×ae)}:QQ (J y) f z=f y:=(rfl)
@[go_sem] def zL7{f:PF->Option (PF×ae)}{z:Option (PF×ae)}:QQ aa f z=z:=(rfl)
@[go_sem] def zS9{x:PV}:zZ X d Y (.v x)=J (.v x,Y):=(rfl)
@[go_sem] def zQ6 :zZ X d Y (.ra s p i j n)=J (.ra s p i j n,Y):=(rfl)
@[go_sem] def zSe :zZ X d Y (.rf s p)=if TZ X d=O then(cj Y s p).bind λx=>if dv x=O then aa else(iL Y s p .az).map λh=>(.v x,h)else J (.rf s p,Y):=(rfl)
@[go_sem] def zTb{d:Nat}:TZ X (J d)=X.fz.contains (d+6*X.nt):=(rfl)
@[go_sem ↓] def zLt :pw1 P c X W (.load t a) d k Q Y=qv P c X (QQ ((tk P t).bind λh=>(nK Y a).bind (Dq h Y)) (zZ X d Y) ((I8 P t Y a).map λy=>(y,Y))) d k Q:=by
 show FW P X t a d (pw P c k Q) Y=_;unfold FW;cases (tk P t).bind λh=>(nK Y a).bind (Dq h Y)with
 |some y=>
  show GW X (pw P c k Q) d y Y=qv P c X (zZ X d Y y) d k Q;unfold GW;cases zZ X d Y y<;>rfl
 |none=>cases I8 P t Y a<;>rfl
def zxn{x:Option AD}:F2 X (pw P c k Q) d Y x=qv P c X (x.map λh=>(xv h,Y)) d k Q:=by cases x<;>rfl
@[go_sem ↓] def zIv{s:TypeId}{f:Nat}:pw1 P c X W (.fieldAddr s x f) d k Q Y=qv P c X (((dR P s f).bind λo=>(nK Y x).bind (yS o.1)).map λh=>(xv h,Y)) d k Q:=zxn
@[go_sem ↓] def zCp :pw1 P c X W (.nilCheck x) d k Q Y=qv P c X ((nK Y x).map λh=>(xv h,Y)) d k Q:=zxn
@[go_sem] def zTT{i:Operand}(h:mH P t=J M):zU P t x i Y=(GI Y x).bind (M7 M (cr Y i)):=by simp[zU,h]
@[go_sem] def zTU{i:Operand}{z:Nat×Nat}(h:JW P t=J z)(m:mH P t=aa):zU P t x i Y=(nK Y x).bind (M2 z.1 z.2 (cr Y i)):=by simp[zU,h,m]
@[go_sem ↓] def zBx{i:Operand}:pw1 P c X W (.indexAddr t x i) d k Q Y=qv P c X (LS ((zU P t x i Y).map λh=>(xv h,Y)) (E7 P t x i Y)) d k Q:=by
 show ED P X t x i d (pw P c k Q) Y=_;unfold ED;cases zU P t x i Y with
 |some h=>rfl
 |none=>cases E7 P t x i Y<;>rfl
@[go_sem] def zQN{i:Operand}:E7 P t (.tmp u) i Y=NP P t u Y (Y u) (cr Y i):=(rfl)
@[go_sem] def zL5{h:IntKind}{q:Int}:NP P t u Y (.as Z s p i j n) (J (.int h q))=if mH P t=J 1/\0<=q/\q<n then J (.as O s p i (j+q.toNat) 1,Y.put u jP)else aa:=(rfl)
@[go_sem] def zRS :I8 P t Y (.tmp u)=(tk P t).bind λh=>if h.1=Z then M5 (Y u)else aa:=(rfl)
@[go_sem] def zMv :M5 (.as O s p i j n)=J (.rf s (p++[(i,j)])):=(rfl)
@[go_sem] def zQ0{t:Nat}:rT Y t (.as b s p i j n)=aa:=(rfl)
@[go_sem] def zR3{t:Nat}:uJ Y t (.as b s p i j n)=aa:=(rfl)
@[go_sem] def zPO{c:aW}{d:Nat}(h:c.fz=[]):Bz c d=Z:=by simp[Bz,h]
@[go_sem] def zUR{c:aW}{d:Nat}:Bz c d=c.fz.contains (d+2*c.nt):=(rfl)
@[go_sem] def zOW :Dh (.rf s p)=J (s,p):=(rfl)
@[go_sem] def zLj{o:Bool}:ML (J (.sl o M U))=O:=(rfl)
@[go_sem] def zKh :zf Y s p i j q []=O:=(rfl)
@[go_sem] def zIx{h:Nat}{t:Tmp}{r:List (Nat×Operand)}:zf Y s p i j q ((h,.tmp t)::r)=if h=q/\Dh (Y t)=J (s,p++[(i,j+q)])/\ML (cj Y s (p++[(i,j+q)]))=O then zf Y s p i j (q+1) r else Z:=(rfl)
@[go_sem] def zD9{a:Nat×Nat}:pD [a]=J ([],a.1,a.2):=(rfl)
@[go_sem] def zFb{a b:Nat×Nat}{r:aB}:pD (a::b::r)=(pD (b::r)).map λx=>(a::x.1,x.2):=(rfl)
@[go_sem] def zQO{t:Tmp}{r:List (Nat×Operand)}:Fr Y ((q,.tmp t)::r)=(Dh (Y t)).bind λx=>(pD x.2).map λy=>(x.1,y):=(rfl)
@[go_sem] def zOi{h:List (Nat×Operand)}:KD P t I h Y=(ez P t).bind λz=>(Fr Y h).bind λa=>if z.1=1/\I<=2^24/\h.length=I/\zf Y a.1 a.2.1 a.2.2.1 a.2.2.2 0 h=O then J (.as Z a.1 a.2.1 a.2.2.1 a.2.2.2 I)else aa:=(rfl)
def H5(Y:ae)(h:List PV):AD->Option ae
 | .pl s p i j=>mK Y s p i j h
 |_=>aa
def QM(P:Program)(t:TypeId)(a x:Operand)(Y:ae):Option ae:=
 (tk P t).bind λh=>(eJ (dj P t) Y x).bind λy=>if FZ h.2 y.1=O then(nK y.2 a).bind (H5 y.2 (cR y.1))else aa
@[go_sem] def zRu :QM P t a x Y=(tk P t).bind λh=>(eJ (dj P t) Y x).bind λy=>if FZ h.2 y.1=O then(nK y.2 a).bind (H5 y.2 (cR y.1))else aa:=(rfl)
@[go_sem ↓] def zHM :pw1 P c X W (.store t a x) aa k Q Y=qf P c (QM P t a x Y) k Q:=by
 show Gc P X t a x aa (pw P c k Q) Y=_;unfold Gc QM;cases tk P t with
 |none=>rfl
 |some v=>
  cases eJ (dj P t) Y x with
  |none=>rfl
  |some y=>
   obtain⟨y,N⟩:=y;obtain⟨b,r⟩:=v;simp only[aP];by_cases h:FZ r y=O
   ·rw[aE h];cases w:nK N a with
    |none=>simp[FM,qf]
    |some m=>cases m with
     |pl s p i j=>cases o:mK N s p i j (cR y)<;>simp[FM,qf,h,H5,o]
     |fz G=>simp[FM,qf,H5]
   ·rw[aA h];simp[qf,h]
def Hg(P:Program)(X:aW)(e:TypeId)(d:Nat)(Y:ae):Option ae:=
 (zr P e).bind λz=>if ia X d .skip=O then J (if X.hp.contains d=O then Y.put d (.v (.bx z))else Y.put d (.bl z))else aa
@[go_sem] def zUN{d:Nat}(h:zr P e=J z)(m:ia X d .skip=O)(o:X.hp.contains d=O):Hg P X e d Y=J (Y.put d (.v (.bx z))):=by unfold Hg;rw[h,aP,aE m,aE o]
@[go_sem] def zUM{d:Nat}(h:zr P e=J z)(m:ia X d .skip=O)(o:X.hp.contains d=Z):Hg P X e d Y=J (Y.put d (.bl z)):=by unfold Hg;rw[h,aP,aE m,aA (by rw[o];simp)]
@[go_sem ↓] def zIe{d:Tmp}:pw1 P c X W (.alloc e) (J d) k Q Y=qf P c (Hg P X e d Y) k Q:=by
 show Ht P X e (J d) (pw P c k Q) Y=_;unfold Ht Hg;cases zr P e with
 |none=>rfl
 |some z=>
  simp only[aP];by_cases h:ia X d .skip=O
  ·rw[aE h];by_cases m:X.hp.contains d=O
   ·simp only[h,m,qf,e7,pR]
   ·simp only[h,m,qf,pR];simp
  ·rw[aA h];simp[qf,h]
def Tu(P:Program)(X:aW)(e:TypeId)(x:Operand)(d:Nat)(Y:ae):Option ae:=
 (tk P e).bind λ_=>(eJ (dj P e) Y x).bind λy=>if(!xc Y x&&jT y.1&&ia X d .skip)=O then J (if X.hp.contains d=O then(if X.fz.contains d=O then(y.2.put d (.v (.bx (cR y.1)))).put d (.v (drop (.bx (cR y.1))))else y.2.put d (.v (.bx (cR y.1))))else y.2.put d (.bl (cR y.1)))else aa
@[go_sem] def zQS{d:Nat}:Tu P X e x d Y=(tk P e).bind λ_=>(eJ (dj P e) Y x).bind λy=>if(!xc Y x&&jT y.1&&ia X d .skip)=O then J (if X.hp.contains d=O then(if X.fz.contains d=O then(y.2.put d (.v (.bx (cR y.1)))).put d (.v (drop (.bx (cR y.1))))else y.2.put d (.v (.bx (cR y.1))))else y.2.put d (.bl (cR y.1)))else aa:=(rfl)
@[go_sem ↓] def zPQ{d:Tmp}:pw1 P c X W (.box e x) (J d) k Q Y=qf P c (Tu P X e x d Y) k Q:=by
 show FQ P X e x (J d) (pw P c k Q) Y=_;unfold FQ Tu;cases tk P e with
 |none=>rfl
 |some z=>
  cases eJ (dj P e) Y x with
  |none=>rfl
  |some y=>
   obtain⟨y,N⟩:=y;simp only[aP];by_cases h:(!xc Y x&&jT y&&ia X d .skip)=O
   ·rw[aE h];simp only[bC,sr]at h;by_cases m:X.hp.contains d=O
    ·by_cases o:X.fz.contains d=O
     ·simp only[h.1.1,h.1.2,h.2,m,o,qf,e7,pR]
     ·simp only[h.1.1,h.1.2,h.2,m,o,qf,e7,pR];simp
    ·simp only[h.1.1,h.1.2,h.2,m,qf,pR];simp
   ·rw[aA h];simp only[qf,QB,Wp];rintro⟨r,m,v,_⟩;exact h (by rw[r,m,v];rfl)
def Vv(P:Program)(X:aW)(t:TypeId)(I:Nat)(h:List (Nat×Operand))(d:Nat)(Y:ae):Option ae:=
 (ez P t).bind λz=>(qJ Y (h.map λp=>(eM P t p.1,p.2))).bind λy=>if I*z.1<=2^24/\ia X d .skip=O then(sw z.1 ((h.map (·.1)).zip (v7 X d y.1)) (List.replicate I z.2.2)).map λU=>y.2.put d (.ls z.1 U)else aa
@[go_sem] def zNP{d:Nat}(h:X.fz=[]):v7 X d T=T:=by simp[v7,h]
@[go_sem] def zUm{d:Nat}:v7 X d T=if X.fz.contains (d+3*X.nt)=O then T.map drop else T:=(rfl)
@[go_sem] def zQd{h:List (Nat×Operand)}{d:Nat}:Vv P X t I h d Y=(ez P t).bind λz=>(qJ Y (h.map λp=>(eM P t p.1,p.2))).bind λy=>if I*z.1<=2^24/\ia X d .skip=O then(sw z.1 ((h.map (·.1)).zip (v7 X d y.1)) (List.replicate I z.2.2)).map λU=>y.2.put d (.ls z.1 U)else aa:=(rfl)
@[go_sem ↓] def zAA{m:Array (Nat×Operand)}{d:Tmp}:pw1 P c X W (.buildSlice t I m) (J d) k Q Y=if Bz X d=O then qv P c X ((KD P t I m.toList Y).map λy=>(y,Y)) (J d) k Q else qf P c (Vv P X t I m.toList d Y) k Q:=by
 show E5 P X t I m.toList (J d) (pw P c k Q) Y=_;unfold E5 Vv;by_cases v:Bz X d=O
 ·rw[aE v,aE (show RU X (J d)=O from v)];unfold In;cases KD P t I m.toList Y<;>rfl
 rw[aA v,aA (show¬RU X (J d)=O from v)];cases ez P t with
 |none=>rfl
 |some z=>
  cases qJ Y (m.toList.map λp=>(eM P t p.1,p.2))with
  |none=>rfl
  |some y=>
   obtain⟨T,N⟩:=y;simp only[aP];by_cases h:I*z.1<=2^24/\ia X d .skip=O
   ·rw[aE h];cases sw z.1 ((m.toList.map (·.1)).zip (v7 X d T)) (List.replicate I z.2.2)<;>simp only[OC,qf,h.1,h.2,pR,and_false,Option.map_none,mz]
   ·rw[aA h];simp only[qf,QB,Wp];rintro⟨A,o⟩;cases w:sw z.1 ((m.toList.map (·.1)).zip (v7 X d T)) (List.replicate I z.2.2)with
    |none=>rw[w]at o;exact o
    |some r=>rw[w]at o;exact h ⟨A,o.1⟩
@[go_sem ↓] def zId{h:Array (Nat×Operand)}:pw1 P c X W (.build t h) d k Q Y=
 qv P c X ((nV P t).bind λb=>(qJ Y (h.toList.map λp=>(eM P t p.1,p.2))).bind λy=>(vn b.1 ((h.toList.map (·.1)).zip y.1) b.2).map λG=>(.v (.agg G),y.2)) d k Q:=by
 show HC P X t h.toList d (pw P c k Q) Y=_;unfold HC;cases nV P t with
 |none=>rfl
 |some b=>
  cases qJ Y (h.toList.map λp=>(eM P t p.1,p.2))with
  |none=>rfl
  |some y=>
   simp only[aP];cases vn b.1 ((h.toList.map (·.1)).zip y.1) b.2<;>rfl
def Do(b x y:Option Value):Option PV:=
 match b with
 |some (.bool O)=>x.bind lY
 |some (.bool Z)=>y.bind lY
 |_=>aa
@[go_sem ↓] def zLh{b y:Operand}:pw1 P c X W (.pick b x y) d k Q Y=qv P c X ((Do (cr Y b) (cr Y x) (cr Y y)).map λz=>(.v z,Y)) d k Q:=by
 show Hj X b x y d (pw P c k Q) Y=_;unfold Hj OP Do;cases cr Y b with
 |none=>rfl
 |some v=>
  cases v with
  |bool b=>
   cases b
   ·simp only[];cases (cr Y y).bind lY<;>rfl
   ·simp only[];cases (cr Y x).bind lY<;>rfl
  |_=>rfl
@[go_sem] def zUA{x y:Option Value}:Do (J (.bool O)) x y=x.bind lY:=(rfl)
@[go_sem] def zSs{x y:Option Value}:Do (J (.bool Z)) x y=y.bind lY:=(rfl)
@[go_sem] def zOb{j:IntKind}{m n:Int}:Do (J (.bool b)) (J (.int j m)) (J (.int j n))=J (.int j (if b=O then m else n)):=by cases b<;>rfl
@[go_sem] def zLk{m n:Bool}:Do (J (.bool b)) (J (.bool m)) (J (.bool n))=J (.bool (if b=O then m else n)):=by cases b<;>rfl
@[go_sem] def zND{m n:ByteArray}:Do (J (.bool b)) (J (.string m)) (J (.string n))=J (.str (if b=O then m else n)):=by cases b<;>rfl
def Vx(b:Bool)(z:Nat×Nat×List PV)(Y:ae):Option Value->Option Value->Option (PF×ae)
 |some (.int .i64 n),J (.int .i64 m)=>if 0<=n/\n<=m/\z.2.1*m<=140737488355328/\m<=4611686018427387904 then J (.v (.sl O z.1 (List.replicate n.toNat (uz b z.2.2))),Y)else aa
 |_,_=>aa
@[go_sem] def zNK{z:Nat×Nat×List PV}{n m:Int}:Vx b z Y (J (.int .i64 n)) (J (.int .i64 m))=if 0<=n/\n<=m/\z.2.1*m<=140737488355328/\m<=4611686018427387904 then J (.v (.sl O z.1 (List.replicate n.toNat (uz b z.2.2))),Y)else aa:=(rfl)
@[go_sem] def zLD{d:Nat}:tw X (J d)=X.fz.contains (d+X.nt):=(rfl)
@[go_sem] def zJ9:tw X aa=Z:=(rfl)
@[go_sem] def zJB :uz Z z=z:=(rfl)
@[go_sem] def zQx :uz O z=z.map ud:=(rfl)
@[go_sem] def zUu{o:Bool}{e:Nat}:ud (.sl o e [])=.sl O e []:=(rfl)
@[go_sem] def zRc{j:IntKind}{n:Int}:ud (.int j n)=.int j n:=(rfl)
@[go_sem] def zP8 :ud (.bool b)=.bool b:=(rfl)
@[go_sem] def zSa{b:ByteArray}:ud (.str b)=.str b:=(rfl)
@[go_sem ↓] def zBy{l o:Operand}:pw1 P c X W (.makeSlice t l o) d k Q Y=qv P c X ((ez P t).bind λz=>Vx (tw X d) z Y (cr Y l) (cr Y o)) d k Q:=by
 show HD P X t l o d (pw P c k Q) Y=_;unfold HD;cases ez P t with
 |none=>rfl
 |some z=>
  simp only[aP];generalize cr Y l=A;generalize cr Y o=B;unfold O5 Vx;split
  ·rename_i n m;simp only[];by_cases h:0<=n/\n<=m/\z.2.1*m<=140737488355328/\m<=4611686018427387904
   ·rw[aE h];simp only[h,pR];rfl
   ·rw[aA h];simp only[qv,QB,Wp];rintro⟨r,_⟩;exact h r
  ·rename_i v;split
   ·rename_i w;exact absurd rfl (v _ _ rfl)
   ·rfl
def zuK{u:TypeId}{S:BinOp}{y:Operand}{d:Tmp}{q:Bool}(A:wc y=O)(h:X.hp.isEmpty=Z)(r:(df P t).isSome=O)(w:Lz S=J q)(m:VN Y x=J U)
(v:∀b,(U≠[]->b= !q)->qv P c X (J (.v (.bool b),Y)) (J d) k Q):pw1 P c X W (.binOp S t x y u) (J d) k Q Y:=by
 show n0 P X ⟨J d,.binOp S t x y u,W, "",#[],aa⟩ (pw P c k Q) Y;simp only[n0,A,e7];refine⟨(by intro e;rw[e]at h;cases h),?_⟩;cases x with
 |tmp s=>
  unfold Dw;simp only[w,m];exact⟨r,λb o=>v b o⟩
 |_=>simp[VN]at m
@[go_sem ↓] def zBI{h:Fn}{T K:Array Operand}:pw1 P c X W (.makeFunc h T K) d k Q Y=
 qv P c X (if QR X d=O then(J4 Y h T.toList K.toList).bind (K1 X Y)else(s9 (!X.hp.isEmpty) Y (T.toList++K.toList)).map λm=>(.v (.func h (m.1.take T.toList.length) (m.1.drop T.toList.length)),m.2)) d k Q:=by
 show Fv X h T.toList K.toList d (pw P c k Q) Y=_;unfold Fv;split
 ·cases (J4 Y h T.toList K.toList).bind (K1 X Y)<;>rfl
 cases s9 (!X.hp.isEmpty) Y (T.toList++K.toList)<;>rfl
def tC(X:aW)(d:Option Tmp)(t:Nat)(Y:ae):PF->Option (PF×ae)
 | .v x=>if dv x=O then aa else J (if bI x=O then .rf t []else .v x,Y)
 | .ls M U=>if t<X.nt then J (.rf t [],(Y.bV t (.v (.sl O M U))).kill t 0)else aa
 | .bl _=>J (.pt t [] 0 0,Y)
 | .skip=>aa
 | .as .. =>aa
 | .pt s p i j=>if AS X d=O then Ci Y t s p i j (Y s)else J (.pt s p i j,Y)
 |y=>J (y,Y)
@[go_sem] def zUI{X:aW}{t:Nat}{x:PV}(h:dv x=Z):tC X d t Y (.v x)=J (if bI x=O then .rf t []else .v x,Y):=by simp[tC,h]
@[go_sem] def zRf{X:aW}{t:Nat}(h:t<X.nt):tC X d t Y (.ls M U)=J (.rf t [],(Y.bV t (.v (.sl O M U))).kill t 0):=by simp[tC,h]
@[go_sem] def zQV{X:aW}{t:Nat}:tC X d t Y (.bl G)=J (.pt t [] 0 0,Y):=(rfl)
@[go_sem] def zRY{X:aW}{t:Nat}:tC X d t Y (.pt s p i j)=if AS X d=O then Ci Y t s p i j (Y s)else J (.pt s p i j,Y):=(rfl)
@[go_sem] def zTM{X:aW}{d:Nat}:AS X (J d)=(!X.hp.isEmpty&&X.fz.contains (d+5*X.nt)):=(rfl)
@[go_sem] def zSp{t:Nat}:Ci Y t s [] 0 0 (.bl G)=J (.rf s [],((Y.bV s (.v (.bx G))).kill s 0).put t (.rf s [])):=(rfl)
@[go_sem] def zRk{X:aW}{t:Nat}:tC X d t Y (.rf s p)=J (.rf s p,Y):=(rfl)
@[go_sem] def zRi{X:aW}{t:Nat}:tC X d t Y (.rv s p D hi)=J (.rv s p D hi,Y):=(rfl)
@[go_sem] def zRz{X:aW}{t:Nat}:tC X d t Y (.ra s p i j n)=J (.ra s p i j n,Y):=(rfl)
@[go_sem] def zRs{X:aW}{t:Nat}:tC X d t Y (.cl s g H)=J (.cl s g H,Y):=(rfl)
@[go_sem] def zSW{X:aW}{d:Nat}:QR X (J d)=X.fz.contains (d+4*X.nt):=(rfl)
@[go_sem] def zTr{K:List Operand}:J4 Y (.func g) [] (.tmp s::K)=match Y s with| .v (.bx _)=>J (g,s,K)|_=>aa:=(rfl)
@[go_sem] def zUH{K:List Operand}{X:aW}:K1 X Y (g,s,K)=(s9 (!X.hp.isEmpty) Y K).map λy=>(.cl s g y.1,y.2):=(rfl)
@[go_sem] def zT9{t:Tmp}:wA Y (.tmp t)=Ng (Y t):=(rfl)
@[go_sem] def zRX :Ng (.cl s g H)=J (s,g,H):=(rfl)
@[go_sem ↓] def zGM{t:Tmp}:pw1 P c X W (.move (.tmp t)) d k Q Y=qv P c X (tC X d t Y (Y t)) d k Q:=by
 show tR X t d (pw P c k Q) Y (Y t)=_;unfold tR tC;cases Y t with
 |v x=>
  cases m:dv x
  ·cases o:bI x<;>simp[m,o,qv]
  ·simp[m,qv]
 |ls M U=>
  by_cases h:t<X.nt
  ·simp[h,qv]
  ·simp[h,qv]
 |pt s p i j=>
  cases r:AS X d
  ·simp[qv]
  ·simp only[e7];cases Ci Y t s p i j (Y s)<;>rfl
 |_=>rfl
def O6(x:Option (PV×ae)):Option (PF×ae):=x.map λy=>(.v y.1,y.2)
@[go_sem] def zK6 :O6 (J (y,Y))=J (.v y,Y):=(rfl)
@[go_sem ↓] def zG8{k0:Value}:pw1 P c X W (.move (.const k0)) d k Q Y=qv P c X (O6 (eJ (dj P W) Y (.const k0))) d k Q:=by
 show uo (dj P W) X (.const k0) d (pw P c k Q) Y=_;unfold uo;simp only[];cases eJ (dj P W) Y (.const k0)<;>rfl
@[go_sem ↓] def zD3 :pw1 P c X W (.move (.func g)) d k Q Y=qv P c X (O6 (eJ (dj P W) Y (.func g))) d k Q:=by
 show uo (dj P W) X (.func g) d (pw P c k Q) Y=_;unfold uo;simp only[];cases eJ (dj P W) Y (.func g)<;>rfl
@[go_sem ↓] def zG0 :pw1 P c X W (.assign x) d k Q Y=qv P c X (K0 (Cr X Y d x) Y (O6 (eJ (dj P W) Y x))) d k Q:=by
 show F3 (dj P W) X x d (pw P c k Q) Y=_;unfold F3;cases Cr X Y d x with
 |some y=>rfl
 |none=>cases eJ (dj P W) Y x<;>rfl
@[go_sem] def zRR{d:Nat}{t:Tmp}:Cr X Y (J d) (.tmp t)=if Bz X d=O then Hq t (Y t)else aa:=(rfl)
@[go_sem] def zP2{t:Nat}:Hq t (.rf s p)=J (.rf s p):=(rfl)
@[go_sem] def zNJ{t:Nat}:Hq t (.bl G)=J (.pt t [] 0 0):=(rfl)
@[go_sem] def zPq{t:Nat}:Hq t (.cl s g H)=J (.cl s g H):=(rfl)
@[go_sem] def zRy{x:Value}:Cr X Y d (.const x)=aa:=by cases d<;>rfl
@[go_sem] def zR9{x:FuncId}:Cr X Y d (.func x)=aa:=by cases d<;>rfl
def H9(Y:ae)(s:Nat)(T:List PV)(i:Nat):Option PV->Option (PF×ae)
 |some y=>if dv y=O then aa else J (.v y,if bI y=O then(Y.bV s (.v (.bR (T.set i .az)))).kill s 1 else Y)
 |none=>aa
@[go_sem] def zI9(h:dv y=Z):H9 Y s T i (J y)=J (.v y,if bI y=O then(Y.bV s (.v (.bR (T.set i .az)))).kill s 1 else Y):=by simp[H9,h]
@[go_sem] theorem zPG{t:Tmp}:Es Y (.tmp t)=match Y t with
 | .rf s []=>CL s (Y s)
 |y=>CL t y:=rfl
@[go_sem] def zUv :CL s (.v (.bR T))=J (s,T):=(rfl)
@[go_sem ↓] def zDx :pw1 P c X W (.extract x i) d k Q Y=qv P c X ((Es Y x).bind λa=>if a.1<X.nt then H9 Y a.1 a.2 i a.2[i]? else aa) d k Q:=by
 show Gn X x i d (pw P c k Q) Y=_;unfold Gn;cases Es Y x with
 |none=>rfl
 |some a=>
  obtain⟨s,T⟩:=a;simp only[aP];by_cases h:s<X.nt
  ·rw[aE h];simp only[h,pR];cases T[i]? with
   |none=>rfl
   |some y=>
    cases m:dv y
    ·cases o:bI y<;>simp[Jt,H9,m,o,qv]
    ·simp[Jt,H9,m,qv]
  ·rw[aA h];simp[h,qv]
def OA(M t:Nat)(Y:ae)(l h m:Option (Option Nat)):Option (PF×ae):=
 match l,h,m with
 |some l,J h,J aa=>(nD M (l.getD 0) h Y t (Y t)).map λy=>(y,Y)
 |some l,J (J h),J (J m)=>((d5 Y (Y t)).bind jH).bind λU=>(nD M (l.getD 0) (J h) Y t (Y t)).bind λ_=>if l.getD 0=h/\h=m/\m<=U.length then J (.v (.sl O M []),Y)else aa
 |_,_,_=>aa
@[go_sem] def zHh{t:Nat}{l h:Option Nat}:OA M t Y (J l) (J h) (J aa)=(nD M (l.getD 0) h Y t (Y t)).map λy=>(y,Y):=by cases h<;>rfl
@[go_sem] def zDU{t:Nat}{l:Option Nat}{h m:Nat}:OA M t Y (J l) (J (J h)) (J (J m))=((d5 Y (Y t)).bind jH).bind λU=>(nD M (l.getD 0) (J h) Y t (Y t)).bind λ_=>if l.getD 0=h/\h=m/\m<=U.length then J (.v (.sl O M []),Y)else aa:=(rfl)
def zAe{t:Nat}{l h m:Option (Option Nat)}:Ha X M t d (pw P c k Q) Y l h m=qv P c X (OA M t Y l h m) d k Q:=by
 cases l with
 |none=>rfl
 |some l=>
  cases h with
  |none=>rfl
  |some h=>
   cases m with
   |none=>rfl
   |some m=>
    cases m with
    |none=>
     rw[zHh];cases h<;>simp only[Ha]<;>cases nD M (l.getD 0) _ Y t (Y t)<;>rfl
    |some m=>
     cases h with
     |none=>rfl
     |some h=>
      rw[zDU];simp only[Ha];cases (d5 Y (Y t)).bind jH with
      |none=>rfl
      |some U=>
       simp only[aP];cases nD M (l.getD 0) (J h) Y t (Y t)with
       |none=>simp[qv]
       |some y=>
        by_cases o:l.getD 0=h/\h=m/\m<=U.length
        ·simp[o,qv]
        ·simp[o,qv]
@[go_sem ↓] def zIg{x:Tmp}{l h m:Option Operand}(o:eS P t=Z):pw1 P c X W (.slice t (.tmp x) l h m) d k Q Y=qv P c X ((mH P t).bind λM=>OA M x Y (pm Y l) (pm Y h) (pm Y m)) d k Q:=by
 show(if eS P t=O then lO P X ⟨d,.slice t (.tmp x) l h m,W, "",#[],aa⟩ (pw P c k Q) Y else GP P X t (.tmp x) l h m d (pw P c k Q) Y)=_;rw[aA (by simp[o])];unfold GP;cases mH P t with
 |none=>rfl
 |some M=>exact zAe
def uQ(P:Program)(c X:aW)(x:Option (List (List PV)))(d:Option Tmp)(k:List iG)(Q:Exit->ae->Prop)(Y:ae):Prop:=
 match x with
 |some U=>U.length<=kA->qv P c X (J (.v (.int .i64 U.length),Y)) d k Q
 |none=>False
def zw5{x m:Option (List (List PV))}{d:Option Tmp}(h:x=m):uQ P c X x d k Q Y=uQ P c X m d k Q Y:=by rw[h]
attribute [congr] zw5
def BR(P:Program)(c X:aW)(t:TypeId)(d:Option Tmp)(k:List iG)(Q:Exit->ae->Prop)(Y:ae)(x:Nat):PF->Prop
 | .ls M U=>uQ P c X ((df P t).bind λ_=>J U) d k Q ((Y.bV x (.v (.sl O M U))).kill x 0)
 |y=>uQ P c X ((df P t).bind λ_=>(d5 Y y).bind jH) d k Q Y
def zxB{t:TypeId}{d:Option Tmp}{x:Nat}{y m:PF}(h:y=m):BR P c X t d k Q Y x y=BR P c X t d k Q Y x m:=by rw[h]
attribute [congr] zxB
@[go_sem ↓] theorem zRm{x:Nat}:BR P c X t d k Q Y x (.ls M U)=uQ P c X ((df P t).bind λ_=>J U) d k Q ((Y.bV x (.v (.sl O M U))).kill x 0):=rfl
@[go_sem ↓] theorem zUq{x:Nat}:BR P c X t d k Q Y x (.v y)=uQ P c X ((df P t).bind λ_=>jH y) d k Q Y:=rfl
@[go_sem ↓] theorem zRV{x:Nat}:BR P c X t d k Q Y x (.rf s p)=uQ P c X ((df P t).bind λ_=>(d5 Y (.rf s p)).bind jH) d k Q Y:=rfl
@[go_sem ↓] theorem zR8{x:Nat}:BR P c X t d k Q Y x (.rv s p D hi)=uQ P c X ((df P t).bind λ_=>(d5 Y (.rv s p D hi)).bind jH) d k Q Y:=rfl
@[go_sem ↓] def zPM{x:Tmp}(m:eS P t=Z):pw1 P c X W (.call ⟨.builtin .len,#[.tmp x],#[t]⟩) d k Q Y=BR P c X t d k Q Y x (Y x):=by
 show(if eS P t=O then lO P X ⟨d,.call ⟨.builtin .len,#[.tmp x],#[t]⟩,W, "",#[],aa⟩ (pw P c k Q) Y else Er P X t (.tmp x) d (pw P c k Q) Y)=_;rw[aA (by simp[m])];unfold Er BR;cases h:Y x with
 |ls M U=>
  have:((Y.bV x (.v (.sl O M U))).kill x 0) x=.v (.sl O M U):=by simp[ae.kill,ae.bV,dr,bA]
  simp only[zO,h,this,d5,jH,aP,uQ,qv];cases df P t<;>rfl
 |_=>
  simp only[zO,h,uQ,qv];generalize (df P t).bind (λ_=>(d5 Y _).bind jH)=o;cases o<;>rfl
@[go_sem] def zN7{s:ByteArray}(h:eS P t=O):fk P (.call ⟨.builtin .len,#[x],#[t]⟩) [.string s]=J (.int .i64 s.size):=by simp[fk,Am.jH,h]
@[go_sem ↓] def zKk(h:eS P t=O):pw1 P c X W (.call ⟨.builtin .len,#[x],#[t]⟩) d k Q Y=qv P c X (Dp (λv=>fk P (.call ⟨.builtin .len,#[x],#[t]⟩) [v]) (cr Y x) Y) d k Q:=by
 show(if eS P t=O then lO P X ⟨d,.call ⟨.builtin .len,#[x],#[t]⟩,W, "",#[],aa⟩ (pw P c k Q) Y else Er P X t x d (pw P c k Q) Y)=_;rw[aE h];refine Ej (o:=⟨d,.call ⟨.builtin .len,#[x],#[t]⟩,W, "",#[],aa⟩) ?_;simp only[iA,qg,aP];cases cr Y x<;>simp[Dp]
def Tt(P:Program)(t:TypeId)(s x:Operand)(Y:ae):Option (PF×ae):=
 (ez P t).bind λz=>(eJ z.1 Y s).bind λb=>(zK z.1 b.1).bind λU=>(qm z.1 b.2 x).bind λr=>
   if n9 r.1=O/\(U.length+r.1.length)*z.2.1<=140737488355328/\U.length+r.1.length<=4611686018427387904 then J (.v (.sl O z.1 (U++r.1)),r.2)else aa
@[go_sem] theorem zRF{s:Operand}:Tt P t s x Y=(ez P t).bind λz=>(eJ z.1 Y s).bind λb=>(zK z.1 b.1).bind λU=>(qm z.1 b.2 x).bind λr=>
 if n9 r.1=O/\(U.length+r.1.length)*z.2.1<=140737488355328/\U.length+r.1.length<=4611686018427387904 then J (.v (.sl O z.1 (U++r.1)),r.2)else aa:=rfl
@[go_sem ↓] def zEu{s:Operand}:pw1 P c X W (.call ⟨.builtin .append,#[s,x],#[t,t]⟩) d k Q Y=qv P c X (Tt P t s x Y) d k Q:=by
 show(if t=t then Gv P X t s x d (pw P c k Q) Y else HU P X t t s x d (pw P c k Q) Y)=_;rw[aE rfl];unfold Gv Tt;cases ez P t with
 |none=>rfl
 |some z=>
  simp only[aP];cases eJ z.1 Y s with
  |none=>rfl
  |some b=>
   obtain⟨b,N⟩:=b;simp only[aP,MX];cases zK z.1 b with
   |none=>rfl
   |some U=>
    simp only[aP];cases qm z.1 N x with
    |none=>rfl
    |some r=>
     obtain⟨m,w⟩:=r;simp only[aP,PC];by_cases h:n9 m=O/\(U.length+m.length)*z.2.1<=140737488355328/\U.length+m.length<=4611686018427387904
     ·rw[aE h];simp only[h.1,h.2.1,h.2.2,pR,qv]
     ·rw[aA h];simp only[qv,QB,Wp];rintro⟨o,v,_⟩;exact h ⟨o,v⟩
def zA5{n:Int}{z:Nat×Nat×List PV}(h:R8 P g t)(v:ez P t=J z)(r:cr Y x=J (.int .i64 n))(m:0<=n/\z.2.1*n<=140737488355328/\n<=4611686018427387904)
(o:qv P c X (J (.v (.sl O z.1 []),Y)) d k Q):pw1 P c X W (.call ⟨.value (.func g),#[.const (.slice aa 0 0),x],F⟩) d k Q Y:=.inr (.inl ⟨g,x,t,n,z,rfl,rfl,h,r,v,m,o⟩)
def zAM(v:List Md){l:List (Md×Nat×Operand)}
(hm:v.length=args.toList.length)(hl:v.zip (iM P args.toList F.toList)=l)(B:oR Y l=J (K,N))(hf:p9 N f=J (g,T,H))(C:eY N l K=J L)
(has:T.map (λx=>(Md.sh,x))++L++H.map (λx=>(Md.sh,x))=E)(h:aq P g E R)
(hk:∀r m,R r m->(l.any (te N)=Z\/(cV r&&m.all cV)=O)/\qv P c X ((back X.nt N l (m.drop T.length)).map λp=>(.v r,p)) d k Q):pw1 P c X W (.call ⟨.value f,args,F⟩) d k Q Y:=by
 refine .inl ⟨v,hm,?_⟩;rw[hl,B];show zB P X d (pw P c k Q) N l (p9 N f) (eY N l K);rw[hf,C];show aq P g _ _;rw[has];refine h.mono λr m hr=>?_
 obtain⟨A,o⟩:=hk r m hr;refine⟨A,?_⟩;cases w:back X.nt N l (m.drop T.length)with
 |none=>rw[w]at o;exact o
 |some p=>rw[w]at o;exact o
def zzh(v:List Md){l:List (Md×Nat×Operand)}
(hm:v.length=args.toList.length)(hf:wA Y f=J (s,g,H))(hl:v.zip (iM P args.toList F.toList)++[(.io,0,.tmp s)]=l)(C:oR Y l=J (K,N))(A:wA N f=J (s,g,H))(hc:eY N l K=J L)
(has:L++H.map (λx=>(Md.sh,x))=E)(h:aq P g E R)
(hk:∀r m,R r m->(l.any (te N)=Z\/(cV r&&m.all cV)=O)/\qv P c X ((back X.nt N l m).map λp=>(.v r,p)) d k Q):pw1 P c X W (.call ⟨.value f,args,F⟩) d k Q Y:=by
 refine .inr (.inr ⟨v,(s,g,H),hf,hm,?_⟩);rw[hl,C];refine⟨A,?_⟩;rw[hc];show aq P g _ _;simp only[qP,nb];rw[has];refine h.mono λr m hr=>?_
 obtain⟨B,o⟩:=hk r m hr;refine⟨B,?_⟩;show LI X d _ r (back X.nt N l m);cases w:back X.nt N l m with
 |none=>rw[w]at o;exact o
 |some p=>rw[w]at o;exact o
def zBc{id:Nat}{m:Array Oper}(o:List DE){r:List (DE×Oper)}(v:P.follows .mixedOrders=O)(w:KG o m.toList=O)(A:o.map (λx=>(x,m.toList.getD x.i default))=r)
(h:pw P c (.iE (m.toList.map (·.dst)) r::k) Q Y):pw P c (.code (.region id m O)::k) Q Y:=by
 subst A;exact⟨v,0,o,w,h⟩
def XA(h:List DE)(m:List Oper):List (Nat×Nat)->List (Nat×Nat)->Bool
 |[],T=>KG h m T
 |p::o,T=>XA h m o ((p.1,p.2)::T)&&XA h m o ((p.2,p.1)::T)
@[go_sem ↓] theorem zDw :pw P c (.iE pre []::k) Q Y=pw P c k Q Y:=rfl
def iJ:Op->Bool
 | .call ⟨.value _,_,_⟩=>O
 |_=>Z
def r9(P:Program)(c:aW)(ext:Bool)(W:TypeId)(S:Op)(d:Option Tmp)(k:List iG)(Q:Exit->ae->Prop)(Y:ae):Prop:=sJ P c ext ⟨d,S,W, "",#[],aa⟩ (pw P c k Q) Y
def ZC{o o':Oper}{m:ae->Prop}(h:o.op=o'.op)(hd:o.dst=o'.dst)(r:o.type=o'.type):sJ P c ext o m Y=sJ P c ext o' m Y:=by
 obtain⟨d,S,W,ps,w,g⟩:=o;obtain⟨B,op',v,ps',A,C⟩:=o';simp only at h hd r;subst h;subst hd;subst r;rfl
@[go_sem ↓] def zSj{e:DE}{o:String}{m:Array Edge}{l:List (DE×Oper)}(h:(xX Y e.rg e.ls e.sl&&C6 Y e.mr)=O):
 pw P c (.iE pre ((e,⟨d,S,W,o,m,aa⟩)::l)::k) Q Y=r9 P c e.ex W S d (.iE pre l::k) Q Y:=by
 show Gu P c pre e ⟨d,S,W,o,m,aa⟩ (pw P c (.iE pre l::k) Q) Y=_;simp only[Gu,h,pR,H4];exact ZC rfl rfl rfl
def jG(P:Program)(c:aW)(y:Option (Option Bool))(b:Bool)(ext:Bool)(W:TypeId)(S:Op)(d:Option Tmp)(k:List iG)(Q:Exit->ae->Prop)(Y:ae):Prop:=
 l6 c b d (r9 P c ext W S d k Q Y) (pw P c k Q) Y y
def zvP{y m:Option (Option Bool)}{b ext:Bool}{W:TypeId}{S:Op}{d:Option Tmp}(h:y=m):jG P c y b ext W S d k Q Y=jG P c m b ext W S d k Q Y:=by rw[h]
attribute [congr] zvP
@[go_sem ↓] def zPB{e:DE}{r:String}{m:Array Edge}{l:List (DE×Oper)}(h:(xX Y e.rg e.ls e.sl&&C6 Y e.mr)=O):
 pw P c (.iE pre ((e,⟨d,S,W,r,m,J (j,b)⟩)::l)::k) Q Y=jG P c (Ca Y pre[j]?) b e.ex W S d (.iE pre l::k) Q Y:=by
 show Gu P c pre e ⟨d,S,W,r,m,J (j,b)⟩ (pw P c (.iE pre l::k) Q) Y=_;simp only[Gu,h,pR,H4];unfold jG r9;rw[ZC (o:=⟨d,S,W,r,m,J (j,b)⟩) (o':=⟨d,S,W, "",#[],aa⟩) rfl rfl rfl]
@[go_sem ↓] def zOY :jG P c (J (J O)) O ext W S d k Q Y=r9 P c ext W S d k Q Y:=by simp[jG,l6]
@[go_sem ↓] def zOh :jG P c (J (J Z)) Z ext W S d k Q Y=r9 P c ext W S d k Q Y:=by simp[jG,l6]
@[go_sem ↓] def zNQ{d:Tmp}(h:ia c d .skip=O):jG P c (J (J O)) Z ext W S (J d) k Q Y=pw P c k Q (Y.put d .skip):=by simp[jG,l6,v5,h]
@[go_sem ↓] def zNN{d:Tmp}(h:ia c d .skip=O):jG P c (J (J Z)) O ext W S (J d) k Q Y=pw P c k Q (Y.put d .skip):=by simp[jG,l6,v5,h]
@[go_sem ↓] def zRe{d:Tmp}(h:ia c d .skip=O):jG P c (J aa) b ext W S (J d) k Q Y=pw P c k Q (Y.put d .skip):=by simp[jG,l6,v5,h]
def zwj{y:Bool}(h:y=O->jG P c (J (J O)) b ext W S d k Q Y)(m:y=Z->jG P c (J (J Z)) b ext W S d k Q Y):jG P c (J (J y)) b ext W S d k Q Y:=by
 cases y
 ·exact m rfl
 ·exact h rfl
@[go_sem ↓] def zSk(r:iJ S=Z)(o:(!ext||gV S)=O):r9 P c ext W S d k Q Y=pw1 P c c.Dm W S d k Q Y:=by
 have m:ext=O->gV S=O:=by intro h;subst h;simpa using o
 unfold r9 sJ pw1;split
 ·simp_all [iJ]
 ·simp only[QB];exact⟨λh=>h.2,λh=>⟨m,h⟩⟩
@[go_sem] def zTa{o rg:List Nat}{m:Option Nat}{h a:Bool}:DE.ex ⟨i,o,rg,m,h,a,b⟩=(a&& !b):=(rfl)
@[go_sem ↓] def zRh :r9 P c Z W (.call ⟨.value f,args,F⟩) d k Q Y=pw1 P c c.Dm W (.call ⟨.value f,args,F⟩) d k Q Y:=by
 unfold r9 sJ pw1;simp
def zy7{l:List (Md×Nat×Operand)}
(hl:(List.replicate args.toList.length Md.sh).zip (iM P args.toList F.toList)=l)(A:oR Y l=J (K,N))(C:p9 N f=J (g,T,H))(B:eY N l K=J L)
(has:T.map (λx=>(Md.sh,x))++L++H.map (λx=>(Md.sh,x))=E)(h:aq P g E R)
(hk:∀r m,R r m->(l.any (te N)=Z\/(cV r&&m.all cV)=O)/\qv P c c ((back c.nt N l (m.drop T.length)).map λp=>(.v r,p)) d k Q):r9 P c O W (.call ⟨.value f,args,F⟩) d k Q Y:=by
 refine⟨by simp,?_⟩;rw[hl,A];show zB P c d (pw P c k Q) N l (p9 N f) (eY N l K);rw[C,B];show aq P g _ _;rw[has];refine h.mono λr m hr=>?_
 obtain⟨w,o⟩:=hk r m hr;refine⟨w,?_⟩;cases v:back c.nt N l (m.drop T.length)with
 |none=>rw[v]at o;exact o
 |some p=>rw[v]at o;exact o
def zue{f:FuncId}{m:Func}{o:Code}(fz hp:List Nat)(w:aC P f)(A:P.funcs[f]? =J m)(v:m.body=J o)(B:L.length<=m.ntmps)
(h:pw P ⟨m.ntmps,j9 0 L,fz,hp⟩ [.code o] (uc P m.results.toList L R) (sR L)):aq P f L R:=by
 refine zsb (fz:=fz) (hp:=hp) w A v B ?_;have e:fU P ⟨m.ntmps,j9 0 L,fz,hp⟩ [] (uc P m.results.toList L R)=uc P m.results.toList L R:=by funext e;cases e<;>rfl
 have r:gG P ⟨m.ntmps,j9 0 L,fz,hp⟩ o (fU P ⟨m.ntmps,j9 0 L,fz,hp⟩ [] (uc P m.results.toList L R)) (sR L):=h
 rwa [e]at r
@[go_sem] def zI6{h:List ResultVar}:uc P h L R .ret Y=Gk L R (uN P Y h):=(rfl)
@[go_sem] def zDL{h:List ResultVar}:uc P h L R .normal Y=Gk L R (uN P Y h):=(rfl)
@[go_sem] def zEm{x:List PV}:Gk L R (J (x,Y))=R (I5 x) (mq Y 0 L):=(rfl)
@[go_sem] def zHV:uN P Y []=J ([],Y):=(rfl)
@[go_sem] def zFY{x:ResultVar}{T:List ResultVar}:uN P Y (x::T)=(De P Y x).bind λa=>(uN P a.2 T).map λb=>(a.1::b.1,b.2):=(rfl)
@[go_sem] def zIB{t:Tmp}:De P Y (.tmp t)=if rQ (Y t)=O then aa else ml Y t (Y t):=(rfl)
@[go_sem] def zFH{t:Tmp}:De P Y (.cell t W)=EM Y t (Y t) (tk P W):=(rfl)
@[go_sem] def zNE{t h:Nat}:EM Y t (.bl G) (J (O,h))=if h=G.length then J (.agg G,(Y.bV t jP).kill t 0)else aa:=by cases G<;>rfl
@[go_sem] def zNG{t h:Nat}{x:PV}:EM Y t (.bl (x::G)) (J (Z,h))=J (x,(Y.bV t jP).kill t 0):=(rfl)
@[go_sem] def zQJ{x:PV}:rQ (.v x)=Z:=(rfl)
@[go_sem] def zNF :rQ (.rf s p)=Z:=(rfl)
@[go_sem] def zPe :rQ (.rv s p D hi)=Z:=(rfl)
@[go_sem] def zOl :rQ (.ra s p i j n)=Z:=(rfl)
@[go_sem] def zPV :rQ (.ls M U)=O:=(rfl)
@[go_sem] def zPt :rQ (.pt s p i j)=Z:=(rfl)
@[go_sem] def zOk :rQ (.bl G)=Z:=(rfl)
@[go_sem] def zNX{t:Tmp}:xc Y (.tmp t)=rQ (Y t):=(rfl)
@[go_sem] def zIs{v:Value}:xc Y (.const v)=Z:=(rfl)
@[go_sem] def zMW :xc Y (.func g)=Z:=(rfl)
@[go_sem] def zK8:I5 []=.az:=(rfl)
@[go_sem] def zLC{x:PV}:I5 [x]=x:=(rfl)
@[go_sem] def zKZ{x:PV}{l:List PV}:I5 (x::y::l)=.bR (x::y::l):=(rfl)
@[go_sem] def zI7 :mq Y n []=[]:=(rfl)
@[go_sem] def zNk{x:PV}:mq Y n ((.io,x)::l)=P8 (Y n)::mq Y (n+1) l:=(rfl)
@[go_sem] def zQh{x:PV}:mq Y n ((.sh,x)::l)=.az::mq Y (n+1) l:=(rfl)
@[go_sem] def zPS{x:PV}:mq Y n ((.mv,x)::l)=.az::mq Y (n+1) l:=(rfl)
@[go_sem] def zSi{x:PV}:P8 (.v x)=x:=(rfl)
@[go_sem] def zQr :j9 n []=[]:=(rfl)
@[go_sem] def zQ1{x:PV}:j9 n ((.io,x)::l)=n::j9 (n+1) l:=(rfl)
@[go_sem] def zRp{x:PV}:j9 n ((.sh,x)::l)=j9 (n+1) l:=(rfl)
@[go_sem] def zR6{x:PV}:j9 n ((.mv,x)::l)=j9 (n+1) l:=(rfl)
end
end Go.Pm
