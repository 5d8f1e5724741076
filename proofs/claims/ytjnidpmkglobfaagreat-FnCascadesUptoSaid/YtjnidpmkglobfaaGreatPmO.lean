import Derived.Test.YtjnidpmkglobfaaGreatPmN
open Bool renaming false→Z,true→O
open Option renaming none→aa,some→J
set_option linter.defProp false
namespace Go.Pm
open Go.Am
def jt:=@Bool.true_and
def a1J:=@Nat.ne_of_gt
inductive Md where
 |sh|mv|io
def cV:PV->Bool
 | .sl o _ a=>o&&a.attach.all λ⟨r,_⟩=>r.attach.all λ⟨x,_⟩=>cV x
 | .bx R=>R.attach.all λ⟨x,_⟩=>cV x
 | .agg R=>R.attach.all λ⟨x,_⟩=>cV x
 | .bR d=>d.attach.all λ⟨x,_⟩=>cV x
 | .fp _=>Z
 | .func _ _ _=>Z
 |_=>O
decreasing_by
 all_goals simp_wf
 all_goals
  first
   |(have b:=Mi ‹_∈_›;omega)
   |(have b:=Mi ‹x∈r›;have e:=Mi ‹r∈a›;omega)
variable{R:List PV}
def zoS{o:Bool}{b:Nat}{a:List (List PV)}:cV (.sl o b a)=(o&&a.all (·.all cV)):=by simp[cV]
def zsS :cV (.bx R)=R.all cV:=by simp[cV]
def zq1 :cV (.agg R)=R.all cV:=by simp[cV]
def zqS :cV (.bR R)=R.all cV:=by simp[cV]
def PR.a0r{E E':Env}{l:Lo}{x:PV}{v:Value}(h:PR E l x v):cV x=O->∀{l':Lo},dC E E' l l'->PR E' l' x v:=by
 induction h with
 |az v=>intro _ l' _;exact .az v
 |bool b=>intro _ l' _;exact .bool b
 |int k n=>intro _ l' _;exact .int k n
 |str s=>intro _ l' _;exact .str s
 |gy=>intro _ l' _;exact .gy
 |fX=>intro _ l' _;exact .fX
 |gU=>intro _ l' _;exact .gU
 |sl0 o L=>intro _ l' _;exact .sl0 o L
 |jX g m H d G I f h ih=>intro d;simp[zoS]at d
 |fN u g m A H d G I f h ih=>
  intro w l' e;rename_i l _ _ _ _ _ _ _;rw[zoS,jt,bc]at w;cases l' with
  |none=>exact absurd (e _ [] (by simpa using u)) g
  |some b=>
   have F:∀id r,E.ow id=J (l.1,l.2++r)->¬E.G id->E'.ow id=J (b.1,b.2++r)/\¬E'.G id/\E'.H.b id=E.H.b id:=e;obtain⟨B,C,D⟩:=F _ [] (by simpa using u) g;rw[<-D]at m;exact .fN (by simpa using B) C m A H d G I f λi r j x y q z K=>ih i r j x y q z K (bc.1 (w r (eD q)) x (eD z)) (dC.ch (l:=J l) (l':=J b) e i j)
 |fp g m f h ih=>intro d;simp[cV]at d
 |bx u g m A f h ih=>
  intro w l' e;rename_i l _ _ _;rw[zsS,bc]at w;cases l' with
  |none=>exact absurd (e _ [] (by simpa using u)) g
  |some b=>
   have F:∀id r,E.ow id=J (l.1,l.2++r)->¬E.G id->E'.ow id=J (b.1,b.2++r)/\¬E'.G id/\E'.H.b id=E.H.b id:=e;obtain⟨B,C,D⟩:=F _ [] (by simpa using u) g;rw[<-D]at m;exact .bx (by simpa using B) C m A f λj x y q z=>ih j x y q z (w x (eD q)) (dC.ch (l:=J l) (l':=J b) e 0 j)
 |func N f kl h k ih ik=>intro d;simp[cV]at d
 |agg f h ih=>intro d l' e;rw[zq1,bc]at d;exact .agg f λj x y a b=>ih j x y a b (d x (eD a)) (e.ch 0 j)
 |bR f M h ih=>intro d l' e;rw[zqS,bc]at d;exact .bR f M λj x y a b=>ih j x y a b (d x (eD a)) (e.ch 0 j)
def KY(E:Env)(k:Nat)(a:Md×PV)(v:Value):Prop:=
 match a.1 with
 | .sh=>PR E aa a.2 v
 |_=>PR E (J (k,[])) a.2 v
structure a0V (E E':Env) (n:Nat) (vs:List Value) (r:PV) (rv:Value) (outs:List PV):Prop where
 ok:ew E'
 since:gi E E'
 r:PR E' (J (n,[])) r rv
 len:outs.length=n
 o:∀(k:Nat) (y:PV) (v:Value),outs[k]? =J y->vs[k]? =J v->PR E' (J (k,[])) y v
def aq(P:Program)(f:FuncId)(d:List (Md×PV))(h:PV->List PV->Prop):Prop:=
 aC P f/\∀(E:Env) (b:List Value),ew E->b.length=d.length->(∀(k:Nat) (a:Md×PV) (v:Value),d[k]? =J a->b[k]? =J v->KY E k a v)->
  qH P f b E.H λi g=>∃r e E',h r e/\E'.H=g/\a0V E E' d.length b r i e
def aq.mono{P:Program}{f:FuncId}{i:List (Md×PV)}{e g:PV->List PV->Prop}(h:aq P f i e)(m:∀r d,e r d->g r d):aq P f i g:=
 ⟨h.1,λE n j k l=>(h.2 E n j k l).mono λ_ _ ⟨r,d,E',a,b⟩=>⟨r,d,E',m r d a,b⟩⟩
def ic(s:Nat):PF->PF
 | .rf a []=>.rf a []
 | .cl a g b=>.cl a g b
 |y=>dr s 0 y
def ae.ic(Y:ae)(s:Nat):ae:=λt=>Go.Pm.ic s (Y t)
def rK(Y:ae)(s:Nat)(p:aB)(y:PV):Option ae:=
 match p with
 |[]=>J ((Y.bV s (.v y)).ic s)
 |a::p=>iL Y s (a::p) y
def AR(Y:ae)(t s:Nat)(p:aB)(y:PV):Option (PV×ae):=if bI y=O then(rK Y s p .az).map λT=>(y,(T.kill t 0).bV t (.rf s p))else aa
def zBW(Y:ae)(t s:Nat)(p:aB):PF->Option (PV×ae)
 | .bl _=>match p with
  |[]=>aa
  |_=>(cj Y s p).bind λy=>match y with
   | .bx R=>AR Y t s p (.bx R)
   |_=>aa
 |_=>(cj Y s p).bind λy=>match y with
  | .bx R=>AR Y t s p (.bx R)
  |_=>aa
def zk(Y:ae)(t:Nat):PF->Option (PV×ae)
 | .v y=>if bI y=O then(rK Y t [] .az).map λT=>(y,T)else aa
 | .rf s p=>(cj Y s p).bind (AR Y t s p)
 | .pt s p i j=>if i=0/\j=0 then zBW Y t s p (Y s)else aa
 |_=>aa
def Hn(Y:ae):Operand->Option (PV×ae)
 | .tmp t=>zk Y t (Y t)
 |_=>aa
def ri(Y:ae)(t:Nat):PF->ae
 | .ls a b=>(Y.bV t (.v (.sl O a b))).kill t 0
 |_=>Y
def rO(Y:ae):Operand->ae
 | .tmp t=>ri Y t (Y t)
 |_=>Y
def y7:PF->Bool
 | .v x=> !dv x
 | .rf _ _| .rv _ _ _ _| .ra _ _ _ _ _| .ls _ _=>O
 |_=>Z
def zy(Y:ae):Operand->Bool
 | .tmp t=>y7 (Y t)
 | .const c=>cD c
 | .func _=>O
 | .global _=>Z
def zS(Y:ae)(a:Md)(e:Nat)(x:Operand):Option (PV×ae):=
 match a with
 | .sh=>if zy Y x=O then J (.az,rO Y x)else aa
 | .mv=>eJ e Y x
 | .io=>Hn Y x
def oR(Y:ae):List (Md×Nat×Operand)->Option (List PV×ae)
 |[]=>J ([],Y)
 |a::b=>(zS Y a.1 a.2.1 a.2.2).bind λy=>(oR y.2 b).map λz=>(y.1::z.1,z.2)
def wP(e:Nat)(Y:ae):Operand->Option PV
 | .const c=>if cD c=O then J (nz e c)else aa
 | .func f=>J (.func (.func f) [] [])
 | .tmp t=>d5 Y (Y t)
 | .global _=>aa
def JY(y:Option PV):Option PV:=y.bind λy=>if dv y=O then aa else J (drop y)
def yq(Y:ae)(a:Md×Nat×Operand)(y:PV):Option (Md×PV):=
 match a.1 with
 | .sh=>(JY (wP a.2.1 Y a.2.2)).map λz=>(.sh,z)
 |m=>J (m,y)
def eY(Y:ae):List (Md×Nat×Operand)->List PV->Option (List (Md×PV))
 |[],[]=>J []
 |a::d,y::f=>(yq Y a y).bind λb=>(eY Y d f).map λe=>b::e
 |_,_=>aa
def te(Y:ae)(a:Md×Nat×Operand):Bool:=
 match a.1,a.2.2 with
 | .sh,.tmp t=>(d5 Y (Y t)).any bI
 |_,_=>Z
def Fy(X:Nat)(Y:ae)(t:Nat)(y:PV):PF->Option ae
 | .rf s p=>rK Y s p y
 |_=>if t<X then rK Y t [] y else aa
def xP(X:Nat)(Y:ae)(a:Md×Nat×Operand)(y:PV):Option ae:=
 match a.1,a.2.2 with
 | .io,.tmp t=>Fy X Y t y (Y t)
 |_,_=>J Y
def back(X:Nat)(Y:ae):List (Md×Nat×Operand)->List PV->Option ae
 |[],_=>J Y
 |a::b,y::d=>(xP X Y a y).bind λT=>back X T b d
 |_::_,[]=>aa
def PM:PF->Option (FuncId×List PV×List PV)
 | .v (.func (.func g) b a)=>J (g,b,a)
 |_=>aa
def p9(Y:ae):Operand->Option (FuncId×List PV×List PV)
 | .func g=>J (g,[],[])
 | .tmp t=>PM (Y t)
 |_=>aa
def LI(c:aW)(d:Option Tmp)(K:ae->Prop)(r:PV):Option ae->Prop
 |some a=>dI c K d (.v r) a
 |none=>False
def Uj(P:Program)(c:aW)(d:Option Tmp)(K:ae->Prop)(a:ae)(l:List (Md×Nat×Operand))(f:FuncId)(e h:List PV)(g:List (Md×PV)):Prop:=
 aq P f (e.map (λx=>(.sh,x))++g++h.map (λx=>(.sh,x))) λr b=>(l.any (te a)=Z\/(cV r&&b.all cV)=O)/\LI c d K r (back c.nt a l (b.drop e.length))
def zB(P:Program)(c:aW)(d:Option Tmp)(K:ae->Prop)(a:ae)(l:List (Md×Nat×Operand)):Option (FuncId×List PV×List PV)->Option (List (Md×PV))->Prop
 |some (f,g,e),J b=>Uj P c d K a l f g e b
 |_,_=>False
def Ut(P:Program)(c:aW)(f:Operand)(d:Option Tmp)(K:ae->Prop)(l:List (Md×Nat×Operand)):Option (List PV×ae)->Prop
 |some (b,a)=>zB P c d K a l (p9 a f) (eY a l b)
 |none=>False
def iM(P:Program):List Operand->List TypeId->List (Nat×Operand)
 |[],_=>[]
 |x::a,[]=>(0,x)::iM P a []
 |x::a,t::b=>(dj P t,x)::iM P a b
def Kz(P:Program)(c:aW)(f:Operand)(args:List Operand)(b:List TypeId)(d:Option Tmp)(K:ae->Prop)(Y:ae)(a:List Md):Prop:=
 a.length=args.length/\Ut P c f d K (a.zip (iM P args b)) (oR Y (a.zip (iM P args b)))
def Y3(P:Program)(c:aW)(f:Operand)(args:List Operand)(d:Option Tmp)(K:ae->Prop)(Y:ae):Prop:=∃(g:FuncId) (x:Operand) (t:TypeId) (n:Int) (z:Nat×Nat×List PV),f=.func g/\args=[.const (.slice aa 0 0),x]/\R8 P g t/\cr Y x=J (.int .i64 n)/\ez P t=J z/\
 (0<=n/\z.2.1*n<=140737488355328/\n<=4611686018427387904)/\dI c K d (.v (.sl O z.1 [])) Y
def Ng:PF->Option (Nat×FuncId×List PV)
 | .cl s g a=>J (s,g,a)
 |_=>aa
def wA(Y:ae):Operand->Option (Nat×FuncId×List PV)
 | .tmp t=>Ng (Y t)
 |_=>aa
def Lc(P:Program)(c:aW)(f:Operand)(d:Option Tmp)(K:ae->Prop)(l:List (Md×Nat×Operand))(x:Nat×FuncId×List PV):Option (List PV×ae)->Prop
 |some (b,a)=>wA a f=J x/\zB P c d K a l (J (x.2.1,[],x.2.2)) (eY a l b)
 |none=>False
def zx9(P:Program)(c:aW)(f:Operand)(args:List Operand)(b:List TypeId)(d:Option Tmp)(K:ae->Prop)(Y:ae):Prop:=
 ∃(a:List Md) (x:Nat×FuncId×List PV),wA Y f=J x/\a.length=args.length/\Lc P c f d K (a.zip (iM P args b)++[(.io,0,.tmp x.1)]) x (oR Y (a.zip (iM P args b)++[(.io,0,.tmp x.1)]))
def ZN(P:Program)(c:aW)(f:Operand)(args:List Operand)(a:List TypeId)(d:Option Tmp)(K:ae->Prop)(Y:ae):Prop:=(∃b,Kz P c f args a d K Y b)\/Y3 P c f args d K Y\/zx9 P c f args a d K Y
section
variable {X:Nat}{S:List (Nat×Value)}{U E E':Env}{Y:ae}{W Q:FR}{c:aW}{P:Program}
variable{fl:List (PV×Value)}{p:aB}{T:ae}{s t:Nat}{v:Value}{x:Operand}{y:PV}
def ztr{H g:AH}(h:bm W H x=J (v,Q,g)):(∀t,x=.tmp t->Q t=.v v)/\∀s u,W s=.v u->Q s=.v u:=by
 cases x with
 |tmp t=>
  simp only[bm]at h;split at h
  ·rename_i y d;simp only[aS,b9]at h;obtain⟨rfl,rfl,rfl⟩:=h;exact⟨λi e=>by cases e;exact d,λs u h=>h⟩
  ·rename_i a b cs d;simp only[aS,b9]at h;obtain⟨rfl,rfl,rfl⟩:=h;refine⟨λi e=>by cases e;simp[FR.put],λs u h=>?_⟩;have:s≠t:=λe=>by rw[e,d]at h;cases h
   simp[FR.put,this,h]
  ·cases h
 |const k=>simp only[bm,bL,b9]at h;obtain⟨y,f,rfl,rfl,rfl⟩:=h;exact⟨λt e=>(by cases e),λs u h=>h⟩
 |func k=>simp only[bm,bL,b9]at h;obtain⟨y,f,rfl,rfl,rfl⟩:=h;exact⟨λt e=>(by cases e),λs u h=>h⟩
 |global k=>simp only[bm,bL,b9]at h;obtain⟨y,f,rfl,rfl,rfl⟩:=h;exact⟨λt e=>(by cases e),λs u h=>h⟩
def au.a2y(r:au X S U E Y W)(i:t<X)(g:s<X)(j:∀u,bA (Y u)≠J t)(a:W t=.v v)(d:Wk E W s p v):au X S U E (Y.bV t (.rf s p)) W:=by
 refine⟨r.since,r.wf,r.fresh,λu=>?_,λu b=>?_,λu f h=>?_,r.pin⟩
 ·by_cases e:u=t
  ·subst e;simp only[ae.bV,e7];exact⟨v,a,d⟩
  ·simp only[ae.bV,aA e];exact r.f u
 ·have:u≠t:=by omega
  simp only[ae.bV,aA this];exact r.hi u b
 ·by_cases e:u=t
  ·subst e;simp only[ae.bV,e7,bA,aS]at h;omega
  ·simp only[ae.bV,aA e]at h;exact r.rt u f h
def NA(r:au X S U E Y W)(h:Y t≠jP):t<X:=by
 rcases dS t X with a|a
 ·exact a
 ·exact absurd (r.hi t a) h
def Wk.fD{b:Nat×aB}(h:Wk E W s p v):Wk (E.rl (fD (s,p) b)) W s p v:=by
 cases m:p with
 |nil=>
  rw[m]at h;exact .inl ⟨v,FY h,rfl⟩
 |cons ax1 qx1=>
  rw[<-m];have hlen:p.length=qx1.length+1:=by rw[m];rfl
  have C:∀id r,E.ow id=J (s,r)->¬E.G id->r.length<p.length->(E.rl (Go.Pm.fD (s,p) b)).ow id=J (s,r):=λid r e f o=>by
   have:¬p<+:r:=λz=>by have:=z.length_le;omega
   simp[Env.rl,e,Go.Pm.fD,this]
  have w:∀(a:aB) (d:aB) (v g:Value),d.length+a.length<=p.length->Wv E (s,d) v a g->Wv (E.rl (Go.Pm.fD (s,p) b)) (s,d) v a g:=by
   intro a;induction a with
   |nil=>intro d v g _ h;exact h
   |cons A a ih=>
    obtain⟨i,j⟩:=A;intro d v g M K;obtain⟨id,ox1,k,y,n,D,F,G,H⟩:=K;simp only[fG]at M;have u:=n.ow;have q:=C id d u.1 u.2 (by omega);refine⟨id,ox1,k,y,?_,D,F,G,ih (d++[(i,j)]) _ _ (by simp;omega) H⟩;cases n with
    |sl N l L=>exact .sl (j:=0) q l L
    |bx N l=>exact .bx q l
  rcases h with⟨r,e,f⟩|⟨B,j,a,y,e,f,o,I⟩
  ·exact .inl ⟨r,e,w p [] r v (by simp) f⟩
  ·exact .inr ⟨B,j,a,y,e,f,o,w a [(0,j)] y v (by rw[f];simp;omega) I⟩
def au.Xi(r:au X S U E Y W){a:ae}(h:∀t,a t=Y t\/a t=jP):au X S U E a W:=by
 refine⟨r.since,r.wf,r.fresh,λt=>?_,λt d=>?_,λt s b=>?_,r.pin⟩
 ·rcases h t with e|e<;>rw[e]
  ·exact r.f t
  ·exact ym
 ·rcases h t with e|e<;>rw[e]
  exact r.hi t d
 ·rcases h t with e|e<;>rw[e]at b
  ·exact r.rt t s b
  ·simp[jP,bA]at b
def zyj(s n:Nat):∀t,(Y.kill s n) t=Y t\/(Y.kill s n) t=jP:=λt=>by
 simp only[ae.kill,dr];split
 ·exact .inr rfl
 ·exact .inl rfl
def zxG(r:au X S U E Y W)(d:t<X)(b:s<X)(a:W t=.v v)(f:Wk E W s p v):au X S U E ((Y.kill t 0).bV t (.rf s p)) W:=
 (r.Xi (zyj t 0)).a2y d b (λu=>by
   simp only[ae.kill,dr];split
   ·simp[jP,bA]
   ·rename_i h;exact λe=>h ⟨e,Mk _⟩) a f
def UX(r:au X S U E Y W)(h:rK Y s p y=J T):∃F,iL Y s p y=J F/\∀{E':Env},GK E E'->au X S U E' F W->au X S U E' T W:=by
 cases p with
 |cons a p=>exact⟨T,h,λ_ h=>h⟩
 |nil=>
  simp only[rK,aS]at h;subst h;refine⟨(Y.bV s (.v y)).kill s 0,rfl,λ{E'} L m=>?_⟩
  have C:∀u,((Y.bV s (.v y)).ic s) u=((Y.bV s (.v y)).kill s 0) u\/(∃d,((Y.bV s (.v y)).ic s) u=.rf d []/\Y u=.rf d [])\/∃d g n,((Y.bV s (.v y)).ic s) u=.cl d g n/\Y u=.cl d g n:=by
   intro u;simp only[ae.ic,ae.kill,ae.bV];split
   ·left;simp[Go.Pm.ic]
   ·cases k:Y u with
    |rf d z=>
     cases z with
     |nil=>right;left;exact⟨d,rfl,rfl⟩
     |cons a z=>left;rfl
    |cl d g n=>right;right;exact⟨d,g,n,rfl,rfl⟩
    |_=>left;rfl
  refine⟨m.since,m.wf,m.fresh,λu=>?_,λu k=>?_,λu D k=>?_,m.pin⟩
  ·rcases C u with e|⟨d,e,f⟩|⟨d,g,n,e,f⟩
   ·rw[e];exact m.f u
   ·rw[e];have q:=r.f u;rw[f]at q;obtain⟨v,A,B⟩:=q;refine⟨v,A,?_⟩;rcases B with⟨w,o,l⟩|⟨G,j,z,N,o,l,H⟩
    ·exact .inl ⟨w,o,l⟩
    ·cases l
   ·rw[e];have q:=r.f u;rw[f]at q;obtain⟨v,M,A,B,I,K⟩:=q;refine⟨v,M,A,?_,I,λi x y a b=>(K i x y a b).mono L⟩;rcases B with⟨w,o,l⟩|⟨G,j,z,N,o,l,H⟩
    ·exact .inl ⟨w,o,l⟩
    ·cases l
  ·rcases C u with e|⟨d,e,f⟩|⟨d,g,n,e,f⟩
   ·rw[e];exact m.hi u k
   ·have:=r.hi u k;rw[f]at this;cases this
   ·have:=r.hi u k;rw[f]at this;cases this
  ·rcases C u with e|⟨d,e,f⟩|⟨d,g,n,e,f⟩
   ·rw[e]at k;exact m.rt u D k
   ·rw[e]at k;exact r.rt u D (by rw[f];exact k)
   ·rw[e]at k;exact r.rt u D (by rw[f];exact k)
def WU(r:au X S U E Y W){k:Nat}{d:ae}(g:s<X)(i:Wk E W s p v)(a:iL Y s p .az=J d):au X S U (E.rl (fD (s,p) (X,[(0,k)]))) d W:=by
 refine r.setAt g i a rfl oi d7 (λt _ h=>jd λr=>lF h) (λid e=>?_) (λid q a b f=>?_) (.az _)
 ·obtain⟨a,b⟩:=r.fresh id e;exact⟨by simp[Env.rl,a],b⟩
 ·exact⟨by simp[Env.rl,a,fD,f],b⟩
def zq4(r:au X S U E Y W)(i:eA X E fl){x:PV}(l:t<X)(b:s<X)(d:cj Y s p=J x)(g:W t=.v v)(a:Wk E W s p v)(h:AR Y t s p x=J (y,T)):
 ∃E',E'.H=E.H/\au X S U E' T W/\eA X E' (fl++[(y,v)]):=by
 unfold AR at h;split at h
 ·rename_i j;simp only[bL,b9]at h;obtain⟨o,f,rfl,rfl⟩:=h;have n:x≠.az:=by rintro rfl;simp[bI]at j
  have k:=jb r a d;obtain⟨u,e,m⟩:=r.at d n k;have:=e.same a;subst this;refine⟨E.rl (fD (s,p) (X,[(0,fl.length)])),rfl,?_,?_⟩
  ·refine zxG (by
    obtain⟨q,q1,q2⟩:=UX r f;refine q2 d7 ?_
    exact(WU r b a q1)) l b g a.fD
  ·exact(i.stay d7 (jd λr=>lF (by show X≠s;omega))).snoc (m.move d7 (mi λr=>zgn _ _ r))
 ·cases h
def zyk(r:au X S U E Y W)(u:eA X E fl)(h:Hn Y x=J (y,T)):
 ∃v E',(∀H,bm W H x=J (v,W,H))/\E'.H=E.H/\au X S U E' T W/\eA X E' (fl++[(y,v)]):=by
 cases x with
 |tmp t=>
  simp only[Hn]at h;have b:=r.f t;have i:t<X:=NA r (by intro e;rw[e]at h;simp[zk,jP,bI]at h);cases a:Y t with
  |v x=>
   rw[a]at h b;simp only[zk]at h;split at h
   ·rename_i M;have uP:x≠.az:=by rintro rfl;simp[bI]at M
    simp only[bL,b9]at h;obtain⟨aR,g,rfl,rfl⟩:=h;obtain⟨v,f,o⟩:=gu b uP;obtain⟨bU,q1,q2⟩:=UX r g;have hw:Wk E W t [] v:=.inl ⟨v,f,rfl⟩;refine⟨v,E.rl (fD (t,[]) (X,[(0,fl.length)])),λH=>by simp[bm,f],rfl,q2 d7 (WU r i hw q1),?_⟩;exact(u.stay d7 (jd λr=>lF (a1J i))).snoc (o.move d7 (mi λr=>zgn _ _ r))
   ·cases h
  |rf s p=>
   rw[a]at h b;simp only[zk,bT]at h;obtain⟨x,k,h⟩:=h;obtain⟨v,f,o⟩:=b;obtain⟨E',l,m,n⟩:=zq4 r u i (r.rt t s (by rw[a];rfl)) k f o h;exact⟨v,E',λH=>by simp[bm,f],l,m,n⟩
  |pt s p ix1 j=>
   rw[a]at h b;have hs:=r.rt t s (by rw[a];rfl);simp only[zk]at h;split at h
   case isFalse=>cases h
   rename_i yL;obtain⟨rfl,rfl⟩:=yL
   have D:∀R,cj Y s p=J (.bx R)->(p≠[]\/∃y,Y s=.v y)->AR Y t s p (.bx R)=J (y,T)->∃v E',(∀H,bm W H (.tmp t)=J (v,W,H))/\E'.H=E.H/\au X S U E' T W/\eA X E' (fl++[(y,v)]):=by
    intro R k C N;obtain⟨v,w,w2⟩:=r.at k (by simp) C
    have F:W t=.v v:=by
     rcases b with⟨cells,g,q,B,h4⟩|⟨v0,id,ox1,g,q,B⟩
     ·subst q;rcases C with h|⟨z,d⟩
      ·exact absurd rfl h
      ·have I:=r.f s;rw[d]at I;have:=FY w;rw[g]at this;cases this
     ·have:=g.same w;subst this;cases w2 with
      |bx how hG hb aY hl hh=>
       cases q with
       |bx _ _=>exact B
    obtain⟨E',l,m,n⟩:=zq4 r u i hs k F w N;exact⟨v,E',λH=>by simp[bm,F],l,m,n⟩
   unfold zBW at h;split at h
   ·split at h
    ·cases h
    ·rename_i L;obtain⟨z,d,h⟩:=bT.1 h;split at h
     ·exact D _ d (.inl λe=>L e) h
     ·cases h
   ·rename_i K;obtain⟨z,d,h⟩:=bT.1 h;split at h
    ·refine D _ d ?_ h;by_cases G:p=[]
     ·right;cases A:Y s with
      |v y=>exact⟨y,rfl⟩
      |bl R=>exact absurd A (K R)
      |_=>simp[cj,A,fS]at d
     ·exact .inl G
    ·cases h
  |_=>rw[a]at h;simp[zk]at h
 |_=>simp[Hn]at h
def zvs(r:au X S U E Y W)(m:eA X E fl){A:Md}{e:Nat}(h:zS Y A e x=J (y,T)):
 ∃v Q E',bm W E.H x=J (v,Q,E'.H)/\au X S U E' T Q/\eA X E' (fl++[(y,v)]):=by
 cases A with
 |mv=>
  obtain⟨v,Q,H',E',l,n,z,q⟩:=wz r m h;exact⟨v,Q,E',by rw[n];exact l,z,q⟩
 |io=>
  obtain⟨v,E',l,n,z,q⟩:=zyk r m h;exact⟨v,W,E',by rw[l,n],z,q⟩
 |sh=>
  simp only[zS]at h;split at h
  ·rename_i d;simp only[aS,b9]at h;obtain⟨rfl,rfl⟩:=h
   have g:∀v,bm W E.H x=J (v,W,E.H)->rO Y x=Y->∃v Q E',bm W E.H x=J (v,Q,E'.H)/\au X S U E' (rO Y x) Q/\eA X E' (fl++[(.az,v)]):=
    λv l N=>⟨v,W,E,l,by rw[N];exact r,m.snoc (.az v)⟩
   cases x with
   |tmp t=>
    simp only[zy]at d;have b:=r.f t;cases a:Y t with
    |ls o rows=>
     obtain⟨B,I,C,D,a2,F,G,a5⟩:=r.RA (NA r (by rw[a];simp[jP])) a;refine⟨B,I,C,D,?_,(G fl m).snoc (.az B)⟩;simp only[rO,a,ri];exact F
    |v zx1=>
     rw[a]at b d;obtain⟨w,i,_⟩:=gu b (oY (by simpa[y7]using d));exact g w (by simp[bm,i]) (by simp[rO,a,ri])
    |rf s p=>rw[a]at b;obtain⟨w,i,_⟩:=b;exact g w (by simp[bm,i]) (by simp[rO,a,ri])
    |rv s p u M=>
     rw[a]at b;rcases b with⟨_,K,_⟩|⟨id,off,o,nx,H,_,_,_,L⟩
     ·exact g (.slice aa 0 0) (by simp only[bm,K]) (by simp[rO,a,ri])
     ·exact g (.slice (J ⟨id,off+u*o,J o⟩) (M-u) (H-u)) (by simp only[bm,L]) (by simp[rO,a,ri])
    |ra s p ix1 j nx=>rw[a]at b;obtain⟨w,i,_⟩:=b;exact g (.agg w) (by simp only[bm,i]) (by simp[rO,a,ri])
    |_=>rw[a]at d;simp[y7]at d
   |const k=>exact g k (by simp only[zy]at d;simp[bm,aZ,d]) rfl
   |func f=>exact g (.func (.func f) #[] #[]) (by simp[bm,aZ]) rfl
   |global gx1=>simp[zy]at d
  ·cases h
def zwH:∀{l:List (Md×Nat×Operand)}{E:Env}{Y T:ae}{W:FR}{fl:List (PV×Value)}{d:List PV},au X S U E Y W->eA X E fl->oR Y l=J (d,T)->
 ∃b Q E',cz W E.H (l.map (·.2.2))=J (b,Q,E'.H)/\au X S U E' T Q/\b.length=l.length/\d.length=l.length/\eA X E' (fl++d.zip b)/\
  (∀(k:Nat) (a:Md×Nat×Operand) (t:Nat) (v:Value),l[k]? =J a->a.2.2=.tmp t->b[k]? =J v->Q t=.v v)/\(∀s u,W s=.v u->Q s=.v u):=by
 intro l;induction l with
 |nil=>
  intro E Y T W fl d r f h;simp only[oR,aS,b9]at h;obtain⟨rfl,rfl⟩:=h;exact⟨[],W,E,rfl,r,rfl,rfl,by simpa using f,λk a t v h=>by simp at h,λs u h=>h⟩
 |cons a l ih=>
  intro E Y T W fl d r f h;simp only[oR,bT,bL,b9]at h;obtain⟨⟨y,M⟩,A,⟨L,N⟩,B,rfl,rfl⟩:=h;obtain⟨v,fr1,K,j,G,q⟩:=zvs r f A;obtain⟨b,o,m,F,H,C,D,z,I,k2⟩:=ih G q B;obtain⟨q1,q2⟩:=ztr j;refine⟨v::b,o,m,by simp[cz,j,F],H,by simp[C],by simp[D],by simpa using z,λk n t w e i g=>?_,λs u h=>k2 s u (q2 s u h)⟩;cases k with
  |zero=>simp at e g;subst e;subst g;exact k2 t v (q1 t i)
  |succ k=>exact I k n t w (by simpa using e) i (by simpa using g)
end
end Go.Pm
