import Derived.Test.YtnojafnlicbhpaaGreatPmN
open Bool renaming false→aa,true→Z
open Option renaming none→ae,some→J
set_option linter.defProp false
namespace Go.Pm
open Go.Am
def ig:=@Bool.true_and
def a1o:=@Nat.ne_of_gt
inductive Md where
 |sh|mv|io
def cV:PV->Bool
 | .sl o _ rows=>o&&rows.attach.all λ⟨r,_⟩=>r.attach.all λ⟨x,_⟩=>cV x
 | .bx row=>row.attach.all λ⟨x,_⟩=>cV x
 | .agg row=>row.attach.all λ⟨x,_⟩=>cV x
 | .bS xs=>xs.attach.all λ⟨x,_⟩=>cV x
 | .fp _=>aa
 | .func _ _ _=>aa
 |_=>Z
decreasing_by
 all_goals simp_wf
 all_goals
  first
   |(have h1:=L1 ‹_∈_›;omega)
   |(have h1:=L1 ‹x∈r›;have h2:=L1 ‹r∈rows›;omega)
variable{row:List PV}
def zps{o:Bool}{es:Nat}{rows:List (List PV)}:cV (.sl o es rows)=(o&&rows.all (·.all cV)):=by simp[cV]
def zt7 :cV (.bx row)=row.all cV:=by simp[cV]
def zrz :cV (.agg row)=row.all cV:=by simp[cV]
def zrx :cV (.bS row)=row.all cV:=by simp[cV]
def PR.a06{E E':Env}{l:Lo}{x:PV}{v:Value}(h:PR E l x v):cV x=Z->∀{l':Lo},dC E E' l l'->PR E' l' x v:=by
 induction h with
 |ax v=>intro _ l' _;exact .ax v
 |bool b=>intro _ l' _;exact .bool b
 |int k n=>intro _ l' _;exact .int k n
 |str s=>intro _ l' _;exact .str s
 |gu=>intro _ l' _;exact .gu
 |fX=>intro _ l' _;exact .fX
 |ia=>intro _ l' _;exact .ia
 |sl0 o es=>intro _ l' _;exact .sl0 o es
 |jZ hG hb hn hc hm hr hl h ih=>intro hc;simp[zps]at hc
 |fK how hG hb bc hn hc hm hr hl h ih=>
  intro gX l' jF;rename_i l _ _ _ _ _ _ _;rw[zps,ig,bm]at gX;cases l' with
  |none=>exact absurd (jF _ [] (by simpa using how)) hG
  |some b=>
   have qO:∀id r,E.ow id=J (l.1,l.2++r)->¬E.G id->E'.ow id=J (b.1,b.2++r)/\¬E'.G id/\E'.H.b id=E.H.b id:=jF;obtain⟨h1,h2,h3⟩:=qO _ [] (by simpa using how) hG;rw[<-h3]at hb;exact .fK (by simpa using h1) h2 hb bc hn hc hm hr hl λi r j x y a1 a2 a3=>ih i r j x y a1 a2 a3 (bm.1 (gX r (eA a1)) x (eA a2)) (dC.ch (l:=J l) (l':=J b) jF i j)
 |fp hG hb hl h ih=>intro hc;simp[cV]at hc
 |bx how hG hb bc hl h ih=>
  intro gX l' jF;rename_i l _ _ _;rw[zt7,bm]at gX;cases l' with
  |none=>exact absurd (jF _ [] (by simpa using how)) hG
  |some b=>
   have qO:∀id r,E.ow id=J (l.1,l.2++r)->¬E.G id->E'.ow id=J (b.1,b.2++r)/\¬E'.G id/\E'.H.b id=E.H.b id:=jF;obtain⟨h1,h2,h3⟩:=qO _ [] (by simpa using how) hG;rw[<-h3]at hb;exact .bx (by simpa using h1) h2 hb bc hl λj x y a1 a2=>ih j x y a1 a2 (gX x (eA a1)) (dC.ch (l:=J l) (l':=J b) jF 0 j)
 |func fn hl kl h k ih ik=>intro hc;simp[cV]at hc
 |agg hl h ih=>intro hc l' jF;rw[zrz,bm]at hc;exact .agg hl λj x y a b=>ih j x y a b (hc x (eA a)) (jF.ch 0 j)
 |bS hl h0 h ih=>intro hc l' jF;rw[zrx,bm]at hc;exact .bS hl h0 λj x y a b=>ih j x y a b (hc x (eA a)) (jF.ch 0 j)
def LJ(E:Env)(k:Nat)(a:Md×PV)(v:Value):Prop:=
 match a.1 with
 | .sh=>PR E ae a.2 v
 |_=>PR E (J (k,[])) a.2 v
structure XR (E E':Env) (n:Nat) (vs:List Value) (r:PV) (rv:Value) (outs:List PV):Prop where
 ok:ey E'
 since:gn E E'
 r:PR E' (J (n,[])) r rv
 len:outs.length=n
 o:∀(k:Nat) (y:PV) (v:Value),outs[k]? =J y->vs[k]? =J v->PR E' (J (k,[])) y v
def au(P:Program)(f:FuncId)(as:List (Md×PV))(R:PV->List PV->Prop):Prop:=
 aA P f/\∀(E:Env) (vs:List Value),ey E->vs.length=as.length->(∀(k:Nat) (a:Md×PV) (v:Value),as[k]? =J a->vs[k]? =J v->LJ E k a v)->
  qj P f vs E.H λrv H'=>∃r outs E',R r outs/\E'.H=H'/\XR E E' as.length vs r rv outs
def au.mono{P:Program}{f:FuncId}{as:List (Md×PV)}{R R':PV->List PV->Prop}(h:au P f as R)(hr:∀r outs,R r outs->R' r outs):au P f as R':=
 ⟨h.1,λE vs h1 h2 h3=>(h.2 E vs h1 h2 h3).mono λ_ _ ⟨r,outs,E',a,b⟩=>⟨r,outs,E',hr r outs a,b⟩⟩
def gQ(s:Nat):PF->PF
 | .rf s' []=>.rf s' []
 | .cl s' g us=>.cl s' g us
 |y=>dr s 0 y
def ah.gQ(pf:ah)(s:Nat):ah:=λt=>Go.Pm.gQ s (pf t)
def rP(pf:ah)(s:Nat)(p:aC)(y:PV):Option ah:=
 match p with
 |[]=>J ((pf.bY s (.v y)).gQ s)
 |a::p=>iC pf s (a::p) y
def Bl(pf:ah)(t s:Nat)(p:aC)(y:PV):Option (PV×ah):=if bN y=Z then(rP pf s p .ax).map λpf'=>(y,(pf'.kill t 0).bY t (.rf s p))else ae
def zDo(pf:ah)(t s:Nat)(p:aC):PF->Option (PV×ah)
 | .bl _=>match p with
  |[]=>ae
  |_=>(cn pf s p).bind λy=>match y with
   | .bx row=>Bl pf t s p (.bx row)
   |_=>ae
 |_=>(cn pf s p).bind λy=>match y with
  | .bx row=>Bl pf t s p (.bx row)
  |_=>ae
def yc(pf:ah)(t:Nat):PF->Option (PV×ah)
 | .v y=>if bN y=Z then(rP pf t [] .ax).map λpf'=>(y,pf')else ae
 | .rf s p=>(cn pf s p).bind (Bl pf t s p)
 | .pt s p i j=>if i=0/\j=0 then zDo pf t s p (pf s)else ae
 |_=>ae
def EP(pf:ah):Operand->Option (PV×ah)
 | .tmp t=>yc pf t (pf t)
 |_=>ae
def q7(pf:ah)(t:Nat):PF->ah
 | .ls es rows=>(pf.bY t (.v (.sl Z es rows))).kill t 0
 |_=>pf
def rM(pf:ah):Operand->ah
 | .tmp t=>q7 pf t (pf t)
 |_=>pf
def zy:PF->Bool
 | .v x=> !dB x
 | .rf _ _| .rv _ _ _ _| .ra _ _ _ _ _| .ls _ _=>Z
 |_=>aa
def Au(pf:ah):Operand->Bool
 | .tmp t=>zy (pf t)
 | .const c=>cz c
 | .func _=>Z
 | .global _=>aa
def Ax(pf:ah)(md:Md)(e:Nat)(x:Operand):Option (PV×ah):=
 match md with
 | .sh=>if Au pf x=Z then J (.ax,rM pf x)else ae
 | .mv=>eB e pf x
 | .io=>EP pf x
def pd(pf:ah):List (Md×Nat×Operand)->Option (List PV×ah)
 |[]=>J ([],pf)
 |a::as=>(Ax pf a.1 a.2.1 a.2.2).bind λy=>(pd y.2 as).map λz=>(y.1::z.1,z.2)
def xf(e:Nat)(pf:ah):Operand->Option PV
 | .const c=>if cz c=Z then J (nF e c)else ae
 | .func f=>J (.func (.func f) [] [])
 | .tmp t=>dW pf (pf t)
 | .global _=>ae
def JC(y:Option PV):Option PV:=y.bind λy=>if dB y=Z then ae else J (drop y)
def yU(pf:ah)(a:Md×Nat×Operand)(y:PV):Option (Md×PV):=
 match a.1 with
 | .sh=>(JC (xf a.2.1 pf a.2.2)).map λz=>(.sh,z)
 |m=>J (m,y)
def eT(pf:ah):List (Md×Nat×Operand)->List PV->Option (List (Md×PV))
 |[],[]=>J []
 |a::as,y::ys=>(yU pf a y).bind λb=>(eT pf as ys).map λbs=>b::bs
 |_,_=>ae
def rX(pf:ah)(a:Md×Nat×Operand):Bool:=
 match a.1,a.2.2 with
 | .sh,.tmp t=>(dW pf (pf t)).any bN
 |_,_=>aa
def HD(nt:Nat)(pf:ah)(t:Nat)(y:PV):PF->Option ah
 | .rf s p=>rP pf s p y
 |_=>if t<nt then rP pf t [] y else ae
def xP(nt:Nat)(pf:ah)(a:Md×Nat×Operand)(y:PV):Option ah:=
 match a.1,a.2.2 with
 | .io,.tmp t=>HD nt pf t y (pf t)
 |_,_=>J pf
def back(nt:Nat)(pf:ah):List (Md×Nat×Operand)->List PV->Option ah
 |[],_=>J pf
 |a::as,y::ys=>(xP nt pf a y).bind λpf'=>back nt pf' as ys
 |_::_,[]=>ae
def P7:PF->Option (FuncId×List PV×List PV)
 | .v (.func (.func g) xs us)=>J (g,xs,us)
 |_=>ae
def pU(pf:ah):Operand->Option (FuncId×List PV×List PV)
 | .func g=>J (g,[],[])
 | .tmp t=>P7 (pf t)
 |_=>ae
def Lr(c:aY)(d:Option Tmp)(K:ah->Prop)(r:PV):Option ah->Prop
 |some b7=>dI c K d (.v r) b7
 |none=>False
def TJ(P:Program)(c:aY)(d:Option Tmp)(K:ah->Prop)(aR:ah)(l:List (Md×Nat×Operand))(f:FuncId)(xs us:List PV)(as:List (Md×PV)):Prop:=
 au P f (xs.map (λx=>(.sh,x))++as++us.map (λx=>(.sh,x))) λr outs=>(l.any (rX aR)=aa\/(cV r&&outs.all cV)=Z)/\Lr c d K r (back c.nt aR l (outs.drop xs.length))
def Aj(P:Program)(c:aY)(d:Option Tmp)(K:ah->Prop)(aR:ah)(l:List (Md×Nat×Operand)):Option (FuncId×List PV×List PV)->Option (List (Md×PV))->Prop
 |some (f,xs,us),J as=>TJ P c d K aR l f xs us as
 |_,_=>False
def UB(P:Program)(c:aY)(f:Operand)(d:Option Tmp)(K:ah->Prop)(l:List (Md×Nat×Operand)):Option (List PV×ah)->Prop
 |some (ys,aR)=>Aj P c d K aR l (pU aR f) (eT aR l ys)
 |none=>False
def iQ(P:Program):List Operand->List TypeId->List (Nat×Operand)
 |[],_=>[]
 |x::xs,[]=>(0,x)::iQ P xs []
 |x::xs,t::ts=>(cX P t,x)::iQ P xs ts
def HZ(P:Program)(c:aY)(f:Operand)(args:List Operand)(ts:List TypeId)(d:Option Tmp)(K:ah->Prop)(pf:ah)(ms:List Md):Prop:=
 ms.length=args.length/\UB P c f d K (ms.zip (iQ P args ts)) (pd pf (ms.zip (iQ P args ts)))
def W5(P:Program)(c:aY)(f:Operand)(args:List Operand)(d:Option Tmp)(K:ah->Prop)(pf:ah):Prop:=∃(g:FuncId) (x:Operand) (t:TypeId) (n:Int) (z:Nat×Nat×List PV),f=.func g/\args=[.const (.slice ae 0 0),x]/\Ng P g t/\cu pf x=J (.int .i64 n)/\ez P t=J z/\
 (0<=n/\z.2.1*n<=140737488355328/\n<=4611686018427387904)/\dI c K d (.v (.sl Z z.1 [])) pf
def MR:PF->Option (Nat×FuncId×List PV)
 | .cl s g us=>J (s,g,us)
 |_=>ae
def uZ(pf:ah):Operand->Option (Nat×FuncId×List PV)
 | .tmp t=>MR (pf t)
 |_=>ae
def IQ(P:Program)(c:aY)(f:Operand)(d:Option Tmp)(K:ah->Prop)(l:List (Md×Nat×Operand))(x:Nat×FuncId×List PV):Option (List PV×ah)->Prop
 |some (ys,aR)=>uZ aR f=J x/\Aj P c d K aR l (J (x.2.1,[],x.2.2)) (eT aR l ys)
 |none=>False
def zyH(P:Program)(c:aY)(f:Operand)(args:List Operand)(ts:List TypeId)(d:Option Tmp)(K:ah->Prop)(pf:ah):Prop:=
 ∃(ms:List Md) (x:Nat×FuncId×List PV),uZ pf f=J x/\ms.length=args.length/\IQ P c f d K (ms.zip (iQ P args ts)++[(.io,0,.tmp x.1)]) x (pd pf (ms.zip (iQ P args ts)++[(.io,0,.tmp x.1)]))
def X8(P:Program)(c:aY)(f:Operand)(args:List Operand)(ts:List TypeId)(d:Option Tmp)(K:ah->Prop)(pf:ah):Prop:=(∃ms,HZ P c f args ts d K pf ms)\/W5 P c f args d K pf\/zyH P c f args ts d K pf
section
variable {nt:Nat}{pin:List (Nat×Value)}{E0 E E':Env}{pf:ah}{fr ak:FR}{c:aY}{P:Program}
variable{fl:List (PV×Value)}{p:aC}{pf':ah}{s t:Nat}{v:Value}{x:Operand}{y:PV}
def ztZ{H H':AH}(h:bg fr H x=J (v,ak,H')):(∀t,x=.tmp t->ak t=.v v)/\∀s u,fr s=.v u->ak s=.v u:=by
 cases x with
 |tmp t=>
  simp only[bg]at h;split at h
  ·rename_i y hy;simp only[aT,cg]at h;obtain⟨rfl,rfl,rfl⟩:=h;exact⟨λt' e=>by cases e;exact hy,λs u h=>h⟩
  ·rename_i a b cs hy;simp only[aT,cg]at h;obtain⟨rfl,rfl,rfl⟩:=h;refine⟨λt' e=>by cases e;simp[FR.put],λs u h=>?_⟩;have:s≠t:=λe=>by rw[e,hy]at h;cases h
   simp[FR.put,this,h]
  ·cases h
 |const k=>simp only[bg,bP,cg]at h;obtain⟨y,h1,rfl,rfl,rfl⟩:=h;exact⟨λt e=>(by cases e),λs u h=>h⟩
 |func k=>simp only[bg,bP,cg]at h;obtain⟨y,h1,rfl,rfl,rfl⟩:=h;exact⟨λt e=>(by cases e),λs u h=>h⟩
 |global k=>simp only[bg,bP,cg]at h;obtain⟨y,h1,rfl,rfl,rfl⟩:=h;exact⟨λt e=>(by cases e),λs u h=>h⟩
def av.a1D(r:av nt pin E0 E pf fr)(ht:t<nt)(hs:s<nt)(tM:∀u,bE (pf u)≠J t)(hf:fr t=.v v)(hw:Wk E fr s p v):av nt pin E0 E (pf.bY t (.rf s p)) fr:=by
 refine⟨r.since,r.wf,r.fresh,λu=>?_,λu hu=>?_,λu s' h=>?_,r.pin⟩
 ·by_cases e:u=t
  ·subst e;simp only[ah.bY,e9];exact⟨v,hf,hw⟩
  ·simp only[ah.bY,aB e];exact r.f u
 ·have:u≠t:=by omega
  simp only[ah.bY,aB this];exact r.hi u hu
 ·by_cases e:u=t
  ·subst e;simp only[ah.bY,e9,bE,aT]at h;omega
  ·simp only[ah.bY,aB e]at h;exact r.rt u s' h
def NO(r:av nt pin E0 E pf fr)(h:pf t≠jP):t<nt:=by
 rcases dQ t nt with h1|h1
 ·exact h1
 ·exact absurd (r.hi t h1) h
def Wk.fq{b:Nat×aC}(h:Wk E fr s p v):Wk (E.rl (fq (s,p) b)) fr s p v:=by
 cases hp:p with
 |nil=>
  rw[hp]at h;exact .inl ⟨v,Hn h,rfl⟩
 |cons a q=>
  rw[<-hp];have hlen:p.length=q.length+1:=by rw[hp];rfl
  have eb:∀id r,E.ow id=J (s,r)->¬E.G id->r.length<p.length->(E.rl (Go.Pm.fq (s,p) b)).ow id=J (s,r):=λid r h1 h2 h3=>by
   have:¬p<+:r:=λJY=>by have:=JY.length_le;omega
   simp[Env.rl,h1,Go.Pm.fq,this]
  have wv:∀(p':aC) (q':aC) (v v0:Value),q'.length+p'.length<=p.length->Wv E (s,q') v p' v0->Wv (E.rl (Go.Pm.fq (s,p) b)) (s,q') v p' v0:=by
   intro p';induction p' with
   |nil=>intro q' v v0 _ h;exact h
   |cons a' p' ih=>
    obtain⟨i,j⟩:=a';intro q' v v0 hl hh;obtain⟨id,o,k,y,g1,g2,g3,g4,g5⟩:=hh;simp only[d5]at hl;have ho:=g1.ow;have hk:=eb id q' ho.1 ho.2 (by omega);refine⟨id,o,k,y,?_,g2,g3,g4,ih (q'++[(i,j)]) _ _ (by simp;omega) g5⟩;cases g1 with
    |sl how hG hi=>exact .sl (j:=0) hk hG hi
    |bx how hG=>exact .bx hk hG
  rcases h with⟨r,h1,h2⟩|⟨cells,j,p',y,h1,h2,h3,h4⟩
  ·exact .inl ⟨r,h1,wv p [] r v (by simp) h2⟩
  ·exact .inr ⟨cells,j,p',y,h1,h2,h3,wv p' [(0,j)] y v (by rw[h2];simp;omega) h4⟩
def av.Yt(r:av nt pin E0 E pf fr){b7:ah}(h:∀t,b7 t=pf t\/b7 t=jP):av nt pin E0 E b7 fr:=by
 refine⟨r.since,r.wf,r.fresh,λt=>?_,λt ht=>?_,λt s hs=>?_,r.pin⟩
 ·rcases h t with e|e<;>rw[e]
  ·exact r.f t
  ·exact yt
 ·rcases h t with e|e<;>rw[e]
  exact r.hi t ht
 ·rcases h t with e|e<;>rw[e]at hs
  ·exact r.rt t s hs
  ·simp[jP,bE]at hs
def zyr(s n:Nat):∀t,(pf.kill s n) t=pf t\/(pf.kill s n) t=jP:=λt=>by
 simp only[ah.kill,dr];split
 ·exact .inr rfl
 ·exact .inl rfl
def zyD(r:av nt pin E0 E pf fr)(ht:t<nt)(hs:s<nt)(hf:fr t=.v v)(hw:Wk E fr s p v):av nt pin E0 E ((pf.kill t 0).bY t (.rf s p)) fr:=
 (r.Yt (zyr t 0)).a1D ht hs (λu=>by
   simp only[ah.kill,dr];split
   ·simp[jP,bE]
   ·rename_i h;exact λe=>h ⟨e,L3 _⟩) hf hw
def RP(r:av nt pin E0 E pf fr)(h:rP pf s p y=J pf'):∃aR,iC pf s p y=J aR/\∀{E':Env},GK E E'->av nt pin E0 E' aR fr->av nt pin E0 E' pf' fr:=by
 cases p with
 |cons a p=>exact⟨pf',h,λ_ h=>h⟩
 |nil=>
  simp only[rP,aT]at h;subst h;refine⟨(pf.bY s (.v y)).kill s 0,rfl,λ{E'} hgk r2=>?_⟩
  have key:∀u,((pf.bY s (.v y)).gQ s) u=((pf.bY s (.v y)).kill s 0) u\/(∃s',((pf.bY s (.v y)).gQ s) u=.rf s' []/\pf u=.rf s' [])\/∃s' g us,((pf.bY s (.v y)).gQ s) u=.cl s' g us/\pf u=.cl s' g us:=by
   intro u;simp only[ah.gQ,ah.kill,ah.bY];split
   ·left;simp[Go.Pm.gQ]
   ·cases hu:pf u with
    |rf s' p'=>
     cases p' with
     |nil=>right;left;exact⟨s',rfl,rfl⟩
     |cons a p'=>left;rfl
    |cl s' g us=>right;right;exact⟨s',g,us,rfl,rfl⟩
    |_=>left;rfl
  refine⟨r2.since,r2.wf,r2.fresh,λu=>?_,λu hu=>?_,λu s2 hu=>?_,r2.pin⟩
  ·rcases key u with e|⟨s',e,e2⟩|⟨s',g,us,e,e2⟩
   ·rw[e];exact r2.f u
   ·rw[e];have hf:=r.f u;rw[e2]at hf;obtain⟨v,h1,h2⟩:=hf;refine⟨v,h1,?_⟩;rcases h2 with⟨w,g1,g2⟩|⟨cells,j,p',y',g1,g2,g3⟩
    ·exact .inl ⟨w,g1,g2⟩
    ·cases g2
   ·rw[e];have hf:=r.f u;rw[e2]at hf;obtain⟨v,vs,h1,h2,h3,h4⟩:=hf;refine⟨v,vs,h1,?_,h3,λi x y a b=>(h4 i x y a b).mono hgk⟩;rcases h2 with⟨w,g1,g2⟩|⟨cells,j,p',y',g1,g2,g3⟩
    ·exact .inl ⟨w,g1,g2⟩
    ·cases g2
  ·rcases key u with e|⟨s',e,e2⟩|⟨s',g,us,e,e2⟩
   ·rw[e];exact r2.hi u hu
   ·have:=r.hi u hu;rw[e2]at this;cases this
   ·have:=r.hi u hu;rw[e2]at this;cases this
  ·rcases key u with e|⟨s',e,e2⟩|⟨s',g,us,e,e2⟩
   ·rw[e]at hu;exact r2.rt u s2 hu
   ·rw[e]at hu;exact r.rt u s2 (by rw[e2];exact hu)
   ·rw[e]at hu;exact r.rt u s2 (by rw[e2];exact hu)
def Yb(r:av nt pin E0 E pf fr){k:Nat}{aR:ah}(hs:s<nt)(hw:Wk E fr s p v)(h1:iC pf s p .ax=J aR):av nt pin E0 (E.rl (fq (s,p) (nt,[(0,k)]))) aR fr:=by
 refine r.setAt hs hw h1 rfl oi dU (λt _ ht=>jh λr=>lq ht) (λid b9=>?_) (λid q h1 h2 h3=>?_) (.ax _)
 ·obtain⟨h1,h2⟩:=r.fresh id b9;exact⟨by simp[Env.rl,h1],h2⟩
 ·exact⟨by simp[Env.rl,h1,fq,h3],h2⟩
def zrr(r:av nt pin E0 E pf fr)(hfl:ep nt E fl){x:PV}(ht:t<nt)(hs:s<nt)(hx:cn pf s p=J x)(hf:fr t=.v v)(hw:Wk E fr s p v)(h:Bl pf t s p x=J (y,pf')):
 ∃E',E'.H=E.H/\av nt pin E0 E' pf' fr/\ep nt E' (fl++[(y,v)]):=by
 unfold Bl at h;split at h
 ·rename_i ho;simp only[bP,cg]at h;obtain⟨aR,h1,rfl,rfl⟩:=h;have uf:x≠.ax:=by rintro rfl;simp[bN]at ho
  have hp:=jn r hw hx;obtain⟨v',a1,hv⟩:=r.at hx uf hp;have:=a1.same hw;subst this;refine⟨E.rl (fq (s,p) (nt,[(0,fl.length)])),rfl,?_,?_⟩
  ·refine zyD (by
    obtain⟨b7,q1,q2⟩:=RP r h1;refine q2 dU ?_
    exact(Yb r hs hw q1)) ht hs hf hw.fq
  ·exact(hfl.stay dU (jh λr=>lq (by show nt≠s;omega))).snoc (hv.move dU (lF λr=>zgu _ _ r))
 ·cases h
def zxI(r:av nt pin E0 E pf fr)(hfl:ep nt E fl)(h:EP pf x=J (y,pf')):
 ∃v E',(∀H,bg fr H x=J (v,fr,H))/\E'.H=E.H/\av nt pin E0 E' pf' fr/\ep nt E' (fl++[(y,v)]):=by
 cases x with
 |tmp t=>
  simp only[EP]at h;have hf:=r.f t;have ht:t<nt:=NO r (by intro e;rw[e]at h;simp[yc,jP,bN]at h);cases aF:pf t with
  |v x=>
   rw[aF]at h hf;simp only[yc]at h;split at h
   ·rename_i ho;have uf:x≠.ax:=by rintro rfl;simp[bN]at ho
    simp only[bP,cg]at h;obtain⟨aR,h1,rfl,rfl⟩:=h;obtain⟨v,g1,g2⟩:=gA hf uf;obtain⟨b7,q1,q2⟩:=RP r h1;have hw:Wk E fr t [] v:=.inl ⟨v,g1,rfl⟩;refine⟨v,E.rl (fq (t,[]) (nt,[(0,fl.length)])),λH=>by simp[bg,g1],rfl,q2 dU (Yb r ht hw q1),?_⟩;exact(hfl.stay dU (jh λr=>lq (a1o ht))).snoc (g2.move dU (lF λr=>zgu _ _ r))
   ·cases h
  |rf s p=>
   rw[aF]at h hf;simp only[yc,bW]at h;obtain⟨x,hx,h⟩:=h;obtain⟨v,g1,g2⟩:=hf;obtain⟨E',a1,a2,a3⟩:=zrr r hfl ht (r.rt t s (by rw[aF];rfl)) hx g1 g2 h;exact⟨v,E',λH=>by simp[bg,g1],a1,a2,a3⟩
  |pt s p i j=>
   rw[aF]at h hf;have hs:=r.rt t s (by rw[aF];rfl);simp only[yc]at h;split at h
   case isFalse=>cases h
   rename_i xW;obtain⟨rfl,rfl⟩:=xW
   have key:∀row,cn pf s p=J (.bx row)->(p≠[]\/∃y,pf s=.v y)->Bl pf t s p (.bx row)=J (y,pf')->∃v E',(∀H,bg fr H (.tmp t)=J (v,fr,H))/\E'.H=E.H/\av nt pin E0 E' pf' fr/\ep nt E' (fl++[(y,v)]):=by
    intro row hx hp hr;obtain⟨v,w1,w2⟩:=r.at hx (by simp) hp
    have ot:fr t=.v v:=by
     rcases hf with⟨cells,h1,h2,h3,h4⟩|⟨v0,id,o,h1,h2,h3⟩
     ·subst h2;rcases hp with h|⟨z,hz⟩
      ·exact absurd rfl h
      ·have hg:=r.f s;rw[hz]at hg;have:=Hn w1;rw[h1]at this;cases this
     ·have:=h1.same w1;subst this;cases w2 with
      |bx how hG hb bc hl hh=>
       cases h2 with
       |bx _ _=>exact h3
    obtain⟨E',a1,a2,a3⟩:=zrr r hfl ht hs hx ot w1 hr;exact⟨v,E',λH=>by simp[bg,ot],a1,a2,a3⟩
   unfold zDo at h;split at h
   ·split at h
    ·cases h
    ·rename_i hne;obtain⟨z,hz,h⟩:=bW.1 h;split at h
     ·exact key _ hz (.inl λe=>hne e) h
     ·cases h
   ·rename_i hnb;obtain⟨z,hz,h⟩:=bW.1 h;split at h
    ·refine key _ hz ?_ h;by_cases h0:p=[]
     ·right;cases fW:pf s with
      |v y=>exact⟨y,rfl⟩
      |bl row=>exact absurd fW (hnb row)
      |_=>simp[cn,fW,fV]at hz
     ·exact .inl h0
    ·cases h
  |_=>rw[aF]at h;simp[yc]at h
 |_=>simp[EP]at h
def zwf(r:av nt pin E0 E pf fr)(hfl:ep nt E fl){md:Md}{e:Nat}(h:Ax pf md e x=J (y,pf')):
 ∃v ak E',bg fr E.H x=J (v,ak,E'.H)/\av nt pin E0 E' pf' ak/\ep nt E' (fl++[(y,v)]):=by
 cases md with
 |mv=>
  obtain⟨v,ak,H',E',m1,e1,r1,f1⟩:=wb r hfl h;exact⟨v,ak,E',by rw[e1];exact m1,r1,f1⟩
 |io=>
  obtain⟨v,E',m1,e1,r1,f1⟩:=zxI r hfl h;exact⟨v,fr,E',by rw[m1,e1],r1,f1⟩
 |sh=>
  simp only[Ax]at h;split at h
  ·rename_i hk;simp only[aT,cg]at h;obtain⟨rfl,rfl⟩:=h
   have same:∀v,bg fr E.H x=J (v,fr,E.H)->rM pf x=pf->∃v ak E',bg fr E.H x=J (v,ak,E'.H)/\av nt pin E0 E' (rM pf x) ak/\ep nt E' (fl++[(.ax,v)]):=
    λv m1 hs=>⟨v,fr,E,m1,by rw[hs];exact r,hfl.snoc (.ax v)⟩
   cases x with
   |tmp t=>
    simp only[Au]at hk;have hf:=r.f t;cases aF:pf t with
    |ls es rows=>
     obtain⟨v',fr1,E1,a1,a2,a3,a4,a5⟩:=r.Vi (NO r (by rw[aF];simp[jP])) aF;refine⟨v',fr1,E1,a1,?_,(a4 fl hfl).snoc (.ax v')⟩;simp only[rM,aF,q7];exact a3
    |v z=>
     rw[aF]at hf hk;obtain⟨w,g1,_⟩:=gA hf (oT (by simpa[zy]using hk));exact same w (by simp[bg,g1]) (by simp[rM,aF,q7])
    |rf s p=>rw[aF]at hf;obtain⟨w,g1,_⟩:=hf;exact same w (by simp[bg,g1]) (by simp[rM,aF,q7])
    |rv s p lo hi=>
     rw[aF]at hf;rcases hf with⟨_,g2,_⟩|⟨id,off,es,n,cc,_,_,_,g4⟩
     ·exact same (.slice ae 0 0) (by simp only[bg,g2]) (by simp[rM,aF,q7])
     ·exact same (.slice (J ⟨id,off+lo*es,J es⟩) (hi-lo) (cc-lo)) (by simp only[bg,g4]) (by simp[rM,aF,q7])
    |ra s p i j n=>rw[aF]at hf;obtain⟨w,g1,_⟩:=hf;exact same (.agg w) (by simp only[bg,g1]) (by simp[rM,aF,q7])
    |_=>rw[aF]at hk;simp[zy]at hk
   |const k=>exact same k (by simp only[Au]at hk;simp[bg,be,hk]) rfl
   |func f=>exact same (.func (.func f) #[] #[]) (by simp[bg,be]) rfl
   |global g=>simp[Au]at hk
  ·cases h
def zwm:∀{l:List (Md×Nat×Operand)}{E:Env}{pf pf':ah}{fr:FR}{fl:List (PV×Value)}{ys:List PV},av nt pin E0 E pf fr->ep nt E fl->pd pf l=J (ys,pf')->
 ∃vs ak E',cr fr E.H (l.map (·.2.2))=J (vs,ak,E'.H)/\av nt pin E0 E' pf' ak/\vs.length=l.length/\ys.length=l.length/\ep nt E' (fl++ys.zip vs)/\
  (∀(k:Nat) (a:Md×Nat×Operand) (t:Nat) (v:Value),l[k]? =J a->a.2.2=.tmp t->vs[k]? =J v->ak t=.v v)/\(∀s u,fr s=.v u->ak s=.v u):=by
 intro l;induction l with
 |nil=>
  intro E pf pf' fr fl ys r hfl h;simp only[pd,aT,cg]at h;obtain⟨rfl,rfl⟩:=h;exact⟨[],fr,E,rfl,r,rfl,rfl,by simpa using hfl,λk a t v h=>by simp at h,λs u h=>h⟩
 |cons a l ih=>
  intro E pf pf' fr fl ys r hfl h;simp only[pd,bW,bP,cg]at h;obtain⟨⟨y,aR⟩,h1,⟨QN,b7⟩,h2,rfl,rfl⟩:=h;obtain⟨v,fr1,E1,m1,r1,f1⟩:=zwf r hfl h1;obtain⟨vs,dN,E2,m2,r2,l2,l3,f2,t2,k2⟩:=ih r1 f1 h2;obtain⟨q1,q2⟩:=ztZ m1;refine⟨v::vs,dN,E2,by simp[cr,m1,m2],r2,by simp[l2],by simp[l3],by simpa using f2,λk a' t w ha ht hw=>?_,λs u h=>k2 s u (q2 s u h)⟩;cases k with
  |zero=>simp at ha hw;subst ha;subst hw;exact k2 t v (q1 t ht)
  |succ k=>exact t2 k a' t w (by simpa using ha) ht (by simpa using hw)
end
end Go.Pm
