import Derived.Test.YtnojafnlicbhpaaGreatPmN
open Bool renaming false→aa,true→Z
open Option renaming none→ae,some→J
set_option linter.defProp false
namespace Go.Pm
open Go.Am
def gV:=@Bool.true_and
def Aaw:=@Nat.ne_of_gt
inductive Md where
 |sh|mv|io
def cP:PV->Bool
 | .sl o _ rows=>o&&rows.attach.all λ⟨r,_⟩=>r.attach.all λ⟨x,_⟩=>cP x
 | .bx row=>row.attach.all λ⟨x,_⟩=>cP x
 | .agg row=>row.attach.all λ⟨x,_⟩=>cP x
 | .bO xs=>xs.attach.all λ⟨x,_⟩=>cP x
 | .fp _=>aa
 | .func _ _ _=>aa
 |_=>Z
decreasing_by
 all_goals simp_wf
 all_goals
  first
   |(have h1:=Kw ‹_∈_›;omega)
   |(have h1:=Kw ‹x∈r›;have h2:=Kw ‹r∈rows›;omega)
variable{row:List PV}
def zpq{o:Bool}{es:Nat}{rows:List (List PV)}:cP (.sl o es rows)=(o&&rows.all (·.all cP)):=by simp[cP]
def ztt :cP (.bx row)=row.all cP:=by simp[cP]
def zrm :cP (.agg row)=row.all cP:=by simp[cP]
def zrk :cP (.bO row)=row.all cP:=by simp[cP]
def PR.Zx{E E':Env}{l:Lo}{x:PV}{v:Value}(h:PR E l x v):cP x=Z->∀{l':Lo},dr E E' l l'->PR E' l' x v:=by
 induction h with
 |au v=>intro _ l' _;exact .au v
 |bool b=>intro _ l' _;exact .bool b
 |int k n=>intro _ l' _;exact .int k n
 |str s=>intro _ l' _;exact .str s
 |fX=>intro _ l' _;exact .fX
 |fD=>intro _ l' _;exact .fD
 |gO=>intro _ l' _;exact .gO
 |sl0 o es=>intro _ l' _;exact .sl0 o es
 |jI hG hb hn hc hm hr hl h ih=>intro hc;simp[zpq]at hc
 |fk how hG hb bc hn hc hm hr hl h ih=>
  intro gR l' jl;rename_i l _ _ _ _ _ _ _;rw[zpq,gV,bm]at gR;cases l' with
  |none=>exact absurd (jl _ [] (by simpa using how)) hG
  |some b=>
   have q6:∀id r,E.ow id=J (l.1,l.2++r)->¬E.G id->E'.ow id=J (b.1,b.2++r)/\¬E'.G id/\E'.H.b id=E.H.b id:=jl;obtain⟨h1,h2,h3⟩:=q6 _ [] (by simpa using how) hG;rw[<-h3]at hb;exact .fk (by simpa using h1) h2 hb bc hn hc hm hr hl λi r j x y a1 a2 a3=>ih i r j x y a1 a2 a3 (bm.1 (gR r (eo a1)) x (eo a2)) (dr.ch (l:=J l) (l':=J b) jl i j)
 |fp hG hb hl h ih=>intro hc;simp[cP]at hc
 |bx how hG hb bc hl h ih=>
  intro gR l' jl;rename_i l _ _ _;rw[ztt,bm]at gR;cases l' with
  |none=>exact absurd (jl _ [] (by simpa using how)) hG
  |some b=>
   have q6:∀id r,E.ow id=J (l.1,l.2++r)->¬E.G id->E'.ow id=J (b.1,b.2++r)/\¬E'.G id/\E'.H.b id=E.H.b id:=jl;obtain⟨h1,h2,h3⟩:=q6 _ [] (by simpa using how) hG;rw[<-h3]at hb;exact .bx (by simpa using h1) h2 hb bc hl λj x y a1 a2=>ih j x y a1 a2 (gR x (eo a1)) (dr.ch (l:=J l) (l':=J b) jl 0 j)
 |func fn hl kl h k ih ik=>intro hc;simp[cP]at hc
 |agg hl h ih=>intro hc l' jl;rw[zrm,bm]at hc;exact .agg hl λj x y a b=>ih j x y a b (hc x (eo a)) (jl.ch 0 j)
 |bO hl h0 h ih=>intro hc l' jl;rw[zrk,bm]at hc;exact .bO hl h0 λj x y a b=>ih j x y a b (hc x (eo a)) (jl.ch 0 j)
def HS(E:Env)(k:Nat)(a:Md×PV)(v:Value):Prop:=
 match a.1 with
 | .sh=>PR E ae a.2 v
 |_=>PR E (J (k,[])) a.2 v
structure Vb (E E':Env) (n:Nat) (vs:List Value) (r:PV) (rv:Value) (outs:List PV):Prop where
 ok:ej E'
 since:fZ E E'
 r:PR E' (J (n,[])) r rv
 len:outs.length=n
 o:∀(k:Nat) (y:PV) (v:Value),outs[k]? =J y->vs[k]? =J v->PR E' (J (k,[])) y v
def ap(P:Program)(f:FuncId)(as:List (Md×PV))(R:PV->List PV->Prop):Prop:=
 ax P f/\∀(E:Env) (vs:List Value),ej E->vs.length=as.length->(∀(k:Nat) (a:Md×PV) (v:Value),as[k]? =J a->vs[k]? =J v->HS E k a v)->
  p6 P f vs E.H λrv H'=>∃r outs E',R r outs/\E'.H=H'/\Vb E E' as.length vs r rv outs
def ap.mono{P:Program}{f:FuncId}{as:List (Md×PV)}{R R':PV->List PV->Prop}(h:ap P f as R)(hr:∀r outs,R r outs->R' r outs):ap P f as R':=
 ⟨h.1,λE vs h1 h2 h3=>(h.2 E vs h1 h2 h3).mono λ_ _ ⟨r,outs,E',a,b⟩=>⟨r,outs,E',hr r outs a,b⟩⟩
def gQ(s:Nat):PF->PF
 | .rf s' []=>.rf s' []
 | .cl s' g us=>.cl s' g us
 |y=>df s 0 y
def ah.gQ(pf:ah)(s:Nat):ah:=λt=>Go.Pm.gQ s (pf t)
def ql(pf:ah)(s:Nat)(p:aA)(y:PV):Option ah:=
 match p with
 |[]=>J ((pf.bU s (.v y)).gQ s)
 |a::p=>iz pf s (a::p) y
def Av(pf:ah)(t s:Nat)(p:aA)(y:PV):Option (PV×ah):=if bL y=Z then(ql pf s p .au).map λpf'=>(y,(pf'.kill t 0).bU t (.rf s p))else ae
def VX(pf:ah)(t s:Nat)(p:aA):PF->Option (PV×ah)
 | .bl _=>match p with
  |[]=>ae
  |_=>(ce pf s p).bind λy=>match y with
   | .bx row=>Av pf t s p (.bx row)
   |_=>ae
 |_=>(ce pf s p).bind λy=>match y with
  | .bx row=>Av pf t s p (.bx row)
  |_=>ae
def wP(pf:ah)(t:Nat):PF->Option (PV×ah)
 | .v y=>if bL y=Z then(ql pf t [] .au).map λpf'=>(y,pf')else ae
 | .rf s p=>(ce pf s p).bind (Av pf t s p)
 | .pt s p i j=>if i=0/\j=0 then VX pf t s p (pf s)else ae
 |_=>ae
def Et(pf:ah):Operand->Option (PV×ah)
 | .tmp t=>wP pf t (pf t)
 |_=>ae
def qs(pf:ah)(t:Nat):PF->ah
 | .ls es rows=>(pf.bU t (.v (.sl Z es rows))).kill t 0
 |_=>pf
def qA(pf:ah):Operand->ah
 | .tmp t=>qs pf t (pf t)
 |_=>pf
def yr:PF->Bool
 | .v x=> !dv x
 | .rf _ _| .rv _ _ _ _| .ra _ _ _ _ _| .ls _ _=>Z
 |_=>aa
def yY(pf:ah):Operand->Bool
 | .tmp t=>yr (pf t)
 | .const c=>cr c
 | .func _=>Z
 | .global _=>aa
def Ag(pf:ah)(md:Md)(e:Nat)(x:Operand):Option (PV×ah):=
 match md with
 | .sh=>if yY pf x=Z then J (.au,qA pf x)else ae
 | .mv=>ew e pf x
 | .io=>Et pf x
def oG(pf:ah):List (Md×Nat×Operand)->Option (List PV×ah)
 |[]=>J ([],pf)
 |a::as=>(Ag pf a.1 a.2.1 a.2.2).bind λy=>(oG y.2 as).map λz=>(y.1::z.1,z.2)
def vx(e:Nat)(pf:ah):Operand->Option PV
 | .const c=>if cr c=Z then J (ng e c)else ae
 | .func f=>J (.func (.func f) [] [])
 | .tmp t=>dM pf (pf t)
 | .global _=>ae
def J8(y:Option PV):Option PV:=y.bind λy=>if dv y=Z then ae else J (drop y)
def yj(pf:ah)(a:Md×Nat×Operand)(y:PV):Option (Md×PV):=
 match a.1 with
 | .sh=>(J8 (vx a.2.1 pf a.2.2)).map λz=>(.sh,z)
 |m=>J (m,y)
def eJ(pf:ah):List (Md×Nat×Operand)->List PV->Option (List (Md×PV))
 |[],[]=>J []
 |a::as,y::ys=>(yj pf a y).bind λb=>(eJ pf as ys).map λbs=>b::bs
 |_,_=>ae
def rk(pf:ah)(a:Md×Nat×Operand):Bool:=
 match a.1,a.2.2 with
 | .sh,.tmp t=>(dM pf (pf t)).any bL
 |_,_=>aa
def DD(nt:Nat)(pf:ah)(t:Nat)(y:PV):PF->Option ah
 | .rf s p=>ql pf s p y
 |_=>if t<nt then ql pf t [] y else ae
def xK(nt:Nat)(pf:ah)(a:Md×Nat×Operand)(y:PV):Option ah:=
 match a.1,a.2.2 with
 | .io,.tmp t=>DD nt pf t y (pf t)
 |_,_=>J pf
def back(nt:Nat)(pf:ah):List (Md×Nat×Operand)->List PV->Option ah
 |[],_=>J pf
 |a::as,y::ys=>(xK nt pf a y).bind λpf'=>back nt pf' as ys
 |_::_,[]=>ae
def KR:PF->Option (FuncId×List PV×List PV)
 | .v (.func (.func g) xs us)=>J (g,xs,us)
 |_=>ae
def pZ(pf:ah):Operand->Option (FuncId×List PV×List PV)
 | .func g=>J (g,[],[])
 | .tmp t=>KR (pf t)
 |_=>ae
def HQ(c:aY)(d:Option Tmp)(K:ah->Prop)(r:PV):Option ah->Prop
 |some bW=>dB c K d (.v r) bW
 |none=>False
def QF(P:Program)(c:aY)(d:Option Tmp)(K:ah->Prop)(aQ:ah)(l:List (Md×Nat×Operand))(f:FuncId)(xs us:List PV)(as:List (Md×PV)):Prop:=
 ap P f (xs.map (λx=>(.sh,x))++as++us.map (λx=>(.sh,x))) λr outs=>(l.any (rk aQ)=aa\/(cP r&&outs.all cP)=Z)/\HQ c d K r (back c.nt aQ l (outs.drop xs.length))
def Al(P:Program)(c:aY)(d:Option Tmp)(K:ah->Prop)(aQ:ah)(l:List (Md×Nat×Operand)):Option (FuncId×List PV×List PV)->Option (List (Md×PV))->Prop
 |some (f,xs,us),J as=>QF P c d K aQ l f xs us as
 |_,_=>False
def TK(P:Program)(c:aY)(f:Operand)(d:Option Tmp)(K:ah->Prop)(l:List (Md×Nat×Operand)):Option (List PV×ah)->Prop
 |some (ys,aQ)=>Al P c d K aQ l (pZ aQ f) (eJ aQ l ys)
 |none=>False
def ic(P:Program):List Operand->List TypeId->List (Nat×Operand)
 |[],_=>[]
 |x::xs,[]=>(0,x)::ic P xs []
 |x::xs,t::ts=>(cS P t,x)::ic P xs ts
def GJ(P:Program)(c:aY)(f:Operand)(args:List Operand)(ts:List TypeId)(d:Option Tmp)(K:ah->Prop)(pf:ah)(ms:List Md):Prop:=
 ms.length=args.length/\TK P c f d K (ms.zip (ic P args ts)) (oG pf (ms.zip (ic P args ts)))
def Xe(P:Program)(c:aY)(f:Operand)(args:List Operand)(d:Option Tmp)(K:ah->Prop)(pf:ah):Prop:=∃(g:FuncId) (x:Operand) (t:TypeId) (n:Int) (z:Nat×Nat×List PV),f=.func g/\args=[.const (.slice ae 0 0),x]/\KI P g t/\cu pf x=J (.int .i64 n)/\ez P t=J z/\
 (0<=n/\z.2.1*n<=140737488355328/\n<=4611686018427387904)/\dB c K d (.v (.sl Z z.1 [])) pf
def La:PF->Option (Nat×FuncId×List PV)
 | .cl s g us=>J (s,g,us)
 |_=>ae
def vk(pf:ah):Operand->Option (Nat×FuncId×List PV)
 | .tmp t=>La (pf t)
 |_=>ae
def G1(P:Program)(c:aY)(f:Operand)(d:Option Tmp)(K:ah->Prop)(l:List (Md×Nat×Operand))(x:Nat×FuncId×List PV):Option (List PV×ah)->Prop
 |some (ys,aQ)=>vk aQ f=J x/\Al P c d K aQ l (J (x.2.1,[],x.2.2)) (eJ aQ l ys)
 |none=>False
def zxO(P:Program)(c:aY)(f:Operand)(args:List Operand)(ts:List TypeId)(d:Option Tmp)(K:ah->Prop)(pf:ah):Prop:=
 ∃(ms:List Md) (x:Nat×FuncId×List PV),vk pf f=J x/\ms.length=args.length/\G1 P c f d K (ms.zip (ic P args ts)++[(.io,0,.tmp x.1)]) x (oG pf (ms.zip (ic P args ts)++[(.io,0,.tmp x.1)]))
def Z5(P:Program)(c:aY)(f:Operand)(args:List Operand)(ts:List TypeId)(d:Option Tmp)(K:ah->Prop)(pf:ah):Prop:=(∃ms,GJ P c f args ts d K pf ms)\/Xe P c f args d K pf\/zxO P c f args ts d K pf
section
variable {nt:Nat}{pin:List (Nat×Value)}{E0 E E':Env}{pf:ah}{fr ai:FR}{c:aY}{P:Program}
variable{fl:List (PV×Value)}{p:aA}{pf':ah}{s t:Nat}{v:Value}{x:Operand}{y:PV}
def Vz{H H':AH}(h:bh fr H x=J (v,ai,H')):(∀t,x=.tmp t->ai t=.v v)/\∀s u,fr s=.v u->ai s=.v u:=by
 cases x with
 |tmp t=>
  simp only[bh]at h;split at h
  ·rename_i y hy;simp only[aT,b9]at h;obtain⟨rfl,rfl,rfl⟩:=h;exact⟨λt' e=>by cases e;exact hy,λs u h=>h⟩
  ·rename_i a b cs hy;simp only[aT,b9]at h;obtain⟨rfl,rfl,rfl⟩:=h;refine⟨λt' e=>by cases e;simp[FR.put],λs u h=>?_⟩;have:s≠t:=λe=>by rw[e,hy]at h;cases h
   simp[FR.put,this,h]
  ·cases h
 |const k=>simp only[bh,bN,b9]at h;obtain⟨y,h1,rfl,rfl,rfl⟩:=h;exact⟨λt e=>(by cases e),λs u h=>h⟩
 |func k=>simp only[bh,bN,b9]at h;obtain⟨y,h1,rfl,rfl,rfl⟩:=h;exact⟨λt e=>(by cases e),λs u h=>h⟩
 |global k=>simp only[bh,bN,b9]at h;obtain⟨y,h1,rfl,rfl,rfl⟩:=h;exact⟨λt e=>(by cases e),λs u h=>h⟩
def aq.Abe(r:aq nt pin E0 E pf fr)(ht:t<nt)(hs:s<nt)(te:∀u,bC (pf u)≠J t)(hf:fr t=.v v)(hw:Wk E fr s p v):aq nt pin E0 E (pf.bU t (.rf s p)) fr:=by
 refine⟨r.since,r.wf,r.fresh,λu=>?_,λu hu=>?_,λu s' h=>?_,r.pin⟩
 ·by_cases e:u=t
  ·subst e;simp only[ah.bU,eP];exact⟨v,hf,hw⟩
  ·simp only[ah.bU,az e];exact r.f u
 ·have:u≠t:=by omega
  simp only[ah.bU,az this];exact r.hi u hu
 ·by_cases e:u=t
  ·subst e;simp only[ah.bU,eP,bC,aT]at h;omega
  ·simp only[ah.bU,az e]at h;exact r.rt u s' h
def K3(r:aq nt pin E0 E pf fr)(h:pf t≠jP):t<nt:=by
 rcases dK t nt with h1|h1
 ·exact h1
 ·exact absurd (r.hi t h1) h
def Wk.fa{b:Nat×aA}(h:Wk E fr s p v):Wk (E.rl (fa (s,p) b)) fr s p v:=by
 cases hp:p with
 |nil=>
  rw[hp]at h;exact .inl ⟨v,Fg h,rfl⟩
 |cons a q=>
  rw[<-hp];have hlen:p.length=q.length+1:=by rw[hp];rfl
  have d4:∀id r,E.ow id=J (s,r)->¬E.G id->r.length<p.length->(E.rl (Go.Pm.fa (s,p) b)).ow id=J (s,r):=λid r h1 h2 h3=>by
   have:¬p<+:r:=λIX=>by have:=IX.length_le;omega
   simp[Env.rl,h1,Go.Pm.fa,this]
  have wv:∀(p':aA) (q':aA) (v v0:Value),q'.length+p'.length<=p.length->Wv E (s,q') v p' v0->Wv (E.rl (Go.Pm.fa (s,p) b)) (s,q') v p' v0:=by
   intro p';induction p' with
   |nil=>intro q' v v0 _ h;exact h
   |cons a' p' ih=>
    obtain⟨i,j⟩:=a';intro q' v v0 hl hh;obtain⟨id,o,k,y,g1,g2,g3,g4,g5⟩:=hh;simp only[dX]at hl;have ho:=g1.ow;have hk:=d4 id q' ho.1 ho.2 (by omega);refine⟨id,o,k,y,?_,g2,g3,g4,ih (q'++[(i,j)]) _ _ (by simp;omega) g5⟩;cases g1 with
    |sl how hG hi=>exact .sl (j:=0) hk hG hi
    |bx how hG=>exact .bx hk hG
  rcases h with⟨r,h1,h2⟩|⟨cells,j,p',y,h1,h2,h3,h4⟩
  ·exact .inl ⟨r,h1,wv p [] r v (by simp) h2⟩
  ·exact .inr ⟨cells,j,p',y,h1,h2,h3,wv p' [(0,j)] y v (by rw[h2];simp;omega) h4⟩
def aq.Vv(r:aq nt pin E0 E pf fr){bW:ah}(h:∀t,bW t=pf t\/bW t=jP):aq nt pin E0 E bW fr:=by
 refine⟨r.since,r.wf,r.fresh,λt=>?_,λt ht=>?_,λt s hs=>?_,r.pin⟩
 ·rcases h t with e|e<;>rw[e]
  ·exact r.f t
  ·exact yn
 ·rcases h t with e|e<;>rw[e]
  exact r.hi t ht
 ·rcases h t with e|e<;>rw[e]at hs
  ·exact r.rt t s hs
  ·simp[jP,bC]at hs
def zxW(s n:Nat):∀t,(pf.kill s n) t=pf t\/(pf.kill s n) t=jP:=λt=>by
 simp only[ah.kill,df];split
 ·exact .inr rfl
 ·exact .inl rfl
def zxR(r:aq nt pin E0 E pf fr)(ht:t<nt)(hs:s<nt)(hf:fr t=.v v)(hw:Wk E fr s p v):aq nt pin E0 E ((pf.kill t 0).bU t (.rf s p)) fr:=
 (r.Vv (zxW t 0)).Abe ht hs (λu=>by
   simp only[ah.kill,df];split
   ·simp[jP,bC]
   ·rename_i h;exact λe=>h ⟨e,Ky _⟩) hf hw
def O0(r:aq nt pin E0 E pf fr)(h:ql pf s p y=J pf'):∃aQ,iz pf s p y=J aQ/\∀{E':Env},GK E E'->aq nt pin E0 E' aQ fr->aq nt pin E0 E' pf' fr:=by
 cases p with
 |cons a p=>exact⟨pf',h,λ_ h=>h⟩
 |nil=>
  simp only[ql,aT]at h;subst h;refine⟨(pf.bU s (.v y)).kill s 0,rfl,λ{E'} hgk r2=>?_⟩
  have key:∀u,((pf.bU s (.v y)).gQ s) u=((pf.bU s (.v y)).kill s 0) u\/(∃s',((pf.bU s (.v y)).gQ s) u=.rf s' []/\pf u=.rf s' [])\/∃s' g us,((pf.bU s (.v y)).gQ s) u=.cl s' g us/\pf u=.cl s' g us:=by
   intro u;simp only[ah.gQ,ah.kill,ah.bU];split
   ·left;simp[Go.Pm.gQ]
   ·cases hu:pf u with
    |rf s' p'=>
     cases p' with
     |nil=>right;left;exact⟨s',rfl,rfl⟩
     |cons a p'=>left;rfl
    |cl s' g us=>right;right;exact⟨s',g,us,rfl,rfl⟩
    |_=>left;rfl
  refine⟨r2.since,r2.wf,r2.fresh,λu=>?_,λu hu=>?_,λu s2 hu=>?_,r2.pin⟩
  ·rcases key u with e|⟨s',e,e2⟩|⟨s',g,us,e,e2⟩
   ·rw[e];exact r2.f u
   ·rw[e];have hf:=r.f u;rw[e2]at hf;obtain⟨v,h1,h2⟩:=hf;refine⟨v,h1,?_⟩;rcases h2 with⟨w,g1,g2⟩|⟨cells,j,p',y',g1,g2,g3⟩
    ·exact .inl ⟨w,g1,g2⟩
    ·cases g2
   ·rw[e];have hf:=r.f u;rw[e2]at hf;obtain⟨v,vs,h1,h2,h3,h4⟩:=hf;refine⟨v,vs,h1,?_,h3,λi x y a b=>(h4 i x y a b).mono hgk⟩;rcases h2 with⟨w,g1,g2⟩|⟨cells,j,p',y',g1,g2,g3⟩
    ·exact .inl ⟨w,g1,g2⟩
    ·cases g2
  ·rcases key u with e|⟨s',e,e2⟩|⟨s',g,us,e,e2⟩
   ·rw[e];exact r2.hi u hu
   ·have:=r.hi u hu;rw[e2]at this;cases this
   ·have:=r.hi u hu;rw[e2]at this;cases this
  ·rcases key u with e|⟨s',e,e2⟩|⟨s',g,us,e,e2⟩
   ·rw[e]at hu;exact r2.rt u s2 hu
   ·rw[e]at hu;exact r.rt u s2 (by rw[e2];exact hu)
   ·rw[e]at hu;exact r.rt u s2 (by rw[e2];exact hu)
def YX(r:aq nt pin E0 E pf fr){k:Nat}{aQ:ah}(hs:s<nt)(hw:Wk E fr s p v)(h1:iz pf s p .au=J aQ):aq nt pin E0 (E.rl (fa (s,p) (nt,[(0,k)]))) aQ fr:=by
 refine r.setAt hs hw h1 rfl nD dO (λt _ ht=>iR λr=>kF ht) (λid bY=>?_) (λid q h1 h2 h3=>?_) (.au _)
 ·obtain⟨h1,h2⟩:=r.fresh id bY;exact⟨by simp[Env.rl,h1],h2⟩
 ·exact⟨by simp[Env.rl,h1,fa,h3],h2⟩
def Zs(r:aq nt pin E0 E pf fr)(hfl:eb nt E fl){x:PV}(ht:t<nt)(hs:s<nt)(hx:ce pf s p=J x)(hf:fr t=.v v)(hw:Wk E fr s p v)(h:Av pf t s p x=J (y,pf')):
 ∃E',E'.H=E.H/\aq nt pin E0 E' pf' fr/\eb nt E' (fl++[(y,v)]):=by
 unfold Av at h;split at h
 ·rename_i ho;simp only[bN,b9]at h;obtain⟨aQ,h1,rfl,rfl⟩:=h;have sW:x≠.au:=by rintro rfl;simp[bL]at ho
  have hp:=jc r hw hx;obtain⟨v',a1,hv⟩:=r.at hx sW hp;have:=a1.same hw;subst this;refine⟨E.rl (fa (s,p) (nt,[(0,fl.length)])),rfl,?_,?_⟩
  ·refine zxR (by
    obtain⟨bW,q1,q2⟩:=O0 r h1;refine q2 dO ?_
    exact(YX r hs hw q1)) ht hs hf hw.fa
  ·exact(hfl.stay dO (iR λr=>kF (by show nt≠s;omega))).snoc (hv.move dO (lq λr=>zgr _ _ r))
 ·cases h
def zx9(r:aq nt pin E0 E pf fr)(hfl:eb nt E fl)(h:Et pf x=J (y,pf')):
 ∃v E',(∀H,bh fr H x=J (v,fr,H))/\E'.H=E.H/\aq nt pin E0 E' pf' fr/\eb nt E' (fl++[(y,v)]):=by
 cases x with
 |tmp t=>
  simp only[Et]at h;have hf:=r.f t;have ht:t<nt:=K3 r (by intro e;rw[e]at h;simp[wP,jP,bL]at h);cases aD:pf t with
  |v x=>
   rw[aD]at h hf;simp only[wP]at h;split at h
   ·rename_i ho;have sW:x≠.au:=by rintro rfl;simp[bL]at ho
    simp only[bN,b9]at h;obtain⟨aQ,h1,rfl,rfl⟩:=h;obtain⟨v,g1,g2⟩:=ga hf sW;obtain⟨bW,q1,q2⟩:=O0 r h1;have hw:Wk E fr t [] v:=.inl ⟨v,g1,rfl⟩;refine⟨v,E.rl (fa (t,[]) (nt,[(0,fl.length)])),λH=>by simp[bh,g1],rfl,q2 dO (YX r ht hw q1),?_⟩;exact(hfl.stay dO (iR λr=>kF (Aaw ht))).snoc (g2.move dO (lq λr=>zgr _ _ r))
   ·cases h
  |rf s p=>
   rw[aD]at h hf;simp only[wP,bR]at h;obtain⟨x,hx,h⟩:=h;obtain⟨v,g1,g2⟩:=hf;obtain⟨E',a1,a2,a3⟩:=Zs r hfl ht (r.rt t s (by rw[aD];rfl)) hx g1 g2 h;exact⟨v,E',λH=>by simp[bh,g1],a1,a2,a3⟩
  |pt s p i j=>
   rw[aD]at h hf;have hs:=r.rt t s (by rw[aD];rfl);simp only[wP]at h;split at h
   case isFalse=>cases h
   rename_i wM;obtain⟨rfl,rfl⟩:=wM
   have key:∀row,ce pf s p=J (.bx row)->(p≠[]\/∃y,pf s=.v y)->Av pf t s p (.bx row)=J (y,pf')->∃v E',(∀H,bh fr H (.tmp t)=J (v,fr,H))/\E'.H=E.H/\aq nt pin E0 E' pf' fr/\eb nt E' (fl++[(y,v)]):=by
    intro row hx hp hr;obtain⟨v,w1,w2⟩:=r.at hx (by simp) hp
    have nI:fr t=.v v:=by
     rcases hf with⟨cells,h1,h2,h3,h4⟩|⟨v0,id,o,h1,h2,h3⟩
     ·subst h2;rcases hp with h|⟨z,hz⟩
      ·exact absurd rfl h
      ·have hg:=r.f s;rw[hz]at hg;have:=Fg w1;rw[h1]at this;cases this
     ·have:=h1.same w1;subst this;cases w2 with
      |bx how hG hb bc hl hh=>
       cases h2 with
       |bx _ _=>exact h3
    obtain⟨E',a1,a2,a3⟩:=Zs r hfl ht hs hx nI w1 hr;exact⟨v,E',λH=>by simp[bh,nI],a1,a2,a3⟩
   unfold VX at h;split at h
   ·split at h
    ·cases h
    ·rename_i hne;obtain⟨z,hz,h⟩:=bR.1 h;split at h
     ·exact key _ hz (.inl λe=>hne e) h
     ·cases h
   ·rename_i hnb;obtain⟨z,hz,h⟩:=bR.1 h;split at h
    ·refine key _ hz ?_ h;by_cases h0:p=[]
     ·right;cases fI:pf s with
      |v y=>exact⟨y,rfl⟩
      |bl row=>exact absurd fI (hnb row)
      |_=>simp[ce,fI,fB]at hz
     ·exact .inl h0
    ·cases h
  |_=>rw[aD]at h;simp[wP]at h
 |_=>simp[Et]at h
def zwB(r:aq nt pin E0 E pf fr)(hfl:eb nt E fl){md:Md}{e:Nat}(h:Ag pf md e x=J (y,pf')):
 ∃v ai E',bh fr E.H x=J (v,ai,E'.H)/\aq nt pin E0 E' pf' ai/\eb nt E' (fl++[(y,v)]):=by
 cases md with
 |mv=>
  obtain⟨v,ai,H',E',m1,e1,r1,f1⟩:=um r hfl h;exact⟨v,ai,E',by rw[e1];exact m1,r1,f1⟩
 |io=>
  obtain⟨v,E',m1,e1,r1,f1⟩:=zx9 r hfl h;exact⟨v,fr,E',by rw[m1,e1],r1,f1⟩
 |sh=>
  simp only[Ag]at h;split at h
  ·rename_i hk;simp only[aT,b9]at h;obtain⟨rfl,rfl⟩:=h
   have same:∀v,bh fr E.H x=J (v,fr,E.H)->qA pf x=pf->∃v ai E',bh fr E.H x=J (v,ai,E'.H)/\aq nt pin E0 E' (qA pf x) ai/\eb nt E' (fl++[(.au,v)]):=
    λv m1 hs=>⟨v,fr,E,m1,by rw[hs];exact r,hfl.snoc (.au v)⟩
   cases x with
   |tmp t=>
    simp only[yY]at hk;have hf:=r.f t;cases aD:pf t with
    |ls es rows=>
     obtain⟨v',fr1,E1,a1,a2,a3,a4,a5⟩:=r.Ps (K3 r (by rw[aD];simp[jP])) aD;refine⟨v',fr1,E1,a1,?_,(a4 fl hfl).snoc (.au v')⟩;simp only[qA,aD,qs];exact a3
    |v z=>
     rw[aD]at hf hk;obtain⟨w,g1,_⟩:=ga hf (nX (by simpa[yr]using hk));exact same w (by simp[bh,g1]) (by simp[qA,aD,qs])
    |rf s p=>rw[aD]at hf;obtain⟨w,g1,_⟩:=hf;exact same w (by simp[bh,g1]) (by simp[qA,aD,qs])
    |rv s p lo hi=>
     rw[aD]at hf;rcases hf with⟨_,g2,_⟩|⟨id,off,es,n,cc,_,_,_,g4⟩
     ·exact same (.slice ae 0 0) (by simp only[bh,g2]) (by simp[qA,aD,qs])
     ·exact same (.slice (J ⟨id,off+lo*es,J es⟩) (hi-lo) (cc-lo)) (by simp only[bh,g4]) (by simp[qA,aD,qs])
    |ra s p i j n=>rw[aD]at hf;obtain⟨w,g1,_⟩:=hf;exact same (.agg w) (by simp only[bh,g1]) (by simp[qA,aD,qs])
    |_=>rw[aD]at hk;simp[yr]at hk
   |const k=>exact same k (by simp only[yY]at hk;simp[bh,be,hk]) rfl
   |func f=>exact same (.func (.func f) #[] #[]) (by simp[bh,be]) rfl
   |global g=>simp[yY]at hk
  ·cases h
def zvS:∀{l:List (Md×Nat×Operand)}{E:Env}{pf pf':ah}{fr:FR}{fl:List (PV×Value)}{ys:List PV},aq nt pin E0 E pf fr->eb nt E fl->oG pf l=J (ys,pf')->
 ∃vs ai E',ck fr E.H (l.map (·.2.2))=J (vs,ai,E'.H)/\aq nt pin E0 E' pf' ai/\vs.length=l.length/\ys.length=l.length/\eb nt E' (fl++ys.zip vs)/\
  (∀(k:Nat) (a:Md×Nat×Operand) (t:Nat) (v:Value),l[k]? =J a->a.2.2=.tmp t->vs[k]? =J v->ai t=.v v)/\(∀s u,fr s=.v u->ai s=.v u):=by
 intro l;induction l with
 |nil=>
  intro E pf pf' fr fl ys r hfl h;simp only[oG,aT,b9]at h;obtain⟨rfl,rfl⟩:=h;exact⟨[],fr,E,rfl,r,rfl,rfl,by simpa using hfl,λk a t v h=>by simp at h,λs u h=>h⟩
 |cons a l ih=>
  intro E pf pf' fr fl ys r hfl h;simp only[oG,bR,bN,b9]at h;obtain⟨⟨y,aQ⟩,h1,⟨QD,bW⟩,h2,rfl,rfl⟩:=h;obtain⟨v,fr1,E1,m1,r1,f1⟩:=zwB r hfl h1;obtain⟨vs,dJ,E2,m2,r2,l2,l3,f2,t2,k2⟩:=ih r1 f1 h2;obtain⟨q1,q2⟩:=Vz m1;refine⟨v::vs,dJ,E2,by simp[ck,m1,m2],r2,by simp[l2],by simp[l3],by simpa using f2,λk a' t w ha ht hw=>?_,λs u h=>k2 s u (q2 s u h)⟩;cases k with
  |zero=>simp at ha hw;subst ha;subst hw;exact k2 t v (q1 t ht)
  |succ k=>exact t2 k a' t w (by simpa using ha) ht (by simpa using hw)
end
end Go.Pm
