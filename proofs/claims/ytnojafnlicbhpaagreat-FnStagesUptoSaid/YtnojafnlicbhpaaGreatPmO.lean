import Derived.Test.YtnojafnlicbhpaaGreatPmN
open Bool renaming false→aa,true→Z
open Option renaming none→ae,some→J
set_option linter.defProp false
namespace Go.Pm
open Go.Am
def gV:=@Bool.true_and
def a0z:=@Nat.ne_of_gt
inductive Md where
 |sh|mv|io
def cP:PV->Bool
 | .sl o _ rows=>o&&rows.attach.all λ⟨r,_⟩=>r.attach.all λ⟨x,_⟩=>cP x
 | .bx row=>row.attach.all λ⟨x,_⟩=>cP x
 | .agg row=>row.attach.all λ⟨x,_⟩=>cP x
 | .bO xs=>xs.attach.all λ⟨x,_⟩=>cP x
 | .fp _=>aa
 | .func _ _ _=>aa
 |_=>Z
decreasing_by
 all_goals simp_wf
 all_goals
  first
   |(have h1:=Kz ‹_∈_›;omega)
   |(have h1:=Kz ‹x∈r›;have h2:=Kz ‹r∈rows›;omega)
variable{row:List PV}
def zoX{o:Bool}{es:Nat}{rows:List (List PV)}:cP (.sl o es rows)=(o&&rows.all (·.all cP)):=by simp[cP]
def ztM :cP (.bx row)=row.all cP:=by simp[cP]
def zrt :cP (.agg row)=row.all cP:=by simp[cP]
def zrh :cP (.bO row)=row.all cP:=by simp[cP]
def PR.YT{E E':Env}{l:Lo}{x:PV}{v:Value}(h:PR E l x v):cP x=Z->∀{l':Lo},du E E' l l'->PR E' l' x v:=by
 induction h with
 |au v=>intro _ l' _;exact .au v
 |bool b=>intro _ l' _;exact .bool b
 |int k n=>intro _ l' _;exact .int k n
 |str s=>intro _ l' _;exact .str s
 |fZ=>intro _ l' _;exact .fZ
 |fB=>intro _ l' _;exact .fB
 |gG=>intro _ l' _;exact .gG
 |sl0 o es=>intro _ l' _;exact .sl0 o es
 |jF hG hb hn hc hm hr hl h ih=>intro hc;simp[zoX]at hc
 |fk how hG hb bc hn hc hm hr hl h ih=>
  intro gQ l' jn;rename_i l _ _ _ _ _ _ _;rw[zoX,gV,bm]at gQ;cases l' with
  |none=>exact absurd (jn _ [] (by simpa using how)) hG
  |some b=>
   have qn:∀id r,E.ow id=J (l.1,l.2++r)->¬E.G id->E'.ow id=J (b.1,b.2++r)/\¬E'.G id/\E'.H.b id=E.H.b id:=jn;obtain⟨h1,h2,h3⟩:=qn _ [] (by simpa using how) hG;rw[<-h3]at hb;exact .fk (by simpa using h1) h2 hb bc hn hc hm hr hl λi r j x y a1 a2 a3=>ih i r j x y a1 a2 a3 (bm.1 (gQ r (eo a1)) x (eo a2)) (du.ch (l:=J l) (l':=J b) jn i j)
 |fp hG hb hl h ih=>intro hc;simp[cP]at hc
 |bx how hG hb bc hl h ih=>
  intro gQ l' jn;rename_i l _ _ _;rw[ztM,bm]at gQ;cases l' with
  |none=>exact absurd (jn _ [] (by simpa using how)) hG
  |some b=>
   have qn:∀id r,E.ow id=J (l.1,l.2++r)->¬E.G id->E'.ow id=J (b.1,b.2++r)/\¬E'.G id/\E'.H.b id=E.H.b id:=jn;obtain⟨h1,h2,h3⟩:=qn _ [] (by simpa using how) hG;rw[<-h3]at hb;exact .bx (by simpa using h1) h2 hb bc hl λj x y a1 a2=>ih j x y a1 a2 (gQ x (eo a1)) (du.ch (l:=J l) (l':=J b) jn 0 j)
 |func fn hl kl h k ih ik=>intro hc;simp[cP]at hc
 |agg hl h ih=>intro hc l' jn;rw[zrt,bm]at hc;exact .agg hl λj x y a b=>ih j x y a b (hc x (eo a)) (jn.ch 0 j)
 |bO hl h0 h ih=>intro hc l' jn;rw[zrh,bm]at hc;exact .bO hl h0 λj x y a b=>ih j x y a b (hc x (eo a)) (jn.ch 0 j)
def Iw(E:Env)(k:Nat)(a:Md×PV)(v:Value):Prop:=
 match a.1 with
 | .sh=>PR E ae a.2 v
 |_=>PR E (J (k,[])) a.2 v
structure VI (E E':Env) (n:Nat) (vs:List Value) (r:PV) (rv:Value) (outs:List PV):Prop where
 ok:d7 E'
 since:fU E E'
 r:PR E' (J (n,[])) r rv
 len:outs.length=n
 o:∀(k:Nat) (y:PV) (v:Value),outs[k]? =J y->vs[k]? =J v->PR E' (J (k,[])) y v
def ap(P:Program)(f:FuncId)(as:List (Md×PV))(R:PV->List PV->Prop):Prop:=
 ax P f/\∀(E:Env) (vs:List Value),d7 E->vs.length=as.length->(∀(k:Nat) (a:Md×PV) (v:Value),as[k]? =J a->vs[k]? =J v->Iw E k a v)->
  pZ P f vs E.H λrv H'=>∃r outs E',R r outs/\E'.H=H'/\VI E E' as.length vs r rv outs
def ap.mono{P:Program}{f:FuncId}{as:List (Md×PV)}{R R':PV->List PV->Prop}(h:ap P f as R)(hr:∀r outs,R r outs->R' r outs):ap P f as R':=
 ⟨h.1,λE vs h1 h2 h3=>(h.2 E vs h1 h2 h3).mono λ_ _ ⟨r,outs,E',a,b⟩=>⟨r,outs,E',hr r outs a,b⟩⟩
def gH(s:Nat):PF->PF
 | .rf s' []=>.rf s' []
 | .cl s' g us=>.cl s' g us
 |y=>cZ s 0 y
def ah.gH(pf:ah)(s:Nat):ah:=λt=>Go.Pm.gH s (pf t)
def q7(pf:ah)(s:Nat)(p:aA)(y:PV):Option ah:=
 match p with
 |[]=>J ((pf.bS s (.v y)).gH s)
 |a::p=>iw pf s (a::p) y
def zV(pf:ah)(t s:Nat)(p:aA)(y:PV):Option (PV×ah):=if bK y=Z then(q7 pf s p .au).map λpf'=>(y,(pf'.kill t 0).bS t (.rf s p))else ae
def zCO(pf:ah)(t s:Nat)(p:aA):PF->Option (PV×ah)
 | .bl _=>match p with
  |[]=>ae
  |_=>(cj pf s p).bind λy=>match y with
   | .bx row=>zV pf t s p (.bx row)
   |_=>ae
 |_=>(cj pf s p).bind λy=>match y with
  | .bx row=>zV pf t s p (.bx row)
  |_=>ae
def yx(pf:ah)(t:Nat):PF->Option (PV×ah)
 | .v y=>if bK y=Z then(q7 pf t [] .au).map λpf'=>(y,pf')else ae
 | .rf s p=>(cj pf s p).bind (zV pf t s p)
 | .pt s p i j=>if i=0/\j=0 then zCO pf t s p (pf s)else ae
 |_=>ae
def FT(pf:ah):Operand->Option (PV×ah)
 | .tmp t=>yx pf t (pf t)
 |_=>ae
def qo(pf:ah)(t:Nat):PF->ah
 | .ls es rows=>(pf.bS t (.v (.sl Z es rows))).kill t 0
 |_=>pf
def qR(pf:ah):Operand->ah
 | .tmp t=>qo pf t (pf t)
 |_=>pf
def xX:PF->Bool
 | .v x=> !dt x
 | .rf _ _| .rv _ _ _ _| .ra _ _ _ _ _| .ls _ _=>Z
 |_=>aa
def yL(pf:ah):Operand->Bool
 | .tmp t=>xX (pf t)
 | .const c=>ct c
 | .func _=>Z
 | .global _=>aa
def zH(pf:ah)(md:Md)(e:Nat)(x:Operand):Option (PV×ah):=
 match md with
 | .sh=>if yL pf x=Z then J (.au,qR pf x)else ae
 | .mv=>eu e pf x
 | .io=>FT pf x
def oe(pf:ah):List (Md×Nat×Operand)->Option (List PV×ah)
 |[]=>J ([],pf)
 |a::as=>(zH pf a.1 a.2.1 a.2.2).bind λy=>(oe y.2 as).map λz=>(y.1::z.1,z.2)
def u7(e:Nat)(pf:ah):Operand->Option PV
 | .const c=>if ct c=Z then J (nb e c)else ae
 | .func f=>J (.func (.func f) [] [])
 | .tmp t=>dR pf (pf t)
 | .global _=>ae
def J9(y:Option PV):Option PV:=y.bind λy=>if dt y=Z then ae else J (drop y)
def yh(pf:ah)(a:Md×Nat×Operand)(y:PV):Option (Md×PV):=
 match a.1 with
 | .sh=>(J9 (u7 a.2.1 pf a.2.2)).map λz=>(.sh,z)
 |m=>J (m,y)
def eG(pf:ah):List (Md×Nat×Operand)->List PV->Option (List (Md×PV))
 |[],[]=>J []
 |a::as,y::ys=>(yh pf a y).bind λb=>(eG pf as ys).map λbs=>b::bs
 |_,_=>ae
def sj(pf:ah)(a:Md×Nat×Operand):Bool:=
 match a.1,a.2.2 with
 | .sh,.tmp t=>(dR pf (pf t)).any bK
 |_,_=>aa
def Dz(nt:Nat)(pf:ah)(t:Nat)(y:PV):PF->Option ah
 | .rf s p=>q7 pf s p y
 |_=>if t<nt then q7 pf t [] y else ae
def xh(nt:Nat)(pf:ah)(a:Md×Nat×Operand)(y:PV):Option ah:=
 match a.1,a.2.2 with
 | .io,.tmp t=>Dz nt pf t y (pf t)
 |_,_=>J pf
def back(nt:Nat)(pf:ah):List (Md×Nat×Operand)->List PV->Option ah
 |[],_=>J pf
 |a::as,y::ys=>(xh nt pf a y).bind λpf'=>back nt pf' as ys
 |_::_,[]=>ae
def MT:PF->Option (FuncId×List PV×List PV)
 | .v (.func (.func g) xs us)=>J (g,xs,us)
 |_=>ae
def pU(pf:ah):Operand->Option (FuncId×List PV×List PV)
 | .func g=>J (g,[],[])
 | .tmp t=>MT (pf t)
 |_=>ae
def GO(c:aY)(d:Option Tmp)(K:ah->Prop)(r:PV):Option ah->Prop
 |some bV=>dC c K d (.v r) bV
 |none=>False
def Sk(P:Program)(c:aY)(d:Option Tmp)(K:ah->Prop)(aQ:ah)(l:List (Md×Nat×Operand))(f:FuncId)(xs us:List PV)(as:List (Md×PV)):Prop:=
 ap P f (xs.map (λx=>(.sh,x))++as++us.map (λx=>(.sh,x))) λr outs=>(l.any (sj aQ)=aa\/(cP r&&outs.all cP)=Z)/\GO c d K r (back c.nt aQ l (outs.drop xs.length))
def zJ(P:Program)(c:aY)(d:Option Tmp)(K:ah->Prop)(aQ:ah)(l:List (Md×Nat×Operand)):Option (FuncId×List PV×List PV)->Option (List (Md×PV))->Prop
 |some (f,xs,us),J as=>Sk P c d K aQ l f xs us as
 |_,_=>False
def Rc(P:Program)(c:aY)(f:Operand)(d:Option Tmp)(K:ah->Prop)(l:List (Md×Nat×Operand)):Option (List PV×ah)->Prop
 |some (ys,aQ)=>zJ P c d K aQ l (pU aQ f) (eG aQ l ys)
 |none=>False
def ij(P:Program):List Operand->List TypeId->List (Nat×Operand)
 |[],_=>[]
 |x::xs,[]=>(0,x)::ij P xs []
 |x::xs,t::ts=>(cR P t,x)::ij P xs ts
def IB(P:Program)(c:aY)(f:Operand)(args:List Operand)(ts:List TypeId)(d:Option Tmp)(K:ah->Prop)(pf:ah)(ms:List Md):Prop:=
 ms.length=args.length/\Rc P c f d K (ms.zip (ij P args ts)) (oe pf (ms.zip (ij P args ts)))
def XX(P:Program)(c:aY)(f:Operand)(args:List Operand)(d:Option Tmp)(K:ah->Prop)(pf:ah):Prop:=∃(g:FuncId) (x:Operand) (t:TypeId) (n:Int) (z:Nat×Nat×List PV),f=.func g/\args=[.const (.slice ae 0 0),x]/\KV P g t/\cq pf x=J (.int .i64 n)/\ez P t=J z/\
 (0<=n/\z.2.1*n<=140737488355328/\n<=4611686018427387904)/\dC c K d (.v (.sl Z z.1 [])) pf
def MD:PF->Option (Nat×FuncId×List PV)
 | .cl s g us=>J (s,g,us)
 |_=>ae
def t8(pf:ah):Operand->Option (Nat×FuncId×List PV)
 | .tmp t=>MD (pf t)
 |_=>ae
def IL(P:Program)(c:aY)(f:Operand)(d:Option Tmp)(K:ah->Prop)(l:List (Md×Nat×Operand))(x:Nat×FuncId×List PV):Option (List PV×ah)->Prop
 |some (ys,aQ)=>t8 aQ f=J x/\zJ P c d K aQ l (J (x.2.1,[],x.2.2)) (eG aQ l ys)
 |none=>False
def WU(P:Program)(c:aY)(f:Operand)(args:List Operand)(ts:List TypeId)(d:Option Tmp)(K:ah->Prop)(pf:ah):Prop:=
 ∃(ms:List Md) (x:Nat×FuncId×List PV),t8 pf f=J x/\ms.length=args.length/\IL P c f d K (ms.zip (ij P args ts)++[(.io,0,.tmp x.1)]) x (oe pf (ms.zip (ij P args ts)++[(.io,0,.tmp x.1)]))
def Zn(P:Program)(c:aY)(f:Operand)(args:List Operand)(ts:List TypeId)(d:Option Tmp)(K:ah->Prop)(pf:ah):Prop:=(∃ms,IB P c f args ts d K pf ms)\/XX P c f args d K pf\/WU P c f args ts d K pf
section
variable {nt:Nat}{pin:List (Nat×Value)}{E0 E E':Env}{pf:ah}{fr ai:FR}{c:aY}{P:Program}
variable{fl:List (PV×Value)}{p:aA}{pf':ah}{s t:Nat}{v:Value}{x:Operand}{y:PV}
def UW{H H':AH}(h:bh fr H x=J (v,ai,H')):(∀t,x=.tmp t->ai t=.v v)/\∀s u,fr s=.v u->ai s=.v u:=by
 cases x with
 |tmp t=>
  simp only[bh]at h;split at h
  ·rename_i y hy;simp only[aT,b9]at h;obtain⟨rfl,rfl,rfl⟩:=h;exact⟨λt' e=>by cases e;exact hy,λs u h=>h⟩
  ·rename_i a b cs hy;simp only[aT,b9]at h;obtain⟨rfl,rfl,rfl⟩:=h;refine⟨λt' e=>by cases e;simp[FR.put],λs u h=>?_⟩;have:s≠t:=λe=>by rw[e,hy]at h;cases h
   simp[FR.put,this,h]
  ·cases h
 |const k=>simp only[bh,bN,b9]at h;obtain⟨y,h1,rfl,rfl,rfl⟩:=h;exact⟨λt e=>(by cases e),λs u h=>h⟩
 |func k=>simp only[bh,bN,b9]at h;obtain⟨y,h1,rfl,rfl,rfl⟩:=h;exact⟨λt e=>(by cases e),λs u h=>h⟩
 |global k=>simp only[bh,bN,b9]at h;obtain⟨y,h1,rfl,rfl,rfl⟩:=h;exact⟨λt e=>(by cases e),λs u h=>h⟩
def aq.a1F(r:aq nt pin E0 E pf fr)(ht:t<nt)(hs:s<nt)(tY:∀u,bC (pf u)≠J t)(hf:fr t=.v v)(hw:Wk E fr s p v):aq nt pin E0 E (pf.bS t (.rf s p)) fr:=by
 refine⟨r.since,r.wf,r.fresh,λu=>?_,λu hu=>?_,λu s' h=>?_,r.pin⟩
 ·by_cases e:u=t
  ·subst e;simp only[ah.bS,eP];exact⟨v,hf,hw⟩
  ·simp only[ah.bS,az e];exact r.f u
 ·have:u≠t:=by omega
  simp only[ah.bS,az this];exact r.hi u hu
 ·by_cases e:u=t
  ·subst e;simp only[ah.bS,eP,bC,aT]at h;omega
  ·simp only[ah.bS,az e]at h;exact r.rt u s' h
def Mq(r:aq nt pin E0 E pf fr)(h:pf t≠jP):t<nt:=by
 rcases dK t nt with h1|h1
 ·exact h1
 ·exact absurd (r.hi t h1) h
def Wk.fg{b:Nat×aA}(h:Wk E fr s p v):Wk (E.rl (fg (s,p) b)) fr s p v:=by
 cases hp:p with
 |nil=>
  rw[hp]at h;exact .inl ⟨v,Di h,rfl⟩
 |cons a q=>
  rw[<-hp];have hlen:p.length=q.length+1:=by rw[hp];rfl
  have dZ:∀id r,E.ow id=J (s,r)->¬E.G id->r.length<p.length->(E.rl (Go.Pm.fg (s,p) b)).ow id=J (s,r):=λid r h1 h2 h3=>by
   have:¬p<+:r:=λGX=>by have:=GX.length_le;omega
   simp[Env.rl,h1,Go.Pm.fg,this]
  have wv:∀(p':aA) (q':aA) (v v0:Value),q'.length+p'.length<=p.length->Wv E (s,q') v p' v0->Wv (E.rl (Go.Pm.fg (s,p) b)) (s,q') v p' v0:=by
   intro p';induction p' with
   |nil=>intro q' v v0 _ h;exact h
   |cons a' p' ih=>
    obtain⟨i,j⟩:=a';intro q' v v0 hl hh;obtain⟨id,o,k,y,g1,g2,g3,g4,g5⟩:=hh;simp only[dX]at hl;have ho:=g1.ow;have hk:=dZ id q' ho.1 ho.2 (by omega);refine⟨id,o,k,y,?_,g2,g3,g4,ih (q'++[(i,j)]) _ _ (by simp;omega) g5⟩;cases g1 with
    |sl how hG hi=>exact .sl (j:=0) hk hG hi
    |bx how hG=>exact .bx hk hG
  rcases h with⟨r,h1,h2⟩|⟨cells,j,p',y,h1,h2,h3,h4⟩
  ·exact .inl ⟨r,h1,wv p [] r v (by simp) h2⟩
  ·exact .inr ⟨cells,j,p',y,h1,h2,h3,wv p' [(0,j)] y v (by rw[h2];simp;omega) h4⟩
def aq.W7(r:aq nt pin E0 E pf fr){bV:ah}(h:∀t,bV t=pf t\/bV t=jP):aq nt pin E0 E bV fr:=by
 refine⟨r.since,r.wf,r.fresh,λt=>?_,λt ht=>?_,λt s hs=>?_,r.pin⟩
 ·rcases h t with e|e<;>rw[e]
  ·exact r.f t
  ·exact wA
 ·rcases h t with e|e<;>rw[e]
  exact r.hi t ht
 ·rcases h t with e|e<;>rw[e]at hs
  ·exact r.rt t s hs
  ·simp[jP,bC]at hs
def zx1(s n:Nat):∀t,(pf.kill s n) t=pf t\/(pf.kill s n) t=jP:=λt=>by
 simp only[ah.kill,cZ];split
 ·exact .inr rfl
 ·exact .inl rfl
def zyD(r:aq nt pin E0 E pf fr)(ht:t<nt)(hs:s<nt)(hf:fr t=.v v)(hw:Wk E fr s p v):aq nt pin E0 E ((pf.kill t 0).bS t (.rf s p)) fr:=
 (r.W7 (zx1 t 0)).a1F ht hs (λu=>by
   simp only[ah.kill,cZ];split
   ·simp[jP,bC]
   ·rename_i h;exact λe=>h ⟨e,KB _⟩) hf hw
def RV(r:aq nt pin E0 E pf fr)(h:q7 pf s p y=J pf'):∃aQ,iw pf s p y=J aQ/\∀{E':Env},GK E E'->aq nt pin E0 E' aQ fr->aq nt pin E0 E' pf' fr:=by
 cases p with
 |cons a p=>exact⟨pf',h,λ_ h=>h⟩
 |nil=>
  simp only[q7,aT]at h;subst h;refine⟨(pf.bS s (.v y)).kill s 0,rfl,λ{E'} hgk r2=>?_⟩
  have key:∀u,((pf.bS s (.v y)).gH s) u=((pf.bS s (.v y)).kill s 0) u\/(∃s',((pf.bS s (.v y)).gH s) u=.rf s' []/\pf u=.rf s' [])\/∃s' g us,((pf.bS s (.v y)).gH s) u=.cl s' g us/\pf u=.cl s' g us:=by
   intro u;simp only[ah.gH,ah.kill,ah.bS];split
   ·left;simp[Go.Pm.gH]
   ·cases hu:pf u with
    |rf s' p'=>
     cases p' with
     |nil=>right;left;exact⟨s',rfl,rfl⟩
     |cons a p'=>left;rfl
    |cl s' g us=>right;right;exact⟨s',g,us,rfl,rfl⟩
    |_=>left;rfl
  refine⟨r2.since,r2.wf,r2.fresh,λu=>?_,λu hu=>?_,λu s2 hu=>?_,r2.pin⟩
  ·rcases key u with e|⟨s',e,e2⟩|⟨s',g,us,e,e2⟩
   ·rw[e];exact r2.f u
   ·rw[e];have hf:=r.f u;rw[e2]at hf;obtain⟨v,h1,h2⟩:=hf;refine⟨v,h1,?_⟩;rcases h2 with⟨w,g1,g2⟩|⟨cells,j,p',y',g1,g2,g3⟩
    ·exact .inl ⟨w,g1,g2⟩
    ·cases g2
   ·rw[e];have hf:=r.f u;rw[e2]at hf;obtain⟨v,vs,h1,h2,h3,h4⟩:=hf;refine⟨v,vs,h1,?_,h3,λi x y a b=>(h4 i x y a b).mono hgk⟩;rcases h2 with⟨w,g1,g2⟩|⟨cells,j,p',y',g1,g2,g3⟩
    ·exact .inl ⟨w,g1,g2⟩
    ·cases g2
  ·rcases key u with e|⟨s',e,e2⟩|⟨s',g,us,e,e2⟩
   ·rw[e];exact r2.hi u hu
   ·have:=r.hi u hu;rw[e2]at this;cases this
   ·have:=r.hi u hu;rw[e2]at this;cases this
  ·rcases key u with e|⟨s',e,e2⟩|⟨s',g,us,e,e2⟩
   ·rw[e]at hu;exact r2.rt u s2 hu
   ·rw[e]at hu;exact r.rt u s2 (by rw[e2];exact hu)
   ·rw[e]at hu;exact r.rt u s2 (by rw[e2];exact hu)
def XQ(r:aq nt pin E0 E pf fr){k:Nat}{aQ:ah}(hs:s<nt)(hw:Wk E fr s p v)(h1:iw pf s p .au=J aQ):aq nt pin E0 (E.rl (fg (s,p) (nt,[(0,k)]))) aQ fr:=by
 refine r.setAt hs hw h1 rfl nS dO (λt _ ht=>iZ λr=>kB ht) (λid bY=>?_) (λid q h1 h2 h3=>?_) (.au _)
 ·obtain⟨h1,h2⟩:=r.fresh id bY;exact⟨by simp[Env.rl,h1],h2⟩
 ·exact⟨by simp[Env.rl,h1,fg,h3],h2⟩
def Z2(r:aq nt pin E0 E pf fr)(hfl:d9 nt E fl){x:PV}(ht:t<nt)(hs:s<nt)(hx:cj pf s p=J x)(hf:fr t=.v v)(hw:Wk E fr s p v)(h:zV pf t s p x=J (y,pf')):
 ∃E',E'.H=E.H/\aq nt pin E0 E' pf' fr/\d9 nt E' (fl++[(y,v)]):=by
 unfold zV at h;split at h
 ·rename_i ho;simp only[bN,b9]at h;obtain⟨aQ,h1,rfl,rfl⟩:=h;have tL:x≠.au:=by rintro rfl;simp[bK]at ho
  have hp:=iQ r hw hx;obtain⟨v',a1,hv⟩:=r.at hx tL hp;have:=a1.same hw;subst this;refine⟨E.rl (fg (s,p) (nt,[(0,fl.length)])),rfl,?_,?_⟩
  ·refine zyD (by
    obtain⟨bV,q1,q2⟩:=RV r h1;refine q2 dO ?_
    exact(XQ r hs hw q1)) ht hs hf hw.fg
  ·exact(hfl.stay dO (iZ λr=>kB (by show nt≠s;omega))).snoc (hv.move dO (k8 λr=>zgw _ _ r))
 ·cases h
def zyi(r:aq nt pin E0 E pf fr)(hfl:d9 nt E fl)(h:FT pf x=J (y,pf')):
 ∃v E',(∀H,bh fr H x=J (v,fr,H))/\E'.H=E.H/\aq nt pin E0 E' pf' fr/\d9 nt E' (fl++[(y,v)]):=by
 cases x with
 |tmp t=>
  simp only[FT]at h;have hf:=r.f t;have ht:t<nt:=Mq r (by intro e;rw[e]at h;simp[yx,jP,bK]at h);cases aE:pf t with
  |v x=>
   rw[aE]at h hf;simp only[yx]at h;split at h
   ·rename_i ho;have tL:x≠.au:=by rintro rfl;simp[bK]at ho
    simp only[bN,b9]at h;obtain⟨aQ,h1,rfl,rfl⟩:=h;obtain⟨v,g1,g2⟩:=gi hf tL;obtain⟨bV,q1,q2⟩:=RV r h1;have hw:Wk E fr t [] v:=.inl ⟨v,g1,rfl⟩;refine⟨v,E.rl (fg (t,[]) (nt,[(0,fl.length)])),λH=>by simp[bh,g1],rfl,q2 dO (XQ r ht hw q1),?_⟩;exact(hfl.stay dO (iZ λr=>kB (a0z ht))).snoc (g2.move dO (k8 λr=>zgw _ _ r))
   ·cases h
  |rf s p=>
   rw[aE]at h hf;simp only[yx,bR]at h;obtain⟨x,hx,h⟩:=h;obtain⟨v,g1,g2⟩:=hf;obtain⟨E',a1,a2,a3⟩:=Z2 r hfl ht (r.rt t s (by rw[aE];rfl)) hx g1 g2 h;exact⟨v,E',λH=>by simp[bh,g1],a1,a2,a3⟩
  |pt s p i j=>
   rw[aE]at h hf;have hs:=r.rt t s (by rw[aE];rfl);simp only[yx]at h;split at h
   case isFalse=>cases h
   rename_i xA;obtain⟨rfl,rfl⟩:=xA
   have key:∀row,cj pf s p=J (.bx row)->(p≠[]\/∃y,pf s=.v y)->zV pf t s p (.bx row)=J (y,pf')->∃v E',(∀H,bh fr H (.tmp t)=J (v,fr,H))/\E'.H=E.H/\aq nt pin E0 E' pf' fr/\d9 nt E' (fl++[(y,v)]):=by
    intro row hx hp hr;obtain⟨v,w1,w2⟩:=r.at hx (by simp) hp
    have nx:fr t=.v v:=by
     rcases hf with⟨cells,h1,h2,h3,h4⟩|⟨v0,id,o,h1,h2,h3⟩
     ·subst h2;rcases hp with h|⟨z,hz⟩
      ·exact absurd rfl h
      ·have hg:=r.f s;rw[hz]at hg;have:=Di w1;rw[h1]at this;cases this
     ·have:=h1.same w1;subst this;cases w2 with
      |bx how hG hb bc hl hh=>
       cases h2 with
       |bx _ _=>exact h3
    obtain⟨E',a1,a2,a3⟩:=Z2 r hfl ht hs hx nx w1 hr;exact⟨v,E',λH=>by simp[bh,nx],a1,a2,a3⟩
   unfold zCO at h;split at h
   ·split at h
    ·cases h
    ·rename_i hne;obtain⟨z,hz,h⟩:=bR.1 h;split at h
     ·exact key _ hz (.inl λe=>hne e) h
     ·cases h
   ·rename_i hnb;obtain⟨z,hz,h⟩:=bR.1 h;split at h
    ·refine key _ hz ?_ h;by_cases h0:p=[]
     ·right;cases fH:pf s with
      |v y=>exact⟨y,rfl⟩
      |bl row=>exact absurd fH (hnb row)
      |_=>simp[cj,fH,fD]at hz
     ·exact .inl h0
    ·cases h
  |_=>rw[aE]at h;simp[yx]at h
 |_=>simp[FT]at h
def zwU(r:aq nt pin E0 E pf fr)(hfl:d9 nt E fl){md:Md}{e:Nat}(h:zH pf md e x=J (y,pf')):
 ∃v ai E',bh fr E.H x=J (v,ai,E'.H)/\aq nt pin E0 E' pf' ai/\d9 nt E' (fl++[(y,v)]):=by
 cases md with
 |mv=>
  obtain⟨v,ai,H',E',m1,e1,r1,f1⟩:=ug r hfl h;exact⟨v,ai,E',by rw[e1];exact m1,r1,f1⟩
 |io=>
  obtain⟨v,E',m1,e1,r1,f1⟩:=zyi r hfl h;exact⟨v,fr,E',by rw[m1,e1],r1,f1⟩
 |sh=>
  simp only[zH]at h;split at h
  ·rename_i hk;simp only[aT,b9]at h;obtain⟨rfl,rfl⟩:=h
   have same:∀v,bh fr E.H x=J (v,fr,E.H)->qR pf x=pf->∃v ai E',bh fr E.H x=J (v,ai,E'.H)/\aq nt pin E0 E' (qR pf x) ai/\d9 nt E' (fl++[(.au,v)]):=
    λv m1 hs=>⟨v,fr,E,m1,by rw[hs];exact r,hfl.snoc (.au v)⟩
   cases x with
   |tmp t=>
    simp only[yL]at hk;have hf:=r.f t;cases aE:pf t with
    |ls es rows=>
     obtain⟨v',fr1,E1,a1,a2,a3,a4,a5⟩:=r.QF (Mq r (by rw[aE];simp[jP])) aE;refine⟨v',fr1,E1,a1,?_,(a4 fl hfl).snoc (.au v')⟩;simp only[qR,aE,qo];exact a3
    |v z=>
     rw[aE]at hf hk;obtain⟨w,g1,_⟩:=gi hf (n5 (by simpa[xX]using hk));exact same w (by simp[bh,g1]) (by simp[qR,aE,qo])
    |rf s p=>rw[aE]at hf;obtain⟨w,g1,_⟩:=hf;exact same w (by simp[bh,g1]) (by simp[qR,aE,qo])
    |rv s p lo hi=>
     rw[aE]at hf;rcases hf with⟨_,g2,_⟩|⟨id,off,es,n,cc,_,_,_,g4⟩
     ·exact same (.slice ae 0 0) (by simp only[bh,g2]) (by simp[qR,aE,qo])
     ·exact same (.slice (J ⟨id,off+lo*es,J es⟩) (hi-lo) (cc-lo)) (by simp only[bh,g4]) (by simp[qR,aE,qo])
    |ra s p i j n=>rw[aE]at hf;obtain⟨w,g1,_⟩:=hf;exact same (.agg w) (by simp only[bh,g1]) (by simp[qR,aE,qo])
    |_=>rw[aE]at hk;simp[xX]at hk
   |const k=>exact same k (by simp only[yL]at hk;simp[bh,be,hk]) rfl
   |func f=>exact same (.func (.func f) #[] #[]) (by simp[bh,be]) rfl
   |global g=>simp[yL]at hk
  ·cases h
def zwc:∀{l:List (Md×Nat×Operand)}{E:Env}{pf pf':ah}{fr:FR}{fl:List (PV×Value)}{ys:List PV},aq nt pin E0 E pf fr->d9 nt E fl->oe pf l=J (ys,pf')->
 ∃vs ai E',cn fr E.H (l.map (·.2.2))=J (vs,ai,E'.H)/\aq nt pin E0 E' pf' ai/\vs.length=l.length/\ys.length=l.length/\d9 nt E' (fl++ys.zip vs)/\
  (∀(k:Nat) (a:Md×Nat×Operand) (t:Nat) (v:Value),l[k]? =J a->a.2.2=.tmp t->vs[k]? =J v->ai t=.v v)/\(∀s u,fr s=.v u->ai s=.v u):=by
 intro l;induction l with
 |nil=>
  intro E pf pf' fr fl ys r hfl h;simp only[oe,aT,b9]at h;obtain⟨rfl,rfl⟩:=h;exact⟨[],fr,E,rfl,r,rfl,rfl,by simpa using hfl,λk a t v h=>by simp at h,λs u h=>h⟩
 |cons a l ih=>
  intro E pf pf' fr fl ys r hfl h;simp only[oe,bR,bN,b9]at h;obtain⟨⟨y,aQ⟩,h1,⟨Ua,bV⟩,h2,rfl,rfl⟩:=h;obtain⟨v,fr1,E1,m1,r1,f1⟩:=zwU r hfl h1;obtain⟨vs,dI,E2,m2,r2,l2,l3,f2,t2,k2⟩:=ih r1 f1 h2;obtain⟨q1,q2⟩:=UW m1;refine⟨v::vs,dI,E2,by simp[cn,m1,m2],r2,by simp[l2],by simp[l3],by simpa using f2,λk a' t w ha ht hw=>?_,λs u h=>k2 s u (q2 s u h)⟩;cases k with
  |zero=>simp at ha hw;subst ha;subst hw;exact k2 t v (q1 t ht)
  |succ k=>exact t2 k a' t w (by simpa using ha) ht (by simpa using hw)
end
end Go.Pm
