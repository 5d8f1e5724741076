import Derived.Test.YtplemekcclpaoaaGreatDoorPmN
namespace Go.Pm
open Go.Am
inductive Md where
 |sh|mv|io
def zaU:PV→Bool
 | .sl o _ rows=>o&&rows.attach.all fun⟨r,_⟩=>r.attach.all fun⟨x,_⟩=>zaU x
 | .bx row=>row.attach.all fun⟨x,_⟩=>zaU x
 | .agg row=>row.attach.all fun⟨x,_⟩=>zaU x
 | .tup xs=>xs.attach.all fun⟨x,_⟩=>zaU x
 | .fp _=>false
 | .func _ _ _=>false
 |_=>true
decreasing_by
 all_goals simp_wf
 all_goals
  first
   |(have h1:=List.sizeOf_lt_of_mem ‹_∈_›;omega)
   |(have h1:=List.sizeOf_lt_of_mem ‹x∈r›;have h2:=List.sizeOf_lt_of_mem ‹r∈rows›;omega)
variable{row:List PV}
theorem znA{o:Bool}{es:Nat}{rows:List (List PV)}:zaU (.sl o es rows)=(o&&rows.all (·.all zaU)):=by simp[zaU]
theorem zq8 :zaU (.bx row)=row.all zaU:=by simp[zaU]
theorem zqa :zaU (.agg row)=row.all zaU:=by simp[zaU]
theorem zp1 :zaU (.tup row)=row.all zaU:=by simp[zaU]
theorem PR.moveC{E E':Env}{l:Lo}{x:PV}{v:Value}(h:PR E l x v):zaU x=true→∀{l':Lo},MoveOK E E' l l'→PR E' l' x v:=by
 induction h with
 |junk v=>intro _ l' _;exact .junk v
 |bool b=>intro _ l' _;exact .bool b
 |int k n=>intro _ l' _;exact .int k n
 |str s=>intro _ l' _;exact .str s
 |nilp=>intro _ l' _;exact .nilp
 |nilf=>intro _ l' _;exact .nilf
 |nili=>intro _ l' _;exact .nili
 |sl0 o es=>intro _ l' _;exact .sl0 o es
 |slS hG hb hn hc hm hr hl h ih=>intro hc;simp[znA]at hc
 |slO how hG hb hrw hn hc hm hr hl h ih=>
  intro hcl l' hm';rename_i l _ _ _ _ _ _ _;rw[znA,Bool.true_and,List.all_eq_true]at hcl;cases l' with
  |none=>exact absurd (hm' _ [] (by simpa using how)) hG
  |some b=>
   have hm2:∀id r,E.ow id=some (l.1,l.2++r)→¬E.G id→E'.ow id=some (b.1,b.2++r)∧¬E'.G id∧E'.H.b id=E.H.b id:=hm';obtain⟨h1,h2,h3⟩:=hm2 _ [] (by simpa using how) hG;rw[←h3]at hb;exact .slO (by simpa using h1) h2 hb hrw hn hc hm hr hl fun i r j x y a1 a2 a3=>ih i r j x y a1 a2 a3 (List.all_eq_true.1 (hcl r (List.mem_of_getElem? a1)) x (List.mem_of_getElem? a2)) (MoveOK.ch (l:=some l) (l':=some b) hm' i j)
 |fp hG hb hl h ih=>intro hc;simp[zaU]at hc
 |bx how hG hb hrw hl h ih=>
  intro hcl l' hm';rename_i l _ _ _;rw[zq8,List.all_eq_true]at hcl;cases l' with
  |none=>exact absurd (hm' _ [] (by simpa using how)) hG
  |some b=>
   have hm2:∀id r,E.ow id=some (l.1,l.2++r)→¬E.G id→E'.ow id=some (b.1,b.2++r)∧¬E'.G id∧E'.H.b id=E.H.b id:=hm';obtain⟨h1,h2,h3⟩:=hm2 _ [] (by simpa using how) hG;rw[←h3]at hb;exact .bx (by simpa using h1) h2 hb hrw hl fun j x y a1 a2=>ih j x y a1 a2 (hcl x (List.mem_of_getElem? a1)) (MoveOK.ch (l:=some l) (l':=some b) hm' 0 j)
 |func fn hl kl h k ih ik=>intro hc;simp[zaU]at hc
 |agg hl h ih=>intro hc l' hm';rw[zqa,List.all_eq_true]at hc;exact .agg hl fun j x y a b=>ih j x y a b (hc x (List.mem_of_getElem? a)) (hm'.ch 0 j)
 |tup hl h0 h ih=>intro hc l' hm';rw[zp1,List.all_eq_true]at hc;exact .tup hl h0 fun j x y a b=>ih j x y a b (hc x (List.mem_of_getElem? a)) (hm'.ch 0 j)
def zmP(E:Env)(k:Nat)(a:Md×PV)(v:Value):Prop:=
 match a.1 with
 | .sh=>PR E none a.2 v
 |_=>PR E (some (k,[])) a.2 v
structure PostOK (E E':Env) (n:Nat) (vs:List Value) (r:PV) (rv:Value) (outs:List PV):Prop where
 ok:EnvOK E'
 since:Since E E'
 r:PR E' (some (n,[])) r rv
 len:outs.length=n
 o:∀(k:Nat) (y:PV) (v:Value),outs[k]? =some y→vs[k]? =some v→PR E' (some (k,[])) y v
def PCalls(P:Program)(f:FuncId)(as:List (Md×PV))(R:PV→List PV→Prop):Prop:=
 zac P f∧∀(E:Env) (vs:List Value),EnvOK E→vs.length=as.length→(∀(k:Nat) (a:Md×PV) (v:Value),as[k]? =some a→vs[k]? =some v→zmP E k a v)→
  ACalls P f vs E.H fun rv H'=>∃r outs E',R r outs∧E'.H=H'∧PostOK E E' as.length vs r rv outs
theorem PCalls.mono{P:Program}{f:FuncId}{as:List (Md×PV)}{R R':PV→List PV→Prop}(h:PCalls P f as R)(hr:∀r outs,R r outs→R' r outs):PCalls P f as R':=
 ⟨h.1,fun E vs h1 h2 h3=>(h.2 E vs h1 h2 h3).mono fun _ _ ⟨r,outs,E',a,b⟩=>⟨r,outs,E',hr r outs a,b⟩⟩
def killA(s:Nat):PF→PF
 | .rf s' []=>.rf s' []
 | .cl s' g us=>.cl s' g us
 |y=>zaW s 0 y
def PFr.killA(pf:PFr)(s:Nat):PFr:=fun t=>Go.Pm.killA s (pf t)
def zfK(pf:PFr)(s:Nat)(p:zad)(y:PV):Option PFr:=
 match p with
 |[]=>some ((pf.upd s (.v y)).killA s)
 |a::p=>zck pf s (a::p) y
def ioR(pf:PFr)(t s:Nat)(p:zad)(y:PV):Option (PV×PFr):=if zaC y=true then(zfK pf s p .junk).map fun pf'=>(y,(pf'.kill t 0).upd t (.rf s p))else none
def zBr(pf:PFr)(t s:Nat)(p:zad):PF→Option (PV×PFr)
 | .bl _=>match p with
  |[]=>none
  |_=>(zaz pf s p).bind fun y=>match y with
   | .bx row=>ioR pf t s p (.bx row)
   |_=>none
 |_=>(zaz pf s p).bind fun y=>match y with
  | .bx row=>ioR pf t s p (.bx row)
  |_=>none
def ioF(pf:PFr)(t:Nat):PF→Option (PV×PFr)
 | .v y=>if zaC y=true then(zfK pf t [] .junk).map fun pf'=>(y,pf')else none
 | .rf s p=>(zaz pf s p).bind (ioR pf t s p)
 | .pt s p i j=>if i=0∧j=0 then zBr pf t s p (pf s)else none
 |_=>none
def ioO(pf:PFr):Operand→Option (PV×PFr)
 | .tmp t=>ioF pf t (pf t)
 |_=>none
def shF(pf:PFr)(t:Nat):PF→PFr
 | .ls es rows=>(pf.upd t (.v (.sl true es rows))).kill t 0
 |_=>pf
def shO(pf:PFr):Operand→PFr
 | .tmp t=>shF pf t (pf t)
 |_=>pf
def zk8:PF→Bool
 | .v x=> !isJ x
 | .rf _ _| .rv _ _ _ _| .ra _ _ _ _ _| .ls _ _=>true
 |_=>false
def shk(pf:PFr):Operand→Bool
 | .tmp t=>zk8 (pf t)
 | .const c=>zai c
 | .func _=>true
 | .global _=>false
def zlW(pf:PFr)(md:Md)(e:Nat)(x:Operand):Option (PV×PFr):=
 match md with
 | .sh=>if shk pf x=true then some (.junk,shO pf x)else none
 | .mv=>zbg e pf x
 | .io=>ioO pf x
def zic(pf:PFr):List (Md×Nat×Operand)→Option (List PV×PFr)
 |[]=>some ([],pf)
 |a::as=>(zlW pf a.1 a.2.1 a.2.2).bind fun y=>(zic y.2 as).map fun z=>(y.1::z.1,z.2)
def shV(e:Nat)(pf:PFr):Operand→Option PV
 | .const c=>if zai c=true then some (zgF e c)else none
 | .func f=>some (.func (.func f) [] [])
 | .tmp t=>za9 pf (pf t)
 | .global _=>none
def shC(y:Option PV):Option PV:=y.bind fun y=>if isJ y=true then none else some (drop y)
def zln(pf:PFr)(a:Md×Nat×Operand)(y:PV):Option (Md×PV):=
 match a.1 with
 | .sh=>(shC (shV a.2.1 pf a.2.2)).map fun z=>(.sh,z)
 |m=>some (m,y)
def cargs(pf:PFr):List (Md×Nat×Operand)→List PV→Option (List (Md×PV))
 |[],[]=>some []
 |a::as,y::ys=>(zln pf a y).bind fun b=>(cargs pf as ys).map fun bs=>b::bs
 |_,_=>none
def zii(pf:PFr)(a:Md×Nat×Operand):Bool:=
 match a.1,a.2.2 with
 | .sh,.tmp t=>(za9 pf (pf t)).any zaC
 |_,_=>false
def zmY(nt:Nat)(pf:PFr)(t:Nat)(y:PV):PF→Option PFr
 | .rf s p=>zfK pf s p y
 |_=>if t<nt then zfK pf t [] y else none
def zjf(nt:Nat)(pf:PFr)(a:Md×Nat×Operand)(y:PV):Option PFr:=
 match a.1,a.2.2 with
 | .io,.tmp t=>zmY nt pf t y (pf t)
 |_,_=>some pf
def back(nt:Nat)(pf:PFr):List (Md×Nat×Operand)→List PV→Option PFr
 |[],_=>some pf
 |a::as,y::ys=>(zjf nt pf a y).bind fun pf'=>back nt pf' as ys
 |_::_,[]=>none
def fnF:PF→Option (FuncId×List PV×List PV)
 | .v (.func (.func g) xs us)=>some (g,xs,us)
 |_=>none
def fnO(pf:PFr):Operand→Option (FuncId×List PV×List PV)
 | .func g=>some (g,[],[])
 | .tmp t=>fnF (pf t)
 |_=>none
def zvi(c:Cfg)(d:Option Tmp)(K:PFr→Prop)(r:PV):Option PFr→Prop
 |some pf2=>zbr c K d (.v r) pf2
 |none=>False
def zsk(P:Program)(c:Cfg)(d:Option Tmp)(K:PFr→Prop)(pf1:PFr)(l:List (Md×Nat×Operand))(f:FuncId)(xs us:List PV)(as:List (Md×PV)):Prop:=
 PCalls P f (xs.map (fun x=>(.sh,x))++as++us.map (fun x=>(.sh,x))) fun r outs=>(l.any (zii pf1)=false∨(zaU r&&outs.all zaU)=true)∧zvi c d K r (back c.nt pf1 l (outs.drop xs.length))
def ziQ(P:Program)(c:Cfg)(d:Option Tmp)(K:PFr→Prop)(pf1:PFr)(l:List (Md×Nat×Operand)):Option (FuncId×List PV×List PV)→Option (List (Md×PV))→Prop
 |some (f,xs,us),some as=>zsk P c d K pf1 l f xs us as
 |_,_=>False
def zrt(P:Program)(c:Cfg)(f:Operand)(d:Option Tmp)(K:PFr→Prop)(l:List (Md×Nat×Operand)):Option (List PV×PFr)→Prop
 |some (ys,pf1)=>ziQ P c d K pf1 l (fnO pf1 f) (cargs pf1 l ys)
 |none=>False
def zdt(P:Program):List Operand→List TypeId→List (Nat×Operand)
 |[],_=>[]
 |x::xs,[]=>(0,x)::zdt P xs []
 |x::xs,t::ts=>(ezT P t,x)::zdt P xs ts
def zmy(P:Program)(c:Cfg)(f:Operand)(args:List Operand)(ts:List TypeId)(d:Option Tmp)(K:PFr→Prop)(pf:PFr)(ms:List Md):Prop:=
 ms.length=args.length∧zrt P c f d K (ms.zip (zdt P args ts)) (zic pf (ms.zip (zdt P args ts)))
def zy3(P:Program)(c:Cfg)(f:Operand)(args:List Operand)(d:Option Tmp)(K:PFr→Prop)(pf:PFr):Prop:=∃(g:FuncId) (x:Operand) (t:TypeId) (n:Int) (z:Nat×Nat×List PV),f=.func g∧args=[.const (.slice none 0 0),x]∧zuK P g t∧rdS pf x=some (.int .i64 n)∧ez P t=some z∧
 (0≤n∧z.2.1*n≤140737488355328∧n≤4611686018427387904)∧zbr c K d (.v (.sl true z.1 [])) pf
def clF:PF→Option (Nat×FuncId×List PV)
 | .cl s g us=>some (s,g,us)
 |_=>none
def clO(pf:PFr):Operand→Option (Nat×FuncId×List PV)
 | .tmp t=>clF (pf t)
 |_=>none
def zmf(P:Program)(c:Cfg)(f:Operand)(d:Option Tmp)(K:PFr→Prop)(l:List (Md×Nat×Operand))(x:Nat×FuncId×List PV):Option (List PV×PFr)→Prop
 |some (ys,pf1)=>clO pf1 f=some x∧ziQ P c d K pf1 l (some (x.2.1,[],x.2.2)) (cargs pf1 l ys)
 |none=>False
def zvW(P:Program)(c:Cfg)(f:Operand)(args:List Operand)(ts:List TypeId)(d:Option Tmp)(K:PFr→Prop)(pf:PFr):Prop:=
 ∃(ms:List Md) (x:Nat×FuncId×List PV),clO pf f=some x∧ms.length=args.length∧zmf P c f d K (ms.zip (zdt P args ts)++[(.io,0,.tmp x.1)]) x (zic pf (ms.zip (zdt P args ts)++[(.io,0,.tmp x.1)]))
def zyY(P:Program)(c:Cfg)(f:Operand)(args:List Operand)(ts:List TypeId)(d:Option Tmp)(K:PFr→Prop)(pf:PFr):Prop:=(∃ms,zmy P c f args ts d K pf ms)∨zy3 P c f args d K pf∨zvW P c f args ts d K pf
section
variable {nt:Nat}{pin:List (Nat×Value)}{E0 E E':Env}{pf:PFr}{fr fr':FR}{c:Cfg}{P:Program}
variable{fl:List (PV×Value)}{p:zad}{pf':PFr}{s t:Nat}{v:Value}{x:Operand}{y:PV}
theorem zsq{H H':AH}(h:mat fr H x=some (v,fr',H')):(∀t,x=.tmp t→fr' t=.v v)∧∀s u,fr s=.v u→fr' s=.v u:=by
 cases x with
 |tmp t=>
  simp only[mat]at h;split at h
  ·rename_i y hy;simp only[Option.some.injEq,Prod.mk.injEq]at h;obtain⟨rfl,rfl,rfl⟩:=h;exact⟨fun t' e=>by cases e;exact hy,fun s u h=>h⟩
  ·rename_i a b cs hy;simp only[Option.some.injEq,Prod.mk.injEq]at h;obtain⟨rfl,rfl,rfl⟩:=h;refine⟨fun t' e=>by cases e;simp[FR.put],fun s u h=>?_⟩;have:s≠t:=fun e=>by rw[e,hy]at h;cases h
   simp[FR.put,this,h]
  ·cases h
 |const k=>simp only[mat,Option.map_eq_some_iff,Prod.mk.injEq]at h;obtain⟨y,h1,rfl,rfl,rfl⟩:=h;exact⟨fun t e=>(by cases e),fun s u h=>h⟩
 |func k=>simp only[mat,Option.map_eq_some_iff,Prod.mk.injEq]at h;obtain⟨y,h1,rfl,rfl,rfl⟩:=h;exact⟨fun t e=>(by cases e),fun s u h=>h⟩
 |global k=>simp only[mat,Option.map_eq_some_iff,Prod.mk.injEq]at h;obtain⟨y,h1,rfl,rfl,rfl⟩:=h;exact⟨fun t e=>(by cases e),fun s u h=>h⟩
theorem RelP.upd_al(r:RelP nt pin E0 E pf fr)(ht:t<nt)(hs:s<nt)(hts:∀u,zam (pf u)≠some t)(hf:fr t=.v v)(hw:Wk E fr s p v):RelP nt pin E0 E (pf.upd t (.rf s p)) fr:=by
 refine⟨r.since,r.wf,r.fresh,fun u=>?_,fun u hu=>?_,fun u s' h=>?_,r.pin⟩
 ·by_cases e:u=t
  ·subst e;simp only[PFr.upd,if_true];exact⟨v,hf,hw⟩
  ·simp only[PFr.upd,if_neg e];exact r.f u
 ·have:u≠t:=by omega
  simp only[PFr.upd,if_neg this];exact r.hi u hu
 ·by_cases e:u=t
  ·subst e;simp only[PFr.upd,if_true,zam,Option.some.injEq]at h;omega
  ·simp only[PFr.upd,if_neg e]at h;exact r.rt u s' h
theorem zqR(r:RelP nt pin E0 E pf fr)(h:pf t≠jP):t<nt:=by
 rcases Nat.lt_or_ge t nt with h1|h1
 ·exact h1
 ·exact absurd (r.hi t h1) h
theorem Wk.rlW{b:Nat×zad}(h:Wk E fr s p v):Wk (E.rl (rlW (s,p) b)) fr s p v:=by
 cases hp:p with
 |nil=>
  rw[hp]at h;exact .inl ⟨v,zjm h,rfl⟩
 |cons a q=>
  rw[←hp];have hlen:p.length=q.length+1:=by rw[hp];rfl
  have keep:∀id r,E.ow id=some (s,r)→¬E.G id→r.length<p.length→(E.rl (Go.Pm.rlW (s,p) b)).ow id=some (s,r):=fun id r h1 h2 h3=>by
   have:¬p<+:r:=fun hpre=>by have:=hpre.length_le;omega
   simp[Env.rl,h1,Go.Pm.rlW,this]
  have wv:∀(p':zad) (q':zad) (v v0:Value),q'.length+p'.length≤p.length→Wv E (s,q') v p' v0→Wv (E.rl (Go.Pm.rlW (s,p) b)) (s,q') v p' v0:=by
   intro p';induction p' with
   |nil=>intro q' v v0 _ h;exact h
   |cons a' p' ih=>
    obtain⟨i,j⟩:=a';intro q' v v0 hl hh;obtain⟨id,o,k,y,g1,g2,g3,g4,g5⟩:=hh;simp only[List.length_cons]at hl;have ho:=g1.ow;have hk:=keep id q' ho.1 ho.2 (by omega);refine⟨id,o,k,y,?_,g2,g3,g4,ih (q'++[(i,j)]) _ _ (by simp;omega) g5⟩;cases g1 with
    |sl how hG hi=>exact .sl (j:=0) hk hG hi
    |bx how hG=>exact .bx hk hG
  rcases h with⟨r,h1,h2⟩|⟨cells,j,p',y,h1,h2,h3,h4⟩
  ·exact .inl ⟨r,h1,wv p [] r v (by simp) h2⟩
  ·exact .inr ⟨cells,j,p',y,h1,h2,h3,wv p' [(0,j)] y v (by rw[h2];simp;omega) h4⟩
theorem RelP.weak(r:RelP nt pin E0 E pf fr){pf2:PFr}(h:∀t,pf2 t=pf t∨pf2 t=jP):RelP nt pin E0 E pf2 fr:=by
 refine⟨r.since,r.wf,r.fresh,fun t=>?_,fun t ht=>?_,fun t s hs=>?_,r.pin⟩
 ·rcases h t with e|e<;>rw[e]
  ·exact r.f t
  ·exact zfY
 ·rcases h t with e|e<;>rw[e]
  exact r.hi t ht
 ·rcases h t with e|e<;>rw[e]at hs
  ·exact r.rt t s hs
  ·simp[jP,zam]at hs
theorem zwj(s n:Nat):∀t,(pf.kill s n) t=pf t∨(pf.kill s n) t=jP:=fun t=>by
 simp only[PFr.kill,zaW];split
 ·exact .inr rfl
 ·exact .inl rfl
theorem zvF(r:RelP nt pin E0 E pf fr)(ht:t<nt)(hs:s<nt)(hf:fr t=.v v)(hw:Wk E fr s p v):RelP nt pin E0 E ((pf.kill t 0).upd t (.rf s p)) fr:=
 (r.weak (zwj t 0)).upd_al ht hs (fun u=>by
   simp only[PFr.kill,zaW];split
   ·simp[jP,zam]
   ·rename_i h;exact fun e=>h ⟨e,Nat.zero_le _⟩) hf hw
theorem zkg(r:RelP nt pin E0 E pf fr)(h:zfK pf s p y=some pf'):∃pf1,zck pf s p y=some pf1∧∀{E':Env},GK E E'→RelP nt pin E0 E' pf1 fr→RelP nt pin E0 E' pf' fr:=by
 cases p with
 |cons a p=>exact⟨pf',h,fun _ h=>h⟩
 |nil=>
  simp only[zfK,Option.some.injEq]at h;subst h;refine⟨(pf.upd s (.v y)).kill s 0,rfl,fun{E'} hgk r2=>?_⟩
  have key:∀u,((pf.upd s (.v y)).killA s) u=((pf.upd s (.v y)).kill s 0) u∨(∃s',((pf.upd s (.v y)).killA s) u=.rf s' []∧pf u=.rf s' [])∨∃s' g us,((pf.upd s (.v y)).killA s) u=.cl s' g us∧pf u=.cl s' g us:=by
   intro u;simp only[PFr.killA,PFr.kill,PFr.upd];split
   ·left;simp[Go.Pm.killA]
   ·cases hu:pf u with
    |rf s' p'=>
     cases p' with
     |nil=>right;left;exact⟨s',rfl,rfl⟩
     |cons a p'=>left;rfl
    |cl s' g us=>right;right;exact⟨s',g,us,rfl,rfl⟩
    |_=>left;rfl
  refine⟨r2.since,r2.wf,r2.fresh,fun u=>?_,fun u hu=>?_,fun u s2 hu=>?_,r2.pin⟩
  ·rcases key u with e|⟨s',e,e2⟩|⟨s',g,us,e,e2⟩
   ·rw[e];exact r2.f u
   ·rw[e];have hf:=r.f u;rw[e2]at hf;obtain⟨v,h1,h2⟩:=hf;refine⟨v,h1,?_⟩;rcases h2 with⟨w,g1,g2⟩|⟨cells,j,p',y',g1,g2,g3⟩
    ·exact .inl ⟨w,g1,g2⟩
    ·cases g2
   ·rw[e];have hf:=r.f u;rw[e2]at hf;obtain⟨v,vs,h1,h2,h3,h4⟩:=hf;refine⟨v,vs,h1,?_,h3,fun i x y a b=>(h4 i x y a b).mono hgk⟩;rcases h2 with⟨w,g1,g2⟩|⟨cells,j,p',y',g1,g2,g3⟩
    ·exact .inl ⟨w,g1,g2⟩
    ·cases g2
  ·rcases key u with e|⟨s',e,e2⟩|⟨s',g,us,e,e2⟩
   ·rw[e];exact r2.hi u hu
   ·have:=r.hi u hu;rw[e2]at this;cases this
   ·have:=r.hi u hu;rw[e2]at this;cases this
  ·rcases key u with e|⟨s',e,e2⟩|⟨s',g,us,e,e2⟩
   ·rw[e]at hu;exact r2.rt u s2 hu
   ·rw[e]at hu;exact r.rt u s2 (by rw[e2];exact hu)
   ·rw[e]at hu;exact r.rt u s2 (by rw[e2];exact hu)
theorem zyI(r:RelP nt pin E0 E pf fr){k:Nat}{pf1:PFr}(hs:s<nt)(hw:Wk E fr s p v)(h1:zck pf s p .junk=some pf1):RelP nt pin E0 (E.rl (rlW (s,p) (nt,[(0,k)]))) pf1 fr:=by
 refine r.setAt hs hw h1 rfl zcM zba (fun t _ ht=>zbN fun r=>zdq ht) (fun id hid=>?_) (fun id q h1 h2 h3=>?_) (.junk _)
 ·obtain⟨h1,h2⟩:=r.fresh id hid;exact⟨by simp[Env.rl,h1],h2⟩
 ·exact⟨by simp[Env.rl,h1,rlW,h3],h2⟩
theorem zqg(r:RelP nt pin E0 E pf fr)(hfl:FlOK nt E fl){x:PV}(ht:t<nt)(hs:s<nt)(hx:zaz pf s p=some x)(hf:fr t=.v v)(hw:Wk E fr s p v)(h:ioR pf t s p x=some (y,pf')):
 ∃E',E'.H=E.H∧RelP nt pin E0 E' pf' fr∧FlOK nt E' (fl++[(y,v)]):=by
 unfold ioR at h;split at h
 ·rename_i ho;simp only[Option.map_eq_some_iff,Prod.mk.injEq]at h;obtain⟨pf1,h1,rfl,rfl⟩:=h;have hxj:x≠.junk:=by rintro rfl;simp[zaC]at ho
  have hp:=zbc r hw hx;obtain⟨v',a1,hv⟩:=r.at hx hxj hp;have:=a1.same hw;subst this;refine⟨E.rl (rlW (s,p) (nt,[(0,fl.length)])),rfl,?_,?_⟩
  ·refine zvF (by
    obtain⟨pf2,q1,q2⟩:=zkg r h1;refine q2 zba ?_
    exact(zyI r hs hw q1)) ht hs hf hw.rlW
  ·exact(hfl.stay zba (zbN fun r=>zdq (by show nt≠s;omega))).snoc (hv.move zba (zcJ fun r=>zfq _ _ r))
 ·cases h
theorem zwW(r:RelP nt pin E0 E pf fr)(hfl:FlOK nt E fl)(h:ioO pf x=some (y,pf')):
 ∃v E',(∀H,mat fr H x=some (v,fr,H))∧E'.H=E.H∧RelP nt pin E0 E' pf' fr∧FlOK nt E' (fl++[(y,v)]):=by
 cases x with
 |tmp t=>
  simp only[ioO]at h;have hf:=r.f t;have ht:t<nt:=zqR r (by intro e;rw[e]at h;simp[ioF,jP,zaC]at h);cases hpt:pf t with
  |v x=>
   rw[hpt]at h hf;simp only[ioF]at h;split at h
   ·rename_i ho;have hxj:x≠.junk:=by rintro rfl;simp[zaC]at ho
    simp only[Option.map_eq_some_iff,Prod.mk.injEq]at h;obtain⟨pf1,h1,rfl,rfl⟩:=h;obtain⟨v,g1,g2⟩:=zcl hf hxj;obtain⟨pf2,q1,q2⟩:=zkg r h1;have hw:Wk E fr t [] v:=.inl ⟨v,g1,rfl⟩;refine⟨v,E.rl (rlW (t,[]) (nt,[(0,fl.length)])),fun H=>by simp[mat,g1],rfl,q2 zba (zyI r ht hw q1),?_⟩;exact(hfl.stay zba (zbN fun r=>zdq (Nat.ne_of_gt ht))).snoc (g2.move zba (zcJ fun r=>zfq _ _ r))
   ·cases h
  |rf s p=>
   rw[hpt]at h hf;simp only[ioF,Option.bind_eq_some_iff]at h;obtain⟨x,hx,h⟩:=h;obtain⟨v,g1,g2⟩:=hf;obtain⟨E',a1,a2,a3⟩:=zqg r hfl ht (r.rt t s (by rw[hpt];rfl)) hx g1 g2 h;exact⟨v,E',fun H=>by simp[mat,g1],a1,a2,a3⟩
  |pt s p i j=>
   rw[hpt]at h hf;have hs:=r.rt t s (by rw[hpt];rfl);simp only[ioF]at h;split at h
   case isFalse=>cases h
   rename_i heq;obtain⟨rfl,rfl⟩:=heq
   have key:∀row,zaz pf s p=some (.bx row)→(p≠[]∨∃y,pf s=.v y)→ioR pf t s p (.bx row)=some (y,pf')→∃v E',(∀H,mat fr H (.tmp t)=some (v,fr,H))∧E'.H=E.H∧RelP nt pin E0 E' pf' fr∧FlOK nt E' (fl++[(y,v)]):=by
    intro row hx hp hr;obtain⟨v,w1,w2⟩:=r.at hx (by simp) hp
    have hft:fr t=.v v:=by
     rcases hf with⟨cells,h1,h2,h3,h4⟩|⟨v0,id,o,h1,h2,h3⟩
     ·subst h2;rcases hp with h|⟨z,hz⟩
      ·exact absurd rfl h
      ·have hg:=r.f s;rw[hz]at hg;have:=zjm w1;rw[h1]at this;cases this
     ·have:=h1.same w1;subst this;cases w2 with
      |bx how hG hb hrw hl hh=>
       cases h2 with
       |bx _ _=>exact h3
    obtain⟨E',a1,a2,a3⟩:=zqg r hfl ht hs hx hft w1 hr;exact⟨v,E',fun H=>by simp[mat,hft],a1,a2,a3⟩
   unfold zBr at h;split at h
   ·split at h
    ·cases h
    ·rename_i hne;obtain⟨z,hz,h⟩:=Option.bind_eq_some_iff.1 h;split at h
     ·exact key _ hz (.inl fun e=>hne e) h
     ·cases h
   ·rename_i hnb;obtain⟨z,hz,h⟩:=Option.bind_eq_some_iff.1 h;split at h
    ·refine key _ hz ?_ h;by_cases h0:p=[]
     ·right;cases hps:pf s with
      |v y=>exact⟨y,rfl⟩
      |bl row=>exact absurd hps (hnb row)
      |_=>simp[zaz,hps,zbs]at hz
     ·exact .inl h0
    ·cases h
  |_=>rw[hpt]at h;simp[ioF]at h
 |_=>simp[ioO]at h
theorem zu1(r:RelP nt pin E0 E pf fr)(hfl:FlOK nt E fl){md:Md}{e:Nat}(h:zlW pf md e x=some (y,pf')):
 ∃v fr' E',mat fr E.H x=some (v,fr',E'.H)∧RelP nt pin E0 E' pf' fr'∧FlOK nt E' (fl++[(y,v)]):=by
 cases md with
 |mv=>
  obtain⟨v,fr',H',E',m1,e1,r1,f1⟩:=zdw r hfl h;exact⟨v,fr',E',by rw[e1];exact m1,r1,f1⟩
 |io=>
  obtain⟨v,E',m1,e1,r1,f1⟩:=zwW r hfl h;exact⟨v,fr,E',by rw[m1,e1],r1,f1⟩
 |sh=>
  simp only[zlW]at h;split at h
  ·rename_i hk;simp only[Option.some.injEq,Prod.mk.injEq]at h;obtain⟨rfl,rfl⟩:=h
   have same:∀v,mat fr E.H x=some (v,fr,E.H)→shO pf x=pf→∃v fr' E',mat fr E.H x=some (v,fr',E'.H)∧RelP nt pin E0 E' (shO pf x) fr'∧FlOK nt E' (fl++[(.junk,v)]):=
    fun v m1 hs=>⟨v,fr,E,m1,by rw[hs];exact r,hfl.snoc (.junk v)⟩
   cases x with
   |tmp t=>
    simp only[shk]at hk;have hf:=r.f t;cases hpt:pf t with
    |ls es rows=>
     obtain⟨v',fr1,E1,a1,a2,a3,a4,a5⟩:=r.mater (zqR r (by rw[hpt];simp[jP])) hpt;refine⟨v',fr1,E1,a1,?_,(a4 fl hfl).snoc (.junk v')⟩;simp only[shO,hpt,shF];exact a3
    |v z=>
     rw[hpt]at hf hk;obtain⟨w,g1,_⟩:=zcl hf (ze5 (by simpa[zk8]using hk));exact same w (by simp[mat,g1]) (by simp[shO,hpt,shF])
    |rf s p=>rw[hpt]at hf;obtain⟨w,g1,_⟩:=hf;exact same w (by simp[mat,g1]) (by simp[shO,hpt,shF])
    |rv s p lo hi=>
     rw[hpt]at hf;rcases hf with⟨_,g2,_⟩|⟨id,off,es,n,cc,_,_,_,g4⟩
     ·exact same (.slice none 0 0) (by simp only[mat,g2]) (by simp[shO,hpt,shF])
     ·exact same (.slice (some ⟨id,off+lo*es,some es⟩) (hi-lo) (cc-lo)) (by simp only[mat,g4]) (by simp[shO,hpt,shF])
    |ra s p i j n=>rw[hpt]at hf;obtain⟨w,g1,_⟩:=hf;exact same (.agg w) (by simp only[mat,g1]) (by simp[shO,hpt,shF])
    |_=>rw[hpt]at hk;simp[zk8]at hk
   |const k=>exact same k (by simp only[shk]at hk;simp[mat,rdv,hk]) rfl
   |func f=>exact same (.func (.func f) #[] #[]) (by simp[mat,rdv]) rfl
   |global g=>simp[shk]at hk
  ·cases h
theorem zul:∀{l:List (Md×Nat×Operand)}{E:Env}{pf pf':PFr}{fr:FR}{fl:List (PV×Value)}{ys:List PV},RelP nt pin E0 E pf fr→FlOK nt E fl→zic pf l=some (ys,pf')→
 ∃vs fr' E',zaG fr E.H (l.map (·.2.2))=some (vs,fr',E'.H)∧RelP nt pin E0 E' pf' fr'∧vs.length=l.length∧ys.length=l.length∧FlOK nt E' (fl++ys.zip vs)∧
  (∀(k:Nat) (a:Md×Nat×Operand) (t:Nat) (v:Value),l[k]? =some a→a.2.2=.tmp t→vs[k]? =some v→fr' t=.v v)∧(∀s u,fr s=.v u→fr' s=.v u):=by
 intro l;induction l with
 |nil=>
  intro E pf pf' fr fl ys r hfl h;simp only[zic,Option.some.injEq,Prod.mk.injEq]at h;obtain⟨rfl,rfl⟩:=h;exact⟨[],fr,E,rfl,r,rfl,rfl,by simpa using hfl,fun k a t v h=>by simp at h,fun s u h=>h⟩
 |cons a l ih=>
  intro E pf pf' fr fl ys r hfl h;simp only[zic,Option.bind_eq_some_iff,Option.map_eq_some_iff,Prod.mk.injEq]at h;obtain⟨⟨y,pf1⟩,h1,⟨ys1,pf2⟩,h2,rfl,rfl⟩:=h;obtain⟨v,fr1,E1,m1,r1,f1⟩:=zu1 r hfl h1;obtain⟨vs,fr2,E2,m2,r2,l2,l3,f2,t2,k2⟩:=ih r1 f1 h2;obtain⟨q1,q2⟩:=zsq m1;refine⟨v::vs,fr2,E2,by simp[zaG,m1,m2],r2,by simp[l2],by simp[l3],by simpa using f2,fun k a' t w ha ht hw=>?_,fun s u h=>k2 s u (q2 s u h)⟩;cases k with
  |zero=>simp at ha hw;subst ha;subst hw;exact k2 t v (q1 t ht)
  |succ k=>exact t2 k a' t w (by simpa using ha) ht (by simpa using hw)
end
end Go.Pm
