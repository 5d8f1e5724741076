import Derived.Test.YtjnidpmkglobfaaGreatPmB
open Bool renaming false→Z,true→O
open Option renaming none→aa,some→J
set_option linter.defProp false
namespace Go.Pm
open Go.Am
def fG:=@List.length_cons
def a1E:=@Nat.lt_of_not_le
inductive PF where
 |v (x:PV)
 |skip
 |ls (es:Nat) (rows:List (List PV))
 |bl (row:List PV)
 |pt (s:Nat) (p:aB) (i j:Nat)
 |rf (s:Nat) (p:aB)
 |rv (s:Nat) (p:aB) (lo hi:Nat)
 |ra (s:Nat) (p:aB) (i j n:Nat)
 |as (b:Bool) (s:Nat) (p:aB) (i j n:Nat)
 |cl (s:Nat) (g:FuncId) (us:List PV)
abbrev ae:=Nat->PF
def jP:PF:=.v .az
def bA:PF->Option Nat
 | .pt s _ _ _| .rf s _| .rv s _ _ _| .ra s _ _ _ _| .as _ s _ _ _ _| .cl s _ _=>J s
 |_=>aa
def mh:PF->Nat
 | .pt _ p _ _| .rf _ p| .rv _ p _ _=>p.length
 | .ra _ p _ _ _| .as _ _ p _ _ _=>p.length+1
 |_=>0
def fV(d:Nat)(y:PF):PF:=if bA y=J d then jP else y
def dr(s n:Nat)(y:PF):PF:=if bA y=J s/\n<=mh y then jP else y
def ae.put(X:ae)(d:Nat)(x:PF):ae:=λt=>if t=d then x else fV d (X t)
def ae.kill(X:ae)(s n:Nat):ae:=λt=>dr s n (X t)
def ae.bV(X:ae)(d:Nat)(x:PF):ae:=λt=>if t=d then x else X t
def fS:PF->Option PV
 | .v x=>J x
 | .bl c=>J (.bx c)
 |_=>aa
def sI:PF->PV->Option PF
 | .v _,x=>J (.v x)
 | .bl _,.bx c=>J (.bl c)
 |_,_=>aa
def cj(X:ae)(s:Nat)(p:aB):Option PV:=(fS (X s)).bind (iV · p)
def mK(X:ae)(s:Nat)(p:aB)(i j:Nat)(d:List PV):Option ae:=
 (fS (X s)).bind λx=>(jK x p (iU i j d)).bind λc=>(sI (X s) c).map λy=>(X.bV s y).kill s (p.length+1)
section
variable {U:Nat}{S:List (Nat×Value)}{E E':Env}{X:ae}{Y W:FR}{T:List (PV×Value)}
def Wk(E:Env)(Y:FR)(s:Nat)(p:aB)(e:Value):Prop:=
 (∃r,Y s=.v r/\Wv E (s,[]) r p e)\/∃c j d y,Y s=.loc c/\p=(0,j)::d/\c[j]? =J y/\Wv E (s,[(0,j)]) y d e
variable{L i i' j j' n s t:Nat}{a b:Nat×aB}{f:Nat×aB->Option (Nat×aB)}{p:aB}
def Wk.same{a b:Value}(h:Wk E Y s p a)(e:Wk E Y s p b):a=b:=by
 rcases h with⟨r,c,d⟩|⟨l,j,o,y,c,d,g,k⟩<;>rcases e with⟨u,k1,k2⟩|⟨m,j',q,v,k1,k2,k3,k4⟩
 ·rw[c]at k1;cases k1;exact d.same k2
 ·rw[c]at k1;cases k1
 ·rw[c]at k1;cases k1
 ·rw[c]at k1;cases k1;rw[d]at k2;cases k2;rw[g]at k3;cases k3;exact k.same k4
structure KL (E E':Env) (s L:Nat):Prop where
 own:∀id r,E.ow id=J (s,r)->¬E.G id->r.length<=L->E'.ow id=J (s,r)/\¬E'.G id
 hb:∀id r,E.ow id=J (s,r)->¬E.G id->r.length<L->E'.H.b id=E.H.b id
def Hd.ej{l:Nat×aB}{v:Value}{id o:Nat}(h:Hd E l v i id o)(k:KL E E' l.1 L)(e:l.2.length<=L):Hd E' l v i id o:=by
 cases h with
 |sl d c g=>have:=k.own _ _ d c e;exact .sl (j:=0) this.1 this.2 g
 |bx d c=>have:=k.own _ _ d c e;exact .bx this.1 this.2
def Hd.ow{l:Nat×aB}{v:Value}{id o:Nat}(h:Hd E l v i id o):E.ow id=J l/\¬E.G id:=by cases h<;>exact⟨‹_›,‹_›⟩
def Wv.ej(k:KL E E' s L):∀{p q:aB}{v c:Value},Wv E (s,q) v p c->q.length+p.length<=L->Wv E' (s,q) v p c:=by
 intro p;induction p with
 |nil=>intro q v c h _;exact h
 |cons a p ih=>
  obtain⟨i,j⟩:=a;intro q v c h w;obtain⟨id,o,x,y,d,g,m,r,u⟩:=h;simp only[fG]at w;have e:=d.ow;exact⟨id,o,x,y,d.ej (l:=(s,q)) k (by show q.length<=L;omega),g,(k.hb id q e.1 e.2 (by omega)).trans m,r,ih (q:=q++[(i,j)]) u (by simp;omega)⟩
def Wk.ej{l:Value}(h:Wk E Y s p l)(k:KL E E' s L)(g:p.length<=L)(e:W s=Y s):Wk E' W s p l:=by
 rcases h with⟨r,c,d⟩|⟨m,j,u,y,c,d,o,q⟩
 ·exact .inl ⟨r,e.trans c,d.ej k (by simpa using g)⟩
 ·subst d;exact .inr ⟨m,j,u,y,e.trans c,rfl,o,q.ej k (by simp at g⊢;omega)⟩
def Xt(E:Env)(Y:FR)(s:Nat)(g:FuncId)(d:List PV)(e:FV):Prop:=
 ∃(v:Value) (c:List Value),e=.v (.func (.func g) #[] (v::c).toArray)/\Wk E Y s [] v/\d.length=c.length/\∀(i:Nat) (x:PV) (y:Value),d[i]? =J x->c[i]? =J y->PR E aa x y
def pe(E:Env)(y:PF)(Y:FR)(t:Nat):Prop:=
 match y with
 | .v .az=>True
 | .v x=>∃v,Y t=.v v/\PR E (J (t,[])) x v
 | .skip=>Y t=.skip
 | .ls e m=>∃d,Y t=.ls m.length e d/\d.length=m.length*e/\(m.length<=kA/\e≠0)/\(∀r,r∈m->r.length=e)/\
  ∀(i:Nat) (r:List PV) (j:Nat) (x:PV) (y:Value),m[i]? =J r->r[j]? =J x->d[i*e+j]? =J y->PR E (J (t,[(i,j)])) x y
 | .bl w=>∃d,Y t=.loc d/\w.length=d.length/\∀(j:Nat) (x:PV) (y:Value),w[j]? =J x->d[j]? =J y->PR E (J (t,[(0,j)])) x y
 | .pt s p i j=>(∃d,Y s=.loc d/\p=[]/\i=0/\Y t=.lp s j)\/∃z id o,Wk E Y s p z/\Hd E (s,p) z i id o/\Y t=.v (.pointer (J ⟨id,o+j,aa⟩))
 | .rf s p=>∃v,Y t=.v v/\Wk E Y s p v
 | .rv s p l u=>(Wk E Y s p (.slice aa 0 0)/\Y t=.v (.slice aa 0 0)/\l=0/\u=0)\/
  ∃id off e n c,Wk E Y s p (.slice (J ⟨id,off,J e⟩) n c)/\l<=u/\u<=n/\Y t=.v (.slice (J ⟨id,off+l*e,J e⟩) (u-l) (c-l))
 | .ra s p i j n=>∃h,Y t=.v (.agg h)/\(h.toList.length=n/\n≠0)/\∀q y,h.toList[q]? =J y->Wk E Y s (p++[(i,j+q)]) y
 | .as Z s p i j n=>∃h:List Value,Y t=.ls n 1 h/\(h.length=n/\n≠0)/\∀q y,h[q]? =J y->Wk E Y s (p++[(i,j+q)]) y
 | .as O s p i j _=>∃id off k v,Y t=.v (.pointer (J ⟨id,off,aa⟩))/\E.G id/\E.H.b id=J k/\k.cells[off]? =J v/\Wk E Y s (p++[(i,j)]) v
 | .cl s g A=>Xt E Y s g A (Y t)
def ym :pe E jP Y t:=True.intro
def pe.stay{y:PF}(h:pe E y Y t)(B:GK E E')(D:dC E E' (J (t,[])) (J (t,[])))(u:W t=Y t)
(z:∀s,bA y=J s->W s=Y s/\KL E E' s (mh y)):pe E' y W t:=by
 cases y with
 |v x=>
  cases x with
  |az=>exact True.intro
  |_=>obtain⟨v,d,g⟩:=h;exact⟨v,u.trans d,g.move B D⟩
 |skip=>exact u.trans h
 |ls G rows=>
  obtain⟨A,d,g,m,w,I⟩:=h;exact⟨A,u.trans d,g,m,w,λi rx1 j x y a b c=>(I i rx1 j x y a b c).move B (dC.ch (l:=J (t,[])) (l':=J (t,[])) D i j)⟩
 |bl row=>
  obtain⟨A,d,g,m⟩:=h;exact⟨A,u.trans d,g,λj x y a b=>(m j x y a b).move B (dC.ch (l:=J (t,[])) (l':=J (t,[])) D 0 j)⟩
 |pt s p i j=>
  obtain⟨r,o⟩:=z s rfl;rcases h with⟨A,d,g,m,w⟩|⟨v0,id,ox1,d,g,m⟩
  ·exact .inl ⟨A,r.trans d,g,m,u.trans w⟩
  ·exact .inr ⟨v0,id,ox1,d.ej o (cq _) r,g.ej (l:=(s,p)) o (cq _),u.trans m⟩
 |rf s p=>
  obtain⟨r,o⟩:=z s rfl;obtain⟨v,d,g⟩:=h;exact⟨v,u.trans d,g.ej o (cq _) r⟩
 |rv s p lo hi=>
  obtain⟨r,o⟩:=z s rfl;rcases h with⟨d,g,m⟩|⟨id,off,G,n,c,d,g,m,w⟩
  ·exact .inl ⟨d.ej o (cq _) r,u.trans g,m⟩
  ·exact .inr ⟨id,off,G,n,c,d.ej o (cq _) r,g,m,u.trans w⟩
 |ra s p i j n=>
  obtain⟨r,o⟩:=z s rfl;obtain⟨C,d,g,m⟩:=h;exact⟨C,u.trans d,g,λq y F=>(m q y F).ej o (by simp[mh]) r⟩
 |as b s p i j n=>
  obtain⟨r,o⟩:=z s rfl;cases b with
  |false=>
   obtain⟨C,d,g,m⟩:=h;exact⟨C,u.trans d,g,λq y F=>(m q y F).ej o (by simp[mh]) r⟩
  |true=>
   obtain⟨id,off,k,v,d,K,M,N,Q⟩:=h;obtain⟨r6,P⟩:=B _ K;obtain⟨R,H,e⟩:=P _ M;exact⟨id,off,R,v,u.trans d,r6,H,by rw[e];exact N,Q.ej o (by simp[mh]) r⟩
 |cl s gx1 us=>
  obtain⟨r,o⟩:=z s rfl;obtain⟨v,C,d,g,m,w⟩:=h;exact⟨v,C,u.trans d,g.ej o (cq _) r,m,λi x y a b=>(w i x y a b).mono B⟩
def KL.J0(h:dC E E' (J (s,[])) (J (s,[]))):KL E E' s L:=by
 have h:∀id r,E.ow id=J (s,[]++r)->¬E.G id->E'.ow id=J (s,[]++r)/\¬E'.G id/\E'.H.b id=E.H.b id:=h;exact⟨λid r c d _=>⟨(h id r c d).1,(h id r c d).2.1⟩,λid r c d _=>(h id r c d).2.2⟩
def dC.refl(l:Lo):dC E E l l:=by
 cases l with
 |none=>exact True.intro
 |some a=>exact λid r c d=>⟨c,d,rfl⟩
def Env.rl(E:Env)(f:Nat×aB->Option (Nat×aB)):Env:={E with ow:=λid=>(E.ow id).map λx=>(f x).getD x}
def d7 :GK E (E.rl f):=λ_ h=>⟨h,λk c=>⟨k,c,rfl⟩⟩
def mi(h:∀r,f (a.1,a.2++r)=J (b.1,b.2++r)):dC E (E.rl f) (J a) (J b):=
 λid r c d=>⟨by simp[Env.rl,c,h],d,rfl⟩
def jd(h:∀r,f (a.1,a.2++r)=aa):dC E (E.rl f) (J a) (J a):=
 λid r c d=>⟨by simp[Env.rl,c,h],d,rfl⟩
def fD(a b:Nat×aB)(x:Nat×aB):Option (Nat×aB):=if x.1=a.1/\a.2<+:x.2 then J (b.1,b.2++x.2.drop a.2.length)else aa
def zgn(a b:Nat×aB)(r:aB):fD a b (a.1,a.2++r)=J (b.1,b.2++r):=by simp[fD]
def lF{x:Nat×aB}(h:x.1≠a.1):fD a b x=aa:=by simp[fD,h]
def uD(a:Nat×aB)(i j n:Nat)(b:Nat×aB)(i' j':Nat)(x:Nat×aB):Option (Nat×aB):=
 if x.1=a.1/\a.2<+:x.2 then match x.2.drop a.2.length with
  |(d,c)::r=>if d=i/\j<=c/\c<j+n then J (b.1,b.2++(i',j'+(c-j))::r)else aa
  |[]=>aa
 else aa
def Zd{q:Nat}(c:q<n)(r:aB):uD a i j n b i' j' (a.1,a.2++(i,j+q)::r)=J (b.1,b.2++(i',j'+q)::r):=by
 simp only[uD,pR,List.prefix_append,e7,We];rw[aE (by constructor<;>omega)];simp
def zxX{x:Nat×aB}(h:x.1≠a.1):uD a i j n b i' j' x=aa:=by simp[uD,h]
def zAn{r:aB}(h:tQ a.2 i j n r):uD a i j n b i' j' (a.1,r)=aa:=by
 simp only[uD,pR];split
 ·rename_i k;obtain⟨t,rfl⟩:=k;simp only[We];cases t with
  |nil=>rfl
  |cons c t=>
   obtain⟨m,l⟩:=c;simp only;split
   ·rename_i e;obtain⟨rfl,d,g⟩:=e;exact absurd ⟨d,g⟩ (h l t rfl)
   ·rfl
 ·rfl
def zxq{m:Nat}{r:aB}(h:r.length<=p.length):tQ p i j m r:=λj' c e=>by
 have:=iB List.length e;simp at this;omega
def zxj{y:PF}(h:bA (dr s n y)=J t):bA y=J t/\(t=s->mh y<n)/\dr s n y=y:=by
 unfold dr at h⊢;split at h
 ·simp[jP,bA]at h
 ·rename_i c;rw[aA c];refine⟨h,λe=>?_,rfl⟩;subst e;exact a1E λd=>c ⟨h,d⟩
end
end Go.Pm
