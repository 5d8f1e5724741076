import Derived.Test.YtnojafnlicbhpaaGreatPmB
open Bool renaming false→aa,true→Z
open Option renaming none→ae,some→J
set_option linter.defProp false
namespace Go.Pm
open Go.Am
def d5:=@List.length_cons
def a1m:=@Nat.lt_of_not_le
inductive PF where
 |v (x:PV)
 |skip
 |ls (es:Nat) (rows:List (List PV))
 |bl (row:List PV)
 |pt (s:Nat) (p:aC) (i j:Nat)
 |rf (s:Nat) (p:aC)
 |rv (s:Nat) (p:aC) (lo hi:Nat)
 |ra (s:Nat) (p:aC) (i j n:Nat)
 |as (b:Bool) (s:Nat) (p:aC) (i j n:Nat)
 |cl (s:Nat) (g:FuncId) (us:List PV)
abbrev ah:=Nat->PF
def jP:PF:=.v .ax
def bE:PF->Option Nat
 | .pt s _ _ _| .rf s _| .rv s _ _ _| .ra s _ _ _ _| .as _ s _ _ _ _| .cl s _ _=>J s
 |_=>ae
def lG:PF->Nat
 | .pt _ p _ _| .rf _ p| .rv _ p _ _=>p.length
 | .ra _ p _ _ _| .as _ _ p _ _ _=>p.length+1
 |_=>0
def fS(d:Nat)(y:PF):PF:=if bE y=J d then jP else y
def dr(s n:Nat)(y:PF):PF:=if bE y=J s/\n<=lG y then jP else y
def ah.put(pf:ah)(d:Nat)(x:PF):ah:=λt=>if t=d then x else fS d (pf t)
def ah.kill(pf:ah)(s n:Nat):ah:=λt=>dr s n (pf t)
def ah.bY(pf:ah)(d:Nat)(x:PF):ah:=λt=>if t=d then x else pf t
def fV:PF->Option PV
 | .v x=>J x
 | .bl row=>J (.bx row)
 |_=>ae
def sB:PF->PV->Option PF
 | .v _,x=>J (.v x)
 | .bl _,.bx row=>J (.bl row)
 |_,_=>ae
def cn(pf:ah)(s:Nat)(p:aC):Option PV:=(fV (pf s)).bind (jb · p)
def mT(pf:ah)(s:Nat)(p:aC)(i j:Nat)(xs:List PV):Option ah:=
 (fV (pf s)).bind λx=>(jM x p (i9 i j xs)).bind λx'=>(sB (pf s) x').map λy=>(pf.bY s y).kill s (p.length+1)
section
variable {nt:Nat}{pin:List (Nat×Value)}{E E':Env}{pf:ah}{fr ak:FR}{fl:List (PV×Value)}
def Wk(E:Env)(fr:FR)(s:Nat)(p:aC)(v0:Value):Prop:=
 (∃r,fr s=.v r/\Wv E (s,[]) r p v0)\/∃cells j p' y,fr s=.loc cells/\p=(0,j)::p'/\cells[j]? =J y/\Wv E (s,[(0,j)]) y p' v0
variable{L i i' j j' n s t:Nat}{a b:Nat×aC}{f:Nat×aC->Option (Nat×aC)}{p:aC}
def Wk.same{a b:Value}(h:Wk E fr s p a)(h':Wk E fr s p b):a=b:=by
 rcases h with⟨r,h1,h2⟩|⟨cells,j,p',y,h1,h2,h3,h4⟩<;>rcases h' with⟨r',k1,k2⟩|⟨dF,j',q',y',k1,k2,k3,k4⟩
 ·rw[h1]at k1;cases k1;exact h2.same k2
 ·rw[h1]at k1;cases k1
 ·rw[h1]at k1;cases k1
 ·rw[h1]at k1;cases k1;rw[h2]at k2;cases k2;rw[h3]at k3;cases k3;exact h4.same k4
structure KL (E E':Env) (s L:Nat):Prop where
 own:∀id r,E.ow id=J (s,r)->¬E.G id->r.length<=L->E'.ow id=J (s,r)/\¬E'.G id
 hb:∀id r,E.ow id=J (s,r)->¬E.G id->r.length<L->E'.H.b id=E.H.b id
def Hd.eb{l:Nat×aC}{v:Value}{id o:Nat}(h:Hd E l v i id o)(k:KL E E' l.1 L)(hl:l.2.length<=L):Hd E' l v i id o:=by
 cases h with
 |sl how hG hi=>have:=k.own _ _ how hG hl;exact .sl (j:=0) this.1 this.2 hi
 |bx how hG=>have:=k.own _ _ how hG hl;exact .bx this.1 this.2
def Hd.ow{l:Nat×aC}{v:Value}{id o:Nat}(h:Hd E l v i id o):E.ow id=J l/\¬E.G id:=by cases h<;>exact⟨‹_›,‹_›⟩
def Wv.eb(k:KL E E' s L):∀{p q:aC}{v v0:Value},Wv E (s,q) v p v0->q.length+p.length<=L->Wv E' (s,q) v p v0:=by
 intro p;induction p with
 |nil=>intro q v v0 h _;exact h
 |cons a p ih=>
  obtain⟨i,j⟩:=a;intro q v v0 h hl;obtain⟨id,o,kb,y,h1,h2,h3,h4,h5⟩:=h;simp only[d5]at hl;have ho:=h1.ow;exact⟨id,o,kb,y,h1.eb (l:=(s,q)) k (by show q.length<=L;omega),h2,(k.hb id q ho.1 ho.2 (by omega)).trans h3,h4,ih (q:=q++[(i,j)]) h5 (by simp;omega)⟩
def Wk.eb{v0:Value}(h:Wk E fr s p v0)(k:KL E E' s L)(hl:p.length<=L)(hf:ak s=fr s):Wk E' ak s p v0:=by
 rcases h with⟨r,h1,h2⟩|⟨cells,j,p',y,h1,h2,h3,h4⟩
 ·exact .inl ⟨r,hf.trans h1,h2.eb k (by simpa using hl)⟩
 ·subst h2;exact .inr ⟨cells,j,p',y,hf.trans h1,rfl,h3,h4.eb k (by simp at hl⊢;omega)⟩
def ClV(E:Env)(fr:FR)(s:Nat)(g:FuncId)(us:List PV)(fv:FV):Prop:=
 ∃(v:Value) (vs:List Value),fv=.v (.func (.func g) #[] (v::vs).toArray)/\Wk E fr s [] v/\us.length=vs.length/\∀(i:Nat) (x:PV) (y:Value),us[i]? =J x->vs[i]? =J y->PR E ae x y
def oL(E:Env)(y:PF)(fr:FR)(t:Nat):Prop:=
 match y with
 | .v .ax=>True
 | .v x=>∃v,fr t=.v v/\PR E (J (t,[])) x v
 | .skip=>fr t=.skip
 | .ls es rows=>∃cells,fr t=.ls rows.length es cells/\cells.length=rows.length*es/\(rows.length<=kK/\es≠0)/\(∀r,r∈rows->r.length=es)/\
  ∀(i:Nat) (r:List PV) (j:Nat) (x:PV) (y:Value),rows[i]? =J r->r[j]? =J x->cells[i*es+j]? =J y->PR E (J (t,[(i,j)])) x y
 | .bl row=>∃cells,fr t=.loc cells/\row.length=cells.length/\∀(j:Nat) (x:PV) (y:Value),row[j]? =J x->cells[j]? =J y->PR E (J (t,[(0,j)])) x y
 | .pt s p i j=>(∃cells,fr s=.loc cells/\p=[]/\i=0/\fr t=.lp s j)\/∃v0 id o,Wk E fr s p v0/\Hd E (s,p) v0 i id o/\fr t=.v (.pointer (J ⟨id,o+j,ae⟩))
 | .rf s p=>∃v,fr t=.v v/\Wk E fr s p v
 | .rv s p lo hi=>(Wk E fr s p (.slice ae 0 0)/\fr t=.v (.slice ae 0 0)/\lo=0/\hi=0)\/
  ∃id off es n c,Wk E fr s p (.slice (J ⟨id,off,J es⟩) n c)/\lo<=hi/\hi<=n/\fr t=.v (.slice (J ⟨id,off+lo*es,J es⟩) (hi-lo) (c-lo))
 | .ra s p i j n=>∃vs,fr t=.v (.agg vs)/\(vs.toList.length=n/\n≠0)/\∀q y,vs.toList[q]? =J y->Wk E fr s (p++[(i,j+q)]) y
 | .as aa s p i j n=>∃vs:List Value,fr t=.ls n 1 vs/\(vs.length=n/\n≠0)/\∀q y,vs[q]? =J y->Wk E fr s (p++[(i,j+q)]) y
 | .as Z s p i j _=>∃id off k v,fr t=.v (.pointer (J ⟨id,off,ae⟩))/\E.G id/\E.H.b id=J k/\k.cells[off]? =J v/\Wk E fr s (p++[(i,j)]) v
 | .cl s g us=>ClV E fr s g us (fr t)
def yt :oL E jP fr t:=True.intro
def oL.stay{y:PF}(h:oL E y fr t)(hg:GK E E')(hm:dC E E' (J (t,[])) (J (t,[])))(hf:ak t=fr t)
(ha:∀s,bE y=J s->ak s=fr s/\KL E E' s (lG y)):oL E' y ak t:=by
 cases y with
 |v x=>
  cases x with
  |ax=>exact True.intro
  |_=>obtain⟨v,h1,h2⟩:=h;exact⟨v,hf.trans h1,h2.move hg hm⟩
 |skip=>exact hf.trans h
 |ls es rows=>
  obtain⟨cells,h1,h2,h3,h4,h5⟩:=h;exact⟨cells,hf.trans h1,h2,h3,h4,λi r j x y a b c=>(h5 i r j x y a b c).move hg (dC.ch (l:=J (t,[])) (l':=J (t,[])) hm i j)⟩
 |bl row=>
  obtain⟨cells,h1,h2,h3⟩:=h;exact⟨cells,hf.trans h1,h2,λj x y a b=>(h3 j x y a b).move hg (dC.ch (l:=J (t,[])) (l':=J (t,[])) hm 0 j)⟩
 |pt s p i j=>
  obtain⟨hs,hk⟩:=ha s rfl;rcases h with⟨cells,h1,h2,h3,h4⟩|⟨v0,id,o,h1,h2,h3⟩
  ·exact .inl ⟨cells,hs.trans h1,h2,h3,hf.trans h4⟩
  ·exact .inr ⟨v0,id,o,h1.eb hk (cB _) hs,h2.eb (l:=(s,p)) hk (cB _),hf.trans h3⟩
 |rf s p=>
  obtain⟨hs,hk⟩:=ha s rfl;obtain⟨v,h1,h2⟩:=h;exact⟨v,hf.trans h1,h2.eb hk (cB _) hs⟩
 |rv s p lo hi=>
  obtain⟨hs,hk⟩:=ha s rfl;rcases h with⟨h1,h2,h3⟩|⟨id,off,es,n,c,h1,h2,h3,h4⟩
  ·exact .inl ⟨h1.eb hk (cB _) hs,hf.trans h2,h3⟩
  ·exact .inr ⟨id,off,es,n,c,h1.eb hk (cB _) hs,h2,h3,hf.trans h4⟩
 |ra s p i j n=>
  obtain⟨hs,hk⟩:=ha s rfl;obtain⟨vs,h1,h2,h3⟩:=h;exact⟨vs,hf.trans h1,h2,λq y hq=>(h3 q y hq).eb hk (by simp[lG]) hs⟩
 |as b s p i j n=>
  obtain⟨hs,hk⟩:=ha s rfl;cases b with
  |false=>
   obtain⟨vs,h1,h2,h3⟩:=h;exact⟨vs,hf.trans h1,h2,λq y hq=>(h3 q y hq).eb hk (by simp[lG]) hs⟩
  |true=>
   obtain⟨id,off,k,v,h1,hG,hb,hc,hw⟩:=h;obtain⟨rc,hk'⟩:=hg _ hG;obtain⟨k',hY,e⟩:=hk' _ hb;exact⟨id,off,k',v,hf.trans h1,rc,hY,by rw[e];exact hc,hw.eb hk (by simp[lG]) hs⟩
 |cl s g us=>
  obtain⟨hs,hk⟩:=ha s rfl;obtain⟨v,vs,h1,h2,h3,h4⟩:=h;exact⟨v,vs,hf.trans h1,h2.eb hk (cB _) hs,h3,λi x y a b=>(h4 i x y a b).mono hg⟩
def KL.J8(h:dC E E' (J (s,[])) (J (s,[]))):KL E E' s L:=by
 have h:∀id r,E.ow id=J (s,[]++r)->¬E.G id->E'.ow id=J (s,[]++r)/\¬E'.G id/\E'.H.b id=E.H.b id:=h;exact⟨λid r h1 h2 _=>⟨(h id r h1 h2).1,(h id r h1 h2).2.1⟩,λid r h1 h2 _=>(h id r h1 h2).2.2⟩
def dC.refl(l:Lo):dC E E l l:=by
 cases l with
 |none=>exact True.intro
 |some a=>exact λid r h1 h2=>⟨h1,h2,rfl⟩
def Env.rl(E:Env)(f:Nat×aC->Option (Nat×aC)):Env:={E with ow:=λid=>(E.ow id).map λx=>(f x).getD x}
def dU :GK E (E.rl f):=λ_ h=>⟨h,λk hk=>⟨k,hk,rfl⟩⟩
def lF(h:∀r,f (a.1,a.2++r)=J (b.1,b.2++r)):dC E (E.rl f) (J a) (J b):=
 λid r h1 h2=>⟨by simp[Env.rl,h1,h],h2,rfl⟩
def jh(h:∀r,f (a.1,a.2++r)=ae):dC E (E.rl f) (J a) (J a):=
 λid r h1 h2=>⟨by simp[Env.rl,h1,h],h2,rfl⟩
def fq(a b:Nat×aC)(x:Nat×aC):Option (Nat×aC):=if x.1=a.1/\a.2<+:x.2 then J (b.1,b.2++x.2.drop a.2.length)else ae
def zgu(a b:Nat×aC)(r:aC):fq a b (a.1,a.2++r)=J (b.1,b.2++r):=by simp[fq]
def lq{x:Nat×aC}(h:x.1≠a.1):fq a b x=ae:=by simp[fq,h]
def tY(a:Nat×aC)(i j n:Nat)(b:Nat×aC)(i' j':Nat)(x:Nat×aC):Option (Nat×aC):=
 if x.1=a.1/\a.2<+:x.2 then match x.2.drop a.2.length with
  |(i1,j1)::r=>if i1=i/\j<=j1/\j1<j+n then J (b.1,b.2++(i',j'+(j1-j))::r)else ae
  |[]=>ae
 else ae
def zxT{q:Nat}(hq:q<n)(r:aC):tY a i j n b i' j' (a.1,a.2++(i,j+q)::r)=J (b.1,b.2++(i',j'+q)::r):=by
 simp only[tY,pM,List.prefix_append,e9,Qd];rw[aD (by constructor<;>omega)];simp
def zx1{x:Nat×aC}(h:x.1≠a.1):tY a i j n b i' j' x=ae:=by simp[tY,h]
def zBr{r:aC}(h:tV a.2 i j n r):tY a i j n b i' j' (a.1,r)=ae:=by
 simp only[tY,pM];split
 ·rename_i hp;obtain⟨t,rfl⟩:=hp;simp only[Qd];cases t with
  |nil=>rfl
  |cons c t=>
   obtain⟨i1,j1⟩:=c;simp only;split
   ·rename_i e;obtain⟨rfl,h1,h2⟩:=e;exact absurd ⟨h1,h2⟩ (h j1 t rfl)
   ·rfl
 ·rfl
def zx8{m:Nat}{r:aC}(h:r.length<=p.length):tV p i j m r:=λj' r' e=>by
 have:=gF List.length e;simp at this;omega
def zxm{y:PF}(h:bE (dr s n y)=J t):bE y=J t/\(t=s->lG y<n)/\dr s n y=y:=by
 unfold dr at h⊢;split at h
 ·simp[jP,bE]at h
 ·rename_i hc;rw[aB hc];refine⟨h,λe=>?_,rfl⟩;subst e;exact a1m λda=>hc ⟨h,da⟩
end
end Go.Pm
