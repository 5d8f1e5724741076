import Derived.Test.YtplemekcclpaoaaGreatDoorPmB
namespace Go.Pm
open Go.Am
inductive PF where
 |v (x:PV)
 |skip
 |ls (es:Nat) (rows:List (List PV))
 |bl (row:List PV)
 |pt (s:Nat) (p:zad) (i j:Nat)
 |rf (s:Nat) (p:zad)
 |rv (s:Nat) (p:zad) (lo hi:Nat)
 |ra (s:Nat) (p:zad) (i j n:Nat)
 |as (b:Bool) (s:Nat) (p:zad) (i j n:Nat)
 |cl (s:Nat) (g:FuncId) (us:List PV)
abbrev PFr:=Nat→PF
def jP:PF:=.v .junk
def zam:PF→Option Nat
 | .pt s _ _ _| .rf s _| .rv s _ _ _| .ra s _ _ _ _| .as _ s _ _ _ _| .cl s _ _=>some s
 |_=>none
def zfU:PF→Nat
 | .pt _ p _ _| .rf _ p| .rv _ p _ _=>p.length
 | .ra _ p _ _ _| .as _ _ p _ _ _=>p.length+1
 |_=>0
def zbZ(d:Nat)(y:PF):PF:=if zam y=some d then jP else y
def zaW(s n:Nat)(y:PF):PF:=if zam y=some s∧n≤zfU y then jP else y
def PFr.put(pf:PFr)(d:Nat)(x:PF):PFr:=fun t=>if t=d then x else zbZ d (pf t)
def PFr.kill(pf:PFr)(s n:Nat):PFr:=fun t=>zaW s n (pf t)
def PFr.upd(pf:PFr)(d:Nat)(x:PF):PFr:=fun t=>if t=d then x else pf t
def zbs:PF→Option PV
 | .v x=>some x
 | .bl row=>some (.bx row)
 |_=>none
def zgD:PF→PV→Option PF
 | .v _,x=>some (.v x)
 | .bl _,.bx row=>some (.bl row)
 |_,_=>none
def zaz(pf:PFr)(s:Nat)(p:zad):Option PV:=(zbs (pf s)).bind (zeN · p)
def zeo(pf:PFr)(s:Nat)(p:zad)(i j:Nat)(xs:List PV):Option PFr:=
 (zbs (pf s)).bind fun x=>(zfd x p (zeL i j xs)).bind fun x'=>(zgD (pf s) x').map fun y=>(pf.upd s y).kill s (p.length+1)
section
variable {nt:Nat}{pin:List (Nat×Value)}{E E':Env}{pf:PFr}{fr fr':FR}{fl:List (PV×Value)}
def Wk(E:Env)(fr:FR)(s:Nat)(p:zad)(v0:Value):Prop:=
 (∃r,fr s=.v r∧Wv E (s,[]) r p v0)∨∃cells j p' y,fr s=.loc cells∧p=(0,j)::p'∧cells[j]? =some y∧Wv E (s,[(0,j)]) y p' v0
variable{L i i' j j' n s t:Nat}{a b:Nat×zad}{f:Nat×zad→Option (Nat×zad)}{p:zad}
theorem Wk.same{a b:Value}(h:Wk E fr s p a)(h':Wk E fr s p b):a=b:=by
 rcases h with⟨r,h1,h2⟩|⟨cells,j,p',y,h1,h2,h3,h4⟩<;>rcases h' with⟨r',k1,k2⟩|⟨cells',j',q',y',k1,k2,k3,k4⟩
 ·rw[h1]at k1;cases k1;exact h2.same k2
 ·rw[h1]at k1;cases k1
 ·rw[h1]at k1;cases k1
 ·rw[h1]at k1;cases k1;rw[h2]at k2;cases k2;rw[h3]at k3;cases k3;exact h4.same k4
structure KL (E E':Env) (s L:Nat):Prop where
 own:∀id r,E.ow id=some (s,r)→¬E.G id→r.length≤L→E'.ow id=some (s,r)∧¬E'.G id
 hb:∀id r,E.ow id=some (s,r)→¬E.G id→r.length<L→E'.H.b id=E.H.b id
theorem Hd.keep{l:Nat×zad}{v:Value}{id o:Nat}(h:Hd E l v i id o)(k:KL E E' l.1 L)(hl:l.2.length≤L):Hd E' l v i id o:=by
 cases h with
 |sl how hG hi=>have:=k.own _ _ how hG hl;exact .sl (j:=0) this.1 this.2 hi
 |bx how hG=>have:=k.own _ _ how hG hl;exact .bx this.1 this.2
theorem Hd.ow{l:Nat×zad}{v:Value}{id o:Nat}(h:Hd E l v i id o):E.ow id=some l∧¬E.G id:=by cases h<;>exact⟨‹_›,‹_›⟩
theorem Wv.keep(k:KL E E' s L):∀{p q:zad}{v v0:Value},Wv E (s,q) v p v0→q.length+p.length≤L→Wv E' (s,q) v p v0:=by
 intro p;induction p with
 |nil=>intro q v v0 h _;exact h
 |cons a p ih=>
  obtain⟨i,j⟩:=a;intro q v v0 h hl;obtain⟨id,o,kb,y,h1,h2,h3,h4,h5⟩:=h;simp only[List.length_cons]at hl;have ho:=h1.ow;exact⟨id,o,kb,y,h1.keep (l:=(s,q)) k (by show q.length≤L;omega),h2,(k.hb id q ho.1 ho.2 (by omega)).trans h3,h4,ih (q:=q++[(i,j)]) h5 (by simp;omega)⟩
theorem Wk.keep{v0:Value}(h:Wk E fr s p v0)(k:KL E E' s L)(hl:p.length≤L)(hf:fr' s=fr s):Wk E' fr' s p v0:=by
 rcases h with⟨r,h1,h2⟩|⟨cells,j,p',y,h1,h2,h3,h4⟩
 ·exact .inl ⟨r,hf.trans h1,h2.keep k (by simpa using hl)⟩
 ·subst h2;exact .inr ⟨cells,j,p',y,hf.trans h1,rfl,h3,h4.keep k (by simp at hl⊢;omega)⟩
def ClV(E:Env)(fr:FR)(s:Nat)(g:FuncId)(us:List PV)(fv:FV):Prop:=
 ∃(v:Value) (vs:List Value),fv=.v (.func (.func g) #[] (v::vs).toArray)∧Wk E fr s [] v∧us.length=vs.length∧∀(i:Nat) (x:PV) (y:Value),us[i]? =some x→vs[i]? =some y→PR E none x y
def RPF(E:Env)(y:PF)(fr:FR)(t:Nat):Prop:=
 match y with
 | .v .junk=>True
 | .v x=>∃v,fr t=.v v∧PR E (some (t,[])) x v
 | .skip=>fr t=.skip
 | .ls es rows=>∃cells,fr t=.ls rows.length es cells∧cells.length=rows.length*es∧(rows.length≤zcx∧es≠0)∧(∀r,r∈rows→r.length=es)∧
  ∀(i:Nat) (r:List PV) (j:Nat) (x:PV) (y:Value),rows[i]? =some r→r[j]? =some x→cells[i*es+j]? =some y→PR E (some (t,[(i,j)])) x y
 | .bl row=>∃cells,fr t=.loc cells∧row.length=cells.length∧∀(j:Nat) (x:PV) (y:Value),row[j]? =some x→cells[j]? =some y→PR E (some (t,[(0,j)])) x y
 | .pt s p i j=>(∃cells,fr s=.loc cells∧p=[]∧i=0∧fr t=.lp s j)∨∃v0 id o,Wk E fr s p v0∧Hd E (s,p) v0 i id o∧fr t=.v (.pointer (some ⟨id,o+j,none⟩))
 | .rf s p=>∃v,fr t=.v v∧Wk E fr s p v
 | .rv s p lo hi=>(Wk E fr s p (.slice none 0 0)∧fr t=.v (.slice none 0 0)∧lo=0∧hi=0)∨
  ∃id off es n c,Wk E fr s p (.slice (some ⟨id,off,some es⟩) n c)∧lo≤hi∧hi≤n∧fr t=.v (.slice (some ⟨id,off+lo*es,some es⟩) (hi-lo) (c-lo))
 | .ra s p i j n=>∃vs,fr t=.v (.agg vs)∧(vs.toList.length=n∧n≠0)∧∀q y,vs.toList[q]? =some y→Wk E fr s (p++[(i,j+q)]) y
 | .as false s p i j n=>∃vs:List Value,fr t=.ls n 1 vs∧(vs.length=n∧n≠0)∧∀q y,vs[q]? =some y→Wk E fr s (p++[(i,j+q)]) y
 | .as true s p i j _=>∃id off k v,fr t=.v (.pointer (some ⟨id,off,none⟩))∧E.G id∧E.H.b id=some k∧k.cells[off]? =some v∧Wk E fr s (p++[(i,j)]) v
 | .cl s g us=>ClV E fr s g us (fr t)
theorem zfY :RPF E jP fr t:=True.intro
theorem RPF.stay{y:PF}(h:RPF E y fr t)(hg:GK E E')(hm:MoveOK E E' (some (t,[])) (some (t,[])))(hf:fr' t=fr t)
(ha:∀s,zam y=some s→fr' s=fr s∧KL E E' s (zfU y)):RPF E' y fr' t:=by
 cases y with
 |v x=>
  cases x with
  |junk=>exact True.intro
  |_=>obtain⟨v,h1,h2⟩:=h;exact⟨v,hf.trans h1,h2.move hg hm⟩
 |skip=>exact hf.trans h
 |ls es rows=>
  obtain⟨cells,h1,h2,h3,h4,h5⟩:=h;exact⟨cells,hf.trans h1,h2,h3,h4,fun i r j x y a b c=>(h5 i r j x y a b c).move hg (MoveOK.ch (l:=some (t,[])) (l':=some (t,[])) hm i j)⟩
 |bl row=>
  obtain⟨cells,h1,h2,h3⟩:=h;exact⟨cells,hf.trans h1,h2,fun j x y a b=>(h3 j x y a b).move hg (MoveOK.ch (l:=some (t,[])) (l':=some (t,[])) hm 0 j)⟩
 |pt s p i j=>
  obtain⟨hs,hk⟩:=ha s rfl;rcases h with⟨cells,h1,h2,h3,h4⟩|⟨v0,id,o,h1,h2,h3⟩
  ·exact .inl ⟨cells,hs.trans h1,h2,h3,hf.trans h4⟩
  ·exact .inr ⟨v0,id,o,h1.keep hk (Nat.le_refl _) hs,h2.keep (l:=(s,p)) hk (Nat.le_refl _),hf.trans h3⟩
 |rf s p=>
  obtain⟨hs,hk⟩:=ha s rfl;obtain⟨v,h1,h2⟩:=h;exact⟨v,hf.trans h1,h2.keep hk (Nat.le_refl _) hs⟩
 |rv s p lo hi=>
  obtain⟨hs,hk⟩:=ha s rfl;rcases h with⟨h1,h2,h3⟩|⟨id,off,es,n,c,h1,h2,h3,h4⟩
  ·exact .inl ⟨h1.keep hk (Nat.le_refl _) hs,hf.trans h2,h3⟩
  ·exact .inr ⟨id,off,es,n,c,h1.keep hk (Nat.le_refl _) hs,h2,h3,hf.trans h4⟩
 |ra s p i j n=>
  obtain⟨hs,hk⟩:=ha s rfl;obtain⟨vs,h1,h2,h3⟩:=h;exact⟨vs,hf.trans h1,h2,fun q y hq=>(h3 q y hq).keep hk (by simp[zfU]) hs⟩
 |as b s p i j n=>
  obtain⟨hs,hk⟩:=ha s rfl;cases b with
  |false=>
   obtain⟨vs,h1,h2,h3⟩:=h;exact⟨vs,hf.trans h1,h2,fun q y hq=>(h3 q y hq).keep hk (by simp[zfU]) hs⟩
  |true=>
   obtain⟨id,off,k,v,h1,hG,hb,hc,hw⟩:=h;obtain⟨hG',hk'⟩:=hg _ hG;obtain⟨k',hb',e⟩:=hk' _ hb;exact⟨id,off,k',v,hf.trans h1,hG',hb',by rw[e];exact hc,hw.keep hk (by simp[zfU]) hs⟩
 |cl s g us=>
  obtain⟨hs,hk⟩:=ha s rfl;obtain⟨v,vs,h1,h2,h3,h4⟩:=h;exact⟨v,vs,hf.trans h1,h2.keep hk (Nat.le_refl _) hs,h3,fun i x y a b=>(h4 i x y a b).mono hg⟩
theorem KL.of_move(h:MoveOK E E' (some (s,[])) (some (s,[]))):KL E E' s L:=by
 have h:∀id r,E.ow id=some (s,[]++r)→¬E.G id→E'.ow id=some (s,[]++r)∧¬E'.G id∧E'.H.b id=E.H.b id:=h;exact⟨fun id r h1 h2 _=>⟨(h id r h1 h2).1,(h id r h1 h2).2.1⟩,fun id r h1 h2 _=>(h id r h1 h2).2.2⟩
theorem MoveOK.refl(l:Lo):MoveOK E E l l:=by
 cases l with
 |none=>exact True.intro
 |some a=>exact fun id r h1 h2=>⟨h1,h2,rfl⟩
def Env.rl(E:Env)(f:Nat×zad→Option (Nat×zad)):Env:={E with ow:=fun id=>(E.ow id).map fun x=>(f x).getD x}
theorem zba :GK E (E.rl f):=fun _ h=>⟨h,fun k hk=>⟨k,hk,rfl⟩⟩
theorem zcJ(h:∀r,f (a.1,a.2++r)=some (b.1,b.2++r)):MoveOK E (E.rl f) (some a) (some b):=
 fun id r h1 h2=>⟨by simp[Env.rl,h1,h],h2,rfl⟩
theorem zbN(h:∀r,f (a.1,a.2++r)=none):MoveOK E (E.rl f) (some a) (some a):=
 fun id r h1 h2=>⟨by simp[Env.rl,h1,h],h2,rfl⟩
def rlW(a b:Nat×zad)(x:Nat×zad):Option (Nat×zad):=if x.1=a.1∧a.2<+:x.2 then some (b.1,b.2++x.2.drop a.2.length)else none
theorem zfq(a b:Nat×zad)(r:zad):rlW a b (a.1,a.2++r)=some (b.1,b.2++r):=by simp[rlW]
theorem zdq{x:Nat×zad}(h:x.1≠a.1):rlW a b x=none:=by simp[rlW,h]
def rlC(a:Nat×zad)(i j n:Nat)(b:Nat×zad)(i' j':Nat)(x:Nat×zad):Option (Nat×zad):=
 if x.1=a.1∧a.2<+:x.2 then match x.2.drop a.2.length with
  |(i1,j1)::r=>if i1=i∧j≤j1∧j1<j+n then some (b.1,b.2++(i',j'+(j1-j))::r)else none
  |[]=>none
 else none
theorem zwG{q:Nat}(hq:q<n)(r:zad):rlC a i j n b i' j' (a.1,a.2++(i,j+q)::r)=some (b.1,b.2++(i',j'+q)::r):=by
 simp only[rlC,true_and,List.prefix_append,if_true,List.drop_left];rw[if_pos (by constructor<;>omega)];simp
theorem zvT{x:Nat×zad}(h:x.1≠a.1):rlC a i j n b i' j' x=none:=by simp[rlC,h]
theorem zAk{r:zad}(h:Off a.2 i j n r):rlC a i j n b i' j' (a.1,r)=none:=by
 simp only[rlC,true_and];split
 ·rename_i hp;obtain⟨t,rfl⟩:=hp;simp only[List.drop_left];cases t with
  |nil=>rfl
  |cons c t=>
   obtain⟨i1,j1⟩:=c;simp only;split
   ·rename_i e;obtain⟨rfl,h1,h2⟩:=e;exact absurd ⟨h1,h2⟩ (h j1 t rfl)
   ·rfl
 ·rfl
theorem zwg{m:Nat}{r:zad}(h:r.length≤p.length):Off p i j m r:=fun j' r' e=>by
 have:=congrArg List.length e;simp at this;omega
theorem zvJ{y:PF}(h:zam (zaW s n y)=some t):zam y=some t∧(t=s→zfU y<n)∧zaW s n y=y:=by
 unfold zaW at h⊢;split at h
 ·simp[jP,zam]at h
 ·rename_i hc;rw[if_neg hc];refine⟨h,fun e=>?_,rfl⟩;subst e;exact Nat.lt_of_not_le fun hle=>hc ⟨h,hle⟩
end
end Go.Pm
