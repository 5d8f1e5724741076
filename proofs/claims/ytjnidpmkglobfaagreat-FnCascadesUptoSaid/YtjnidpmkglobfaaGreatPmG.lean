import Derived.Test.YtjnidpmkglobfaaGreatPmF
open Bool renaming false→Z,true→O
open Option renaming none→aa,some→J
set_option linter.defProp false
namespace Go.Pm
open Go.Am
section
variable {Y:Nat}{R:List (Nat×Value)}{S E X:Env}{U:ae}{W Q:FR}
def Env.push(E:Env)(b:mP)(a:Nat×aB)(f:Nat×aB->Option (Nat×aB)):Env:=
 ⟨E.H.push b,E.G,λid=>if id=E.H.n then J a else(E.ow id).map λx=>(f x).getD x⟩
structure ew (E:Env):Prop where
 wf:mF E.H
 fresh:∀id,E.H.n<=id->E.ow id=aa/\¬E.G id
variable{a:Nat×aB}{b:mP}{f:Nat×aB->Option (Nat×aB)}{fl:List (PV×Value)}{i id n s:Nat}{p:aB}{T:ae}{y:PV}
def au.ok(r:au Y R S E U W):ew E:=⟨r.wf,r.fresh⟩
def ew.lt(h:ew E){c:Nat×aB}(e:E.ow id=J c):id<E.H.n:=by
 rcases dS id E.H.n with d|d
 ·exact d
 ·rw[(h.fresh id d).1]at e;cases e
def ew.ltG(h:ew E)(d:E.G id):id<E.H.n:=by
 rcases dS id E.H.n with c|c
 ·exact c
 ·exact absurd d (h.fresh id c).2
def N5(h:id<E.H.n):(E.push b a f).H.b id=E.H.b id:=by
 simp[Env.push,AH.push,tF h]
def yP :(E.push b a f).H.b E.H.n=J b:=by simp[Env.push,AH.push]
def zhu :(E.push b a f).ow E.H.n=J a:=by simp[Env.push]
def ew.push(h:ew E) :ew (E.push b a f):=by
 refine⟨λid k c=>?_,λid d=>?_⟩
 ·simp only[Env.push,AH.push]at c⊢;split at c
  ·omega
  ·have:=h.wf id k c;omega
 ·have d:E.H.n+1<=id:=d;obtain⟨e,g⟩:=h.fresh id (by omega);exact⟨by simp only[Env.push];rw[aA (by omega),e];rfl,g⟩
def ew.nx(h:ew E) :GK E (E.push b a f):=λ_ c=>⟨c,λk d=>⟨k,(N5 (h.ltG c)).trans d,rfl⟩⟩
def ew.uW(h:ew E) :gi E (E.push b a f):=
 ⟨Eu _,h.nx,λid c d=>⟨by simp only[Env.push];rw[aA (tF c),d];rfl,N5 c,λh=>h⟩⟩
def ew.y9(h:ew E) :¬(E.push b a f).G E.H.n:=(h.fresh _ (cq _)).2
def ew.U2(h:ew E){d:mP}{n:Nat×aB}{b:Nat×aB}(g:∀r,f (a.1,a.2++r)=J (b.1,b.2++r)):dC E (E.push d n f) (J a) (J b):=
 λid r c e=>⟨by simp only[Env.push];rw[aA (tF (h.lt c)),c];simp[g],e,N5 (h.lt c)⟩
def ew.nu(h:ew E){bl:mP}{n:Nat×aB}(e:∀r,f (a.1,a.2++r)=aa):dC E (E.push bl n f) (J a) (J a):=
 λid r c d=>⟨by simp only[Env.push];rw[aA (tF (h.lt c)),c];simp[e],d,N5 (h.lt c)⟩
def zps(r:au Y R S E U W)(j:eA Y E fl){x:PV}{v:Value}(q:s<Y)(h:cj U s p=J x)(l:x≠.az)(d:Wk E W s p v)
(c:zW (bI x) x U s p=J (y,T)):∃X,X.H=E.H/\au Y R S X T W/\eA Y X (fl++[(y,v)]):=by
 have k:=jb r d h;unfold zW at c;split at c
 ·simp only[bL,b9]at c;obtain⟨z,m,rfl,rfl⟩:=c;obtain⟨t,X,e,g,u,w⟩:=r.OE j q h l k m;have:=e.same d;subst this;exact⟨X,g,u,w⟩
 ·rename_i o;cases c;obtain⟨t,e,g⟩:=r.at h l k;have:=e.same d;subst this;exact⟨E,rfl,r,N2 j g (by simpa using o)⟩
def zxc{d:List PV}{q:Nat}{z:PV}(h:(d.map Jw)[q]? =J z):∃x,d[q]? =J x/\((bI x=O/\z=.az)\/(bI x=Z/\z=x)):=by
 obtain⟨x,e,c⟩:=mM h;refine⟨x,e,?_⟩;unfold Jw at c;split at c
 ·exact .inl ⟨‹_›,c.symm⟩
 ·rename_i g;exact .inr ⟨by simpa using g,c.symm⟩
def zAZ{b:Nat×aB}{j o u:Nat}{c:Nat×aB}{d:Nat×aB}(h:uD a i j n b o u c=J d):∃q r,q<n/\c=(a.1,a.2++(i,j+q)::r):=by
 unfold uD at h;split at h
 ·rename_i l;obtain⟨k,t,g⟩:=l;split at h
  ·rename_i B v r e;split at h
   ·rename_i m;obtain⟨rfl,z,A⟩:=m;refine⟨v-j,r,by omega,?_⟩;obtain⟨w,x⟩:=c;simp only at k g e⊢;subst k;rw[<-g]at e;simp only[We]at e;rw[<-g,e];congr 4;omega
   ·cases h
  ·cases h
 ·cases h
def R0{r:List PV}(h:(cj U s p).bind (mp i)=J r)(q:Nat):cj U s (p++[(i,q)])=r[q]? :=by
 simp only[bT]at h;obtain⟨z,c,d⟩:=h;rw[zyf,c];exact zzk d
def ztg(r:au Y R S E U W)(G:eA Y E fl){j:Nat}{o:Array Value}(hs:s<Y)(H:o.toList.length=n)
(I:∀q y,o.toList[q]? =J y->Wk E W s (p++[(i,j+q)]) y)
(g:LV U s p i j (((cj U s p).bind (mp i)).bind (yu j n))=J (y,T)):∃X,X.H=E.H/\au Y R S X T W/\eA Y X (fl++[(y,.agg o)]):=by
 unfold LV at g;split at g
 ·rename_i ox1 u D;simp only[bT]at D;obtain⟨row,ey,h⟩:=D;have N:(cj U s p).bind (mp i)=J row:=by simp only[bT];exact ey
  unfold yu at h;split at h
  ·rename_i da;simp only[aS,PV.agg.injEq]at h;have B:u.length=n:=by rw[<-h];simp;omega
   have iD:∀q x,u[q]? =J x->cj U s (p++[(i,j+q)])=J x:=by
    intro q x d;rw[R0 N];rw[<-h,my]at d;split at d
    ·rw[jq]at d;exact d
    ·cases d
   have A:∀q x v,u[q]? =J x->o.toList[q]? =J v->PR E (J (s,p++[(i,j+q)])) x v:=by
    intro q x v d e;by_cases K:x=.az
    ·subst K;exact .az v
    ·obtain⟨v',w1,L⟩:=r.at (iD q x d) K (.inl Nw);rw[w1.same (I q v e)]at L;exact L
   split at g
   ·rename_i w;simp only[bL,b9]at g;obtain⟨aR,h1,rfl,rfl⟩:=g;have hne:u≠[]:=by rintro rfl;simp[zio]at w
    have F:∀c:Nat×aB,c.1≠s->uD (s,p) i j n (Y,[(0,fl.length)]) 0 0 c=aa:=λc hc=>zxX hc
    refine⟨E.rl (uD (s,p) i j n (Y,[(0,fl.length)]) 0 0),rfl,?_,?_⟩
    ·refine r.Rc hs (by simpa using hne) h1 rfl oi d7 (λt _ ht=>jd λq=>F _ ht) (λid P=>?_) (λid q k m C=>⟨?_,m⟩) λt zx1 v k m=>?_
     ·obtain⟨k,m⟩:=r.fresh id P;exact⟨by simp[Env.rl,k],m⟩
     ·have:tQ p i j n q:=by rw[HL,B]at C;exact C
      have:=zAn (a:=(s,p)) (b:=(Y,[(0,fl.length)])) (i':=0) (j':=0) this;simp[Env.rl,k,this]
     ·obtain⟨x,d,hz⟩:=zxc k;rcases hz with⟨_,rfl⟩|⟨z,rfl⟩
      ·exact .az v
      ·have nL:t<o.toList.length:=by have:=(cY.1 d).1;omega
       have e:=cI nL;have:=(I t _ e).same m;rw[this]at e;exact((A t zx1 v d e).free z).mono d7
    ·refine(G.stay d7 (jd λq=>F _ (by show Y≠s;omega))).snoc (.agg (by rw[B,H]) λq x v d e=>?_);have M:q<n:=by have:=(cY.1 d).1;omega
     refine(A q x v d e).move d7 (mi λr=>?_);have:=Zd (a:=(s,p)) (b:=(Y,[(0,fl.length)])) (i:=i) (j:=j) (n:=n) (i':=0) (j':=0) M r;simpa[cS]using this
   ·rename_i w;cases g;refine⟨E,rfl,r,N2 G (l:=aa) (.agg (by rw[B,H]) λq x v d e=>?_) (by simpa using w)⟩;have z:bI (.agg u)=Z:=by simpa using w
    rw[zio,Mj]at z;exact(A q x v d e).free (by simpa using z x (eD d))
  ·cases h
 ·cases g
def Af{l:Lo}{d e off c:Nat}{g:List (List PV)}{o:Bool}(h:PR E l (.sl o d g) (.slice (J ⟨id,off,J e⟩) n c)):d=e:=by
 generalize j:PV.sl o d g=x at h;cases h<;>cases j<;>rfl
def zr6(r:au Y R S E U W)(w:eA Y E fl){lo hi:Nat}{tx1:Nat}(H:s<Y)
(hf:pe E (.rv s p lo hi) W tx1)(d:EW U s p lo hi (cj U s p)=J (y,T)):∃v X,W tx1=.v v/\X.H=E.H/\au Y R S X T W/\eA Y X (fl++[(y,v)]):=by
 unfold EW at d;split at d
 ·rename_i ox1 j I g;split at d
  ·rename_i G;obtain⟨eV,ga⟩:=G;rcases hf with⟨e,m,rfl,rfl⟩|⟨id,off,A,n,c,e,m,B,C⟩
   ·
    obtain⟨v0,L,M⟩:=r.at g (by simp) (jb r e g);have:=L.same e;subst this;rw[aE rfl]at d;simp only[bL,b9]at d;obtain⟨P,k1,rfl,rfl⟩:=d;obtain⟨K,X,o,q,h,t⟩:=r.OE w H g (by simp) (jb r e g) k1;have:=o.same e;subst this;refine⟨_,X,m,q,h,?_⟩;have N:=t fl.length (.sl O j I) (.slice aa 0 0) (by simp);have D:eA Y X fl:=λk x v z=>t k x v (by rw[fE (cY.1 z).1];exact z)
    exact D.snoc (.sl0 O j)
   ·have dW:=jb r e g;split at d
    ·rename_i hlo;subst hlo;simp only[bL,b9]at d;obtain⟨P,k1,rfl,rfl⟩:=d;obtain⟨K,X,o,q,h,t⟩:=r.OE w H g (by simp) dW k1;have:=o.same e;subst this;refine⟨_,X,C,q,h,?_⟩;have N:=t fl.length (.sl O j I) (.slice (J ⟨id,off,J A⟩) n c) (by simp);have D:eA Y X fl:=λk x v z=>t k x v (by rw[fE (cY.1 z).1];exact z)
     obtain⟨_,e2,u⟩:=N.a35 B;refine D.snoc ?_;simpa using u
    ·rename_i hlo;simp only[bL,b9]at d;obtain⟨P,k1,rfl,rfl⟩:=d;obtain⟨K,o,q,h⟩:=r.Fi H g (by simp) dW k1;have:=o.same e;subst this;refine⟨_,E.fz (s,p),C,rfl,q,?_⟩;rw[zi9]at h;obtain⟨_,e1,e2,u⟩:=h.cut m B
     exact(w.stay qD (zD (by show Y≠s;omega))).snoc (by
      have F:j=A:=Af h;subst F
      exact u.up)
  ·cases d
 ·rename_i ox1 j I g;split at d
  ·rename_i G;obtain⟨eV,ga⟩:=G;cases d;rcases hf with⟨e,m,rfl,rfl⟩|⟨id,off,A,n,c,e,m,B,C⟩
   ·exact⟨_,E,m,rfl,r,N2 w (l:=aa) (by simpa using PR.sl0 (E:=E) Z j) (by simp[zkl])⟩
   ·obtain⟨K,L,M⟩:=r.at g (by simp) (jb r e g);have:=L.same e;subst this;obtain⟨_,e1,e2,u⟩:=M.cut m B;have F:j=A:=Af M;subst F;exact⟨_,E,C,rfl,r,N2 w u (by simp[zkl])⟩
  ·cases d
 ·cases d
def zyP(r:au Y R S E U W){t:Nat}(h:ml U t (U t)=J (y,T)):t<Y:=by
 rcases dS t Y with c|c
 ·exact c
 ·rw[r.hi t c]at h;simp[ml,jP,AF,dv]at h
def wz(r:au Y R S E U W)(A:eA Y E fl){ez:Nat}{x:Operand}(h:eJ ez U x=J (y,T)):
 ∃v Q G X,bm W E.H x=J (v,Q,G)/\X.H=G/\au Y R S X T Q/\eA Y X (fl++[(y,v)]):=by
 cases x with
 |const c=>
  simp only[eJ]at h;split at h
  ·rename_i K;cases h;exact⟨c,W,E.H,E,by simp[bm,aZ,K],rfl,r,A.snoc (JS K _)⟩
  ·cases h
 |func f=>
  simp only[eJ,aS,b9]at h;obtain⟨rfl,rfl⟩:=h;exact⟨.func (.func f) #[] #[],W,E.H,E,by simp[bm,aZ],rfl,r,A.snoc (.func _ rfl rfl (λi x y h=>by simp at h) (λi x y h=>by simp at h))⟩
 |global g=>simp[eJ]at h
 |tmp t=>
  simp only[eJ]at h;have M:=zyP r h;have l:=r.f t;cases d:U t with
  |v x=>
   rw[d]at h l;simp only[ml,AF]at h;split at h
   ·cases h
   ·rename_i F;have C:=oY (by simpa using F);obtain⟨v,o,B⟩:=gu l C;obtain⟨X,u,w,z⟩:=zps r A (s:=t) (p:=[]) (v:=v) M (by simp[cj,d,fS,iV]) C (.inl ⟨v,o,rfl⟩) h;exact⟨v,W,E.H,X,by simp[bm,o],u,w,z⟩
  |rf s p=>
   rw[d]at h l;simp only[ml,L7]at h;obtain⟨v,o,B⟩:=l;split at h
   ·rename_i x C;split at h
    ·cases h
    ·rename_i F;obtain⟨X,u,w,z⟩:=zps r A (r.rt t s (by rw[d];rfl)) C (oY (by simpa using F)) B h;exact⟨v,W,E.H,X,by simp[bm,o],u,w,z⟩
   ·cases h
  |rv s p lo hi=>
   rw[d]at h l;obtain⟨v,X,e0,u,w,z⟩:=zr6 r A (r.rt t s (by rw[d];rfl)) l h;exact⟨v,W,E.H,X,by simp[bm,e0],u,w,z⟩
  |ra s p i j n=>
   rw[d]at h l;obtain⟨vs,o,B,h3⟩:=l;obtain⟨X,u,w,z⟩:=ztg r A (r.rt t s (by rw[d];rfl)) B.1 h3 h;exact⟨.agg vs,W,E.H,X,by simp[bm,o],u,w,z⟩
  |ls es rows=>
   rw[d]at h l;simp only[ml,aS,b9]at h;obtain⟨rfl,rfl⟩:=h;obtain⟨cells,D,N,H,P,c5⟩:=l;have m:=r.ok;refine⟨_,_,_,E.push ⟨O,cells⟩ (Y,[(0,fl.length)]) (fD (t,[]) (Y,[(0,fl.length)])),by simp[bm,D];exact⟨rfl,rfl,rfl⟩,rfl,?_,?_⟩
   ·refine r.rG M m.nx (λs L eB=>m.nu λq=>lF eB) (λLx1 hL=>absurd hL (BV _)) (λs L=>by simp[FR.put,L]) (λh=>absurd h (zq _)) m.uW m.push.wf m.push.fresh (λ_ _ o B=>by rw[D]at o;cases o) ym rfl λk v hk=>?_
    have:=r.pin k v hk;have hne:k≠t:=λe=>by rw[e,D]at this;cases this
    simpa[FR.put,hne]using this
   ·refine(A.stay m.nx (m.nu λq=>lF (by show Y≠t;omega))).snoc ?_;refine .fN zhu m.y9 yP rfl rfl (cq _) H.1 P ⟨⟨H.2,rfl⟩,by rw[gD,N];exact cq _⟩ λi rw j x y g1 g2 I=>?_
    rw[gD]at I;refine(c5 i rw j x y g1 g2 I).move m.nx (m.U2 λq=>?_);have:=zgn (t,[]) (Y,[(0,fl.length)]) ((i,j)::q);simpa[cS]using this
  |_=>rw[d]at h;simp[ml]at h
def zol:∀{c:List (Nat×Operand)}{E:Env}{U T:ae}{W:FR}{fl:List (PV×Value)}{d:List PV},au Y R S E U W->eA Y E fl->qJ U c=J (d,T)->
 ∃e Q j X,cz W E.H (c.map (·.2))=J (e,Q,j)/\X.H=j/\au Y R S X T Q/\e.length=d.length/\d.length=c.length/\eA Y X (fl++d.zip e):=by
 intro c;induction c with
 |nil=>
  intro E U T W fl d r g h;simp only[qJ,aS,b9]at h;obtain⟨rfl,rfl⟩:=h;exact⟨[],W,E.H,E,rfl,rfl,r,rfl,rfl,by simpa using g⟩
 |cons x c ih=>
  intro E U T W fl d r g h;simp only[qJ,bT,bL,b9]at h;obtain⟨⟨y,L⟩,z,⟨K,M⟩,A,rfl,rfl⟩:=h;obtain⟨v,N,I,H,D,q,F,u⟩:=wz r g z;obtain⟨e,o,m,l,k,t,G,B,C,w⟩:=ih F u A;refine⟨v::e,o,m,l,?_,t,G,by simp[B],by simp[C],by simpa using w⟩;rw[q]at k;simp[cz,D,k]
end
end Go.Pm
