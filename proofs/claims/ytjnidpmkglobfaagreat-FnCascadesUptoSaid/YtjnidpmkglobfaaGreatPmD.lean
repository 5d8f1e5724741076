import Derived.Test.YtjnidpmkglobfaaGreatPmC
open Option renaming none→aa,some→J
set_option linter.defProp false
namespace Go.Pm
open Go.Am
def zq:=@Nat.lt_irrefl
def BV:=@Nat.not_lt_zero
def Wm:=@List.length_eq_zero_iff
def pD:aB->Option (aB×Nat×Nat)
 |[]=>aa
 |[a]=>J ([],a.1,a.2)
 |a::b::r=>(pD (b::r)).map λx=>(a::x.1,x.2)
def zuc{p:aB}(h:pD p=aa):p=[]:=by
 induction p with
 |nil=>rfl
 |cons a p ih=>
  cases p with
  |nil=>simp[pD]at h
  |cons b r=>simp only[pD,Option.map_eq_none_iff]at h;have:=ih h;cases this
def zug{p:aB}{x:aB×Nat×Nat}(h:pD p=J x):p=x.1++[x.2]:=by
 induction p generalizing x with
 |nil=>simp[pD]at h
 |cons a p ih=>
  cases p with
  |nil=>simp only[pD,aS]at h;subst h;rfl
  |cons b r=>
   simp only[pD,bL]at h;obtain⟨y,c,rfl⟩:=h;have:=ih c;simp[this]
section
variable {nt:Nat}{pin:List (Nat×Value)}{E0 E Y:Env}{pf:ae}{fr X:FR}
def eA(nt:Nat)(E:Env)(fl:List (PV×Value)):Prop:=∀k x v,fl[k]? =J (x,v)->PR E (J (nt,[(0,k)])) x v
structure au (nt:Nat) (pin:List (Nat×Value)) (E0 E:Env) (pf:ae) (fr:FR):Prop where
 since:gi E0 E
 wf:mF E.H
 fresh:∀id,E.H.n<=id->E.ow id=aa/\¬E.G id
 f:∀t,pe E (pf t) fr t
 hi:∀t,nt<=t->pf t=jP
 rt:∀t s,bA (pf t)=J s->s<nt
 pin:∀k v,(k,v)∈pin->fr k=.v v
variable{a:Nat×aB}{fl:List (PV×Value)}{i j s:Nat}{p:aB}{pf':ae}{v:Value}{x:PV}{W:List PV}{y:PF}
def gu{t:Nat}(h:pe E (.v x) fr t)(b:x≠.az):∃v,fr t=.v v/\PR E (J (t,[])) x v:=by
 cases x with
 |az=>exact absurd rfl b
 |_=>exact h
def pu{t:Nat}(h:fr t=.v v)(b:PR E (J (t,[])) x v):pe E (.v x) fr t:=by
 cases x with
 |az=>exact True.intro
 |_=>exact⟨v,h,b⟩
def au.at(r:au nt pin E0 E pf fr)(h:cj pf s p=J x)(C:x≠.az)(B:p≠[]\/∃y,pf s=.v y):∃v,Wk E fr s p v/\PR E (J (s,p)) x v:=by
 have f:=r.f s;simp only[cj,bT]at h;obtain⟨y,b,c⟩:=h;cases g:pf s with
 |v z=>
  rw[g]at b f;simp only[fS,aS]at b;subst b
  have D:z≠.az:=by
   rintro rfl;cases p with
   |nil=>simp only[iV,aS]at c;exact C c.symm
   |cons a p=>simp[iV,iK]at c
  obtain⟨v,w,A⟩:=gu f D;obtain⟨k,l,m⟩:=A.get c;exact⟨k,.inl ⟨v,w,l⟩,by simpa using m⟩
 |bl F=>
  rw[g]at b f;simp only[fS,aS]at b;subst b;obtain⟨n,t,G,u⟩:=f;cases p with
  |nil=>rcases B with h|⟨y,h⟩<;>simp_all
  |cons a p=>
   obtain⟨i,j⟩:=a;simp only[iV,iK,bT]at c;obtain⟨y,d,q⟩:=c;split at d
   ·rename_i e;have e:i=0:=e;subst e;have o:j<n.length:=by have H:j<F.length:=(cY.1 d).1;omega
    obtain⟨k,l,m⟩:=(u j y _ d (cI o)).get q;exact⟨k,.inr ⟨n,j,p,_,t,rfl,cI o,l⟩,by simpa using m⟩
   ·cases d
 |_=>rw[g]at b;simp[fS]at b
def UU{b:PV}(h:jK x p (iU i j W)=J b):x≠.az:=by
 rintro rfl;cases p with
 |nil=>simp[jK,iU]at h
 |cons a p=>simp[jK,iK]at h
def YO{C:PF}{M:PV}{q:aB}{G o:Nat}{K:Value}(h:pe E y fr s)(f:fS y=J x)(k:jK x q (iU i j W)=J M)(m:sI y M=J C)
(g:LH E Y (s,[]) q i j W G o)(I:Wk E fr s q K)(hd:Hd E (s,q) K i G o)(H:X s=fr s):pe Y C X s:=by
 cases y with
 |v z=>
  simp only[fS,aS]at f;subst f;simp only[sI,aS]at m;subst m;obtain⟨v,d,A⟩:=gu h (UU k);rcases I with⟨r,b,t⟩|⟨F,n,p',C,b,_⟩
  ·rw[d]at b;cases b;exact pu (H.trans d) (A.bV k t (by simpa using hd) g)
  ·rw[d]at b;cases b
 |bl row=>
  simp only[fS,aS]at f;subst f;obtain⟨F,u,Q,D⟩:=h;rcases I with⟨r,b,t⟩|⟨U,B,p1,z,b,t,L,S⟩
  ·rw[u]at b;cases b
  ·rw[u]at b;cases b;subst t;simp only[jK,iK,e7,bT,bL]at k;obtain⟨T,N,z1,P,rfl⟩:=k;simp only[DP,sI,aS]at m;subst m;refine⟨F,H.trans u,by simpa using Q,λn x y c w=>?_⟩;rw[Et]at c;by_cases e:B=n
   ·subst e;rw[aE rfl]at c;split at c
    ·cases c;rw[L]at w;cases w;exact(D B T z N L).bV (l:=(s,[(0,B)])) P S hd g.ch
    ·cases c
   ·rw[aA e]at c;refine(D n x y c w).move g.g λid r d A=>?_
    have:=g.ej id ((0,n)::r) (by simpa using d) A (zq0 (by simp;omega));refine⟨by simpa using this.1,this.2.1,this.2.2 λR=>?_⟩;subst R;have:=hd.ow.1;rw[this]at d;simp at d;omega
 |_=>simp[fS]at f
def Yw{m n:List PV}{d b:List Value}(h:pe E (.bl m) fr s)(F:jV m j W=J n)(z:fr s=.loc d)(A:X s=.loc b)
(N:b.length=d.length)(G:∀q,¬(j<=q/\q<j+W.length)->b[q]? =d[q]?)(B:GK E Y)
(D:∀id r,E.ow id=J (s,r)->¬E.G id->tQ [] 0 j W.length r->Y.ow id=J (s,r)/\¬Y.G id/\Y.H.b id=E.H.b id)
(H:∀t x y,W[t]? =J x->b[j+t]? =J y->PR Y (J (s,[(0,j+t)])) x y):pe Y (.bl n) X s:=by
 obtain⟨I,l,M,u⟩:=h;rw[z]at l;cases l;obtain⟨K,L,o⟩:=AY F;refine⟨b,A,by omega,λq x y c f=>?_⟩;rw[o q]at c;split at c
 ·rename_i g;have:=H (q-j) x y c (by rw[show j+(q-j)=q by omega];exact f)
  rwa [show j+(q-j)=q by omega]at this
 ·rename_i g;rw[G q g]at f;refine(u q x y c f).move B λid r k w=>?_
  have k:E.ow id=J (s,(0,q)::r):=by simpa using k
  have:=D id _ k w (by
   intro P Q e C;simp only[nb,Wl,b9,pR]at e;obtain⟨rfl,_⟩:=e
   exact g C)
  exact⟨by simpa using this.1,this.2⟩
def au.set(r:au nt pin E0 E pf fr){d:Nat}{fv:FV}(hd:d<nt)(o:∀v,(d,v)∉pin)(n:GK E Y)(g:∀s,s<nt->s≠d->dC E Y (J (s,[])) (J (s,[])))
(z:gi E Y)(u:mF Y.H)(A:∀id,Y.H.n<=id->Y.ow id=aa/\¬Y.G id)(w:pe Y y (fr.put d fv) d)(q:∀s,bA y=J s->s<nt):au nt pin E0 Y (pf.put d y) (fr.put d fv):=by
 refine⟨r.since.trans z,u,A,λt=>?_,λt c=>?_,λt s h=>?_,λk v h=>?_⟩
 ·by_cases e:t=d
  ·subst e;simpa[ae.put]using w
  ·simp only[ae.put,aA e];have m:=r.f t;by_cases c:t<nt
   ·unfold fV;split
    ·exact True.intro
    ·rename_i b;refine m.stay n (g t c e) (by simp[FR.put,e]) λs l=>?_
     have f:s≠d:=λe=>b (by rw[l,e])
     exact⟨by simp[FR.put,f],KL.J0 (g s (r.rt t s l) f)⟩
   ·have:=r.hi t (by omega);rw[this];have:fV d jP=jP:=by simp[fV,jP,bA]
    rw[this];exact True.intro
 ·have:t≠d:=by omega
  simp only[ae.put,aA this,r.hi t c];simp[fV,jP,bA]
 ·by_cases e:t=d
  ·subst e;simp only[ae.put,e7]at h;exact q s h
  ·simp only[ae.put,aA e]at h;unfold fV at h;split at h
   ·simp[jP,bA]at h
   ·exact r.rt t s h
 ·have b:k≠d:=λe=>o v (by rw[<-e];exact h)
  simpa[FR.put,b]using r.pin k v h
def iL(pf:ae)(s:Nat)(p:aB)(y:PV):Option ae:=
 match pD p with
 |none=>J ((pf.bV s (.v y)).kill s 0)
 |some x=>mK pf s x.1 x.2.1 x.2.2 [y]
def au.rG(r:au nt pin E0 E pf fr){n:Nat}(hs:s<nt)(M:GK E Y)(D:∀t,t<nt->t≠s->dC E Y (J (t,[])) (J (t,[])))
(R:∀L,L<n->KL E Y s L)(B:∀t,t≠s->X t=fr t)(jE:0<n->X s=fr s\/∃A u,fr s=.loc A/\X s=.loc u)(jg:gi E Y)(hw:mF Y.H)(nQ:∀id,Y.H.n<=id->Y.ow id=aa/\¬Y.G id)
(U:∀A u,fr s=.loc A->X s=.loc u->A=u\/n<=1)
(hy:pe Y y X s)(N:bA y=aa)(j3:∀k v,(k,v)∈pin->X k=.v v):au nt pin E0 Y ((pf.bV s y).kill s n) X:=by
 have I:∀t,t≠s->((pf.bV s y).kill s n) t=dr s n (pf t):=λt w=>by simp[ae.kill,ae.bV,w]
 refine⟨r.since.trans jg,hw,nQ,λt=>?_,λt w=>?_,λt f h=>?_,j3⟩
 ·by_cases e:t=s
  ·subst e;have:((pf.bV t y).kill t n) t=y:=by simp[ae.kill,ae.bV,dr,N]
   rw[this];exact hy
  ·rw[I t e];have C:=r.f t;by_cases w:t<nt
   ·unfold dr;split
    ·exact True.intro
    ·rename_i hc;by_cases c:bA (pf t)=J s
     ·have S:mh (pf t)<n:=a1E λda=>hc ⟨c,da⟩
      rcases jE (by omega)with Mw|⟨A,u,z,P⟩
      ·exact C.stay M (D t w e) (B t e) λf m=>by
        rw[c]at m;cases m;exact⟨Mw,R _ S⟩
      ·rcases U A u z P with Q|Q
       ·exact C.stay M (D t w e) (B t e) λf m=>by
         rw[c]at m;cases m;exact⟨by rw[z,P,Q],R _ S⟩
       ·
        have g:mh (pf t)=0:=by omega
        revert C;cases q:pf t with
        |pt f p i j=>
         rw[q]at c g;simp only[bA,aS]at c;subst c;simp only[mh,Wm]at g;subst g;rintro(⟨c0,l,o,K,a4⟩|⟨v0,id,ox1,l,o,K⟩)
         ·exact .inl ⟨u,P,rfl,K,(B t e).trans a4⟩
         ·rcases l with⟨r,b,d⟩|⟨c0,F,G,H,b,d,_⟩
          ·rw[z]at b;cases b
          ·cases d
        |rf f p=>
         rw[q]at c g;simp only[bA,aS]at c;subst c;simp only[mh,Wm]at g;subst g;rintro⟨v,l,o⟩;rcases o with⟨r,b,d⟩|⟨c0,F,G,H,b,d,_⟩
         ·rw[z]at b;cases b
         ·cases d
        |rv f p lo hi=>
         rw[q]at c g;simp only[bA,aS]at c;subst c;simp only[mh,Wm]at g;subst g;rintro(⟨l,o⟩|⟨id,off,es,n,cx1,l,o⟩)
         ·rcases l with⟨r,b,d⟩|⟨c0,F,G,H,b,d,_⟩
          ·rw[z]at b;cases b
          ·cases d
         ·rcases l with⟨r,b,d⟩|⟨c0,F,G,H,b,d,_⟩
          ·rw[z]at b;cases b
          ·cases d
        |ra f p i j n=>rw[q]at g;simp[mh]at g
        |as bx1 f p i j n=>rw[q]at g;simp[mh]at g
        |cl f gx1 us=>
         rw[q]at c;simp only[bA,aS]at c;subst c;rintro⟨v,vs,l,o,K⟩;rcases o with⟨r,b,d⟩|⟨c0,F,G,H,b,d,_⟩
         ·rw[z]at b;cases b
         ·cases d
        |_=>rw[q]at c;simp[bA]at c
     ·exact C.stay M (D t w e) (B t e) λf m=>by
       have T:f≠s:=λe=>c (by rw[m,e])
       exact⟨B f T,KL.J0 (D f (r.rt t f m) T)⟩
   ·have:=r.hi t (by omega);rw[this];simp only[dr,jP,bA];exact True.intro
 ·have:t≠s:=by omega
  rw[I t this,r.hi t w];simp[dr,jP,bA]
 ·by_cases e:t=s
  ·subst e;have:((pf.bV t y).kill t n) t=y:=by simp[ae.kill,ae.bV,dr,N]
   rw[this,N]at h;cases h
  ·rw[I t e]at h;exact r.rt t f (zxj h).1
def XI{b:PF}(h:sI y x=J b):bA b=aa:=by
 unfold sI at h;split at h
 ·cases h;rfl
 ·cases h;rfl
 ·cases h
def zzl:∀(c:aB) (a:PV) (i j:Nat),iV a (c++[(i,j)])=(iV a c).bind λz=>iK z (i,j):=by
 intro c;induction c with
 |nil=>intro a i j;simp[iV]
 |cons b c ih=>intro a i j;simp only[tJ,iV];cases iK a b with
  |none=>rfl
  |some z=>simp[ih]
def zyf :cj pf s (p++[(i,j)])=(cj pf s p).bind λz=>iK z (i,j):=by
 simp only[cj];cases fS (pf s)with
 |none=>rfl
 |some x=>simp[zzl]
def Wv.snoc :∀{d:aB}{l:Nat×aB}{a b c:Value},Wv E l a d b->Wv E (l.1,l.2++d) b [(i,j)] c->Wv E l a (d++[(i,j)]) c:=by
 intro d;induction d with
 |nil=>intro l a b c e f;have e:b=a:=e;subst e;rw[EZ]at f;exact f
 |cons s d ih=>
  obtain⟨r,t⟩:=s;intro l a b c e f;obtain⟨id,o,k,y,g,h,m,n,q⟩:=e;exact⟨id,o,k,y,g,h,m,n,ih q (by rw[ze];exact f)⟩
def Wk.snoc{b c:Value}(h:Wk E fr s p b)(f:Wv E (s,p) b [(i,j)] c):Wk E fr s (p++[(i,j)]) c:=by
 rcases h with⟨q,d,e⟩|⟨l,m,n,y,d,e,g,k⟩
 ·exact .inl ⟨q,d,e.snoc (by simpa using f)⟩
 ·subst e;exact .inr ⟨l,m,n++[(i,j)],y,d,rfl,g,k.snoc (by simpa using f)⟩
def zAl{f:List PV}:∀{b:aB}{c d:PV},jK c b (iU i j f)=J d->∃e z,iV c b=J e/\iU i j f e=J z:=by
 intro b;induction b with
 |nil=>intro c d h;exact⟨c,d,rfl,h⟩
 |cons a b ih=>
  intro c d h;simp only[jK,bT,bL]at h;obtain⟨n,l,o,m,rfl⟩:=h;obtain⟨e,z,g,k⟩:=ih m;exact⟨e,z,by simp[iV,l,g],k⟩
def au.Rc(r:au nt pin E0 E pf fr){n:List PV}(hs:s<nt)(hne:n≠[])(R:mK pf s p i j n=J pf')(m:Y.H=E.H)(jg:gi E Y)(G:GK E Y)
(S:∀t,t<nt->t≠s->dC E Y (J (t,[])) (J (t,[])))(nQ:∀id,E.H.n<=id->Y.ow id=aa/\¬Y.G id)
(B:∀id q,E.ow id=J (s,q)->¬E.G id->tQ p i j n.length q->Y.ow id=J (s,q)/\¬Y.G id)
(T:∀t zx1 y,n[t]? =J zx1->Wk E fr s (p++[(i,j+t)]) y->PR Y (J (s,p++[(i,j+t)])) zx1 y):au nt pin E0 Y pf' fr:=by
 have Sy:∀id,Y.H.n<=id->Y.ow id=aa/\¬Y.G id:=by rw[m];exact nQ
 have Ek:mF Y.H:=by rw[m];exact r.wf
 simp only[mK,bT,bL]at R;obtain⟨x0,g,x1,h,y,d,rfl⟩:=R;have a5m:∀id q,E.ow id=J (s,q)->¬E.G id->q.length<=p.length->Y.ow id=J (s,q)/\¬Y.G id:=λid q b c l=>B id q b c (zxq l)
 refine r.rG hs G S (λLx1 hL=>⟨λid q b c hq=>a5m id q b c (by omega),λid q b c hq=>by rw[m]⟩) (λ_ _=>rfl) (λ_=>.inl rfl) jg Ek Sy (λ_ _ b c=>.inl (by rw[b]at c;cases c;rfl)) ?_ (XI d) r.pin;by_cases C:∃A,pf s=.bl A/\p=[]
 ·obtain⟨A,M,rfl⟩:=C;rw[M]at g d;simp only[fS,aS]at g;subst g;simp only[jK,iU]at h;split at h
  ·rename_i Da;subst Da;simp only[bL]at h;obtain⟨tO,dA,rfl⟩:=h;simp only[sI,aS]at d;subst d;have F:=r.f s;rw[M]at F;obtain⟨cells,D,_⟩:=id F;refine Yw F dA D D rfl (λ_ _=>rfl) G (λid q b c l=>⟨(B id q b c l).1,(B id q b c l).2,by rw[m]⟩) λt x y b c=>?_
   exact T t x y b (.inr ⟨cells,j+t,[],y,D,rfl,c,rfl⟩)
  ·cases h
 ·obtain⟨x2,z2,Rj,f⟩:=zAl h;have a4P:x2≠.az:=by rintro rfl;simp[iU]at f
  have hx2:cj pf s p=J x2:=by simp[cj,g,Rj]
  have a4G:p≠[]\/∃y,pf s=.v y:=by
   by_cases P:p=[]
   ·right;cases N:pf s with
    |v y=>exact⟨y,rfl⟩
    |bl A=>exact absurd ⟨A,N,P⟩ C
    |_=>rw[N]at g;simp[fS]at g
   ·exact .inl P
  obtain⟨U,w2,pr2⟩:=r.at hx2 a4P a4G
  have hhd:∃id o k,Hd E (s,p) U i id o/\E.H.b id=J k/\∀t,t<n.length->∀y,k.cells[o+j+t]? =J y->Wv E (s,p) U [(i,j+t)] y:=by
   cases pr2 with
   | @fN _ id off L nx cx1 k rows z u w aY hn hc S hr C hh=>
    simp only[iU,bT,bL]at f;obtain⟨r0,K,r1,a2,_⟩:=f;have Q:i<nx:=by have:=(cY.1 K).1;omega
    have hlen:=(AY a2).2.1 hne;have sT:=hr r0 (eD K);refine⟨id,_,k,.sl (j:=j) z u Q,w,λt I y d=>⟨id,off+i*L,k,y,.sl (j:=j) z u Q,?_,w,by rw[<-i9];exact d,rfl⟩⟩;rintro br ⟨_,_,_,e⟩;cases e;omega
   | @bx _ id k A z u w aY C hh=>
    simp only[iU]at f;split at f
    ·rename_i e;subst e;refine⟨id,0,k,.bx z u,w,λt I y d=>⟨id,0,k,y,.bx z u,?_,w,by rw[<-i9];exact d,rfl⟩⟩;rintro br ⟨_,_,_,e⟩;cases e
    ·cases f
   |sl0 ob L=>cases ob<;>simp[iU]at f
   |_=>simp[iU]at f
  obtain⟨dZ,o,k0,hd,yX,Ac⟩:=hhd;refine YO (r.f s) g h d ⟨G,λid q b c l=>?_,λk H=>?_⟩ w2 hd rfl
  ·have b:E.ow id=J (s,q):=by simpa using b
   have:=B id q b c l;exact⟨by simpa using this.1,this.2,λ_=>by rw[m]⟩
  ·refine⟨k,by rw[m];exact H,rfl,rfl,λ_ _=>rfl,λt x y b c=>?_⟩;rw[yX]at H;cases H;have I:t<n.length:=(cY.1 b).1;simpa using T t x y b (w2.snoc (Ac t I y c))
def au.setAt(r:au nt pin E0 E pf fr){z:PV}(u:s<nt)(w:Wk E fr s p v)
(e:iL pf s p z=J pf')(k:Y.H=E.H)(B:gi E Y)(n:GK E Y)(o:∀t,t<nt->t≠s->dC E Y (J (t,[])) (J (t,[])))(C:∀id,E.H.n<=id->Y.ow id=aa/\¬Y.G id)
(G:∀id q,E.ow id=J (s,q)->¬E.G id->¬p<+:q->Y.ow id=J (s,q)/\¬Y.G id)(A:PR Y (J (s,p)) z v):au nt pin E0 Y pf' fr:=by
 unfold iL at e;split at e
 ·rename_i f;have:=zuc f;subst this;cases e;have H:∀id,Y.H.n<=id->Y.ow id=aa/\¬Y.G id:=by rw[k];exact C
  have F:mF Y.H:=by rw[k];exact r.wf
  have K:fr s=.v v:=by
   rcases w with⟨q,D,l⟩|⟨M,N,P,y,D,l,_⟩
   ·rw[D];have:v=q:=l;rw[this]
   ·cases l
  exact r.rG u n o (λL I=>absurd I (BV _)) (λ_ _=>rfl) (λh=>absurd h (zq _)) B F H (λ_ _ d b=>.inl (by rw[d]at b;cases b;rfl)) (pu K A) rfl r.pin
 ·rename_i c f;obtain⟨Q,i,j⟩:=c;have g:=zug f;simp only at g e;refine r.Rc u (by simp) e k B n o C (λid q d b m=>G id q d b ?_) λt R y d b=>?_
  ·rintro⟨t,rfl⟩;rw[g]at m;exact m j t (by simp) ⟨cq _,by simp⟩
  ·cases t with
   |zero=>
    simp at d;subst d;rw[sk]at b⊢;rw[<-g]at b⊢;rw[b.same w];exact A
   |succ t=>simp at d
def oi{f:Nat×aB->Option (Nat×aB)}:gi E (E.rl f):=⟨cq _,d7,λid _ h=>⟨by simp[Env.rl,h],rfl,λh=>h⟩⟩
def eA.snoc(h:eA nt E fl)(d:PR E (J (nt,[(0,fl.length)])) x v):eA nt E (fl++[(x,v)]):=by
 intro k y f b;by_cases c:k<fl.length
 ·rw[fE c]at b;exact h k y f b
 ·rw[f9 (by omega)]at b
  have e:k-fl.length=0:=by
   have:=(cY.1 b).1;simp at this;omega
  rw[e]at b;simp at b;obtain⟨rfl,rfl⟩:=b;have:k=fl.length:=by omega
  rw[this];exact d
def eA.stay(h:eA nt E fl)(b:GK E Y)(d:dC E Y (J (nt,[])) (J (nt,[]))):eA nt Y fl:=λk x v c=>(h k x v c).move b (dC.ch (l:=J (nt,[])) (l':=J (nt,[])) d 0 k)
def au.OE(r:au nt pin E0 E pf fr)(g:eA nt E fl)(m:s<nt)(h:cj pf s p=J x)(u:x≠.az)(l:p≠[]\/∃y,pf s=.v y)
(k:iL pf s p .az=J pf'):∃v Y,Wk E fr s p v/\Y.H=E.H/\au nt pin E0 Y pf' fr/\eA nt Y (fl++[(x,v)]):=by
 obtain⟨v,d,o⟩:=r.at h u l;refine⟨v,E.rl (fD (s,p) (nt,[(0,fl.length)])),d,rfl,?_,?_⟩
 ·refine r.setAt m d k rfl oi d7 (λt _ n=>jd λr=>lF n) (λid e=>?_) (λid q b c f=>?_) (.az v)
  ·obtain⟨b,c⟩:=r.fresh id e;exact⟨by simp[Env.rl,b],c⟩
  ·exact⟨by simp[Env.rl,b,fD,f],c⟩
 ·exact(g.stay d7 (jd λr=>lF (by show nt≠s;omega))).snoc (o.move d7 (mi λr=>zgn _ _ r))
def Env.fz(E:Env)(a:Nat×aB):Env:={E with G:=λid=>E.G id\/∃r,E.ow id=J (a.1,a.2++r)}
def qD :GK E (E.fz a):=λ_ h=>⟨.inl h,λk b=>⟨k,b,rfl⟩⟩
def EP :gi E (E.fz a):=⟨cq _,qD,λid _ h=>⟨h,rfl,by
 rintro(b|⟨r,b⟩)
 ·exact b
 ·rw[h]at b;cases b⟩⟩
def OW :yK E (E.fz a) (J a):=λ_ r b _=>⟨.inr ⟨r,b⟩,λk c=>⟨k,c,rfl⟩⟩
def zD{c:Nat×aB}(h:c.1≠a.1):dC E (E.fz a) (J c) (J c):=λid r d e=>⟨d,by
 rintro(b|⟨f,b⟩)
 ·exact e b
 ·rw[d,aS,b9]at b
  exact h b.1,rfl⟩
def au.Fi(r:au nt pin E0 E pf fr)(m:s<nt)(h:cj pf s p=J x)(u:x≠.az)(l:p≠[]\/∃y,pf s=.v y)
(k:iL pf s p (drop x)=J pf'):∃v,Wk E fr s p v/\au nt pin E0 (E.fz (s,p)) pf' fr/\PR (E.fz (s,p)) aa (drop x) v:=by
 obtain⟨v,f,o⟩:=r.at h u l;have hd:PR (E.fz (s,p)) aa (drop x) v:=o.freeze qD OW;refine⟨v,f,?_,hd⟩;refine r.setAt m f k rfl EP qD (λt _ n=>zD n) (λid g=>?_) (λid q c e b=>?_) hd.up
 ·obtain⟨c,e⟩:=r.fresh id g;refine⟨c,?_⟩;rintro(b|⟨w,b⟩)
  ·exact e b
  ·rw[c]at b;cases b
 ·refine⟨c,?_⟩;rintro(d|⟨w,d⟩)
  ·exact e d
  ·rw[c]at d;cases d;exact b (List.prefix_append _ _)
end
end Go.Pm
