import Derived.Test.YtjnidpmkglobfaaGreatPmI
open Bool renaming false→Z,true→O
open Option renaming none→aa,some→J
set_option linter.defProp false
namespace Go.Pm
open Go.Am
def xM:=@List.all_cons
section
variable {S:Nat}{W:List (Nat×Value)}{R E E':Env}{X:ae}{Y U:FR}{c:aW}{P:Program}
variable{K:ae->Prop}{T:FR->AH->Prop}{ez:Nat}{o:Oper}{t:TypeId}{v:Value}{x:Operand}{z:List Value}
def Pe{d:Nat}(h:ia c d .skip=O):d<c.nt/\d∉c.io:=⟨(Qe h).1,(Qe h).2.1⟩
def au.Yq(r:au S W R E X Y){d:Nat}{N:List PV}{C:List Value}(hd:d<S)(hp:∀v,(d,v)∉W)(eg:ew E')(jg:gi E E')(hm:∀s,s<S->s≠d->dC E E' (J (s,[])) (J (s,[])))
(hl:N.length=C.length)(hr:∀(j:Nat) (x:PV) (y:Value),N[j]? =J x->C[j]? =J y->PR E' (J (d,[(0,j)])) x y):au S W R E' (X.put d (.bl N)) (Y.fh d C):=by
 have hfd:(Y.fh d C) d=.loc C:=by simp[FR.fh]
 have XN:∀t,t≠d->(∀o,Y t≠.lp d o)->(Y.fh d C) t=Y t:=λt H M=>by
  simp only[FR.fh,aA H];cases nU:Y t with
  |lp s o=>
   simp only[lz];rw[aA];rintro rfl;exact M o nU
  |_=>rfl
 have A:∀s,s≠d->(∃v,Y s=.v v)\/(∃cs,Y s=.loc cs)->(Y.fh d C) s=Y s:=λs f h=>XN s f λo e=>by
  rcases h with⟨v,h⟩|⟨v,h⟩<;>rw[e]at h<;>cases h
 have B:∀{s:Nat}{p:aB}{v:Value},Wk E Y s p v->(∃v,Y s=.v v)\/(∃cs,Y s=.loc cs):=λh=>by
  rcases h with⟨r,a,_⟩|⟨cs,_,_,_,a,_⟩
  ·exact .inl ⟨r,a⟩
  ·exact .inr ⟨cs,a⟩
 refine⟨r.since.trans jg,eg.wf,eg.fresh,λt=>?_,λt H=>?_,λt s h=>?_,λk v h=>?_⟩
 ·by_cases e:t=d
  ·subst e;simp only[ae.put,e7];exact⟨C,hfd,hl,hr⟩
  ·simp only[ae.put,aA e];by_cases H:t<S
   ·unfold fV;split
    ·exact True.intro
    ·rename_i L;have m:=r.f t;by_cases hj:X t=jP
     ·rw[hj];exact True.intro
     ·have He:∀o,Y t≠.lp d o:=by
       intro o q;revert m;cases Q:X t with
       |v x=>
        intro m;obtain⟨v,a,_⟩:=gu m (by rintro rfl;exact hj Q);rw[q]at a;cases a
       |skip=>intro m;have m:Y t=.skip:=m;rw[q]at m;cases m
       |ls es rows=>rintro⟨cs,a,_⟩;rw[q]at a;cases a
       |bl N=>rintro⟨cs,a,_⟩;rw[q]at a;cases a
       |pt s p i j=>
        rintro(⟨cs,a,u,D,G⟩|⟨v0,id,o',a,u,D⟩)
        ·rw[q]at G;cases G;exact L (by rw[Q];rfl)
        ·rw[q]at D;cases D
       |rf s p=>rintro⟨v,a,_⟩;rw[q]at a;cases a
       |rv s p lo hi=>
        rintro(⟨_,u,_⟩|⟨id,off,es,n,cc,_,_,_,G⟩)
        ·rw[q]at u;cases u
        ·rw[q]at G;cases G
       |ra s p i j n=>rintro⟨F,a,_⟩;rw[q]at a;cases a
       |cl s g us=>rintro⟨v,F,a,_⟩;rw[q]at a;cases a
       |as b s p i j n=>
        cases b with
        |false=>rintro⟨F,a,_⟩;rw[q]at a;cases a
        |true=>rintro⟨id,off,k,v,a,_⟩;rw[q]at a;cases a
      refine m.stay jg.g (hm t H e) (XN t e He) λs f=>?_
      have w:s≠d:=λe=>L (by rw[f,e])
      refine⟨?_,KL.J0 (hm s (r.rt t s f) w)⟩;revert m f;cases Q:X t with
      |pt I p i j=>
       intro m f;cases f;rcases m with⟨cs,a,_⟩|⟨v0,id,o',a,_⟩
       ·exact A s w (.inr ⟨cs,a⟩)
       ·exact A s w (B a)
      |rf I p=>
       rintro⟨v,_,a⟩ f;cases f;exact A s w (B a)
      |rv I p lo hi=>
       intro m f;cases f;rcases m with⟨a,_⟩|⟨id,off,es,n,cc,a,_⟩
       ·exact A s w (B a)
       ·exact A s w (B a)
      |ra I p i j n=>
       rintro⟨F,a,u,D⟩ f;cases f;by_cases M:F.toList=[]
       ·rw[M]at u;exact absurd u.1.symm u.2
       ·obtain⟨y,hy⟩:∃y,F.toList[0]? =J y:=by
         cases Gy:F.toList with
         |nil=>exact absurd Gy M
         |cons y l=>exact⟨y,rfl⟩
        exact A s w (B (D 0 y hy))
      |as b I p i j n=>
       intro m f;cases f;cases b with
       |false=>
        obtain⟨F,a,u,D⟩:=m;exact A s w (B (D 0 _ (cI (by omega))))
       |true=>
        obtain⟨id,off,k,v,_,_,_,_,hw⟩:=m;exact A s w (B hw)
      |cl I g us=>rintro⟨v,F,a,u,D⟩ f;cases f;exact A s w (B u)
      |_=>intro _ f;simp[bA]at f
   ·rw[r.hi t (by omega)];have:fV d jP=jP:=by simp[fV,jP,bA]
    rw[this];exact True.intro
 ·have:t≠d:=by omega
  simp only[ae.put,aA this,r.hi t H];simp[fV,jP,bA]
 ·by_cases e:t=d
  ·subst e;simp[ae.put,bA]at h
  ·simp only[ae.put,aA e]at h;unfold fV at h;split at h
   ·simp[jP,bA]at h
   ·exact r.rt t s h
 ·have L:k≠d:=λe=>hp v (by rw[<-e];exact h)
  have:=r.pin k v h;rw[A k L (.inl ⟨v,this⟩)];exact this
def Xz:∀{z:List Value}{es:List Nat},(zc es z).length=z.length/\(z.all cD=O->∀(j:Nat) (x:PV) (y:Value),(zc es z)[j]? =J x->z[j]? =J y->∀l,PR E l x y):=by
 intro z;induction z with
 |nil=>intro es;cases es<;>exact⟨rfl,λ_ j x y h=>by simp[zc]at h⟩
 |cons v z ih=>
  intro es
  have step:∀(e:Nat) (es:List Nat),(nz e v::zc es z).length=(v::z).length/\((v::z).all cD=O->∀(j:Nat) (x:PV) (y:Value),(nz e v::zc es z)[j]? =J x->(v::z)[j]? =J y->∀l,PR E l x y):=by
   intro e es;obtain⟨f,g⟩:=ih (es:=es);refine⟨by simp[f],λd j x y a b l=>?_⟩;simp only[xM,bC]at d;cases j with
   |zero=>simp at a b;subst a;subst b;exact JS d.1 l
   |succ j=>exact g d.2 j x y (by simpa using a) (by simpa using b) l
  cases es with
  |nil=>exact step 0 []
  |cons e es=>exact step e es
def Ke :(zz P t z).length=z.length:=(Xz (E:=⟨⟨0,λ_=>aa⟩,λ_=>False,λ_=>aa⟩)).1
def JB(d:z.all cD=O)(l:Nat->Lo):∀(j:Nat) (x:PV) (y:Value),(zz P t z)[j]? =J x->z[j]? =J y->PR E (l j) x y:=λj x y a b=>Xz.2 d j x y a b _
def ZL{x:PV}(h:PR E aa x v):PR E aa (dz x) v:=by
 unfold dz;split
 ·cases h with
  |sl0=>exact .sl0 Z _
  |jX a b d e f g i j=>exact .jX a b d e f g i j
 ·exact h
def zwP :((zz P t z).map dz).length=z.length:=by rw[HL,Ke]
def zpp(e:z.all cD=O)(l:Nat->Lo):∀(j:Nat) (x:PV) (y:Value),((zz P t z).map dz)[j]? =J x->z[j]? =J y->PR E (l j) x y:=λj x y a b=>by
 obtain⟨f,d,rfl⟩:=mM a;exact(ZL (JB e (λ_=>aa) j f y d b)).up
def zF2{x:PV}(h:PR E aa x v)(a:cD v=O):PR E aa (ud x) v:=by
 unfold ud;split
 ·cases h with
  |sl0=>exact .sl0 O _
  |jX b d e f g i j k=>simp[cD]at a
 ·exact h
def KA{b:Bool}:(uz b ((zz P t z).map dz)).length=z.length:=by unfold uz;split<;>simp[Ke]
def Uc{b:Bool}(e:z.all cD=O)(l:Nat->Lo):∀(j:Nat) (x:PV) (y:Value),(uz b ((zz P t z).map dz))[j]? =J x->z[j]? =J y->PR E (l j) x y:=λj x y a d=>by
 unfold uz at a;split at a
 ·obtain⟨i,f,rfl⟩:=mM a;obtain⟨h,g,rfl⟩:=mM f;exact(zF2 (ZL (JB e (λ_=>aa) j h y g d)) (bc.1 e y (eD d))).up
 ·exact zpp e l j x y a d
def ztk(r:au c.nt W R E X Y)(C:eK c W){e:TypeId}(m:o.op=.alloc e)(h:Ht P c e o.dst K X)
(l:∀u U E',K u->au c.nt W R E' u U->T U E'.H):aN P c.nt o T Y E.H\/(c.hp≠[]/\fY P c.nt o T Y E.H):=by
 unfold Ht at h;split at h
 ·rename_i H d y hd;obtain⟨B,k⟩:=h;obtain⟨g,G,b,z,n,i,rfl⟩:=zAY y;obtain⟨f,A⟩:=Pe B;have p:∀w,(d,w)∉W:=λw F=>A (C.h d w F)
  split at k
  ·rename_i q;refine .inr ⟨λe=>by rw[e]at q;simp at q,?_⟩;have a:=r.ok;simp only[fY,m,hd,n];refine⟨f,i,?_⟩
   have:=l _ (Y.put d (.v (.pointer (J ⟨E.H.n,0,aa⟩)))) (E.push ⟨O,z⟩ (d,[]) λ_=>aa) k
    (r.set f p a.nx (λs _ _=>a.nu λ_=>rfl) a.uW a.push.wf a.push.fresh
      (pu (by simp[FR.put]) (.bx zhu a.y9 yP rfl (by show(zz P e z).length<=z.length;rw[Ke];exact cq _) (JB i λj=>J (cS (d,[]) 0 j)))) (λs D=>by cases D))
   exact this
  ·left;unfold aN;rw[m];simp only[n,hd];rw[aE ⟨f,i⟩];exact l _ _ E k (r.Yq f p r.ok (gi.refl E) (λs _ _=>.refl _) (Ke) (JB i λj=>J (d,[(0,j)])))
 ·cases h
def WX{H f:AH}(h:bm Y H x=J (v,U,f))(g:∀t,x=.tmp t->∀a b cs,Y t≠.ls a b cs):aZ Y x=J v/\U=Y/\f=H:=by
 cases x with
 |tmp t=>
  simp only[bm]at h;split at h
  ·rename_i y e;simp only[aS,b9]at h;obtain⟨rfl,rfl,rfl⟩:=h;exact⟨by simp[aZ,e],rfl,rfl⟩
  ·rename_i a b cs e;exact absurd e (g t rfl a b cs)
  ·cases h
 |const k=>simp only[bm,bL,b9]at h;obtain⟨y,d,rfl,rfl,rfl⟩:=h;exact⟨d,rfl,rfl⟩
 |func k=>simp only[bm,bL,b9]at h;obtain⟨y,d,rfl,rfl,rfl⟩:=h;exact⟨d,rfl,rfl⟩
 |global k=>simp only[bm,bL,b9]at h;obtain⟨y,d,rfl,rfl,rfl⟩:=h;exact⟨d,rfl,rfl⟩
def zra(r:au S W R E X Y){y:PV}{q:ae}(h:eJ ez X x=J (y,q))(k:xc X x=Z):∀t,x=.tmp t->∀a b cs,Y t≠.ls a b cs:=by
 rintro t rfl a b cs e;simp only[xc]at k;simp only[eJ]at h;have f:=r.f t;cases g:X t with
 |v z=>
  rw[g]at f h;obtain⟨v,d,_⟩:=gu f (by rintro rfl;simp[ml,AF,dv]at h);rw[e]at d;cases d
 |ls u C=>rw[g]at k;simp[rQ]at k
 |rf s p=>rw[g]at f;obtain⟨v,d,_⟩:=f;rw[e]at d;cases d
 |rv s p B A=>
  rw[g]at f;rcases f with⟨_,l,_⟩|⟨id,off,u,n,w,_,_,_,m⟩
  ·rw[e]at l;cases l
  ·rw[e]at m;cases m
 |ra s p i j n=>rw[g]at f;obtain⟨D,d,_⟩:=f;rw[e]at d;cases d
 |_=>rw[g]at h;simp[ml]at h
def zvi(rx1:au c.nt W R E X Y)(hp:eK c W){e:TypeId}(I:o.op=.box e x)(h:FQ P c e x o.dst K X)
(B:∀pf' U E',K pf'->au c.nt W R E' pf' U->T U E'.H):aN P c.nt o T Y E.H\/(c.hp≠[]/\fY P c.nt o T Y E.H):=by
 unfold FQ at h;split at h
 ·rename_i tz y aR d Eg M hd;obtain⟨dJ,L⟩:=GX Eg;obtain⟨h0,F,h2,n⟩:=h;obtain⟨m,c2⟩:=Pe h2;have C:∀w,(d,w)∉W:=λw hw=>c2 (hp.h d w hw)
  obtain⟨v,r,H1,f,m1,A,u,f1⟩:=wz rx1 (fl:=[]) (λk x v h=>by simp at h) M;obtain⟨N,rfl,rfl⟩:=WX m1 (zra rx1 M h0);have H:PR f (J (c.nt,[(0,0)])) y v:=f1 0 y v rfl;have D:∀s:Nat,s<c.nt->∀q:aB,iW (c.nt,[(0,0)]) (d,[]) 0 0 y (s,q)=aa:=λs g q=>zw2 (by show s≠c.nt;omega)
  split at n
  ·rename_i Q;refine .inr ⟨λe=>by rw[e]at Q;simp at Q,?_⟩;have l:=u.ok;obtain⟨k1,k2,k3⟩:=Ea (E':=f.push ⟨O,v.cells.toList⟩ (d,[]) (iW (c.nt,[(0,0)]) (d,[]) 0 0 y)) (b:=(d,[])) (i:=0) (j:=0) H F l.nx λa b h=>l.U2 h
   simp only[fY,I,hd,L,N];refine⟨m,k3,?_⟩
   have p:=u.set m C l.nx (λs g _=>l.nu λq=>D s g _) l.uW l.push.wf l.push.fresh
    (pu (by simp[FR.put]) (.bx (k:=⟨O,v.cells.toList⟩) zhu l.y9 yP rfl (by show(cR y).length<=v.cells.toList.length;rw[k1];exact cq _) (λj x y a b=>by simpa[cS]using k2 j x y a b))) (λs g=>by cases g) (fv:=.v (.pointer (J ⟨f.H.n,0,aa⟩)))
   split at n
   ·have G:=p.f d;simp only[ae.put,aE]at G;obtain⟨w,hw1,hw2⟩:=G;have hwe:w=.pointer (J ⟨f.H.n,0,aa⟩):=by simpa[FR.put]using hw1.symm
    subst hwe;have nQ:∀v,(r.put d v).put d v=r.put d v:=λv=>by funext z;simp only[FR.put];split<;>rfl
    have oT:=hw2.freeze (E':=(f.push ⟨O,v.cells.toList⟩ (d,[]) (iW (c.nt,[(0,0)]) (d,[]) 0 0 y)).fz (d,[])) qD OW;have r3:=p.set m C (qD (a:=(d,[]))) (λs g hne=>zD (by show s≠d;exact hne)) EP p.ok.fz.wf p.ok.fz.fresh (pu (v:=.pointer (J ⟨f.H.n,0,aa⟩)) (by simp[FR.put]) oT.up) (λs g=>by cases g) (fv:=.v (.pointer (J ⟨f.H.n,0,aa⟩)));rw[nQ]at r3;have:=B _ (r.put d (.v (.pointer (J ⟨f.H.n,0,aa⟩)))) _ n r3;rw[show((f.push ⟨O,v.cells.toList⟩ (d,[]) (iW (c.nt,[(0,0)]) (d,[]) 0 0 y)).fz (d,[])).H=f.H.push ⟨O,v.cells.toList⟩from rfl,A]at this;exact this
   have:=B _ (r.put d (.v (.pointer (J ⟨f.H.n,0,aa⟩)))) _ n p;rw[show(f.push ⟨O,v.cells.toList⟩ (d,[]) (iW (c.nt,[(0,0)]) (d,[]) 0 0 y)).H=f.H.push ⟨O,v.cells.toList⟩from rfl,A]at this;exact this
  ·left;obtain⟨k1,k2,k3⟩:=Ea (E':=f.rl (iW (c.nt,[(0,0)]) (d,[]) 0 0 y)) (b:=(d,[])) (i:=0) (j:=0) H F d7 λa b h=>mi h
   unfold aN;rw[I];simp only[L,hd,N];rw[aE ⟨m,k3⟩];have:=B _ _ (f.rl (iW (c.nt,[(0,0)]) (d,[]) 0 0 y)) n (u.Yq m C u.ok.rl oi (λs g _=>jd λq=>D s g _) k1 (λj x y a b=>by simpa using k2 j x y a b));rw[show(f.rl (iW (c.nt,[(0,0)]) (d,[]) 0 0 y)).H=f.H from rfl,A]at this;exact this
 ·cases h
def au.RA(r:au S W R E X Y){t d:Nat}{b:List (List PV)}(Q:t<S)(w:X t=.ls d b):
 ∃v U E',bm Y E.H (.tmp t)=J (v,U,E'.H)/\U t=.v v/\au S W R E' ((X.bV t (.v (.sl O d b))).kill t 0) U/\(∀l,eA S E l->eA S E' l)/\(∀s,s≠t->U s=Y s):=by
 have u:=r.f t;rw[w]at u;obtain⟨D,g,A,m,B,C⟩:=u;have a:=r.ok;refine⟨.slice (J ⟨E.H.n,0,J d⟩) b.length b.length,Y.put t (.v (.slice (J ⟨E.H.n,0,J d⟩) b.length b.length)),E.push ⟨O,D⟩ (t,[]) λ_=>aa,by simp[bm,g];rfl,by simp[FR.put],?_,λl I=>I.stay a.nx (a.nu λ_=>rfl),λs f=>by simp[FR.put,f]⟩;refine r.rG Q a.nx (λs f eB=>a.nu λq=>rfl) (λL H=>absurd H (BV _)) (λs f=>by simp[FR.put,f]) (λh=>absurd h (zq _)) a.uW a.push.wf a.push.fresh (λ_ _ p h2=>by rw[g]at p;cases p) ?_ rfl λk v M=>?_
 ·refine pu (by simp[FR.put]) (.fN zhu a.y9 yP rfl rfl (cq _) m.1 B ⟨⟨m.2,rfl⟩,by rw[gD,A];exact cq _⟩ λi rw j x y F G n=>?_);rw[gD]at n;exact(C i rw j x y F G n).move a.nx (a.nu λq=>rfl)
 ·have:=r.pin k v M;have N:k≠t:=λe=>by rw[e,g]at this;cases this
  simpa[FR.put,N]using this
def ON{op:Op}{d:Option Tmp}{k:TypeId}{j:String}{b:Array Edge}{g:Option (Nat×Bool)}{H a:AH}{w:Value}(e:iA op=J [x])(f:bm Y H x=J (v,U,a))(i:fk P op [v]=J w)
(h:bu S T d (.v w) U a):dK P S ⟨d,op,k,j,b,g⟩ T Y H:=by
 simp only[dK,e,cz,f,i];exact h
def au.a5g(r:au S W R E X Y){q s:Nat}{p:List PV}(f:s<S)(hq:q<S)(B:X s=.bl p)(m:X q=.pt s [] 0 0):
 ∃b E',Y q=.lp s 0/\Y s=.loc b/\E'.H=E.H.push ⟨O,b⟩/\au S W R E' (((X.bV s (.v (.bx p))).kill s 0).put q (.rf s [])) ((Y.put s (.v (.pointer (J ⟨E.H.n,0,aa⟩)))).put q (.v (.pointer (J ⟨E.H.n,0,aa⟩)))):=by
 have D:=r.f s;rw[B]at D;obtain⟨b,l,G,H⟩:=D;have y:=r.f q;rw[m]at y
 have u:Y q=.lp s 0:=by
  rcases y with⟨_,_,_,_,N⟩|⟨v0,id,o,M,C,_⟩
  ·exact N
  ·rcases M with⟨x,i,A⟩|⟨c0,j',p',y',i,A,_⟩
   ·rw[l]at i;cases i
   ·cases A
 have hne:∀g w,Y g=.v w->g≠s:=λg w h e=>by rw[e,l]at h;cases h
 have a:=r.ok;have hqs:q≠s:=λe=>by rw[e,B]at m;cases m
 have n:au S W R (E.push ⟨O,b⟩ (s,[]) λ_=>aa) ((X.bV s (.v (.bx p))).kill s 0) (Y.put s (.v (.pointer (J ⟨E.H.n,0,aa⟩)))):=by
  refine r.rG f a.nx (λs f eB=>a.nu λq=>rfl) (λLx1 Q=>absurd Q (BV _)) (λs f=>by simp[FR.put,f]) (λh=>absurd h (zq _)) a.uW a.push.wf a.push.fresh (λ_ _ _ C=>by simp[FR.put]at C) ?_ rfl λk v F=>?_
  ·exact pu (by simp[FR.put]) (.bx zhu a.y9 yP rfl (a1w G) λj x yx1 I L=>(H j x yx1 I L).move a.nx (a.nu λq=>rfl))
  ·have:=r.pin k v F;have:=hne k v this;simp[FR.put,this,r.pin k v F]
 refine⟨b,E.push ⟨O,b⟩ (s,[]) λ_=>aa,u,l,rfl,?_⟩;refine n.set (d:=q) hq (λv hv=>by have:=r.pin q v hv;rw[u]at this;cases this) (GK.refl _) (λ_ _ _=>dC.refl _) ⟨cq _,GK.refl _,λid _ h=>⟨h,rfl,λh=>h⟩⟩ n.wf n.fresh ?_ (λg mC=>by cases mC;exact f);exact⟨.pointer (J ⟨E.H.n,0,aa⟩),by simp[FR.put],.inl ⟨.pointer (J ⟨E.H.n,0,aa⟩),by simp[FR.put,Ne.symm hqs],rfl⟩⟩
def zze{q s i j:Nat}{p:aB}{y:PF}{x:PF×ae}(h:Ci X q s p i j y=J x):p=[]/\i=0/\j=0/\∃a,y=.bl a/\x=(.rf s [],((X.bV s (.v (.bx a))).kill s 0).put q (.rf s [])):=by
 unfold Ci at h;split at h
 ·rename_i a;cases h;exact⟨rfl,rfl,rfl,a,rfl,rfl⟩
 ·cases h
def zBY{c:aW}{d:Option Tmp}(h:AS c d=O):c.hp≠[]:=by
 unfold AS at h;split at h
 ·rw[bC]at h;intro e;rw[e]at h;exact absurd h.1 (by decide)
 ·cases h
def zro(r:au c.nt W R E X Y)(B:eK c W)(A:o.op=.assign x)(h:F3 ez c x o.dst K X)
(w:∀G U E',K G->au c.nt W R E' G U->T U E'.H):aN P c.nt o T Y E.H:=by
 have C:∀{d:Option Tmp}{p:TypeId}{n:String}{j:Array Edge}{g:Option (Nat×Bool)}{x:Operand}{v:Value}{u:FR}{q:AH},(∀s o,bO Y x≠J (.lp s o))->bm Y E.H x=J (v,u,q)->bu c.nt T d (.v v) u q->aN P c.nt ⟨d,.assign x,p,n,j,g⟩ T Y E.H:=by
  intro d p n j g x v u q N l f;show(match bO Y x with|some (.lp s off)=>bu c.nt T d (.lp s off) Y E.H|_=>dK P c.nt ⟨d,.assign x,p,n,j,g⟩ T Y E.H);split
  ·rename_i s o e;exact absurd e (N s o)
  ·exact ON (P:=P) (op:=.assign x) rfl l rfl f
 unfold F3 at h;split at h
 ·rename_i y a;obtain⟨d,op,p,n,j,g⟩:=o;simp only at A a h;subst A;unfold Cr at a;split at a
  ·rename_i d t;split at a
   ·have i:=r.f t;unfold Hq at a;split at a
    ·rename_i row b;cases a;rw[b]at i;obtain⟨H,F,_⟩:=i
     have Q:t<c.nt:=by
      rcases dS t c.nt with l|l
      ·exact l
      ·have:=r.hi t l;rw[b]at this;cases this
     unfold aN;simp only[bO,F];exact jC r B (y:=.pt t [] 0 0) rfl Q (.inl ⟨H,F,rfl,rfl,rfl⟩) h w
    ·rename_i s px1 b;cases a;rw[b]at i;obtain⟨v,f,D⟩:=i;exact C (x:=.tmp t) (λs o e=>by simp[bO,f]at e) (by simp only[bm,f]) (jC r B (y:=.rf s px1) rfl (r.rt t s (by rw[b];rfl)) ⟨v,rfl,D⟩ h w)
    ·rename_i s M us b;cases a;rw[b]at i;obtain⟨v,vs,f,D⟩:=i;exact C (x:=.tmp t) (λs o e=>by simp[bO,f]at e) (by simp only[bm,f]) (jC r B (y:=.cl s M us) rfl (r.rt t s (by rw[b];rfl)) ⟨v,vs,rfl,D⟩ h w)
    ·cases a
   ·cases a
  ·cases a
 split at h
 ·rename_i y aR jA;obtain⟨v,u,q,E1,m,I,r1,L⟩:=wz r (fl:=[]) (λk x v h=>by simp at h) jA;have:=hY r1 B (L 0 y v rfl) h w;rw[I]at this;obtain⟨d,op,p,n,j,g⟩:=o;simp only at A;subst A;refine C (λs o e=>?_) m this;cases x with
  |tmp t=>
   simp only[bm]at m;split at m
   ·rename_i a;simp[bO,a]at e
   ·rename_i a;simp[bO,a]at e
   ·cases m
  |const k=>simp only[bO,bL]at e;obtain⟨wx1,_,e⟩:=e;cases e
  |func k=>simp only[bO,bL]at e;obtain⟨wx1,_,e⟩:=e;cases e
  |global k=>simp[bm,aZ]at m
 ·cases h
def zt5(r:au c.nt W R E X Y)(q:eK c W)(H:o.op=.move x)(h:uo ez c x o.dst K X)
(m:∀pf' U E',K pf'->au c.nt W R E' pf' U->T U E'.H):aN P c.nt o T Y E.H\/(c.hp≠[]/\fY P c.nt o T Y E.H):=by
 obtain⟨d,op,ty,ps,af,g⟩:=o;simp only at H h;subst H
 have A:∀{x:Operand}{v:Value}{fr1:FR}{H1:AH},(∀s o,bO Y x≠J (.lp s o))->bm Y E.H x=J (v,fr1,H1)->bu c.nt T d (.v v) fr1 H1->aN P c.nt ⟨d,.move x,ty,ps,af,g⟩ T Y E.H:=by
  intro x v fr1 H1 h0 a f;show(match bO Y x with|some (.lp s off)=>bu c.nt T d (.lp s off) Y E.H|_=>dK P c.nt ⟨d,.move x,ty,ps,af,g⟩ T Y E.H);split
  ·rename_i s o e;exact absurd e (h0 s o)
  ·exact ON (P:=P) (op:=.move x) rfl a rfl f
 cases x with
 |tmp t=>
  simp only[uo]at h;have l:=r.f t
  have u:t<c.nt\/X t=jP:=by
   rcases dS t c.nt with a|a
   ·exact .inl a
   ·exact .inr (r.hi t a)
  cases b:X t with
  |v x=>
   rw[b]at h l;simp only[tR]at h;left;obtain⟨hj,h⟩:=h;have uP:=oY hj;have u:t<c.nt:=by rcases u with a|a;exact a;rw[b]at a;cases a;exact absurd rfl uP
   obtain⟨v,a,f⟩:=gu l uP;refine A (λs o e=>by simp[bO,a]at e) (v:=v) (fr1:=Y) (H1:=E.H) (by simp[bm,a]) ?_;split at h
   ·exact jC r q (y:=.rf t []) rfl u ⟨v,rfl,.inl ⟨v,a,rfl⟩⟩ h m
   ·rename_i H;exact hY r q ((f.free (by simpa using H)).up) h m
  |ls L rows=>
   rw[b]at h;left;obtain⟨u,h⟩:=h;obtain⟨v,fr1,E1,F,m2,m3,_,_⟩:=r.RA u b
   obtain⟨w,D,_⟩:∃w,Y t=.ls rows.length L w/\True:=by
    rw[b]at l;obtain⟨w,D,_⟩:=l;exact⟨w,D,trivial⟩
   refine A (λs o e=>by simp[bO,D]at e) F ?_;exact jC m3 q (y:=.rf t []) rfl u ⟨v,rfl,.inl ⟨v,m2,rfl⟩⟩ h m
  |bl row=>
   rw[b]at h l;simp only[tR]at h;obtain⟨w,D,_⟩:=l;have u:t<c.nt:=by rcases u with a|a;exact a;rw[b]at a;cases a
   left;unfold aN;simp only[bO,D];exact jC r q (y:=.pt t [] 0 0) rfl u (.inl ⟨w,D,rfl,rfl,rfl⟩) h m
  |skip=>rw[b]at h;exact h.elim
  |pt s p i j=>
   rw[b]at h l;simp only[tR]at h;have C:=r.rt t s (by rw[b];rfl);have u:t<c.nt:=by rcases u with a|a;exact a;rw[b]at a;cases a
   split at h
   ·rename_i hl;split at h
    ·rename_i y hy;obtain⟨rfl,rfl,rfl,row,M,rfl⟩:=zze hy;obtain⟨w,E2,k1,k2,k3,r2⟩:=r.a5g C u M b
     have:=jC r2 q (y:=.rf s []) (fv:=.v (.pointer (J ⟨E.H.n,0,aa⟩))) rfl C ⟨_,rfl,.inl ⟨_,by
      have:s≠t:=λe=>by rw[e,b]at M;cases M
      simp[FR.put,this],rfl⟩⟩ h m
     refine .inr ⟨zBY hl,?_⟩;cases d with
     |none=>simp[AS]at hl
     |some d=>
      simp only[bu]at this;split at this
      ·rename_i hd;simp only[fY];refine⟨s,w,⟨hd,u,k1,k2⟩,?_⟩;rw[<-k3];exact this
      ·cases this
    ·cases h
   ·left;rcases l with⟨w,a,f,B,G⟩|⟨v0,id,o,a,f,B⟩
    ·unfold aN;simp only[bO,G,a];exact jC r q (y:=.pt s p i j) rfl C (.inl ⟨w,a,f,B,rfl⟩) h m
    ·exact A (λs o e=>by simp[bO,B]at e) (by simp only[bm,B]) (jC r q (y:=.pt s p i j) rfl C (.inr ⟨v0,id,o,a,f,rfl⟩) h m)
  |rf s p=>
   rw[b]at h l;simp only[tR]at h;left;obtain⟨v,a,f⟩:=l;exact A (λs o e=>by simp[bO,a]at e) (by simp only[bm,a]) (jC r q (y:=.rf s p) rfl (r.rt t s (by rw[b];rfl)) ⟨v,rfl,f⟩ h m)
  |rv s p lo hi=>
   rw[b]at h l;simp only[tR]at h;left;have C:=r.rt t s (by rw[b];rfl);rcases l with⟨a,f,B⟩|⟨id,off,L,n,cc,a,f,B,G⟩
   ·exact A (λs o e=>by simp[bO,f]at e) (by simp only[bm,f]) (jC r q (y:=.rv s p lo hi) rfl C (.inl ⟨a,rfl,B⟩) h m)
   ·exact A (λs o e=>by simp[bO,G]at e) (by simp only[bm,G]) (jC r q (y:=.rv s p lo hi) rfl C (.inr ⟨id,off,L,n,cc,a,f,B,rfl⟩) h m)
  |as bx1 s p i j n=>rw[b]at h;exact h.elim
  |cl s gg us=>
   rw[b]at h l;simp only[tR]at h;left;obtain⟨v,vs,a,f⟩:=l;exact A (λs o e=>by simp[bO,a]at e) (by simp only[bm,a]) (jC r q (y:=.cl s gg us) rfl (r.rt t s (by rw[b];rfl)) ⟨v,vs,rfl,f⟩ h m)
  |ra s p i j n=>
   rw[b]at h l;simp only[tR]at h;left;obtain⟨vs,a,f,B⟩:=l;exact A (λs o e=>by simp[bO,a]at e) (by simp only[bm,a]) (jC r q (y:=.ra s p i j n) rfl (r.rt t s (by rw[b];rfl)) ⟨vs,rfl,f,B⟩ h m)
 |const k=>
  simp only[uo]at h;left;split at h
  ·rename_i y aR Q;obtain⟨v,fr1,H1,E1,F,I,r1,N⟩:=wz r (fl:=[]) (λk x v h=>by simp at h) Q;have:=hY r1 q (N 0 y v rfl) h m;rw[I]at this;refine A (λs o e=>?_) F this;simp only[bO,bL]at e;obtain⟨wx1,_,e⟩:=e;cases e
  ·cases h
 |func k=>
  simp only[uo]at h;left;split at h
  ·rename_i y aR Q;obtain⟨v,fr1,H1,E1,F,I,r1,N⟩:=wz r (fl:=[]) (λk x v h=>by simp at h) Q;have:=hY r1 q (N 0 y v rfl) h m;rw[I]at this;refine A (λs o e=>?_) F this;simp only[bO,bL]at e;obtain⟨wx1,_,e⟩:=e;cases e
  ·cases h
 |global g=>simp[uo,eJ]at h
end
end Go.Pm
