import Derived.Test.YtjnidpmkglobfaaGreatPmL
open Bool renaming false→Z,true→O
open Option renaming none→aa,some→J
set_option linter.defProp false
namespace Go.Pm
open Go.Am
def HN:=@List.getElem?_zip_eq_some
def Qz:=@Nat.mul_le_mul_left
section
variable {N:Nat}{M:List (Nat×Value)}{L E E':Env}{U:ae}{W Q:FR}{c:aW}{P:Program}
def qM(N:Nat)(X:List PV)(T:Nat×aB)(pl:Nat->Nat×Nat)(c:Nat×aB):Option (Nat×aB):=
 if c.1=N then match c.2 with
  |(_,k)::_=>(X[k]?).bind λx=>iW (N,[(0,k)]) T (pl k).1 (pl k).2 x c
  |[]=>aa
 else aa
variable{K:ae->Prop}{K':FR->AH->Prop}{T:Nat×aB}{i:Nat}{R:List Nat}{o:Oper}{pl:Nat->Nat×Nat}{S:Array (Nat×Operand)}{t:TypeId}{v:Value}{Y:List Value}{x:PV}{X:List PV}
def zAf{a b:Nat×aB}{j:Nat}{c d:Nat×aB}(h:iW a b i j x c=J d):c.1=a.1/\a.2<+:c.2:=by
 cases x with
 |agg e=>
  obtain⟨q,r,_,rfl⟩:=zAZ h;exact⟨rfl,by simp⟩
 |_=>
  simp only[iW,fD]at h;split at h
  ·assumption
  ·cases h
def zDd{k:Nat}{c d:Nat×aB}(e:X[k]? =J x)(h:iW (N,[(0,k)]) T (pl k).1 (pl k).2 x c=J d):qM N X T pl c=J d:=by
 obtain⟨a,r,b⟩:=zAf h;obtain⟨f,g⟩:=c;simp only at a b;subst a;subst b;simp only[qM,e7,tJ,nb,e,aP];exact h
def zxE{c:Nat×aB}(h:c.1≠N):qM N X T pl c=aa:=by simp[qM,h]
def XU(f:eA N E (X.zip Y))(g:GK E E')(j:∀a b:Nat×aB,(∀r,qM N X T pl (a.1,a.2++r)=J (b.1,b.2++r))->dC E E' (J a) (J b))
{k:Nat}(d:X[k]? =J x)(l:Y[k]? =J v)(e:jT x=O):
 (cR x).length=v.cells.toList.length/\(∀(t:Nat) (y:PV) (w:Value),(cR x)[t]? =J y->v.cells.toList[t]? =J w->PR E' (J (T.1,T.2++[((pl k).1,(pl k).2+t)])) y w)/\m8 v=O:=by
 have h:=f k x v (by rw[HN];exact⟨d,l⟩);exact Ea h e g λa b m=>j a b λr=>zDd d (m r)
def N0(E:Env)(T:Nat×aB)(b:List PV)(a:List Value):Prop:=
 b.length=a.length/\∀(j:Nat) (x:PV) (y:Value),b[j]? =J x->a[j]? =J y->PR E (J (T.1,T.2++[(0,j)])) x y
def Ot(E:Env)(T:Nat×aB)(a:Nat)(b:List (List PV))(d:List Value):Prop:=
 d.length=b.length*a/\(∀r,r∈b->r.length=a)/\∀(i:Nat) (r:List PV) (j:Nat) (x:PV) (y:Value),b[i]? =J r->r[j]? =J x->d[i*a+j]? =J y->PR E (J (T.1,T.2++[(i,j)])) x y
def zom{a:Nat}(h:CT a x=O):jT x=O/\(cR x).length=a/\a≠0:=by
 simp only[CT,bC,eE]at h;exact⟨h.1.1,h.1.2,h.2⟩
def ztL{s:Nat->Option (Nat×Nat)}:∀(l:List (Nat×PV×Value)) {m p:List PV}{b:List Value},
 (∀(q:Nat) (i:Nat) (x:PV) (v:Value),l[q]? =J (i,x,v)->jT x=O->∀off u,s i=J (off,u)->
   (cR x).length=v.cells.toList.length/\(∀(t:Nat) (y:PV) (w:Value),(cR x)[t]? =J y->v.cells.toList[t]? =J w->PR E (J (T.1,T.2++[(0,off+t)])) y w)/\m8 v=O)->
 N0 E T m b->vn s (l.map λa=>(a.1,a.2.1)) m=J p->∃g,jI s (l.map λa=>(a.1,a.2.2)) b=J g/\N0 E T p g:=by
 intro l;induction l with
 |nil=>intro m p b _ d h;simp only[qP,vn,aS]at h;subst h;exact⟨b,rfl,d⟩
 |cons a l ih=>
  obtain⟨i,x,v⟩:=a;intro m p b G d h;simp only[jO,vn,bT]at h;obtain⟨⟨off,u⟩,D,h⟩:=h;split at h
  ·rename_i eg;obtain⟨k1,k2,k3⟩:=zom eg;obtain⟨a4g,h2,h3⟩:=bT.1 h;obtain⟨f,c2,c3⟩:=G 0 i x v rfl k1 off u D;obtain⟨I,a2,a3⟩:=AY h2;have F:cR x≠[]:=λe=>k3 (by rw[<-k2,e];rfl)
   have A:v.cells.toList≠[]:=λe=>F (na (by rw[f,e];rfl))
   obtain⟨cs,B⟩:=EA (cs:=b) (n:=off) A (by rw[<-f,<-d.1];exact a2 F);obtain⟨b1,b2,b3,b4⟩:=Fj A B
   have H:N0 E T a4g cs:=by
    refine⟨by rw[I,b1];exact d.1,λj z y k r=>?_⟩;rw[a3 j]at k;split at k
    ·rename_i C;have:=b4 (j-off) (by omega);rw[show off+(j-off)=j by omega,r]at this;have:=c2 (j-off) z y k this.symm
     rwa [show off+(j-off)=j by omega]at this
    ·rename_i C;rw[b3 j (by rw[<-f];exact C)]at r;exact d.2 j z y k r
   obtain⟨g,q1,q2⟩:=ih (λq i' x' v' hq=>G (q+1) i' x' v' (by simpa using hq)) H h3;refine⟨g,?_,q2⟩;simp only[jO,jI,D];rw[aE (by simp[c3,<-f,k2,k3]),B];exact q1
  ·cases h
def ztQ{b:Nat}:∀(l:List (Nat×PV×Value)) {d m:List (List PV)}{f:List Value},
 (∀(q:Nat) (i:Nat) (x:PV) (v:Value),l[q]? =J (i,x,v)->jT x=O->
   (cR x).length=v.cells.toList.length/\(∀(t:Nat) (y:PV) (wx1:Value),(cR x)[t]? =J y->v.cells.toList[t]? =J wx1->PR E (J (T.1,T.2++[(i,t)])) y wx1)/\m8 v=O)->
 Ot E T b d f->sw b (l.map λa=>(a.1,a.2.1)) d=J m->∃s,jI (λi=>J (i*b,b)) (l.map λa=>(a.1,a.2.2)) f=J s/\Ot E T b m s/\m.length=d.length:=by
 intro l;induction l with
 |nil=>intro d m f _ z h;simp only[qP,sw,aS]at h;subst h;exact⟨f,rfl,z,rfl⟩
 |cons a l ih=>
  obtain⟨i,x,v⟩:=a;intro d m f G z h;simp only[jO,sw]at h;split at h
  ·rename_i hc;obtain⟨eg,D⟩:=hc;obtain⟨k1,k2,k3⟩:=zom eg;obtain⟨p,c2,c3⟩:=G 0 i x v rfl k1;obtain⟨H,I,r3⟩:=z;have hne:cR x≠[]:=λe=>k3 (by rw[<-k2,e];rfl)
   have A:v.cells.toList≠[]:=λe=>hne (na (by rw[p,e];rfl))
   have B:(i+1)*b<=d.length*b:=gN _ D;rw[kf]at B;obtain⟨cs,C⟩:=EA (cs:=f) (n:=i*b) A (by rw[<-p,k2,H];exact B);obtain⟨b1,b2,b3,b4⟩:=Fj A C
   have Ug:Ot E T b (d.set i (cR x)) cs:=by
    refine⟨by rw[b1,H];simp,λr iu=>?_,λk r j zx1 y g u w=>?_⟩
    ·rcases a1D iu with h|rfl
     ·exact I r h
     ·exact k2
    ·rw[Et]at g;by_cases e:i=k
     ·subst e;rw[aE rfl,aE D]at g;cases g;have F:j<v.cells.toList.length:=by have:=(cY.1 u).1;omega
      rw[b4 j F]at w;exact c2 j zx1 y u w
     ·rw[aA e]at g;have fJ:=I r (eD g);have F:j<b:=by have:=(cY.1 u).1;omega
      rw[b3 _ (by
       rw[<-p,k2];rintro⟨q1,q2⟩;rcases Nat.lt_or_gt_of_ne e with h|h
       ·have:(i+1)*b<=k*b:=gN _ h;rw[kf]at this;omega
       ·have:(k+1)*b<=i*b:=gN _ h
        rw[kf]at this;omega)]at w
      exact r3 k r j zx1 y g u w
   obtain⟨s,q1,q2,q3⟩:=ih (λq k x' v' hq=>G (q+1) k x' v' (by simpa using hq)) Ug h;refine⟨s,?_,q2,by simpa using q3⟩;simp only[jO,jI];rw[aE (by simp[c3,<-p,k2,k3]),C];exact q1
  ·cases h
def ztq(h:Y.length=X.length):(R.zip (X.zip Y)).map (λa=>(a.1,a.2.1))=R.zip X:=by
 have:R.zip X=R.zip ((X.zip Y).map Prod.fst):=by rw[List.map_fst_zip (by omega)]
 rw[this,List.zip_map_right];rfl
def zts(h:Y.length=X.length):(R.zip (X.zip Y)).map (λa=>(a.1,a.2.2))=R.zip Y:=by
 have:R.zip Y=R.zip ((X.zip Y).map Prod.snd):=by rw[List.map_snd_zip (by omega)]
 rw[this,List.zip_map_right];rfl
def Xf{q:Nat}(h:(R.zip (X.zip Y))[q]? =J (i,x,v)):R[q]? =J i/\X[q]? =J x/\Y[q]? =J v:=by
 rw[HN]at h;obtain⟨b,a⟩:=h;rw[HN]at a;exact⟨b,a⟩
def zua{b:(Nat->Option (Nat×Nat))×List PV}(h:nV P t=J b):∃z,z.all cD=O/\b.2=zz P t z/\∀R Y,Fk P t R Y=(jI b.1 (R.zip Y) z).map λl=>.agg l.toArray:=by
 unfold nV at h;split at h
 ·rename_i q d;split at h
  ·rename_i g s j z f;split at h
   ·rename_i a;simp only[aS]at h;subst h;refine⟨z,by simp only[bC]at a;exact a.1,rfl,λR Y=>?_⟩;simp only[Fk,d,f];rw[aE a]
   ·cases h
  ·cases h
 ·rename_i n e d;split at h
  ·rename_i g s j z f;split at h
   ·rename_i p m r k;split at h
    ·rename_i a;simp only[aS]at h;subst h;refine⟨z,a,rfl,λR Y=>?_⟩;simp only[Fk,d,f,k];rw[aE a]
    ·cases h
   ·cases h
  ·cases h
 ·cases h
def ztw(rx1:au c.nt M L E U W)(hp:eK c M)(w:o.op=.build t S)(h:HC P c t S.toList o.dst K U)
(hk:∀A Q E',K A->au c.nt M L E' A Q->K' Q E'.H):aN P c.nt o K' W E.H:=by
 obtain⟨dx1,op,ty,pp,af,gx1⟩:=o;simp only at w h;subst w;unfold HC at h;split at h
 ·rename_i b X aR hb jA;obtain⟨Y,u,C,g,d,e1,m,y,l2,r⟩:=zol rx1 (fl:=[]) (λk x v h=>by simp at h) jA;simp only[nb]at r;unfold Q1 at h;split at h
  ·rename_i row n
   let R:=S.toList.map (·.1)
   let D:=X.length
   let pl:Nat->Nat×Nat:=λk=>(0,((R[k]?).bind b.1).elim 0 Prod.fst)
   let T:Nat×aB:=(c.nt,[(0,D)])
   obtain⟨z,td,sO,B⟩:=zua hb
   have F:N0 (g.rl (qM c.nt X T pl)) T b.2 z:=by
    rw[sO];exact⟨Ke,JB td λj=>J (T.1,T.2++[(0,j)])⟩
   rw[<-ztq y]at n
   obtain⟨p,q1,q2⟩:=ztL (T:=T) _ (λq i x v hq hc off sz dW=>by
    obtain⟨H,I,a3⟩:=Xf hq;have:=XU (T:=T) (pl:=pl) r (d7 (f:=qM c.nt X T pl)) (λa b h=>mi h) I a3 hc;have e:pl q=(0,off):=by simp only[pl];rw[show R[q]? =J i from H];simp[dW]
    rw[e]at this
    exact this) F n
   rw[zts y]at q1;have G:∀s:Nat,s<c.nt->∀q:aB,qM c.nt X T pl (s,q)=aa:=λs l q=>zxE (by show s≠c.nt;omega)
   have r2:au c.nt M L ((g.rl (qM c.nt X T pl)).rl (fD T (c.nt,[(0,0)]))) aR u:=
    (m.env m.ok.rl oi λs l=>jd λq=>G s l _).env m.ok.rl.rl oi λs l=>jd λq=>lF (by show s≠c.nt;omega)
   have hv:PR (g.rl (qM c.nt X T pl)) (J T) (.agg row) (.agg p.toArray):=.agg (by simpa using q2.1) λj x yx1 a b=>q2.2 j x yx1 a (by simpa using b)
   have:=hY r2 hp (hv.move d7 (mi λq=>zgn _ _ q)) h hk;refine(show dK P c.nt ⟨dx1,.build t S,ty,pp,af,gx1⟩ K' W E.H from ?_);simp only[uU]at d;have d:cz W E.H (S.toList.map (·.2))=J (Y,u,C):=d;simp only[dK,iA,d,fk,B];rw[show(jI b.1 ((S.toList.map λx=>x.1).zip Y) z)=J p from q1];simp only[mz];rw[<-e1];exact this
  ·cases h
 ·cases h
def zxQ{z:Value}:∀{cs a:List Value},gk (cs++z::a) cs.length [v]=J (cs++v::a):=by
 intro cs;induction cs with
 |nil=>intro a;simp[gk]
 |cons c cs ih=>intro a;simp[gk,ih]
def zzr(r:au N M L E U W){s j:Nat}{p:aB}:∀{S:List (Nat×Operand)}{q:Nat},zf U s p i j q S=O->∃Y,cz W E.H (S.map (·.2))=J (Y,W,E.H)/\Y.length=S.length/\
 (∀k v,Y[k]? =J v->Wk E W s (p++[(i,j+(q+k))]) v)/\∀cs a:List Value,cs.length=q->a.length=S.length->jI (λi=>J (i*1,1)) ((S.map (·.1)).zip Y) (cs++a)=J (cs++Y):=by
 intro S;induction S with
 |nil=>intro q _;exact⟨[],rfl,rfl,λk v h=>by simp at h,λcs a m b=>by rw[na b];rfl⟩
 |cons x S ih=>
  intro q h;obtain⟨f,x⟩:=x;cases x with
  |tmp t=>
   simp only[zf]at h;split at h
   ·rename_i D;obtain⟨rfl,G,d⟩:=D
    have C:U t=.rf s (p++[(i,j+f)]):=by
     revert G;cases U t<;>simp[Dh]
    have n:=r.f t;rw[C]at n;obtain⟨v,m,b⟩:=n;obtain⟨Y,y,z,A,B⟩:=ih h
    have u:m8 v=O/\v.cells.toList=[v]:=by
     unfold ML at d;split at d
     ·rename_i o es rows F;obtain⟨v',H,I⟩:=r.at F (by simp) (.inl Nw);have:=H.same b;subst this;cases I<;>exact⟨rfl,rfl⟩
     ·cases d
    refine⟨v::Y,?_,by simp[z],λk w e=>?_,λcs a g l=>?_⟩
    ·simp only[jO,cz,bm,m];rw[y]
    ·cases k with
     |zero=>simp at e;subst e;exact b
     |succ k=>have:=A k w (by simpa using e);rw[show f+(k+1)=f+1+k by omega];exact this
    ·cases a with
     |nil=>simp at l
     |cons zx1 a=>
      simp only[jO,a1t,jI,u.1,u.2];rw[Mh,<-g,zxQ];have:=B (cs++[v]) a (by simp[g]) (by simpa using l);simpa using this
   ·cases h
  |_=>simp[zf]at h
def zud(r:au c.nt M L E U W)(hp:eK c M){f d:Nat}(ho:o.op=.buildSlice t f S)(hd:o.dst=J d)(h:In P c t f S.toList d K U)
(hk:∀u Q E',K u->au c.nt M L E' u Q->K' Q E'.H):aN P c.nt o K' W E.H:=by
 unfold In at h;split at h
 ·rename_i y a;unfold KD at a;simp only[bT]at a;obtain⟨zx1,hz,⟨s,px1,i,j⟩,b,a⟩:=a;obtain⟨e,gx1,es,bx1,zc,m,ht,p,G,H,rfl⟩:=Ep hz;simp only at a;split at a
  ·rename_i I;obtain⟨rfl,hl,k,hgo⟩:=I;simp only[aS]at a;subst a;obtain⟨Y,A,B,C,D⟩:=zzr r hgo;have q:S.toList≠[]:=by intro e;rw[e]at b;simp[Fr]at b
   have zN:f≠0:=by rw[<-k];simpa using q
   have hs:s<c.nt:=by
    cases n:S.toList with
    |nil=>exact absurd n q
    |cons x l=>
     rw[n]at b;obtain⟨q',x⟩:=x;cases x with
     |tmp w=>
      simp only[Fr,bT,bL,b9]at b;obtain⟨⟨s',p'⟩,F,_,_,rfl,_⟩:=b;refine r.rt w s' ?_;revert F;cases U w<;>simp[Dh,bA];rintro rfl _;rfl
     |_=>simp[Fr]at b
   have rk:((List.replicate f zc).flatten).length=S.toList.length:=by
    rw[FD (es:=1) λe m=>by rw[(nS.1 m).2];exact p];simp[k]
   have g:=D [] _ rfl rk;have:=jC (K':=K') r hp (y:=.as Z s px1 i j f) rfl hs (fv:=.ls f 1 Y) ⟨Y,rfl,⟨by rw[B,k],zN⟩,λqx1 y g=>by have:=C qx1 y g;rwa [gD]at this⟩ h hk;simp only[bu]at this;split at this
   ·rename_i z;unfold aN;rw[ho];simp only[m,hd,A,ht];rw[aE ⟨z,by omega,p,G,H⟩];simp only[nb]at g;rw[g];exact this
   ·cases this
  ·cases a
 ·cases h
def zwG(r:au c.nt M L E U W)(hp:eK c M){a:Nat}(ho:o.op=.buildSlice t a S)(h:E5 P c t a S.toList o.dst K U)
(l:∀pf' Q E',K pf'->au c.nt M L E' pf' Q->K' Q E'.H):aN P c.nt o K' W E.H:=by
 unfold E5 at h;split at h
 ·rename_i hm;cases hd:o.dst with
  |none=>rw[hd]at hm;cases hm
  |some d=>rw[hd]at h;exact zud r hp ho hd h l
 split at h
 ·rename_i zx1 xs0 aR d hz jA hd;obtain⟨u,n⟩:=h;obtain⟨e,g,b,bx1,zc,G,ht,F,h3,h4,rfl⟩:=Ep hz;simp only at u n;obtain⟨Y,D,H1,A,y,e0,H,l0,l2,C⟩:=zol r (fl:=[]) (λk x v h=>by simp at h) jA;simp only[nb]at C;obtain⟨X,iD⟩:∃X,v7 c d xs0=X:=⟨_,rfl⟩
  rw[iD]at n
  obtain⟨m,e1,I,l1,f1⟩:∃m:Env,m.H=H1/\au c.nt M L m aR D/\Y.length=X.length/\eA c.nt m (X.zip Y):=by
   subst iD;unfold v7;split
   ·refine⟨A.fz (c.nt,[]),e0,H.env H.ok.fz EP λs p=>zD (tF p),by simpa using l0,λk x v l=>?_⟩;rw[HN]at l;obtain⟨x0,dG,rfl⟩:=mM l.1;have:=C k x0 v (HN.2 ⟨dG,l.2⟩);exact(this.freeze (E':=A.fz (c.nt,[])) qD λid r u _=>⟨.inr ⟨_,u⟩,λkk l=>⟨kk,l,rfl⟩⟩).up
   ·exact⟨A,e0,H,l0,C⟩
  unfold OC at n;split at n
  ·rename_i z Jn;obtain⟨hck,hK⟩:=n;obtain⟨c1,c2⟩:=Pe hck;have j3:∀w,(d,w)∉M:=λw hw=>c2 (hp.h d w hw)
   let R:=S.toList.map (·.1)
   let pl:Nat->Nat×Nat:=λk=>((R[k]?).getD 0,0)
   let T:Nat×aB:=(d,[])
   have rk:∀e,e∈List.replicate a zc->e.length=b:=λe G=>by rw[(nS.1 G).2];exact F
   have V5:Ot (m.rl (qM c.nt X T pl)) T b (List.replicate a ((zz P e zc).map dz)) ((List.replicate a zc).flatten):=by
    refine⟨by rw[FD rk];simp,λrw hr=>by rw[(nS.1 hr).2,zwP];exact F,λi rw j x yx1 g1 g2 g3=>?_⟩;have hi:i<a:=by have:=(cY.1 g1).1;simpa using this
    have aY:=(nS.1 (eD g1)).2;subst aY;have hj:j<b:=by have:=(cY.1 g2).1;rw[zwP]at this;omega
    rw[P1 rk (e:=zc) (by rw[Ml,aE hi]) hj]at g3;exact zpp h4 (λ_=>J (T.1,T.2++[(i,j)])) j x yx1 g2 g3
   rw[<-ztq l1]at Jn
   obtain⟨B,q1,q2,q3⟩:=ztQ (T:=T) _ (λq i x v hq hc=>by
    obtain⟨a1,a2,a3⟩:=Xf hq;have:=XU (T:=T) (pl:=pl) f1 (d7 (f:=qM c.nt X T pl)) (λax1 bx1 h=>mi h) a2 a3 hc;have e:pl q=(i,0):=by simp only[pl];rw[show R[q]? =J i from a1];rfl
    rw[e]at this
    simpa using this) V5 Jn
   rw[zts l1]at q1;have hlen:z.length=a:=by simpa using q3
   have a2r:z.length<=kA:=by
    have:z.length*1<=a*b:=by rw[hlen];exact Qz _ (by omega)
    unfold kA;omega
   have VC:∀s:Nat,s<c.nt->∀q:aB,qM c.nt X T pl (s,q)=aa:=λs p q=>zxE (by show s≠c.nt;omega)
   have r2:au c.nt M L (m.rl (qM c.nt X T pl)) (aR.put d (.ls b z)) (D.put d (.ls a b B)):=
    I.set c1 j3 d7 (λs p _=>jd λq=>VC s p _) oi I.ok.rl.wf I.ok.rl.fresh ⟨B,by simp[FR.put,hlen],q2.1,⟨a2r,h3⟩,q2.2.1,q2.2.2⟩ (λs p=>by cases p)
   have:=l _ _ _ hK r2;simp only[uU]at y;have y:cz W E.H (S.toList.map (·.2))=J (Y,D,H1):=y;unfold aN;rw[ho];simp only[G,hd,y,ht];rw[aE ⟨c1,u,F,h3,h4⟩];rw[show(jI (λi=>J (i*b,b)) ((S.toList.map λx=>x.1).zip Y) ((List.replicate a zc).flatten))=J B from q1];simp only;rw[<-e1];exact this
  ·cases n
 ·cases h
def XL(r:au N M L E U W){s:Nat}{p:aB}{y:PV}{j:ae}(n:s<N)(h:cj U s p=J x)(f:Wk E W s p v)(a:yh U s p x=J (y,j)):
 ∃E',E'.H=E.H/\GK E E'/\au N M L E' j W/\PR E' aa y v:=by
 unfold yh at a;split at a
 ·cases a
 ·rename_i b;have b:=oY (x:=x) (by simpa using b);have g:=jb r f h;split at a
  ·simp only[bL,b9]at a;obtain⟨u,l,rfl,rfl⟩:=a;obtain⟨q,d,e,k⟩:=r.Fi n h b g l;have:=d.same f;subst this;exact⟨E.fz (s,p),rfl,qD,e,k⟩
  ·rename_i m;cases a;obtain⟨q,d,e⟩:=r.at h b g;have:=d.same f;subst this;exact⟨E,rfl,GK.refl E,r,e.free (by simpa using m)⟩
def au.a2g(r:au N M L E U W){t:Nat}{a:List PV}(y:t<N)(A:U t=.bl a):
 ∃v Q E',pd [t] W E.H=J (Q,E'.H)/\Q t=.v v/\(∀s w,W s=.v w->Q s=.v w)/\GK E E'/\au N M L E' ((U.bV t (.v (.fp (a.map drop)))).kill t 0) Q/\PR E' aa (.fp (a.map drop)) v:=by
 have m:=r.f t;rw[A]at m;obtain⟨l,g,B,C⟩:=m;have b:=r.ok;have q:∀s w,W s=.v w->s≠t:=λs w h e=>by rw[e,g]at h;cases h
 have r1:au N M L (E.push ⟨O,l⟩ (t,[]) λ_=>aa) ((U.bV t (.v (.bx a))).kill t 0) (W.put t (.v (.pointer (J ⟨E.H.n,0,aa⟩)))):=by
  refine r.rG y b.nx (λs u eB=>b.nu λqx1=>rfl) (λLx1 H=>absurd H (BV _)) (λs u=>by simp[FR.put,u]) (λh=>absurd h (zq _)) b.uW b.push.wf b.push.fresh (λ_ _ _ d=>by simp[FR.put]at d) ?_ rfl λk v n=>?_
  ·exact pu (by simp[FR.put]) (.bx zhu b.y9 yP rfl (a1w B) λj x yx1 D F=>(C j x yx1 D F).move b.nx (b.nu λqx1=>rfl))
  ·have:=r.pin k v n;have:=q k v this;simp[FR.put,this,r.pin k v n]
 have I:cj ((U.bV t (.v (.bx a))).kill t 0) t []=J (.bx a):=by simp[cj,ae.kill,ae.bV,dr,bA,fS,iV]
 obtain⟨v,w1,f,z⟩:=r1.Fi (s:=t) (p:=[]) (pf':=(((U.bV t (.v (.bx a))).kill t 0).bV t (.v (drop (.bx a)))).kill t 0) y I (by simp) (.inr ⟨_,by simp[ae.kill,ae.bV,dr,bA];rfl⟩) (by rfl);rw[zqa]at f z;refine⟨v,W.put t (.v (.pointer (J ⟨E.H.n,0,aa⟩))),(E.push ⟨O,l⟩ (t,[]) λ_=>aa).fz (t,[]),by simp only[pd,g];rfl,?_,λs w h=>by simp[FR.put,q s w h,h],b.nx.trans qD,?_,z⟩
 ·rcases w1 with⟨v',G,d⟩|⟨_,_,_,_,_,d,_⟩
  ·rw[G];cases d;rfl
  ·cases d
 ·have e:((((U.bV t (.v (.bx a))).kill t 0).bV t (.v (.fp (a.map drop)))).kill t 0)=(U.bV t (.v (.fp (a.map drop)))).kill t 0:=by
   funext s;by_cases h:s=t
   ·subst h;simp[ae.kill,ae.bV,dr,bA]
   ·simp only[ae.kill,ae.bV,aA h];unfold dr;split
    ·split
     ·simp_all [bA,jP]
     ·rfl
    ·rfl
  rw[e]at f;exact f
def zwr(r:au N M L E U W){A:Bool}{x:Operand}{y:PV}{D:ae}(h:t9 A U x=J (y,D)):
 ∃v Q E' F,pd F W E.H=J (Q,E'.H)/\(A=Z->F=[])/\(∀t w,W t=.v w->Q t=.v w)/\(∀d,(∀t w,Q t=.v w->d t=.v w)->∀H,bm d H x=J (v,d,H))/\GK E E'/\au N M L E' D Q/\PR E' aa y v:=by
 cases x with
 |const k=>
  simp only[t9]at h;split at h
  ·rename_i B;cases h;exact⟨k,W,E,[],rfl,λ_=>rfl,λ_ _ h=>h,λd _ H=>by simp[bm,aZ,B],GK.refl E,r,(JS B aa).freeze (GK.refl E) True.intro⟩
  ·cases h
 |func f=>
  simp only[t9,aS,b9]at h;obtain⟨rfl,rfl⟩:=h;exact⟨.func (.func f) #[] #[],W,E,[],rfl,λ_=>rfl,λ_ _ h=>h,λd _ H=>by simp[bm,aZ],GK.refl E,r,.func _ rfl rfl (λi x y h=>by simp at h) (λi x y h=>by simp at h)⟩
 |global gx1=>simp[t9]at h
 |tmp t=>
  simp only[t9]at h;have l:=r.f t
  have C:U t≠jP->t<N:=λhn=>by
   rcases dS t N with a|a
   ·exact a
   ·exact absurd (r.hi t a) hn
  cases b:U t with
  |v x=>
   rw[b]at h l;simp only[xY]at h;have m:x≠.az:=by rintro rfl;simp[yh,dv]at h
   obtain⟨v,a,j⟩:=gu l m;obtain⟨E',n,q,u,z⟩:=XL r (s:=t) (p:=[]) (v:=v) (C (by rw[b];intro e;cases e;exact m rfl)) (by simp[cj,b,fS,iV]) (.inl ⟨v,a,rfl⟩) h;exact⟨v,W,E',[],by rw[n];rfl,λ_=>rfl,λ_ _ h=>h,λd g H=>by simp[bm,g t v a],q,u,z⟩
  |rf s p=>
   rw[b]at h l;simp only[xY,bT]at h;obtain⟨x,m,h⟩:=h;obtain⟨v,a,j⟩:=l;obtain⟨E',n,q,u,z⟩:=XL r (r.rt t s (by rw[b];rfl)) m j h;exact⟨v,W,E',[],by rw[n];rfl,λ_=>rfl,λ_ _ h=>h,λd g H=>by simp[bm,g t v a],q,u,z⟩
  |bl row=>
   rw[b]at h;simp only[xY]at h;split at h
   ·rename_i G;cases h;obtain⟨v,Q,E',a,j,I,h4,h5,h6⟩:=r.a2g (C (by rw[b];intro e;cases e)) b;exact⟨v,Q,E',[t],a,λe=>(by rw[G]at e;cases e),I,λd g H=>by simp[bm,g t v j],h4,h5,h6⟩
   ·cases h
  |_=>rw[b]at h;simp[xY]at h
end
end Go.Pm
