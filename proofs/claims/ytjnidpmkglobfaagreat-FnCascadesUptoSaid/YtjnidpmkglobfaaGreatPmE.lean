import Derived.Test.YtjnidpmkglobfaaGreatPmD
open Bool renaming false→Z,true→O
open Option renaming none→aa,some→J
set_option linter.defProp false
namespace Go.Pm
open Go.Am
def zt:=@Option.some.inj
def cR:PV->List PV
 | .agg a=>a
 |x=>[x]
def jT:PV->Bool
 | .az| .bR _=>Z
 |_=>O
section
variable {Y:Nat}{S:List (Nat×Value)}{T E E':Env}{U:ae}{X W:FR}
def iW(a:Nat×aB)(b:Nat×aB)(i j:Nat):PV->Nat×aB->Option (Nat×aB)
 | .agg c=>uD a 0 0 c.length b i j
 |_=>fD a (b.1,b.2++[(i,j)])
variable{i j:Nat}{x:PV}
def zw2{a b:Nat×aB}{c:Nat×aB}(h:c.1≠a.1):iW a b i j x c=aa:=by
 cases x<;>first|exact lF h|exact zxX h
def Ea{a b:Nat×aB}{v:Value}(h:PR E (J a) x v)(p:jT x=O)(l:GK E E')
(m:∀c d:Nat×aB,(∀r,iW a b i j x (c.1,c.2++r)=J (d.1,d.2++r))->dC E E' (J c) (J d)):
 (cR x).length=v.cells.toList.length/\(∀(t:Nat) (y:PV) (w:Value),(cR x)[t]? =J y->v.cells.toList[t]? =J w->PR E' (J (b.1,b.2++[(i,j+t)])) y w)/\m8 v=O:=by
 have e:∀(v:Value),PR E (J a) x v->v.cells.toList=[v]->cR x=[x]->(∀c,iW a b i j x c=fD a (b.1,b.2++[(i,j)]) c)->m8 v=O->
  (cR x).length=v.cells.toList.length/\(∀(t:Nat) (y:PV) (w:Value),(cR x)[t]? =J y->v.cells.toList[t]? =J w->PR E' (J (b.1,b.2++[(i,j+t)])) y w)/\m8 v=O:=by
  intro v F q s u z;rw[q,s];refine⟨rfl,λt y w f g=>?_,z⟩;cases t with
  |succ t=>simp at f
  |zero=>
   simp at f g;subst f;subst g;exact F.move l (m a (b.1,b.2++[(i,j)]) λr=>by rw[u];exact zgn a (b.1,b.2++[(i,j)]) r)
 cases x with
 |az=>cases p
 |bR G=>cases p
 |agg k=>
  cases h with
  |agg C B=>
   rename_i L;refine⟨C,λt y w f g=>?_,rfl⟩;have D:t<k.length:=(cY.1 f).1;refine(B t y w f g).move l (m (cS a 0 t) (b.1,b.2++[(i,j+t)]) λr=>?_);have:=Zd (a:=a) (b:=b) (i:=0) (j:=0) (n:=k.length) (i':=i) (j':=j) D r;simpa[iW,cS]using this
 |sl o A I=>cases h<;>exact e _ (by first|exact .sl0 o A|exact .jX ‹_› ‹_› ‹_› ‹_› ‹_› ‹_› ‹_› ‹_› |exact .fN ‹_› ‹_› ‹_› ‹_› ‹_› ‹_› ‹_› ‹_› ‹_› ‹_›) rfl rfl (λ_=>rfl) rfl
 |bool _=>cases h;exact e _ (.bool _) rfl rfl (λ_=>rfl) rfl
 |int _ _=>cases h;exact e _ (.int _ _) rfl rfl (λ_=>rfl) rfl
 |str _=>cases h;exact e _ (.str _) rfl rfl (λ_=>rfl) rfl
 |gy=>cases h;exact e _ .gy rfl rfl (λ_=>rfl) rfl
 |fX=>cases h;exact e _ .fX rfl rfl (λ_=>rfl) rfl
 |gU=>cases h;exact e _ .gU rfl rfl (λ_=>rfl) rfl
 |fp k=>cases h;exact e _ (.fp ‹_› ‹_› ‹_› ‹_›) rfl rfl (λ_=>rfl) rfl
 |bx k=>cases h;exact e _ (.bx ‹_› ‹_› ‹_› ‹_› ‹_› ‹_›) rfl rfl (λ_=>rfl) rfl
 |func H G K=>cases h;exact e _ (.func _ ‹_› ‹_› ‹_› ‹_›) rfl rfl (λ_=>rfl) rfl
def L5(E:Env)(X:FR)(s:Nat)(p:aB)(i j:Nat)(a:FV):Prop:=
 (∃c,X s=.loc c/\p=[]/\i=0/\a=.lp s j)\/∃b id o,Wk E X s p b/\Hd E (s,p) b i id o/\a=.v (.pointer (J ⟨id,o+j,aa⟩))
def zDb(X:FR)(H:AH)(c:FV)(d:List Value)(W:FR)(a:AH):Prop:=
 (∃s off b cs,c=.lp s off/\X s=.loc b/\gk b off d=J cs/\W=X.put s (.loc cs)/\a=H)\/
 ∃id off k cs,c=.v (.pointer (J ⟨id,off,aa⟩))/\H.b id=J k/\k.rw=O/\gk k.cells off d=J cs/\W=X/\a=H.set id (J ⟨O,cs⟩)
def EA:∀{cs xs:List Value}{n:Nat},xs≠[]->n+xs.length<=cs.length->∃r,gk cs n xs=J r:=by
 intro cs;induction cs with
 |nil=>intro xs n a h;cases xs with|nil=>exact absurd rfl a|cons x xs=>simp at h
 |cons c cs ih=>
  intro xs n a h;cases xs with
  |nil=>exact absurd rfl a
  |cons x xs=>
   cases n with
   |succ n=>
    obtain⟨r,b⟩:=ih (xs:=x::xs) (n:=n) (by simp) (by simp at h⊢;omega);exact⟨c::r,by simp[gk,b]⟩
   |zero=>
    by_cases e:xs=[]
    ·subst e;exact⟨x::cs,by simp[gk]⟩
    ·obtain⟨r,b⟩:=ih (xs:=xs) (n:=0) e (by simp at h⊢;omega);exact⟨x::r,by simp[gk,b]⟩
def Fj{cs a r:List Value}{n:Nat}(d:a≠[])(h:gk cs n a=J r):r.length=cs.length/\n+a.length<=cs.length/\(∀q,¬(n<=q/\q<n+a.length)->r[q]? =cs[q]?)/\∀t,t<a.length->r[n+t]? =a[t]? :=by
 rcases LU h with⟨e,_⟩|⟨c,rfl⟩
 ·exact absurd e d
 ·have f:(cs.take n).length=n:=by rw[tH];omega
  refine⟨by simp;omega,c,λq l=>?_,λt g=>?_⟩
  ·rcases dS q n with b|b
   ·rw[gO,fE (by omega),my,aE b]
   ·have k:n+a.length<=q:=by omega
    rw[f9 (by simp;omega),jq];congr 1;simp;omega
  ·rw[gO,f9 (by omega),f,show n+t-n=t by omega,fE g]
def au.storeAt(r:au Y S T E U X){s:Nat}{p:aB}{v:Value}{pf':ae}{fv:FV}(G:s<Y)(hfl:PR E (J (Y,[(0,0)])) x v)(hx:jT x=O)(hne:cR x≠[])
(aD:L5 E X s p i j fv)(hp:mK U s p i j (cR x)=J pf'):
 ∃W H' E',zDb X E.H fv v.cells.toList W H'/\E'.H=H'/\au Y S T E' pf' W:=by
 simp only[mK,bT,bL]at hp;obtain⟨x0,g,x1,F,yx1,hy,rfl⟩:=hp;have fJ:∀c:Nat×aB,c.1<Y->iW (Y,[(0,0)]) (s,p) i j x c=aa:=λc hc=>zw2 (by show c.1≠Y;omega)
 have Tg:∀id c,E.ow id=J c->c.1<Y->(E.rl (iW (Y,[(0,0)]) (s,p) i j x)).ow id=J c:=λid c u m=>by simp[Env.rl,u,fJ c m]
 rcases aD with⟨Q,u,rfl,rfl,rfl⟩|⟨v0,C,o,hw,hd,rfl⟩
 ·
  have hE':∀c d:Nat×aB,(∀r,iW (Y,[(0,0)]) (s,[]) 0 j x (c.1,c.2++r)=J (d.1,d.2++r))->dC E (E.rl (iW (Y,[(0,0)]) (s,[]) 0 j x)) (J c) (J d):=λc d h=>mi h
  obtain⟨c1,c2,c3⟩:=Ea (b:=(s,[])) (i:=0) (j:=j) hfl hx d7 hE';have kt:v.cells.toList≠[]:=λe=>hne (na (by rw[c1,e];rfl))
  have C1:∃row,U s=.bl row:=by
   have B:=r.f s;cases K:U s with
   |bl row=>exact⟨row,rfl⟩
   |v z=>
    rw[K]at B g;simp only[fS,aS]at g;subst g;obtain⟨w,e,_⟩:=gu B (UU F);rw[u]at e;cases e
   |_=>rw[K]at g;simp[fS]at g
  obtain⟨row,ey⟩:=C1;have B:=r.f s;rw[ey]at B g hy;simp only[fS,aS]at g;subst g;simp only[jK,iU,e7,bL]at F;obtain⟨tO,dA,rfl⟩:=F;simp only[sI,aS]at hy;subst hy;obtain⟨a0H,l1,l2,l3⟩:=id B;rw[u]at l1;cases l1;obtain⟨a1,N,a3⟩:=AY dA;obtain⟨cs,R⟩:=EA (cs:=Q) (n:=j) kt (by rw[<-c1,<-l2];exact N hne);obtain⟨b1,b2,b3,b4⟩:=Fj kt R;refine⟨X.put s (.loc cs),E.H,E.rl (iW (Y,[(0,0)]) (s,[]) 0 j x),.inl ⟨s,j,Q,cs,rfl,u,R,rfl,rfl⟩,rfl,?_⟩
  refine r.rG G d7 (λt ht _=>jd λq=>fJ _ ht) (λLx1 hL=>⟨λid q a f g3=>⟨Tg id _ a G,f⟩,λid q a f g3=>rfl⟩) (λt ht=>by simp[FR.put,ht]) (λ_=>.inr ⟨Q,cs,u,by simp[FR.put]⟩) oi r.wf
   (λid P=>?_) (λ_ _ _ _=>.inr (by simp)) ?_ rfl λk w D=>?_
  ·obtain⟨a,f⟩:=r.fresh id P;exact⟨by simp[Env.rl,a],f⟩
  ·refine Yw B dA u (by simp[FR.put]) b1 (λq hq=>b3 q (by rw[<-c1];exact hq)) d7 (λid q a f _=>⟨Tg id _ a G,f,rfl⟩) λt z w a f=>?_
   have nL:t<v.cells.toList.length:=by have:=(cY.1 a).1;omega
   rw[b4 t nL]at f;have:=c2 t z w a f;simpa using this
  ·have hk':=r.pin k w D;have:k≠s:=λe=>by rw[e,u]at hk';cases hk'
   simpa[FR.put,this]using hk'
 ·
  obtain⟨L,hG⟩:=hd.ow
  have yX:∃k,E.H.b C=J k/\k.rw=O/\o+j+(cR x).length<=k.cells.length:=by
   have key:∀(p:aB) (l:Nat×aB) (ax1 a':PV) (w M:Value),PR E (J l) ax1 w->jK ax1 p (iU i j (cR x))=J a'->Wv E l w p M->Hd E (l.1,l.2++p) M i C o->∃k,E.H.b C=J k/\k.rw=O/\o+j+(cR x).length<=k.cells.length:=by
    intro p;induction p with
    |nil=>
     intro l ax1 a' w M u m h3 h4;have h3:M=w:=h3;subst h3;simp only[jK]at m;cases u with
     | @fN _ _ off es n c k rows L hG hb aY hn hc hm hr hl hh=>
      simp only[iU,bT,bL]at m;obtain⟨r0,a,r1,f,_⟩:=m;cases h4 with
      |sl _ _ hi=>
      obtain⟨_,N,_⟩:=AY f;have:=N hne;have sT:=hr r0 (eD a);refine⟨_,hb,aY,?_⟩;have h5:(i+1)*es<=c*es:=gN _ (by omega);rw[kf]at h5;omega
     |bx L hG hb aY hl hh=>
      simp only[iU]at m;split at m
      ·simp only[bL]at m;obtain⟨r1,f,_⟩:=m;cases h4 with
       |bx _ _=>
       obtain⟨_,N,_⟩:=AY f;have:=N hne;exact⟨_,hb,aY,by omega⟩
      ·cases m
     |sl0 ob es=>cases h4
     |_=>simp[iU]at m
    |cons c p ih=>
     obtain⟨i1,j1⟩:=c;intro l ax1 a' w M u m h3 h4;simp only[jK,bT,bL]at m;obtain⟨z0,a,z1,f,_⟩:=m;obtain⟨v1,A,zi⟩:=u.get (p:=[(i1,j1)]) (x0:=z0) (by simp[iV,a]);obtain⟨id,o1,k,yx1,q1,q2,q3,q4,q5⟩:=h3;obtain⟨En,o1',k',y',q1',q2',q3',q4',QJ⟩:=A;obtain⟨rfl,rfl⟩:=q1.same q1';rw[q3]at q3';cases q3';rw[q4]at q4';cases q4';have QJ:v1=yx1:=QJ;subst QJ;exact ih (cS l i1 j1) z0 z1 v1 M zi f q5 (by rw[ze];exact h4)
   have B:=r.f s;cases K:U s with
   |v z=>
    rw[K]at B g;simp only[fS,aS]at g;subst g;obtain⟨w,e,fm⟩:=gu B (UU F);rcases hw with⟨q,A,w2⟩|⟨Q,j',p',y',A,_⟩
    ·rw[e]at A;cases A;obtain⟨k,k1,k2,k3⟩:=key p (s,[]) z x1 w v0 fm F w2 (by simpa using hd);exact⟨k,k1,k2,k3⟩
    ·rw[e]at A;cases A
   |bl row=>
    rw[K]at B g;simp only[fS,aS]at g;subst g;obtain⟨a0H,l1,l2,l3⟩:=B;rcases hw with⟨q,A,w2⟩|⟨Q,j',p',y',A,w2,w3,w4⟩
    ·rw[l1]at A;cases A
    ·rw[l1]at A;cases A;subst w2;simp only[jK,iK,e7,bT,bL]at F;obtain⟨z0,a,z1,f,_⟩:=F;obtain⟨k,k1,k2,k3⟩:=key p' (s,[(0,j')]) z0 z1 y' v0 (l3 j' z0 y' a w3) f w4 (by simpa using hd);exact⟨k,k1,k2,k3⟩
   |_=>rw[K]at g;simp[fS]at g
  obtain⟨k0,oW,WM,oz⟩:=yX;have Ux:(cR x).length=v.cells.toList.length:=(Ea (E':=E.rl (iW (Y,[(0,0)]) (s,p) i j x)) (b:=(s,p)) (i:=i) (j:=j) hfl hx d7 λc d h=>mi h).1;have kt:v.cells.toList≠[]:=λe=>hne (na (by rw[Ux,e];rfl))
  obtain⟨cs,R⟩:=EA (cs:=k0.cells) (n:=o+j) kt (by rw[<-Ux];exact oz);obtain⟨b1,b2,b3,b4⟩:=Fj kt R
  let y:Env:={E.rl (iW (Y,[(0,0)]) (s,p) i j x)with H:=E.H.set C (J ⟨O,cs⟩)}
  have I:∀id,id≠C->y.H.b id=E.H.b id:=λid P=>by simp[y,AH.set,P]
  have Vo:y.H.b C=J ⟨O,cs⟩:=by simp[y,AH.set]
  have A2:GK E y:=λid a0p=>⟨a0p,λk D=>by
   have:id≠C:=λe=>hG (by rw[<-e];exact a0p)
   exact⟨k,(I id this).trans D,rfl⟩⟩
  have T9:∀id c,E.ow id=J c->c.1<Y->y.ow id=J c:=Tg
  have rI:∀t,t<Y->t≠s->dC E y (J (t,[])) (J (t,[])):=λt ht uO id q a f=>by
   refine⟨T9 id _ a ht,f,I id λe=>?_⟩;subst e;rw[L]at a;simp only[aS,b9]at a;exact uO a.1.symm
  have hmf:∀c d:Nat×aB,(∀r,iW (Y,[(0,0)]) (s,p) i j x (c.1,c.2++r)=J (d.1,d.2++r))->dC E y (J c) (J d):=λc d h id q a f=>by
   refine⟨by simp[y,Env.rl,a,h],f,I id λe=>?_⟩;subst e;have hc:=h q;rw[L]at a;have e3:(c.1,c.2++q)=(s,p):=(zt a).symm;rw[e3,fJ (s,p) G]at hc;cases hc
  obtain⟨_,c2,_⟩:=Ea (E':=y) (b:=(s,p)) (i:=i) (j:=j) hfl hx A2 hmf;refine⟨X,E.H.set C (J ⟨O,cs⟩),y,.inr ⟨C,o+j,k0,cs,rfl,oW,WM,R,rfl,rfl⟩,rfl,?_⟩;refine r.rG G A2 rI (λLx1 hL=>⟨λid q a f g3=>⟨T9 id _ a G,f⟩,λid q a f g3=>I id λe=>?_⟩) (λ_ _=>rfl) (λ_=>.inl rfl) ⟨cq _,A2,λid _ hn=>⟨by simp[y,Env.rl,hn],I id (λe=>by rw[e,L]at hn;cases hn),λh=>h⟩⟩ (λid k D=>?_) (λid P=>?_) (λ_ _ u m=>.inl (by rw[u]at m;cases m;rfl)) ?_ (XI hy) r.pin
  ·subst e;rw[L]at a;simp only[aS,b9,pR]at a;rw[<-a]at g3;omega
  ·by_cases e:id=C
   ·subst e;exact r.wf id k0 oW
   ·rw[I id e]at D;exact r.wf id k D
  ·obtain⟨a,f⟩:=r.fresh id P;exact⟨by simp[y,Env.rl,a],f⟩
  ·refine YO (r.f s) g F hy ⟨A2,λid q a f g3=>⟨T9 id _ a G,f,I id⟩,λk D=>?_⟩ hw hd rfl;rw[oW]at D;cases D;refine⟨⟨O,cs⟩,Vo,WM.symm,b1,λq hq=>b3 q (by rw[<-Ux];exact hq),λt z w a f=>?_⟩;have nL:t<v.cells.toList.length:=by have:=(cY.1 a).1;omega
   have f:cs[o+j+t]? =J w:=f;rw[b4 t nL]at f;exact c2 t z w a f
end
end Go.Pm
