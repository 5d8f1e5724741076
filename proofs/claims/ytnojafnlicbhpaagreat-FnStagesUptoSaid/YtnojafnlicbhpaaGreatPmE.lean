import Derived.Test.YtnojafnlicbhpaaGreatPmD
open Bool renaming false→aa,true→Z
open Option renaming none→ae,some→J
set_option linter.defProp false
namespace Go.Pm
open Go.Am
def zC:=@Option.some.inj
def cR:PV->List PV
 | .agg row=>row
 |x=>[x]
def kg:PV->Bool
 | .ax| .bS _=>aa
 |_=>Z
section
variable {nt:Nat}{pin:List (Nat×Value)}{E0 E E':Env}{pf:ah}{fr ak:FR}
def iU(a:Nat×aC)(b:Nat×aC)(i j:Nat):PV->Nat×aC->Option (Nat×aC)
 | .agg row=>tY a 0 0 row.length b i j
 |_=>fq a (b.1,b.2++[(i,j)])
variable{i j:Nat}{x:PV}
def zyG{a b:Nat×aC}{c:Nat×aC}(h:c.1≠a.1):iU a b i j x c=ae:=by
 cases x<;>first|exact lq h|exact zx1 h
def C3{a b:Nat×aC}{v:Value}(h:PR E (J a) x v)(hx:kg x=Z)(hg:GK E E')
(hm:∀c d:Nat×aC,(∀r,iU a b i j x (c.1,c.2++r)=J (d.1,d.2++r))->dC E E' (J c) (J d)):
 (cR x).length=v.cells.toList.length/\(∀(t:Nat) (y:PV) (w:Value),(cR x)[t]? =J y->v.cells.toList[t]? =J w->PR E' (J (b.1,b.2++[(i,j+t)])) y w)/\mH v=Z:=by
 have one:∀(v:Value),PR E (J a) x v->v.cells.toList=[v]->cR x=[x]->(∀c,iU a b i j x c=fq a (b.1,b.2++[(i,j)]) c)->mH v=Z->
  (cR x).length=v.cells.toList.length/\(∀(t:Nat) (y:PV) (w:Value),(cR x)[t]? =J y->v.cells.toList[t]? =J w->PR E' (J (b.1,b.2++[(i,j+t)])) y w)/\mH v=Z:=by
  intro v hv e1 e2 e3 e4;rw[e1,e2];refine⟨rfl,λt y w h1 h2=>?_,e4⟩;cases t with
  |succ t=>simp at h1
  |zero=>
   simp at h1 h2;subst h1;subst h2;exact hv.move hg (hm a (b.1,b.2++[(i,j)]) λr=>by rw[e3];exact zgu a (b.1,b.2++[(i,j)]) r)
 cases x with
 |ax=>cases hx
 |bS xs=>cases hx
 |agg row=>
  cases h with
  |agg hl hh=>
   rename_i ys;refine⟨hl,λt y w h1 h2=>?_,rfl⟩;have hlt:t<row.length:=(cY.1 h1).1;refine(hh t y w h1 h2).move hg (hm (cS a 0 t) (b.1,b.2++[(i,j+t)]) λr=>?_);have:=zxT (a:=a) (b:=b) (i:=0) (j:=0) (n:=row.length) (i':=i) (j':=j) hlt r;simpa[iU,cS]using this
 |sl o es rows=>cases h<;>exact one _ (by first|exact .sl0 o es|exact .jZ ‹_› ‹_› ‹_› ‹_› ‹_› ‹_› ‹_› ‹_› |exact .fK ‹_› ‹_› ‹_› ‹_› ‹_› ‹_› ‹_› ‹_› ‹_› ‹_›) rfl rfl (λ_=>rfl) rfl
 |bool _=>cases h;exact one _ (.bool _) rfl rfl (λ_=>rfl) rfl
 |int _ _=>cases h;exact one _ (.int _ _) rfl rfl (λ_=>rfl) rfl
 |str _=>cases h;exact one _ (.str _) rfl rfl (λ_=>rfl) rfl
 |gu=>cases h;exact one _ .gu rfl rfl (λ_=>rfl) rfl
 |fX=>cases h;exact one _ .fX rfl rfl (λ_=>rfl) rfl
 |ia=>cases h;exact one _ .ia rfl rfl (λ_=>rfl) rfl
 |fp row=>cases h;exact one _ (.fp ‹_› ‹_› ‹_› ‹_›) rfl rfl (λ_=>rfl) rfl
 |bx row=>cases h;exact one _ (.bx ‹_› ‹_› ‹_› ‹_› ‹_› ‹_›) rfl rfl (λ_=>rfl) rfl
 |func fn xs us=>cases h;exact one _ (.func _ ‹_› ‹_› ‹_› ‹_›) rfl rfl (λ_=>rfl) rfl
def Ie(E:Env)(fr:FR)(s:Nat)(p:aC)(i j:Nat)(fv:FV):Prop:=
 (∃cells,fr s=.loc cells/\p=[]/\i=0/\fv=.lp s j)\/∃v0 id o,Wk E fr s p v0/\Hd E (s,p) v0 i id o/\fv=.v (.pointer (J ⟨id,o+j,ae⟩))
def zDf(fr:FR)(H:AH)(fv:FV)(vs:List Value)(ak:FR)(H':AH):Prop:=
 (∃s off cells cs,fv=.lp s off/\fr s=.loc cells/\gq cells off vs=J cs/\ak=fr.put s (.loc cs)/\H'=H)\/
 ∃id off k cs,fv=.v (.pointer (J ⟨id,off,ae⟩))/\H.b id=J k/\k.rw=Z/\gq k.cells off vs=J cs/\ak=fr/\H'=H.set id (J ⟨Z,cs⟩)
def Hu:∀{cs xs:List Value}{n:Nat},xs≠[]->n+xs.length<=cs.length->∃r,gq cs n xs=J r:=by
 intro cs;induction cs with
 |nil=>intro xs n h0 h;cases xs with|nil=>exact absurd rfl h0|cons x xs=>simp at h
 |cons c cs ih=>
  intro xs n h0 h;cases xs with
  |nil=>exact absurd rfl h0
  |cons x xs=>
   cases n with
   |succ n=>
    obtain⟨r,hr⟩:=ih (xs:=x::xs) (n:=n) (by simp) (by simp at h⊢;omega);exact⟨c::r,by simp[gq,hr]⟩
   |zero=>
    by_cases e:xs=[]
    ·subst e;exact⟨x::cs,by simp[gq]⟩
    ·obtain⟨r,hr⟩:=ih (xs:=xs) (n:=0) e (by simp at h⊢;omega);exact⟨x::r,by simp[gq,hr]⟩
def FT{cs xs r:List Value}{n:Nat}(h0:xs≠[])(h:gq cs n xs=J r):r.length=cs.length/\n+xs.length<=cs.length/\(∀q,¬(n<=q/\q<n+xs.length)->r[q]? =cs[q]?)/\∀t,t<xs.length->r[n+t]? =xs[t]? :=by
 rcases HU h with⟨e,_⟩|⟨da,rfl⟩
 ·exact absurd e h0
 ·have hn:(cs.take n).length=n:=by rw[nO];omega
  refine⟨by simp;omega,da,λq hq=>?_,λt ht=>?_⟩
  ·rcases dQ q n with h1|h1
   ·rw[ie,fM (by omega),mu,aD h1]
   ·have h2:n+xs.length<=q:=by omega
    rw[gj (by simp;omega),jw];congr 1;simp;omega
  ·rw[ie,gj (by omega),hn,show n+t-n=t by omega,fM ht]
def av.storeAt(r:av nt pin E0 E pf fr){s:Nat}{p:aC}{v:Value}{pf':ah}{fv:FV}(hs:s<nt)(hfl:PR E (J (nt,[(0,0)])) x v)(hx:kg x=Z)(hne:cR x≠[])
(aF:Ie E fr s p i j fv)(hp:mT pf s p i j (cR x)=J pf'):
 ∃ak H' E',zDf fr E.H fv v.cells.toList ak H'/\E'.H=H'/\av nt pin E0 E' pf' ak:=by
 simp only[mT,bW,bP]at hp;obtain⟨x0,dD,x1,nT,y,hy,rfl⟩:=hp;have fF:∀c:Nat×aC,c.1<nt->iU (nt,[(0,0)]) (s,p) i j x c=ae:=λc hc=>zyG (by show c.1≠nt;omega)
 have Te:∀id c,E.ow id=J c->c.1<nt->(E.rl (iU (nt,[(0,0)]) (s,p) i j x)).ow id=J c:=λid c h1 h2=>by simp[Env.rl,h1,fF c h2]
 rcases aF with⟨cells,h1,rfl,rfl,rfl⟩|⟨v0,dS,o,hw,hd,rfl⟩
 ·
  have hE':∀c d:Nat×aC,(∀r,iU (nt,[(0,0)]) (s,[]) 0 j x (c.1,c.2++r)=J (d.1,d.2++r))->dC E (E.rl (iU (nt,[(0,0)]) (s,[]) 0 j x)) (J c) (J d):=λc d h=>lF h
  obtain⟨c1,c2,c3⟩:=C3 (b:=(s,[])) (i:=0) (j:=j) hfl hx dU hE';have kI:v.cells.toList≠[]:=λe=>hne (m9 (by rw[c1,e];rfl))
  have Ee:∃row,pf s=.bl row:=by
   have hf:=r.f s;cases fW:pf s with
   |bl row=>exact⟨row,rfl⟩
   |v z=>
    rw[fW]at hf dD;simp only[fV,aT]at dD;subst dD;obtain⟨w,e,_⟩:=gA hf (VT nT);rw[h1]at e;cases e
   |_=>rw[fW]at dD;simp[fV]at dD
  obtain⟨row,en⟩:=Ee;have hf:=r.f s;rw[en]at hf dD hy;simp only[fV,aT]at dD;subst dD;simp only[jM,i9,e9,bP]at nT;obtain⟨tE,dv,rfl⟩:=nT;simp only[sB,aT]at hy;subst hy;obtain⟨Xt,l1,l2,l3⟩:=id hf;rw[h1]at l1;cases l1;obtain⟨a1,a2,a3⟩:=Bh dv;obtain⟨cs,dX⟩:=Hu (cs:=cells) (n:=j) kI (by rw[<-c1,<-l2];exact a2 hne);obtain⟨b1,b2,b3,b4⟩:=FT kI dX;refine⟨fr.put s (.loc cs),E.H,E.rl (iU (nt,[(0,0)]) (s,[]) 0 j x),.inl ⟨s,j,cells,cs,rfl,h1,dX,rfl,rfl⟩,rfl,?_⟩
  refine r.rK hs dU (λt ht _=>jh λq=>fF _ ht) (λL hL=>⟨λid q g1 g2 g3=>⟨Te id _ g1 hs,g2⟩,λid q g1 g2 g3=>rfl⟩) (λt ht=>by simp[FR.put,ht]) (λ_=>.inr ⟨cells,cs,h1,by simp[FR.put]⟩) oi r.wf
   (λid b9=>?_) (λ_ _ _ _=>.inr (by simp)) ?_ rfl λk w hk=>?_
  ·obtain⟨g1,g2⟩:=r.fresh id b9;exact⟨by simp[Env.rl,g1],g2⟩
  ·refine zoU hf dv h1 (by simp[FR.put]) b1 (λq hq=>b3 q (by rw[<-c1];exact hq)) dU (λid q g1 g2 _=>⟨Te id _ g1 hs,g2,rfl⟩) λt z w g1 g2=>?_
   have nC:t<v.cells.toList.length:=by have:=(cY.1 g1).1;omega
   rw[b4 t nC]at g2;have:=c2 t z w g1 g2;simpa using this
  ·have hk':=r.pin k w hk;have:k≠s:=λe=>by rw[e,h1]at hk';cases hk'
   simpa[FR.put,this]using hk'
 ·
  obtain⟨how,hG⟩:=hd.ow
  have yA:∃k,E.H.b dS=J k/\k.rw=Z/\o+j+(cR x).length<=k.cells.length:=by
   have key:∀(p:aC) (l:Nat×aC) (a a':PV) (w w0:Value),PR E (J l) a w->jM a p (i9 i j (cR x))=J a'->Wv E l w p w0->Hd E (l.1,l.2++p) w0 i dS o->∃k,E.H.b dS=J k/\k.rw=Z/\o+j+(cR x).length<=k.cells.length:=by
    intro p;induction p with
    |nil=>
     intro l a a' w w0 h1 h2 h3 h4;have h3:w0=w:=h3;subst h3;simp only[jM]at h2;cases h1 with
     | @fK _ _ off es n c k rows how hG hb bc hn hc hm hr hl hh=>
      simp only[i9,bW,bP]at h2;obtain⟨r0,g1,r1,g2,_⟩:=h2;cases h4 with
      |sl _ _ hi=>
      obtain⟨_,a2,_⟩:=Bh g2;have:=a2 hne;have si:=hr r0 (eA g1);refine⟨_,hb,bc,?_⟩;have h5:(i+1)*es<=c*es:=gO _ (by omega);rw[km]at h5;omega
     |bx how hG hb bc hl hh=>
      simp only[i9]at h2;split at h2
      ·simp only[bP]at h2;obtain⟨r1,g2,_⟩:=h2;cases h4 with
       |bx _ _=>
       obtain⟨_,a2,_⟩:=Bh g2;have:=a2 hne;exact⟨_,hb,bc,by omega⟩
      ·cases h2
     |sl0 ob es=>cases h4
     |_=>simp[i9]at h2
    |cons c p ih=>
     obtain⟨i1,j1⟩:=c;intro l a a' w w0 h1 h2 h3 h4;simp only[jM,bW,bP]at h2;obtain⟨z0,g1,z1,g2,_⟩:=h2;obtain⟨v1,w1,y9⟩:=h1.get (p:=[(i1,j1)]) (x0:=z0) (by simp[jb,g1]);obtain⟨id,o1,k,y,q1,q2,q3,q4,q5⟩:=h3;obtain⟨Eh,o1',k',y',q1',q2',WJ,WL,TD⟩:=w1;obtain⟨rfl,rfl⟩:=q1.same q1';rw[q3]at WJ;cases WJ;rw[q4]at WL;cases WL;have TD:v1=y:=TD;subst TD;exact ih (cS l i1 j1) z0 z1 v1 w0 y9 g2 q5 (by rw[zo];exact h4)
   have hf:=r.f s;cases fW:pf s with
   |v z=>
    rw[fW]at hf dD;simp only[fV,aT]at dD;subst dD;obtain⟨w,e,fg⟩:=gA hf (VT nT);rcases hw with⟨q,w1,w2⟩|⟨cells,j',p',y',w1,_⟩
    ·rw[e]at w1;cases w1;obtain⟨k,k1,k2,k3⟩:=key p (s,[]) z x1 w v0 fg nT w2 (by simpa using hd);exact⟨k,k1,k2,k3⟩
    ·rw[e]at w1;cases w1
   |bl row=>
    rw[fW]at hf dD;simp only[fV,aT]at dD;subst dD;obtain⟨Xt,l1,l2,l3⟩:=hf;rcases hw with⟨q,w1,w2⟩|⟨cells,j',p',y',w1,w2,w3,w4⟩
    ·rw[l1]at w1;cases w1
    ·rw[l1]at w1;cases w1;subst w2;simp only[jM,iM,e9,bW,bP]at nT;obtain⟨z0,g1,z1,g2,_⟩:=nT;obtain⟨k,k1,k2,k3⟩:=key p' (s,[(0,j')]) z0 z1 y' v0 (l3 j' z0 y' g1 w3) g2 w4 (by simpa using hd);exact⟨k,k1,k2,k3⟩
   |_=>rw[fW]at dD;simp[fV]at dD
  obtain⟨k0,o8,W7,nV⟩:=yA;have SP:(cR x).length=v.cells.toList.length:=(C3 (E':=E.rl (iU (nt,[(0,0)]) (s,p) i j x)) (b:=(s,p)) (i:=i) (j:=j) hfl hx dU λc d h=>lF h).1;have kI:v.cells.toList≠[]:=λe=>hne (m9 (by rw[SP,e];rfl))
  obtain⟨cs,dX⟩:=Hu (cs:=k0.cells) (n:=o+j) kI (by rw[<-SP];exact nV);obtain⟨b1,b2,b3,b4⟩:=FT kI dX
  let E1:Env:={E.rl (iU (nt,[(0,0)]) (s,p) i j x)with H:=E.H.set dS (J ⟨Z,cs⟩)}
  have jB:∀id,id≠dS->E1.H.b id=E.H.b id:=λid b9=>by simp[E1,AH.set,b9]
  have TC:E1.H.b dS=J ⟨Z,cs⟩:=by simp[E1,AH.set]
  have Aa:GK E E1:=λid a0a=>⟨a0a,λk hk=>by
   have:id≠dS:=λe=>hG (by rw[<-e];exact a0a)
   exact⟨k,(jB id this).trans hk,rfl⟩⟩
  have Th:∀id c,E.ow id=J c->c.1<nt->E1.ow id=J c:=Te
  have qN:∀t,t<nt->t≠s->dC E E1 (J (t,[])) (J (t,[])):=λt ht tM id q g1 g2=>by
   refine⟨Th id _ g1 ht,g2,jB id λe=>?_⟩;subst e;rw[how]at g1;simp only[aT,cg]at g1;exact tM g1.1.symm
  have hmf:∀c d:Nat×aC,(∀r,iU (nt,[(0,0)]) (s,p) i j x (c.1,c.2++r)=J (d.1,d.2++r))->dC E E1 (J c) (J d):=λc d h id q g1 g2=>by
   refine⟨by simp[E1,Env.rl,g1,h],g2,jB id λe=>?_⟩;subst e;have hc:=h q;rw[how]at g1;have e3:(c.1,c.2++q)=(s,p):=(zC g1).symm;rw[e3,fF (s,p) hs]at hc;cases hc
  obtain⟨_,c2,_⟩:=C3 (E':=E1) (b:=(s,p)) (i:=i) (j:=j) hfl hx Aa hmf;refine⟨fr,E.H.set dS (J ⟨Z,cs⟩),E1,.inr ⟨dS,o+j,k0,cs,rfl,o8,W7,dX,rfl,rfl⟩,rfl,?_⟩;refine r.rK hs Aa qN (λL hL=>⟨λid q g1 g2 g3=>⟨Th id _ g1 hs,g2⟩,λid q g1 g2 g3=>jB id λe=>?_⟩) (λ_ _=>rfl) (λ_=>.inl rfl) ⟨cB _,Aa,λid _ hn=>⟨by simp[E1,Env.rl,hn],jB id (λe=>by rw[e,how]at hn;cases hn),λh=>h⟩⟩ (λid k hk=>?_) (λid b9=>?_) (λ_ _ h1 h2=>.inl (by rw[h1]at h2;cases h2;rfl)) ?_ (znL hy) r.pin
  ·subst e;rw[how]at g1;simp only[aT,cg,pM]at g1;rw[<-g1]at g3;omega
  ·by_cases e:id=dS
   ·subst e;exact r.wf id k0 o8
   ·rw[jB id e]at hk;exact r.wf id k hk
  ·obtain⟨g1,g2⟩:=r.fresh id b9;exact⟨by simp[E1,Env.rl,g1],g2⟩
  ·refine zuX (r.f s) dD nT hy ⟨Aa,λid q g1 g2 g3=>⟨Th id _ g1 hs,g2,jB id⟩,λk hk=>?_⟩ hw hd rfl;rw[o8]at hk;cases hk;refine⟨⟨Z,cs⟩,TC,W7.symm,b1,λq hq=>b3 q (by rw[<-SP];exact hq),λt z w g1 g2=>?_⟩;have nC:t<v.cells.toList.length:=by have:=(cY.1 g1).1;omega
   have g2:cs[o+j+t]? =J w:=g2;rw[b4 t nC]at g2;exact c2 t z w g1 g2
end
end Go.Pm
