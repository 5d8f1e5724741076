import Derived.Test.YtnojafnlicbhpaaGreatPmD
open Bool renaming false→aa,true→Z
open Option renaming none→ae,some→J
set_option linter.defProp false
namespace Go.Pm
open Go.Am
def yB:=@Option.some.inj
def cN:PV->List PV
 | .agg row=>row
 |x=>[x]
def jS:PV->Bool
 | .au| .bO _=>aa
 |_=>Z
section
variable {nt:Nat}{pin:List (Nat×Value)}{E0 E E':Env}{pf:ah}{fr ai:FR}
def iJ(a:Nat×aA)(b:Nat×aA)(i j:Nat):PV->Nat×aA->Option (Nat×aA)
 | .agg row=>tj a 0 0 row.length b i j
 |_=>fg a (b.1,b.2++[(i,j)])
variable{i j:Nat}{x:PV}
def zx7{a b:Nat×aA}{c:Nat×aA}(h:c.1≠a.1):iJ a b i j x c=ae:=by
 cases x<;>first|exact kB h|exact ZI h
def Bq{a b:Nat×aA}{v:Value}(h:PR E (J a) x v)(hx:jS x=Z)(hg:GK E E')
(hm:∀c d:Nat×aA,(∀r,iJ a b i j x (c.1,c.2++r)=J (d.1,d.2++r))->du E E' (J c) (J d)):
 (cN x).length=v.cells.toList.length/\(∀(t:Nat) (y:PV) (w:Value),(cN x)[t]? =J y->v.cells.toList[t]? =J w->PR E' (J (b.1,b.2++[(i,j+t)])) y w)/\mD v=Z:=by
 have one:∀(v:Value),PR E (J a) x v->v.cells.toList=[v]->cN x=[x]->(∀c,iJ a b i j x c=fg a (b.1,b.2++[(i,j)]) c)->mD v=Z->
  (cN x).length=v.cells.toList.length/\(∀(t:Nat) (y:PV) (w:Value),(cN x)[t]? =J y->v.cells.toList[t]? =J w->PR E' (J (b.1,b.2++[(i,j+t)])) y w)/\mD v=Z:=by
  intro v hv e1 e2 e3 e4;rw[e1,e2];refine⟨rfl,λt y w h1 h2=>?_,e4⟩;cases t with
  |succ t=>simp at h1
  |zero=>
   simp at h1 h2;subst h1;subst h2;exact hv.move hg (hm a (b.1,b.2++[(i,j)]) λr=>by rw[e3];exact zgw a (b.1,b.2++[(i,j)]) r)
 cases x with
 |au=>cases hx
 |bO xs=>cases hx
 |agg row=>
  cases h with
  |agg hl hh=>
   rename_i ys;refine⟨hl,λt y w h1 h2=>?_,rfl⟩;have hlt:t<row.length:=(cT.1 h1).1;refine(hh t y w h1 h2).move hg (hm (cO a 0 t) (b.1,b.2++[(i,j+t)]) λr=>?_);have:=VX (a:=a) (b:=b) (i:=0) (j:=0) (n:=row.length) (i':=i) (j':=j) hlt r;simpa[iJ,cO]using this
 |sl o es rows=>cases h<;>exact one _ (by first|exact .sl0 o es|exact .jF ‹_› ‹_› ‹_› ‹_› ‹_› ‹_› ‹_› ‹_› |exact .fk ‹_› ‹_› ‹_› ‹_› ‹_› ‹_› ‹_› ‹_› ‹_› ‹_›) rfl rfl (λ_=>rfl) rfl
 |bool _=>cases h;exact one _ (.bool _) rfl rfl (λ_=>rfl) rfl
 |int _ _=>cases h;exact one _ (.int _ _) rfl rfl (λ_=>rfl) rfl
 |str _=>cases h;exact one _ (.str _) rfl rfl (λ_=>rfl) rfl
 |fZ=>cases h;exact one _ .fZ rfl rfl (λ_=>rfl) rfl
 |fB=>cases h;exact one _ .fB rfl rfl (λ_=>rfl) rfl
 |gG=>cases h;exact one _ .gG rfl rfl (λ_=>rfl) rfl
 |fp row=>cases h;exact one _ (.fp ‹_› ‹_› ‹_› ‹_›) rfl rfl (λ_=>rfl) rfl
 |bx row=>cases h;exact one _ (.bx ‹_› ‹_› ‹_› ‹_› ‹_› ‹_›) rfl rfl (λ_=>rfl) rfl
 |func fn xs us=>cases h;exact one _ (.func _ ‹_› ‹_› ‹_› ‹_›) rfl rfl (λ_=>rfl) rfl
def I3(E:Env)(fr:FR)(s:Nat)(p:aA)(i j:Nat)(fv:FV):Prop:=
 (∃cells,fr s=.loc cells/\p=[]/\i=0/\fv=.lp s j)\/∃v0 id o,Wk E fr s p v0/\Hd E (s,p) v0 i id o/\fv=.v (.pointer (J ⟨id,o+j,ae⟩))
def zCm(fr:FR)(H:AH)(fv:FV)(vs:List Value)(ai:FR)(H':AH):Prop:=
 (∃s off cells cs,fv=.lp s off/\fr s=.loc cells/\fY cells off vs=J cs/\ai=fr.put s (.loc cs)/\H'=H)\/
 ∃id off k cs,fv=.v (.pointer (J ⟨id,off,ae⟩))/\H.b id=J k/\k.rw=Z/\fY k.cells off vs=J cs/\ai=fr/\H'=H.set id (J ⟨Z,cs⟩)
def F4:∀{cs xs:List Value}{n:Nat},xs≠[]->n+xs.length<=cs.length->∃r,fY cs n xs=J r:=by
 intro cs;induction cs with
 |nil=>intro xs n h0 h;cases xs with|nil=>exact absurd rfl h0|cons x xs=>simp at h
 |cons c cs ih=>
  intro xs n h0 h;cases xs with
  |nil=>exact absurd rfl h0
  |cons x xs=>
   cases n with
   |succ n=>
    obtain⟨r,hr⟩:=ih (xs:=x::xs) (n:=n) (by simp) (by simp at h⊢;omega);exact⟨c::r,by simp[fY,hr]⟩
   |zero=>
    by_cases e:xs=[]
    ·subst e;exact⟨x::cs,by simp[fY]⟩
    ·obtain⟨r,hr⟩:=ih (xs:=xs) (n:=0) e (by simp at h⊢;omega);exact⟨x::r,by simp[fY,hr]⟩
def EC{cs xs r:List Value}{n:Nat}(h0:xs≠[])(h:fY cs n xs=J r):r.length=cs.length/\n+xs.length<=cs.length/\(∀q,¬(n<=q/\q<n+xs.length)->r[q]? =cs[q]?)/\∀t,t<xs.length->r[n+t]? =xs[t]? :=by
 rcases IU h with⟨e,_⟩|⟨cV,rfl⟩
 ·exact absurd e h0
 ·have hn:(cs.take n).length=n:=by rw[nv];omega
  refine⟨by simp;omega,cV,λq hq=>?_,λt ht=>?_⟩
  ·rcases dK q n with h1|h1
   ·rw[gU,fw (by omega),l6,aB h1]
   ·have h2:n+xs.length<=q:=by omega
    rw[fT (by simp;omega),jd];congr 1;simp;omega
  ·rw[gU,fT (by omega),hn,show n+t-n=t by omega,fw ht]
def aq.storeAt(r:aq nt pin E0 E pf fr){s:Nat}{p:aA}{v:Value}{pf':ah}{fv:FV}(hs:s<nt)(hfl:PR E (J (nt,[(0,0)])) x v)(hx:jS x=Z)(hne:cN x≠[])
(aE:I3 E fr s p i j fv)(hp:mz pf s p i j (cN x)=J pf'):
 ∃ai H' E',zCm fr E.H fv v.cells.toList ai H'/\E'.H=H'/\aq nt pin E0 E' pf' ai:=by
 simp only[mz,bR,bN]at hp;obtain⟨x0,dy,x1,nJ,y,hy,rfl⟩:=hp;have fj:∀c:Nat×aA,c.1<nt->iJ (nt,[(0,0)]) (s,p) i j x c=ae:=λc hc=>zx7 (by show c.1≠nt;omega)
 have QH:∀id c,E.ow id=J c->c.1<nt->(E.rl (iJ (nt,[(0,0)]) (s,p) i j x)).ow id=J c:=λid c h1 h2=>by simp[Env.rl,h1,fj c h2]
 rcases aE with⟨cells,h1,rfl,rfl,rfl⟩|⟨v0,dM,o,hw,hd,rfl⟩
 ·
  have hE':∀c d:Nat×aA,(∀r,iJ (nt,[(0,0)]) (s,[]) 0 j x (c.1,c.2++r)=J (d.1,d.2++r))->du E (E.rl (iJ (nt,[(0,0)]) (s,[]) 0 j x)) (J c) (J d):=λc d h=>k8 h
  obtain⟨c1,c2,c3⟩:=Bq (b:=(s,[])) (i:=0) (j:=j) hfl hx dO hE';have j3:v.cells.toList≠[]:=λe=>hne (mL (by rw[c1,e];rfl))
  have A7:∃row,pf s=.bl row:=by
   have hf:=r.f s;cases fH:pf s with
   |bl row=>exact⟨row,rfl⟩
   |v z=>
    rw[fH]at hf dy;simp only[fD,aT]at dy;subst dy;obtain⟨w,e,_⟩:=gi hf (RT nJ);rw[h1]at e;cases e
   |_=>rw[fH]at dy;simp[fD]at dy
  obtain⟨row,ej⟩:=A7;have hf:=r.f s;rw[ej]at hf dy hy;simp only[fD,aT]at dy;subst dy;simp only[jx,iL,eP,bN]at nJ;obtain⟨sS,dn,rfl⟩:=nJ;simp only[sw,aT]at hy;subst hy;obtain⟨Vk,l1,l2,l3⟩:=id hf;rw[h1]at l1;cases l1;obtain⟨a1,a2,a3⟩:=zK dn;obtain⟨cs,dP⟩:=F4 (cs:=cells) (n:=j) j3 (by rw[<-c1,<-l2];exact a2 hne);obtain⟨b1,b2,b3,b4⟩:=EC j3 dP;refine⟨fr.put s (.loc cs),E.H,E.rl (iJ (nt,[(0,0)]) (s,[]) 0 j x),.inl ⟨s,j,cells,cs,rfl,h1,dP,rfl,rfl⟩,rfl,?_⟩
  refine r.qs hs dO (λt ht _=>iZ λq=>fj _ ht) (λL hL=>⟨λid q g1 g2 g3=>⟨QH id _ g1 hs,g2⟩,λid q g1 g2 g3=>rfl⟩) (λt ht=>by simp[FR.put,ht]) (λ_=>.inr ⟨cells,cs,h1,by simp[FR.put]⟩) nS r.wf
   (λid bY=>?_) (λ_ _ _ _=>.inr (by simp)) ?_ rfl λk w hk=>?_
  ·obtain⟨g1,g2⟩:=r.fresh id bY;exact⟨by simp[Env.rl,g1],g2⟩
  ·refine Vt hf dn h1 (by simp[FR.put]) b1 (λq hq=>b3 q (by rw[<-c1];exact hq)) dO (λid q g1 g2 _=>⟨QH id _ g1 hs,g2,rfl⟩) λt z w g1 g2=>?_
   have mV:t<v.cells.toList.length:=by have:=(cT.1 g1).1;omega
   rw[b4 t mV]at g2;have:=c2 t z w g1 g2;simpa using this
  ·have hk':=r.pin k w hk;have:k≠s:=λe=>by rw[e,h1]at hk';cases hk'
   simpa[FR.put,this]using hk'
 ·
  obtain⟨how,hG⟩:=hd.ow
  have xN:∃k,E.H.b dM=J k/\k.rw=Z/\o+j+(cN x).length<=k.cells.length:=by
   have key:∀(p:aA) (l:Nat×aA) (a a':PV) (w w0:Value),PR E (J l) a w->jx a p (iL i j (cN x))=J a'->Wv E l w p w0->Hd E (l.1,l.2++p) w0 i dM o->∃k,E.H.b dM=J k/\k.rw=Z/\o+j+(cN x).length<=k.cells.length:=by
    intro p;induction p with
    |nil=>
     intro l a a' w w0 h1 h2 h3 h4;have h3:w0=w:=h3;subst h3;simp only[jx]at h2;cases h1 with
     | @fk _ _ off es n c k rows how hG hb bc hn hc hm hr hl hh=>
      simp only[iL,bR,bN]at h2;obtain⟨r0,g1,r1,g2,_⟩:=h2;cases h4 with
      |sl _ _ hi=>
      obtain⟨_,a2,_⟩:=zK g2;have:=a2 hne;have dD:=hr r0 (eo g1);refine⟨_,hb,bc,?_⟩;have h5:(i+1)*es<=c*es:=gA _ (by omega);rw[jZ]at h5;omega
     |bx how hG hb bc hl hh=>
      simp only[iL]at h2;split at h2
      ·simp only[bN]at h2;obtain⟨r1,g2,_⟩:=h2;cases h4 with
       |bx _ _=>
       obtain⟨_,a2,_⟩:=zK g2;have:=a2 hne;exact⟨_,hb,bc,by omega⟩
      ·cases h2
     |sl0 ob es=>cases h4
     |_=>simp[iL]at h2
    |cons c p ih=>
     obtain⟨i1,j1⟩:=c;intro l a a' w w0 h1 h2 h3 h4;simp only[jx,bR,bN]at h2;obtain⟨z0,g1,z1,g2,_⟩:=h2;obtain⟨v1,w1,xR⟩:=h1.get (p:=[(i1,j1)]) (x0:=z0) (by simp[iB,g1]);obtain⟨id,o1,k,y,q1,q2,q3,q4,q5⟩:=h3;obtain⟨Cy,o1',k',y',q1',q2',WW,Yz,O6⟩:=w1;obtain⟨rfl,rfl⟩:=q1.same q1';rw[q3]at WW;cases WW;rw[q4]at Yz;cases Yz;have O6:v1=y:=O6;subst O6;exact ih (cO l i1 j1) z0 z1 v1 w0 xR g2 q5 (by rw[xE];exact h4)
   have hf:=r.f s;cases fH:pf s with
   |v z=>
    rw[fH]at hf dy;simp only[fD,aT]at dy;subst dy;obtain⟨w,e,eV⟩:=gi hf (RT nJ);rcases hw with⟨q,w1,w2⟩|⟨cells,j',p',y',w1,_⟩
    ·rw[e]at w1;cases w1;obtain⟨k,k1,k2,k3⟩:=key p (s,[]) z x1 w v0 eV nJ w2 (by simpa using hd);exact⟨k,k1,k2,k3⟩
    ·rw[e]at w1;cases w1
   |bl row=>
    rw[fH]at hf dy;simp only[fD,aT]at dy;subst dy;obtain⟨Vk,l1,l2,l3⟩:=hf;rcases hw with⟨q,w1,w2⟩|⟨cells,j',p',y',w1,w2,w3,w4⟩
    ·rw[l1]at w1;cases w1
    ·rw[l1]at w1;cases w1;subst w2;simp only[jx,iv,eP,bR,bN]at nJ;obtain⟨z0,g1,z1,g2,_⟩:=nJ;obtain⟨k,k1,k2,k3⟩:=key p' (s,[(0,j')]) z0 z1 y' v0 (l3 j' z0 y' g1 w3) g2 w4 (by simpa using hd);exact⟨k,k1,k2,k3⟩
   |_=>rw[fH]at dy;simp[fD]at dy
  obtain⟨k0,oL,Y5,nH⟩:=xN;have SJ:(cN x).length=v.cells.toList.length:=(Bq (E':=E.rl (iJ (nt,[(0,0)]) (s,p) i j x)) (b:=(s,p)) (i:=i) (j:=j) hfl hx dO λc d h=>k8 h).1;have j3:v.cells.toList≠[]:=λe=>hne (mL (by rw[SJ,e];rfl))
  obtain⟨cs,dP⟩:=F4 (cs:=k0.cells) (n:=o+j) j3 (by rw[<-SJ];exact nH);obtain⟨b1,b2,b3,b4⟩:=EC j3 dP
  let E1:Env:={E.rl (iJ (nt,[(0,0)]) (s,p) i j x)with H:=E.H.set dM (J ⟨Z,cs⟩)}
  have jr:∀id,id≠dM->E1.H.b id=E.H.b id:=λid bY=>by simp[E1,AH.set,bY]
  have Po:E1.H.b dM=J ⟨Z,cs⟩:=by simp[E1,AH.set]
  have qw:GK E E1:=λid a0e=>⟨a0e,λk hk=>by
   have:id≠dM:=λe=>hG (by rw[<-e];exact a0e)
   exact⟨k,(jr id this).trans hk,rfl⟩⟩
  have SY:∀id c,E.ow id=J c->c.1<nt->E1.ow id=J c:=QH
  have qT:∀t,t<nt->t≠s->du E E1 (J (t,[])) (J (t,[])):=λt ht tY id q g1 g2=>by
   refine⟨SY id _ g1 ht,g2,jr id λe=>?_⟩;subst e;rw[how]at g1;simp only[aT,b9]at g1;exact tY g1.1.symm
  have hmf:∀c d:Nat×aA,(∀r,iJ (nt,[(0,0)]) (s,p) i j x (c.1,c.2++r)=J (d.1,d.2++r))->du E E1 (J c) (J d):=λc d h id q g1 g2=>by
   refine⟨by simp[E1,Env.rl,g1,h],g2,jr id λe=>?_⟩;subst e;have hc:=h q;rw[how]at g1;have e3:(c.1,c.2++q)=(s,p):=(yB g1).symm;rw[e3,fj (s,p) hs]at hc;cases hc
  obtain⟨_,c2,_⟩:=Bq (E':=E1) (b:=(s,p)) (i:=i) (j:=j) hfl hx qw hmf;refine⟨fr,E.H.set dM (J ⟨Z,cs⟩),E1,.inr ⟨dM,o+j,k0,cs,rfl,oL,Y5,dP,rfl,rfl⟩,rfl,?_⟩;refine r.qs hs qw qT (λL hL=>⟨λid q g1 g2 g3=>⟨SY id _ g1 hs,g2⟩,λid q g1 g2 g3=>jr id λe=>?_⟩) (λ_ _=>rfl) (λ_=>.inl rfl) ⟨cy _,qw,λid _ hn=>⟨by simp[E1,Env.rl,hn],jr id (λe=>by rw[e,how]at hn;cases hn),λh=>h⟩⟩ (λid k hk=>?_) (λid bY=>?_) (λ_ _ h1 h2=>.inl (by rw[h1]at h2;cases h2;rfl)) ?_ (Yp hy) r.pin
  ·subst e;rw[how]at g1;simp only[aT,b9,o6]at g1;rw[<-g1]at g3;omega
  ·by_cases e:id=dM
   ·subst e;exact r.wf id k0 oL
   ·rw[jr id e]at hk;exact r.wf id k hk
  ·obtain⟨g1,g2⟩:=r.fresh id bY;exact⟨by simp[E1,Env.rl,g1],g2⟩
  ·refine Zc (r.f s) dy nJ hy ⟨qw,λid q g1 g2 g3=>⟨SY id _ g1 hs,g2,jr id⟩,λk hk=>?_⟩ hw hd rfl;rw[oL]at hk;cases hk;refine⟨⟨Z,cs⟩,Po,Y5.symm,b1,λq hq=>b3 q (by rw[<-SJ];exact hq),λt z w g1 g2=>?_⟩;have mV:t<v.cells.toList.length:=by have:=(cT.1 g1).1;omega
   have g2:cs[o+j+t]? =J w:=g2;rw[b4 t mV]at g2;exact c2 t z w g1 g2
end
end Go.Pm
