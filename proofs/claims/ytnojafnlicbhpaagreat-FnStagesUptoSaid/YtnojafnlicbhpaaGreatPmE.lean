import Derived.Test.YtnojafnlicbhpaaGreatPmD
open Bool renaming false→aa,true→Z
open Option renaming none→ae,some→J
set_option linter.defProp false
namespace Go.Pm
open Go.Am
def yA:=@Option.some.inj
def cN:PV->List PV
 | .agg row=>row
 |x=>[x]
def jR:PV->Bool
 | .au| .bO _=>aa
 |_=>Z
section
variable {nt:Nat}{pin:List (Nat×Value)}{E0 E E':Env}{pf:ah}{fr ai:FR}
def iL(a:Nat×aA)(b:Nat×aA)(i j:Nat):PV->Nat×aA->Option (Nat×aA)
 | .agg row=>tU a 0 0 row.length b i j
 |_=>fa a (b.1,b.2++[(i,j)])
variable{i j:Nat}{x:PV}
def XP{a b:Nat×aA}{c:Nat×aA}(h:c.1≠a.1):iL a b i j x c=ae:=by
 cases x<;>first|exact kF h|exact WV h
def Cw{a b:Nat×aA}{v:Value}(h:PR E (J a) x v)(hx:jR x=Z)(hg:GK E E')
(hm:∀c d:Nat×aA,(∀r,iL a b i j x (c.1,c.2++r)=J (d.1,d.2++r))->dr E E' (J c) (J d)):
 (cN x).length=v.cells.toList.length/\(∀(t:Nat) (y:PV) (w:Value),(cN x)[t]? =J y->v.cells.toList[t]? =J w->PR E' (J (b.1,b.2++[(i,j+t)])) y w)/\ml v=Z:=by
 have one:∀(v:Value),PR E (J a) x v->v.cells.toList=[v]->cN x=[x]->(∀c,iL a b i j x c=fa a (b.1,b.2++[(i,j)]) c)->ml v=Z->
  (cN x).length=v.cells.toList.length/\(∀(t:Nat) (y:PV) (w:Value),(cN x)[t]? =J y->v.cells.toList[t]? =J w->PR E' (J (b.1,b.2++[(i,j+t)])) y w)/\ml v=Z:=by
  intro v hv e1 e2 e3 e4;rw[e1,e2];refine⟨rfl,λt y w h1 h2=>?_,e4⟩;cases t with
  |succ t=>simp at h1
  |zero=>
   simp at h1 h2;subst h1;subst h2;exact hv.move hg (hm a (b.1,b.2++[(i,j)]) λr=>by rw[e3];exact zgr a (b.1,b.2++[(i,j)]) r)
 cases x with
 |au=>cases hx
 |bO xs=>cases hx
 |agg row=>
  cases h with
  |agg hl hh=>
   rename_i ys;refine⟨hl,λt y w h1 h2=>?_,rfl⟩;have hlt:t<row.length:=(cT.1 h1).1;refine(hh t y w h1 h2).move hg (hm (cO a 0 t) (b.1,b.2++[(i,j+t)]) λr=>?_);have:=zym (a:=a) (b:=b) (i:=0) (j:=0) (n:=row.length) (i':=i) (j':=j) hlt r;simpa[iL,cO]using this
 |sl o es rows=>cases h<;>exact one _ (by first|exact .sl0 o es|exact .jI ‹_› ‹_› ‹_› ‹_› ‹_› ‹_› ‹_› ‹_› |exact .fk ‹_› ‹_› ‹_› ‹_› ‹_› ‹_› ‹_› ‹_› ‹_› ‹_›) rfl rfl (λ_=>rfl) rfl
 |bool _=>cases h;exact one _ (.bool _) rfl rfl (λ_=>rfl) rfl
 |int _ _=>cases h;exact one _ (.int _ _) rfl rfl (λ_=>rfl) rfl
 |str _=>cases h;exact one _ (.str _) rfl rfl (λ_=>rfl) rfl
 |fX=>cases h;exact one _ .fX rfl rfl (λ_=>rfl) rfl
 |fD=>cases h;exact one _ .fD rfl rfl (λ_=>rfl) rfl
 |gO=>cases h;exact one _ .gO rfl rfl (λ_=>rfl) rfl
 |fp row=>cases h;exact one _ (.fp ‹_› ‹_› ‹_› ‹_›) rfl rfl (λ_=>rfl) rfl
 |bx row=>cases h;exact one _ (.bx ‹_› ‹_› ‹_› ‹_› ‹_› ‹_›) rfl rfl (λ_=>rfl) rfl
 |func fn xs us=>cases h;exact one _ (.func _ ‹_› ‹_› ‹_› ‹_›) rfl rfl (λ_=>rfl) rfl
def Iq(E:Env)(fr:FR)(s:Nat)(p:aA)(i j:Nat)(fv:FV):Prop:=
 (∃cells,fr s=.loc cells/\p=[]/\i=0/\fv=.lp s j)\/∃v0 id o,Wk E fr s p v0/\Hd E (s,p) v0 i id o/\fv=.v (.pointer (J ⟨id,o+j,ae⟩))
def zCR(fr:FR)(H:AH)(fv:FV)(vs:List Value)(ai:FR)(H':AH):Prop:=
 (∃s off cells cs,fv=.lp s off/\fr s=.loc cells/\fW cells off vs=J cs/\ai=fr.put s (.loc cs)/\H'=H)\/
 ∃id off k cs,fv=.v (.pointer (J ⟨id,off,ae⟩))/\H.b id=J k/\k.rw=Z/\fW k.cells off vs=J cs/\ai=fr/\H'=H.set id (J ⟨Z,cs⟩)
def DT:∀{cs xs:List Value}{n:Nat},xs≠[]->n+xs.length<=cs.length->∃r,fW cs n xs=J r:=by
 intro cs;induction cs with
 |nil=>intro xs n h0 h;cases xs with|nil=>exact absurd rfl h0|cons x xs=>simp at h
 |cons c cs ih=>
  intro xs n h0 h;cases xs with
  |nil=>exact absurd rfl h0
  |cons x xs=>
   cases n with
   |succ n=>
    obtain⟨r,hr⟩:=ih (xs:=x::xs) (n:=n) (by simp) (by simp at h⊢;omega);exact⟨c::r,by simp[fW,hr]⟩
   |zero=>
    by_cases e:xs=[]
    ·subst e;exact⟨x::cs,by simp[fW]⟩
    ·obtain⟨r,hr⟩:=ih (xs:=xs) (n:=0) e (by simp at h⊢;omega);exact⟨x::r,by simp[fW,hr]⟩
def Dt{cs xs r:List Value}{n:Nat}(h0:xs≠[])(h:fW cs n xs=J r):r.length=cs.length/\n+xs.length<=cs.length/\(∀q,¬(n<=q/\q<n+xs.length)->r[q]? =cs[q]?)/\∀t,t<xs.length->r[n+t]? =xs[t]? :=by
 rcases Ht h with⟨e,_⟩|⟨cV,rfl⟩
 ·exact absurd e h0
 ·have hn:(cs.take n).length=n:=by rw[nu];omega
  refine⟨by simp;omega,cV,λq hq=>?_,λt ht=>?_⟩
  ·rcases dK q n with h1|h1
   ·rw[gU,fw (by omega),l6,aB h1]
   ·have h2:n+xs.length<=q:=by omega
    rw[fT (by simp;omega),jd];congr 1;simp;omega
  ·rw[gU,fT (by omega),hn,show n+t-n=t by omega,fw ht]
def aq.storeAt(r:aq nt pin E0 E pf fr){s:Nat}{p:aA}{v:Value}{pf':ah}{fv:FV}(hs:s<nt)(hfl:PR E (J (nt,[(0,0)])) x v)(hx:jR x=Z)(hne:cN x≠[])
(aD:Iq E fr s p i j fv)(hp:mz pf s p i j (cN x)=J pf'):
 ∃ai H' E',zCR fr E.H fv v.cells.toList ai H'/\E'.H=H'/\aq nt pin E0 E' pf' ai:=by
 simp only[mz,bR,bN]at hp;obtain⟨x0,dA,x1,nE,y,hy,rfl⟩:=hp;have fm:∀c:Nat×aA,c.1<nt->iL (nt,[(0,0)]) (s,p) i j x c=ae:=λc hc=>XP (by show c.1≠nt;omega)
 have Qj:∀id c,E.ow id=J c->c.1<nt->(E.rl (iL (nt,[(0,0)]) (s,p) i j x)).ow id=J c:=λid c h1 h2=>by simp[Env.rl,h1,fm c h2]
 rcases aD with⟨cells,h1,rfl,rfl,rfl⟩|⟨v0,dR,o,hw,hd,rfl⟩
 ·
  have hE':∀c d:Nat×aA,(∀r,iL (nt,[(0,0)]) (s,[]) 0 j x (c.1,c.2++r)=J (d.1,d.2++r))->dr E (E.rl (iL (nt,[(0,0)]) (s,[]) 0 j x)) (J c) (J d):=λc d h=>lq h
  obtain⟨c1,c2,c3⟩:=Cw (b:=(s,[])) (i:=0) (j:=j) hfl hx dO hE';have j4:v.cells.toList≠[]:=λe=>hne (mK (by rw[c1,e];rfl))
  have Bx:∃row,pf s=.bl row:=by
   have hf:=r.f s;cases fI:pf s with
   |bl row=>exact⟨row,rfl⟩
   |v z=>
    rw[fI]at hf dA;simp only[fB,aT]at dA;subst dA;obtain⟨w,e,_⟩:=ga hf (So nE);rw[h1]at e;cases e
   |_=>rw[fI]at dA;simp[fB]at dA
  obtain⟨row,d7⟩:=Bx;have hf:=r.f s;rw[d7]at hf dA hy;simp only[fB,aT]at dA;subst dA;simp only[jz,iD,eP,bN]at nE;obtain⟨tr,dj,rfl⟩:=nE;simp only[rI,aT]at hy;subst hy;obtain⟨UQ,l1,l2,l3⟩:=id hf;rw[h1]at l1;cases l1;obtain⟨a1,a2,a3⟩:=yZ dj;obtain⟨cs,dQ⟩:=DT (cs:=cells) (n:=j) j4 (by rw[<-c1,<-l2];exact a2 hne);obtain⟨b1,b2,b3,b4⟩:=Dt j4 dQ;refine⟨fr.put s (.loc cs),E.H,E.rl (iL (nt,[(0,0)]) (s,[]) 0 j x),.inl ⟨s,j,cells,cs,rfl,h1,dQ,rfl,rfl⟩,rfl,?_⟩
  refine r.qV hs dO (λt ht _=>iR λq=>fm _ ht) (λL hL=>⟨λid q g1 g2 g3=>⟨Qj id _ g1 hs,g2⟩,λid q g1 g2 g3=>rfl⟩) (λt ht=>by simp[FR.put,ht]) (λ_=>.inr ⟨cells,cs,h1,by simp[FR.put]⟩) nD r.wf
   (λid bY=>?_) (λ_ _ _ _=>.inr (by simp)) ?_ rfl λk w hk=>?_
  ·obtain⟨g1,g2⟩:=r.fresh id bY;exact⟨by simp[Env.rl,g1],g2⟩
  ·refine U5 hf dj h1 (by simp[FR.put]) b1 (λq hq=>b3 q (by rw[<-c1];exact hq)) dO (λid q g1 g2 _=>⟨Qj id _ g1 hs,g2,rfl⟩) λt z w g1 g2=>?_
   have mQ:t<v.cells.toList.length:=by have:=(cT.1 g1).1;omega
   rw[b4 t mQ]at g2;have:=c2 t z w g1 g2;simpa using this
  ·have hk':=r.pin k w hk;have:k≠s:=λe=>by rw[e,h1]at hk';cases hk'
   simpa[FR.put,this]using hk'
 ·
  obtain⟨how,hG⟩:=hd.ow
  have yo:∃k,E.H.b dR=J k/\k.rw=Z/\o+j+(cN x).length<=k.cells.length:=by
   have key:∀(p:aA) (l:Nat×aA) (a a':PV) (w w0:Value),PR E (J l) a w->jz a p (iD i j (cN x))=J a'->Wv E l w p w0->Hd E (l.1,l.2++p) w0 i dR o->∃k,E.H.b dR=J k/\k.rw=Z/\o+j+(cN x).length<=k.cells.length:=by
    intro p;induction p with
    |nil=>
     intro l a a' w w0 h1 h2 h3 h4;have h3:w0=w:=h3;subst h3;simp only[jz]at h2;cases h1 with
     | @fk _ _ off es n c k rows how hG hb bc hn hc hm hr hl hh=>
      simp only[iD,bR,bN]at h2;obtain⟨r0,g1,r1,g2,_⟩:=h2;cases h4 with
      |sl _ _ hi=>
      obtain⟨_,a2,_⟩:=yZ g2;have:=a2 hne;have dE:=hr r0 (eo g1);refine⟨_,hb,bc,?_⟩;have h5:(i+1)*es<=c*es:=gA _ (by omega);rw[jZ]at h5;omega
     |bx how hG hb bc hl hh=>
      simp only[iD]at h2;split at h2
      ·simp only[bN]at h2;obtain⟨r1,g2,_⟩:=h2;cases h4 with
       |bx _ _=>
       obtain⟨_,a2,_⟩:=yZ g2;have:=a2 hne;exact⟨_,hb,bc,by omega⟩
      ·cases h2
     |sl0 ob es=>cases h4
     |_=>simp[iD]at h2
    |cons c p ih=>
     obtain⟨i1,j1⟩:=c;intro l a a' w w0 h1 h2 h3 h4;simp only[jz,bR,bN]at h2;obtain⟨z0,g1,z1,g2,_⟩:=h2;obtain⟨v1,w1,wF⟩:=h1.get (p:=[(i1,j1)]) (x0:=z0) (by simp[iM,g1]);obtain⟨id,o1,k,y,q1,q2,q3,q4,q5⟩:=h3;obtain⟨Ba,o1',k',y',q1',q2',q3',q4',TD⟩:=w1;obtain⟨rfl,rfl⟩:=q1.same q1';rw[q3]at q3';cases q3';rw[q4]at q4';cases q4';have TD:v1=y:=TD;subst TD;exact ih (cO l i1 j1) z0 z1 v1 w0 wF g2 q5 (by rw[xE];exact h4)
   have hf:=r.f s;cases fI:pf s with
   |v z=>
    rw[fI]at hf dA;simp only[fB,aT]at dA;subst dA;obtain⟨w,e,eV⟩:=ga hf (So nE);rcases hw with⟨q,w1,w2⟩|⟨cells,j',p',y',w1,_⟩
    ·rw[e]at w1;cases w1;obtain⟨k,k1,k2,k3⟩:=key p (s,[]) z x1 w v0 eV nE w2 (by simpa using hd);exact⟨k,k1,k2,k3⟩
    ·rw[e]at w1;cases w1
   |bl row=>
    rw[fI]at hf dA;simp only[fB,aT]at dA;subst dA;obtain⟨UQ,l1,l2,l3⟩:=hf;rcases hw with⟨q,w1,w2⟩|⟨cells,j',p',y',w1,w2,w3,w4⟩
    ·rw[l1]at w1;cases w1
    ·rw[l1]at w1;cases w1;subst w2;simp only[jz,iq,eP,bR,bN]at nE;obtain⟨z0,g1,z1,g2,_⟩:=nE;obtain⟨k,k1,k2,k3⟩:=key p' (s,[(0,j')]) z0 z1 y' v0 (l3 j' z0 y' g1 w3) g2 w4 (by simpa using hd);exact⟨k,k1,k2,k3⟩
   |_=>rw[fI]at dA;simp[fB]at dA
  obtain⟨k0,oI,W8,nA⟩:=yo;have RM:(cN x).length=v.cells.toList.length:=(Cw (E':=E.rl (iL (nt,[(0,0)]) (s,p) i j x)) (b:=(s,p)) (i:=i) (j:=j) hfl hx dO λc d h=>lq h).1;have j4:v.cells.toList≠[]:=λe=>hne (mK (by rw[RM,e];rfl))
  obtain⟨cs,dQ⟩:=DT (cs:=k0.cells) (n:=o+j) j4 (by rw[<-RM];exact nA);obtain⟨b1,b2,b3,b4⟩:=Dt j4 dQ
  let E1:Env:={E.rl (iL (nt,[(0,0)]) (s,p) i j x)with H:=E.H.set dR (J ⟨Z,cs⟩)}
  have jk:∀id,id≠dR->E1.H.b id=E.H.b id:=λid bY=>by simp[E1,AH.set,bY]
  have Qe:E1.H.b dR=J ⟨Z,cs⟩:=by simp[E1,AH.set]
  have qI:GK E E1:=λid V8=>⟨V8,λk hk=>by
   have:id≠dR:=λe=>hG (by rw[<-e];exact V8)
   exact⟨k,(jk id this).trans hk,rfl⟩⟩
  have OO:∀id c,E.ow id=J c->c.1<nt->E1.ow id=J c:=Qj
  have qt:∀t,t<nt->t≠s->dr E E1 (J (t,[])) (J (t,[])):=λt ht te id q g1 g2=>by
   refine⟨OO id _ g1 ht,g2,jk id λe=>?_⟩;subst e;rw[how]at g1;simp only[aT,b9]at g1;exact te g1.1.symm
  have hmf:∀c d:Nat×aA,(∀r,iL (nt,[(0,0)]) (s,p) i j x (c.1,c.2++r)=J (d.1,d.2++r))->dr E E1 (J c) (J d):=λc d h id q g1 g2=>by
   refine⟨by simp[E1,Env.rl,g1,h],g2,jk id λe=>?_⟩;subst e;have hc:=h q;rw[how]at g1;have e3:(c.1,c.2++q)=(s,p):=(yA g1).symm;rw[e3,fm (s,p) hs]at hc;cases hc
  obtain⟨_,c2,_⟩:=Cw (E':=E1) (b:=(s,p)) (i:=i) (j:=j) hfl hx qI hmf;refine⟨fr,E.H.set dR (J ⟨Z,cs⟩),E1,.inr ⟨dR,o+j,k0,cs,rfl,oI,W8,dQ,rfl,rfl⟩,rfl,?_⟩;refine r.qV hs qI qt (λL hL=>⟨λid q g1 g2 g3=>⟨OO id _ g1 hs,g2⟩,λid q g1 g2 g3=>jk id λe=>?_⟩) (λ_ _=>rfl) (λ_=>.inl rfl) ⟨cy _,qI,λid _ hn=>⟨by simp[E1,Env.rl,hn],jk id (λe=>by rw[e,how]at hn;cases hn),λh=>h⟩⟩ (λid k hk=>?_) (λid bY=>?_) (λ_ _ h1 h2=>.inl (by rw[h1]at h2;cases h2;rfl)) ?_ (Zp hy) r.pin
  ·subst e;rw[how]at g1;simp only[aT,b9,o5]at g1;rw[<-g1]at g3;omega
  ·by_cases e:id=dR
   ·subst e;exact r.wf id k0 oI
   ·rw[jk id e]at hk;exact r.wf id k hk
  ·obtain⟨g1,g2⟩:=r.fresh id bY;exact⟨by simp[E1,Env.rl,g1],g2⟩
  ·refine YM (r.f s) dA nE hy ⟨qI,λid q g1 g2 g3=>⟨OO id _ g1 hs,g2,jk id⟩,λk hk=>?_⟩ hw hd rfl;rw[oI]at hk;cases hk;refine⟨⟨Z,cs⟩,Qe,W8.symm,b1,λq hq=>b3 q (by rw[<-RM];exact hq),λt z w g1 g2=>?_⟩;have mQ:t<v.cells.toList.length:=by have:=(cT.1 g1).1;omega
   have g2:cs[o+j+t]? =J w:=g2;rw[b4 t mQ]at g2;exact c2 t z w g1 g2
end
end Go.Pm
