import Derived.Test.YtnojafnlicbhpaaGreatPmC
namespace Go.Pm
set_option linter.defProp false
open Go.Am
open Option renaming none→ae,some→J
def yz:=@Nat.lt_irrefl
def A0:=@Nat.not_lt_zero
def Uk:=@List.length_eq_zero_iff
def oQ:aA->Option (aA×Nat×Nat)
 |[]=>ae
 |[a]=>J ([],a.1,a.2)
 |a::b::r=>(oQ (b::r)).map λx=>(a::x.1,x.2)
def zuj{p:aA}(h:oQ p=ae):p=[]:=by
 induction p with
 |nil=>rfl
 |cons a p ih=>
  cases p with
  |nil=>simp[oQ]at h
  |cons b r=>simp only[oQ,Option.map_eq_none_iff]at h;have:=ih h;cases this
def zuw{p:aA}{x:aA×Nat×Nat}(h:oQ p=J x):p=x.1++[x.2]:=by
 induction p generalizing x with
 |nil=>simp[oQ]at h
 |cons a p ih=>
  cases p with
  |nil=>simp only[oQ,aT]at h;subst h;rfl
  |cons b r=>
   simp only[oQ,bN]at h;obtain⟨y,h1,rfl⟩:=h;have:=ih h1;simp[this]
section
variable {nt:Nat}{pin:List (Nat×Value)}{E0 E E':Env}{pf:ah}{fr ai:FR}
def eb(nt:Nat)(E:Env)(fl:List (PV×Value)):Prop:=∀k x v,fl[k]? =J (x,v)->PR E (J (nt,[(0,k)])) x v
structure aq (nt:Nat) (pin:List (Nat×Value)) (E0 E:Env) (pf:ah) (fr:FR):Prop where
 since:fY E0 E
 wf:mj E.H
 fresh:∀id,E.H.n<=id->E.ow id=ae/\¬E.G id
 f:∀t,o0 E (pf t) fr t
 hi:∀t,nt<=t->pf t=jP
 rt:∀t s,bC (pf t)=J s->s<nt
 pin:∀k v,(k,v)∈pin->fr k=.v v
variable{a:Nat×aA}{fl:List (PV×Value)}{i j s:Nat}{p:aA}{pf':ah}{v:Value}{x:PV}{xs:List PV}{y:PF}
def gi{t:Nat}(h:o0 E (.v x) fr t)(hx:x≠.au):∃v,fr t=.v v/\PR E (J (t,[])) x v:=by
 cases x with
 |au=>exact absurd rfl hx
 |_=>exact h
def ou{t:Nat}(h:fr t=.v v)(h':PR E (J (t,[])) x v):o0 E (.v x) fr t:=by
 cases x with
 |au=>exact True.intro
 |_=>exact⟨v,h,h'⟩
def aq.at(r:aq nt pin E0 E pf fr)(h:cb pf s p=J x)(hx:x≠.au)(hp:p≠[]\/∃y,pf s=.v y):∃v,Wk E fr s p v/\PR E (J (s,p)) x v:=by
 have hf:=r.f s;simp only[cb,bR]at h;obtain⟨y,h1,h2⟩:=h;cases hs:pf s with
 |v z=>
  rw[hs]at h1 hf;simp only[fD,aT]at h1;subst h1
  have hz:z≠.au:=by
   rintro rfl;cases p with
   |nil=>simp only[iF,aT]at h2;exact hx h2.symm
   |cons a p=>simp[iF,ij]at h2
  obtain⟨v,h3,h4⟩:=gi hf hz;obtain⟨v0,w1,w2⟩:=h4.get h2;exact⟨v0,.inl ⟨v,h3,w1⟩,by simpa using w2⟩
 |bl row=>
  rw[hs]at h1 hf;simp only[fD,aT]at h1;subst h1;obtain⟨cells,c1,c2,c3⟩:=hf;cases p with
  |nil=>rcases hp with h|⟨y,h⟩<;>simp_all
  |cons a p=>
   obtain⟨i,j⟩:=a;simp only[iF,ij,bR]at h2;obtain⟨y,a1,a2⟩:=h2;split at a1
   ·rename_i e;have e:i=0:=e;subst e;have hj:j<cells.length:=by have hlt:j<row.length:=(cT.1 a1).1;omega
    obtain⟨v0,w1,w2⟩:=(c3 j y _ a1 (cE hj)).get a2;exact⟨v0,.inr ⟨cells,j,p,_,c1,rfl,cE hj,w1⟩,by simpa using w2⟩
   ·cases a1
 |_=>rw[hs]at h1;simp[fD]at h1
def TE{x':PV}(h:ji x p (iM i j xs)=J x'):x≠.au:=by
 rintro rfl;cases p with
 |nil=>simp[ji,iM]at h
 |cons a p=>simp[ji,ij]at h
def Zi{y':PF}{x':PV}{p0:aA}{dP o:Nat}{v0:Value}(h:o0 E y fr s)(hr:fD y=J x)(hm:ji x p0 (iM i j xs)=J x')(hy:rU y x'=J y')
(hc:Kp E E' (s,[]) p0 i j xs dP o)(hw:Wk E fr s p0 v0)(hd:Hd E (s,p0) v0 i dP o)(hf:ai s=fr s):o0 E' y' ai s:=by
 cases y with
 |v z=>
  simp only[fD,aT]at hr;subst hr;simp only[rU,aT]at hy;subst hy;obtain⟨v,h1,h2⟩:=gi h (TE hm);rcases hw with⟨r,w1,w2⟩|⟨cells,j',p',y',w1,_⟩
  ·rw[h1]at w1;cases w1;exact ou (hf.trans h1) (h2.bU hm w2 (by simpa using hd) hc)
  ·rw[h1]at w1;cases w1
 |bl row=>
  simp only[fD,aT]at hr;subst hr;obtain⟨cells,c1,c2,c3⟩:=h;rcases hw with⟨r,w1,w2⟩|⟨dx,j0,p1,z,w1,w2,w3,w4⟩
  ·rw[c1]at w1;cases w1
  ·rw[c1]at w1;cases w1;subst w2;simp only[ji,ij,eP,bR,bN]at hm;obtain⟨z0,a1,z1,a2,rfl⟩:=hm;simp only[CK,rU,aT]at hy;subst hy;refine⟨cells,hf.trans c1,by simpa using c2,λj' x y g1 g2=>?_⟩;rw[C6]at g1;by_cases e:j0=j'
   ·subst e;rw[aB rfl]at g1;split at g1
    ·cases g1;rw[w3]at g2;cases g2;exact(c3 j0 z0 z a1 w3).bU (l:=(s,[(0,j0)])) a2 w4 hd hc.ch
    ·cases g1
   ·rw[az e]at g1;refine(c3 j' x y g1 g2).move hc.g λid r h1 h2=>?_
    have:=hc.d5 id ((0,j')::r) (by simpa using h1) h2 (W0 (by simp;omega));refine⟨by simpa using this.1,this.2.1,this.2.2 λe2=>?_⟩;subst e2;have:=hd.ow.1;rw[this]at h1;simp at h1;omega
 |_=>simp[fD]at hr
def XA{row tQ:List PV}{cells dx:List Value}(h:o0 E (.bl row) fr s)(hm:jS row j xs=J tQ)(hc:fr s=.loc cells)(hf:ai s=.loc dx)
(hl:dx.length=cells.length)(ho:∀q,¬(j<=q/\q<j+xs.length)->dx[q]? =cells[q]?)(hg:GK E E')
(hk:∀id r,E.ow id=J (s,r)->¬E.G id->tT [] 0 j xs.length r->E'.ow id=J (s,r)/\¬E'.G id/\E'.H.b id=E.H.b id)
(hx:∀t x y,xs[t]? =J x->dx[j+t]? =J y->PR E' (J (s,[(0,j+t)])) x y):o0 E' (.bl tQ) ai s:=by
 obtain⟨Yo,c1,c2,c3⟩:=h;rw[hc]at c1;cases c1;obtain⟨a1,a2,a3⟩:=yV hm;refine⟨dx,hf,by omega,λq x y g1 g2=>?_⟩;rw[a3 q]at g1;split at g1
 ·rename_i gJ;have:=hx (q-j) x y g1 (by rw[show j+(q-j)=q by omega];exact g2)
  rwa [show j+(q-j)=q by omega]at this
 ·rename_i gJ;rw[ho q gJ]at g2;refine(c3 q x y g1 g2).move hg λid r h1 h2=>?_
  have h1:E.ow id=J (s,(0,q)::r):=by simpa using h1
  have:=hk id _ h1 h2 (by
   intro j' r' e hh;simp only[mL,Uj,b9,o5]at e;obtain⟨rfl,_⟩:=e
   exact gJ hh)
  exact⟨by simpa using this.1,this.2⟩
def aq.set(r:aq nt pin E0 E pf fr){d:Nat}{fv:FV}(hd:d<nt)(hp:∀v,(d,v)∉pin)(hg:GK E E')(hm:∀s,s<nt->s≠d->dt E E' (J (s,[])) (J (s,[])))
(iW:fY E E')(hw:mj E'.H)(nb:∀id,E'.H.n<=id->E'.ow id=ae/\¬E'.G id)(hy:o0 E' y (fr.put d fv) d)(hr:∀s,bC y=J s->s<nt):aq nt pin E0 E' (pf.put d y) (fr.put d fv):=by
 refine⟨r.since.trans iW,hw,nb,λt=>?_,λt ht=>?_,λt s h=>?_,λk v h=>?_⟩
 ·by_cases e:t=d
  ·subst e;simpa[ah.put]using hy
  ·simp only[ah.put,az e];have hf:=r.f t;by_cases ht:t<nt
   ·unfold fA;split
    ·exact True.intro
    ·rename_i hk;refine hf.stay hg (hm t ht e) (by simp[FR.put,e]) λs hs=>?_
     have gf:s≠d:=λe=>hk (by rw[hs,e])
     exact⟨by simp[FR.put,gf],KL.Kn (hm s (r.rt t s hs) gf)⟩
   ·have:=r.hi t (by omega);rw[this];have:fA d jP=jP:=by simp[fA,jP,bC]
    rw[this];exact True.intro
 ·have:t≠d:=by omega
  simp only[ah.put,az this,r.hi t ht];simp[fA,jP,bC]
 ·by_cases e:t=d
  ·subst e;simp only[ah.put,eP]at h;exact hr s h
  ·simp only[ah.put,az e]at h;unfold fA at h;split at h
   ·simp[jP,bC]at h
   ·exact r.rt t s h
 ·have hk:k≠d:=λe=>hp v (by rw[<-e];exact h)
  simpa[FR.put,hk]using r.pin k v h
def iy(pf:ah)(s:Nat)(p:aA)(y:PV):Option ah:=
 match oQ p with
 |none=>J ((pf.bU s (.v y)).kill s 0)
 |some x=>ml pf s x.1 x.2.1 x.2.2 [y]
def aq.qt(r:aq nt pin E0 E pf fr){n:Nat}(hs:s<nt)(hg:GK E E')(hm:∀t,t<nt->t≠s->dt E E' (J (t,[])) (J (t,[])))
(hk:∀L,L<n->KL E E' s L)(hf:∀t,t≠s->ai t=fr t)(jj:0<n->ai s=fr s\/∃cells dx,fr s=.loc cells/\ai s=.loc dx)(iW:fY E E')(hw:mj E'.H)(nb:∀id,E'.H.n<=id->E'.ow id=ae/\¬E'.G id)
(Cb:∀cells dx,fr s=.loc cells->ai s=.loc dx->cells=dx\/n<=1)
(hy:o0 E' y ai s)(hr:bC y=ae)(jN:∀k v,(k,v)∈pin->ai k=.v v):aq nt pin E0 E' ((pf.bU s y).kill s n) ai:=by
 have OX:∀t,t≠s->((pf.bU s y).kill s n) t=cZ s n (pf t):=λt ht=>by simp[ah.kill,ah.bU,ht]
 refine⟨r.since.trans iW,hw,nb,λt=>?_,λt ht=>?_,λt s' h=>?_,jN⟩
 ·by_cases e:t=s
  ·subst e;have:((pf.bU t y).kill t n) t=y:=by simp[ah.kill,ah.bU,cZ,hr]
   rw[this];exact hy
  ·rw[OX t e];have MD:=r.f t;by_cases ht:t<nt
   ·unfold cZ;split
    ·exact True.intro
    ·rename_i hc;by_cases ie:bC (pf t)=J s
     ·have hlt:lJ (pf t)<n:=Aav λcU=>hc ⟨ie,cU⟩
      rcases jj (by omega)with LJ|⟨cells,dx,l1,l2⟩
      ·exact MD.stay hg (hm t ht e) (hf t e) λs' mB=>by
        rw[ie]at mB;cases mB;exact⟨LJ,hk _ hlt⟩
      ·rcases Cb cells dx l1 l2 with e2|e2
       ·exact MD.stay hg (hm t ht e) (hf t e) λs' mB=>by
         rw[ie]at mB;cases mB;exact⟨by rw[l1,l2,e2],hk _ hlt⟩
       ·
        have h0:lJ (pf t)=0:=by omega
        revert MD;cases aE:pf t with
        |pt s' p i j=>
         rw[aE]at ie h0;simp only[bC,aT]at ie;subst ie;simp only[lJ,Uk]at h0;subst h0;rintro(⟨c0,a1,a2,a3,a4⟩|⟨v0,id,o,a1,a2,a3⟩)
         ·exact .inl ⟨dx,l2,rfl,a3,(hf t e).trans a4⟩
         ·rcases a1 with⟨r,b1,b2⟩|⟨c0,j',p',y',b1,b2,_⟩
          ·rw[l1]at b1;cases b1
          ·cases b2
        |rf s' p=>
         rw[aE]at ie h0;simp only[bC,aT]at ie;subst ie;simp only[lJ,Uk]at h0;subst h0;rintro⟨v,a1,a2⟩;rcases a2 with⟨r,b1,b2⟩|⟨c0,j',p',y',b1,b2,_⟩
         ·rw[l1]at b1;cases b1
         ·cases b2
        |rv s' p lo hi=>
         rw[aE]at ie h0;simp only[bC,aT]at ie;subst ie;simp only[lJ,Uk]at h0;subst h0;rintro(⟨a1,a2⟩|⟨id,off,es,n,c,a1,a2⟩)
         ·rcases a1 with⟨r,b1,b2⟩|⟨c0,j',p',y',b1,b2,_⟩
          ·rw[l1]at b1;cases b1
          ·cases b2
         ·rcases a1 with⟨r,b1,b2⟩|⟨c0,j',p',y',b1,b2,_⟩
          ·rw[l1]at b1;cases b1
          ·cases b2
        |ra s' p i j n=>rw[aE]at h0;simp[lJ]at h0
        |as b s' p i j n=>rw[aE]at h0;simp[lJ]at h0
        |cl s' g us=>
         rw[aE]at ie;simp only[bC,aT]at ie;subst ie;rintro⟨v,vs,a1,a2,a3⟩;rcases a2 with⟨r,b1,b2⟩|⟨c0,j',p',y',b1,b2,_⟩
         ·rw[l1]at b1;cases b1
         ·cases b2
        |_=>rw[aE]at ie;simp[bC]at ie
     ·exact MD.stay hg (hm t ht e) (hf t e) λs' mB=>by
       have hne:s'≠s:=λe=>ie (by rw[mB,e])
       exact⟨hf s' hne,KL.Kn (hm s' (r.rt t s' mB) hne)⟩
   ·have:=r.hi t (by omega);rw[this];simp only[cZ,jP,bC];exact True.intro
 ·have:t≠s:=by omega
  rw[OX t this,r.hi t ht];simp[cZ,jP,bC]
 ·by_cases e:t=s
  ·subst e;have:((pf.bU t y).kill t n) t=y:=by simp[ah.kill,ah.bU,cZ,hr]
   rw[this,hr]at h;cases h
  ·rw[OX t e]at h;exact r.rt t s' (zxs h).1
def Wg{y':PF}(h:rU y x=J y'):bC y'=ae:=by
 unfold rU at h;split at h
 ·cases h;rfl
 ·cases h;rfl
 ·cases h
def zyK:∀(p0:aA) (a:PV) (i j:Nat),iF a (p0++[(i,j)])=(iF a p0).bind λz=>ij z (i,j):=by
 intro p0;induction p0 with
 |nil=>intro a i j;simp[iF]
 |cons b p0 ih=>intro a i j;simp only[tZ,iF];cases ij a b with
  |none=>rfl
  |some z=>simp[ih]
def zyH :cb pf s (p++[(i,j)])=(cb pf s p).bind λz=>ij z (i,j):=by
 simp only[cb];cases fD (pf s)with
 |none=>rfl
 |some x=>simp[zyK]
def Wv.snoc :∀{p0:aA}{l:Nat×aA}{a b c:Value},Wv E l a p0 b->Wv E (l.1,l.2++p0) b [(i,j)] c->Wv E l a (p0++[(i,j)]) c:=by
 intro p0;induction p0 with
 |nil=>intro l a b c h1 h2;have h1:b=a:=h1;subst h1;rw[EZ]at h2;exact h2
 |cons s p0 ih=>
  obtain⟨i1,j1⟩:=s;intro l a b c h1 h2;obtain⟨id,o,k,y,a1,a2,a3,a4,a5⟩:=h1;exact⟨id,o,k,y,a1,a2,a3,a4,ih a5 (by rw[xv];exact h2)⟩
def Wk.snoc{b c:Value}(h:Wk E fr s p b)(h2:Wv E (s,p) b [(i,j)] c):Wk E fr s (p++[(i,j)]) c:=by
 rcases h with⟨q,b1,b2⟩|⟨cells,j',p',y,b1,b2,b3,b4⟩
 ·exact .inl ⟨q,b1,b2.snoc (by simpa using h2)⟩
 ·subst b2;exact .inr ⟨cells,j',p'++[(i,j)],y,b1,rfl,b3,b4.snoc (by simpa using h2)⟩
def zA6{zs:List PV}:∀{p0:aA}{x0 x1:PV},ji x0 p0 (iM i j zs)=J x1->∃x2 z,iF x0 p0=J x2/\iM i j zs x2=J z:=by
 intro p0;induction p0 with
 |nil=>intro x0 x1 h;exact⟨x0,x1,rfl,h⟩
 |cons a p0 ih=>
  intro x0 x1 h;simp only[ji,bR,bN]at h;obtain⟨z0,h1,z1,h2,rfl⟩:=h;obtain⟨x2,z,g1,g2⟩:=ih h2;exact⟨x2,z,by simp[iF,h1,g1],g2⟩
def aq.Td(r:aq nt pin E0 E pf fr){zs:List PV}(hs:s<nt)(hne:zs≠[])(hj:ml pf s p i j zs=J pf')(hH:E'.H=E.H)(iW:fY E E')(hg:GK E E')
(hm:∀t,t<nt->t≠s->dt E E' (J (t,[])) (J (t,[])))(nb:∀id,E.H.n<=id->E'.ow id=ae/\¬E'.G id)
(Oi:∀id q,E.ow id=J (s,q)->¬E.G id->tT p i j zs.length q->E'.ow id=J (s,q)/\¬E'.G id)
(hz:∀t z y,zs[t]? =J z->Wk E fr s (p++[(i,j+t)]) y->PR E' (J (s,p++[(i,j+t)])) z y):aq nt pin E0 E' pf' fr:=by
 have Qa:∀id,E'.H.n<=id->E'.ow id=ae/\¬E'.G id:=by rw[hH];exact nb
 have B8:mj E'.H:=by rw[hH];exact r.wf
 simp only[ml,bR,bN]at hj;obtain⟨x0,dy,x1,nD,y,hy,rfl⟩:=hj;have AaM:∀id q,E.ow id=J (s,q)->¬E.G id->q.length<=p.length->E'.ow id=J (s,q)/\¬E'.G id:=λid q h1 h2 h3=>Oi id q h1 h2 (zxx h3)
 refine r.qt hs hg hm (λL hL=>⟨λid q h1 h2 hq=>AaM id q h1 h2 (by omega),λid q h1 h2 hq=>by rw[hH]⟩) (λ_ _=>rfl) (λ_=>.inl rfl) iW B8 Qa (λ_ _ h1 h2=>.inl (by rw[h1]at h2;cases h2;rfl)) ?_ (Wg hy) r.pin;by_cases hl:∃row,pf s=.bl row/\p=[]
 ·obtain⟨row,d8,rfl⟩:=hl;rw[d8]at dy hy;simp only[fD,aT]at dy;subst dy;simp only[ji,iM]at nD;split at nD
  ·rename_i aO;subst aO;simp only[bN]at nD;obtain⟨tQ,dq,rfl⟩:=nD;simp only[rU,aT]at hy;subst hy;have hf:=r.f s;rw[d8]at hf;obtain⟨cells,c1,_⟩:=id hf;refine XA hf dq c1 c1 rfl (λ_ _=>rfl) hg (λid q h1 h2 h3=>⟨(Oi id q h1 h2 h3).1,(Oi id q h1 h2 h3).2,by rw[hH]⟩) λt x y h1 h2=>?_
   exact hz t x y h1 (.inr ⟨cells,j+t,[],y,c1,rfl,h2,rfl⟩)
  ·cases nD
 ·obtain⟨x2,z2,Ct,zu⟩:=zA6 nD;have Abc:x2≠.au:=by rintro rfl;simp[iM]at zu
  have hx2:cb pf s p=J x2:=by simp[cb,dy,Ct]
  have Abi:p≠[]\/∃y,pf s=.v y:=by
   by_cases h0:p=[]
   ·right;cases fy:pf s with
    |v y=>exact⟨y,rfl⟩
    |bl row=>exact absurd ⟨row,fy,h0⟩ hl
    |_=>rw[fy]at dy;simp[fD]at dy
   ·exact .inl h0
  obtain⟨v2,w2,pr2⟩:=r.at hx2 Abc Abi
  have hhd:∃id o k,Hd E (s,p) v2 i id o/\E.H.b id=J k/\∀t,t<zs.length->∀y,k.cells[o+j+t]? =J y->Wv E (s,p) v2 [(i,j+t)] y:=by
   cases pr2 with
   | @fu _ id off es n c k rows how hG hb bc hn hc hm hr hl hh=>
    simp only[iM,bR,bN]at zu;obtain⟨r0,a1,r1,a2,_⟩:=zu;have hi:i<n:=by have:=(cT.1 a1).1;omega
    have hlen:=(yV a2).2.1 hne;have dB:=hr r0 (eo a1);refine⟨id,_,k,.sl (j:=j) how hG hi,hb,λt ht y hy=>⟨id,off+i*es,k,y,.sl (j:=j) how hG hi,?_,hb,by rw[<-iN];exact hy,rfl⟩⟩;rintro bw ⟨_,_,_,e⟩;cases e;omega
   | @bx _ id k row how hG hb bc hl hh=>
    simp only[iM]at zu;split at zu
    ·rename_i e;subst e;refine⟨id,0,k,.bx how hG,hb,λt ht y hy=>⟨id,0,k,y,.bx how hG,?_,hb,by rw[<-iN];exact hy,rfl⟩⟩;rintro bw ⟨_,_,_,e⟩;cases e
    ·cases zu
   |sl0 ob es=>cases ob<;>simp[iM]at zu
   |_=>simp[iM]at zu
  obtain⟨dP,o,k0,hd,xJ,zd⟩:=hhd;refine Zi (r.f s) dy nD hy ⟨hg,λid q h1 h2 h3=>?_,λk hk=>?_⟩ w2 hd rfl
  ·have h1:E.ow id=J (s,q):=by simpa using h1
   have:=Oi id q h1 h2 h3;exact⟨by simpa using this.1,this.2,λ_=>by rw[hH]⟩
  ·refine⟨k,by rw[hH];exact hk,rfl,rfl,λ_ _=>rfl,λt x y h1 h2=>?_⟩;rw[xJ]at hk;cases hk;have ht:t<zs.length:=(cT.1 h1).1;simpa using hz t x y h1 (w2.snoc (zd t ht y h2))
def aq.setAt(r:aq nt pin E0 E pf fr){z:PV}(hs:s<nt)(hw:Wk E fr s p v)
(hj:iy pf s p z=J pf')(hH:E'.H=E.H)(iW:fY E E')(hg:GK E E')(hm:∀t,t<nt->t≠s->dt E E' (J (t,[])) (J (t,[])))(nb:∀id,E.H.n<=id->E'.ow id=ae/\¬E'.G id)
(Du:∀id q,E.ow id=J (s,q)->¬E.G id->¬p<+:q->E'.ow id=J (s,q)/\¬E'.G id)(hz:PR E' (J (s,p)) z v):aq nt pin E0 E' pf' fr:=by
 unfold iy at hj;split at hj
 ·rename_i C1;have:=zuj C1;subst this;cases hj;have Qa:∀id,E'.H.n<=id->E'.ow id=ae/\¬E'.G id:=by rw[hH];exact nb
  have B8:mj E'.H:=by rw[hH];exact r.wf
  have hv:fr s=.v v:=by
   rcases hw with⟨q,w1,w2⟩|⟨cells,j',p',y,w1,w2,_⟩
   ·rw[w1];have:v=q:=w2;rw[this]
   ·cases w2
  exact r.qt hs hg hm (λL hL=>absurd hL (A0 _)) (λ_ _=>rfl) (λh=>absurd h (yz _)) iW B8 Qa (λ_ _ h1 h2=>.inl (by rw[h1]at h2;cases h2;rfl)) (ou hv hz) rfl r.pin
 ·rename_i c C1;obtain⟨p0,i,j⟩:=c;have Nu:=zuw C1;simp only at Nu hj;refine r.Td hs (by simp) hj hH iW hg hm nb (λid q h1 h2 h3=>Du id q h1 h2 ?_) λt z' y h1 h2=>?_
  ·rintro⟨t,rfl⟩;rw[Nu]at h3;exact h3 j t (by simp) ⟨cy _,by simp⟩
  ·cases t with
   |zero=>
    simp at h1;subst h1;rw[rb]at h2⊢;rw[<-Nu]at h2⊢;rw[h2.same hw];exact hz
   |succ t=>simp at h1
def nF{f:Nat×aA->Option (Nat×aA)}:fY E (E.rl f):=⟨cy _,dO,λid _ h=>⟨by simp[Env.rl,h],rfl,λh=>h⟩⟩
def eb.snoc(h:eb nt E fl)(hx:PR E (J (nt,[(0,fl.length)])) x v):eb nt E (fl++[(x,v)]):=by
 intro k y v' hk;by_cases hlt:k<fl.length
 ·rw[fw hlt]at hk;exact h k y v' hk
 ·rw[fT (by omega)]at hk
  have nY:k-fl.length=0:=by
   have:=(cT.1 hk).1;simp at this;omega
  rw[nY]at hk;simp at hk;obtain⟨rfl,rfl⟩:=hk;have:k=fl.length:=by omega
  rw[this];exact hx
def eb.stay(h:eb nt E fl)(hg:GK E E')(hm:dt E E' (J (nt,[])) (J (nt,[]))):eb nt E' fl:=λk x v hk=>(h k x v hk).move hg (dt.ch (l:=J (nt,[])) (l':=J (nt,[])) hm 0 k)
def aq.Of(r:aq nt pin E0 E pf fr)(hfl:eb nt E fl)(hs:s<nt)(h:cb pf s p=J x)(hx:x≠.au)(hp:p≠[]\/∃y,pf s=.v y)
(hj:iy pf s p .au=J pf'):∃v E',Wk E fr s p v/\E'.H=E.H/\aq nt pin E0 E' pf' fr/\eb nt E' (fl++[(x,v)]):=by
 obtain⟨v,hw,hv⟩:=r.at h hx hp;refine⟨v,E.rl (fg (s,p) (nt,[(0,fl.length)])),hw,rfl,?_,?_⟩
 ·refine r.setAt hs hw hj rfl nF dO (λt _ ht=>iZ λr=>kO ht) (λid bY=>?_) (λid q h1 h2 h3=>?_) (.au v)
  ·obtain⟨h1,h2⟩:=r.fresh id bY;exact⟨by simp[Env.rl,h1],h2⟩
  ·exact⟨by simp[Env.rl,h1,fg,h3],h2⟩
 ·exact(hfl.stay dO (iZ λr=>kO (by show nt≠s;omega))).snoc (hv.move dO (lG λr=>zgp _ _ r))
def Env.fz(E:Env)(a:Nat×aA):Env:={E with G:=λid=>E.G id\/∃r,E.ow id=J (a.1,a.2++r)}
def pU :GK E (E.fz a):=λ_ h=>⟨.inl h,λk hk=>⟨k,hk,rfl⟩⟩
def Fi :fY E (E.fz a):=⟨cy _,pU,λid _ h=>⟨h,rfl,by
 rintro(h3|⟨r,h3⟩)
 ·exact h3
 ·rw[h]at h3;cases h3⟩⟩
def Od :xM E (E.fz a) (J a):=λ_ r h1 _=>⟨.inr ⟨r,h1⟩,λk hk=>⟨k,hk,rfl⟩⟩
def Az{c:Nat×aA}(h:c.1≠a.1):dt E (E.fz a) (J c) (J c):=λid r h1 h2=>⟨h1,by
 rintro(h3|⟨r',h3⟩)
 ·exact h2 h3
 ·rw[h1,aT,b9]at h3
  exact h h3.1,rfl⟩
def aq.Fa(r:aq nt pin E0 E pf fr)(hs:s<nt)(h:cb pf s p=J x)(hx:x≠.au)(hp:p≠[]\/∃y,pf s=.v y)
(hj:iy pf s p (drop x)=J pf'):∃v,Wk E fr s p v/\aq nt pin E0 (E.fz (s,p)) pf' fr/\PR (E.fz (s,p)) ae (drop x) v:=by
 obtain⟨v,hw,hv⟩:=r.at h hx hp;have hd:PR (E.fz (s,p)) ae (drop x) v:=hv.freeze pU Od;refine⟨v,hw,?_,hd⟩;refine r.setAt hs hw hj rfl Fi pU (λt _ ht=>Az ht) (λid bY=>?_) (λid q h1 h2 h3=>?_) hd.up
 ·obtain⟨h1,h2⟩:=r.fresh id bY;refine⟨h1,?_⟩;rintro(h3|⟨r',h3⟩)
  ·exact h2 h3
  ·rw[h1]at h3;cases h3
 ·refine⟨h1,?_⟩;rintro(h4|⟨r',h4⟩)
  ·exact h2 h4
  ·rw[h1]at h4;cases h4;exact h3 (List.prefix_append _ _)
end
end Go.Pm
