import Derived.Test.YtnojafnlicbhpaaGreatPmC
open Option renaming none→ae,some→J
set_option linter.defProp false
namespace Go.Pm
open Go.Am
def yA:=@Nat.lt_irrefl
def A1:=@Nat.not_lt_zero
def Un:=@List.length_eq_zero_iff
def oQ:aA->Option (aA×Nat×Nat)
 |[]=>ae
 |[a]=>J ([],a.1,a.2)
 |a::b::r=>(oQ (b::r)).map λx=>(a::x.1,x.2)
def zui{p:aA}(h:oQ p=ae):p=[]:=by
 induction p with
 |nil=>rfl
 |cons a p ih=>
  cases p with
  |nil=>simp[oQ]at h
  |cons b r=>simp only[oQ,Option.map_eq_none_iff]at h;have:=ih h;cases this
def zuw{p:aA}{x:aA×Nat×Nat}(h:oQ p=J x):p=x.1++[x.2]:=by
 induction p generalizing x with
 |nil=>simp[oQ]at h
 |cons a p ih=>
  cases p with
  |nil=>simp only[oQ,aT]at h;subst h;rfl
  |cons b r=>
   simp only[oQ,bN]at h;obtain⟨y,h1,rfl⟩:=h;have:=ih h1;simp[this]
section
variable {nt:Nat}{pin:List (Nat×Value)}{E0 E E':Env}{pf:ah}{fr ai:FR}
def d9(nt:Nat)(E:Env)(fl:List (PV×Value)):Prop:=∀k x v,fl[k]? =J (x,v)->PR E (J (nt,[(0,k)])) x v
structure aq (nt:Nat) (pin:List (Nat×Value)) (E0 E:Env) (pf:ah) (fr:FR):Prop where
 since:fU E0 E
 wf:mJ E.H
 fresh:∀id,E.H.n<=id->E.ow id=ae/\¬E.G id
 f:∀t,oN E (pf t) fr t
 hi:∀t,nt<=t->pf t=jP
 rt:∀t s,bC (pf t)=J s->s<nt
 pin:∀k v,(k,v)∈pin->fr k=.v v
variable{a:Nat×aA}{fl:List (PV×Value)}{i j s:Nat}{p:aA}{pf':ah}{v:Value}{x:PV}{xs:List PV}{y:PF}
def gi{t:Nat}(h:oN E (.v x) fr t)(hx:x≠.au):∃v,fr t=.v v/\PR E (J (t,[])) x v:=by
 cases x with
 |au=>exact absurd rfl hx
 |_=>exact h
def n0{t:Nat}(h:fr t=.v v)(h':PR E (J (t,[])) x v):oN E (.v x) fr t:=by
 cases x with
 |au=>exact True.intro
 |_=>exact⟨v,h,h'⟩
def aq.at(r:aq nt pin E0 E pf fr)(h:cj pf s p=J x)(hx:x≠.au)(hp:p≠[]\/∃y,pf s=.v y):∃v,Wk E fr s p v/\PR E (J (s,p)) x v:=by
 have hf:=r.f s;simp only[cj,bR]at h;obtain⟨y,h1,h2⟩:=h;cases hs:pf s with
 |v z=>
  rw[hs]at h1 hf;simp only[fD,aT]at h1;subst h1
  have hz:z≠.au:=by
   rintro rfl;cases p with
   |nil=>simp only[iB,aT]at h2;exact hx h2.symm
   |cons a p=>simp[iB,iv]at h2
  obtain⟨v,h3,h4⟩:=gi hf hz;obtain⟨v0,w1,w2⟩:=h4.get h2;exact⟨v0,.inl ⟨v,h3,w1⟩,by simpa using w2⟩
 |bl row=>
  rw[hs]at h1 hf;simp only[fD,aT]at h1;subst h1;obtain⟨cells,c1,c2,c3⟩:=hf;cases p with
  |nil=>rcases hp with h|⟨y,h⟩<;>simp_all
  |cons a p=>
   obtain⟨i,j⟩:=a;simp only[iB,iv,bR]at h2;obtain⟨y,a1,a2⟩:=h2;split at a1
   ·rename_i e;have e:i=0:=e;subst e;have hj:j<cells.length:=by have hlt:j<row.length:=(cT.1 a1).1;omega
    obtain⟨v0,w1,w2⟩:=(c3 j y _ a1 (cE hj)).get a2;exact⟨v0,.inr ⟨cells,j,p,_,c1,rfl,cE hj,w1⟩,by simpa using w2⟩
   ·cases a1
 |_=>rw[hs]at h1;simp[fD]at h1
def RT{x':PV}(h:jx x p (iL i j xs)=J x'):x≠.au:=by
 rintro rfl;cases p with
 |nil=>simp[jx,iL]at h
 |cons a p=>simp[jx,iv]at h
def Zc{y':PF}{x':PV}{p0:aA}{dM o:Nat}{v0:Value}(h:oN E y fr s)(hr:fD y=J x)(hm:jx x p0 (iL i j xs)=J x')(hy:sw y x'=J y')
(hc:J0 E E' (s,[]) p0 i j xs dM o)(hw:Wk E fr s p0 v0)(hd:Hd E (s,p0) v0 i dM o)(hf:ai s=fr s):oN E' y' ai s:=by
 cases y with
 |v z=>
  simp only[fD,aT]at hr;subst hr;simp only[sw,aT]at hy;subst hy;obtain⟨v,h1,h2⟩:=gi h (RT hm);rcases hw with⟨r,w1,w2⟩|⟨cells,j',p',y',w1,_⟩
  ·rw[h1]at w1;cases w1;exact n0 (hf.trans h1) (h2.bS hm w2 (by simpa using hd) hc)
  ·rw[h1]at w1;cases w1
 |bl row=>
  simp only[fD,aT]at hr;subst hr;obtain⟨cells,c1,c2,c3⟩:=h;rcases hw with⟨r,w1,w2⟩|⟨dw,j0,p1,z,w1,w2,w3,w4⟩
  ·rw[c1]at w1;cases w1
  ·rw[c1]at w1;cases w1;subst w2;simp only[jx,iv,eP,bR,bN]at hm;obtain⟨z0,a1,z1,a2,rfl⟩:=hm;simp only[BX,sw,aT]at hy;subst hy;refine⟨cells,hf.trans c1,by simpa using c2,λj' x y g1 g2=>?_⟩;rw[C7]at g1;by_cases e:j0=j'
   ·subst e;rw[aB rfl]at g1;split at g1
    ·cases g1;rw[w3]at g2;cases g2;exact(c3 j0 z0 z a1 w3).bS (l:=(s,[(0,j0)])) a2 w4 hd hc.ch
    ·cases g1
   ·rw[az e]at g1;refine(c3 j' x y g1 g2).move hc.g λid r h1 h2=>?_
    have:=hc.dZ id ((0,j')::r) (by simpa using h1) h2 (zrn (by simp;omega));refine⟨by simpa using this.1,this.2.1,this.2.2 λe2=>?_⟩;subst e2;have:=hd.ow.1;rw[this]at h1;simp at h1;omega
 |_=>simp[fD]at hr
def Vt{row sS:List PV}{cells dw:List Value}(h:oN E (.bl row) fr s)(hm:jR row j xs=J sS)(hc:fr s=.loc cells)(hf:ai s=.loc dw)
(hl:dw.length=cells.length)(ho:∀q,¬(j<=q/\q<j+xs.length)->dw[q]? =cells[q]?)(hg:GK E E')
(hk:∀id r,E.ow id=J (s,r)->¬E.G id->tu [] 0 j xs.length r->E'.ow id=J (s,r)/\¬E'.G id/\E'.H.b id=E.H.b id)
(hx:∀t x y,xs[t]? =J x->dw[j+t]? =J y->PR E' (J (s,[(0,j+t)])) x y):oN E' (.bl sS) ai s:=by
 obtain⟨Vk,c1,c2,c3⟩:=h;rw[hc]at c1;cases c1;obtain⟨a1,a2,a3⟩:=zK hm;refine⟨dw,hf,by omega,λq x y g1 g2=>?_⟩;rw[a3 q]at g1;split at g1
 ·rename_i gR;have:=hx (q-j) x y g1 (by rw[show j+(q-j)=q by omega];exact g2)
  rwa [show j+(q-j)=q by omega]at this
 ·rename_i gR;rw[ho q gR]at g2;refine(c3 q x y g1 g2).move hg λid r h1 h2=>?_
  have h1:E.ow id=J (s,(0,q)::r):=by simpa using h1
  have:=hk id _ h1 h2 (by
   intro j' r' e hh;simp only[mM,Um,b9,o6]at e;obtain⟨rfl,_⟩:=e
   exact gR hh)
  exact⟨by simpa using this.1,this.2⟩
def aq.set(r:aq nt pin E0 E pf fr){d:Nat}{fv:FV}(hd:d<nt)(hp:∀v,(d,v)∉pin)(hg:GK E E')(hm:∀s,s<nt->s≠d->du E E' (J (s,[])) (J (s,[])))
(iP:fU E E')(hw:mJ E'.H)(mY:∀id,E'.H.n<=id->E'.ow id=ae/\¬E'.G id)(hy:oN E' y (fr.put d fv) d)(hr:∀s,bC y=J s->s<nt):aq nt pin E0 E' (pf.put d y) (fr.put d fv):=by
 refine⟨r.since.trans iP,hw,mY,λt=>?_,λt ht=>?_,λt s h=>?_,λk v h=>?_⟩
 ·by_cases e:t=d
  ·subst e;simpa[ah.put]using hy
  ·simp only[ah.put,az e];have hf:=r.f t;by_cases ht:t<nt
   ·unfold fy;split
    ·exact True.intro
    ·rename_i hk;refine hf.stay hg (hm t ht e) (by simp[FR.put,e]) λs hs=>?_
     have f9:s≠d:=λe=>hk (by rw[hs,e])
     exact⟨by simp[FR.put,f9],KL.Ir (hm s (r.rt t s hs) f9)⟩
   ·have:=r.hi t (by omega);rw[this];have:fy d jP=jP:=by simp[fy,jP,bC]
    rw[this];exact True.intro
 ·have:t≠d:=by omega
  simp only[ah.put,az this,r.hi t ht];simp[fy,jP,bC]
 ·by_cases e:t=d
  ·subst e;simp only[ah.put,eP]at h;exact hr s h
  ·simp only[ah.put,az e]at h;unfold fy at h;split at h
   ·simp[jP,bC]at h
   ·exact r.rt t s h
 ·have hk:k≠d:=λe=>hp v (by rw[<-e];exact h)
  simpa[FR.put,hk]using r.pin k v h
def iw(pf:ah)(s:Nat)(p:aA)(y:PV):Option ah:=
 match oQ p with
 |none=>J ((pf.bS s (.v y)).kill s 0)
 |some x=>mz pf s x.1 x.2.1 x.2.2 [y]
def aq.qs(r:aq nt pin E0 E pf fr){n:Nat}(hs:s<nt)(hg:GK E E')(hm:∀t,t<nt->t≠s->du E E' (J (t,[])) (J (t,[])))
(hk:∀L,L<n->KL E E' s L)(hf:∀t,t≠s->ai t=fr t)(jy:0<n->ai s=fr s\/∃cells dw,fr s=.loc cells/\ai s=.loc dw)(iP:fU E E')(hw:mJ E'.H)(mY:∀id,E'.H.n<=id->E'.ow id=ae/\¬E'.G id)
(A7:∀cells dw,fr s=.loc cells->ai s=.loc dw->cells=dw\/n<=1)
(hy:oN E' y ai s)(hr:bC y=ae)(jU:∀k v,(k,v)∈pin->ai k=.v v):aq nt pin E0 E' ((pf.bS s y).kill s n) ai:=by
 have T0:∀t,t≠s->((pf.bS s y).kill s n) t=cZ s n (pf t):=λt ht=>by simp[ah.kill,ah.bS,ht]
 refine⟨r.since.trans iP,hw,mY,λt=>?_,λt ht=>?_,λt s' h=>?_,jU⟩
 ·by_cases e:t=s
  ·subst e;have:((pf.bS t y).kill t n) t=y:=by simp[ah.kill,ah.bS,cZ,hr]
   rw[this];exact hy
  ·rw[T0 t e];have NU:=r.f t;by_cases ht:t<nt
   ·unfold cZ;split
    ·exact True.intro
    ·rename_i hc;by_cases iA:bC (pf t)=J s
     ·have hlt:lG (pf t)<n:=a0x λcV=>hc ⟨iA,cV⟩
      rcases jy (by omega)with Lv|⟨cells,dw,l1,l2⟩
      ·exact NU.stay hg (hm t ht e) (hf t e) λs' mu=>by
        rw[iA]at mu;cases mu;exact⟨Lv,hk _ hlt⟩
      ·rcases A7 cells dw l1 l2 with e2|e2
       ·exact NU.stay hg (hm t ht e) (hf t e) λs' mu=>by
         rw[iA]at mu;cases mu;exact⟨by rw[l1,l2,e2],hk _ hlt⟩
       ·
        have h0:lG (pf t)=0:=by omega
        revert NU;cases aE:pf t with
        |pt s' p i j=>
         rw[aE]at iA h0;simp only[bC,aT]at iA;subst iA;simp only[lG,Un]at h0;subst h0;rintro(⟨c0,a1,a2,a3,a4⟩|⟨v0,id,o,a1,a2,a3⟩)
         ·exact .inl ⟨dw,l2,rfl,a3,(hf t e).trans a4⟩
         ·rcases a1 with⟨r,b1,b2⟩|⟨c0,j',p',y',b1,b2,_⟩
          ·rw[l1]at b1;cases b1
          ·cases b2
        |rf s' p=>
         rw[aE]at iA h0;simp only[bC,aT]at iA;subst iA;simp only[lG,Un]at h0;subst h0;rintro⟨v,a1,a2⟩;rcases a2 with⟨r,b1,b2⟩|⟨c0,j',p',y',b1,b2,_⟩
         ·rw[l1]at b1;cases b1
         ·cases b2
        |rv s' p lo hi=>
         rw[aE]at iA h0;simp only[bC,aT]at iA;subst iA;simp only[lG,Un]at h0;subst h0;rintro(⟨a1,a2⟩|⟨id,off,es,n,c,a1,a2⟩)
         ·rcases a1 with⟨r,b1,b2⟩|⟨c0,j',p',y',b1,b2,_⟩
          ·rw[l1]at b1;cases b1
          ·cases b2
         ·rcases a1 with⟨r,b1,b2⟩|⟨c0,j',p',y',b1,b2,_⟩
          ·rw[l1]at b1;cases b1
          ·cases b2
        |ra s' p i j n=>rw[aE]at h0;simp[lG]at h0
        |as b s' p i j n=>rw[aE]at h0;simp[lG]at h0
        |cl s' g us=>
         rw[aE]at iA;simp only[bC,aT]at iA;subst iA;rintro⟨v,vs,a1,a2,a3⟩;rcases a2 with⟨r,b1,b2⟩|⟨c0,j',p',y',b1,b2,_⟩
         ·rw[l1]at b1;cases b1
         ·cases b2
        |_=>rw[aE]at iA;simp[bC]at iA
     ·exact NU.stay hg (hm t ht e) (hf t e) λs' mu=>by
       have hne:s'≠s:=λe=>iA (by rw[mu,e])
       exact⟨hf s' hne,KL.Ir (hm s' (r.rt t s' mu) hne)⟩
   ·have:=r.hi t (by omega);rw[this];simp only[cZ,jP,bC];exact True.intro
 ·have:t≠s:=by omega
  rw[T0 t this,r.hi t ht];simp[cZ,jP,bC]
 ·by_cases e:t=s
  ·subst e;have:((pf.bS t y).kill t n) t=y:=by simp[ah.kill,ah.bS,cZ,hr]
   rw[this,hr]at h;cases h
  ·rw[T0 t e]at h;exact r.rt t s' (zyo h).1
def Yp{y':PF}(h:sw y x=J y'):bC y'=ae:=by
 unfold sw at h;split at h
 ·cases h;rfl
 ·cases h;rfl
 ·cases h
def zy6:∀(p0:aA) (a:PV) (i j:Nat),iB a (p0++[(i,j)])=(iB a p0).bind λz=>iv z (i,j):=by
 intro p0;induction p0 with
 |nil=>intro a i j;simp[iB]
 |cons b p0 ih=>intro a i j;simp only[t5,iB];cases iv a b with
  |none=>rfl
  |some z=>simp[ih]
def zw4 :cj pf s (p++[(i,j)])=(cj pf s p).bind λz=>iv z (i,j):=by
 simp only[cj];cases fD (pf s)with
 |none=>rfl
 |some x=>simp[zy6]
def Wv.snoc :∀{p0:aA}{l:Nat×aA}{a b c:Value},Wv E l a p0 b->Wv E (l.1,l.2++p0) b [(i,j)] c->Wv E l a (p0++[(i,j)]) c:=by
 intro p0;induction p0 with
 |nil=>intro l a b c h1 h2;have h1:b=a:=h1;subst h1;rw[Fq]at h2;exact h2
 |cons s p0 ih=>
  obtain⟨i1,j1⟩:=s;intro l a b c h1 h2;obtain⟨id,o,k,y,a1,a2,a3,a4,a5⟩:=h1;exact⟨id,o,k,y,a1,a2,a3,a4,ih a5 (by rw[xE];exact h2)⟩
def Wk.snoc{b c:Value}(h:Wk E fr s p b)(h2:Wv E (s,p) b [(i,j)] c):Wk E fr s (p++[(i,j)]) c:=by
 rcases h with⟨q,b1,b2⟩|⟨cells,j',p',y,b1,b2,b3,b4⟩
 ·exact .inl ⟨q,b1,b2.snoc (by simpa using h2)⟩
 ·subst b2;exact .inr ⟨cells,j',p'++[(i,j)],y,b1,rfl,b3,b4.snoc (by simpa using h2)⟩
def zBU{zs:List PV}:∀{p0:aA}{x0 x1:PV},jx x0 p0 (iL i j zs)=J x1->∃x2 z,iB x0 p0=J x2/\iL i j zs x2=J z:=by
 intro p0;induction p0 with
 |nil=>intro x0 x1 h;exact⟨x0,x1,rfl,h⟩
 |cons a p0 ih=>
  intro x0 x1 h;simp only[jx,bR,bN]at h;obtain⟨z0,h1,z1,h2,rfl⟩:=h;obtain⟨x2,z,g1,g2⟩:=ih h2;exact⟨x2,z,by simp[iB,h1,g1],g2⟩
def aq.R7(r:aq nt pin E0 E pf fr){zs:List PV}(hs:s<nt)(hne:zs≠[])(hj:mz pf s p i j zs=J pf')(hH:E'.H=E.H)(iP:fU E E')(hg:GK E E')
(hm:∀t,t<nt->t≠s->du E E' (J (t,[])) (J (t,[])))(mY:∀id,E.H.n<=id->E'.ow id=ae/\¬E'.G id)
(KU:∀id q,E.ow id=J (s,q)->¬E.G id->tu p i j zs.length q->E'.ow id=J (s,q)/\¬E'.G id)
(hz:∀t z y,zs[t]? =J z->Wk E fr s (p++[(i,j+t)]) y->PR E' (J (s,p++[(i,j+t)])) z y):aq nt pin E0 E' pf' fr:=by
 have P7:∀id,E'.H.n<=id->E'.ow id=ae/\¬E'.G id:=by rw[hH];exact mY
 have CZ:mJ E'.H:=by rw[hH];exact r.wf
 simp only[mz,bR,bN]at hj;obtain⟨x0,dy,x1,nJ,y,hy,rfl⟩:=hj;have a16:∀id q,E.ow id=J (s,q)->¬E.G id->q.length<=p.length->E'.ow id=J (s,q)/\¬E'.G id:=λid q h1 h2 h3=>KU id q h1 h2 (zx3 h3)
 refine r.qs hs hg hm (λL hL=>⟨λid q h1 h2 hq=>a16 id q h1 h2 (by omega),λid q h1 h2 hq=>by rw[hH]⟩) (λ_ _=>rfl) (λ_=>.inl rfl) iP CZ P7 (λ_ _ h1 h2=>.inl (by rw[h1]at h2;cases h2;rfl)) ?_ (Yp hy) r.pin;by_cases hl:∃row,pf s=.bl row/\p=[]
 ·obtain⟨row,ej,rfl⟩:=hl;rw[ej]at dy hy;simp only[fD,aT]at dy;subst dy;simp only[jx,iL]at nJ;split at nJ
  ·rename_i aO;subst aO;simp only[bN]at nJ;obtain⟨sS,dn,rfl⟩:=nJ;simp only[sw,aT]at hy;subst hy;have hf:=r.f s;rw[ej]at hf;obtain⟨cells,c1,_⟩:=id hf;refine Vt hf dn c1 c1 rfl (λ_ _=>rfl) hg (λid q h1 h2 h3=>⟨(KU id q h1 h2 h3).1,(KU id q h1 h2 h3).2,by rw[hH]⟩) λt x y h1 h2=>?_
   exact hz t x y h1 (.inr ⟨cells,j+t,[],y,c1,rfl,h2,rfl⟩)
  ·cases nJ
 ·obtain⟨x2,z2,BC,zS⟩:=zBU nJ;have a1H:x2≠.au:=by rintro rfl;simp[iL]at zS
  have hx2:cj pf s p=J x2:=by simp[cj,dy,BC]
  have a1L:p≠[]\/∃y,pf s=.v y:=by
   by_cases h0:p=[]
   ·right;cases fH:pf s with
    |v y=>exact⟨y,rfl⟩
    |bl row=>exact absurd ⟨row,fH,h0⟩ hl
    |_=>rw[fH]at dy;simp[fD]at dy
   ·exact .inl h0
  obtain⟨v2,w2,pr2⟩:=r.at hx2 a1H a1L
  have hhd:∃id o k,Hd E (s,p) v2 i id o/\E.H.b id=J k/\∀t,t<zs.length->∀y,k.cells[o+j+t]? =J y->Wv E (s,p) v2 [(i,j+t)] y:=by
   cases pr2 with
   | @fk _ id off es n c k rows how hG hb bc hn hc hm hr hl hh=>
    simp only[iL,bR,bN]at zS;obtain⟨r0,a1,r1,a2,_⟩:=zS;have hi:i<n:=by have:=(cT.1 a1).1;omega
    have hlen:=(zK a2).2.1 hne;have dD:=hr r0 (eo a1);refine⟨id,_,k,.sl (j:=j) how hG hi,hb,λt ht y hy=>⟨id,off+i*es,k,y,.sl (j:=j) how hG hi,?_,hb,by rw[<-iN];exact hy,rfl⟩⟩;rintro bw ⟨_,_,_,e⟩;cases e;omega
   | @bx _ id k row how hG hb bc hl hh=>
    simp only[iL]at zS;split at zS
    ·rename_i e;subst e;refine⟨id,0,k,.bx how hG,hb,λt ht y hy=>⟨id,0,k,y,.bx how hG,?_,hb,by rw[<-iN];exact hy,rfl⟩⟩;rintro bw ⟨_,_,_,e⟩;cases e
    ·cases zS
   |sl0 ob es=>cases ob<;>simp[iL]at zS
   |_=>simp[iL]at zS
  obtain⟨dM,o,k0,hd,xN,zX⟩:=hhd;refine Zc (r.f s) dy nJ hy ⟨hg,λid q h1 h2 h3=>?_,λk hk=>?_⟩ w2 hd rfl
  ·have h1:E.ow id=J (s,q):=by simpa using h1
   have:=KU id q h1 h2 h3;exact⟨by simpa using this.1,this.2,λ_=>by rw[hH]⟩
  ·refine⟨k,by rw[hH];exact hk,rfl,rfl,λ_ _=>rfl,λt x y h1 h2=>?_⟩;rw[xN]at hk;cases hk;have ht:t<zs.length:=(cT.1 h1).1;simpa using hz t x y h1 (w2.snoc (zX t ht y h2))
def aq.setAt(r:aq nt pin E0 E pf fr){z:PV}(hs:s<nt)(hw:Wk E fr s p v)
(hj:iw pf s p z=J pf')(hH:E'.H=E.H)(iP:fU E E')(hg:GK E E')(hm:∀t,t<nt->t≠s->du E E' (J (t,[])) (J (t,[])))(mY:∀id,E.H.n<=id->E'.ow id=ae/\¬E'.G id)
(F5:∀id q,E.ow id=J (s,q)->¬E.G id->¬p<+:q->E'.ow id=J (s,q)/\¬E'.G id)(hz:PR E' (J (s,p)) z v):aq nt pin E0 E' pf' fr:=by
 unfold iw at hj;split at hj
 ·rename_i Bo;have:=zui Bo;subst this;cases hj;have P7:∀id,E'.H.n<=id->E'.ow id=ae/\¬E'.G id:=by rw[hH];exact mY
  have CZ:mJ E'.H:=by rw[hH];exact r.wf
  have hv:fr s=.v v:=by
   rcases hw with⟨q,w1,w2⟩|⟨cells,j',p',y,w1,w2,_⟩
   ·rw[w1];have:v=q:=w2;rw[this]
   ·cases w2
  exact r.qs hs hg hm (λL hL=>absurd hL (A1 _)) (λ_ _=>rfl) (λh=>absurd h (yA _)) iP CZ P7 (λ_ _ h1 h2=>.inl (by rw[h1]at h2;cases h2;rfl)) (n0 hv hz) rfl r.pin
 ·rename_i c Bo;obtain⟨p0,i,j⟩:=c;have Mj:=zuw Bo;simp only at Mj hj;refine r.R7 hs (by simp) hj hH iP hg hm mY (λid q h1 h2 h3=>F5 id q h1 h2 ?_) λt z' y h1 h2=>?_
  ·rintro⟨t,rfl⟩;rw[Mj]at h3;exact h3 j t (by simp) ⟨cy _,by simp⟩
  ·cases t with
   |zero=>
    simp at h1;subst h1;rw[rc]at h2⊢;rw[<-Mj]at h2⊢;rw[h2.same hw];exact hz
   |succ t=>simp at h1
def nS{f:Nat×aA->Option (Nat×aA)}:fU E (E.rl f):=⟨cy _,dO,λid _ h=>⟨by simp[Env.rl,h],rfl,λh=>h⟩⟩
def d9.snoc(h:d9 nt E fl)(hx:PR E (J (nt,[(0,fl.length)])) x v):d9 nt E (fl++[(x,v)]):=by
 intro k y v' hk;by_cases hlt:k<fl.length
 ·rw[fw hlt]at hk;exact h k y v' hk
 ·rw[fT (by omega)]at hk
  have oL:k-fl.length=0:=by
   have:=(cT.1 hk).1;simp at this;omega
  rw[oL]at hk;simp at hk;obtain⟨rfl,rfl⟩:=hk;have:k=fl.length:=by omega
  rw[this];exact hx
def d9.stay(h:d9 nt E fl)(hg:GK E E')(hm:du E E' (J (nt,[])) (J (nt,[]))):d9 nt E' fl:=λk x v hk=>(h k x v hk).move hg (du.ch (l:=J (nt,[])) (l':=J (nt,[])) hm 0 k)
def aq.LJ(r:aq nt pin E0 E pf fr)(hfl:d9 nt E fl)(hs:s<nt)(h:cj pf s p=J x)(hx:x≠.au)(hp:p≠[]\/∃y,pf s=.v y)
(hj:iw pf s p .au=J pf'):∃v E',Wk E fr s p v/\E'.H=E.H/\aq nt pin E0 E' pf' fr/\d9 nt E' (fl++[(x,v)]):=by
 obtain⟨v,hw,hv⟩:=r.at h hx hp;refine⟨v,E.rl (fg (s,p) (nt,[(0,fl.length)])),hw,rfl,?_,?_⟩
 ·refine r.setAt hs hw hj rfl nS dO (λt _ ht=>iZ λr=>kB ht) (λid bY=>?_) (λid q h1 h2 h3=>?_) (.au v)
  ·obtain⟨h1,h2⟩:=r.fresh id bY;exact⟨by simp[Env.rl,h1],h2⟩
  ·exact⟨by simp[Env.rl,h1,fg,h3],h2⟩
 ·exact(hfl.stay dO (iZ λr=>kB (by show nt≠s;omega))).snoc (hv.move dO (k8 λr=>zgw _ _ r))
def Env.fz(E:Env)(a:Nat×aA):Env:={E with G:=λid=>E.G id\/∃r,E.ow id=J (a.1,a.2++r)}
def pV :GK E (E.fz a):=λ_ h=>⟨.inl h,λk hk=>⟨k,hk,rfl⟩⟩
def EZ :fU E (E.fz a):=⟨cy _,pV,λid _ h=>⟨h,rfl,by
 rintro(h3|⟨r,h3⟩)
 ·exact h3
 ·rw[h]at h3;cases h3⟩⟩
def MK :yv E (E.fz a) (J a):=λ_ r h1 _=>⟨.inr ⟨r,h1⟩,λk hk=>⟨k,hk,rfl⟩⟩
def yX{c:Nat×aA}(h:c.1≠a.1):du E (E.fz a) (J c) (J c):=λid r h1 h2=>⟨h1,by
 rintro(h3|⟨r',h3⟩)
 ·exact h2 h3
 ·rw[h1,aT,b9]at h3
  exact h h3.1,rfl⟩
def aq.Et(r:aq nt pin E0 E pf fr)(hs:s<nt)(h:cj pf s p=J x)(hx:x≠.au)(hp:p≠[]\/∃y,pf s=.v y)
(hj:iw pf s p (drop x)=J pf'):∃v,Wk E fr s p v/\aq nt pin E0 (E.fz (s,p)) pf' fr/\PR (E.fz (s,p)) ae (drop x) v:=by
 obtain⟨v,hw,hv⟩:=r.at h hx hp;have hd:PR (E.fz (s,p)) ae (drop x) v:=hv.freeze pV MK;refine⟨v,hw,?_,hd⟩;refine r.setAt hs hw hj rfl EZ pV (λt _ ht=>yX ht) (λid bY=>?_) (λid q h1 h2 h3=>?_) hd.up
 ·obtain⟨h1,h2⟩:=r.fresh id bY;refine⟨h1,?_⟩;rintro(h3|⟨r',h3⟩)
  ·exact h2 h3
  ·rw[h1]at h3;cases h3
 ·refine⟨h1,?_⟩;rintro(h4|⟨r',h4⟩)
  ·exact h2 h4
  ·rw[h1]at h4;cases h4;exact h3 (List.prefix_append _ _)
end
end Go.Pm
