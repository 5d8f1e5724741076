import Derived.Test.YtnojafnlicbhpaaGreatPmC
open Option renaming none→ae,some→J
set_option linter.defProp false
namespace Go.Pm
open Go.Am
def yz:=@Nat.lt_irrefl
def A0:=@Nat.not_lt_zero
def Ug:=@List.length_eq_zero_iff
def oL:aA->Option (aA×Nat×Nat)
 |[]=>ae
 |[a]=>J ([],a.1,a.2)
 |a::b::r=>(oL (b::r)).map λx=>(a::x.1,x.2)
def zuv{p:aA}(h:oL p=ae):p=[]:=by
 induction p with
 |nil=>rfl
 |cons a p ih=>
  cases p with
  |nil=>simp[oL]at h
  |cons b r=>simp only[oL,Option.map_eq_none_iff]at h;have:=ih h;cases this
def zug{p:aA}{x:aA×Nat×Nat}(h:oL p=J x):p=x.1++[x.2]:=by
 induction p generalizing x with
 |nil=>simp[oL]at h
 |cons a p ih=>
  cases p with
  |nil=>simp only[oL,aT]at h;subst h;rfl
  |cons b r=>
   simp only[oL,bN]at h;obtain⟨y,h1,rfl⟩:=h;have:=ih h1;simp[this]
section
variable {nt:Nat}{pin:List (Nat×Value)}{E0 E E':Env}{pf:ah}{fr ai:FR}
def eb(nt:Nat)(E:Env)(fl:List (PV×Value)):Prop:=∀k x v,fl[k]? =J (x,v)->PR E (J (nt,[(0,k)])) x v
structure aq (nt:Nat) (pin:List (Nat×Value)) (E0 E:Env) (pf:ah) (fr:FR):Prop where
 since:fZ E0 E
 wf:my E.H
 fresh:∀id,E.H.n<=id->E.ow id=ae/\¬E.G id
 f:∀t,n8 E (pf t) fr t
 hi:∀t,nt<=t->pf t=jP
 rt:∀t s,bC (pf t)=J s->s<nt
 pin:∀k v,(k,v)∈pin->fr k=.v v
variable{a:Nat×aA}{fl:List (PV×Value)}{i j s:Nat}{p:aA}{pf':ah}{v:Value}{x:PV}{xs:List PV}{y:PF}
def ga{t:Nat}(h:n8 E (.v x) fr t)(hx:x≠.au):∃v,fr t=.v v/\PR E (J (t,[])) x v:=by
 cases x with
 |au=>exact absurd rfl hx
 |_=>exact h
def oS{t:Nat}(h:fr t=.v v)(h':PR E (J (t,[])) x v):n8 E (.v x) fr t:=by
 cases x with
 |au=>exact True.intro
 |_=>exact⟨v,h,h'⟩
def aq.at(r:aq nt pin E0 E pf fr)(h:ce pf s p=J x)(hx:x≠.au)(hp:p≠[]\/∃y,pf s=.v y):∃v,Wk E fr s p v/\PR E (J (s,p)) x v:=by
 have hf:=r.f s;simp only[ce,bR]at h;obtain⟨y,h1,h2⟩:=h;cases hs:pf s with
 |v z=>
  rw[hs]at h1 hf;simp only[fB,aT]at h1;subst h1
  have hz:z≠.au:=by
   rintro rfl;cases p with
   |nil=>simp only[iM,aT]at h2;exact hx h2.symm
   |cons a p=>simp[iM,iq]at h2
  obtain⟨v,h3,h4⟩:=ga hf hz;obtain⟨v0,w1,w2⟩:=h4.get h2;exact⟨v0,.inl ⟨v,h3,w1⟩,by simpa using w2⟩
 |bl row=>
  rw[hs]at h1 hf;simp only[fB,aT]at h1;subst h1;obtain⟨cells,c1,c2,c3⟩:=hf;cases p with
  |nil=>rcases hp with h|⟨y,h⟩<;>simp_all
  |cons a p=>
   obtain⟨i,j⟩:=a;simp only[iM,iq,bR]at h2;obtain⟨y,a1,a2⟩:=h2;split at a1
   ·rename_i e;have e:i=0:=e;subst e;have hj:j<cells.length:=by have hlt:j<row.length:=(cT.1 a1).1;omega
    obtain⟨v0,w1,w2⟩:=(c3 j y _ a1 (cE hj)).get a2;exact⟨v0,.inr ⟨cells,j,p,_,c1,rfl,cE hj,w1⟩,by simpa using w2⟩
   ·cases a1
 |_=>rw[hs]at h1;simp[fB]at h1
def So{x':PV}(h:jz x p (iD i j xs)=J x'):x≠.au:=by
 rintro rfl;cases p with
 |nil=>simp[jz,iD]at h
 |cons a p=>simp[jz,iq]at h
def YM{y':PF}{x':PV}{p0:aA}{dR o:Nat}{v0:Value}(h:n8 E y fr s)(hr:fB y=J x)(hm:jz x p0 (iD i j xs)=J x')(hy:rI y x'=J y')
(hc:JN E E' (s,[]) p0 i j xs dR o)(hw:Wk E fr s p0 v0)(hd:Hd E (s,p0) v0 i dR o)(hf:ai s=fr s):n8 E' y' ai s:=by
 cases y with
 |v z=>
  simp only[fB,aT]at hr;subst hr;simp only[rI,aT]at hy;subst hy;obtain⟨v,h1,h2⟩:=ga h (So hm);rcases hw with⟨r,w1,w2⟩|⟨cells,j',p',y',w1,_⟩
  ·rw[h1]at w1;cases w1;exact oS (hf.trans h1) (h2.bU hm w2 (by simpa using hd) hc)
  ·rw[h1]at w1;cases w1
 |bl row=>
  simp only[fB,aT]at hr;subst hr;obtain⟨cells,c1,c2,c3⟩:=h;rcases hw with⟨r,w1,w2⟩|⟨dx,j0,p1,z,w1,w2,w3,w4⟩
  ·rw[c1]at w1;cases w1
  ·rw[c1]at w1;cases w1;subst w2;simp only[jz,iq,eP,bR,bN]at hm;obtain⟨z0,a1,z1,a2,rfl⟩:=hm;simp only[Co,rI,aT]at hy;subst hy;refine⟨cells,hf.trans c1,by simpa using c2,λj' x y g1 g2=>?_⟩;rw[C6]at g1;by_cases e:j0=j'
   ·subst e;rw[aB rfl]at g1;split at g1
    ·cases g1;rw[w3]at g2;cases g2;exact(c3 j0 z0 z a1 w3).bU (l:=(s,[(0,j0)])) a2 w4 hd hc.ch
    ·cases g1
   ·rw[az e]at g1;refine(c3 j' x y g1 g2).move hc.g λid r h1 h2=>?_
    have:=hc.d4 id ((0,j')::r) (by simpa using h1) h2 (Y7 (by simp;omega));refine⟨by simpa using this.1,this.2.1,this.2.2 λe2=>?_⟩;subst e2;have:=hd.ow.1;rw[this]at h1;simp at h1;omega
 |_=>simp[fB]at hr
def U5{row tr:List PV}{cells dx:List Value}(h:n8 E (.bl row) fr s)(hm:jL row j xs=J tr)(hc:fr s=.loc cells)(hf:ai s=.loc dx)
(hl:dx.length=cells.length)(ho:∀q,¬(j<=q/\q<j+xs.length)->dx[q]? =cells[q]?)(hg:GK E E')
(hk:∀id r,E.ow id=J (s,r)->¬E.G id->tf [] 0 j xs.length r->E'.ow id=J (s,r)/\¬E'.G id/\E'.H.b id=E.H.b id)
(hx:∀t x y,xs[t]? =J x->dx[j+t]? =J y->PR E' (J (s,[(0,j+t)])) x y):n8 E' (.bl tr) ai s:=by
 obtain⟨UQ,c1,c2,c3⟩:=h;rw[hc]at c1;cases c1;obtain⟨a1,a2,a3⟩:=yZ hm;refine⟨dx,hf,by omega,λq x y g1 g2=>?_⟩;rw[a3 q]at g1;split at g1
 ·rename_i gN;have:=hx (q-j) x y g1 (by rw[show j+(q-j)=q by omega];exact g2)
  rwa [show j+(q-j)=q by omega]at this
 ·rename_i gN;rw[ho q gN]at g2;refine(c3 q x y g1 g2).move hg λid r h1 h2=>?_
  have h1:E.ow id=J (s,(0,q)::r):=by simpa using h1
  have:=hk id _ h1 h2 (by
   intro j' r' e hh;simp only[mL,Uf,b9,o5]at e;obtain⟨rfl,_⟩:=e
   exact gN hh)
  exact⟨by simpa using this.1,this.2⟩
def aq.set(r:aq nt pin E0 E pf fr){d:Nat}{fv:FV}(hd:d<nt)(hp:∀v,(d,v)∉pin)(hg:GK E E')(hm:∀s,s<nt->s≠d->dr E E' (J (s,[])) (J (s,[])))
(iW:fZ E E')(hw:my E'.H)(mP:∀id,E'.H.n<=id->E'.ow id=ae/\¬E'.G id)(hy:n8 E' y (fr.put d fv) d)(hr:∀s,bC y=J s->s<nt):aq nt pin E0 E' (pf.put d y) (fr.put d fv):=by
 refine⟨r.since.trans iW,hw,mP,λt=>?_,λt ht=>?_,λt s h=>?_,λk v h=>?_⟩
 ·by_cases e:t=d
  ·subst e;simpa[ah.put]using hy
  ·simp only[ah.put,az e];have hf:=r.f t;by_cases ht:t<nt
   ·unfold fA;split
    ·exact True.intro
    ·rename_i hk;refine hf.stay hg (hm t ht e) (by simp[FR.put,e]) λs hs=>?_
     have gi:s≠d:=λe=>hk (by rw[hs,e])
     exact⟨by simp[FR.put,gi],KL.Ix (hm s (r.rt t s hs) gi)⟩
   ·have:=r.hi t (by omega);rw[this];have:fA d jP=jP:=by simp[fA,jP,bC]
    rw[this];exact True.intro
 ·have:t≠d:=by omega
  simp only[ah.put,az this,r.hi t ht];simp[fA,jP,bC]
 ·by_cases e:t=d
  ·subst e;simp only[ah.put,eP]at h;exact hr s h
  ·simp only[ah.put,az e]at h;unfold fA at h;split at h
   ·simp[jP,bC]at h
   ·exact r.rt t s h
 ·have hk:k≠d:=λe=>hp v (by rw[<-e];exact h)
  simpa[FR.put,hk]using r.pin k v h
def iz(pf:ah)(s:Nat)(p:aA)(y:PV):Option ah:=
 match oL p with
 |none=>J ((pf.bU s (.v y)).kill s 0)
 |some x=>mz pf s x.1 x.2.1 x.2.2 [y]
def aq.qV(r:aq nt pin E0 E pf fr){n:Nat}(hs:s<nt)(hg:GK E E')(hm:∀t,t<nt->t≠s->dr E E' (J (t,[])) (J (t,[])))
(hk:∀L,L<n->KL E E' s L)(hf:∀t,t≠s->ai t=fr t)(jC:0<n->ai s=fr s\/∃cells dx,fr s=.loc cells/\ai s=.loc dx)(iW:fZ E E')(hw:my E'.H)(mP:∀id,E'.H.n<=id->E'.ow id=ae/\¬E'.G id)
(Bx:∀cells dx,fr s=.loc cells->ai s=.loc dx->cells=dx\/n<=1)
(hy:n8 E' y ai s)(hr:bC y=ae)(jH:∀k v,(k,v)∈pin->ai k=.v v):aq nt pin E0 E' ((pf.bU s y).kill s n) ai:=by
 have Ti:∀t,t≠s->((pf.bU s y).kill s n) t=df s n (pf t):=λt ht=>by simp[ah.kill,ah.bU,ht]
 refine⟨r.since.trans iW,hw,mP,λt=>?_,λt ht=>?_,λt s' h=>?_,jH⟩
 ·by_cases e:t=s
  ·subst e;have:((pf.bU t y).kill t n) t=y:=by simp[ah.kill,ah.bU,df,hr]
   rw[this];exact hy
  ·rw[Ti t e];have LX:=r.f t;by_cases ht:t<nt
   ·unfold df;split
    ·exact True.intro
    ·rename_i hc;by_cases iw:bC (pf t)=J s
     ·have hlt:lj (pf t)<n:=Aau λcV=>hc ⟨iw,cV⟩
      rcases jC (by omega)with MT|⟨cells,dx,l1,l2⟩
      ·exact LX.stay hg (hm t ht e) (hf t e) λs' mB=>by
        rw[iw]at mB;cases mB;exact⟨MT,hk _ hlt⟩
      ·rcases Bx cells dx l1 l2 with e2|e2
       ·exact LX.stay hg (hm t ht e) (hf t e) λs' mB=>by
         rw[iw]at mB;cases mB;exact⟨by rw[l1,l2,e2],hk _ hlt⟩
       ·
        have h0:lj (pf t)=0:=by omega
        revert LX;cases aD:pf t with
        |pt s' p i j=>
         rw[aD]at iw h0;simp only[bC,aT]at iw;subst iw;simp only[lj,Ug]at h0;subst h0;rintro(⟨c0,a1,a2,a3,a4⟩|⟨v0,id,o,a1,a2,a3⟩)
         ·exact .inl ⟨dx,l2,rfl,a3,(hf t e).trans a4⟩
         ·rcases a1 with⟨r,b1,b2⟩|⟨c0,j',p',y',b1,b2,_⟩
          ·rw[l1]at b1;cases b1
          ·cases b2
        |rf s' p=>
         rw[aD]at iw h0;simp only[bC,aT]at iw;subst iw;simp only[lj,Ug]at h0;subst h0;rintro⟨v,a1,a2⟩;rcases a2 with⟨r,b1,b2⟩|⟨c0,j',p',y',b1,b2,_⟩
         ·rw[l1]at b1;cases b1
         ·cases b2
        |rv s' p lo hi=>
         rw[aD]at iw h0;simp only[bC,aT]at iw;subst iw;simp only[lj,Ug]at h0;subst h0;rintro(⟨a1,a2⟩|⟨id,off,es,n,c,a1,a2⟩)
         ·rcases a1 with⟨r,b1,b2⟩|⟨c0,j',p',y',b1,b2,_⟩
          ·rw[l1]at b1;cases b1
          ·cases b2
         ·rcases a1 with⟨r,b1,b2⟩|⟨c0,j',p',y',b1,b2,_⟩
          ·rw[l1]at b1;cases b1
          ·cases b2
        |ra s' p i j n=>rw[aD]at h0;simp[lj]at h0
        |as b s' p i j n=>rw[aD]at h0;simp[lj]at h0
        |cl s' g us=>
         rw[aD]at iw;simp only[bC,aT]at iw;subst iw;rintro⟨v,vs,a1,a2,a3⟩;rcases a2 with⟨r,b1,b2⟩|⟨c0,j',p',y',b1,b2,_⟩
         ·rw[l1]at b1;cases b1
         ·cases b2
        |_=>rw[aD]at iw;simp[bC]at iw
     ·exact LX.stay hg (hm t ht e) (hf t e) λs' mB=>by
       have hne:s'≠s:=λe=>iw (by rw[mB,e])
       exact⟨hf s' hne,KL.Ix (hm s' (r.rt t s' mB) hne)⟩
   ·have:=r.hi t (by omega);rw[this];simp only[df,jP,bC];exact True.intro
 ·have:t≠s:=by omega
  rw[Ti t this,r.hi t ht];simp[df,jP,bC]
 ·by_cases e:t=s
  ·subst e;have:((pf.bU t y).kill t n) t=y:=by simp[ah.kill,ah.bU,df,hr]
   rw[this,hr]at h;cases h
  ·rw[Ti t e]at h;exact r.rt t s' (zyF h).1
def Zp{y':PF}(h:rI y x=J y'):bC y'=ae:=by
 unfold rI at h;split at h
 ·cases h;rfl
 ·cases h;rfl
 ·cases h
def zyK:∀(p0:aA) (a:PV) (i j:Nat),iM a (p0++[(i,j)])=(iM a p0).bind λz=>iq z (i,j):=by
 intro p0;induction p0 with
 |nil=>intro a i j;simp[iM]
 |cons b p0 ih=>intro a i j;simp only[tZ,iM];cases iq a b with
  |none=>rfl
  |some z=>simp[ih]
def zxq :ce pf s (p++[(i,j)])=(ce pf s p).bind λz=>iq z (i,j):=by
 simp only[ce];cases fB (pf s)with
 |none=>rfl
 |some x=>simp[zyK]
def Wv.snoc :∀{p0:aA}{l:Nat×aA}{a b c:Value},Wv E l a p0 b->Wv E (l.1,l.2++p0) b [(i,j)] c->Wv E l a (p0++[(i,j)]) c:=by
 intro p0;induction p0 with
 |nil=>intro l a b c h1 h2;have h1:b=a:=h1;subst h1;rw[Eu]at h2;exact h2
 |cons s p0 ih=>
  obtain⟨i1,j1⟩:=s;intro l a b c h1 h2;obtain⟨id,o,k,y,a1,a2,a3,a4,a5⟩:=h1;exact⟨id,o,k,y,a1,a2,a3,a4,ih a5 (by rw[xE];exact h2)⟩
def Wk.snoc{b c:Value}(h:Wk E fr s p b)(h2:Wv E (s,p) b [(i,j)] c):Wk E fr s (p++[(i,j)]) c:=by
 rcases h with⟨q,b1,b2⟩|⟨cells,j',p',y,b1,b2,b3,b4⟩
 ·exact .inl ⟨q,b1,b2.snoc (by simpa using h2)⟩
 ·subst b2;exact .inr ⟨cells,j',p'++[(i,j)],y,b1,rfl,b3,b4.snoc (by simpa using h2)⟩
def zA7{zs:List PV}:∀{p0:aA}{x0 x1:PV},jz x0 p0 (iD i j zs)=J x1->∃x2 z,iM x0 p0=J x2/\iD i j zs x2=J z:=by
 intro p0;induction p0 with
 |nil=>intro x0 x1 h;exact⟨x0,x1,rfl,h⟩
 |cons a p0 ih=>
  intro x0 x1 h;simp only[jz,bR,bN]at h;obtain⟨z0,h1,z1,h2,rfl⟩:=h;obtain⟨x2,z,g1,g2⟩:=ih h2;exact⟨x2,z,by simp[iM,h1,g1],g2⟩
def aq.Rs(r:aq nt pin E0 E pf fr){zs:List PV}(hs:s<nt)(hne:zs≠[])(hj:mz pf s p i j zs=J pf')(hH:E'.H=E.H)(iW:fZ E E')(hg:GK E E')
(hm:∀t,t<nt->t≠s->dr E E' (J (t,[])) (J (t,[])))(mP:∀id,E.H.n<=id->E'.ow id=ae/\¬E'.G id)
(Mf:∀id q,E.ow id=J (s,q)->¬E.G id->tf p i j zs.length q->E'.ow id=J (s,q)/\¬E'.G id)
(hz:∀t z y,zs[t]? =J z->Wk E fr s (p++[(i,j+t)]) y->PR E' (J (s,p++[(i,j+t)])) z y):aq nt pin E0 E' pf' fr:=by
 have TV:∀id,E'.H.n<=id->E'.ow id=ae/\¬E'.G id:=by rw[hH];exact mP
 have C4:my E'.H:=by rw[hH];exact r.wf
 simp only[mz,bR,bN]at hj;obtain⟨x0,dA,x1,nE,y,hy,rfl⟩:=hj;have Aa6:∀id q,E.ow id=J (s,q)->¬E.G id->q.length<=p.length->E'.ow id=J (s,q)/\¬E'.G id:=λid q h1 h2 h3=>Mf id q h1 h2 (zyv h3)
 refine r.qV hs hg hm (λL hL=>⟨λid q h1 h2 hq=>Aa6 id q h1 h2 (by omega),λid q h1 h2 hq=>by rw[hH]⟩) (λ_ _=>rfl) (λ_=>.inl rfl) iW C4 TV (λ_ _ h1 h2=>.inl (by rw[h1]at h2;cases h2;rfl)) ?_ (Zp hy) r.pin;by_cases hl:∃row,pf s=.bl row/\p=[]
 ·obtain⟨row,d7,rfl⟩:=hl;rw[d7]at dA hy;simp only[fB,aT]at dA;subst dA;simp only[jz,iD]at nE;split at nE
  ·rename_i aO;subst aO;simp only[bN]at nE;obtain⟨tr,dj,rfl⟩:=nE;simp only[rI,aT]at hy;subst hy;have hf:=r.f s;rw[d7]at hf;obtain⟨cells,c1,_⟩:=id hf;refine U5 hf dj c1 c1 rfl (λ_ _=>rfl) hg (λid q h1 h2 h3=>⟨(Mf id q h1 h2 h3).1,(Mf id q h1 h2 h3).2,by rw[hH]⟩) λt x y h1 h2=>?_
   exact hz t x y h1 (.inr ⟨cells,j+t,[],y,c1,rfl,h2,rfl⟩)
  ·cases nE
 ·obtain⟨x2,z2,BR,zd⟩:=zA7 nE;have AaX:x2≠.au:=by rintro rfl;simp[iD]at zd
  have hx2:ce pf s p=J x2:=by simp[ce,dA,BR]
  have Abg:p≠[]\/∃y,pf s=.v y:=by
   by_cases h0:p=[]
   ·right;cases fI:pf s with
    |v y=>exact⟨y,rfl⟩
    |bl row=>exact absurd ⟨row,fI,h0⟩ hl
    |_=>rw[fI]at dA;simp[fB]at dA
   ·exact .inl h0
  obtain⟨v2,w2,pr2⟩:=r.at hx2 AaX Abg
  have hhd:∃id o k,Hd E (s,p) v2 i id o/\E.H.b id=J k/\∀t,t<zs.length->∀y,k.cells[o+j+t]? =J y->Wv E (s,p) v2 [(i,j+t)] y:=by
   cases pr2 with
   | @fk _ id off es n c k rows how hG hb bc hn hc hm hr hl hh=>
    simp only[iD,bR,bN]at zd;obtain⟨r0,a1,r1,a2,_⟩:=zd;have hi:i<n:=by have:=(cT.1 a1).1;omega
    have hlen:=(yZ a2).2.1 hne;have dE:=hr r0 (eo a1);refine⟨id,_,k,.sl (j:=j) how hG hi,hb,λt ht y hy=>⟨id,off+i*es,k,y,.sl (j:=j) how hG hi,?_,hb,by rw[<-iN];exact hy,rfl⟩⟩;rintro bw ⟨_,_,_,e⟩;cases e;omega
   | @bx _ id k row how hG hb bc hl hh=>
    simp only[iD]at zd;split at zd
    ·rename_i e;subst e;refine⟨id,0,k,.bx how hG,hb,λt ht y hy=>⟨id,0,k,y,.bx how hG,?_,hb,by rw[<-iN];exact hy,rfl⟩⟩;rintro bw ⟨_,_,_,e⟩;cases e
    ·cases zd
   |sl0 ob es=>cases ob<;>simp[iD]at zd
   |_=>simp[iD]at zd
  obtain⟨dR,o,k0,hd,yo,Ae⟩:=hhd;refine YM (r.f s) dA nE hy ⟨hg,λid q h1 h2 h3=>?_,λk hk=>?_⟩ w2 hd rfl
  ·have h1:E.ow id=J (s,q):=by simpa using h1
   have:=Mf id q h1 h2 h3;exact⟨by simpa using this.1,this.2,λ_=>by rw[hH]⟩
  ·refine⟨k,by rw[hH];exact hk,rfl,rfl,λ_ _=>rfl,λt x y h1 h2=>?_⟩;rw[yo]at hk;cases hk;have ht:t<zs.length:=(cT.1 h1).1;simpa using hz t x y h1 (w2.snoc (Ae t ht y h2))
def aq.setAt(r:aq nt pin E0 E pf fr){z:PV}(hs:s<nt)(hw:Wk E fr s p v)
(hj:iz pf s p z=J pf')(hH:E'.H=E.H)(iW:fZ E E')(hg:GK E E')(hm:∀t,t<nt->t≠s->dr E E' (J (t,[])) (J (t,[])))(mP:∀id,E.H.n<=id->E'.ow id=ae/\¬E'.G id)
(D3:∀id q,E.ow id=J (s,q)->¬E.G id->¬p<+:q->E'.ow id=J (s,q)/\¬E'.G id)(hz:PR E' (J (s,p)) z v):aq nt pin E0 E' pf' fr:=by
 unfold iz at hj;split at hj
 ·rename_i A7;have:=zuv A7;subst this;cases hj;have TV:∀id,E'.H.n<=id->E'.ow id=ae/\¬E'.G id:=by rw[hH];exact mP
  have C4:my E'.H:=by rw[hH];exact r.wf
  have hv:fr s=.v v:=by
   rcases hw with⟨q,w1,w2⟩|⟨cells,j',p',y,w1,w2,_⟩
   ·rw[w1];have:v=q:=w2;rw[this]
   ·cases w2
  exact r.qV hs hg hm (λL hL=>absurd hL (A0 _)) (λ_ _=>rfl) (λh=>absurd h (yz _)) iW C4 TV (λ_ _ h1 h2=>.inl (by rw[h1]at h2;cases h2;rfl)) (oS hv hz) rfl r.pin
 ·rename_i c A7;obtain⟨p0,i,j⟩:=c;have MN:=zug A7;simp only at MN hj;refine r.Rs hs (by simp) hj hH iW hg hm mP (λid q h1 h2 h3=>D3 id q h1 h2 ?_) λt z' y h1 h2=>?_
  ·rintro⟨t,rfl⟩;rw[MN]at h3;exact h3 j t (by simp) ⟨cy _,by simp⟩
  ·cases t with
   |zero=>
    simp at h1;subst h1;rw[rb]at h2⊢;rw[<-MN]at h2⊢;rw[h2.same hw];exact hz
   |succ t=>simp at h1
def nD{f:Nat×aA->Option (Nat×aA)}:fZ E (E.rl f):=⟨cy _,dO,λid _ h=>⟨by simp[Env.rl,h],rfl,λh=>h⟩⟩
def eb.snoc(h:eb nt E fl)(hx:PR E (J (nt,[(0,fl.length)])) x v):eb nt E (fl++[(x,v)]):=by
 intro k y v' hk;by_cases hlt:k<fl.length
 ·rw[fw hlt]at hk;exact h k y v' hk
 ·rw[fT (by omega)]at hk
  have oI:k-fl.length=0:=by
   have:=(cT.1 hk).1;simp at this;omega
  rw[oI]at hk;simp at hk;obtain⟨rfl,rfl⟩:=hk;have:k=fl.length:=by omega
  rw[this];exact hx
def eb.stay(h:eb nt E fl)(hg:GK E E')(hm:dr E E' (J (nt,[])) (J (nt,[]))):eb nt E' fl:=λk x v hk=>(h k x v hk).move hg (dr.ch (l:=J (nt,[])) (l':=J (nt,[])) hm 0 k)
def aq.M8(r:aq nt pin E0 E pf fr)(hfl:eb nt E fl)(hs:s<nt)(h:ce pf s p=J x)(hx:x≠.au)(hp:p≠[]\/∃y,pf s=.v y)
(hj:iz pf s p .au=J pf'):∃v E',Wk E fr s p v/\E'.H=E.H/\aq nt pin E0 E' pf' fr/\eb nt E' (fl++[(x,v)]):=by
 obtain⟨v,hw,hv⟩:=r.at h hx hp;refine⟨v,E.rl (fa (s,p) (nt,[(0,fl.length)])),hw,rfl,?_,?_⟩
 ·refine r.setAt hs hw hj rfl nD dO (λt _ ht=>iR λr=>kF ht) (λid bY=>?_) (λid q h1 h2 h3=>?_) (.au v)
  ·obtain⟨h1,h2⟩:=r.fresh id bY;exact⟨by simp[Env.rl,h1],h2⟩
  ·exact⟨by simp[Env.rl,h1,fa,h3],h2⟩
 ·exact(hfl.stay dO (iR λr=>kF (by show nt≠s;omega))).snoc (hv.move dO (lq λr=>zgr _ _ r))
def Env.fz(E:Env)(a:Nat×aA):Env:={E with G:=λid=>E.G id\/∃r,E.ow id=J (a.1,a.2++r)}
def pP :GK E (E.fz a):=λ_ h=>⟨.inl h,λk hk=>⟨k,hk,rfl⟩⟩
def FA :fZ E (E.fz a):=⟨cy _,pP,λid _ h=>⟨h,rfl,by
 rintro(h3|⟨r,h3⟩)
 ·exact h3
 ·rw[h]at h3;cases h3⟩⟩
def M2 :yg E (E.fz a) (J a):=λ_ r h1 _=>⟨.inr ⟨r,h1⟩,λk hk=>⟨k,hk,rfl⟩⟩
def yW{c:Nat×aA}(h:c.1≠a.1):dr E (E.fz a) (J c) (J c):=λid r h1 h2=>⟨h1,by
 rintro(h3|⟨r',h3⟩)
 ·exact h2 h3
 ·rw[h1,aT,b9]at h3
  exact h h3.1,rfl⟩
def aq.Ei(r:aq nt pin E0 E pf fr)(hs:s<nt)(h:ce pf s p=J x)(hx:x≠.au)(hp:p≠[]\/∃y,pf s=.v y)
(hj:iz pf s p (drop x)=J pf'):∃v,Wk E fr s p v/\aq nt pin E0 (E.fz (s,p)) pf' fr/\PR (E.fz (s,p)) ae (drop x) v:=by
 obtain⟨v,hw,hv⟩:=r.at h hx hp;have hd:PR (E.fz (s,p)) ae (drop x) v:=hv.freeze pP M2;refine⟨v,hw,?_,hd⟩;refine r.setAt hs hw hj rfl FA pP (λt _ ht=>yW ht) (λid bY=>?_) (λid q h1 h2 h3=>?_) hd.up
 ·obtain⟨h1,h2⟩:=r.fresh id bY;refine⟨h1,?_⟩;rintro(h3|⟨r',h3⟩)
  ·exact h2 h3
  ·rw[h1]at h3;cases h3
 ·refine⟨h1,?_⟩;rintro(h4|⟨r',h4⟩)
  ·exact h2 h4
  ·rw[h1]at h4;cases h4;exact h3 (List.prefix_append _ _)
end
end Go.Pm
