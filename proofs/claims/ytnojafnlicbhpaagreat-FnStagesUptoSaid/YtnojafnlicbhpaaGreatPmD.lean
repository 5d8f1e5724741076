import Derived.Test.YtnojafnlicbhpaaGreatPmC
open Option renaming none→ae,some→J
set_option linter.defProp false
namespace Go.Pm
open Go.Am
def zB:=@Nat.lt_irrefl
def B0:=@Nat.not_lt_zero
def V4:=@List.length_eq_zero_iff
def oV:aC->Option (aC×Nat×Nat)
 |[]=>ae
 |[a]=>J ([],a.1,a.2)
 |a::b::r=>(oV (b::r)).map λx=>(a::x.1,x.2)
def zuJ{p:aC}(h:oV p=ae):p=[]:=by
 induction p with
 |nil=>rfl
 |cons a p ih=>
  cases p with
  |nil=>simp[oV]at h
  |cons b r=>simp only[oV,Option.map_eq_none_iff]at h;have:=ih h;cases this
def zuL{p:aC}{x:aC×Nat×Nat}(h:oV p=J x):p=x.1++[x.2]:=by
 induction p generalizing x with
 |nil=>simp[oV]at h
 |cons a p ih=>
  cases p with
  |nil=>simp only[oV,aT]at h;subst h;rfl
  |cons b r=>
   simp only[oV,bP]at h;obtain⟨y,h1,rfl⟩:=h;have:=ih h1;simp[this]
section
variable {nt:Nat}{pin:List (Nat×Value)}{E0 E E':Env}{pf:ah}{fr ak:FR}
def ep(nt:Nat)(E:Env)(fl:List (PV×Value)):Prop:=∀k x v,fl[k]? =J (x,v)->PR E (J (nt,[(0,k)])) x v
structure av (nt:Nat) (pin:List (Nat×Value)) (E0 E:Env) (pf:ah) (fr:FR):Prop where
 since:gn E0 E
 wf:mJ E.H
 fresh:∀id,E.H.n<=id->E.ow id=ae/\¬E.G id
 f:∀t,oL E (pf t) fr t
 hi:∀t,nt<=t->pf t=jP
 rt:∀t s,bE (pf t)=J s->s<nt
 pin:∀k v,(k,v)∈pin->fr k=.v v
variable{a:Nat×aC}{fl:List (PV×Value)}{i j s:Nat}{p:aC}{pf':ah}{v:Value}{x:PV}{xs:List PV}{y:PF}
def gA{t:Nat}(h:oL E (.v x) fr t)(hx:x≠.ax):∃v,fr t=.v v/\PR E (J (t,[])) x v:=by
 cases x with
 |ax=>exact absurd rfl hx
 |_=>exact h
def o9{t:Nat}(h:fr t=.v v)(h':PR E (J (t,[])) x v):oL E (.v x) fr t:=by
 cases x with
 |ax=>exact True.intro
 |_=>exact⟨v,h,h'⟩
def av.at(r:av nt pin E0 E pf fr)(h:cn pf s p=J x)(hx:x≠.ax)(hp:p≠[]\/∃y,pf s=.v y):∃v,Wk E fr s p v/\PR E (J (s,p)) x v:=by
 have hf:=r.f s;simp only[cn,bW]at h;obtain⟨y,h1,h2⟩:=h;cases hs:pf s with
 |v z=>
  rw[hs]at h1 hf;simp only[fV,aT]at h1;subst h1
  have hz:z≠.ax:=by
   rintro rfl;cases p with
   |nil=>simp only[jb,aT]at h2;exact hx h2.symm
   |cons a p=>simp[jb,iM]at h2
  obtain⟨v,h3,h4⟩:=gA hf hz;obtain⟨v0,w1,w2⟩:=h4.get h2;exact⟨v0,.inl ⟨v,h3,w1⟩,by simpa using w2⟩
 |bl row=>
  rw[hs]at h1 hf;simp only[fV,aT]at h1;subst h1;obtain⟨cells,c1,c2,c3⟩:=hf;cases p with
  |nil=>rcases hp with h|⟨y,h⟩<;>simp_all
  |cons a p=>
   obtain⟨i,j⟩:=a;simp only[jb,iM,bW]at h2;obtain⟨y,a1,a2⟩:=h2;split at a1
   ·rename_i e;have e:i=0:=e;subst e;have hj:j<cells.length:=by have hlt:j<row.length:=(cY.1 a1).1;omega
    obtain⟨v0,w1,w2⟩:=(c3 j y _ a1 (cJ hj)).get a2;exact⟨v0,.inr ⟨cells,j,p,_,c1,rfl,cJ hj,w1⟩,by simpa using w2⟩
   ·cases a1
 |_=>rw[hs]at h1;simp[fV]at h1
def VT{x':PV}(h:jM x p (i9 i j xs)=J x'):x≠.ax:=by
 rintro rfl;cases p with
 |nil=>simp[jM,i9]at h
 |cons a p=>simp[jM,iM]at h
def zuX{y':PF}{x':PV}{p0:aC}{dS o:Nat}{v0:Value}(h:oL E y fr s)(hr:fV y=J x)(hm:jM x p0 (i9 i j xs)=J x')(hy:sB y x'=J y')
(hc:La E E' (s,[]) p0 i j xs dS o)(hw:Wk E fr s p0 v0)(hd:Hd E (s,p0) v0 i dS o)(hf:ak s=fr s):oL E' y' ak s:=by
 cases y with
 |v z=>
  simp only[fV,aT]at hr;subst hr;simp only[sB,aT]at hy;subst hy;obtain⟨v,h1,h2⟩:=gA h (VT hm);rcases hw with⟨r,w1,w2⟩|⟨cells,j',p',y',w1,_⟩
  ·rw[h1]at w1;cases w1;exact o9 (hf.trans h1) (h2.bY hm w2 (by simpa using hd) hc)
  ·rw[h1]at w1;cases w1
 |bl row=>
  simp only[fV,aT]at hr;subst hr;obtain⟨cells,c1,c2,c3⟩:=h;rcases hw with⟨r,w1,w2⟩|⟨dF,j0,p1,z,w1,w2,w3,w4⟩
  ·rw[c1]at w1;cases w1
  ·rw[c1]at w1;cases w1;subst w2;simp only[jM,iM,e9,bW,bP]at hm;obtain⟨z0,a1,z1,a2,rfl⟩:=hm;simp only[De,sB,aT]at hy;subst hy;refine⟨cells,hf.trans c1,by simpa using c2,λj' x y g1 g2=>?_⟩;rw[Es]at g1;by_cases e:j0=j'
   ·subst e;rw[aD rfl]at g1;split at g1
    ·cases g1;rw[w3]at g2;cases g2;exact(c3 j0 z0 z a1 w3).bY (l:=(s,[(0,j0)])) a2 w4 hd hc.ch
    ·cases g1
   ·rw[aB e]at g1;refine(c3 j' x y g1 g2).move hc.g λid r h1 h2=>?_
    have:=hc.eb id ((0,j')::r) (by simpa using h1) h2 (Xi (by simp;omega));refine⟨by simpa using this.1,this.2.1,this.2.2 λe2=>?_⟩;subst e2;have:=hd.ow.1;rw[this]at h1;simp at h1;omega
 |_=>simp[fV]at hr
def zoU{row tE:List PV}{cells dF:List Value}(h:oL E (.bl row) fr s)(hm:ke row j xs=J tE)(hc:fr s=.loc cells)(hf:ak s=.loc dF)
(hl:dF.length=cells.length)(ho:∀q,¬(j<=q/\q<j+xs.length)->dF[q]? =cells[q]?)(hg:GK E E')
(hk:∀id r,E.ow id=J (s,r)->¬E.G id->tV [] 0 j xs.length r->E'.ow id=J (s,r)/\¬E'.G id/\E'.H.b id=E.H.b id)
(hx:∀t x y,xs[t]? =J x->dF[j+t]? =J y->PR E' (J (s,[(0,j+t)])) x y):oL E' (.bl tE) ak s:=by
 obtain⟨Xt,c1,c2,c3⟩:=h;rw[hc]at c1;cases c1;obtain⟨a1,a2,a3⟩:=Bh hm;refine⟨dF,hf,by omega,λq x y g1 g2=>?_⟩;rw[a3 q]at g1;split at g1
 ·rename_i hO;have:=hx (q-j) x y g1 (by rw[show j+(q-j)=q by omega];exact g2)
  rwa [show j+(q-j)=q by omega]at this
 ·rename_i hO;rw[ho q hO]at g2;refine(c3 q x y g1 g2).move hg λid r h1 h2=>?_
  have h1:E.ow id=J (s,(0,q)::r):=by simpa using h1
  have:=hk id _ h1 h2 (by
   intro j' r' e hh;simp only[na,V3,cg,pM]at e;obtain⟨rfl,_⟩:=e
   exact hO hh)
  exact⟨by simpa using this.1,this.2⟩
def av.set(r:av nt pin E0 E pf fr){d:Nat}{fv:FV}(hd:d<nt)(hp:∀v,(d,v)∉pin)(hg:GK E E')(hm:∀s,s<nt->s≠d->dC E E' (J (s,[])) (J (s,[])))
(jf:gn E E')(hw:mJ E'.H)(nz:∀id,E'.H.n<=id->E'.ow id=ae/\¬E'.G id)(hy:oL E' y (fr.put d fv) d)(hr:∀s,bE y=J s->s<nt):av nt pin E0 E' (pf.put d y) (fr.put d fv):=by
 refine⟨r.since.trans jf,hw,nz,λt=>?_,λt ht=>?_,λt s h=>?_,λk v h=>?_⟩
 ·by_cases e:t=d
  ·subst e;simpa[ah.put]using hy
  ·simp only[ah.put,aB e];have hf:=r.f t;by_cases ht:t<nt
   ·unfold fS;split
    ·exact True.intro
    ·rename_i hk;refine hf.stay hg (hm t ht e) (by simp[FR.put,e]) λs hs=>?_
     have gy:s≠d:=λe=>hk (by rw[hs,e])
     exact⟨by simp[FR.put,gy],KL.J8 (hm s (r.rt t s hs) gy)⟩
   ·have:=r.hi t (by omega);rw[this];have:fS d jP=jP:=by simp[fS,jP,bE]
    rw[this];exact True.intro
 ·have:t≠d:=by omega
  simp only[ah.put,aB this,r.hi t ht];simp[fS,jP,bE]
 ·by_cases e:t=d
  ·subst e;simp only[ah.put,e9]at h;exact hr s h
  ·simp only[ah.put,aB e]at h;unfold fS at h;split at h
   ·simp[jP,bE]at h
   ·exact r.rt t s h
 ·have hk:k≠d:=λe=>hp v (by rw[<-e];exact h)
  simpa[FR.put,hk]using r.pin k v h
def iC(pf:ah)(s:Nat)(p:aC)(y:PV):Option ah:=
 match oV p with
 |none=>J ((pf.bY s (.v y)).kill s 0)
 |some x=>mT pf s x.1 x.2.1 x.2.2 [y]
def av.rK(r:av nt pin E0 E pf fr){n:Nat}(hs:s<nt)(hg:GK E E')(hm:∀t,t<nt->t≠s->dC E E' (J (t,[])) (J (t,[])))
(hk:∀L,L<n->KL E E' s L)(hf:∀t,t≠s->ak t=fr t)(jL:0<n->ak s=fr s\/∃cells dF,fr s=.loc cells/\ak s=.loc dF)(jf:gn E E')(hw:mJ E'.H)(nz:∀id,E'.H.n<=id->E'.ow id=ae/\¬E'.G id)
(Ee:∀cells dF,fr s=.loc cells->ak s=.loc dF->cells=dF\/n<=1)
(hy:oL E' y ak s)(hr:bE y=ae)(jY:∀k v,(k,v)∈pin->ak k=.v v):av nt pin E0 E' ((pf.bY s y).kill s n) ak:=by
 have Sj:∀t,t≠s->((pf.bY s y).kill s n) t=dr s n (pf t):=λt ht=>by simp[ah.kill,ah.bY,ht]
 refine⟨r.since.trans jf,hw,nz,λt=>?_,λt ht=>?_,λt s' h=>?_,jY⟩
 ·by_cases e:t=s
  ·subst e;have:((pf.bY t y).kill t n) t=y:=by simp[ah.kill,ah.bY,dr,hr]
   rw[this];exact hy
  ·rw[Sj t e];have O2:=r.f t;by_cases ht:t<nt
   ·unfold dr;split
    ·exact True.intro
    ·rename_i hc;by_cases jr:bE (pf t)=J s
     ·have hlt:lG (pf t)<n:=a1m λda=>hc ⟨jr,da⟩
      rcases jL (by omega)with Of|⟨cells,dF,l1,l2⟩
      ·exact O2.stay hg (hm t ht e) (hf t e) λs' mW=>by
        rw[jr]at mW;cases mW;exact⟨Of,hk _ hlt⟩
      ·rcases Ee cells dF l1 l2 with e2|e2
       ·exact O2.stay hg (hm t ht e) (hf t e) λs' mW=>by
         rw[jr]at mW;cases mW;exact⟨by rw[l1,l2,e2],hk _ hlt⟩
       ·
        have h0:lG (pf t)=0:=by omega
        revert O2;cases aF:pf t with
        |pt s' p i j=>
         rw[aF]at jr h0;simp only[bE,aT]at jr;subst jr;simp only[lG,V4]at h0;subst h0;rintro(⟨c0,a1,a2,a3,a4⟩|⟨v0,id,o,a1,a2,a3⟩)
         ·exact .inl ⟨dF,l2,rfl,a3,(hf t e).trans a4⟩
         ·rcases a1 with⟨r,b1,b2⟩|⟨c0,j',p',y',b1,b2,_⟩
          ·rw[l1]at b1;cases b1
          ·cases b2
        |rf s' p=>
         rw[aF]at jr h0;simp only[bE,aT]at jr;subst jr;simp only[lG,V4]at h0;subst h0;rintro⟨v,a1,a2⟩;rcases a2 with⟨r,b1,b2⟩|⟨c0,j',p',y',b1,b2,_⟩
         ·rw[l1]at b1;cases b1
         ·cases b2
        |rv s' p lo hi=>
         rw[aF]at jr h0;simp only[bE,aT]at jr;subst jr;simp only[lG,V4]at h0;subst h0;rintro(⟨a1,a2⟩|⟨id,off,es,n,c,a1,a2⟩)
         ·rcases a1 with⟨r,b1,b2⟩|⟨c0,j',p',y',b1,b2,_⟩
          ·rw[l1]at b1;cases b1
          ·cases b2
         ·rcases a1 with⟨r,b1,b2⟩|⟨c0,j',p',y',b1,b2,_⟩
          ·rw[l1]at b1;cases b1
          ·cases b2
        |ra s' p i j n=>rw[aF]at h0;simp[lG]at h0
        |as b s' p i j n=>rw[aF]at h0;simp[lG]at h0
        |cl s' g us=>
         rw[aF]at jr;simp only[bE,aT]at jr;subst jr;rintro⟨v,vs,a1,a2,a3⟩;rcases a2 with⟨r,b1,b2⟩|⟨c0,j',p',y',b1,b2,_⟩
         ·rw[l1]at b1;cases b1
         ·cases b2
        |_=>rw[aF]at jr;simp[bE]at jr
     ·exact O2.stay hg (hm t ht e) (hf t e) λs' mW=>by
       have hne:s'≠s:=λe=>jr (by rw[mW,e])
       exact⟨hf s' hne,KL.J8 (hm s' (r.rt t s' mW) hne)⟩
   ·have:=r.hi t (by omega);rw[this];simp only[dr,jP,bE];exact True.intro
 ·have:t≠s:=by omega
  rw[Sj t this,r.hi t ht];simp[dr,jP,bE]
 ·by_cases e:t=s
  ·subst e;have:((pf.bY t y).kill t n) t=y:=by simp[ah.kill,ah.bY,dr,hr]
   rw[this,hr]at h;cases h
  ·rw[Sj t e]at h;exact r.rt t s' (zxm h).1
def znL{y':PF}(h:sB y x=J y'):bE y'=ae:=by
 unfold sB at h;split at h
 ·cases h;rfl
 ·cases h;rfl
 ·cases h
def zzM:∀(p0:aC) (a:PV) (i j:Nat),jb a (p0++[(i,j)])=(jb a p0).bind λz=>iM z (i,j):=by
 intro p0;induction p0 with
 |nil=>intro a i j;simp[jb]
 |cons b p0 ih=>intro a i j;simp only[uJ,jb];cases iM a b with
  |none=>rfl
  |some z=>simp[ih]
def zyB :cn pf s (p++[(i,j)])=(cn pf s p).bind λz=>iM z (i,j):=by
 simp only[cn];cases fV (pf s)with
 |none=>rfl
 |some x=>simp[zzM]
def Wv.snoc :∀{p0:aC}{l:Nat×aC}{a b c:Value},Wv E l a p0 b->Wv E (l.1,l.2++p0) b [(i,j)] c->Wv E l a (p0++[(i,j)]) c:=by
 intro p0;induction p0 with
 |nil=>intro l a b c h1 h2;have h1:b=a:=h1;subst h1;rw[Gh]at h2;exact h2
 |cons s p0 ih=>
  obtain⟨i1,j1⟩:=s;intro l a b c h1 h2;obtain⟨id,o,k,y,a1,a2,a3,a4,a5⟩:=h1;exact⟨id,o,k,y,a1,a2,a3,a4,ih a5 (by rw[zo];exact h2)⟩
def Wk.snoc{b c:Value}(h:Wk E fr s p b)(h2:Wv E (s,p) b [(i,j)] c):Wk E fr s (p++[(i,j)]) c:=by
 rcases h with⟨q,b1,b2⟩|⟨cells,j',p',y,b1,b2,b3,b4⟩
 ·exact .inl ⟨q,b1,b2.snoc (by simpa using h2)⟩
 ·subst b2;exact .inr ⟨cells,j',p'++[(i,j)],y,b1,rfl,b3,b4.snoc (by simpa using h2)⟩
def zA0{zs:List PV}:∀{p0:aC}{x0 x1:PV},jM x0 p0 (i9 i j zs)=J x1->∃x2 z,jb x0 p0=J x2/\i9 i j zs x2=J z:=by
 intro p0;induction p0 with
 |nil=>intro x0 x1 h;exact⟨x0,x1,rfl,h⟩
 |cons a p0 ih=>
  intro x0 x1 h;simp only[jM,bW,bP]at h;obtain⟨z0,h1,z1,h2,rfl⟩:=h;obtain⟨x2,z,g1,g2⟩:=ih h2;exact⟨x2,z,by simp[jb,h1,g1],g2⟩
def av.SK(r:av nt pin E0 E pf fr){zs:List PV}(hs:s<nt)(hne:zs≠[])(hj:mT pf s p i j zs=J pf')(hH:E'.H=E.H)(jf:gn E E')(hg:GK E E')
(hm:∀t,t<nt->t≠s->dC E E' (J (t,[])) (J (t,[])))(nz:∀id,E.H.n<=id->E'.ow id=ae/\¬E'.G id)
(NF:∀id q,E.ow id=J (s,q)->¬E.G id->tV p i j zs.length q->E'.ow id=J (s,q)/\¬E'.G id)
(hz:∀t z y,zs[t]? =J z->Wk E fr s (p++[(i,j+t)]) y->PR E' (J (s,p++[(i,j+t)])) z y):av nt pin E0 E' pf' fr:=by
 have TK:∀id,E'.H.n<=id->E'.ow id=ae/\¬E'.G id:=by rw[hH];exact nz
 have DS:mJ E'.H:=by rw[hH];exact r.wf
 simp only[mT,bW,bP]at hj;obtain⟨x0,dD,x1,nT,y,hy,rfl⟩:=hj;have a1I:∀id q,E.ow id=J (s,q)->¬E.G id->q.length<=p.length->E'.ow id=J (s,q)/\¬E'.G id:=λid q h1 h2 h3=>NF id q h1 h2 (zx8 h3)
 refine r.rK hs hg hm (λL hL=>⟨λid q h1 h2 hq=>a1I id q h1 h2 (by omega),λid q h1 h2 hq=>by rw[hH]⟩) (λ_ _=>rfl) (λ_=>.inl rfl) jf DS TK (λ_ _ h1 h2=>.inl (by rw[h1]at h2;cases h2;rfl)) ?_ (znL hy) r.pin;by_cases hl:∃row,pf s=.bl row/\p=[]
 ·obtain⟨row,en,rfl⟩:=hl;rw[en]at dD hy;simp only[fV,aT]at dD;subst dD;simp only[jM,i9]at nT;split at nT
  ·rename_i Co;subst Co;simp only[bP]at nT;obtain⟨tE,dv,rfl⟩:=nT;simp only[sB,aT]at hy;subst hy;have hf:=r.f s;rw[en]at hf;obtain⟨cells,c1,_⟩:=id hf;refine zoU hf dv c1 c1 rfl (λ_ _=>rfl) hg (λid q h1 h2 h3=>⟨(NF id q h1 h2 h3).1,(NF id q h1 h2 h3).2,by rw[hH]⟩) λt x y h1 h2=>?_
   exact hz t x y h1 (.inr ⟨cells,j+t,[],y,c1,rfl,h2,rfl⟩)
  ·cases nT
 ·obtain⟨x2,z2,Us,zY⟩:=zA0 nT;have a4r:x2≠.ax:=by rintro rfl;simp[i9]at zY
  have hx2:cn pf s p=J x2:=by simp[cn,dD,Us]
  have a3z:p≠[]\/∃y,pf s=.v y:=by
   by_cases h0:p=[]
   ·right;cases fW:pf s with
    |v y=>exact⟨y,rfl⟩
    |bl row=>exact absurd ⟨row,fW,h0⟩ hl
    |_=>rw[fW]at dD;simp[fV]at dD
   ·exact .inl h0
  obtain⟨v2,w2,pr2⟩:=r.at hx2 a4r a3z
  have hhd:∃id o k,Hd E (s,p) v2 i id o/\E.H.b id=J k/\∀t,t<zs.length->∀y,k.cells[o+j+t]? =J y->Wv E (s,p) v2 [(i,j+t)] y:=by
   cases pr2 with
   | @fK _ id off es n c k rows how hG hb bc hn hc hm hr hl hh=>
    simp only[i9,bW,bP]at zY;obtain⟨r0,a1,r1,a2,_⟩:=zY;have hi:i<n:=by have:=(cY.1 a1).1;omega
    have hlen:=(Bh a2).2.1 hne;have si:=hr r0 (eA a1);refine⟨id,_,k,.sl (j:=j) how hG hi,hb,λt ht y hy=>⟨id,off+i*es,k,y,.sl (j:=j) how hG hi,?_,hb,by rw[<-jc];exact hy,rfl⟩⟩;rintro bA ⟨_,_,_,e⟩;cases e;omega
   | @bx _ id k row how hG hb bc hl hh=>
    simp only[i9]at zY;split at zY
    ·rename_i e;subst e;refine⟨id,0,k,.bx how hG,hb,λt ht y hy=>⟨id,0,k,y,.bx how hG,?_,hb,by rw[<-jc];exact hy,rfl⟩⟩;rintro bA ⟨_,_,_,e⟩;cases e
    ·cases zY
   |sl0 ob es=>cases ob<;>simp[i9]at zY
   |_=>simp[i9]at zY
  obtain⟨dS,o,k0,hd,yA,BN⟩:=hhd;refine zuX (r.f s) dD nT hy ⟨hg,λid q h1 h2 h3=>?_,λk hk=>?_⟩ w2 hd rfl
  ·have h1:E.ow id=J (s,q):=by simpa using h1
   have:=NF id q h1 h2 h3;exact⟨by simpa using this.1,this.2,λ_=>by rw[hH]⟩
  ·refine⟨k,by rw[hH];exact hk,rfl,rfl,λ_ _=>rfl,λt x y h1 h2=>?_⟩;rw[yA]at hk;cases hk;have ht:t<zs.length:=(cY.1 h1).1;simpa using hz t x y h1 (w2.snoc (BN t ht y h2))
def av.setAt(r:av nt pin E0 E pf fr){z:PV}(hs:s<nt)(hw:Wk E fr s p v)
(hj:iC pf s p z=J pf')(hH:E'.H=E.H)(jf:gn E E')(hg:GK E E')(hm:∀t,t<nt->t≠s->dC E E' (J (t,[])) (J (t,[])))(nz:∀id,E.H.n<=id->E'.ow id=ae/\¬E'.G id)
(Hf:∀id q,E.ow id=J (s,q)->¬E.G id->¬p<+:q->E'.ow id=J (s,q)/\¬E'.G id)(hz:PR E' (J (s,p)) z v):av nt pin E0 E' pf' fr:=by
 unfold iC at hj;split at hj
 ·rename_i DC;have:=zuJ DC;subst this;cases hj;have TK:∀id,E'.H.n<=id->E'.ow id=ae/\¬E'.G id:=by rw[hH];exact nz
  have DS:mJ E'.H:=by rw[hH];exact r.wf
  have hv:fr s=.v v:=by
   rcases hw with⟨q,w1,w2⟩|⟨cells,j',p',y,w1,w2,_⟩
   ·rw[w1];have:v=q:=w2;rw[this]
   ·cases w2
  exact r.rK hs hg hm (λL hL=>absurd hL (B0 _)) (λ_ _=>rfl) (λh=>absurd h (zB _)) jf DS TK (λ_ _ h1 h2=>.inl (by rw[h1]at h2;cases h2;rfl)) (o9 hv hz) rfl r.pin
 ·rename_i c DC;obtain⟨p0,i,j⟩:=c;have OB:=zuL DC;simp only at OB hj;refine r.SK hs (by simp) hj hH jf hg hm nz (λid q h1 h2 h3=>Hf id q h1 h2 ?_) λt z' y h1 h2=>?_
  ·rintro⟨t,rfl⟩;rw[OB]at h3;exact h3 j t (by simp) ⟨cB _,by simp⟩
  ·cases t with
   |zero=>
    simp at h1;subst h1;rw[rQ]at h2⊢;rw[<-OB]at h2⊢;rw[h2.same hw];exact hz
   |succ t=>simp at h1
def oi{f:Nat×aC->Option (Nat×aC)}:gn E (E.rl f):=⟨cB _,dU,λid _ h=>⟨by simp[Env.rl,h],rfl,λh=>h⟩⟩
def ep.snoc(h:ep nt E fl)(hx:PR E (J (nt,[(0,fl.length)])) x v):ep nt E (fl++[(x,v)]):=by
 intro k y v' hk;by_cases hlt:k<fl.length
 ·rw[fM hlt]at hk;exact h k y v' hk
 ·rw[gj (by omega)]at hk
  have o8:k-fl.length=0:=by
   have:=(cY.1 hk).1;simp at this;omega
  rw[o8]at hk;simp at hk;obtain⟨rfl,rfl⟩:=hk;have:k=fl.length:=by omega
  rw[this];exact hx
def ep.stay(h:ep nt E fl)(hg:GK E E')(hm:dC E E' (J (nt,[])) (J (nt,[]))):ep nt E' fl:=λk x v hk=>(h k x v hk).move hg (dC.ch (l:=J (nt,[])) (l':=J (nt,[])) hm 0 k)
def av.P5(r:av nt pin E0 E pf fr)(hfl:ep nt E fl)(hs:s<nt)(h:cn pf s p=J x)(hx:x≠.ax)(hp:p≠[]\/∃y,pf s=.v y)
(hj:iC pf s p .ax=J pf'):∃v E',Wk E fr s p v/\E'.H=E.H/\av nt pin E0 E' pf' fr/\ep nt E' (fl++[(x,v)]):=by
 obtain⟨v,hw,hv⟩:=r.at h hx hp;refine⟨v,E.rl (fq (s,p) (nt,[(0,fl.length)])),hw,rfl,?_,?_⟩
 ·refine r.setAt hs hw hj rfl oi dU (λt _ ht=>jh λr=>lq ht) (λid b9=>?_) (λid q h1 h2 h3=>?_) (.ax v)
  ·obtain⟨h1,h2⟩:=r.fresh id b9;exact⟨by simp[Env.rl,h1],h2⟩
  ·exact⟨by simp[Env.rl,h1,fq,h3],h2⟩
 ·exact(hfl.stay dU (jh λr=>lq (by show nt≠s;omega))).snoc (hv.move dU (lF λr=>zgu _ _ r))
def Env.fz(E:Env)(a:Nat×aC):Env:={E with G:=λid=>E.G id\/∃r,E.ow id=J (a.1,a.2++r)}
def p9 :GK E (E.fz a):=λ_ h=>⟨.inl h,λk hk=>⟨k,hk,rfl⟩⟩
def Gv :gn E (E.fz a):=⟨cB _,p9,λid _ h=>⟨h,rfl,by
 rintro(h3|⟨r,h3⟩)
 ·exact h3
 ·rw[h]at h3;cases h3⟩⟩
def Oj :zg E (E.fz a) (J a):=λ_ r h1 _=>⟨.inr ⟨r,h1⟩,λk hk=>⟨k,hk,rfl⟩⟩
def Bb{c:Nat×aC}(h:c.1≠a.1):dC E (E.fz a) (J c) (J c):=λid r h1 h2=>⟨h1,by
 rintro(h3|⟨r',h3⟩)
 ·exact h2 h3
 ·rw[h1,aT,cg]at h3
  exact h h3.1,rfl⟩
def av.Hk(r:av nt pin E0 E pf fr)(hs:s<nt)(h:cn pf s p=J x)(hx:x≠.ax)(hp:p≠[]\/∃y,pf s=.v y)
(hj:iC pf s p (drop x)=J pf'):∃v,Wk E fr s p v/\av nt pin E0 (E.fz (s,p)) pf' fr/\PR (E.fz (s,p)) ae (drop x) v:=by
 obtain⟨v,hw,hv⟩:=r.at h hx hp;have hd:PR (E.fz (s,p)) ae (drop x) v:=hv.freeze p9 Oj;refine⟨v,hw,?_,hd⟩;refine r.setAt hs hw hj rfl Gv p9 (λt _ ht=>Bb ht) (λid b9=>?_) (λid q h1 h2 h3=>?_) hd.up
 ·obtain⟨h1,h2⟩:=r.fresh id b9;refine⟨h1,?_⟩;rintro(h3|⟨r',h3⟩)
  ·exact h2 h3
  ·rw[h1]at h3;cases h3
 ·refine⟨h1,?_⟩;rintro(h4|⟨r',h4⟩)
  ·exact h2 h4
  ·rw[h1]at h4;cases h4;exact h3 (List.prefix_append _ _)
end
end Go.Pm
