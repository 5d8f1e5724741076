import Derived.Test.YtnojafnlicbhpaaGreatPmQ
namespace Go.Pm
set_option linter.defProp false
open Go.Am
open Bool renaming false→aa,true→Z
open Option renaming some→J
def KA:=@List.take_of_length_le
section
variable {nt:Nat}{pin:List (Nat×Value)}{E0 E E':Env}{pf:ah}{fr ai:FR}{c:aY}{P:Program}
variable{ls:Bool}{rg:List Nat}{t:Nat}
def zDB(r:aq nt pin E0 E pf fr)(h:HR (pf t)=Z):∃cells,fr t=.loc cells:=by
 have hf:=r.f t;cases aE:pf t with
 |bl row=>rw[aE]at hf;obtain⟨cells,c1,_⟩:=hf;exact⟨cells,c1⟩
 |_=>rw[aE]at h;simp[HR]at h
def okV{l:Lo}{x:PV}{v:Value}(h:PR E l x v)(hx:x≠.au) :sQ rg ls t (.v v)=Z:=by
 cases h with
 |au v=>exact absurd rfl hx
 |bO hl h0 _=>
  simp only[sQ,qc,List.isEmpty_eq_false_iff];intro e;rw[e]at hl;exact h0 (mK hl)
 |_=>rfl
def zwl(r:aq nt pin E0 E pf fr)(h:lq pf rg ls t (pf t)=Z):sQ rg ls t (fr t)=Z:=by
 have hf:=r.f t;cases aE:pf t with
 |v x=>
  rw[aE]at h hf;simp only[lq,qc]at h;obtain⟨v,h1,h2⟩:=gi hf (oN h);rw[h1];exact okV h2 (oN h)
 |skip=>rw[aE]at hf;have hf:fr t=.skip:=hf;rw[hf];rfl
 |ls es rows=>
  rw[aE]at h hf;simp only[lq]at h;obtain⟨cells,c1,_⟩:=hf;rw[c1];exact h
 |bl row=>
  rw[aE]at h hf;simp only[lq]at h;obtain⟨cells,c1,_⟩:=hf;rw[c1];exact h
 |pt s p i j=>
  rw[aE]at h hf;simp only[lq,tY]at h;rcases hf with⟨cells,h1,h2,h3,h4⟩|⟨v0,id,o,h1,h2,h3⟩
  ·rw[h4];rcases h with h|h|h
   ·exact h
   rotate_left
   ·rw[h2]at h;cases h
   ·exfalso;have hg:=r.f s;unfold N4 at h;split at h
    ·rename_i x fy;rw[fy]at hg;obtain⟨w,g1,_⟩:=gi hg (oN (by simpa using h));rw[h1]at g1;cases g1
    ·cases h
  ·rw[h3];rfl
 |rf s p=>
  rw[aE]at h hf;simp only[lq]at h;obtain⟨v,h1,h2⟩:=hf;unfold Mx at h;split at h
  ·rename_i x hx;have hj:=oN (x:=x) (by simpa using h);obtain⟨v',w1,w2⟩:=r.at hx hj (iP r h2 hx);have:=w1.same h2;subst this;rw[h1];exact okV w2 hj
  ·cases h
 |rv s p lo hi=>
  rw[aE]at hf;rcases hf with⟨_,g2,_⟩|⟨id,off,es,n,cc,_,_,_,g4⟩
  ·rw[g2];rfl
  ·rw[g4];rfl
 |ra s p i j n=>rw[aE]at hf;obtain⟨vs,h1,h2⟩:=hf;rw[h1];rfl
 |as b s p i j n=>
  rw[aE]at h hf;cases b with
  |false=>obtain⟨vs,h1,_⟩:=hf;rw[h1];show ls=Z;simpa[lq]using h
  |true=>obtain⟨id,off,k,v,h1,_⟩:=hf;rw[h1];rfl
 |cl s g us=>rw[aE]at hf;obtain⟨v,vs,h1,_⟩:=hf;rw[h1];rfl
def zvG(r:aq nt pin E0 E pf fr) :∀{l:List Nat},xf pf rg ls l=Z->wP rg ls fr l=Z:=by
 intro l;induction l with
 |nil=>intro _;rfl
 |cons t l ih=>
  intro h;simp only[xf,bI]at h;simp only[wP,bI];exact⟨zwl r h.1,ih h.2⟩
def zwY(r:aq nt pin E0 E pf fr){m:Option Nat}(h:Cd pf m=Z):ET fr m=Z:=by
 cases m with
 |none=>rfl
 |some t=>
  simp only[Cd]at h;simp only[ET];have hf:=r.f t;cases aE:pf t with
  |bl row=>rw[aE]at hf;obtain⟨cells,c1,_⟩:=hf;rw[c1];rfl
  |skip=>rw[aE]at hf;have hf:fr t=.skip:=hf;rw[hf];rfl
  |pt s p i j=>
   rw[aE]at h hf;unfold Cn at h;split at h
   ·cases ‹PF.pt s p i j=_›
   ·cases ‹PF.pt s p i j=_›
   ·rename_i s' i' j' xC;cases xC;obtain⟨cells,hc⟩:=zDB r h;rcases hf with⟨dx,h1,h2,h3,h4⟩|⟨v0,id,o,h1,h2,h3⟩
    ·rw[h4];rfl
    ·have:=Gl h1;rw[hc]at this;cases this
   ·cases h
  |_=>rw[aE]at h;simp[Cn]at h
def U1(r:aq c.nt pin E0 E pf fr)(hp:ew c pin){ext:Bool}{o:Oper}{K:ah->Prop}{K':FR->AH->Prop}(h:rJ P c ext o K pf)
(hk:∀pf' ai E',K pf'->aq c.nt pin E0 E' pf' ai->K' ai E'.H):aM P c.nt o (λai H'=>(ext=Z->fj E.H H')/\K' ai H') fr E.H:=by
 unfold rJ at h;split at h
 ·rename_i f args ts ho;split at h
  case isFalse hx=>
   rcases KQ (c:=c.Bk) r ⟨hp.h⟩ h hk with h|h
   ·exact Bw (λ_ _ hh=>⟨λe=>absurd e hx,hh⟩) h
   ·exact absurd rfl h.1
  case isTrue hx=>
  exact XE (K':=λai H'=>(ext=Z->fj E.H H')/\K' ai H') r hp ho h λpf' ai E' a b e=>⟨λ_=>e λm hm=>(nr.1 hm).2,hk pf' ai E' a b⟩
 ·rename_i qA;obtain⟨h1,h2⟩:=h;rcases KQ (c:=c.Bk) r ⟨hp.h⟩ h2 hk with h|h
  ·cases ext with
   |false=>exact Bw (λ_ _ hh=>⟨λe=>(by cases e),hh⟩) h
   |true=>exact Bw (λ_ _ hh=>⟨λ_=>hh.1,hh.2⟩) (zBR r.wf (h1 rfl) (λf args ts e=>qA f args ts e) h)
  ·exact absurd rfl h.1
def zwk(r:aq c.nt pin E0 E pf fr)(hp:ew c pin){pre:List (Option Tmp)}{e:DE}{o:Oper}{K:ah->Prop}{K':FR->AH->Prop}(h:Ep P c pre e o K pf)
(hk:∀pf' ai E',K pf'->aq c.nt pin E0 E' pf' ai->K' ai E'.H):uo P c.nt pre e o K' fr E.H:=by
 obtain⟨h1,h2⟩:=h;simp only[bI]at h1;refine⟨by simp only[jX,bI];exact⟨zvG r h1.1,zwY r h1.2⟩,?_⟩;unfold HE at h2;unfold nh;split at h2
 ·rename_i hg;rw[hg];exact U1 r hp h2 hk
 ·rename_i j b hg;rw[hg];simp only;unfold lm at h2;split at h2
  ·rename_i y hy;rw[Xo r hy];simp only;split at h2
   ·rename_i e';rw[aB e'];exact U1 r hp h2 hk
   ·rename_i e';rw[az e'];exact X3 r hp h2 λpf' ai E' a b e=>⟨λ_=>by rw[e];exact .refl _,hk pf' ai E' a b⟩
  ·cases h2
def zue(hp:ew c pin){pre:List (Option Tmp)}:∀{l:List (DE×Oper)}{E:Env}{pf:ah}{fr:FR}{K:ah->Prop}{K':FR->AH->Prop},aq c.nt pin E0 E pf fr->EB P c pre l K pf->
 (∀pf' ai E',K pf'->aq c.nt pin E0 E' pf' ai->K' ai E'.H)->iq P c.nt pre l K' fr E.H:=by
 intro l;induction l with
 |nil=>intro E pf fr K K' r h hk;exact hk _ _ _ h r
 |cons x l ih=>
  obtain⟨e,o⟩:=x;intro E pf fr K K' r h hk;exact zwk r hp h λpf' ai E' a b=>ih b a hk
def Nj(nt:Nat)(pin:List (Nat×Value))(E0:Env)(Q:Exit->ah->Prop):Exit->FR->AH->Prop:=λe fr H=>∃pf E,Q e pf/\aq nt pin E0 E pf fr/\E.H=H
def zxL(hp:ew c pin):∀(x:Code) {Q:Exit->ah->Prop}{E:Env}{pf:ah}{fr:FR},gu P c x Q pf->aq c.nt pin E0 E pf fr->fa P c.nt x (Nj c.nt pin E0 Q) fr E.H:=by
 intro x;induction x with
 |skip=>intro Q E pf fr h r;exact⟨pf,E,h,r,rfl⟩
 |region id ops AC=>
  intro Q E pf fr h r;simp only[gu]at h;simp only[fa];split at h
  ·rename_i hd;rw[aB hd];obtain⟨hf,n,h⟩:=h;exact⟨hf,n,S4 (λ_ h=>zue hp r h λpf' ai E' a b=>⟨pf',E',a,b,rfl⟩) h⟩
  ·rename_i hd;rw[az hd];exact zwt hp r h λpf' ai E' a b=>⟨pf',E',a,b,rfl⟩
 |seq x y tf sU=>
  intro Q E pf fr h r;refine(show fa P c.nt x (Dz (fa P c.nt y (Nj c.nt pin E0 Q)) (Nj c.nt pin E0 Q)) fr E.H from L7 ?_ (tf h r));rintro e ai H' ⟨pf',E',hq,r',rfl⟩;cases e<;>try exact⟨pf',E',hq,r',rfl⟩
  obtain⟨bW,hw,hq⟩:=hq;obtain⟨E2,r2,e2⟩:=aq.wk hw r';rw[<-e2];exact sU hq r2
 |cond b x y tf sU=>
  intro Q E pf fr h r;obtain⟨bW,hw,h⟩:=h;obtain⟨E2,r2,e2⟩:=aq.wk hw r;rw[<-e2];unfold P8 at h;split at h
  ·rename_i v bb hb;simp only[fa,pX r2 hb];split at h
   ·rename_i hh;rw[aB hh];exact tf h r2
   ·rename_i hh;rw[az hh];exact sU h r2
  ·cases h
 |block id b ih=>
  intro Q E pf fr h r;refine(show fa P c.nt b (HM id (Nj c.nt pin E0 Q)) fr E.H from L7 ?_ (ih h r));rintro e ai H' ⟨pf',E',hq,r',rfl⟩;cases e<;>try exact⟨pf',E',hq,r',rfl⟩
  rename_i i;simp only[Jb]at hq;simp only[HM];split at hq
  ·rename_i hi;rw[aB hi];exact⟨pf',E',hq,r',rfl⟩
  ·rename_i hi;rw[az hi];exact⟨pf',E',hq,r',rfl⟩
 |loop b ih=>
  intro Q E pf fr h r;obtain⟨n,hn⟩:=h;refine⟨n,?_⟩;induction n generalizing E pf fr with
  |zero=>exact hn.elim
  |succ n Cr=>
   obtain⟨bW,hw,hn⟩:=hn;obtain⟨E2,r2,e2⟩:=aq.wk hw r;rw[<-e2];refine⟨fr,λ_=>.inl rfl,L7 ?_ (ih hn r2)⟩;rintro e ai H' ⟨pf',E',hq,r',rfl⟩;cases e<;>first|exact Cr r' hq|exact⟨pf',E',hq,r',rfl⟩
 |exit id=>intro Q E pf fr h r;exact⟨pf,E,h,r,rfl⟩
 |ret=>intro Q E pf fr h r;exact⟨pf,E,h,r,rfl⟩
 |_=>intros;rename_i h _;exact absurd h (by simp[gu])
def zzq(r:aq nt pin E0 E pf fr){fl:List (PV×Value)}(hfl:eb nt E fl){y:PV}{pf':ah}(hl:qX (pf t)=aa)(h:lh pf t (pf t)=J (y,pf')):
 ∃v E',fr t=.v v/\E'.H=E.H/\aq nt pin E0 E' pf' fr/\eb nt E' (fl++[(y,v)]):=by
 obtain⟨v,fr1,H1,E1,m1,e1,r1,f1⟩:=uD (ez:=0) r hfl (x:=.tmp t) (show ep 0 pf (.tmp t)=J (y,pf')from h);have hn:=zrl (ez:=0) r (x:=.tmp t) (show ep 0 pf (.tmp t)=J (y,pf')from h) (by simpa[uY]using hl);obtain⟨m2,rfl,rfl⟩:=V6 m1 hn;refine⟨v,E1,?_,e1,r1,f1⟩;simp only[be]at m2;split at m2
 ·rename_i u hu;cases m2;exact hu
 ·cases m2
def zuq(r:aq nt pin E0 E pf fr){fl:List (PV×Value)}(hfl:eb nt E fl){x:ResultVar}{y:PV}{pf':ah}(h:B4 P pf x=J (y,pf')):
 ∃v E',sy P fr x=J v/\E'.H=E.H/\aq nt pin E0 E' pf' fr/\eb nt E' (fl++[(y,v)]):=by
 cases x with
 |tmp t=>
  simp only[B4]at h;split at h
  ·cases h
  ·rename_i hl;obtain⟨v,E',h1,h2⟩:=zzq r hfl (by simpa using hl) h;exact⟨v,E',by simp[sy,h1],h2⟩
 |cell t ty=>
  simp only[B4]at h;have hf:=r.f t;have mS:t<nt:=NU r (by intro e;rw[e]at h;simp[Gp,jP]at h);unfold Gp at h;split at h
  ·rename_i row sz aE jl;obtain⟨dE,ht⟩:=Dk jl;rw[aE]at hf;obtain⟨cells,c1,c2,c3⟩:=hf;split at h
   ·rename_i eB;simp only[aT,b9]at h;obtain⟨rfl,rfl⟩:=h;refine⟨.agg cells.toArray,E.rl (fg (t,[]) (nt,[(0,fl.length)])),?_,rfl,?_,?_⟩
    ·simp only[sy,c1,mV,ht];rw[Dp (by omega),KA (by omega)];rfl
    ·exact r.qt mS dO (λs hs dJ=>iZ λq=>kO dJ) (λL hL=>absurd hL (A0 _)) (λ_ _=>rfl) (λh=>absurd h (yz _)) nF r.ok.rl.wf r.ok.rl.fresh (λ_ _ h1 h2=>.inl (by rw[h1]at h2;cases h2;rfl)) yg rfl r.pin
    ·refine(hfl.stay dO (iZ λq=>kO (Aax mS))).snoc (.agg (by simpa using c2) λj x y a b=>?_);refine(c3 j x y a (by simpa using b)).move dO (lG λq=>?_);have:=zgp (t,[]) (nt,[(0,fl.length)]) ((0,j)::q);simpa[cL]using this
   ·cases h
  ·rename_i x row sz aE jl;obtain⟨dE,ht⟩:=Dk jl;rw[aE]at hf;obtain⟨cells,c1,c2,c3⟩:=hf;simp only[aT,b9]at h;obtain⟨rfl,rfl⟩:=h;cases cells with
   |nil=>simp at c2
   |cons w cells=>
    refine⟨w,E.rl (fg (t,[(0,0)]) (nt,[(0,fl.length)])),?_,rfl,?_,?_⟩
    ·simp only[sy,c1,mV,ht]
    ·exact r.qt mS dO (λs hs dJ=>iZ λq=>kO dJ) (λL hL=>absurd hL (A0 _)) (λ_ _=>rfl) (λh=>absurd h (yz _)) nF r.ok.rl.wf r.ok.rl.fresh (λ_ _ h1 h2=>.inl (by rw[h1]at h2;cases h2;rfl)) yg rfl r.pin
    ·exact(hfl.stay dO (iZ λq=>kO (Aax mS))).snoc ((c3 0 x w rfl rfl).move dO (lG λq=>zgp _ _ q))
  ·cases h
def zub:∀{xs:List ResultVar}{E:Env}{pf pf':ah}{fl:List (PV×Value)}{ys:List PV},aq nt pin E0 E pf fr->eb nt E fl->tS P pf xs=J (ys,pf')->
 ∃vs E',pP P fr xs=J vs/\E'.H=E.H/\aq nt pin E0 E' pf' fr/\vs.length=ys.length/\eb nt E' (fl++ys.zip vs):=by
 intro xs;induction xs with
 |nil=>
  intro E pf pf' fl ys r hfl h;simp only[tS,aT,b9]at h;obtain⟨rfl,rfl⟩:=h;exact⟨[],E,rfl,rfl,r,rfl,by simpa using hfl⟩
 |cons x xs ih=>
  intro E pf pf' fl ys r hfl h;simp only[tS,bR,bN,b9]at h;obtain⟨⟨y,aQ⟩,h1,⟨PY,bW⟩,h2,rfl,rfl⟩:=h;obtain⟨v,E1,m1,e1,r1,f1⟩:=zuq r hfl h1;obtain⟨vs,E2,m2,e2,r2,l2,f2⟩:=ih r1 f1 h2;exact⟨v::vs,E2,by simp[pP,m1,m2],e2.trans e1,r2,by simp[l2],by simpa using f2⟩
def zzQ{pf:ah}:∀{l:List (Md×PV)}{k0 k:Nat}{y:PV},(lY pf k0 l)[k]? =J y->(∃a,l[k]? =J a/\a.1=.io/\y=Mo (pf (k0+k)))\/y=.au:=by
 intro l;induction l with
 |nil=>intro k0 k y h;simp[lY]at h
 |cons a l ih=>
  obtain⟨md,x⟩:=a;intro k0 k y h;cases k with
  |zero=>
   cases md<;>simp[lY]at h<;>subst h
   ·exact .inr rfl
   ·exact .inr rfl
   ·exact .inl ⟨_,rfl,rfl,rfl⟩
  |succ k=>
   have h':(lY pf (k0+1) l)[k]? =J y:=by cases md<;>simpa[lY]using h
   rcases ih h' with⟨a,h1,h2,h3⟩|h1
   ·exact .inl ⟨a,by simpa using h1,h2,by rw[h3];congr 2;omega⟩
   ·exact .inr h1
def PO{pf:ah}:∀{l:List (Md×PV)}{k0:Nat},(lY pf k0 l).length=l.length:=by
 intro l;induction l with
 |nil=>intro k0;rfl
 |cons a l ih=>intro k0;obtain⟨md,x⟩:=a;cases md<;>simp[lY,ih]
def zBY:∀{l:List (Md×PV)}{k0 k:Nat}{a:Md×PV},l[k]? =J a->a.1=.io->k0+k∈jk k0 l:=by
 intro l;induction l with
 |nil=>intro k0 k a h;simp at h
 |cons b l ih=>
  obtain⟨md,x⟩:=b;intro k0 k a h ha;cases k with
  |zero=>simp at h;subst h;simp only at ha;subst ha;simp[jk]
  |succ k=>
   have:=ih (k0:=k0+1) (by simpa using h) ha;have e:k0+1+k=k0+(k+1):=by omega
   rw[e]at this;cases md<;>simp[jk,this]
def pB:Nat->List (Md×PV)->List Value->List (Nat×Value)
 |k,(.io,_)::l,v::vs=>(k,v)::pB (k+1) l vs
 |k,_::l,_::vs=>pB (k+1) l vs
 |_,_,_=>[]
def zss:∀{l:List (Md×PV)}{vs:List Value}{k0 j:Nat}{v:Value},(j,v)∈pB k0 l vs->∃k a,j=k0+k/\l[k]? =J a/\a.1=.io/\vs[k]? =J v:=by
 intro l;induction l with
 |nil=>intro vs k0 j v h;simp[pB]at h
 |cons b l ih=>
  obtain⟨md,x⟩:=b;intro vs k0 j v h;cases vs with
  |nil=>cases md<;>simp[pB]at h
  |cons w vs=>
   have dE:(j,v)∈pB (k0+1) l vs->∃k a,j=k0+k/\((md,x)::l)[k]? =J a/\a.1=.io/\(w::vs)[k]? =J v:=by
    intro h;obtain⟨k,a,h1,h2,h3,h4⟩:=ih h;exact⟨k+1,a,by omega,by simpa using h2,h3,by simpa using h4⟩
   cases md with
   |io=>
    simp only[pB,fK,b9]at h;rcases h with⟨rfl,rfl⟩|h
    ·exact⟨0,_,by omega,rfl,rfl,rfl⟩
    ·exact dE h
   |sh=>exact dE (by simpa[pB]using h)
   |mv=>exact dE (by simpa[pB]using h)
def zBE:∀{l:List (Md×PV)}{vs:List Value}{k0 k:Nat}{a:Md×PV}{v:Value},l[k]? =J a->a.1=.io->vs[k]? =J v->(k0+k,v)∈pB k0 l vs:=by
 intro l;induction l with
 |nil=>intro vs k0 k a v h;simp at h
 |cons b l ih=>
  obtain⟨md,x⟩:=b;intro vs k0 k a v h1 h2 h3;cases vs with
  |nil=>simp at h3
  |cons w vs=>
   cases k with
   |zero=>simp at h1 h3;subst h1;subst h3;simp only at h2;subst h2;simp[pB]
   |succ k=>
    have:=ih (k0:=k0+1) (by simpa using h1) h2 (by simpa using h3);have e:k0+1+k=k0+(k+1):=by omega
    rw[e]at this;cases md<;>simp[pB,this]
def ztv{f:FuncId}{fn:Func}{code:Code}{as:List (Md×PV)}{R:PV->List PV->Prop}{fz hp:List Nat}(hc:ax P f)(hf:P.funcs[f]? =J fn)(hb:fn.body=J code)(hlen:as.length<=fn.ntmps)
(h:gu P ⟨fn.ntmps,jk 0 as,fz,hp⟩ code (rW P fn.results.toList as R) (qy as)):ap P f as R:=by
 refine⟨hc,λE vs ok Gh hargs=>?_⟩;refine PB hc hf hb rfl (by omega) λ_=>?_
 let cc:aY:=⟨fn.ntmps,jk 0 as,fz,hp⟩
 have jN:ew cc (pB 0 as vs):=⟨λk v hk=>by
  obtain⟨k',a,h1,h2,h3,h4⟩:=zss hk
  rw[h1];exact zBY h2 h3⟩
 have r:aq fn.ntmps (pB 0 as vs) E E (qy as) (FR.init vs):=by
  refine⟨fY.refl E,ok.wf,ok.fresh,λt=>?_,λt ht=>?_,λt s hs=>?_,λk v hk=>?_⟩
  ·unfold qy;cases tX:as[t]? with
   |none=>exact yg
   |some a=>
    have hlt:t<vs.length:=by have:=(cT.1 tX).1;omega
    have hv:=cE hlt;have:=hargs t a _ tX hv;refine ou (v:=vs[t]) (by simp[FR.init,hv]) ?_;unfold H8 at this;split at this
    ·exact this.up
    ·exact this
  ·simp only[qy];rw[AY (by omega)];rfl
  ·simp only[qy]at hs;cases tX:as[t]? with
   |none=>rw[tX]at hs;simp[Er,jP,bC]at hs
   |some a=>rw[tX]at hs;simp[Er,bC]at hs
  ·obtain⟨k',a,rfl,h2,h3,h4⟩:=zss hk;simp[FR.init,h4]
 refine L7 ?_ (zxL (c:=cc) jN code h r);rintro e ai H' ⟨pf',E1,hq,r1,rfl⟩
 have done:Ei as R (tS P pf' fn.results.toList)->match pP P ai fn.results.toList with|some us=>∃r outs E',R r outs/\E'.H=E1.H/\VU E E' as.length vs r (yi us) outs|none=>False:=by
  intro hq;unfold Ei at hq;split at hq
  ·rename_i x DG;obtain⟨ys,bW⟩:=x;obtain⟨us,E2,m1,e1,r2,l1,f1⟩:=zub r1 (fl:=[]) (λk x v h=>by simp at h) DG;rw[m1];simp only[mL]at f1
   have Rv:∀(E3:Env),GK E2 E3->(∀s:Nat,s<fn.ntmps->dt E2 E3 (J (s,[])) (J (s,[])))->∀(k:Nat) (y:PV) (v:Value),(lY bW 0 as)[k]? =J y->vs[k]? =J v->PR E3 (J (k,[])) y v:=by
    intro E3 hg hm k y v hy hv;rcases zzQ hy with⟨a,h1,h2,rfl⟩|rfl
    ·rw[gk];have MT:k<fn.ntmps:=by have:=(cT.1 h1).1;omega
     have Aq:=r2.pin k v (by simpa using zBE (k0:=0) h1 h2 hv);have pV:=r2.f k;cases tq:bW k with
     |v z=>
      rw[tq]at pV;show PR E3 _ z v;by_cases hz:z=.au
      ·subst hz;exact .au v
      ·obtain⟨w,g1,g2⟩:=gi pV hz;rw[Aq]at g1;cases g1;exact g2.move hg (hm k MT)
     |_=>exact .au v
    ·exact .au v
   match ys,us,l1 with
   |[],[],_=>exact⟨_,_,E2,hq,e1,⟨r2.ok,r2.since,.au _,PO,Rv E2 (GK.refl _) λs _=>.refl _⟩⟩
   |[y],[u],_=>
    refine⟨_,_,E2.rl (fg (fn.ntmps,[(0,0)]) (as.length,[])),hq,e1,⟨r2.ok.rl,r2.since.trans nF,(f1 0 y u rfl).move dO (lG λq=>zgp _ _ q),PO,Rv _ dO λs hs=>iZ λq=>kO (by show s≠fn.ntmps;omega)⟩⟩
   |y::y2::ys,u::u2::us,hl=>
    refine⟨_,_,E2.rl (fg (fn.ntmps,[]) (as.length,[])),hq,e1,⟨r2.ok.rl,r2.since.trans nF,.bO (by simpa using hl.symm) (by simp) λj x w a b=>?_,PO,Rv _ dO λs hs=>iZ λq=>kO (by show s≠fn.ntmps;omega)⟩⟩;have:=f1 j x w (by rw[Gx];exact⟨a,by simpa using b⟩);refine this.move dO (lG λq=>?_);have h3:=zgp (fn.ntmps,[]) (as.length,[]) ((0,j)::q);simpa[cL]using h3
  ·cases hq
 cases e<;>first|exact done hq|exact hq.elim
end
end Go.Pm
