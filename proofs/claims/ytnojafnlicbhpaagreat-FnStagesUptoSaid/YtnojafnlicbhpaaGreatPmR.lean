import Derived.Test.YtnojafnlicbhpaaGreatPmQ
open Bool renaming false→aa,true→Z
open Option renaming some→J
set_option linter.defProp false
namespace Go.Pm
open Go.Am
def KD:=@List.take_of_length_le
section
variable {nt:Nat}{pin:List (Nat×Value)}{E0 E E':Env}{pf:ah}{fr ai:FR}{c:aY}{P:Program}
variable{ls:Bool}{rg:List Nat}{t:Nat}
def zC1(r:aq nt pin E0 E pf fr)(h:Iu (pf t)=Z):∃cells,fr t=.loc cells:=by
 have hf:=r.f t;cases aE:pf t with
 |bl row=>rw[aE]at hf;obtain⟨cells,c1,_⟩:=hf;exact⟨cells,c1⟩
 |_=>rw[aE]at h;simp[Iu]at h
def Xf{l:Lo}{x:PV}{v:Value}(h:PR E l x v)(hx:x≠.au) :s8 rg ls t (.v v)=Z:=by
 cases h with
 |au v=>exact absurd rfl hx
 |bO hl h0 _=>
  simp only[s8,qd,List.isEmpty_eq_false_iff];intro e;rw[e]at hl;exact h0 (mL hl)
 |_=>rfl
def zwV(r:aq nt pin E0 E pf fr)(h:lm pf rg ls t (pf t)=Z):s8 rg ls t (fr t)=Z:=by
 have hf:=r.f t;cases aE:pf t with
 |v x=>
  rw[aE]at h hf;simp only[lm,qd]at h;obtain⟨v,h1,h2⟩:=gi hf (n5 h);rw[h1];exact Xf h2 (n5 h)
 |skip=>rw[aE]at hf;have hf:fr t=.skip:=hf;rw[hf];rfl
 |ls es rows=>
  rw[aE]at h hf;simp only[lm]at h;obtain⟨cells,c1,_⟩:=hf;rw[c1];exact h
 |bl row=>
  rw[aE]at h hf;simp only[lm]at h;obtain⟨cells,c1,_⟩:=hf;rw[c1];exact h
 |pt s p i j=>
  rw[aE]at h hf;simp only[lm,tZ]at h;rcases hf with⟨cells,h1,h2,h3,h4⟩|⟨v0,id,o,h1,h2,h3⟩
  ·rw[h4];rcases h with h|h|h
   ·exact h
   rotate_left
   ·rw[h2]at h;cases h
   ·exfalso;have hg:=r.f s;unfold LQ at h;split at h
    ·rename_i x fH;rw[fH]at hg;obtain⟨w,g1,_⟩:=gi hg (n5 (by simpa using h));rw[h1]at g1;cases g1
    ·cases h
  ·rw[h3];rfl
 |rf s p=>
  rw[aE]at h hf;simp only[lm]at h;obtain⟨v,h1,h2⟩:=hf;unfold NC at h;split at h
  ·rename_i x hx;have hj:=n5 (x:=x) (by simpa using h);obtain⟨v',w1,w2⟩:=r.at hx hj (iQ r h2 hx);have:=w1.same h2;subst this;rw[h1];exact Xf w2 hj
  ·cases h
 |rv s p lo hi=>
  rw[aE]at hf;rcases hf with⟨_,g2,_⟩|⟨id,off,es,n,cc,_,_,_,g4⟩
  ·rw[g2];rfl
  ·rw[g4];rfl
 |ra s p i j n=>rw[aE]at hf;obtain⟨vs,h1,h2⟩:=hf;rw[h1];rfl
 |as b s p i j n=>
  rw[aE]at h hf;cases b with
  |false=>obtain⟨vs,h1,_⟩:=hf;rw[h1];show ls=Z;simpa[lm]using h
  |true=>obtain⟨id,off,k,v,h1,_⟩:=hf;rw[h1];rfl
 |cl s g us=>rw[aE]at hf;obtain⟨v,vs,h1,_⟩:=hf;rw[h1];rfl
def zvH(r:aq nt pin E0 E pf fr) :∀{l:List Nat},yj pf rg ls l=Z->xW rg ls fr l=Z:=by
 intro l;induction l with
 |nil=>intro _;rfl
 |cons t l ih=>
  intro h;simp only[yj,bI]at h;simp only[xW,bI];exact⟨zwV r h.1,ih h.2⟩
def zwo(r:aq nt pin E0 E pf fr){m:Option Nat}(h:CG pf m=Z):Fe fr m=Z:=by
 cases m with
 |none=>rfl
 |some t=>
  simp only[CG]at h;simp only[Fe];have hf:=r.f t;cases aE:pf t with
  |bl row=>rw[aE]at hf;obtain⟨cells,c1,_⟩:=hf;rw[c1];rfl
  |skip=>rw[aE]at hf;have hf:fr t=.skip:=hf;rw[hf];rfl
  |pt s p i j=>
   rw[aE]at h hf;unfold Ch at h;split at h
   ·cases ‹PF.pt s p i j=_›
   ·cases ‹PF.pt s p i j=_›
   ·rename_i s' i' j' xA;cases xA;obtain⟨cells,hc⟩:=zC1 r h;rcases hf with⟨dw,h1,h2,h3,h4⟩|⟨v0,id,o,h1,h2,h3⟩
    ·rw[h4];rfl
    ·have:=Di h1;rw[hc]at this;cases this
   ·cases h
  |_=>rw[aE]at h;simp[Ch]at h
def YI(r:aq c.nt pin E0 E pf fr)(hp:ep c pin){ext:Bool}{o:Oper}{K:ah->Prop}{K':FR->AH->Prop}(h:rO P c ext o K pf)
(hk:∀pf' ai E',K pf'->aq c.nt pin E0 E' pf' ai->K' ai E'.H):aM P c.nt o (λai H'=>(ext=Z->ft E.H H')/\K' ai H') fr E.H:=by
 unfold rO at h;split at h
 ·rename_i f args ts ho;split at h
  case isFalse hx=>
   rcases Oe (c:=c.Cb) r ⟨hp.h⟩ h hk with h|h
   ·exact BW (λ_ _ hh=>⟨λe=>absurd e hx,hh⟩) h
   ·exact absurd rfl h.1
  case isTrue hx=>
  exact zny (K':=λai H'=>(ext=Z->ft E.H H')/\K' ai H') r hp ho h λpf' ai E' a b e=>⟨λ_=>e λm hm=>(nu.1 hm).2,hk pf' ai E' a b⟩
 ·rename_i qP;obtain⟨h1,h2⟩:=h;rcases Oe (c:=c.Cb) r ⟨hp.h⟩ h2 hk with h|h
  ·cases ext with
   |false=>exact BW (λ_ _ hh=>⟨λe=>(by cases e),hh⟩) h
   |true=>exact BW (λ_ _ hh=>⟨λ_=>hh.1,hh.2⟩) (zB5 r.wf (h1 rfl) (λf args ts e=>qP f args ts e) h)
  ·exact absurd rfl h.1
def zwv(r:aq c.nt pin E0 E pf fr)(hp:ep c pin){pre:List (Option Tmp)}{e:DE}{o:Oper}{K:ah->Prop}{K':FR->AH->Prop}(h:EV P c pre e o K pf)
(hk:∀pf' ai E',K pf'->aq c.nt pin E0 E' pf' ai->K' ai E'.H):um P c.nt pre e o K' fr E.H:=by
 obtain⟨h1,h2⟩:=h;simp only[bI]at h1;refine⟨by simp only[jT,bI];exact⟨zvH r h1.1,zwo r h1.2⟩,?_⟩;unfold GS at h2;unfold na;split at h2
 ·rename_i hg;rw[hg];exact YI r hp h2 hk
 ·rename_i j b hg;rw[hg];simp only;unfold lX at h2;split at h2
  ·rename_i y hy;rw[Y0 r hy];simp only;split at h2
   ·rename_i e';rw[aB e'];exact YI r hp h2 hk
   ·rename_i e';rw[az e'];exact Zw r hp h2 λpf' ai E' a b e=>⟨λ_=>by rw[e];exact .refl _,hk pf' ai E' a b⟩
  ·cases h2
def zuc(hp:ep c pin){pre:List (Option Tmp)}:∀{l:List (DE×Oper)}{E:Env}{pf:ah}{fr:FR}{K:ah->Prop}{K':FR->AH->Prop},aq c.nt pin E0 E pf fr->EN P c pre l K pf->
 (∀pf' ai E',K pf'->aq c.nt pin E0 E' pf' ai->K' ai E'.H)->iz P c.nt pre l K' fr E.H:=by
 intro l;induction l with
 |nil=>intro E pf fr K K' r h hk;exact hk _ _ _ h r
 |cons x l ih=>
  obtain⟨e,o⟩:=x;intro E pf fr K K' r h hk;exact zwv r hp h λpf' ai E' a b=>ih b a hk
def Nm(nt:Nat)(pin:List (Nat×Value))(E0:Env)(Q:Exit->ah->Prop):Exit->FR->AH->Prop:=λe fr H=>∃pf E,Q e pf/\aq nt pin E0 E pf fr/\E.H=H
def zyg(hp:ep c pin):∀(x:Code) {Q:Exit->ah->Prop}{E:Env}{pf:ah}{fr:FR},gq P c x Q pf->aq c.nt pin E0 E pf fr->fc P c.nt x (Nm c.nt pin E0 Q) fr E.H:=by
 intro x;induction x with
 |skip=>intro Q E pf fr h r;exact⟨pf,E,h,r,rfl⟩
 |region id ops zd=>
  intro Q E pf fr h r;simp only[gq]at h;simp only[fc];split at h
  ·rename_i hd;rw[aB hd];obtain⟨hf,n,h⟩:=h;exact⟨hf,n,Qv (λ_ h=>zuc hp r h λpf' ai E' a b=>⟨pf',E',a,b,rfl⟩) h⟩
  ·rename_i hd;rw[az hd];exact zv7 hp r h λpf' ai E' a b=>⟨pf',E',a,b,rfl⟩
 |seq x y tW tA=>
  intro Q E pf fr h r;refine(show fc P c.nt x (Ep (fc P c.nt y (Nm c.nt pin E0 Q)) (Nm c.nt pin E0 Q)) fr E.H from Lr ?_ (tW h r));rintro e ai H' ⟨pf',E',hq,r',rfl⟩;cases e<;>try exact⟨pf',E',hq,r',rfl⟩
  obtain⟨bV,hw,hq⟩:=hq;obtain⟨E2,r2,e2⟩:=aq.wk hw r';rw[<-e2];exact tA hq r2
 |cond b x y tW tA=>
  intro Q E pf fr h r;obtain⟨bV,hw,h⟩:=h;obtain⟨E2,r2,e2⟩:=aq.wk hw r;rw[<-e2];unfold QX at h;split at h
  ·rename_i v bb hb;simp only[fc,pA r2 hb];split at h
   ·rename_i hh;rw[aB hh];exact tW h r2
   ·rename_i hh;rw[az hh];exact tA h r2
  ·cases h
 |block id b ih=>
  intro Q E pf fr h r;refine(show fc P c.nt b (Io id (Nm c.nt pin E0 Q)) fr E.H from Lr ?_ (ih h r));rintro e ai H' ⟨pf',E',hq,r',rfl⟩;cases e<;>try exact⟨pf',E',hq,r',rfl⟩
  rename_i i;simp only[HN]at hq;simp only[Io];split at hq
  ·rename_i hi;rw[aB hi];exact⟨pf',E',hq,r',rfl⟩
  ·rename_i hi;rw[az hi];exact⟨pf',E',hq,r',rfl⟩
 |loop b ih=>
  intro Q E pf fr h r;obtain⟨n,hn⟩:=h;refine⟨n,?_⟩;induction n generalizing E pf fr with
  |zero=>exact hn.elim
  |succ n Cn=>
   obtain⟨bV,hw,hn⟩:=hn;obtain⟨E2,r2,e2⟩:=aq.wk hw r;rw[<-e2];refine⟨fr,λ_=>.inl rfl,Lr ?_ (ih hn r2)⟩;rintro e ai H' ⟨pf',E',hq,r',rfl⟩;cases e<;>first|exact Cn r' hq|exact⟨pf',E',hq,r',rfl⟩
 |exit id=>intro Q E pf fr h r;exact⟨pf,E,h,r,rfl⟩
 |ret=>intro Q E pf fr h r;exact⟨pf,E,h,r,rfl⟩
 |_=>intros;rename_i h _;exact absurd h (by simp[gq])
def zzC(r:aq nt pin E0 E pf fr){fl:List (PV×Value)}(hfl:d9 nt E fl){y:PV}{pf':ah}(hl:qh (pf t)=aa)(h:lz pf t (pf t)=J (y,pf')):
 ∃v E',fr t=.v v/\E'.H=E.H/\aq nt pin E0 E' pf' fr/\d9 nt E' (fl++[(y,v)]):=by
 obtain⟨v,fr1,H1,E1,m1,e1,r1,f1⟩:=ug (ez:=0) r hfl (x:=.tmp t) (show eu 0 pf (.tmp t)=J (y,pf')from h);have hn:=zrk (ez:=0) r (x:=.tmp t) (show eu 0 pf (.tmp t)=J (y,pf')from h) (by simpa[vr]using hl);obtain⟨m2,rfl,rfl⟩:=U8 m1 hn;refine⟨v,E1,?_,e1,r1,f1⟩;simp only[be]at m2;split at m2
 ·rename_i u hu;cases m2;exact hu
 ·cases m2
def zus(r:aq nt pin E0 E pf fr){fl:List (PV×Value)}(hfl:d9 nt E fl){x:ResultVar}{y:PV}{pf':ah}(h:CU P pf x=J (y,pf')):
 ∃v E',rV P fr x=J v/\E'.H=E.H/\aq nt pin E0 E' pf' fr/\d9 nt E' (fl++[(y,v)]):=by
 cases x with
 |tmp t=>
  simp only[CU]at h;split at h
  ·cases h
  ·rename_i hl;obtain⟨v,E',h1,h2⟩:=zzC r hfl (by simpa using hl) h;exact⟨v,E',by simp[rV,h1],h2⟩
 |cell t ty=>
  simp only[CU]at h;have hf:=r.f t;have mV:t<nt:=Mq r (by intro e;rw[e]at h;simp[F7,jP]at h);unfold F7 at h;split at h
  ·rename_i row sz aE jq;obtain⟨dF,ht⟩:=Gf jq;rw[aE]at hf;obtain⟨cells,c1,c2,c3⟩:=hf;split at h
   ·rename_i ey;simp only[aT,b9]at h;obtain⟨rfl,rfl⟩:=h;refine⟨.agg cells.toArray,E.rl (fg (t,[]) (nt,[(0,fl.length)])),?_,rfl,?_,?_⟩
    ·simp only[rV,c1,mX,ht];rw[Dw (by omega),KD (by omega)];rfl
    ·exact r.qs mV dO (λs hs dH=>iZ λq=>kB dH) (λL hL=>absurd hL (A1 _)) (λ_ _=>rfl) (λh=>absurd h (yA _)) nS r.ok.rl.wf r.ok.rl.fresh (λ_ _ h1 h2=>.inl (by rw[h1]at h2;cases h2;rfl)) wA rfl r.pin
    ·refine(hfl.stay dO (iZ λq=>kB (a0z mV))).snoc (.agg (by simpa using c2) λj x y a b=>?_);refine(c3 j x y a (by simpa using b)).move dO (k8 λq=>?_);have:=zgw (t,[]) (nt,[(0,fl.length)]) ((0,j)::q);simpa[cO]using this
   ·cases h
  ·rename_i x row sz aE jq;obtain⟨dF,ht⟩:=Gf jq;rw[aE]at hf;obtain⟨cells,c1,c2,c3⟩:=hf;simp only[aT,b9]at h;obtain⟨rfl,rfl⟩:=h;cases cells with
   |nil=>simp at c2
   |cons w cells=>
    refine⟨w,E.rl (fg (t,[(0,0)]) (nt,[(0,fl.length)])),?_,rfl,?_,?_⟩
    ·simp only[rV,c1,mX,ht]
    ·exact r.qs mV dO (λs hs dH=>iZ λq=>kB dH) (λL hL=>absurd hL (A1 _)) (λ_ _=>rfl) (λh=>absurd h (yA _)) nS r.ok.rl.wf r.ok.rl.fresh (λ_ _ h1 h2=>.inl (by rw[h1]at h2;cases h2;rfl)) wA rfl r.pin
    ·exact(hfl.stay dO (iZ λq=>kB (a0z mV))).snoc ((c3 0 x w rfl rfl).move dO (k8 λq=>zgw _ _ q))
  ·cases h
def zut:∀{xs:List ResultVar}{E:Env}{pf pf':ah}{fl:List (PV×Value)}{ys:List PV},aq nt pin E0 E pf fr->d9 nt E fl->sN P pf xs=J (ys,pf')->
 ∃vs E',pB P fr xs=J vs/\E'.H=E.H/\aq nt pin E0 E' pf' fr/\vs.length=ys.length/\d9 nt E' (fl++ys.zip vs):=by
 intro xs;induction xs with
 |nil=>
  intro E pf pf' fl ys r hfl h;simp only[sN,aT,b9]at h;obtain⟨rfl,rfl⟩:=h;exact⟨[],E,rfl,rfl,r,rfl,by simpa using hfl⟩
 |cons x xs ih=>
  intro E pf pf' fl ys r hfl h;simp only[sN,bR,bN,b9]at h;obtain⟨⟨y,aQ⟩,h1,⟨Ua,bV⟩,h2,rfl,rfl⟩:=h;obtain⟨v,E1,m1,e1,r1,f1⟩:=zus r hfl h1;obtain⟨vs,E2,m2,e2,r2,l2,f2⟩:=ih r1 f1 h2;exact⟨v::vs,E2,by simp[pB,m1,m2],e2.trans e1,r2,by simp[l2],by simpa using f2⟩
def zzj{pf:ah}:∀{l:List (Md×PV)}{k0 k:Nat}{y:PV},(kX pf k0 l)[k]? =J y->(∃a,l[k]? =J a/\a.1=.io/\y=KO (pf (k0+k)))\/y=.au:=by
 intro l;induction l with
 |nil=>intro k0 k y h;simp[kX]at h
 |cons a l ih=>
  obtain⟨md,x⟩:=a;intro k0 k y h;cases k with
  |zero=>
   cases md<;>simp[kX]at h<;>subst h
   ·exact .inr rfl
   ·exact .inr rfl
   ·exact .inl ⟨_,rfl,rfl,rfl⟩
  |succ k=>
   have h':(kX pf (k0+1) l)[k]? =J y:=by cases md<;>simpa[kX]using h
   rcases ih h' with⟨a,h1,h2,h3⟩|h1
   ·exact .inl ⟨a,by simpa using h1,h2,by rw[h3];congr 2;omega⟩
   ·exact .inr h1
def RG{pf:ah}:∀{l:List (Md×PV)}{k0:Nat},(kX pf k0 l).length=l.length:=by
 intro l;induction l with
 |nil=>intro k0;rfl
 |cons a l ih=>intro k0;obtain⟨md,x⟩:=a;cases md<;>simp[kX,ih]
def zBe:∀{l:List (Md×PV)}{k0 k:Nat}{a:Md×PV},l[k]? =J a->a.1=.io->k0+k∈jA k0 l:=by
 intro l;induction l with
 |nil=>intro k0 k a h;simp at h
 |cons b l ih=>
  obtain⟨md,x⟩:=b;intro k0 k a h ha;cases k with
  |zero=>simp at h;subst h;simp only at ha;subst ha;simp[jA]
  |succ k=>
   have:=ih (k0:=k0+1) (by simpa using h) ha;have e:k0+1+k=k0+(k+1):=by omega
   rw[e]at this;cases md<;>simp[jA,this]
def pO:Nat->List (Md×PV)->List Value->List (Nat×Value)
 |k,(.io,_)::l,v::vs=>(k,v)::pO (k+1) l vs
 |k,_::l,_::vs=>pO (k+1) l vs
 |_,_,_=>[]
def ztV:∀{l:List (Md×PV)}{vs:List Value}{k0 j:Nat}{v:Value},(j,v)∈pO k0 l vs->∃k a,j=k0+k/\l[k]? =J a/\a.1=.io/\vs[k]? =J v:=by
 intro l;induction l with
 |nil=>intro vs k0 j v h;simp[pO]at h
 |cons b l ih=>
  obtain⟨md,x⟩:=b;intro vs k0 j v h;cases vs with
  |nil=>cases md<;>simp[pO]at h
  |cons w vs=>
   have dF:(j,v)∈pO (k0+1) l vs->∃k a,j=k0+k/\((md,x)::l)[k]? =J a/\a.1=.io/\(w::vs)[k]? =J v:=by
    intro h;obtain⟨k,a,h1,h2,h3,h4⟩:=ih h;exact⟨k+1,a,by omega,by simpa using h2,h3,by simpa using h4⟩
   cases md with
   |io=>
    simp only[pO,fK,b9]at h;rcases h with⟨rfl,rfl⟩|h
    ·exact⟨0,_,by omega,rfl,rfl,rfl⟩
    ·exact dF h
   |sh=>exact dF (by simpa[pO]using h)
   |mv=>exact dF (by simpa[pO]using h)
def zA8:∀{l:List (Md×PV)}{vs:List Value}{k0 k:Nat}{a:Md×PV}{v:Value},l[k]? =J a->a.1=.io->vs[k]? =J v->(k0+k,v)∈pO k0 l vs:=by
 intro l;induction l with
 |nil=>intro vs k0 k a v h;simp at h
 |cons b l ih=>
  obtain⟨md,x⟩:=b;intro vs k0 k a v h1 h2 h3;cases vs with
  |nil=>simp at h3
  |cons w vs=>
   cases k with
   |zero=>simp at h1 h3;subst h1;subst h3;simp only at h2;subst h2;simp[pO]
   |succ k=>
    have:=ih (k0:=k0+1) (by simpa using h1) h2 (by simpa using h3);have e:k0+1+k=k0+(k+1):=by omega
    rw[e]at this;cases md<;>simp[pO,this]
def ztd{f:FuncId}{fn:Func}{code:Code}{as:List (Md×PV)}{R:PV->List PV->Prop}{fz hp:List Nat}(hc:ax P f)(hf:P.funcs[f]? =J fn)(hb:fn.body=J code)(hlen:as.length<=fn.ntmps)
(h:gq P ⟨fn.ntmps,jA 0 as,fz,hp⟩ code (sg P fn.results.toList as R) (qF as)):ap P f as R:=by
 refine⟨hc,λE vs ok DS hargs=>?_⟩;refine Pf hc hf hb rfl (by omega) λ_=>?_
 let cc:aY:=⟨fn.ntmps,jA 0 as,fz,hp⟩
 have jU:ep cc (pO 0 as vs):=⟨λk v hk=>by
  obtain⟨k',a,h1,h2,h3,h4⟩:=ztV hk
  rw[h1];exact zBe h2 h3⟩
 have r:aq fn.ntmps (pO 0 as vs) E E (qF as) (FR.init vs):=by
  refine⟨fU.refl E,ok.wf,ok.fresh,λt=>?_,λt ht=>?_,λt s hs=>?_,λk v hk=>?_⟩
  ·unfold qF;cases sM:as[t]? with
   |none=>exact wA
   |some a=>
    have hlt:t<vs.length:=by have:=(cT.1 sM).1;omega
    have hv:=cE hlt;have:=hargs t a _ sM hv;refine n0 (v:=vs[t]) (by simp[FR.init,hv]) ?_;unfold Iw at this;split at this
    ·exact this.up
    ·exact this
  ·simp only[qF];rw[AZ (by omega)];rfl
  ·simp only[qF]at hs;cases sM:as[t]? with
   |none=>rw[sM]at hs;simp[EY,jP,bC]at hs
   |some a=>rw[sM]at hs;simp[EY,bC]at hs
  ·obtain⟨k',a,rfl,h2,h3,h4⟩:=ztV hk;simp[FR.init,h4]
 refine Lr ?_ (zyg (c:=cc) jU code h r);rintro e ai H' ⟨pf',E1,hq,r1,rfl⟩
 have done:Fj as R (sN P pf' fn.results.toList)->match pB P ai fn.results.toList with|some us=>∃r outs E',R r outs/\E'.H=E1.H/\VI E E' as.length vs r (xc us) outs|none=>False:=by
  intro hq;unfold Fj at hq;split at hq
  ·rename_i x FC;obtain⟨ys,bV⟩:=x;obtain⟨us,E2,m1,e1,r2,l1,f1⟩:=zut r1 (fl:=[]) (λk x v h=>by simp at h) FC;rw[m1];simp only[mM]at f1
   have Sm:∀(E3:Env),GK E2 E3->(∀s:Nat,s<fn.ntmps->du E2 E3 (J (s,[])) (J (s,[])))->∀(k:Nat) (y:PV) (v:Value),(kX bV 0 as)[k]? =J y->vs[k]? =J v->PR E3 (J (k,[])) y v:=by
    intro E3 hg hm k y v hy hv;rcases zzj hy with⟨a,h1,h2,rfl⟩|rfl
    ·rw[gk];have Lu:k<fn.ntmps:=by have:=(cT.1 h1).1;omega
     have zP:=r2.pin k v (by simpa using zA8 (k0:=0) h1 h2 hv);have pT:=r2.f k;cases s9:bV k with
     |v z=>
      rw[s9]at pT;show PR E3 _ z v;by_cases hz:z=.au
      ·subst hz;exact .au v
      ·obtain⟨w,g1,g2⟩:=gi pT hz;rw[zP]at g1;cases g1;exact g2.move hg (hm k Lu)
     |_=>exact .au v
    ·exact .au v
   match ys,us,l1 with
   |[],[],_=>exact⟨_,_,E2,hq,e1,⟨r2.ok,r2.since,.au _,RG,Sm E2 (GK.refl _) λs _=>.refl _⟩⟩
   |[y],[u],_=>
    refine⟨_,_,E2.rl (fg (fn.ntmps,[(0,0)]) (as.length,[])),hq,e1,⟨r2.ok.rl,r2.since.trans nS,(f1 0 y u rfl).move dO (k8 λq=>zgw _ _ q),RG,Sm _ dO λs hs=>iZ λq=>kB (by show s≠fn.ntmps;omega)⟩⟩
   |y::y2::ys,u::u2::us,hl=>
    refine⟨_,_,E2.rl (fg (fn.ntmps,[]) (as.length,[])),hq,e1,⟨r2.ok.rl,r2.since.trans nS,.bO (by simpa using hl.symm) (by simp) λj x w a b=>?_,RG,Sm _ dO λs hs=>iZ λq=>kB (by show s≠fn.ntmps;omega)⟩⟩;have:=f1 j x w (by rw[Gz];exact⟨a,by simpa using b⟩);refine this.move dO (k8 λq=>?_);have h3:=zgw (fn.ntmps,[]) (as.length,[]) ((0,j)::q);simpa[cO]using h3
  ·cases hq
 cases e<;>first|exact done hq|exact hq.elim
end
end Go.Pm
