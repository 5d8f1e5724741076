import Derived.Test.YtnojafnlicbhpaaGreatPmQ
open Bool renaming false→aa,true→Z
open Option renaming some→J
set_option linter.defProp false
namespace Go.Pm
open Go.Am
def KA:=@List.take_of_length_le
section
variable {nt:Nat}{pin:List (Nat×Value)}{E0 E E':Env}{pf:ah}{fr ai:FR}{c:aY}{P:Program}
variable{ls:Bool}{rg:List Nat}{t:Nat}
def zDA(r:aq nt pin E0 E pf fr)(h:HJ (pf t)=Z):∃cells,fr t=.loc cells:=by
 have hf:=r.f t;cases aD:pf t with
 |bl row=>rw[aD]at hf;obtain⟨cells,c1,_⟩:=hf;exact⟨cells,c1⟩
 |_=>rw[aD]at h;simp[HJ]at h
def Xc{l:Lo}{x:PV}{v:Value}(h:PR E l x v)(hx:x≠.au) :sS rg ls t (.v v)=Z:=by
 cases h with
 |au v=>exact absurd rfl hx
 |bO hl h0 _=>
  simp only[sS,qc,List.isEmpty_eq_false_iff];intro e;rw[e]at hl;exact h0 (mK hl)
 |_=>rfl
def zww(r:aq nt pin E0 E pf fr)(h:lv pf rg ls t (pf t)=Z):sS rg ls t (fr t)=Z:=by
 have hf:=r.f t;cases aD:pf t with
 |v x=>
  rw[aD]at h hf;simp only[lv,qc]at h;obtain⟨v,h1,h2⟩:=ga hf (nX h);rw[h1];exact Xc h2 (nX h)
 |skip=>rw[aD]at hf;have hf:fr t=.skip:=hf;rw[hf];rfl
 |ls es rows=>
  rw[aD]at h hf;simp only[lv]at h;obtain⟨cells,c1,_⟩:=hf;rw[c1];exact h
 |bl row=>
  rw[aD]at h hf;simp only[lv]at h;obtain⟨cells,c1,_⟩:=hf;rw[c1];exact h
 |pt s p i j=>
  rw[aD]at h hf;simp only[lv,tY]at h;rcases hf with⟨cells,h1,h2,h3,h4⟩|⟨v0,id,o,h1,h2,h3⟩
  ·rw[h4];rcases h with h|h|h
   ·exact h
   rotate_left
   ·rw[h2]at h;cases h
   ·exfalso;have hg:=r.f s;unfold Lx at h;split at h
    ·rename_i x fI;rw[fI]at hg;obtain⟨w,g1,_⟩:=ga hg (nX (by simpa using h));rw[h1]at g1;cases g1
    ·cases h
  ·rw[h3];rfl
 |rf s p=>
  rw[aD]at h hf;simp only[lv]at h;obtain⟨v,h1,h2⟩:=hf;unfold Ng at h;split at h
  ·rename_i x hx;have hj:=nX (x:=x) (by simpa using h);obtain⟨v',w1,w2⟩:=r.at hx hj (jc r h2 hx);have:=w1.same h2;subst this;rw[h1];exact Xc w2 hj
  ·cases h
 |rv s p lo hi=>
  rw[aD]at hf;rcases hf with⟨_,g2,_⟩|⟨id,off,es,n,cc,_,_,_,g4⟩
  ·rw[g2];rfl
  ·rw[g4];rfl
 |ra s p i j n=>rw[aD]at hf;obtain⟨vs,h1,h2⟩:=hf;rw[h1];rfl
 |as b s p i j n=>
  rw[aD]at h hf;cases b with
  |false=>obtain⟨vs,h1,_⟩:=hf;rw[h1];show ls=Z;simpa[lv]using h
  |true=>obtain⟨id,off,k,v,h1,_⟩:=hf;rw[h1];rfl
 |cl s g us=>rw[aD]at hf;obtain⟨v,vs,h1,_⟩:=hf;rw[h1];rfl
def zvU(r:aq nt pin E0 E pf fr) :∀{l:List Nat},xO pf rg ls l=Z->xG rg ls fr l=Z:=by
 intro l;induction l with
 |nil=>intro _;rfl
 |cons t l ih=>
  intro h;simp only[xO,bI]at h;simp only[xG,bI];exact⟨zww r h.1,ih h.2⟩
def zwd(r:aq nt pin E0 E pf fr){m:Option Nat}(h:A4 pf m=Z):DI fr m=Z:=by
 cases m with
 |none=>rfl
 |some t=>
  simp only[A4]at h;simp only[DI];have hf:=r.f t;cases aD:pf t with
  |bl row=>rw[aD]at hf;obtain⟨cells,c1,_⟩:=hf;rw[c1];rfl
  |skip=>rw[aD]at hf;have hf:fr t=.skip:=hf;rw[hf];rfl
  |pt s p i j=>
   rw[aD]at h hf;unfold CO at h;split at h
   ·cases ‹PF.pt s p i j=_›
   ·cases ‹PF.pt s p i j=_›
   ·rename_i s' i' j' wM;cases wM;obtain⟨cells,hc⟩:=zDA r h;rcases hf with⟨dx,h1,h2,h3,h4⟩|⟨v0,id,o,h1,h2,h3⟩
    ·rw[h4];rfl
    ·have:=Fg h1;rw[hc]at this;cases this
   ·cases h
  |_=>rw[aD]at h;simp[CO]at h
def Wb(r:aq c.nt pin E0 E pf fr)(hp:er c pin){ext:Bool}{o:Oper}{K:ah->Prop}{K':FR->AH->Prop}(h:sf P c ext o K pf)
(hk:∀pf' ai E',K pf'->aq c.nt pin E0 E' pf' ai->K' ai E'.H):aM P c.nt o (λai H'=>(ext=Z->fu E.H H')/\K' ai H') fr E.H:=by
 unfold sf at h;split at h
 ·rename_i f args ts ho;split at h
  case isFalse hx=>
   rcases NA (c:=c.CB) r ⟨hp.h⟩ h hk with h|h
   ·exact Ck (λ_ _ hh=>⟨λe=>absurd e hx,hh⟩) h
   ·exact absurd rfl h.1
  case isTrue hx=>
  exact Zq (K':=λai H'=>(ext=Z->fu E.H H')/\K' ai H') r hp ho h λpf' ai E' a b e=>⟨λ_=>e λm hm=>(nr.1 hm).2,hk pf' ai E' a b⟩
 ·rename_i qh;obtain⟨h1,h2⟩:=h;rcases NA (c:=c.CB) r ⟨hp.h⟩ h2 hk with h|h
  ·cases ext with
   |false=>exact Ck (λ_ _ hh=>⟨λe=>(by cases e),hh⟩) h
   |true=>exact Ck (λ_ _ hh=>⟨λ_=>hh.1,hh.2⟩) (zB3 r.wf (h1 rfl) (λf args ts e=>qh f args ts e) h)
  ·exact absurd rfl h.1
def zwY(r:aq c.nt pin E0 E pf fr)(hp:er c pin){pre:List (Option Tmp)}{e:DE}{o:Oper}{K:ah->Prop}{K':FR->AH->Prop}(h:Fo P c pre e o K pf)
(hk:∀pf' ai E',K pf'->aq c.nt pin E0 E' pf' ai->K' ai E'.H):uN P c.nt pre e o K' fr E.H:=by
 obtain⟨h1,h2⟩:=h;simp only[bI]at h1;refine⟨by simp only[jQ,bI];exact⟨zvU r h1.1,zwd r h1.2⟩,?_⟩;unfold IH at h2;unfold nm;split at h2
 ·rename_i hg;rw[hg];exact Wb r hp h2 hk
 ·rename_i j b hg;rw[hg];simp only;unfold k9 at h2;split at h2
  ·rename_i y hy;rw[Yb r hy];simp only;split at h2
   ·rename_i e';rw[aB e'];exact Wb r hp h2 hk
   ·rename_i e';rw[az e'];exact zoR r hp h2 λpf' ai E' a b e=>⟨λ_=>by rw[e];exact .refl _,hk pf' ai E' a b⟩
  ·cases h2
def zuJ(hp:er c pin){pre:List (Option Tmp)}:∀{l:List (DE×Oper)}{E:Env}{pf:ah}{fr:FR}{K:ah->Prop}{K':FR->AH->Prop},aq c.nt pin E0 E pf fr->E4 P c pre l K pf->
 (∀pf' ai E',K pf'->aq c.nt pin E0 E' pf' ai->K' ai E'.H)->ir P c.nt pre l K' fr E.H:=by
 intro l;induction l with
 |nil=>intro E pf fr K K' r h hk;exact hk _ _ _ h r
 |cons x l ih=>
  obtain⟨e,o⟩:=x;intro E pf fr K K' r h hk;exact zwY r hp h λpf' ai E' a b=>ih b a hk
def Nc(nt:Nat)(pin:List (Nat×Value))(E0:Env)(Q:Exit->ah->Prop):Exit->FR->AH->Prop:=λe fr H=>∃pf E,Q e pf/\aq nt pin E0 E pf fr/\E.H=H
def zxJ(hp:er c pin):∀(x:Code) {Q:Exit->ah->Prop}{E:Env}{pf:ah}{fr:FR},gx P c x Q pf->aq c.nt pin E0 E pf fr->fe P c.nt x (Nc c.nt pin E0 Q) fr E.H:=by
 intro x;induction x with
 |skip=>intro Q E pf fr h r;exact⟨pf,E,h,r,rfl⟩
 |region id ops yG=>
  intro Q E pf fr h r;simp only[gx]at h;simp only[fe];split at h
  ·rename_i hd;rw[aB hd];obtain⟨hf,n,h⟩:=h;exact⟨hf,n,R6 (λ_ h=>zuJ hp r h λpf' ai E' a b=>⟨pf',E',a,b,rfl⟩) h⟩
  ·rename_i hd;rw[az hd];exact zwv hp r h λpf' ai E' a b=>⟨pf',E',a,b,rfl⟩
 |seq x y tw tB=>
  intro Q E pf fr h r;refine(show fe P c.nt x (Dw (fe P c.nt y (Nc c.nt pin E0 Q)) (Nc c.nt pin E0 Q)) fr E.H from Mt ?_ (tw h r));rintro e ai H' ⟨pf',E',hq,r',rfl⟩;cases e<;>try exact⟨pf',E',hq,r',rfl⟩
  obtain⟨bW,hw,hq⟩:=hq;obtain⟨E2,r2,e2⟩:=aq.wk hw r';rw[<-e2];exact tB hq r2
 |cond b x y tw tB=>
  intro Q E pf fr h r;obtain⟨bW,hw,h⟩:=h;obtain⟨E2,r2,e2⟩:=aq.wk hw r;rw[<-e2];unfold Ts at h;split at h
  ·rename_i v bb hb;simp only[fe,pV r2 hb];split at h
   ·rename_i hh;rw[aB hh];exact tw h r2
   ·rename_i hh;rw[az hh];exact tB h r2
  ·cases h
 |block id b ih=>
  intro Q E pf fr h r;refine(show fe P c.nt b (Ju id (Nc c.nt pin E0 Q)) fr E.H from Mt ?_ (ih h r));rintro e ai H' ⟨pf',E',hq,r',rfl⟩;cases e<;>try exact⟨pf',E',hq,r',rfl⟩
  rename_i i;simp only[GZ]at hq;simp only[Ju];split at hq
  ·rename_i hi;rw[aB hi];exact⟨pf',E',hq,r',rfl⟩
  ·rename_i hi;rw[az hi];exact⟨pf',E',hq,r',rfl⟩
 |loop b ih=>
  intro Q E pf fr h r;obtain⟨n,hn⟩:=h;refine⟨n,?_⟩;induction n generalizing E pf fr with
  |zero=>exact hn.elim
  |succ n CW=>
   obtain⟨bW,hw,hn⟩:=hn;obtain⟨E2,r2,e2⟩:=aq.wk hw r;rw[<-e2];refine⟨fr,λ_=>.inl rfl,Mt ?_ (ih hn r2)⟩;rintro e ai H' ⟨pf',E',hq,r',rfl⟩;cases e<;>first|exact CW r' hq|exact⟨pf',E',hq,r',rfl⟩
 |exit id=>intro Q E pf fr h r;exact⟨pf,E,h,r,rfl⟩
 |ret=>intro Q E pf fr h r;exact⟨pf,E,h,r,rfl⟩
 |_=>intros;rename_i h _;exact absurd h (by simp[gx])
def zzm(r:aq nt pin E0 E pf fr){fl:List (PV×Value)}(hfl:eb nt E fl){y:PV}{pf':ah}(hl:qK (pf t)=aa)(h:ll pf t (pf t)=J (y,pf')):
 ∃v E',fr t=.v v/\E'.H=E.H/\aq nt pin E0 E' pf' fr/\eb nt E' (fl++[(y,v)]):=by
 obtain⟨v,fr1,H1,E1,m1,e1,r1,f1⟩:=um (ez:=0) r hfl (x:=.tmp t) (show ew 0 pf (.tmp t)=J (y,pf')from h);have hn:=Zd (ez:=0) r (x:=.tmp t) (show ew 0 pf (.tmp t)=J (y,pf')from h) (by simpa[uE]using hl);obtain⟨m2,rfl,rfl⟩:=Yd m1 hn;refine⟨v,E1,?_,e1,r1,f1⟩;simp only[be]at m2;split at m2
 ·rename_i u hu;cases m2;exact hu
 ·cases m2
def zub(r:aq nt pin E0 E pf fr){fl:List (PV×Value)}(hfl:eb nt E fl){x:ResultVar}{y:PV}{pf':ah}(h:B7 P pf x=J (y,pf')):
 ∃v E',sy P fr x=J v/\E'.H=E.H/\aq nt pin E0 E' pf' fr/\eb nt E' (fl++[(y,v)]):=by
 cases x with
 |tmp t=>
  simp only[B7]at h;split at h
  ·cases h
  ·rename_i hl;obtain⟨v,E',h1,h2⟩:=zzm r hfl (by simpa using hl) h;exact⟨v,E',by simp[sy,h1],h2⟩
 |cell t ty=>
  simp only[B7]at h;have hf:=r.f t;have mQ:t<nt:=K3 r (by intro e;rw[e]at h;simp[EV,jP]at h);unfold EV at h;split at h
  ·rename_i row sz aD jp;obtain⟨dD,ht⟩:=Ge jp;rw[aD]at hf;obtain⟨cells,c1,c2,c3⟩:=hf;split at h
   ·rename_i eA;simp only[aT,b9]at h;obtain⟨rfl,rfl⟩:=h;refine⟨.agg cells.toArray,E.rl (fa (t,[]) (nt,[(0,fl.length)])),?_,rfl,?_,?_⟩
    ·simp only[sy,c1,mU,ht];rw[Fp (by omega),KA (by omega)];rfl
    ·exact r.qV mQ dO (λs hs dH=>iR λq=>kF dH) (λL hL=>absurd hL (A0 _)) (λ_ _=>rfl) (λh=>absurd h (yz _)) nD r.ok.rl.wf r.ok.rl.fresh (λ_ _ h1 h2=>.inl (by rw[h1]at h2;cases h2;rfl)) yn rfl r.pin
    ·refine(hfl.stay dO (iR λq=>kF (Aaw mQ))).snoc (.agg (by simpa using c2) λj x y a b=>?_);refine(c3 j x y a (by simpa using b)).move dO (lq λq=>?_);have:=zgr (t,[]) (nt,[(0,fl.length)]) ((0,j)::q);simpa[cO]using this
   ·cases h
  ·rename_i x row sz aD jp;obtain⟨dD,ht⟩:=Ge jp;rw[aD]at hf;obtain⟨cells,c1,c2,c3⟩:=hf;simp only[aT,b9]at h;obtain⟨rfl,rfl⟩:=h;cases cells with
   |nil=>simp at c2
   |cons w cells=>
    refine⟨w,E.rl (fa (t,[(0,0)]) (nt,[(0,fl.length)])),?_,rfl,?_,?_⟩
    ·simp only[sy,c1,mU,ht]
    ·exact r.qV mQ dO (λs hs dH=>iR λq=>kF dH) (λL hL=>absurd hL (A0 _)) (λ_ _=>rfl) (λh=>absurd h (yz _)) nD r.ok.rl.wf r.ok.rl.fresh (λ_ _ h1 h2=>.inl (by rw[h1]at h2;cases h2;rfl)) yn rfl r.pin
    ·exact(hfl.stay dO (iR λq=>kF (Aaw mQ))).snoc ((c3 0 x w rfl rfl).move dO (lq λq=>zgr _ _ q))
  ·cases h
def zt7:∀{xs:List ResultVar}{E:Env}{pf pf':ah}{fl:List (PV×Value)}{ys:List PV},aq nt pin E0 E pf fr->eb nt E fl->tJ P pf xs=J (ys,pf')->
 ∃vs E',pK P fr xs=J vs/\E'.H=E.H/\aq nt pin E0 E' pf' fr/\vs.length=ys.length/\eb nt E' (fl++ys.zip vs):=by
 intro xs;induction xs with
 |nil=>
  intro E pf pf' fl ys r hfl h;simp only[tJ,aT,b9]at h;obtain⟨rfl,rfl⟩:=h;exact⟨[],E,rfl,rfl,r,rfl,by simpa using hfl⟩
 |cons x xs ih=>
  intro E pf pf' fl ys r hfl h;simp only[tJ,bR,bN,b9]at h;obtain⟨⟨y,aQ⟩,h1,⟨QD,bW⟩,h2,rfl,rfl⟩:=h;obtain⟨v,E1,m1,e1,r1,f1⟩:=zub r hfl h1;obtain⟨vs,E2,m2,e2,r2,l2,f2⟩:=ih r1 f1 h2;exact⟨v::vs,E2,by simp[pK,m1,m2],e2.trans e1,r2,by simp[l2],by simpa using f2⟩
def zzH{pf:ah}:∀{l:List (Md×PV)}{k0 k:Nat}{y:PV},(lL pf k0 l)[k]? =J y->(∃a,l[k]? =J a/\a.1=.io/\y=Ma (pf (k0+k)))\/y=.au:=by
 intro l;induction l with
 |nil=>intro k0 k y h;simp[lL]at h
 |cons a l ih=>
  obtain⟨md,x⟩:=a;intro k0 k y h;cases k with
  |zero=>
   cases md<;>simp[lL]at h<;>subst h
   ·exact .inr rfl
   ·exact .inr rfl
   ·exact .inl ⟨_,rfl,rfl,rfl⟩
  |succ k=>
   have h':(lL pf (k0+1) l)[k]? =J y:=by cases md<;>simpa[lL]using h
   rcases ih h' with⟨a,h1,h2,h3⟩|h1
   ·exact .inl ⟨a,by simpa using h1,h2,by rw[h3];congr 2;omega⟩
   ·exact .inr h1
def RE{pf:ah}:∀{l:List (Md×PV)}{k0:Nat},(lL pf k0 l).length=l.length:=by
 intro l;induction l with
 |nil=>intro k0;rfl
 |cons a l ih=>intro k0;obtain⟨md,x⟩:=a;cases md<;>simp[lL,ih]
def zAV:∀{l:List (Md×PV)}{k0 k:Nat}{a:Md×PV},l[k]? =J a->a.1=.io->k0+k∈jw k0 l:=by
 intro l;induction l with
 |nil=>intro k0 k a h;simp at h
 |cons b l ih=>
  obtain⟨md,x⟩:=b;intro k0 k a h ha;cases k with
  |zero=>simp at h;subst h;simp only at ha;subst ha;simp[jw]
  |succ k=>
   have:=ih (k0:=k0+1) (by simpa using h) ha;have e:k0+1+k=k0+(k+1):=by omega
   rw[e]at this;cases md<;>simp[jw,this]
def po:Nat->List (Md×PV)->List Value->List (Nat×Value)
 |k,(.io,_)::l,v::vs=>(k,v)::po (k+1) l vs
 |k,_::l,_::vs=>po (k+1) l vs
 |_,_,_=>[]
def YI:∀{l:List (Md×PV)}{vs:List Value}{k0 j:Nat}{v:Value},(j,v)∈po k0 l vs->∃k a,j=k0+k/\l[k]? =J a/\a.1=.io/\vs[k]? =J v:=by
 intro l;induction l with
 |nil=>intro vs k0 j v h;simp[po]at h
 |cons b l ih=>
  obtain⟨md,x⟩:=b;intro vs k0 j v h;cases vs with
  |nil=>cases md<;>simp[po]at h
  |cons w vs=>
   have dD:(j,v)∈po (k0+1) l vs->∃k a,j=k0+k/\((md,x)::l)[k]? =J a/\a.1=.io/\(w::vs)[k]? =J v:=by
    intro h;obtain⟨k,a,h1,h2,h3,h4⟩:=ih h;exact⟨k+1,a,by omega,by simpa using h2,h3,by simpa using h4⟩
   cases md with
   |io=>
    simp only[po,fK,b9]at h;rcases h with⟨rfl,rfl⟩|h
    ·exact⟨0,_,by omega,rfl,rfl,rfl⟩
    ·exact dD h
   |sh=>exact dD (by simpa[po]using h)
   |mv=>exact dD (by simpa[po]using h)
def zBH:∀{l:List (Md×PV)}{vs:List Value}{k0 k:Nat}{a:Md×PV}{v:Value},l[k]? =J a->a.1=.io->vs[k]? =J v->(k0+k,v)∈po k0 l vs:=by
 intro l;induction l with
 |nil=>intro vs k0 k a v h;simp at h
 |cons b l ih=>
  obtain⟨md,x⟩:=b;intro vs k0 k a v h1 h2 h3;cases vs with
  |nil=>simp at h3
  |cons w vs=>
   cases k with
   |zero=>simp at h1 h3;subst h1;subst h3;simp only at h2;subst h2;simp[po]
   |succ k=>
    have:=ih (k0:=k0+1) (by simpa using h1) h2 (by simpa using h3);have e:k0+1+k=k0+(k+1):=by omega
    rw[e]at this;cases md<;>simp[po,this]
def ztQ{f:FuncId}{fn:Func}{code:Code}{as:List (Md×PV)}{R:PV->List PV->Prop}{fz hp:List Nat}(hc:ax P f)(hf:P.funcs[f]? =J fn)(hb:fn.body=J code)(hlen:as.length<=fn.ntmps)
(h:gx P ⟨fn.ntmps,jw 0 as,fz,hp⟩ code (rB P fn.results.toList as R) (qi as)):ap P f as R:=by
 refine⟨hc,λE vs ok Ex hargs=>?_⟩;refine Tv hc hf hb rfl (by omega) λ_=>?_
 let cc:aY:=⟨fn.ntmps,jw 0 as,fz,hp⟩
 have jH:er cc (po 0 as vs):=⟨λk v hk=>by
  obtain⟨k',a,h1,h2,h3,h4⟩:=YI hk
  rw[h1];exact zAV h2 h3⟩
 have r:aq fn.ntmps (po 0 as vs) E E (qi as) (FR.init vs):=by
  refine⟨fZ.refl E,ok.wf,ok.fresh,λt=>?_,λt ht=>?_,λt s hs=>?_,λk v hk=>?_⟩
  ·unfold qi;cases s8:as[t]? with
   |none=>exact yn
   |some a=>
    have hlt:t<vs.length:=by have:=(cT.1 s8).1;omega
    have hv:=cE hlt;have:=hargs t a _ s8 hv;refine oS (v:=vs[t]) (by simp[FR.init,hv]) ?_;unfold HS at this;split at this
    ·exact this.up
    ·exact this
  ·simp only[qi];rw[AY (by omega)];rfl
  ·simp only[qi]at hs;cases s8:as[t]? with
   |none=>rw[s8]at hs;simp[EP,jP,bC]at hs
   |some a=>rw[s8]at hs;simp[EP,bC]at hs
  ·obtain⟨k',a,rfl,h2,h3,h4⟩:=YI hk;simp[FR.init,h4]
 refine Mt ?_ (zxJ (c:=cc) jH code h r);rintro e ai H' ⟨pf',E1,hq,r1,rfl⟩
 have done:EB as R (tJ P pf' fn.results.toList)->match pK P ai fn.results.toList with|some us=>∃r outs E',R r outs/\E'.H=E1.H/\Vb E E' as.length vs r (xf us) outs|none=>False:=by
  intro hq;unfold EB at hq;split at hq
  ·rename_i x Fs;obtain⟨ys,bW⟩:=x;obtain⟨us,E2,m1,e1,r2,l1,f1⟩:=zt7 r1 (fl:=[]) (λk x v h=>by simp at h) Fs;rw[m1];simp only[mL]at f1
   have Sf:∀(E3:Env),GK E2 E3->(∀s:Nat,s<fn.ntmps->dr E2 E3 (J (s,[])) (J (s,[])))->∀(k:Nat) (y:PV) (v:Value),(lL bW 0 as)[k]? =J y->vs[k]? =J v->PR E3 (J (k,[])) y v:=by
    intro E3 hg hm k y v hy hv;rcases zzH hy with⟨a,h1,h2,rfl⟩|rfl
    ·rw[gk];have Ll:k<fn.ntmps:=by have:=(cT.1 h1).1;omega
     have Aw:=r2.pin k v (by simpa using zBH (k0:=0) h1 h2 hv);have pO:=r2.f k;cases tq:bW k with
     |v z=>
      rw[tq]at pO;show PR E3 _ z v;by_cases hz:z=.au
      ·subst hz;exact .au v
      ·obtain⟨w,g1,g2⟩:=ga pO hz;rw[Aw]at g1;cases g1;exact g2.move hg (hm k Ll)
     |_=>exact .au v
    ·exact .au v
   match ys,us,l1 with
   |[],[],_=>exact⟨_,_,E2,hq,e1,⟨r2.ok,r2.since,.au _,RE,Sf E2 (GK.refl _) λs _=>.refl _⟩⟩
   |[y],[u],_=>
    refine⟨_,_,E2.rl (fa (fn.ntmps,[(0,0)]) (as.length,[])),hq,e1,⟨r2.ok.rl,r2.since.trans nD,(f1 0 y u rfl).move dO (lq λq=>zgr _ _ q),RE,Sf _ dO λs hs=>iR λq=>kF (by show s≠fn.ntmps;omega)⟩⟩
   |y::y2::ys,u::u2::us,hl=>
    refine⟨_,_,E2.rl (fa (fn.ntmps,[]) (as.length,[])),hq,e1,⟨r2.ok.rl,r2.since.trans nD,.bO (by simpa using hl.symm) (by simp) λj x w a b=>?_,RE,Sf _ dO λs hs=>iR λq=>kF (by show s≠fn.ntmps;omega)⟩⟩;have:=f1 j x w (by rw[Gx];exact⟨a,by simpa using b⟩);refine this.move dO (lq λq=>?_);have h3:=zgr (fn.ntmps,[]) (as.length,[]) ((0,j)::q);simpa[cO]using h3
  ·cases hq
 cases e<;>first|exact done hq|exact hq.elim
end
end Go.Pm
