import Derived.Test.YtnojafnlicbhpaaGreatPmQ
open Bool renaming false→aa,true→Z
open Option renaming some→J
set_option linter.defProp false
namespace Go.Pm
open Go.Am
def L5:=@List.take_of_length_le
section
variable {nt:Nat}{pin:List (Nat×Value)}{E0 E E':Env}{pf:ah}{fr ak:FR}{c:aY}{P:Program}
variable{ls:Bool}{rg:List Nat}{t:Nat}
def zDI(r:av nt pin E0 E pf fr)(h:Km (pf t)=Z):∃cells,fr t=.loc cells:=by
 have hf:=r.f t;cases aF:pf t with
 |bl row=>rw[aF]at hf;obtain⟨cells,c1,_⟩:=hf;exact⟨cells,c1⟩
 |_=>rw[aF]at h;simp[Km]at h
def okV{l:Lo}{x:PV}{v:Value}(h:PR E l x v)(hx:x≠.ax) :uG rg ls t (.v v)=Z:=by
 cases h with
 |ax v=>exact absurd rfl hx
 |bS hl h0 _=>
  simp only[uG,qK,List.isEmpty_eq_false_iff];intro e;rw[e]at hl;exact h0 (m9 hl)
 |_=>rfl
def zvJ(r:av nt pin E0 E pf fr)(h:l7 pf rg ls t (pf t)=Z):uG rg ls t (fr t)=Z:=by
 have hf:=r.f t;cases aF:pf t with
 |v x=>
  rw[aF]at h hf;simp only[l7,qK]at h;obtain⟨v,h1,h2⟩:=gA hf (oT h);rw[h1];exact okV h2 (oT h)
 |skip=>rw[aF]at hf;have hf:fr t=.skip:=hf;rw[hf];rfl
 |ls es rows=>
  rw[aF]at h hf;simp only[l7]at h;obtain⟨cells,c1,_⟩:=hf;rw[c1];exact h
 |bl row=>
  rw[aF]at h hf;simp only[l7]at h;obtain⟨cells,c1,_⟩:=hf;rw[c1];exact h
 |pt s p i j=>
  rw[aF]at h hf;simp only[l7,uI]at h;rcases hf with⟨cells,h1,h2,h3,h4⟩|⟨v0,id,o,h1,h2,h3⟩
  ·rw[h4];rcases h with h|h|h
   ·exact h
   rotate_left
   ·rw[h2]at h;cases h
   ·exfalso;have hg:=r.f s;unfold Oc at h;split at h
    ·rename_i x fW;rw[fW]at hg;obtain⟨w,g1,_⟩:=gA hg (oT (by simpa using h));rw[h1]at g1;cases g1
    ·cases h
  ·rw[h3];rfl
 |rf s p=>
  rw[aF]at h hf;simp only[l7]at h;obtain⟨v,h1,h2⟩:=hf;unfold OO at h;split at h
  ·rename_i x hx;have hj:=oT (x:=x) (by simpa using h);obtain⟨v',w1,w2⟩:=r.at hx hj (jn r h2 hx);have:=w1.same h2;subst this;rw[h1];exact okV w2 hj
  ·cases h
 |rv s p lo hi=>
  rw[aF]at hf;rcases hf with⟨_,g2,_⟩|⟨id,off,es,n,cc,_,_,_,g4⟩
  ·rw[g2];rfl
  ·rw[g4];rfl
 |ra s p i j n=>rw[aF]at hf;obtain⟨vs,h1,h2⟩:=hf;rw[h1];rfl
 |as b s p i j n=>
  rw[aF]at h hf;cases b with
  |false=>obtain⟨vs,h1,_⟩:=hf;rw[h1];show ls=Z;simpa[l7]using h
  |true=>obtain⟨id,off,k,v,h1,_⟩:=hf;rw[h1];rfl
 |cl s g us=>rw[aF]at hf;obtain⟨v,vs,h1,_⟩:=hf;rw[h1];rfl
def zvS(r:av nt pin E0 E pf fr) :∀{l:List Nat},yT pf rg ls l=Z->xY rg ls fr l=Z:=by
 intro l;induction l with
 |nil=>intro _;rfl
 |cons t l ih=>
  intro h;simp only[yT,bK]at h;simp only[xY,bK];exact⟨zvJ r h.1,ih h.2⟩
def zwi(r:av nt pin E0 E pf fr){m:Option Nat}(h:DR pf m=Z):Fw fr m=Z:=by
 cases m with
 |none=>rfl
 |some t=>
  simp only[DR]at h;simp only[Fw];have hf:=r.f t;cases aF:pf t with
  |bl row=>rw[aF]at hf;obtain⟨cells,c1,_⟩:=hf;rw[c1];rfl
  |skip=>rw[aF]at hf;have hf:fr t=.skip:=hf;rw[hf];rfl
  |pt s p i j=>
   rw[aF]at h hf;unfold Ce at h;split at h
   ·cases ‹PF.pt s p i j=_›
   ·cases ‹PF.pt s p i j=_›
   ·rename_i s' i' j' xW;cases xW;obtain⟨cells,hc⟩:=zDI r h;rcases hf with⟨dF,h1,h2,h3,h4⟩|⟨v0,id,o,h1,h2,h3⟩
    ·rw[h4];rfl
    ·have:=Hn h1;rw[hc]at this;cases this
   ·cases h
  |_=>rw[aF]at h;simp[Ce]at h
def W2(r:av c.nt pin E0 E pf fr)(hp:eG c pin){ext:Bool}{o:Oper}{K:ah->Prop}{K':FR->AH->Prop}(h:sQ P c ext o K pf)
(hk:∀pf' ak E',K pf'->av c.nt pin E0 E' pf' ak->K' ak E'.H):aP P c.nt o (λak H'=>(ext=Z->fJ E.H H')/\K' ak H') fr E.H:=by
 unfold sQ at h;split at h
 ·rename_i f args ts ho;split at h
  case isFalse hx=>
   rcases NK (c:=c.CQ) r ⟨hp.h⟩ h hk with h|h
   ·exact Dd (λ_ _ hh=>⟨λe=>absurd e hx,hh⟩) h
   ·exact absurd rfl h.1
  case isTrue hx=>
  exact znc (K':=λak H'=>(ext=Z->fJ E.H H')/\K' ak H') r hp ho h λpf' ak E' a b e=>⟨λ_=>e λm hm=>(nN.1 hm).2,hk pf' ak E' a b⟩
 ·rename_i qP;obtain⟨h1,h2⟩:=h;rcases NK (c:=c.CQ) r ⟨hp.h⟩ h2 hk with h|h
  ·cases ext with
   |false=>exact Dd (λ_ _ hh=>⟨λe=>(by cases e),hh⟩) h
   |true=>exact Dd (λ_ _ hh=>⟨λ_=>hh.1,hh.2⟩) (zB0 r.wf (h1 rfl) (λf args ts e=>qP f args ts e) h)
  ·exact absurd rfl h.1
def zwR(r:av c.nt pin E0 E pf fr)(hp:eG c pin){pre:List (Option Tmp)}{e:DE}{o:Oper}{K:ah->Prop}{K':FR->AH->Prop}(h:Hr P c pre e o K pf)
(hk:∀pf' ak E',K pf'->av c.nt pin E0 E' pf' ak->K' ak E'.H):wj P c.nt pre e o K' fr E.H:=by
 obtain⟨h1,h2⟩:=h;simp only[bK]at h1;refine⟨by simp only[jV,bK];exact⟨zvS r h1.1,zwi r h1.2⟩,?_⟩;unfold Ip at h2;unfold nm;split at h2
 ·rename_i hg;rw[hg];exact W2 r hp h2 hk
 ·rename_i j b hg;rw[hg];simp only;unfold me at h2;split at h2
  ·rename_i y hy;rw[Yj r hy];simp only;split at h2
   ·rename_i e';rw[aD e'];exact W2 r hp h2 hk
   ·rename_i e';rw[aB e'];exact zoT r hp h2 λpf' ak E' a b e=>⟨λ_=>by rw[e];exact .refl _,hk pf' ak E' a b⟩
  ·cases h2
def zut(hp:eG c pin){pre:List (Option Tmp)}:∀{l:List (DE×Oper)}{E:Env}{pf:ah}{fr:FR}{K:ah->Prop}{K':FR->AH->Prop},av c.nt pin E0 E pf fr->GT P c pre l K pf->
 (∀pf' ak E',K pf'->av c.nt pin E0 E' pf' ak->K' ak E'.H)->iF P c.nt pre l K' fr E.H:=by
 intro l;induction l with
 |nil=>intro E pf fr K K' r h hk;exact hk _ _ _ h r
 |cons x l ih=>
  obtain⟨e,o⟩:=x;intro E pf fr K K' r h hk;exact zwR r hp h λpf' ak E' a b=>ih b a hk
def Pz(nt:Nat)(pin:List (Nat×Value))(E0:Env)(Q:Exit->ah->Prop):Exit->FR->AH->Prop:=λe fr H=>∃pf E,Q e pf/\av nt pin E0 E pf fr/\E.H=H
def zyF(hp:eG c pin):∀(x:Code) {Q:Exit->ah->Prop}{E:Env}{pf:ah}{fr:FR},gJ P c x Q pf->av c.nt pin E0 E pf fr->fu P c.nt x (Pz c.nt pin E0 Q) fr E.H:=by
 intro x;induction x with
 |skip=>intro Q E pf fr h r;exact⟨pf,E,h,r,rfl⟩
 |region id ops BJ=>
  intro Q E pf fr h r;simp only[gJ]at h;simp only[fu];split at h
  ·rename_i hd;rw[aD hd];obtain⟨hf,n,h⟩:=h;exact⟨hf,n,TL (λ_ h=>zut hp r h λpf' ak E' a b=>⟨pf',E',a,b,rfl⟩) h⟩
  ·rename_i hd;rw[aB hd];exact zwl hp r h λpf' ak E' a b=>⟨pf',E',a,b,rfl⟩
 |seq x y uu uC=>
  intro Q E pf fr h r;refine(show fu P c.nt x (F4 (fu P c.nt y (Pz c.nt pin E0 Q)) (Pz c.nt pin E0 Q)) fr E.H from On ?_ (uu h r));rintro e ak H' ⟨pf',E',hq,r',rfl⟩;cases e<;>try exact⟨pf',E',hq,r',rfl⟩
  obtain⟨b7,hw,hq⟩:=hq;obtain⟨E2,r2,e2⟩:=av.wk hw r';rw[<-e2];exact uC hq r2
 |cond b x y uu uC=>
  intro Q E pf fr h r;obtain⟨b7,hw,h⟩:=h;obtain⟨E2,r2,e2⟩:=av.wk hw r;rw[<-e2];unfold Vc at h;split at h
  ·rename_i v bb hb;simp only[fu,qk r2 hb];split at h
   ·rename_i hh;rw[aD hh];exact uu h r2
   ·rename_i hh;rw[aB hh];exact uC h r2
  ·cases h
 |block id b ih=>
  intro Q E pf fr h r;refine(show fu P c.nt b (In id (Pz c.nt pin E0 Q)) fr E.H from On ?_ (ih h r));rintro e ak H' ⟨pf',E',hq,r',rfl⟩;cases e<;>try exact⟨pf',E',hq,r',rfl⟩
  rename_i i;simp only[JW]at hq;simp only[In];split at hq
  ·rename_i hi;rw[aD hi];exact⟨pf',E',hq,r',rfl⟩
  ·rename_i hi;rw[aB hi];exact⟨pf',E',hq,r',rfl⟩
 |loop b ih=>
  intro Q E pf fr h r;obtain⟨n,hn⟩:=h;refine⟨n,?_⟩;induction n generalizing E pf fr with
  |zero=>exact hn.elim
  |succ n Db=>
   obtain⟨b7,hw,hn⟩:=hn;obtain⟨E2,r2,e2⟩:=av.wk hw r;rw[<-e2];refine⟨fr,λ_=>.inl rfl,On ?_ (ih hn r2)⟩;rintro e ak H' ⟨pf',E',hq,r',rfl⟩;cases e<;>first|exact Db r' hq|exact⟨pf',E',hq,r',rfl⟩
 |exit id=>intro Q E pf fr h r;exact⟨pf,E,h,r,rfl⟩
 |ret=>intro Q E pf fr h r;exact⟨pf,E,h,r,rfl⟩
 |_=>intros;rename_i h _;exact absurd h (by simp[gJ])
def zyR(r:av nt pin E0 E pf fr){fl:List (PV×Value)}(hfl:ep nt E fl){y:PV}{pf':ah}(hl:rG (pf t)=aa)(h:mn pf t (pf t)=J (y,pf')):
 ∃v E',fr t=.v v/\E'.H=E.H/\av nt pin E0 E' pf' fr/\ep nt E' (fl++[(y,v)]):=by
 obtain⟨v,fr1,H1,E1,m1,e1,r1,f1⟩:=wb (ez:=0) r hfl (x:=.tmp t) (show eB 0 pf (.tmp t)=J (y,pf')from h);have hn:=zrp (ez:=0) r (x:=.tmp t) (show eB 0 pf (.tmp t)=J (y,pf')from h) (by simpa[wA]using hl);obtain⟨m2,rfl,rfl⟩:=XW m1 hn;refine⟨v,E1,?_,e1,r1,f1⟩;simp only[be]at m2;split at m2
 ·rename_i u hu;cases m2;exact hu
 ·cases m2
def zuE(r:av nt pin E0 E pf fr){fl:List (PV×Value)}(hfl:ep nt E fl){x:ResultVar}{y:PV}{pf':ah}(h:Cd P pf x=J (y,pf')):
 ∃v E',s8 P fr x=J v/\E'.H=E.H/\av nt pin E0 E' pf' fr/\ep nt E' (fl++[(y,v)]):=by
 cases x with
 |tmp t=>
  simp only[Cd]at h;split at h
  ·cases h
  ·rename_i hl;obtain⟨v,E',h1,h2⟩:=zyR r hfl (by simpa using hl) h;exact⟨v,E',by simp[s8,h1],h2⟩
 |cell t ty=>
  simp only[Cd]at h;have hf:=r.f t;have nC:t<nt:=NO r (by intro e;rw[e]at h;simp[EZ,jP]at h);unfold EZ at h;split at h
  ·rename_i row sz aF jD;obtain⟨dH,ht⟩:=Gi jD;rw[aF]at hf;obtain⟨cells,c1,c2,c3⟩:=hf;split at h
   ·rename_i eI;simp only[aT,cg]at h;obtain⟨rfl,rfl⟩:=h;refine⟨.agg cells.toArray,E.rl (fq (t,[]) (nt,[(0,fl.length)])),?_,rfl,?_,?_⟩
    ·simp only[s8,c1,nx,ht];rw[G2 (by omega),L5 (by omega)];rfl
    ·exact r.rK nC dU (λs hs dO=>jh λq=>lq dO) (λL hL=>absurd hL (B0 _)) (λ_ _=>rfl) (λh=>absurd h (zB _)) oi r.ok.rl.wf r.ok.rl.fresh (λ_ _ h1 h2=>.inl (by rw[h1]at h2;cases h2;rfl)) yt rfl r.pin
    ·refine(hfl.stay dU (jh λq=>lq (a1o nC))).snoc (.agg (by simpa using c2) λj x y a b=>?_);refine(c3 j x y a (by simpa using b)).move dU (lF λq=>?_);have:=zgu (t,[]) (nt,[(0,fl.length)]) ((0,j)::q);simpa[cS]using this
   ·cases h
  ·rename_i x row sz aF jD;obtain⟨dH,ht⟩:=Gi jD;rw[aF]at hf;obtain⟨cells,c1,c2,c3⟩:=hf;simp only[aT,cg]at h;obtain⟨rfl,rfl⟩:=h;cases cells with
   |nil=>simp at c2
   |cons w cells=>
    refine⟨w,E.rl (fq (t,[(0,0)]) (nt,[(0,fl.length)])),?_,rfl,?_,?_⟩
    ·simp only[s8,c1,nx,ht]
    ·exact r.rK nC dU (λs hs dO=>jh λq=>lq dO) (λL hL=>absurd hL (B0 _)) (λ_ _=>rfl) (λh=>absurd h (zB _)) oi r.ok.rl.wf r.ok.rl.fresh (λ_ _ h1 h2=>.inl (by rw[h1]at h2;cases h2;rfl)) yt rfl r.pin
    ·exact(hfl.stay dU (jh λq=>lq (a1o nC))).snoc ((c3 0 x w rfl rfl).move dU (lF λq=>zgu _ _ q))
  ·cases h
def zuh:∀{xs:List ResultVar}{E:Env}{pf pf':ah}{fl:List (PV×Value)}{ys:List PV},av nt pin E0 E pf fr->ep nt E fl->ua P pf xs=J (ys,pf')->
 ∃vs E',qi P fr xs=J vs/\E'.H=E.H/\av nt pin E0 E' pf' fr/\vs.length=ys.length/\ep nt E' (fl++ys.zip vs):=by
 intro xs;induction xs with
 |nil=>
  intro E pf pf' fl ys r hfl h;simp only[ua,aT,cg]at h;obtain⟨rfl,rfl⟩:=h;exact⟨[],E,rfl,rfl,r,rfl,by simpa using hfl⟩
 |cons x xs ih=>
  intro E pf pf' fl ys r hfl h;simp only[ua,bW,bP,cg]at h;obtain⟨⟨y,aR⟩,h1,⟨QN,b7⟩,h2,rfl,rfl⟩:=h;obtain⟨v,E1,m1,e1,r1,f1⟩:=zuE r hfl h1;obtain⟨vs,E2,m2,e2,r2,l2,f2⟩:=ih r1 f1 h2;exact⟨v::vs,E2,by simp[qi,m1,m2],e2.trans e1,r2,by simp[l2],by simpa using f2⟩
def zzN{pf:ah}:∀{l:List (Md×PV)}{k0 k:Nat}{y:PV},(lY pf k0 l)[k]? =J y->(∃a,l[k]? =J a/\a.1=.io/\y=Ni (pf (k0+k)))\/y=.ax:=by
 intro l;induction l with
 |nil=>intro k0 k y h;simp[lY]at h
 |cons a l ih=>
  obtain⟨md,x⟩:=a;intro k0 k y h;cases k with
  |zero=>
   cases md<;>simp[lY]at h<;>subst h
   ·exact .inr rfl
   ·exact .inr rfl
   ·exact .inl ⟨_,rfl,rfl,rfl⟩
  |succ k=>
   have h':(lY pf (k0+1) l)[k]? =J y:=by cases md<;>simpa[lY]using h
   rcases ih h' with⟨a,h1,h2,h3⟩|h1
   ·exact .inl ⟨a,by simpa using h1,h2,by rw[h3];congr 2;omega⟩
   ·exact .inr h1
def S4{pf:ah}:∀{l:List (Md×PV)}{k0:Nat},(lY pf k0 l).length=l.length:=by
 intro l;induction l with
 |nil=>intro k0;rfl
 |cons a l ih=>intro k0;obtain⟨md,x⟩:=a;cases md<;>simp[lY,ih]
def zAQ:∀{l:List (Md×PV)}{k0 k:Nat}{a:Md×PV},l[k]? =J a->a.1=.io->k0+k∈j3 k0 l:=by
 intro l;induction l with
 |nil=>intro k0 k a h;simp at h
 |cons b l ih=>
  obtain⟨md,x⟩:=b;intro k0 k a h ha;cases k with
  |zero=>simp at h;subst h;simp only at ha;subst ha;simp[j3]
  |succ k=>
   have:=ih (k0:=k0+1) (by simpa using h) ha;have e:k0+1+k=k0+(k+1):=by omega
   rw[e]at this;cases md<;>simp[j3,this]
def p6:Nat->List (Md×PV)->List Value->List (Nat×Value)
 |k,(.io,_)::l,v::vs=>(k,v)::p6 (k+1) l vs
 |k,_::l,_::vs=>p6 (k+1) l vs
 |_,_,_=>[]
def XJ:∀{l:List (Md×PV)}{vs:List Value}{k0 j:Nat}{v:Value},(j,v)∈p6 k0 l vs->∃k a,j=k0+k/\l[k]? =J a/\a.1=.io/\vs[k]? =J v:=by
 intro l;induction l with
 |nil=>intro vs k0 j v h;simp[p6]at h
 |cons b l ih=>
  obtain⟨md,x⟩:=b;intro vs k0 j v h;cases vs with
  |nil=>cases md<;>simp[p6]at h
  |cons w vs=>
   have dH:(j,v)∈p6 (k0+1) l vs->∃k a,j=k0+k/\((md,x)::l)[k]? =J a/\a.1=.io/\(w::vs)[k]? =J v:=by
    intro h;obtain⟨k,a,h1,h2,h3,h4⟩:=ih h;exact⟨k+1,a,by omega,by simpa using h2,h3,by simpa using h4⟩
   cases md with
   |io=>
    simp only[p6,f6,cg]at h;rcases h with⟨rfl,rfl⟩|h
    ·exact⟨0,_,by omega,rfl,rfl,rfl⟩
    ·exact dH h
   |sh=>exact dH (by simpa[p6]using h)
   |mv=>exact dH (by simpa[p6]using h)
def zBb:∀{l:List (Md×PV)}{vs:List Value}{k0 k:Nat}{a:Md×PV}{v:Value},l[k]? =J a->a.1=.io->vs[k]? =J v->(k0+k,v)∈p6 k0 l vs:=by
 intro l;induction l with
 |nil=>intro vs k0 k a v h;simp at h
 |cons b l ih=>
  obtain⟨md,x⟩:=b;intro vs k0 k a v h1 h2 h3;cases vs with
  |nil=>simp at h3
  |cons w vs=>
   cases k with
   |zero=>simp at h1 h3;subst h1;subst h3;simp only at h2;subst h2;simp[p6]
   |succ k=>
    have:=ih (k0:=k0+1) (by simpa using h1) h2 (by simpa using h3);have e:k0+1+k=k0+(k+1):=by omega
    rw[e]at this;cases md<;>simp[p6,this]
def zsX{f:FuncId}{fn:Func}{code:Code}{as:List (Md×PV)}{R:PV->List PV->Prop}{fz hp:List Nat}(hc:aA P f)(hf:P.funcs[f]? =J fn)(hb:fn.body=J code)(hlen:as.length<=fn.ntmps)
(h:gJ P ⟨fn.ntmps,j3 0 as,fz,hp⟩ code (uc P fn.results.toList as R) (r8 as)):au P f as R:=by
 refine⟨hc,λE vs ok GX hargs=>?_⟩;refine TY hc hf hb rfl (by omega) λ_=>?_
 let cc:aY:=⟨fn.ntmps,j3 0 as,fz,hp⟩
 have jY:eG cc (p6 0 as vs):=⟨λk v hk=>by
  obtain⟨k',a,h1,h2,h3,h4⟩:=XJ hk
  rw[h1];exact zAQ h2 h3⟩
 have r:av fn.ntmps (p6 0 as vs) E E (r8 as) (FR.init vs):=by
  refine⟨gn.refl E,ok.wf,ok.fresh,λt=>?_,λt ht=>?_,λt s hs=>?_,λk v hk=>?_⟩
  ·unfold r8;cases uk:as[t]? with
   |none=>exact yt
   |some a=>
    have hlt:t<vs.length:=by have:=(cY.1 uk).1;omega
    have hv:=cJ hlt;have:=hargs t a _ uk hv;refine o9 (v:=vs[t]) (by simp[FR.init,hv]) ?_;unfold LJ at this;split at this
    ·exact this.up
    ·exact this
  ·simp only[r8];rw[BX (by omega)];rfl
  ·simp only[r8]at hs;cases uk:as[t]? with
   |none=>rw[uk]at hs;simp[Ga,jP,bE]at hs
   |some a=>rw[uk]at hs;simp[Ga,bE]at hs
  ·obtain⟨k',a,rfl,h2,h3,h4⟩:=XJ hk;simp[FR.init,h4]
 refine On ?_ (zyF (c:=cc) jY code h r);rintro e ak H' ⟨pf',E1,hq,r1,rfl⟩
 have done:G0 as R (ua P pf' fn.results.toList)->match qi P ak fn.results.toList with|some us=>∃r outs E',R r outs/\E'.H=E1.H/\XR E E' as.length vs r (xT us) outs|none=>False:=by
  intro hq;unfold G0 at hq;split at hq
  ·rename_i x FD;obtain⟨ys,b7⟩:=x;obtain⟨us,E2,m1,e1,r2,l1,f1⟩:=zuh r1 (fl:=[]) (λk x v h=>by simp at h) FD;rw[m1];simp only[na]at f1
   have QD:∀(E3:Env),GK E2 E3->(∀s:Nat,s<fn.ntmps->dC E2 E3 (J (s,[])) (J (s,[])))->∀(k:Nat) (y:PV) (v:Value),(lY b7 0 as)[k]? =J y->vs[k]? =J v->PR E3 (J (k,[])) y v:=by
    intro E3 hg hm k y v hy hv;rcases zzN hy with⟨a,h1,h2,rfl⟩|rfl
    ·rw[gE];have MY:k<fn.ntmps:=by have:=(cY.1 h1).1;omega
     have Bp:=r2.pin k v (by simpa using zBb (k0:=0) h1 h2 hv);have qh:=r2.f k;cases tN:b7 k with
     |v z=>
      rw[tN]at qh;show PR E3 _ z v;by_cases hz:z=.ax
      ·subst hz;exact .ax v
      ·obtain⟨w,g1,g2⟩:=gA qh hz;rw[Bp]at g1;cases g1;exact g2.move hg (hm k MY)
     |_=>exact .ax v
    ·exact .ax v
   match ys,us,l1 with
   |[],[],_=>exact⟨_,_,E2,hq,e1,⟨r2.ok,r2.since,.ax _,S4,QD E2 (GK.refl _) λs _=>.refl _⟩⟩
   |[y],[u],_=>
    refine⟨_,_,E2.rl (fq (fn.ntmps,[(0,0)]) (as.length,[])),hq,e1,⟨r2.ok.rl,r2.since.trans oi,(f1 0 y u rfl).move dU (lF λq=>zgu _ _ q),S4,QD _ dU λs hs=>jh λq=>lq (by show s≠fn.ntmps;omega)⟩⟩
   |y::y2::ys,u::u2::us,hl=>
    refine⟨_,_,E2.rl (fq (fn.ntmps,[]) (as.length,[])),hq,e1,⟨r2.ok.rl,r2.since.trans oi,.bS (by simpa using hl.symm) (by simp) λj x w a b=>?_,S4,QD _ dU λs hs=>jh λq=>lq (by show s≠fn.ntmps;omega)⟩⟩;have:=f1 j x w (by rw[HL];exact⟨a,by simpa using b⟩);refine this.move dU (lF λq=>?_);have h3:=zgu (fn.ntmps,[]) (as.length,[]) ((0,j)::q);simpa[cS]using h3
  ·cases hq
 cases e<;>first|exact done hq|exact hq.elim
end
end Go.Pm
