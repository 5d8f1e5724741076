import Derived.Test.YtplemekcclpaoaaGreatDoorPmQ
namespace Go.Pm
open Go.Am
section
variable {nt:Nat}{pin:List (Nat×Value)}{E0 E E':Env}{pf:PFr}{fr fr':FR}{c:Cfg}{P:Program}
variable{ls:Bool}{rg:List Nat}{t:Nat}
theorem zA8(r:RelP nt pin E0 E pf fr)(h:zrP (pf t)=true):∃cells,fr t=.loc cells:=by
 have hf:=r.f t;cases hpt:pf t with
 |bl row=>rw[hpt]at hf;obtain⟨cells,c1,_⟩:=hf;exact⟨cells,c1⟩
 |_=>rw[hpt]at h;simp[zrP]at h
theorem okV{l:Lo}{x:PV}{v:Value}(h:PR E l x v)(hx:x≠.junk) :okS rg ls t (.v v)=true:=by
 cases h with
 |junk v=>exact absurd rfl hx
 |tup hl h0 _=>
  simp only[okS,Bool.not_eq_true',List.isEmpty_eq_false_iff];intro e;rw[e]at hl;exact h0 (List.eq_nil_of_length_eq_zero hl)
 |_=>rfl
theorem zvk(r:RelP nt pin E0 E pf fr)(h:zfQ pf rg ls t (pf t)=true):okS rg ls t (fr t)=true:=by
 have hf:=r.f t;cases hpt:pf t with
 |v x=>
  rw[hpt]at h hf;simp only[zfQ,Bool.not_eq_true']at h;obtain⟨v,h1,h2⟩:=zcl hf (ze5 h);rw[h1];exact okV h2 (ze5 h)
 |skip=>rw[hpt]at hf;have hf:fr t=.skip:=hf;rw[hf];rfl
 |ls es rows=>
  rw[hpt]at h hf;simp only[zfQ]at h;obtain⟨cells,c1,_⟩:=hf;rw[c1];exact h
 |bl row=>
  rw[hpt]at h hf;simp only[zfQ]at h;obtain⟨cells,c1,_⟩:=hf;rw[c1];exact h
 |pt s p i j=>
  rw[hpt]at h hf;simp only[zfQ,Bool.or_eq_true]at h;rcases hf with⟨cells,h1,h2,h3,h4⟩|⟨v0,id,o,h1,h2,h3⟩
  ·rw[h4];rcases h with h|h|h
   ·exact h
   rotate_left
   ·rw[h2]at h;cases h
   ·exfalso;have hg:=r.f s;unfold zuq at h;split at h
    ·rename_i x hps;rw[hps]at hg;obtain⟨w,g1,_⟩:=zcl hg (ze5 (by simpa using h));rw[h1]at g1;cases g1
    ·cases h
  ·rw[h3];rfl
 |rf s p=>
  rw[hpt]at h hf;simp only[zfQ]at h;obtain⟨v,h1,h2⟩:=hf;unfold zuH at h;split at h
  ·rename_i x hx;have hj:=ze5 (x:=x) (by simpa using h);obtain⟨v',w1,w2⟩:=r.at hx hj (zbc r h2 hx);have:=w1.same h2;subst this;rw[h1];exact okV w2 hj
  ·cases h
 |rv s p lo hi=>
  rw[hpt]at hf;rcases hf with⟨_,g2,_⟩|⟨id,off,es,n,cc,_,_,_,g4⟩
  ·rw[g2];rfl
  ·rw[g4];rfl
 |ra s p i j n=>rw[hpt]at hf;obtain⟨vs,h1,h2⟩:=hf;rw[h1];rfl
 |as b s p i j n=>
  rw[hpt]at h hf;cases b with
  |false=>obtain⟨vs,h1,_⟩:=hf;rw[h1];show ls=true;simpa[zfQ]using h
  |true=>obtain⟨id,off,k,v,h1,_⟩:=hf;rw[h1];rfl
 |cl s g us=>rw[hpt]at hf;obtain⟨v,vs,h1,_⟩:=hf;rw[h1];rfl
theorem zuv(r:RelP nt pin E0 E pf fr) :∀{l:List Nat},zlw pf rg ls l=true→okL rg ls fr l=true:=by
 intro l;induction l with
 |nil=>intro _;rfl
 |cons t l ih=>
  intro h;simp only[zlw,Bool.and_eq_true]at h;simp only[okL,Bool.and_eq_true];exact⟨zvk r h.1,ih h.2⟩
theorem zvj(r:RelP nt pin E0 E pf fr){m:Option Nat}(h:zny pf m=true):okR fr m=true:=by
 cases m with
 |none=>rfl
 |some t=>
  simp only[zny]at h;simp only[okR];have hf:=r.f t;cases hpt:pf t with
  |bl row=>rw[hpt]at hf;obtain⟨cells,c1,_⟩:=hf;rw[c1];rfl
  |skip=>rw[hpt]at hf;have hf:fr t=.skip:=hf;rw[hf];rfl
  |pt s p i j=>
   rw[hpt]at h hf;unfold zn5 at h;split at h
   ·cases ‹PF.pt s p i j=_›
   ·cases ‹PF.pt s p i j=_›
   ·rename_i s' i' j' heq;cases heq;obtain⟨cells,hc⟩:=zA8 r h;rcases hf with⟨cells',h1,h2,h3,h4⟩|⟨v0,id,o,h1,h2,h3⟩
    ·rw[h4];rfl
    ·have:=zjm h1;rw[hc]at this;cases this
   ·cases h
  |_=>rw[hpt]at h;simp[zn5]at h
theorem zoy(r:RelP c.nt pin E0 E pf fr)(hp:PinOK c pin){ext:Bool}{o:Oper}{K:PFr→Prop}{K':FR→AH→Prop}(h:ziZ P c ext o K pf)
(hk:∀pf' fr' E',K pf'→RelP c.nt pin E0 E' pf' fr'→K' fr' E'.H):aop P c.nt o (fun fr' H'=>(ext=true→Ext E.H H')∧K' fr' H') fr E.H:=by
 unfold ziZ at h;split at h
 ·rename_i f args ts ho;split at h
  case isFalse hx=>
   rcases zjZ (c:=c.nohp) r ⟨hp.h⟩ h hk with h|h
   ·exact zht (fun _ _ hh=>⟨fun e=>absurd e hx,hh⟩) h
   ·exact absurd rfl h.1
  case isTrue hx=>
  exact zmi (K':=fun fr' H'=>(ext=true→Ext E.H H')∧K' fr' H') r hp ho h fun pf' fr' E' a b e=>⟨fun _=>e fun m hm=>(List.mem_replicate.1 hm).2,hk pf' fr' E' a b⟩
 ·rename_i hno;obtain⟨h1,h2⟩:=h;rcases zjZ (c:=c.nohp) r ⟨hp.h⟩ h2 hk with h|h
  ·cases ext with
   |false=>exact zht (fun _ _ hh=>⟨fun e=>(by cases e),hh⟩) h
   |true=>exact zht (fun _ _ hh=>⟨fun _=>hh.1,hh.2⟩) (zzQ r.wf (h1 rfl) (fun f args ts e=>hno f args ts e) h)
  ·exact absurd rfl h.1
theorem zuN(r:RelP c.nt pin E0 E pf fr)(hp:PinOK c pin){pre:List (Option Tmp)}{e:DE}{o:Oper}{K:PFr→Prop}{K':FR→AH→Prop}(h:zo0 P c pre e o K pf)
(hk:∀pf' fr' E',K pf'→RelP c.nt pin E0 E' pf' fr'→K' fr' E'.H):dop P c.nt pre e o K' fr E.H:=by
 obtain⟨h1,h2⟩:=h;simp only[Bool.and_eq_true]at h1;refine⟨by simp only[zdH,Bool.and_eq_true];exact⟨zuv r h1.1,zvj r h1.2⟩,?_⟩;unfold zok at h2;unfold gop;split at h2
 ·rename_i hg;rw[hg];exact zoy r hp h2 hk
 ·rename_i j b hg;rw[hg];simp only;unfold pgo at h2;split at h2
  ·rename_i y hy;rw[zrr r hy];simp only;split at h2
   ·rename_i e';rw[if_pos e'];exact zoy r hp h2 hk
   ·rename_i e';rw[if_neg e'];exact znp r hp h2 fun pf' fr' E' a b e=>⟨fun _=>by rw[e];exact .refl _,hk pf' fr' E' a b⟩
  ·cases h2
theorem ztb(hp:PinOK c pin){pre:List (Option Tmp)}:∀{l:List (DE×Oper)}{E:Env}{pf:PFr}{fr:FR}{K:PFr→Prop}{K':FR→AH→Prop},RelP c.nt pin E0 E pf fr→zm2 P c pre l K pf→
 (∀pf' fr' E',K pf'→RelP c.nt pin E0 E' pf' fr'→K' fr' E'.H)→dops P c.nt pre l K' fr E.H:=by
 intro l;induction l with
 |nil=>intro E pf fr K K' r h hk;exact hk _ _ _ h r
 |cons x l ih=>
  obtain⟨e,o⟩:=x;intro E pf fr K K' r h hk;exact zuN r hp h fun pf' fr' E' a b=>ih b a hk
def zqI(nt:Nat)(pin:List (Nat×Value))(E0:Env)(Q:Exit→PFr→Prop):Exit→FR→AH→Prop:=fun e fr H=>∃pf E,Q e pf∧RelP nt pin E0 E pf fr∧E.H=H
theorem zvD(hp:PinOK c pin):∀(x:Code) {Q:Exit→PFr→Prop}{E:Env}{pf:PFr}{fr:FR},pwp P c x Q pf→RelP c.nt pin E0 E pf fr→awp P c.nt x (zqI c.nt pin E0 Q) fr E.H:=by
 intro x;induction x with
 |skip=>intro Q E pf fr h r;exact⟨pf,E,h,r,rfl⟩
 |region id ops draw=>
  intro Q E pf fr h r;simp only[pwp]at h;simp only[awp];split at h
  ·rename_i hd;rw[if_pos hd];obtain⟨hf,n,h⟩:=h;exact⟨hf,n,zkj (fun _ h=>ztb hp r h fun pf' fr' E' a b=>⟨pf',E',a,b,rfl⟩) h⟩
  ·rename_i hd;rw[if_neg hd];exact zur hp r h fun pf' fr' E' a b=>⟨pf',E',a,b,rfl⟩
 |seq x y ihx ihy=>
  intro Q E pf fr h r;refine(show awp P c.nt x (zh1 (awp P c.nt y (zqI c.nt pin E0 Q)) (zqI c.nt pin E0 Q)) fr E.H from zfz ?_ (ihx h r));rintro e fr' H' ⟨pf',E',hq,r',rfl⟩;cases e<;>try exact⟨pf',E',hq,r',rfl⟩
  obtain⟨pf2,hw,hq⟩:=hq;obtain⟨E2,r2,e2⟩:=RelP.wk hw r';rw[←e2];exact ihy hq r2
 |cond b x y ihx ihy=>
  intro Q E pf fr h r;obtain⟨pf2,hw,h⟩:=h;obtain⟨E2,r2,e2⟩:=RelP.wk hw r;rw[←e2];unfold zxX at h;split at h
  ·rename_i v bb hb;simp only[awp,zcS r2 hb];split at h
   ·rename_i hh;rw[if_pos hh];exact ihx h r2
   ·rename_i hh;rw[if_neg hh];exact ihy h r2
  ·cases h
 |block id b ih=>
  intro Q E pf fr h r;refine(show awp P c.nt b (ziV id (zqI c.nt pin E0 Q)) fr E.H from zfz ?_ (ih h r));rintro e fr' H' ⟨pf',E',hq,r',rfl⟩;cases e<;>try exact⟨pf',E',hq,r',rfl⟩
  rename_i i;simp only[zmj]at hq;simp only[ziV];split at hq
  ·rename_i hi;rw[if_pos hi];exact⟨pf',E',hq,r',rfl⟩
  ·rename_i hi;rw[if_neg hi];exact⟨pf',E',hq,r',rfl⟩
 |loop b ih=>
  intro Q E pf fr h r;obtain⟨n,hn⟩:=h;refine⟨n,?_⟩;induction n generalizing E pf fr with
  |zero=>exact hn.elim
  |succ n ihn=>
   obtain⟨pf2,hw,hn⟩:=hn;obtain⟨E2,r2,e2⟩:=RelP.wk hw r;rw[←e2];refine⟨fr,fun _=>.inl rfl,zfz ?_ (ih hn r2)⟩;rintro e fr' H' ⟨pf',E',hq,r',rfl⟩;cases e<;>first|exact ihn r' hq|exact⟨pf',E',hq,r',rfl⟩
 |exit id=>intro Q E pf fr h r;exact⟨pf,E,h,r,rfl⟩
 |ret=>intro Q E pf fr h r;exact⟨pf,E,h,r,rfl⟩
 |_=>intros;rename_i h _;exact absurd h (by simp[pwp])
theorem zyj(r:RelP nt pin E0 E pf fr){fl:List (PV×Value)}(hfl:FlOK nt E fl){y:PV}{pf':PFr}(hl:zio (pf t)=false)(h:zeO pf t (pf t)=some (y,pf')):
 ∃v E',fr t=.v v∧E'.H=E.H∧RelP nt pin E0 E' pf' fr∧FlOK nt E' (fl++[(y,v)]):=by
 obtain⟨v,fr1,H1,E1,m1,e1,r1,f1⟩:=zdw (ez:=0) r hfl (x:=.tmp t) (show zbg 0 pf (.tmp t)=some (y,pf')from h);have hn:=zp9 (ez:=0) r (x:=.tmp t) (show zbg 0 pf (.tmp t)=some (y,pf')from h) (by simpa[lsO]using hl);obtain⟨m2,rfl,rfl⟩:=zrJ m1 hn;refine⟨v,E1,?_,e1,r1,f1⟩;simp only[rdv]at m2;split at m2
 ·rename_i u hu;cases m2;exact hu
 ·cases m2
theorem zth(r:RelP nt pin E0 E pf fr){fl:List (PV×Value)}(hfl:FlOK nt E fl){x:ResultVar}{y:PV}{pf':PFr}(h:zlv P pf x=some (y,pf')):
 ∃v E',ziA P fr x=some v∧E'.H=E.H∧RelP nt pin E0 E' pf' fr∧FlOK nt E' (fl++[(y,v)]):=by
 cases x with
 |tmp t=>
  simp only[zlv]at h;split at h
  ·cases h
  ·rename_i hl;obtain⟨v,E',h1,h2⟩:=zyj r hfl (by simpa using hl) h;exact⟨v,E',by simp[ziA,h1],h2⟩
 |cell t ty=>
  simp only[zlv]at h;have hf:=r.f t;have htl:t<nt:=zqR r (by intro e;rw[e]at h;simp[zmR,jP]at h);unfold zmR at h;split at h
  ·rename_i row sz hpt htk;obtain⟨rest,ht⟩:=zjn htk;rw[hpt]at hf;obtain⟨cells,c1,c2,c3⟩:=hf;split at h
   ·rename_i hsz;simp only[Option.some.injEq,Prod.mk.injEq]at h;obtain⟨rfl,rfl⟩:=h;refine⟨.agg cells.toArray,E.rl (rlW (t,[]) (nt,[(0,fl.length)])),?_,rfl,?_,?_⟩
    ·simp only[ziA,c1,zfr,ht];rw[zhu (by omega),List.take_of_length_le (by omega)];rfl
    ·exact r.chg htl zba (fun s hs hst=>zbN fun q=>zdq hst) (fun L hL=>absurd hL (Nat.not_lt_zero _)) (fun _ _=>rfl) (fun h=>absurd h (Nat.lt_irrefl _)) zcM r.ok.rl.wf r.ok.rl.fresh (fun _ _ h1 h2=>.inl (by rw[h1]at h2;cases h2;rfl)) zfY rfl r.pin
    ·refine(hfl.stay zba (zbN fun q=>zdq (Nat.ne_of_gt htl))).snoc (.agg (by simpa using c2) fun j x y a b=>?_);refine(c3 j x y a (by simpa using b)).move zba (zcJ fun q=>?_);have:=zfq (t,[]) (nt,[(0,fl.length)]) ((0,j)::q);simpa[chl]using this
   ·cases h
  ·rename_i x row sz hpt htk;obtain⟨rest,ht⟩:=zjn htk;rw[hpt]at hf;obtain⟨cells,c1,c2,c3⟩:=hf;simp only[Option.some.injEq,Prod.mk.injEq]at h;obtain⟨rfl,rfl⟩:=h;cases cells with
   |nil=>simp at c2
   |cons w cells=>
    refine⟨w,E.rl (rlW (t,[(0,0)]) (nt,[(0,fl.length)])),?_,rfl,?_,?_⟩
    ·simp only[ziA,c1,zfr,ht]
    ·exact r.chg htl zba (fun s hs hst=>zbN fun q=>zdq hst) (fun L hL=>absurd hL (Nat.not_lt_zero _)) (fun _ _=>rfl) (fun h=>absurd h (Nat.lt_irrefl _)) zcM r.ok.rl.wf r.ok.rl.fresh (fun _ _ h1 h2=>.inl (by rw[h1]at h2;cases h2;rfl)) zfY rfl r.pin
    ·exact(hfl.stay zba (zbN fun q=>zdq (Nat.ne_of_gt htl))).snoc ((c3 0 x w rfl rfl).move zba (zcJ fun q=>zfq _ _ q))
  ·cases h
theorem ztd:∀{xs:List ResultVar}{E:Env}{pf pf':PFr}{fl:List (PV×Value)}{ys:List PV},RelP nt pin E0 E pf fr→FlOK nt E fl→zhT P pf xs=some (ys,pf')→
 ∃vs E',zhv P fr xs=some vs∧E'.H=E.H∧RelP nt pin E0 E' pf' fr∧vs.length=ys.length∧FlOK nt E' (fl++ys.zip vs):=by
 intro xs;induction xs with
 |nil=>
  intro E pf pf' fl ys r hfl h;simp only[zhT,Option.some.injEq,Prod.mk.injEq]at h;obtain⟨rfl,rfl⟩:=h;exact⟨[],E,rfl,rfl,r,rfl,by simpa using hfl⟩
 |cons x xs ih=>
  intro E pf pf' fl ys r hfl h;simp only[zhT,Option.bind_eq_some_iff,Option.map_eq_some_iff,Prod.mk.injEq]at h;obtain⟨⟨y,pf1⟩,h1,⟨ys1,pf2⟩,h2,rfl,rfl⟩:=h;obtain⟨v,E1,m1,e1,r1,f1⟩:=zth r hfl h1;obtain⟨vs,E2,m2,e2,r2,l2,f2⟩:=ih r1 f1 h2;exact⟨v::vs,E2,by simp[zhv,m1,m2],e2.trans e1,r2,by simp[l2],by simpa using f2⟩
theorem zxU{pf:PFr}:∀{l:List (Md×PV)}{k0 k:Nat}{y:PV},(zfZ pf k0 l)[k]? =some y→(∃a,l[k]? =some a∧a.1=.io∧y=zuS (pf (k0+k)))∨y=.junk:=by
 intro l;induction l with
 |nil=>intro k0 k y h;simp[zfZ]at h
 |cons a l ih=>
  obtain⟨md,x⟩:=a;intro k0 k y h;cases k with
  |zero=>
   cases md<;>simp[zfZ]at h<;>subst h
   ·exact .inr rfl
   ·exact .inr rfl
   ·exact .inl ⟨_,rfl,rfl,rfl⟩
  |succ k=>
   have h':(zfZ pf (k0+1) l)[k]? =some y:=by cases md<;>simpa[zfZ]using h
   rcases ih h' with⟨a,h1,h2,h3⟩|h1
   ·exact .inl ⟨a,by simpa using h1,h2,by rw[h3];congr 2;omega⟩
   ·exact .inr h1
theorem znG{pf:PFr}:∀{l:List (Md×PV)}{k0:Nat},(zfZ pf k0 l).length=l.length:=by
 intro l;induction l with
 |nil=>intro k0;rfl
 |cons a l ih=>intro k0;obtain⟨md,x⟩:=a;cases md<;>simp[zfZ,ih]
theorem zzz:∀{l:List (Md×PV)}{k0 k:Nat}{a:Md×PV},l[k]? =some a→a.1=.io→k0+k∈ioL k0 l:=by
 intro l;induction l with
 |nil=>intro k0 k a h;simp at h
 |cons b l ih=>
  obtain⟨md,x⟩:=b;intro k0 k a h ha;cases k with
  |zero=>simp at h;subst h;simp only at ha;subst ha;simp[ioL]
  |succ k=>
   have:=ih (k0:=k0+1) (by simpa using h) ha;have e:k0+1+k=k0+(k+1):=by omega
   rw[e]at this;cases md<;>simp[ioL,this]
def zhW:Nat→List (Md×PV)→List Value→List (Nat×Value)
 |k,(.io,_)::l,v::vs=>(k,v)::zhW (k+1) l vs
 |k,_::l,_::vs=>zhW (k+1) l vs
 |_,_,_=>[]
theorem zss:∀{l:List (Md×PV)}{vs:List Value}{k0 j:Nat}{v:Value},(j,v)∈zhW k0 l vs→∃k a,j=k0+k∧l[k]? =some a∧a.1=.io∧vs[k]? =some v:=by
 intro l;induction l with
 |nil=>intro vs k0 j v h;simp[zhW]at h
 |cons b l ih=>
  obtain⟨md,x⟩:=b;intro vs k0 j v h;cases vs with
  |nil=>cases md<;>simp[zhW]at h
  |cons w vs=>
   have rest:(j,v)∈zhW (k0+1) l vs→∃k a,j=k0+k∧((md,x)::l)[k]? =some a∧a.1=.io∧(w::vs)[k]? =some v:=by
    intro h;obtain⟨k,a,h1,h2,h3,h4⟩:=ih h;exact⟨k+1,a,by omega,by simpa using h2,h3,by simpa using h4⟩
   cases md with
   |io=>
    simp only[zhW,List.mem_cons,Prod.mk.injEq]at h;rcases h with⟨rfl,rfl⟩|h
    ·exact⟨0,_,by omega,rfl,rfl,rfl⟩
    ·exact rest h
   |sh=>exact rest (by simpa[zhW]using h)
   |mv=>exact rest (by simpa[zhW]using h)
theorem zzO:∀{l:List (Md×PV)}{vs:List Value}{k0 k:Nat}{a:Md×PV}{v:Value},l[k]? =some a→a.1=.io→vs[k]? =some v→(k0+k,v)∈zhW k0 l vs:=by
 intro l;induction l with
 |nil=>intro vs k0 k a v h;simp at h
 |cons b l ih=>
  obtain⟨md,x⟩:=b;intro vs k0 k a v h1 h2 h3;cases vs with
  |nil=>simp at h3
  |cons w vs=>
   cases k with
   |zero=>simp at h1 h3;subst h1;subst h3;simp only at h2;subst h2;simp[zhW]
   |succ k=>
    have:=ih (k0:=k0+1) (by simpa using h1) h2 (by simpa using h3);have e:k0+1+k=k0+(k+1):=by omega
    rw[e]at this;cases md<;>simp[zhW,this]
theorem zsp{f:FuncId}{fn:Func}{code:Code}{as:List (Md×PV)}{R:PV→List PV→Prop}{fz hp:List Nat}(hc:zac P f)(hf:P.funcs[f]? =some fn)(hb:fn.body=some code)(hlen:as.length≤fn.ntmps)
(h:pwp P ⟨fn.ntmps,ioL 0 as,fz,hp⟩ code (zjK P fn.results.toList as R) (zhj as)):PCalls P f as R:=by
 refine⟨hc,fun E vs ok hvl hargs=>?_⟩;refine zgB hc hf hb rfl (by omega) fun _=>?_
 let cc:Cfg:=⟨fn.ntmps,ioL 0 as,fz,hp⟩
 have hpin:PinOK cc (zhW 0 as vs):=⟨fun k v hk=>by
  obtain⟨k',a,h1,h2,h3,h4⟩:=zss hk
  rw[h1];exact zzz h2 h3⟩
 have r:RelP fn.ntmps (zhW 0 as vs) E E (zhj as) (FR.init vs):=by
  refine⟨Since.refl E,ok.wf,ok.fresh,fun t=>?_,fun t ht=>?_,fun t s hs=>?_,fun k v hk=>?_⟩
  ·unfold zhj;cases hat:as[t]? with
   |none=>exact zfY
   |some a=>
    have hlt:t<vs.length:=by have:=(List.getElem?_eq_some_iff.1 hat).1;omega
    have hv:=List.getElem?_eq_getElem hlt;have:=hargs t a _ hat hv;refine ze2 (v:=vs[t]) (by simp[FR.init,hv]) ?_;unfold zmP at this;split at this
    ·exact this.up
    ·exact this
  ·simp only[zhj];rw[List.getElem?_eq_none (by omega)];rfl
  ·simp only[zhj]at hs;cases hat:as[t]? with
   |none=>rw[hat]at hs;simp[zoY,jP,zam]at hs
   |some a=>rw[hat]at hs;simp[zoY,zam]at hs
  ·obtain⟨k',a,rfl,h2,h3,h4⟩:=zss hk;simp[FR.init,h4]
 refine zfz ?_ (zvD (c:=cc) hpin code h r);rintro e fr' H' ⟨pf',E1,hq,r1,rfl⟩
 have done:zmK as R (zhT P pf' fn.results.toList)→match zhv P fr' fn.results.toList with|some us=>∃r outs E',R r outs∧E'.H=E1.H∧PostOK E E' as.length vs r (zke us) outs|none=>False:=by
  intro hq;unfold zmK at hq;split at hq
  ·rename_i x hres;obtain⟨ys,pf2⟩:=x;obtain⟨us,E2,m1,e1,r2,l1,f1⟩:=ztd r1 (fl:=[]) (fun k x v h=>by simp at h) hres;rw[m1];simp only[List.nil_append]at f1
   have outs_ok:∀(E3:Env),GK E2 E3→(∀s:Nat,s<fn.ntmps→MoveOK E2 E3 (some (s,[])) (some (s,[])))→∀(k:Nat) (y:PV) (v:Value),(zfZ pf2 0 as)[k]? =some y→vs[k]? =some v→PR E3 (some (k,[])) y v:=by
    intro E3 hg hm k y v hy hv;rcases zxU hy with⟨a,h1,h2,rfl⟩|rfl
    ·rw[Nat.zero_add];have hkl:k<fn.ntmps:=by have:=(List.getElem?_eq_some_iff.1 h1).1;omega
     have hpk:=r2.pin k v (by simpa using zzO (k0:=0) h1 h2 hv);have hf2:=r2.f k;cases hpf:pf2 k with
     |v z=>
      rw[hpf]at hf2;show PR E3 _ z v;by_cases hz:z=.junk
      ·subst hz;exact .junk v
      ·obtain⟨w,g1,g2⟩:=zcl hf2 hz;rw[hpk]at g1;cases g1;exact g2.move hg (hm k hkl)
     |_=>exact .junk v
    ·exact .junk v
   match ys,us,l1 with
   |[],[],_=>exact⟨_,_,E2,hq,e1,⟨r2.ok,r2.since,.junk _,znG,outs_ok E2 (GK.refl _) fun s _=>.refl _⟩⟩
   |[y],[u],_=>
    refine⟨_,_,E2.rl (rlW (fn.ntmps,[(0,0)]) (as.length,[])),hq,e1,⟨r2.ok.rl,r2.since.trans zcM,(f1 0 y u rfl).move zba (zcJ fun q=>zfq _ _ q),znG,outs_ok _ zba fun s hs=>zbN fun q=>zdq (by show s≠fn.ntmps;omega)⟩⟩
   |y::y2::ys,u::u2::us,hl=>
    refine⟨_,_,E2.rl (rlW (fn.ntmps,[]) (as.length,[])),hq,e1,⟨r2.ok.rl,r2.since.trans zcM,.tup (by simpa using hl.symm) (by simp) fun j x w a b=>?_,znG,outs_ok _ zba fun s hs=>zbN fun q=>zdq (by show s≠fn.ntmps;omega)⟩⟩;have:=f1 j x w (by rw[List.getElem?_zip_eq_some];exact⟨a,by simpa using b⟩);refine this.move zba (zcJ fun q=>?_);have h3:=zfq (fn.ntmps,[]) (as.length,[]) ((0,j)::q);simpa[chl]using h3
  ·cases hq
 cases e<;>first|exact done hq|exact hq.elim
end
end Go.Pm
