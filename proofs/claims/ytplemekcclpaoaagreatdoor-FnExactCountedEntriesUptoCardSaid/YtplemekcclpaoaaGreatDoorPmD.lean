import Derived.Test.YtplemekcclpaoaaGreatDoorPmC
namespace Go.Pm
open Go.Am
def zfn:zad→Option (zad×Nat×Nat)
 |[]=>none
 |[a]=>some ([],a.1,a.2)
 |a::b::r=>(zfn (b::r)).map fun x=>(a::x.1,x.2)
theorem zsL{p:zad}(h:zfn p=none):p=[]:=by
 induction p with
 |nil=>rfl
 |cons a p ih=>
  cases p with
  |nil=>simp[zfn]at h
  |cons b r=>simp only[zfn,Option.map_eq_none_iff]at h;have:=ih h;cases this
theorem zsH{p:zad}{x:zad×Nat×Nat}(h:zfn p=some x):p=x.1++[x.2]:=by
 induction p generalizing x with
 |nil=>simp[zfn]at h
 |cons a p ih=>
  cases p with
  |nil=>simp only[zfn,Option.some.injEq]at h;subst h;rfl
  |cons b r=>
   simp only[zfn,Option.map_eq_some_iff]at h;obtain⟨y,h1,rfl⟩:=h;have:=ih h1;simp[this]
section
variable {nt:Nat}{pin:List (Nat×Value)}{E0 E E':Env}{pf:PFr}{fr fr':FR}
def FlOK(nt:Nat)(E:Env)(fl:List (PV×Value)):Prop:=∀k x v,fl[k]? =some (x,v)→PR E (some (nt,[(0,k)])) x v
structure RelP (nt:Nat) (pin:List (Nat×Value)) (E0 E:Env) (pf:PFr) (fr:FR):Prop where
 since:Since E0 E
 wf:WFH E.H
 fresh:∀id,E.H.n≤id→E.ow id=none∧¬E.G id
 f:∀t,RPF E (pf t) fr t
 hi:∀t,nt≤t→pf t=jP
 rt:∀t s,zam (pf t)=some s→s<nt
 pin:∀k v,(k,v)∈pin→fr k=.v v
variable{a:Nat×zad}{fl:List (PV×Value)}{i j s:Nat}{p:zad}{pf':PFr}{v:Value}{x:PV}{xs:List PV}{y:PF}
theorem zcl{t:Nat}(h:RPF E (.v x) fr t)(hx:x≠.junk):∃v,fr t=.v v∧PR E (some (t,[])) x v:=by
 cases x with
 |junk=>exact absurd rfl hx
 |_=>exact h
theorem ze2{t:Nat}(h:fr t=.v v)(h':PR E (some (t,[])) x v):RPF E (.v x) fr t:=by
 cases x with
 |junk=>exact True.intro
 |_=>exact⟨v,h,h'⟩
theorem RelP.at(r:RelP nt pin E0 E pf fr)(h:zaz pf s p=some x)(hx:x≠.junk)(hp:p≠[]∨∃y,pf s=.v y):∃v,Wk E fr s p v∧PR E (some (s,p)) x v:=by
 have hf:=r.f s;simp only[zaz,Option.bind_eq_some_iff]at h;obtain⟨y,h1,h2⟩:=h;cases hs:pf s with
 |v z=>
  rw[hs]at h1 hf;simp only[zbs,Option.some.injEq]at h1;subst h1
  have hz:z≠.junk:=by
   rintro rfl;cases p with
   |nil=>simp only[zeN,Option.some.injEq]at h2;exact hx h2.symm
   |cons a p=>simp[zeN,zdd]at h2
  obtain⟨v,h3,h4⟩:=zcl hf hz;obtain⟨v0,w1,w2⟩:=h4.get h2;exact⟨v0,.inl ⟨v,h3,w1⟩,by simpa using w2⟩
 |bl row=>
  rw[hs]at h1 hf;simp only[zbs,Option.some.injEq]at h1;subst h1;obtain⟨cells,c1,c2,c3⟩:=hf;cases p with
  |nil=>rcases hp with h|⟨y,h⟩<;>simp_all
  |cons a p=>
   obtain⟨i,j⟩:=a;simp only[zeN,zdd,Option.bind_eq_some_iff]at h2;obtain⟨y,a1,a2⟩:=h2;split at a1
   ·rename_i e;have e:i=0:=e;subst e;have hj:j<cells.length:=by have hlt:j<row.length:=(List.getElem?_eq_some_iff.1 a1).1;omega
    obtain⟨v0,w1,w2⟩:=(c3 j y _ a1 (List.getElem?_eq_getElem hj)).get a2;exact⟨v0,.inr ⟨cells,j,p,_,c1,rfl,List.getElem?_eq_getElem hj,w1⟩,by simpa using w2⟩
   ·cases a1
 |_=>rw[hs]at h1;simp[zbs]at h1
theorem zpy{x':PV}(h:zfd x p (zeL i j xs)=some x'):x≠.junk:=by
 rintro rfl;cases p with
 |nil=>simp[zfd,zeL]at h
 |cons a p=>simp[zfd,zdd]at h
theorem ztV{y':PF}{x':PV}{p0:zad}{id0 o:Nat}{v0:Value}(h:RPF E y fr s)(hr:zbs y=some x)(hm:zfd x p0 (zeL i j xs)=some x')(hy:zgD y x'=some y')
(hc:Chg E E' (s,[]) p0 i j xs id0 o)(hw:Wk E fr s p0 v0)(hd:Hd E (s,p0) v0 i id0 o)(hf:fr' s=fr s):RPF E' y' fr' s:=by
 cases y with
 |v z=>
  simp only[zbs,Option.some.injEq]at hr;subst hr;simp only[zgD,Option.some.injEq]at hy;subst hy;obtain⟨v,h1,h2⟩:=zcl h (zpy hm);rcases hw with⟨r,w1,w2⟩|⟨cells,j',p',y',w1,_⟩
  ·rw[h1]at w1;cases w1;exact ze2 (hf.trans h1) (h2.upd hm w2 (by simpa using hd) hc)
  ·rw[h1]at w1;cases w1
 |bl row=>
  simp only[zbs,Option.some.injEq]at hr;subst hr;obtain⟨cells,c1,c2,c3⟩:=h;rcases hw with⟨r,w1,w2⟩|⟨cells',j0,p1,z,w1,w2,w3,w4⟩
  ·rw[c1]at w1;cases w1
  ·rw[c1]at w1;cases w1;subst w2;simp only[zfd,zdd,if_true,Option.bind_eq_some_iff,Option.map_eq_some_iff]at hm;obtain⟨z0,a1,z1,a2,rfl⟩:=hm;simp only[znD,zgD,Option.some.injEq]at hy;subst hy;refine⟨cells,hf.trans c1,by simpa using c2,fun j' x y g1 g2=>?_⟩;rw[List.getElem?_set]at g1;by_cases e:j0=j'
   ·subst e;rw[if_pos rfl]at g1;split at g1
    ·cases g1;rw[w3]at g2;cases g2;exact(c3 j0 z0 z a1 w3).upd (l:=(s,[(0,j0)])) a2 w4 hd hc.ch
    ·cases g1
   ·rw[if_neg e]at g1;refine(c3 j' x y g1 g2).move hc.g fun id r h1 h2=>?_
    have:=hc.keep id ((0,j')::r) (by simpa using h1) h2 (zp3 (by simp;omega));refine⟨by simpa using this.1,this.2.1,this.2.2 fun e2=>?_⟩;subst e2;have:=hd.ow.1;rw[this]at h1;simp at h1;omega
 |_=>simp[zbs]at hr
theorem znf{row row':List PV}{cells cells':List Value}(h:RPF E (.bl row) fr s)(hm:zfB row j xs=some row')(hc:fr s=.loc cells)(hf:fr' s=.loc cells')
(hl:cells'.length=cells.length)(ho:∀q,¬(j≤q∧q<j+xs.length)→cells'[q]? =cells[q]?)(hg:GK E E')
(hk:∀id r,E.ow id=some (s,r)→¬E.G id→Off [] 0 j xs.length r→E'.ow id=some (s,r)∧¬E'.G id∧E'.H.b id=E.H.b id)
(hx:∀t x y,xs[t]? =some x→cells'[j+t]? =some y→PR E' (some (s,[(0,j+t)])) x y):RPF E' (.bl row') fr' s:=by
 obtain⟨cells0,c1,c2,c3⟩:=h;rw[hc]at c1;cases c1;obtain⟨a1,a2,a3⟩:=zfO hm;refine⟨cells',hf,by omega,fun q x y g1 g2=>?_⟩;rw[a3 q]at g1;split at g1
 ·rename_i hin;have:=hx (q-j) x y g1 (by rw[show j+(q-j)=q by omega];exact g2)
  rwa [show j+(q-j)=q by omega]at this
 ·rename_i hin;rw[ho q hin]at g2;refine(c3 q x y g1 g2).move hg fun id r h1 h2=>?_
  have h1:E.ow id=some (s,(0,q)::r):=by simpa using h1
  have:=hk id _ h1 h2 (by
   intro j' r' e hh;simp only[List.nil_append,List.cons.injEq,Prod.mk.injEq,true_and]at e;obtain⟨rfl,_⟩:=e
   exact hin hh)
  exact⟨by simpa using this.1,this.2⟩
theorem RelP.set(r:RelP nt pin E0 E pf fr){d:Nat}{fv:FV}(hd:d<nt)(hp:∀v,(d,v)∉pin)(hg:GK E E')(hm:∀s,s<nt→s≠d→MoveOK E E' (some (s,[])) (some (s,[])))
(hsn:Since E E')(hw:WFH E'.H)(hfr:∀id,E'.H.n≤id→E'.ow id=none∧¬E'.G id)(hy:RPF E' y (fr.put d fv) d)(hr:∀s,zam y=some s→s<nt):RelP nt pin E0 E' (pf.put d y) (fr.put d fv):=by
 refine⟨r.since.trans hsn,hw,hfr,fun t=>?_,fun t ht=>?_,fun t s h=>?_,fun k v h=>?_⟩
 ·by_cases e:t=d
  ·subst e;simpa[PFr.put]using hy
  ·simp only[PFr.put,if_neg e];have hf:=r.f t;by_cases ht:t<nt
   ·unfold zbZ;split
    ·exact True.intro
    ·rename_i hk;refine hf.stay hg (hm t ht e) (by simp[FR.put,e]) fun s hs=>?_
     have hsd:s≠d:=fun e=>hk (by rw[hs,e])
     exact⟨by simp[FR.put,hsd],KL.of_move (hm s (r.rt t s hs) hsd)⟩
   ·have:=r.hi t (by omega);rw[this];have:zbZ d jP=jP:=by simp[zbZ,jP,zam]
    rw[this];exact True.intro
 ·have:t≠d:=by omega
  simp only[PFr.put,if_neg this,r.hi t ht];simp[zbZ,jP,zam]
 ·by_cases e:t=d
  ·subst e;simp only[PFr.put,if_true]at h;exact hr s h
  ·simp only[PFr.put,if_neg e]at h;unfold zbZ at h;split at h
   ·simp[jP,zam]at h
   ·exact r.rt t s h
 ·have hk:k≠d:=fun e=>hp v (by rw[←e];exact h)
  simpa[FR.put,hk]using r.pin k v h
def zck(pf:PFr)(s:Nat)(p:zad)(y:PV):Option PFr:=
 match zfn p with
 |none=>some ((pf.upd s (.v y)).kill s 0)
 |some x=>zeo pf s x.1 x.2.1 x.2.2 [y]
theorem RelP.chg(r:RelP nt pin E0 E pf fr){n:Nat}(hs:s<nt)(hg:GK E E')(hm:∀t,t<nt→t≠s→MoveOK E E' (some (t,[])) (some (t,[])))
(hk:∀L,L<n→KL E E' s L)(hf:∀t,t≠s→fr' t=fr t)(hfs:0<n→fr' s=fr s∨∃cells cells',fr s=.loc cells∧fr' s=.loc cells')(hsn:Since E E')(hw:WFH E'.H)(hfr:∀id,E'.H.n≤id→E'.ow id=none∧¬E'.G id)
(hloc:∀cells cells',fr s=.loc cells→fr' s=.loc cells'→cells=cells'∨n≤1)
(hy:RPF E' y fr' s)(hr:zam y=none)(hpin:∀k v,(k,v)∈pin→fr' k=.v v):RelP nt pin E0 E' ((pf.upd s y).kill s n) fr':=by
 have hkill:∀t,t≠s→((pf.upd s y).kill s n) t=zaW s n (pf t):=fun t ht=>by simp[PFr.kill,PFr.upd,ht]
 refine⟨r.since.trans hsn,hw,hfr,fun t=>?_,fun t ht=>?_,fun t s' h=>?_,hpin⟩
 ·by_cases e:t=s
  ·subst e;have:((pf.upd t y).kill t n) t=y:=by simp[PFr.kill,PFr.upd,zaW,hr]
   rw[this];exact hy
  ·rw[hkill t e];have hrt:=r.f t;by_cases ht:t<nt
   ·unfold zaW;split
    ·exact True.intro
    ·rename_i hc;by_cases hrs:zam (pf t)=some s
     ·have hlt:zfU (pf t)<n:=Nat.lt_of_not_le fun hle=>hc ⟨hrs,hle⟩
      rcases hfs (by omega)with hsame|⟨cells,cells',l1,l2⟩
      ·exact hrt.stay hg (hm t ht e) (hf t e) fun s' hs'=>by
        rw[hrs]at hs';cases hs';exact⟨hsame,hk _ hlt⟩
      ·rcases hloc cells cells' l1 l2 with e2|e2
       ·exact hrt.stay hg (hm t ht e) (hf t e) fun s' hs'=>by
         rw[hrs]at hs';cases hs';exact⟨by rw[l1,l2,e2],hk _ hlt⟩
       ·
        have h0:zfU (pf t)=0:=by omega
        revert hrt;cases hpt:pf t with
        |pt s' p i j=>
         rw[hpt]at hrs h0;simp only[zam,Option.some.injEq]at hrs;subst hrs;simp only[zfU,List.length_eq_zero_iff]at h0;subst h0;rintro(⟨c0,a1,a2,a3,a4⟩|⟨v0,id,o,a1,a2,a3⟩)
         ·exact .inl ⟨cells',l2,rfl,a3,(hf t e).trans a4⟩
         ·rcases a1 with⟨r,b1,b2⟩|⟨c0,j',p',y',b1,b2,_⟩
          ·rw[l1]at b1;cases b1
          ·cases b2
        |rf s' p=>
         rw[hpt]at hrs h0;simp only[zam,Option.some.injEq]at hrs;subst hrs;simp only[zfU,List.length_eq_zero_iff]at h0;subst h0;rintro⟨v,a1,a2⟩;rcases a2 with⟨r,b1,b2⟩|⟨c0,j',p',y',b1,b2,_⟩
         ·rw[l1]at b1;cases b1
         ·cases b2
        |rv s' p lo hi=>
         rw[hpt]at hrs h0;simp only[zam,Option.some.injEq]at hrs;subst hrs;simp only[zfU,List.length_eq_zero_iff]at h0;subst h0;rintro(⟨a1,a2⟩|⟨id,off,es,n,c,a1,a2⟩)
         ·rcases a1 with⟨r,b1,b2⟩|⟨c0,j',p',y',b1,b2,_⟩
          ·rw[l1]at b1;cases b1
          ·cases b2
         ·rcases a1 with⟨r,b1,b2⟩|⟨c0,j',p',y',b1,b2,_⟩
          ·rw[l1]at b1;cases b1
          ·cases b2
        |ra s' p i j n=>rw[hpt]at h0;simp[zfU]at h0
        |as b s' p i j n=>rw[hpt]at h0;simp[zfU]at h0
        |cl s' g us=>
         rw[hpt]at hrs;simp only[zam,Option.some.injEq]at hrs;subst hrs;rintro⟨v,vs,a1,a2,a3⟩;rcases a2 with⟨r,b1,b2⟩|⟨c0,j',p',y',b1,b2,_⟩
         ·rw[l1]at b1;cases b1
         ·cases b2
        |_=>rw[hpt]at hrs;simp[zam]at hrs
     ·exact hrt.stay hg (hm t ht e) (hf t e) fun s' hs'=>by
       have hne:s'≠s:=fun e=>hrs (by rw[hs',e])
       exact⟨hf s' hne,KL.of_move (hm s' (r.rt t s' hs') hne)⟩
   ·have:=r.hi t (by omega);rw[this];simp only[zaW,jP,zam];exact True.intro
 ·have:t≠s:=by omega
  rw[hkill t this,r.hi t ht];simp[zaW,jP,zam]
 ·by_cases e:t=s
  ·subst e;have:((pf.upd t y).kill t n) t=y:=by simp[PFr.kill,PFr.upd,zaW,hr]
   rw[this,hr]at h;cases h
  ·rw[hkill t e]at h;exact r.rt t s' (zvJ h).1
theorem zl4{y':PF}(h:zgD y x=some y'):zam y'=none:=by
 unfold zgD at h;split at h
 ·cases h;rfl
 ·cases h;rfl
 ·cases h
theorem zxS:∀(p0:zad) (a:PV) (i j:Nat),zeN a (p0++[(i,j)])=(zeN a p0).bind fun z=>zdd z (i,j):=by
 intro p0;induction p0 with
 |nil=>intro a i j;simp[zeN]
 |cons b p0 ih=>intro a i j;simp only[List.cons_append,zeN];cases zdd a b with
  |none=>rfl
  |some z=>simp[ih]
theorem zwn :zaz pf s (p++[(i,j)])=(zaz pf s p).bind fun z=>zdd z (i,j):=by
 simp only[zaz];cases zbs (pf s)with
 |none=>rfl
 |some x=>simp[zxS]
theorem Wv.snoc :∀{p0:zad}{l:Nat×zad}{a b c:Value},Wv E l a p0 b→Wv E (l.1,l.2++p0) b [(i,j)] c→Wv E l a (p0++[(i,j)]) c:=by
 intro p0;induction p0 with
 |nil=>intro l a b c h1 h2;have h1:b=a:=h1;subst h1;rw[zji]at h2;exact h2
 |cons s p0 ih=>
  obtain⟨i1,j1⟩:=s;intro l a b c h1 h2;obtain⟨id,o,k,y,a1,a2,a3,a4,a5⟩:=h1;exact⟨id,o,k,y,a1,a2,a3,a4,ih a5 (by rw[zgW];exact h2)⟩
theorem Wk.snoc{b c:Value}(h:Wk E fr s p b)(h2:Wv E (s,p) b [(i,j)] c):Wk E fr s (p++[(i,j)]) c:=by
 rcases h with⟨q,b1,b2⟩|⟨cells,j',p',y,b1,b2,b3,b4⟩
 ·exact .inl ⟨q,b1,b2.snoc (by simpa using h2)⟩
 ·subst b2;exact .inr ⟨cells,j',p'++[(i,j)],y,b1,rfl,b3,b4.snoc (by simpa using h2)⟩
theorem zzc{zs:List PV}:∀{p0:zad}{x0 x1:PV},zfd x0 p0 (zeL i j zs)=some x1→∃x2 z,zeN x0 p0=some x2∧zeL i j zs x2=some z:=by
 intro p0;induction p0 with
 |nil=>intro x0 x1 h;exact⟨x0,x1,rfl,h⟩
 |cons a p0 ih=>
  intro x0 x1 h;simp only[zfd,Option.bind_eq_some_iff,Option.map_eq_some_iff]at h;obtain⟨z0,h1,z1,h2,rfl⟩:=h;obtain⟨x2,z,g1,g2⟩:=ih h2;exact⟨x2,z,by simp[zeN,h1,g1],g2⟩
theorem RelP.setCs(r:RelP nt pin E0 E pf fr){zs:List PV}(hs:s<nt)(hne:zs≠[])(hj:zeo pf s p i j zs=some pf')(hH:E'.H=E.H)(hsn:Since E E')(hg:GK E E')
(hm:∀t,t<nt→t≠s→MoveOK E E' (some (t,[])) (some (t,[])))(hfr:∀id,E.H.n≤id→E'.ow id=none∧¬E'.G id)
(hkp:∀id q,E.ow id=some (s,q)→¬E.G id→Off p i j zs.length q→E'.ow id=some (s,q)∧¬E'.G id)
(hz:∀t z y,zs[t]? =some z→Wk E fr s (p++[(i,j+t)]) y→PR E' (some (s,p++[(i,j+t)])) z y):RelP nt pin E0 E' pf' fr:=by
 have hfr':∀id,E'.H.n≤id→E'.ow id=none∧¬E'.G id:=by rw[hH];exact hfr
 have hwf:WFH E'.H:=by rw[hH];exact r.wf
 simp only[zeo,Option.bind_eq_some_iff,Option.map_eq_some_iff]at hj;obtain⟨x0,hx0,x1,hmod,y,hy,rfl⟩:=hj;have hshort:∀id q,E.ow id=some (s,q)→¬E.G id→q.length≤p.length→E'.ow id=some (s,q)∧¬E'.G id:=fun id q h1 h2 h3=>hkp id q h1 h2 (zwg h3)
 refine r.chg hs hg hm (fun L hL=>⟨fun id q h1 h2 hq=>hshort id q h1 h2 (by omega),fun id q h1 h2 hq=>by rw[hH]⟩) (fun _ _=>rfl) (fun _=>.inl rfl) hsn hwf hfr' (fun _ _ h1 h2=>.inl (by rw[h1]at h2;cases h2;rfl)) ?_ (zl4 hy) r.pin;by_cases hl:∃row,pf s=.bl row∧p=[]
 ·obtain⟨row,hrow,rfl⟩:=hl;rw[hrow]at hx0 hy;simp only[zbs,Option.some.injEq]at hx0;subst hx0;simp only[zfd,zeL]at hmod;split at hmod
  ·rename_i hi0;subst hi0;simp only[Option.map_eq_some_iff]at hmod;obtain⟨row',hput,rfl⟩:=hmod;simp only[zgD,Option.some.injEq]at hy;subst hy;have hf:=r.f s;rw[hrow]at hf;obtain⟨cells,c1,_⟩:=id hf;refine znf hf hput c1 c1 rfl (fun _ _=>rfl) hg (fun id q h1 h2 h3=>⟨(hkp id q h1 h2 h3).1,(hkp id q h1 h2 h3).2,by rw[hH]⟩) fun t x y h1 h2=>?_
   exact hz t x y h1 (.inr ⟨cells,j+t,[],y,c1,rfl,h2,rfl⟩)
  ·cases hmod
 ·obtain⟨x2,z2,hg2,hput2⟩:=zzc hmod;have hx2j:x2≠.junk:=by rintro rfl;simp[zeL]at hput2
  have hx2:zaz pf s p=some x2:=by simp[zaz,hx0,hg2]
  have hp0':p≠[]∨∃y,pf s=.v y:=by
   by_cases h0:p=[]
   ·right;cases hps:pf s with
    |v y=>exact⟨y,rfl⟩
    |bl row=>exact absurd ⟨row,hps,h0⟩ hl
    |_=>rw[hps]at hx0;simp[zbs]at hx0
   ·exact .inl h0
  obtain⟨v2,w2,pr2⟩:=r.at hx2 hx2j hp0'
  have hhd:∃id o k,Hd E (s,p) v2 i id o∧E.H.b id=some k∧∀t,t<zs.length→∀y,k.cells[o+j+t]? =some y→Wv E (s,p) v2 [(i,j+t)] y:=by
   cases pr2 with
   | @slO _ id off es n c k rows how hG hb hrw hn hc hm hr hl hh=>
    simp only[zeL,Option.bind_eq_some_iff,Option.map_eq_some_iff]at hput2;obtain⟨r0,a1,r1,a2,_⟩:=hput2;have hi:i<n:=by have:=(List.getElem?_eq_some_iff.1 a1).1;omega
    have hlen:=(zfO a2).2.1 hne;have hr0:=hr r0 (List.mem_of_getElem? a1);refine⟨id,_,k,.sl (j:=j) how hG hi,hb,fun t ht y hy=>⟨id,off+i*es,k,y,.sl (j:=j) how hG hi,?_,hb,by rw[←Nat.add_assoc];exact hy,rfl⟩⟩;rintro es' ⟨_,_,_,e⟩;cases e;omega
   | @bx _ id k row how hG hb hrw hl hh=>
    simp only[zeL]at hput2;split at hput2
    ·rename_i e;subst e;refine⟨id,0,k,.bx how hG,hb,fun t ht y hy=>⟨id,0,k,y,.bx how hG,?_,hb,by rw[←Nat.add_assoc];exact hy,rfl⟩⟩;rintro es' ⟨_,_,_,e⟩;cases e
    ·cases hput2
   |sl0 ob es=>cases ob<;>simp[zeL]at hput2
   |_=>simp[zeL]at hput2
  obtain⟨id0,o,k0,hd,hb0,hcell⟩:=hhd;refine ztV (r.f s) hx0 hmod hy ⟨hg,fun id q h1 h2 h3=>?_,fun k hk=>?_⟩ w2 hd rfl
  ·have h1:E.ow id=some (s,q):=by simpa using h1
   have:=hkp id q h1 h2 h3;exact⟨by simpa using this.1,this.2,fun _=>by rw[hH]⟩
  ·refine⟨k,by rw[hH];exact hk,rfl,rfl,fun _ _=>rfl,fun t x y h1 h2=>?_⟩;rw[hb0]at hk;cases hk;have ht:t<zs.length:=(List.getElem?_eq_some_iff.1 h1).1;simpa using hz t x y h1 (w2.snoc (hcell t ht y h2))
theorem RelP.setAt(r:RelP nt pin E0 E pf fr){z:PV}(hs:s<nt)(hw:Wk E fr s p v)
(hj:zck pf s p z=some pf')(hH:E'.H=E.H)(hsn:Since E E')(hg:GK E E')(hm:∀t,t<nt→t≠s→MoveOK E E' (some (t,[])) (some (t,[])))(hfr:∀id,E.H.n≤id→E'.ow id=none∧¬E'.G id)
(hkeep:∀id q,E.ow id=some (s,q)→¬E.G id→¬p<+:q→E'.ow id=some (s,q)∧¬E'.G id)(hz:PR E' (some (s,p)) z v):RelP nt pin E0 E' pf' fr:=by
 unfold zck at hj;split at hj
 ·rename_i hsp;have:=zsL hsp;subst this;cases hj;have hfr':∀id,E'.H.n≤id→E'.ow id=none∧¬E'.G id:=by rw[hH];exact hfr
  have hwf:WFH E'.H:=by rw[hH];exact r.wf
  have hv:fr s=.v v:=by
   rcases hw with⟨q,w1,w2⟩|⟨cells,j',p',y,w1,w2,_⟩
   ·rw[w1];have:v=q:=w2;rw[this]
   ·cases w2
  exact r.chg hs hg hm (fun L hL=>absurd hL (Nat.not_lt_zero _)) (fun _ _=>rfl) (fun h=>absurd h (Nat.lt_irrefl _)) hsn hwf hfr' (fun _ _ h1 h2=>.inl (by rw[h1]at h2;cases h2;rfl)) (ze2 hv hz) rfl r.pin
 ·rename_i c hsp;obtain⟨p0,i,j⟩:=c;have hp0:=zsH hsp;simp only at hp0 hj;refine r.setCs hs (by simp) hj hH hsn hg hm hfr (fun id q h1 h2 h3=>hkeep id q h1 h2 ?_) fun t z' y h1 h2=>?_
  ·rintro⟨t,rfl⟩;rw[hp0]at h3;exact h3 j t (by simp) ⟨Nat.le_refl _,by simp⟩
  ·cases t with
   |zero=>
    simp at h1;subst h1;rw[Nat.add_zero]at h2⊢;rw[←hp0]at h2⊢;rw[h2.same hw];exact hz
   |succ t=>simp at h1
theorem zcM{f:Nat×zad→Option (Nat×zad)}:Since E (E.rl f):=⟨Nat.le_refl _,zba,fun id _ h=>⟨by simp[Env.rl,h],rfl,fun h=>h⟩⟩
theorem FlOK.snoc(h:FlOK nt E fl)(hx:PR E (some (nt,[(0,fl.length)])) x v):FlOK nt E (fl++[(x,v)]):=by
 intro k y v' hk;by_cases hlt:k<fl.length
 ·rw[List.getElem?_append_left hlt]at hk;exact h k y v' hk
 ·rw[List.getElem?_append_right (by omega)]at hk
  have hk0:k-fl.length=0:=by
   have:=(List.getElem?_eq_some_iff.1 hk).1;simp at this;omega
  rw[hk0]at hk;simp at hk;obtain⟨rfl,rfl⟩:=hk;have:k=fl.length:=by omega
  rw[this];exact hx
theorem FlOK.stay(h:FlOK nt E fl)(hg:GK E E')(hm:MoveOK E E' (some (nt,[])) (some (nt,[]))):FlOK nt E' fl:=fun k x v hk=>(h k x v hk).move hg (MoveOK.ch (l:=some (nt,[])) (l':=some (nt,[])) hm 0 k)
theorem RelP.takeAt(r:RelP nt pin E0 E pf fr)(hfl:FlOK nt E fl)(hs:s<nt)(h:zaz pf s p=some x)(hx:x≠.junk)(hp:p≠[]∨∃y,pf s=.v y)
(hj:zck pf s p .junk=some pf'):∃v E',Wk E fr s p v∧E'.H=E.H∧RelP nt pin E0 E' pf' fr∧FlOK nt E' (fl++[(x,v)]):=by
 obtain⟨v,hw,hv⟩:=r.at h hx hp;refine⟨v,E.rl (rlW (s,p) (nt,[(0,fl.length)])),hw,rfl,?_,?_⟩
 ·refine r.setAt hs hw hj rfl zcM zba (fun t _ ht=>zbN fun r=>zdq ht) (fun id hid=>?_) (fun id q h1 h2 h3=>?_) (.junk v)
  ·obtain⟨h1,h2⟩:=r.fresh id hid;exact⟨by simp[Env.rl,h1],h2⟩
  ·exact⟨by simp[Env.rl,h1,rlW,h3],h2⟩
 ·exact(hfl.stay zba (zbN fun r=>zdq (by show nt≠s;omega))).snoc (hv.move zba (zcJ fun r=>zfq _ _ r))
def Env.fz(E:Env)(a:Nat×zad):Env:={E with G:=fun id=>E.G id∨∃r,E.ow id=some (a.1,a.2++r)}
theorem zgs :GK E (E.fz a):=fun _ h=>⟨.inl h,fun k hk=>⟨k,hk,rfl⟩⟩
theorem ziC :Since E (E.fz a):=⟨Nat.le_refl _,zgs,fun id _ h=>⟨h,rfl,by
 rintro(h3|⟨r,h3⟩)
 ·exact h3
 ·rw[h]at h3;cases h3⟩⟩
theorem zqU :FzOK E (E.fz a) (some a):=fun _ r h1 _=>⟨.inr ⟨r,h1⟩,fun k hk=>⟨k,hk,rfl⟩⟩
theorem zhN{c:Nat×zad}(h:c.1≠a.1):MoveOK E (E.fz a) (some c) (some c):=fun id r h1 h2=>⟨h1,by
 rintro(h3|⟨r',h3⟩)
 ·exact h2 h3
 ·rw[h1,Option.some.injEq,Prod.mk.injEq]at h3
  exact h h3.1,rfl⟩
theorem RelP.freezeAt(r:RelP nt pin E0 E pf fr)(hs:s<nt)(h:zaz pf s p=some x)(hx:x≠.junk)(hp:p≠[]∨∃y,pf s=.v y)
(hj:zck pf s p (drop x)=some pf'):∃v,Wk E fr s p v∧RelP nt pin E0 (E.fz (s,p)) pf' fr∧PR (E.fz (s,p)) none (drop x) v:=by
 obtain⟨v,hw,hv⟩:=r.at h hx hp;have hd:PR (E.fz (s,p)) none (drop x) v:=hv.freeze zgs zqU;refine⟨v,hw,?_,hd⟩;refine r.setAt hs hw hj rfl ziC zgs (fun t _ ht=>zhN ht) (fun id hid=>?_) (fun id q h1 h2 h3=>?_) hd.up
 ·obtain⟨h1,h2⟩:=r.fresh id hid;refine⟨h1,?_⟩;rintro(h3|⟨r',h3⟩)
  ·exact h2 h3
  ·rw[h1]at h3;cases h3
 ·refine⟨h1,?_⟩;rintro(h4|⟨r',h4⟩)
  ·exact h2 h4
  ·rw[h1]at h4;cases h4;exact h3 (List.prefix_append _ _)
end
end Go.Pm
