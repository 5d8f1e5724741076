import Derived.Test.YtnojafnlicbhpaaGreatPmI
open Bool renaming false→aa,true→Z
open Option renaming none→ae,some→J
set_option linter.defProp false
namespace Go.Pm
open Go.Am
def zD:=@List.all_cons
section
variable {nt:Nat}{pin:List (Nat×Value)}{E0 E E':Env}{pf:ah}{fr ak:FR}{c:aY}{P:Program}
variable{K:ah->Prop}{K':FR->AH->Prop}{ez:Nat}{o:Oper}{t:TypeId}{v:Value}{x:Operand}{z:List Value}
def MQ{d:Nat}(h:ic c d .skip=Z):d<c.nt/\d∉c.io:=⟨(Pt h).1,(Pt h).2.1⟩
def av.a0P(r:av nt pin E0 E pf fr){d:Nat}{row:List PV}{cells:List Value}(hd:d<nt)(hp:∀v,(d,v)∉pin)(d7:ey E')(jf:gn E E')(hm:∀s,s<nt->s≠d->dC E E' (J (s,[])) (J (s,[])))
(hl:row.length=cells.length)(hr:∀(j:Nat) (x:PV) (y:Value),row[j]? =J x->cells[j]? =J y->PR E' (J (d,[(0,j)])) x y):av nt pin E0 E' (pf.put d (.bl row)) (fr.fh d cells):=by
 have hfd:(fr.fh d cells) d=.loc cells:=by simp[FR.fh]
 have XB:∀t,t≠d->(∀o,fr t≠.lp d o)->(fr.fh d cells) t=fr t:=λt ht hn=>by
  simp only[FR.fh,aB ht];cases ot:fr t with
  |lp s o=>
   simp only[lD];rw[aB];rintro rfl;exact hn o ot
  |_=>rfl
 have wF:∀s,s≠d->(∃v,fr s=.v v)\/(∃cs,fr s=.loc cs)->(fr.fh d cells) s=fr s:=λs hs h=>XB s hs λo e=>by
  rcases h with⟨v,h⟩|⟨v,h⟩<;>rw[e]at h<;>cases h
 have Bi:∀{s:Nat}{p:aC}{v:Value},Wk E fr s p v->(∃v,fr s=.v v)\/(∃cs,fr s=.loc cs):=λh=>by
  rcases h with⟨r,h1,_⟩|⟨cs,_,_,_,h1,_⟩
  ·exact .inl ⟨r,h1⟩
  ·exact .inr ⟨cs,h1⟩
 refine⟨r.since.trans jf,d7.wf,d7.fresh,λt=>?_,λt ht=>?_,λt s h=>?_,λk v h=>?_⟩
 ·by_cases e:t=d
  ·subst e;simp only[ah.put,e9];exact⟨cells,hfd,hl,hr⟩
  ·simp only[ah.put,aB e];by_cases ht:t<nt
   ·unfold fS;split
    ·exact True.intro
    ·rename_i hk;have hf:=r.f t;by_cases hj:pf t=jP
     ·rw[hj];exact True.intro
     ·have Gz:∀o,fr t≠.lp d o:=by
       intro o e2;revert hf;cases aF:pf t with
       |v x=>
        intro hf;obtain⟨v,h1,_⟩:=gA hf (by rintro rfl;exact hj aF);rw[e2]at h1;cases h1
       |skip=>intro hf;have hf:fr t=.skip:=hf;rw[e2]at hf;cases hf
       |ls es rows=>rintro⟨cs,h1,_⟩;rw[e2]at h1;cases h1
       |bl row=>rintro⟨cs,h1,_⟩;rw[e2]at h1;cases h1
       |pt s p i j=>
        rintro(⟨cs,h1,h2,h3,h4⟩|⟨v0,id,o',h1,h2,h3⟩)
        ·rw[e2]at h4;cases h4;exact hk (by rw[aF];rfl)
        ·rw[e2]at h3;cases h3
       |rf s p=>rintro⟨v,h1,_⟩;rw[e2]at h1;cases h1
       |rv s p lo hi=>
        rintro(⟨_,h2,_⟩|⟨id,off,es,n,cc,_,_,_,h4⟩)
        ·rw[e2]at h2;cases h2
        ·rw[e2]at h4;cases h4
       |ra s p i j n=>rintro⟨vs,h1,_⟩;rw[e2]at h1;cases h1
       |cl s g us=>rintro⟨v,vs,h1,_⟩;rw[e2]at h1;cases h1
       |as b s p i j n=>
        cases b with
        |false=>rintro⟨vs,h1,_⟩;rw[e2]at h1;cases h1
        |true=>rintro⟨id,off,k,v,h1,_⟩;rw[e2]at h1;cases h1
      refine hf.stay jf.g (hm t ht e) (XB t e Gz) λs hs=>?_
      have gy:s≠d:=λe=>hk (by rw[hs,e])
      refine⟨?_,KL.J8 (hm s (r.rt t s hs) gy)⟩;revert hf hs;cases aF:pf t with
      |pt s' p i j=>
       intro hf hs;cases hs;rcases hf with⟨cs,h1,_⟩|⟨v0,id,o',h1,_⟩
       ·exact wF s gy (.inr ⟨cs,h1⟩)
       ·exact wF s gy (Bi h1)
      |rf s' p=>
       rintro⟨v,_,h1⟩ hs;cases hs;exact wF s gy (Bi h1)
      |rv s' p lo hi=>
       intro hf hs;cases hs;rcases hf with⟨h1,_⟩|⟨id,off,es,n,cc,h1,_⟩
       ·exact wF s gy (Bi h1)
       ·exact wF s gy (Bi h1)
      |ra s' p i j n=>
       rintro⟨vs,h1,h2,h3⟩ hs;cases hs;by_cases hn:vs.toList=[]
       ·rw[hn]at h2;exact absurd h2.1.symm h2.2
       ·obtain⟨y,hy⟩:∃y,vs.toList[0]? =J y:=by
         cases GX:vs.toList with
         |nil=>exact absurd GX hn
         |cons y l=>exact⟨y,rfl⟩
        exact wF s gy (Bi (h3 0 y hy))
      |as b s' p i j n=>
       intro hf hs;cases hs;cases b with
       |false=>
        obtain⟨vs,h1,h2,h3⟩:=hf;exact wF s gy (Bi (h3 0 _ (cJ (by omega))))
       |true=>
        obtain⟨id,off,k,v,_,_,_,_,hw⟩:=hf;exact wF s gy (Bi hw)
      |cl s' g us=>rintro⟨v,vs,h1,h2,h3⟩ hs;cases hs;exact wF s gy (Bi h2)
      |_=>intro _ hs;simp[bE]at hs
   ·rw[r.hi t (by omega)];have:fS d jP=jP:=by simp[fS,jP,bE]
    rw[this];exact True.intro
 ·have:t≠d:=by omega
  simp only[ah.put,aB this,r.hi t ht];simp[fS,jP,bE]
 ·by_cases e:t=d
  ·subst e;simp[ah.put,bE]at h
  ·simp only[ah.put,aB e]at h;unfold fS at h;split at h
   ·simp[jP,bE]at h
   ·exact r.rt t s h
 ·have hk:k≠d:=λe=>hp v (by rw[<-e];exact h)
  have:=r.pin k v h;rw[wF k hk (.inl ⟨v,this⟩)];exact this
def YR:∀{z:List Value}{es:List Nat},(zc es z).length=z.length/\(z.all cz=Z->∀(j:Nat) (x:PV) (y:Value),(zc es z)[j]? =J x->z[j]? =J y->∀l,PR E l x y):=by
 intro z;induction z with
 |nil=>intro es;cases es<;>exact⟨rfl,λ_ j x y h=>by simp[zc]at h⟩
 |cons v z ih=>
  intro es
  have step:∀(e:Nat) (es:List Nat),(nF e v::zc es z).length=(v::z).length/\((v::z).all cz=Z->∀(j:Nat) (x:PV) (y:Value),(nF e v::zc es z)[j]? =J x->(v::z)[j]? =J y->∀l,PR E l x y):=by
   intro e es;obtain⟨h1,h2⟩:=ih (es:=es);refine⟨by simp[h1],λhz j x y a b l=>?_⟩;simp only[zD,bK]at hz;cases j with
   |zero=>simp at a b;subst a;subst b;exact H3 hz.1 l
   |succ j=>exact h2 hz.2 j x y (by simpa using a) (by simpa using b) l
  cases es with
  |nil=>exact step 0 []
  |cons e es=>exact step e es
def Lz :(zz P t z).length=z.length:=(YR (E:=⟨⟨0,λ_=>ae⟩,λ_=>False,λ_=>ae⟩)).1
def KI(hz:z.all cz=Z)(l:Nat->Lo):∀(j:Nat) (x:PV) (y:Value),(zz P t z)[j]? =J x->z[j]? =J y->PR E (l j) x y:=λj x y h1 h2=>YR.2 hz j x y h1 h2 _
def zz8{x:PV}(h:PR E ae x v):PR E ae (dz x) v:=by
 unfold dz;split
 ·cases h with
  |sl0=>exact .sl0 aa _
  |jZ a1 a2 a3 a4 a5 a6 a7 a8=>exact .jZ a1 a2 a3 a4 a5 a6 a7 a8
 ·exact h
def WT :((zz P t z).map dz).length=z.length:=by rw[HJ,Lz]
def zqc(hz:z.all cz=Z)(l:Nat->Lo):∀(j:Nat) (x:PV) (y:Value),((zz P t z).map dz)[j]? =J x->z[j]? =J y->PR E (l j) x y:=λj x y h1 h2=>by
 obtain⟨x0,h3,rfl⟩:=mC h1;exact(zz8 (KI hz (λ_=>ae) j x0 y h3 h2)).up
def zHJ{x:PV}(h:PR E ae x v)(hv:cz v=Z):PR E ae (ud x) v:=by
 unfold ud;split
 ·cases h with
  |sl0=>exact .sl0 Z _
  |jZ a1 a2 a3 a4 a5 a6 a7 a8=>simp[cz]at hv
 ·exact h
def J7{b:Bool}:(uz b ((zz P t z).map dz)).length=z.length:=by unfold uz;split<;>simp[Lz]
def Vq{b:Bool}(hz:z.all cz=Z)(l:Nat->Lo):∀(j:Nat) (x:PV) (y:Value),(uz b ((zz P t z).map dz))[j]? =J x->z[j]? =J y->PR E (l j) x y:=λj x y h1 h2=>by
 unfold uz at h1;split at h1
 ·obtain⟨x0,h3,rfl⟩:=mC h1;obtain⟨x1,h4,rfl⟩:=mC h3;exact(zHJ (zz8 (KI hz (λ_=>ae) j x1 y h4 h2)) (bm.1 hz y (eA h2))).up
 ·exact zqc hz l j x y h1 h2
def zsY(r:av c.nt pin E0 E pf fr)(hp:eG c pin){e:TypeId}(ho:o.op=.alloc e)(h:Fr P c e o.dst K pf)
(hk:∀pf' ak E',K pf'->av c.nt pin E0 E' pf' ak->K' ak E'.H):aP P c.nt o K' fr E.H\/(c.hp≠[]/\fC P c.nt o K' fr E.H):=by
 unfold Fr at h;split at h
 ·rename_i z0 d DN hd;obtain⟨h2,h3⟩:=h;obtain⟨g,sz,b,z,ht,h1,rfl⟩:=zBi DN;obtain⟨c1,c2⟩:=MQ h2;have jY:∀w,(d,w)∉pin:=λw hw=>c2 (hp.h d w hw)
  split at h3
  ·rename_i oG;refine .inr ⟨λe=>by rw[e]at oG;simp at oG,?_⟩;have ok:=r.ok;simp only[fC,ho,hd,ht];refine⟨c1,h1,?_⟩
   have:=hk _ (fr.put d (.v (.pointer (J ⟨E.H.n,0,ae⟩)))) (E.push ⟨Z,z⟩ (d,[]) λ_=>ae) h3
    (r.set c1 jY ok.nw (λs _ _=>ok.nL λ_=>rfl) ok.wM ok.push.wf ok.push.fresh
      (o9 (by simp[FR.put]) (.bx zhD ok.xR xV rfl (by show(zz P e z).length<=z.length;rw[Lz];exact cB _) (KI h1 λj=>J (cS (d,[]) 0 j)))) (λs hs=>by cases hs))
   exact this
  ·left;unfold aP;rw[ho];simp only[ht,hd];rw[aD ⟨c1,h1⟩];exact hk _ _ E h3 (r.a0P c1 jY r.ok (gn.refl E) (λs _ _=>.refl _) (Lz) (KI h1 λj=>J (d,[(0,j)])))
 ·cases h
def XW{H H':AH}(h:bg fr H x=J (v,ak,H'))(hn:∀t,x=.tmp t->∀a b cs,fr t≠.ls a b cs):be fr x=J v/\ak=fr/\H'=H:=by
 cases x with
 |tmp t=>
  simp only[bg]at h;split at h
  ·rename_i y hy;simp only[aT,cg]at h;obtain⟨rfl,rfl,rfl⟩:=h;exact⟨by simp[be,hy],rfl,rfl⟩
  ·rename_i a b cs hy;exact absurd hy (hn t rfl a b cs)
  ·cases h
 |const k=>simp only[bg,bP,cg]at h;obtain⟨y,h1,rfl,rfl,rfl⟩:=h;exact⟨h1,rfl,rfl⟩
 |func k=>simp only[bg,bP,cg]at h;obtain⟨y,h1,rfl,rfl,rfl⟩:=h;exact⟨h1,rfl,rfl⟩
 |global k=>simp only[bg,bP,cg]at h;obtain⟨y,h1,rfl,rfl,rfl⟩:=h;exact⟨h1,rfl,rfl⟩
def zrp(r:av nt pin E0 E pf fr){y:PV}{aR:ah}(h:eB ez pf x=J (y,aR))(hl:wA pf x=aa):∀t,x=.tmp t->∀a b cs,fr t≠.ls a b cs:=by
 rintro t rfl a b cs e;simp only[wA]at hl;simp only[eB]at h;have hf:=r.f t;cases aF:pf t with
 |v z=>
  rw[aF]at hf h;obtain⟨v,h1,_⟩:=gA hf (by rintro rfl;simp[mn,Ag,dB]at h);rw[e]at h1;cases h1
 |ls es rows=>rw[aF]at hl;simp[rG]at hl
 |rf s p=>rw[aF]at hf;obtain⟨v,h1,_⟩:=hf;rw[e]at h1;cases h1
 |rv s p lo hi=>
  rw[aF]at hf;rcases hf with⟨_,h2,_⟩|⟨id,off,es,n,cc,_,_,_,h4⟩
  ·rw[e]at h2;cases h2
  ·rw[e]at h4;cases h4
 |ra s p i j n=>rw[aF]at hf;obtain⟨vs,h1,_⟩:=hf;rw[e]at h1;cases h1
 |_=>rw[aF]at h;simp[mn]at h
def zwN(r:av c.nt pin E0 E pf fr)(hp:eG c pin){e:TypeId}(ho:o.op=.box e x)(h:F3 P c e x o.dst K pf)
(hk:∀pf' ak E',K pf'->av c.nt pin E0 E' pf' ak->K' ak E'.H):aP P c.nt o K' fr E.H\/(c.hp≠[]/\fC P c.nt o K' fr E.H):=by
 unfold F3 at h;split at h
 ·rename_i tz y aR d DM jD hd;obtain⟨dH,ht⟩:=Gi DM;obtain⟨h0,h1,h2,h3⟩:=h;obtain⟨c1,c2⟩:=MQ h2;have jY:∀w,(d,w)∉pin:=λw hw=>c2 (hp.h d w hw)
  obtain⟨v,fr1,H1,E1,m1,e1,r1,f1⟩:=wb r (fl:=[]) (λk x v h=>by simp at h) jD;obtain⟨m2,rfl,rfl⟩:=XW m1 (zrp r jD h0);have hfl:PR E1 (J (c.nt,[(0,0)])) y v:=f1 0 y v rfl;have fF:∀s:Nat,s<c.nt->∀q:aC,iU (c.nt,[(0,0)]) (d,[]) 0 0 y (s,q)=ae:=λs hs q=>zyG (by show s≠c.nt;omega)
  split at h3
  ·rename_i oG;refine .inr ⟨λe=>by rw[e]at oG;simp at oG,?_⟩;have ok:=r1.ok;obtain⟨k1,k2,k3⟩:=C3 (E':=E1.push ⟨Z,v.cells.toList⟩ (d,[]) (iU (c.nt,[(0,0)]) (d,[]) 0 0 y)) (b:=(d,[])) (i:=0) (j:=0) hfl h1 ok.nw λa b h=>ok.Sg h
   simp only[fC,ho,hd,ht,m2];refine⟨c1,k3,?_⟩
   have r2:=r1.set c1 jY ok.nw (λs hs _=>ok.nL λq=>fF s hs _) ok.wM ok.push.wf ok.push.fresh
    (o9 (by simp[FR.put]) (.bx (k:=⟨Z,v.cells.toList⟩) zhD ok.xR xV rfl (by show(cR y).length<=v.cells.toList.length;rw[k1];exact cB _) (λj x y a b=>by simpa[cS]using k2 j x y a b))) (λs hs=>by cases hs) (fv:=.v (.pointer (J ⟨E1.H.n,0,ae⟩)))
   split at h3
   ·have hf:=r2.f d;simp only[ah.put,aD]at hf;obtain⟨w,hw1,hw2⟩:=hf;have hwe:w=.pointer (J ⟨E1.H.n,0,ae⟩):=by simpa[FR.put]using hw1.symm
    subst hwe;have nz:∀v,(fr1.put d v).put d v=fr1.put d v:=λv=>by funext z;simp only[FR.put];split<;>rfl
    have lv:=hw2.freeze (E':=(E1.push ⟨Z,v.cells.toList⟩ (d,[]) (iU (c.nt,[(0,0)]) (d,[]) 0 0 y)).fz (d,[])) p9 Oj;have r3:=r2.set c1 jY (p9 (a:=(d,[]))) (λs hs hne=>Bb (by show s≠d;exact hne)) Gv r2.ok.fz.wf r2.ok.fz.fresh (o9 (v:=.pointer (J ⟨E1.H.n,0,ae⟩)) (by simp[FR.put]) lv.up) (λs hs=>by cases hs) (fv:=.v (.pointer (J ⟨E1.H.n,0,ae⟩)));rw[nz]at r3;have:=hk _ (fr1.put d (.v (.pointer (J ⟨E1.H.n,0,ae⟩)))) _ h3 r3;rw[show((E1.push ⟨Z,v.cells.toList⟩ (d,[]) (iU (c.nt,[(0,0)]) (d,[]) 0 0 y)).fz (d,[])).H=E1.H.push ⟨Z,v.cells.toList⟩from rfl,e1]at this;exact this
   have:=hk _ (fr1.put d (.v (.pointer (J ⟨E1.H.n,0,ae⟩)))) _ h3 r2;rw[show(E1.push ⟨Z,v.cells.toList⟩ (d,[]) (iU (c.nt,[(0,0)]) (d,[]) 0 0 y)).H=E1.H.push ⟨Z,v.cells.toList⟩from rfl,e1]at this;exact this
  ·left;obtain⟨k1,k2,k3⟩:=C3 (E':=E1.rl (iU (c.nt,[(0,0)]) (d,[]) 0 0 y)) (b:=(d,[])) (i:=0) (j:=0) hfl h1 dU λa b h=>lF h
   unfold aP;rw[ho];simp only[ht,hd,m2];rw[aD ⟨c1,k3⟩];have:=hk _ _ (E1.rl (iU (c.nt,[(0,0)]) (d,[]) 0 0 y)) h3 (r1.a0P c1 jY r1.ok.rl oi (λs hs _=>jh λq=>fF s hs _) k1 (λj x y a b=>by simpa using k2 j x y a b));rw[show(E1.rl (iU (c.nt,[(0,0)]) (d,[]) 0 0 y)).H=E1.H from rfl,e1]at this;exact this
 ·cases h
def av.Vi(r:av nt pin E0 E pf fr){t es:Nat}{rows:List (List PV)}(ht:t<nt)(aF:pf t=.ls es rows):
 ∃v ak E',bg fr E.H (.tmp t)=J (v,ak,E'.H)/\ak t=.v v/\av nt pin E0 E' ((pf.bY t (.v (.sl Z es rows))).kill t 0) ak/\(∀fl,ep nt E fl->ep nt E' fl)/\(∀s,s≠t->ak s=fr s):=by
 have hf:=r.f t;rw[aF]at hf;obtain⟨cells,c1,c2,c3,c4,c5⟩:=hf;have ok:=r.ok;refine⟨.slice (J ⟨E.H.n,0,J es⟩) rows.length rows.length,fr.put t (.v (.slice (J ⟨E.H.n,0,J es⟩) rows.length rows.length)),E.push ⟨Z,cells⟩ (t,[]) λ_=>ae,by simp[bg,c1];rfl,by simp[FR.put],?_,λfl hfl=>hfl.stay ok.nw (ok.nL λ_=>rfl),λs hs=>by simp[FR.put,hs]⟩;refine r.rK ht ok.nw (λs hs dO=>ok.nL λq=>rfl) (λL hL=>absurd hL (B0 _)) (λs hs=>by simp[FR.put,hs]) (λh=>absurd h (zB _)) ok.wM ok.push.wf ok.push.fresh (λ_ _ h1 h2=>by rw[c1]at h1;cases h1) ?_ rfl λk v hk=>?_
 ·refine o9 (by simp[FR.put]) (.fK zhD ok.xR xV rfl rfl (cB _) c3.1 c4 ⟨⟨c3.2,rfl⟩,by rw[gE,c2];exact cB _⟩ λi rw j x y g1 g2 g3=>?_);rw[gE]at g3;exact(c5 i rw j x y g1 g2 g3).move ok.nw (ok.nL λq=>rfl)
 ·have:=r.pin k v hk;have hne:k≠t:=λe=>by rw[e,c1]at this;cases this
  simpa[FR.put,hne]using this
def Nw{op:Op}{d:Option Tmp}{ty:TypeId}{ps:String}{af:Array Edge}{g:Option (Nat×Bool)}{H H':AH}{w:Value}(h1:gG op=J [x])(h2:bg fr H x=J (v,ak,H'))(h3:eY P op [v]=J w)
(h:bC nt K' d (.v w) ak H'):dE P nt ⟨d,op,ty,ps,af,g⟩ K' fr H:=by
 simp only[dE,h1,cr,h2,h3];exact h
def av.a36(r:av nt pin E0 E pf fr){q s:Nat}{row:List PV}(hs:s<nt)(hq:q<nt)(fW:pf s=.bl row)(qg:pf q=.pt s [] 0 0):
 ∃cells E',fr q=.lp s 0/\fr s=.loc cells/\E'.H=E.H.push ⟨Z,cells⟩/\av nt pin E0 E' (((pf.bY s (.v (.bx row))).kill s 0).put q (.rf s [])) ((fr.put s (.v (.pointer (J ⟨E.H.n,0,ae⟩)))).put q (.v (.pointer (J ⟨E.H.n,0,ae⟩)))):=by
 have hf:=r.f s;rw[fW]at hf;obtain⟨cells,c1,c2,c5⟩:=hf;have K5:=r.f q;rw[qg]at K5
 have Gz:fr q=.lp s 0:=by
  rcases K5 with⟨_,_,_,_,h4⟩|⟨v0,id,o,h1,h2,_⟩
  ·exact h4
  ·rcases h1 with⟨x,b1,b2⟩|⟨c0,j',p',y',b1,b2,_⟩
   ·rw[c1]at b1;cases b1
   ·cases b2
 have hne:∀s' w,fr s'=.v w->s'≠s:=λs' w h e=>by rw[e,c1]at h;cases h
 have ok:=r.ok;have hqs:q≠s:=λe=>by rw[e,fW]at qg;cases qg
 have r1:av nt pin E0 (E.push ⟨Z,cells⟩ (s,[]) λ_=>ae) ((pf.bY s (.v (.bx row))).kill s 0) (fr.put s (.v (.pointer (J ⟨E.H.n,0,ae⟩)))):=by
  refine r.rK hs ok.nw (λs hs dO=>ok.nL λq=>rfl) (λL hL=>absurd hL (B0 _)) (λs hs=>by simp[FR.put,hs]) (λh=>absurd h (zB _)) ok.wM ok.push.wf ok.push.fresh (λ_ _ _ h2=>by simp[FR.put]at h2) ?_ rfl λk v hk=>?_
  ·exact o9 (by simp[FR.put]) (.bx zhD ok.xR xV rfl (a1f c2) λj x y g1 g2=>(c5 j x y g1 g2).move ok.nw (ok.nL λq=>rfl))
  ·have:=r.pin k v hk;have:=hne k v this;simp[FR.put,this,r.pin k v hk]
 refine⟨cells,E.push ⟨Z,cells⟩ (s,[]) λ_=>ae,Gz,c1,rfl,?_⟩;refine r1.set (d:=q) hq (λv hv=>by have:=r.pin q v hv;rw[Gz]at this;cases this) (GK.refl _) (λ_ _ _=>dC.refl _) ⟨cB _,GK.refl _,λid _ h=>⟨h,rfl,λh=>h⟩⟩ r1.wf r1.fresh ?_ (λs' mW=>by cases mW;exact hs);exact⟨.pointer (J ⟨E.H.n,0,ae⟩),by simp[FR.put],.inl ⟨.pointer (J ⟨E.H.n,0,ae⟩),by simp[FR.put,Ne.symm hqs],rfl⟩⟩
def zzv{q s i j:Nat}{p:aC}{y:PF}{x:PF×ah}(h:Ea pf q s p i j y=J x):p=[]/\i=0/\j=0/\∃row,y=.bl row/\x=(.rf s [],((pf.bY s (.v (.bx row))).kill s 0).put q (.rf s [])):=by
 unfold Ea at h;split at h
 ·rename_i row;cases h;exact⟨rfl,rfl,rfl,row,rfl,rfl⟩
 ·cases h
def zCO{c:aY}{d:Option Tmp}(h:Bz c d=Z):c.hp≠[]:=by
 unfold Bz at h;split at h
 ·rw[bK]at h;intro e;rw[e]at h;exact absurd h.1 (by decide)
 ·cases h
def zrD(r:av c.nt pin E0 E pf fr)(hp:eG c pin)(ho:o.op=.assign x)(h:Gj ez c x o.dst K pf)
(hk:∀pf' ak E',K pf'->av c.nt pin E0 E' pf' ak->K' ak E'.H):aP P c.nt o K' fr E.H:=by
 have dH:∀{d:Option Tmp}{ty:TypeId}{ps:String}{af:Array Edge}{g:Option (Nat×Bool)}{x:Operand}{v:Value}{fr1:FR}{H1:AH},(∀s o,bO fr x≠J (.lp s o))->bg fr E.H x=J (v,fr1,H1)->bC c.nt K' d (.v v) fr1 H1->aP P c.nt ⟨d,.assign x,ty,ps,af,g⟩ K' fr E.H:=by
  intro d ty ps af g x v fr1 H1 h0 h1 h2;show(match bO fr x with|some (.lp s off)=>bC c.nt K' d (.lp s off) fr E.H|_=>dE P c.nt ⟨d,.assign x,ty,ps,af,g⟩ K' fr E.H);split
  ·rename_i s o e;exact absurd e (h0 s o)
  ·exact Nw (P:=P) (op:=.assign x) rfl h1 rfl h2
 unfold Gj at h;split at h
 ·rename_i y hy;obtain⟨d,op,ty,ps,af,g⟩:=o;simp only at ho hy h;subst ho;unfold CJ at hy;split at hy
  ·rename_i d t;split at hy
   ·have hf:=r.f t;unfold EM at hy;split at hy
    ·rename_i row aF;cases hy;rw[aF]at hf;obtain⟨cells,c1,_⟩:=hf
     have ht:t<c.nt:=by
      rcases dQ t c.nt with h1|h1
      ·exact h1
      ·have:=r.hi t h1;rw[aF]at this;cases this
     unfold aP;simp only[bO,c1];exact jQ r hp (y:=.pt t [] 0 0) rfl ht (.inl ⟨cells,c1,rfl,rfl,rfl⟩) h hk
    ·rename_i s p aF;cases hy;rw[aF]at hf;obtain⟨v,h2,h3⟩:=hf;exact dH (x:=.tmp t) (λs o e=>by simp[bO,h2]at e) (by simp only[bg,h2]) (jQ r hp (y:=.rf s p) rfl (r.rt t s (by rw[aF];rfl)) ⟨v,rfl,h3⟩ h hk)
    ·rename_i s gg us aF;cases hy;rw[aF]at hf;obtain⟨v,vs,h2,h3⟩:=hf;exact dH (x:=.tmp t) (λs o e=>by simp[bO,h2]at e) (by simp only[bg,h2]) (jQ r hp (y:=.cl s gg us) rfl (r.rt t s (by rw[aF];rfl)) ⟨v,vs,rfl,h3⟩ h hk)
    ·cases hy
   ·cases hy
  ·cases hy
 split at h
 ·rename_i y aR jD;obtain⟨v,fr1,H1,E1,m1,e1,r1,f1⟩:=wb r (fl:=[]) (λk x v h=>by simp at h) jD;have:=g8 r1 hp (f1 0 y v rfl) h hk;rw[e1]at this;obtain⟨d,op,ty,ps,af,g⟩:=o;simp only at ho;subst ho;refine dH (λs o e=>?_) m1 this;cases x with
  |tmp t=>
   simp only[bg]at m1;split at m1
   ·rename_i hy;simp[bO,hy]at e
   ·rename_i hy;simp[bO,hy]at e
   ·cases m1
  |const k=>simp only[bO,bP]at e;obtain⟨w,_,e⟩:=e;cases e
  |func k=>simp only[bO,bP]at e;obtain⟨w,_,e⟩:=e;cases e
  |global k=>simp[bg,be]at m1
 ·cases h
def zul(r:av c.nt pin E0 E pf fr)(hp:eG c pin)(ho:o.op=.move x)(h:tu ez c x o.dst K pf)
(hk:∀pf' ak E',K pf'->av c.nt pin E0 E' pf' ak->K' ak E'.H):aP P c.nt o K' fr E.H\/(c.hp≠[]/\fC P c.nt o K' fr E.H):=by
 obtain⟨d,op,ty,ps,af,g⟩:=o;simp only at ho h;subst ho
 have dH:∀{x:Operand}{v:Value}{fr1:FR}{H1:AH},(∀s o,bO fr x≠J (.lp s o))->bg fr E.H x=J (v,fr1,H1)->bC c.nt K' d (.v v) fr1 H1->aP P c.nt ⟨d,.move x,ty,ps,af,g⟩ K' fr E.H:=by
  intro x v fr1 H1 h0 h1 h2;show(match bO fr x with|some (.lp s off)=>bC c.nt K' d (.lp s off) fr E.H|_=>dE P c.nt ⟨d,.move x,ty,ps,af,g⟩ K' fr E.H);split
  ·rename_i s o e;exact absurd e (h0 s o)
  ·exact Nw (P:=P) (op:=.move x) rfl h1 rfl h2
 cases x with
 |tmp t=>
  simp only[tu]at h;have hf:=r.f t
  have ht:t<c.nt\/pf t=jP:=by
   rcases dQ t c.nt with h1|h1
   ·exact .inl h1
   ·exact .inr (r.hi t h1)
  cases aF:pf t with
  |v x=>
   rw[aF]at h hf;simp only[tS]at h;left;obtain⟨hj,h⟩:=h;have uf:=oT hj;have ht:t<c.nt:=by rcases ht with h1|h1;exact h1;rw[aF]at h1;cases h1;exact absurd rfl uf
   obtain⟨v,h1,h2⟩:=gA hf uf;refine dH (λs o e=>by simp[bO,h1]at e) (v:=v) (fr1:=fr) (H1:=E.H) (by simp[bg,h1]) ?_;split at h
   ·exact jQ r hp (y:=.rf t []) rfl ht ⟨v,rfl,.inl ⟨v,h1,rfl⟩⟩ h hk
   ·rename_i ho;exact g8 r hp ((h2.free (by simpa using ho)).up) h hk
  |ls es rows=>
   rw[aF]at h;left;obtain⟨ht,h⟩:=h;obtain⟨v,fr1,E1,m1,m2,m3,_,_⟩:=r.Vi ht aF
   obtain⟨cells,c1,_⟩:∃cells,fr t=.ls rows.length es cells/\True:=by
    rw[aF]at hf;obtain⟨cells,c1,_⟩:=hf;exact⟨cells,c1,trivial⟩
   refine dH (λs o e=>by simp[bO,c1]at e) m1 ?_;exact jQ m3 hp (y:=.rf t []) rfl ht ⟨v,rfl,.inl ⟨v,m2,rfl⟩⟩ h hk
  |bl row=>
   rw[aF]at h hf;simp only[tS]at h;obtain⟨cells,c1,_⟩:=hf;have ht:t<c.nt:=by rcases ht with h1|h1;exact h1;rw[aF]at h1;cases h1
   left;unfold aP;simp only[bO,c1];exact jQ r hp (y:=.pt t [] 0 0) rfl ht (.inl ⟨cells,c1,rfl,rfl,rfl⟩) h hk
  |skip=>rw[aF]at h;exact h.elim
  |pt s p i j=>
   rw[aF]at h hf;simp only[tS]at h;have hs:=r.rt t s (by rw[aF];rfl);have ht:t<c.nt:=by rcases ht with h1|h1;exact h1;rw[aF]at h1;cases h1
   split at h
   ·rename_i hl;split at h
    ·rename_i y hy;obtain⟨rfl,rfl,rfl,row,en,rfl⟩:=zzv hy;obtain⟨cells,E2,k1,k2,k3,r2⟩:=r.a36 hs ht en aF
     have:=jQ r2 hp (y:=.rf s []) (fv:=.v (.pointer (J ⟨E.H.n,0,ae⟩))) rfl hs ⟨_,rfl,.inl ⟨_,by
      have:s≠t:=λe=>by rw[e,aF]at en;cases en
      simp[FR.put,this],rfl⟩⟩ h hk
     refine .inr ⟨zCO hl,?_⟩;cases d with
     |none=>simp[Bz]at hl
     |some d=>
      simp only[bC]at this;split at this
      ·rename_i hd;simp only[fC];refine⟨s,cells,⟨hd,ht,k1,k2⟩,?_⟩;rw[<-k3];exact this
      ·cases this
    ·cases h
   ·left;rcases hf with⟨cells,h1,h2,h3,h4⟩|⟨v0,id,o,h1,h2,h3⟩
    ·unfold aP;simp only[bO,h4,h1];exact jQ r hp (y:=.pt s p i j) rfl hs (.inl ⟨cells,h1,h2,h3,rfl⟩) h hk
    ·exact dH (λs o e=>by simp[bO,h3]at e) (by simp only[bg,h3]) (jQ r hp (y:=.pt s p i j) rfl hs (.inr ⟨v0,id,o,h1,h2,rfl⟩) h hk)
  |rf s p=>
   rw[aF]at h hf;simp only[tS]at h;left;obtain⟨v,h1,h2⟩:=hf;exact dH (λs o e=>by simp[bO,h1]at e) (by simp only[bg,h1]) (jQ r hp (y:=.rf s p) rfl (r.rt t s (by rw[aF];rfl)) ⟨v,rfl,h2⟩ h hk)
  |rv s p lo hi=>
   rw[aF]at h hf;simp only[tS]at h;left;have hs:=r.rt t s (by rw[aF];rfl);rcases hf with⟨h1,h2,h3⟩|⟨id,off,es,n,cc,h1,h2,h3,h4⟩
   ·exact dH (λs o e=>by simp[bO,h2]at e) (by simp only[bg,h2]) (jQ r hp (y:=.rv s p lo hi) rfl hs (.inl ⟨h1,rfl,h3⟩) h hk)
   ·exact dH (λs o e=>by simp[bO,h4]at e) (by simp only[bg,h4]) (jQ r hp (y:=.rv s p lo hi) rfl hs (.inr ⟨id,off,es,n,cc,h1,h2,h3,rfl⟩) h hk)
  |as b s p i j n=>rw[aF]at h;exact h.elim
  |cl s gg us=>
   rw[aF]at h hf;simp only[tS]at h;left;obtain⟨v,vs,h1,h2⟩:=hf;exact dH (λs o e=>by simp[bO,h1]at e) (by simp only[bg,h1]) (jQ r hp (y:=.cl s gg us) rfl (r.rt t s (by rw[aF];rfl)) ⟨v,vs,rfl,h2⟩ h hk)
  |ra s p i j n=>
   rw[aF]at h hf;simp only[tS]at h;left;obtain⟨vs,h1,h2,h3⟩:=hf;exact dH (λs o e=>by simp[bO,h1]at e) (by simp only[bg,h1]) (jQ r hp (y:=.ra s p i j n) rfl (r.rt t s (by rw[aF];rfl)) ⟨vs,rfl,h2,h3⟩ h hk)
 |const k=>
  simp only[tu]at h;left;split at h
  ·rename_i y aR jD;obtain⟨v,fr1,H1,E1,m1,e1,r1,f1⟩:=wb r (fl:=[]) (λk x v h=>by simp at h) jD;have:=g8 r1 hp (f1 0 y v rfl) h hk;rw[e1]at this;refine dH (λs o e=>?_) m1 this;simp only[bO,bP]at e;obtain⟨w,_,e⟩:=e;cases e
  ·cases h
 |func k=>
  simp only[tu]at h;left;split at h
  ·rename_i y aR jD;obtain⟨v,fr1,H1,E1,m1,e1,r1,f1⟩:=wb r (fl:=[]) (λk x v h=>by simp at h) jD;have:=g8 r1 hp (f1 0 y v rfl) h hk;rw[e1]at this;refine dH (λs o e=>?_) m1 this;simp only[bO,bP]at e;obtain⟨w,_,e⟩:=e;cases e
  ·cases h
 |global g=>simp[tu,eB]at h
end
end Go.Pm
