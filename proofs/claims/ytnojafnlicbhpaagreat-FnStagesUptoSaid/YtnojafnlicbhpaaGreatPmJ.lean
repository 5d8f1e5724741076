import Derived.Test.YtnojafnlicbhpaaGreatPmI
namespace Go.Pm
set_option linter.defProp false
open Go.Am
open Bool renaming false→aa,true→Z
open Option renaming none→ae,some→J
def yB:=@List.all_cons
section
variable {nt:Nat}{pin:List (Nat×Value)}{E0 E E':Env}{pf:ah}{fr ai:FR}{c:aY}{P:Program}
variable{K:ah->Prop}{K':FR->AH->Prop}{ez:Nat}{o:Oper}{t:TypeId}{v:Value}{x:Operand}{z:List Value}
def Ok{d:Nat}(h:gG c d .skip=Z):d<c.nt/\d∉c.io:=⟨(Oj h).1,(Oj h).2.1⟩
def aq.YJ(r:aq nt pin E0 E pf fr){d:Nat}{row:List PV}{cells:List Value}(hd:d<nt)(hp:∀v,(d,v)∉pin)(d6:en E')(iW:fY E E')(hm:∀s,s<nt->s≠d->dt E E' (J (s,[])) (J (s,[])))
(hl:row.length=cells.length)(hr:∀(j:Nat) (x:PV) (y:Value),row[j]? =J x->cells[j]? =J y->PR E' (J (d,[(0,j)])) x y):aq nt pin E0 E' (pf.put d (.bl row)) (fr.eT d cells):=by
 have hfd:(fr.eT d cells) d=.loc cells:=by simp[FR.eT]
 have Z7:∀t,t≠d->(∀o,fr t≠.lp d o)->(fr.eT d cells) t=fr t:=λt ht hn=>by
  simp only[FR.eT,az ht];cases nz:fr t with
  |lp s o=>
   simp only[kI];rw[az];rintro rfl;exact hn o nz
  |_=>rfl
 have uL:∀s,s≠d->(∃v,fr s=.v v)\/(∃cs,fr s=.loc cs)->(fr.eT d cells) s=fr s:=λs hs h=>Z7 s hs λo e=>by
  rcases h with⟨v,h⟩|⟨v,h⟩<;>rw[e]at h<;>cases h
 have zZ:∀{s:Nat}{p:aA}{v:Value},Wk E fr s p v->(∃v,fr s=.v v)\/(∃cs,fr s=.loc cs):=λh=>by
  rcases h with⟨r,h1,_⟩|⟨cs,_,_,_,h1,_⟩
  ·exact .inl ⟨r,h1⟩
  ·exact .inr ⟨cs,h1⟩
 refine⟨r.since.trans iW,d6.wf,d6.fresh,λt=>?_,λt ht=>?_,λt s h=>?_,λk v h=>?_⟩
 ·by_cases e:t=d
  ·subst e;simp only[ah.put,eP];exact⟨cells,hfd,hl,hr⟩
  ·simp only[ah.put,az e];by_cases ht:t<nt
   ·unfold fA;split
    ·exact True.intro
    ·rename_i hk;have hf:=r.f t;by_cases hj:pf t=jP
     ·rw[hj];exact True.intro
     ·have D4:∀o,fr t≠.lp d o:=by
       intro o e2;revert hf;cases aE:pf t with
       |v x=>
        intro hf;obtain⟨v,h1,_⟩:=gi hf (by rintro rfl;exact hj aE);rw[e2]at h1;cases h1
       |skip=>intro hf;have hf:fr t=.skip:=hf;rw[e2]at hf;cases hf
       |ls es rows=>rintro⟨cs,h1,_⟩;rw[e2]at h1;cases h1
       |bl row=>rintro⟨cs,h1,_⟩;rw[e2]at h1;cases h1
       |pt s p i j=>
        rintro(⟨cs,h1,h2,h3,h4⟩|⟨v0,id,o',h1,h2,h3⟩)
        ·rw[e2]at h4;cases h4;exact hk (by rw[aE];rfl)
        ·rw[e2]at h3;cases h3
       |rf s p=>rintro⟨v,h1,_⟩;rw[e2]at h1;cases h1
       |rv s p lo hi=>
        rintro(⟨_,h2,_⟩|⟨id,off,es,n,cc,_,_,_,h4⟩)
        ·rw[e2]at h2;cases h2
        ·rw[e2]at h4;cases h4
       |ra s p i j n=>rintro⟨vs,h1,_⟩;rw[e2]at h1;cases h1
       |cl s g us=>rintro⟨v,vs,h1,_⟩;rw[e2]at h1;cases h1
       |as b s p i j n=>
        cases b with
        |false=>rintro⟨vs,h1,_⟩;rw[e2]at h1;cases h1
        |true=>rintro⟨id,off,k,v,h1,_⟩;rw[e2]at h1;cases h1
      refine hf.stay iW.g (hm t ht e) (Z7 t e D4) λs hs=>?_
      have gf:s≠d:=λe=>hk (by rw[hs,e])
      refine⟨?_,KL.Kn (hm s (r.rt t s hs) gf)⟩;revert hf hs;cases aE:pf t with
      |pt s' p i j=>
       intro hf hs;cases hs;rcases hf with⟨cs,h1,_⟩|⟨v0,id,o',h1,_⟩
       ·exact uL s gf (.inr ⟨cs,h1⟩)
       ·exact uL s gf (zZ h1)
      |rf s' p=>
       rintro⟨v,_,h1⟩ hs;cases hs;exact uL s gf (zZ h1)
      |rv s' p lo hi=>
       intro hf hs;cases hs;rcases hf with⟨h1,_⟩|⟨id,off,es,n,cc,h1,_⟩
       ·exact uL s gf (zZ h1)
       ·exact uL s gf (zZ h1)
      |ra s' p i j n=>
       rintro⟨vs,h1,h2,h3⟩ hs;cases hs;by_cases hn:vs.toList=[]
       ·rw[hn]at h2;exact absurd h2.1.symm h2.2
       ·obtain⟨y,hy⟩:∃y,vs.toList[0]? =J y:=by
         cases Gh:vs.toList with
         |nil=>exact absurd Gh hn
         |cons y l=>exact⟨y,rfl⟩
        exact uL s gf (zZ (h3 0 y hy))
      |as b s' p i j n=>
       intro hf hs;cases hs;cases b with
       |false=>
        obtain⟨vs,h1,h2,h3⟩:=hf;exact uL s gf (zZ (h3 0 _ (cE (by omega))))
       |true=>
        obtain⟨id,off,k,v,_,_,_,_,hw⟩:=hf;exact uL s gf (zZ hw)
      |cl s' g us=>rintro⟨v,vs,h1,h2,h3⟩ hs;cases hs;exact uL s gf (zZ h2)
      |_=>intro _ hs;simp[bC]at hs
   ·rw[r.hi t (by omega)];have:fA d jP=jP:=by simp[fA,jP,bC]
    rw[this];exact True.intro
 ·have:t≠d:=by omega
  simp only[ah.put,az this,r.hi t ht];simp[fA,jP,bC]
 ·by_cases e:t=d
  ·subst e;simp[ah.put,bC]at h
  ·simp only[ah.put,az e]at h;unfold fA at h;split at h
   ·simp[jP,bC]at h
   ·exact r.rt t s h
 ·have hk:k≠d:=λe=>hp v (by rw[<-e];exact h)
  have:=r.pin k v h;rw[uL k hk (.inl ⟨v,this⟩)];exact this
def UP:∀{z:List Value}{es:List Nat},(zc es z).length=z.length/\(z.all cq=Z->∀(j:Nat) (x:PV) (y:Value),(zc es z)[j]? =J x->z[j]? =J y->∀l,PR E l x y):=by
 intro z;induction z with
 |nil=>intro es;cases es<;>exact⟨rfl,λ_ j x y h=>by simp[zc]at h⟩
 |cons v z ih=>
  intro es
  have step:∀(e:Nat) (es:List Nat),(na e v::zc es z).length=(v::z).length/\((v::z).all cq=Z->∀(j:Nat) (x:PV) (y:Value),(na e v::zc es z)[j]? =J x->(v::z)[j]? =J y->∀l,PR E l x y):=by
   intro e es;obtain⟨h1,h2⟩:=ih (es:=es);refine⟨by simp[h1],λhz j x y a b l=>?_⟩;simp only[yB,bI]at hz;cases j with
   |zero=>simp at a b;subst a;subst b;exact JK hz.1 l
   |succ j=>exact h2 hz.2 j x y (by simpa using a) (by simpa using b) l
  cases es with
  |nil=>exact step 0 []
  |cons e es=>exact step e es
def JR :(zz P t z).length=z.length:=(UP (E:=⟨⟨0,λ_=>ae⟩,λ_=>False,λ_=>ae⟩)).1
def HT(hz:z.all cq=Z)(l:Nat->Lo):∀(j:Nat) (x:PV) (y:Value),(zz P t z)[j]? =J x->z[j]? =J y->PR E (l j) x y:=λj x y h1 h2=>UP.2 hz j x y h1 h2 _
def XX{x:PV}(h:PR E ae x v):PR E ae (dz x) v:=by
 unfold dz;split
 ·cases h with
  |sl0=>exact .sl0 aa _
  |jM a1 a2 a3 a4 a5 a6 a7 a8=>exact .jM a1 a2 a3 a4 a5 a6 a7 a8
 ·exact h
def YS :((zz P t z).map dz).length=z.length:=by rw[Gu,JR]
def zpP(hz:z.all cq=Z)(l:Nat->Lo):∀(j:Nat) (x:PV) (y:Value),((zz P t z).map dz)[j]? =J x->z[j]? =J y->PR E (l j) x y:=λj x y h1 h2=>by
 obtain⟨x0,h3,rfl⟩:=my h1;exact(XX (HT hz (λ_=>ae) j x0 y h3 h2)).up
def zFy{x:PV}(h:PR E ae x v)(hv:cq v=Z):PR E ae (ud x) v:=by
 unfold ud;split
 ·cases h with
  |sl0=>exact .sl0 Z _
  |jM a1 a2 a3 a4 a5 a6 a7 a8=>simp[cq]at hv
 ·exact h
def Ji{b:Bool}:(uz b ((zz P t z).map dz)).length=z.length:=by unfold uz;split<;>simp[JR]
def PA{b:Bool}(hz:z.all cq=Z)(l:Nat->Lo):∀(j:Nat) (x:PV) (y:Value),(uz b ((zz P t z).map dz))[j]? =J x->z[j]? =J y->PR E (l j) x y:=λj x y h1 h2=>by
 unfold uz at h1;split at h1
 ·obtain⟨x0,h3,rfl⟩:=my h1;obtain⟨x1,h4,rfl⟩:=my h3;exact(zFy (XX (HT hz (λ_=>ae) j x1 y h4 h2)) (bm.1 hz y (eo h2))).up
 ·exact zpP hz l j x y h1 h2
def ztT(r:aq c.nt pin E0 E pf fr)(hp:ew c pin){e:TypeId}(ho:o.op=.alloc e)(h:Fo P c e o.dst K pf)
(hk:∀pf' ai E',K pf'->aq c.nt pin E0 E' pf' ai->K' ai E'.H):aM P c.nt o K' fr E.H\/(c.hp≠[]/\fq P c.nt o K' fr E.H):=by
 unfold Fo at h;split at h
 ·rename_i z0 d CD hd;obtain⟨h2,h3⟩:=h;obtain⟨g,sz,b,z,ht,h1,rfl⟩:=zA9 CD;obtain⟨c1,c2⟩:=Ok h2;have jN:∀w,(d,w)∉pin:=λw hw=>c2 (hp.h d w hw)
  split at h3
  ·rename_i oh;refine .inr ⟨λe=>by rw[e]at oh;simp at oh,?_⟩;have ok:=r.ok;simp only[fq,ho,hd,ht];refine⟨c1,h1,?_⟩
   have:=hk _ (fr.put d (.v (.pointer (J ⟨E.H.n,0,ae⟩)))) (E.push ⟨Z,z⟩ (d,[]) λ_=>ae) h3
    (r.set c1 jN ok.mP (λs _ _=>ok.m9 λ_=>rfl) ok.uX ok.push.wf ok.push.fresh
      (ou (by simp[FR.put]) (.bx zhy ok.yx xR rfl (by show(zz P e z).length<=z.length;rw[JR];exact cy _) (HT h1 λj=>J (cL (d,[]) 0 j)))) (λs hs=>by cases hs))
   exact this
  ·left;unfold aM;rw[ho];simp only[ht,hd];rw[aB ⟨c1,h1⟩];exact hk _ _ E h3 (r.YJ c1 jN r.ok (fY.refl E) (λs _ _=>.refl _) (JR) (HT h1 λj=>J (d,[(0,j)])))
 ·cases h
def V6{H H':AH}(h:bh fr H x=J (v,ai,H'))(hn:∀t,x=.tmp t->∀a b cs,fr t≠.ls a b cs):be fr x=J v/\ai=fr/\H'=H:=by
 cases x with
 |tmp t=>
  simp only[bh]at h;split at h
  ·rename_i y hy;simp only[aT,b9]at h;obtain⟨rfl,rfl,rfl⟩:=h;exact⟨by simp[be,hy],rfl,rfl⟩
  ·rename_i a b cs hy;exact absurd hy (hn t rfl a b cs)
  ·cases h
 |const k=>simp only[bh,bN,b9]at h;obtain⟨y,h1,rfl,rfl,rfl⟩:=h;exact⟨h1,rfl,rfl⟩
 |func k=>simp only[bh,bN,b9]at h;obtain⟨y,h1,rfl,rfl,rfl⟩:=h;exact⟨h1,rfl,rfl⟩
 |global k=>simp only[bh,bN,b9]at h;obtain⟨y,h1,rfl,rfl,rfl⟩:=h;exact⟨h1,rfl,rfl⟩
def zrl(r:aq nt pin E0 E pf fr){y:PV}{aQ:ah}(h:ep ez pf x=J (y,aQ))(hl:uY pf x=aa):∀t,x=.tmp t->∀a b cs,fr t≠.ls a b cs:=by
 rintro t rfl a b cs e;simp only[uY]at hl;simp only[ep]at h;have hf:=r.f t;cases aE:pf t with
 |v z=>
  rw[aE]at hf h;obtain⟨v,h1,_⟩:=gi hf (by rintro rfl;simp[lh,Ag,dr]at h);rw[e]at h1;cases h1
 |ls es rows=>rw[aE]at hl;simp[qX]at hl
 |rf s p=>rw[aE]at hf;obtain⟨v,h1,_⟩:=hf;rw[e]at h1;cases h1
 |rv s p lo hi=>
  rw[aE]at hf;rcases hf with⟨_,h2,_⟩|⟨id,off,es,n,cc,_,_,_,h4⟩
  ·rw[e]at h2;cases h2
  ·rw[e]at h4;cases h4
 |ra s p i j n=>rw[aE]at hf;obtain⟨vs,h1,_⟩:=hf;rw[e]at h1;cases h1
 |_=>rw[aE]at h;simp[lh]at h
def zwr(r:aq c.nt pin E0 E pf fr)(hp:ew c pin){e:TypeId}(ho:o.op=.box e x)(h:DQ P c e x o.dst K pf)
(hk:∀pf' ai E',K pf'->aq c.nt pin E0 E' pf' ai->K' ai E'.H):aM P c.nt o K' fr E.H\/(c.hp≠[]/\fq P c.nt o K' fr E.H):=by
 unfold DQ at h;split at h
 ·rename_i tz y aQ d BR jl hd;obtain⟨dE,ht⟩:=Dk BR;obtain⟨h0,h1,h2,h3⟩:=h;obtain⟨c1,c2⟩:=Ok h2;have jN:∀w,(d,w)∉pin:=λw hw=>c2 (hp.h d w hw)
  obtain⟨v,fr1,H1,E1,m1,e1,r1,f1⟩:=uD r (fl:=[]) (λk x v h=>by simp at h) jl;obtain⟨m2,rfl,rfl⟩:=V6 m1 (zrl r jl h0);have hfl:PR E1 (J (c.nt,[(0,0)])) y v:=f1 0 y v rfl;have fm:∀s:Nat,s<c.nt->∀q:aA,iB (c.nt,[(0,0)]) (d,[]) 0 0 y (s,q)=ae:=λs hs q=>Ya (by show s≠c.nt;omega)
  split at h3
  ·rename_i oh;refine .inr ⟨λe=>by rw[e]at oh;simp at oh,?_⟩;have ok:=r1.ok;obtain⟨k1,k2,k3⟩:=Cs (E':=E1.push ⟨Z,v.cells.toList⟩ (d,[]) (iB (c.nt,[(0,0)]) (d,[]) 0 0 y)) (b:=(d,[])) (i:=0) (j:=0) hfl h1 ok.mP λa b h=>ok.Qx h
   simp only[fq,ho,hd,ht,m2];refine⟨c1,k3,?_⟩
   have r2:=r1.set c1 jN ok.mP (λs hs _=>ok.m9 λq=>fm s hs _) ok.uX ok.push.wf ok.push.fresh
    (ou (by simp[FR.put]) (.bx (k:=⟨Z,v.cells.toList⟩) zhy ok.yx xR rfl (by show(cO y).length<=v.cells.toList.length;rw[k1];exact cy _) (λj x y a b=>by simpa[cL]using k2 j x y a b))) (λs hs=>by cases hs) (fv:=.v (.pointer (J ⟨E1.H.n,0,ae⟩)))
   split at h3
   ·have hf:=r2.f d;simp only[ah.put,aB]at hf;obtain⟨w,hw1,hw2⟩:=hf;have hwe:w=.pointer (J ⟨E1.H.n,0,ae⟩):=by simpa[FR.put]using hw1.symm
    subst hwe;have nb:∀v,(fr1.put d v).put d v=fr1.put d v:=λv=>by funext z;simp only[FR.put];split<;>rfl
    have kP:=hw2.freeze (E':=(E1.push ⟨Z,v.cells.toList⟩ (d,[]) (iB (c.nt,[(0,0)]) (d,[]) 0 0 y)).fz (d,[])) pU Od;have r3:=r2.set c1 jN (pU (a:=(d,[]))) (λs hs hne=>Az (by show s≠d;exact hne)) Fi r2.ok.fz.wf r2.ok.fz.fresh (ou (v:=.pointer (J ⟨E1.H.n,0,ae⟩)) (by simp[FR.put]) kP.up) (λs hs=>by cases hs) (fv:=.v (.pointer (J ⟨E1.H.n,0,ae⟩)));rw[nb]at r3;have:=hk _ (fr1.put d (.v (.pointer (J ⟨E1.H.n,0,ae⟩)))) _ h3 r3;rw[show((E1.push ⟨Z,v.cells.toList⟩ (d,[]) (iB (c.nt,[(0,0)]) (d,[]) 0 0 y)).fz (d,[])).H=E1.H.push ⟨Z,v.cells.toList⟩from rfl,e1]at this;exact this
   have:=hk _ (fr1.put d (.v (.pointer (J ⟨E1.H.n,0,ae⟩)))) _ h3 r2;rw[show(E1.push ⟨Z,v.cells.toList⟩ (d,[]) (iB (c.nt,[(0,0)]) (d,[]) 0 0 y)).H=E1.H.push ⟨Z,v.cells.toList⟩from rfl,e1]at this;exact this
  ·left;obtain⟨k1,k2,k3⟩:=Cs (E':=E1.rl (iB (c.nt,[(0,0)]) (d,[]) 0 0 y)) (b:=(d,[])) (i:=0) (j:=0) hfl h1 dO λa b h=>lG h
   unfold aM;rw[ho];simp only[ht,hd,m2];rw[aB ⟨c1,k3⟩];have:=hk _ _ (E1.rl (iB (c.nt,[(0,0)]) (d,[]) 0 0 y)) h3 (r1.YJ c1 jN r1.ok.rl nF (λs hs _=>iZ λq=>fm s hs _) k1 (λj x y a b=>by simpa using k2 j x y a b));rw[show(E1.rl (iB (c.nt,[(0,0)]) (d,[]) 0 0 y)).H=E1.H from rfl,e1]at this;exact this
 ·cases h
def aq.Q8(r:aq nt pin E0 E pf fr){t es:Nat}{rows:List (List PV)}(ht:t<nt)(aE:pf t=.ls es rows):
 ∃v ai E',bh fr E.H (.tmp t)=J (v,ai,E'.H)/\ai t=.v v/\aq nt pin E0 E' ((pf.bU t (.v (.sl Z es rows))).kill t 0) ai/\(∀fl,eb nt E fl->eb nt E' fl)/\(∀s,s≠t->ai s=fr s):=by
 have hf:=r.f t;rw[aE]at hf;obtain⟨cells,c1,c2,c3,c4,c5⟩:=hf;have ok:=r.ok;refine⟨.slice (J ⟨E.H.n,0,J es⟩) rows.length rows.length,fr.put t (.v (.slice (J ⟨E.H.n,0,J es⟩) rows.length rows.length)),E.push ⟨Z,cells⟩ (t,[]) λ_=>ae,by simp[bh,c1];rfl,by simp[FR.put],?_,λfl hfl=>hfl.stay ok.mP (ok.m9 λ_=>rfl),λs hs=>by simp[FR.put,hs]⟩;refine r.qt ht ok.mP (λs hs dJ=>ok.m9 λq=>rfl) (λL hL=>absurd hL (A0 _)) (λs hs=>by simp[FR.put,hs]) (λh=>absurd h (yz _)) ok.uX ok.push.wf ok.push.fresh (λ_ _ h1 h2=>by rw[c1]at h1;cases h1) ?_ rfl λk v hk=>?_
 ·refine ou (by simp[FR.put]) (.fu zhy ok.yx xR rfl rfl (cy _) c3.1 c4 ⟨⟨c3.2,rfl⟩,by rw[gk,c2];exact cy _⟩ λi rw j x y g1 g2 g3=>?_);rw[gk]at g3;exact(c5 i rw j x y g1 g2 g3).move ok.mP (ok.m9 λq=>rfl)
 ·have:=r.pin k v hk;have hne:k≠t:=λe=>by rw[e,c1]at this;cases this
  simpa[FR.put,hne]using this
def K7{op:Op}{d:Option Tmp}{ty:TypeId}{ps:String}{af:Array Edge}{g:Option (Nat×Bool)}{H H':AH}{w:Value}(h1:gp op=J [x])(h2:bh fr H x=J (v,ai,H'))(h3:eD P op [v]=J w)
(h:bB nt K' d (.v w) ai H'):dA P nt ⟨d,op,ty,ps,af,g⟩ K' fr H:=by
 simp only[dA,h1,ck,h2,h3];exact h
def aq.AbN(r:aq nt pin E0 E pf fr){q s:Nat}{row:List PV}(hs:s<nt)(hq:q<nt)(fy:pf s=.bl row)(pu:pf q=.pt s [] 0 0):
 ∃cells E',fr q=.lp s 0/\fr s=.loc cells/\E'.H=E.H.push ⟨Z,cells⟩/\aq nt pin E0 E' (((pf.bU s (.v (.bx row))).kill s 0).put q (.rf s [])) ((fr.put s (.v (.pointer (J ⟨E.H.n,0,ae⟩)))).put q (.v (.pointer (J ⟨E.H.n,0,ae⟩)))):=by
 have hf:=r.f s;rw[fy]at hf;obtain⟨cells,c1,c2,c5⟩:=hf;have Jh:=r.f q;rw[pu]at Jh
 have D4:fr q=.lp s 0:=by
  rcases Jh with⟨_,_,_,_,h4⟩|⟨v0,id,o,h1,h2,_⟩
  ·exact h4
  ·rcases h1 with⟨x,b1,b2⟩|⟨c0,j',p',y',b1,b2,_⟩
   ·rw[c1]at b1;cases b1
   ·cases b2
 have hne:∀s' w,fr s'=.v w->s'≠s:=λs' w h e=>by rw[e,c1]at h;cases h
 have ok:=r.ok;have hqs:q≠s:=λe=>by rw[e,fy]at pu;cases pu
 have r1:aq nt pin E0 (E.push ⟨Z,cells⟩ (s,[]) λ_=>ae) ((pf.bU s (.v (.bx row))).kill s 0) (fr.put s (.v (.pointer (J ⟨E.H.n,0,ae⟩)))):=by
  refine r.qt hs ok.mP (λs hs dJ=>ok.m9 λq=>rfl) (λL hL=>absurd hL (A0 _)) (λs hs=>by simp[FR.put,hs]) (λh=>absurd h (yz _)) ok.uX ok.push.wf ok.push.fresh (λ_ _ _ h2=>by simp[FR.put]at h2) ?_ rfl λk v hk=>?_
  ·exact ou (by simp[FR.put]) (.bx zhy ok.yx xR rfl (Aao c2) λj x y g1 g2=>(c5 j x y g1 g2).move ok.mP (ok.m9 λq=>rfl))
  ·have:=r.pin k v hk;have:=hne k v this;simp[FR.put,this,r.pin k v hk]
 refine⟨cells,E.push ⟨Z,cells⟩ (s,[]) λ_=>ae,D4,c1,rfl,?_⟩;refine r1.set (d:=q) hq (λv hv=>by have:=r.pin q v hv;rw[D4]at this;cases this) (GK.refl _) (λ_ _ _=>dt.refl _) ⟨cy _,GK.refl _,λid _ h=>⟨h,rfl,λh=>h⟩⟩ r1.wf r1.fresh ?_ (λs' mB=>by cases mB;exact hs);exact⟨.pointer (J ⟨E.H.n,0,ae⟩),by simp[FR.put],.inl ⟨.pointer (J ⟨E.H.n,0,ae⟩),by simp[FR.put,Ne.symm hqs],rfl⟩⟩
def zzd{q s i j:Nat}{p:aA}{y:PF}{x:PF×ah}(h:B2 pf q s p i j y=J x):p=[]/\i=0/\j=0/\∃row,y=.bl row/\x=(.rf s [],((pf.bU s (.v (.bx row))).kill s 0).put q (.rf s [])):=by
 unfold B2 at h;split at h
 ·rename_i row;cases h;exact⟨rfl,rfl,rfl,row,rfl,rfl⟩
 ·cases h
def zCK{c:aY}{d:Option Tmp}(h:AW c d=Z):c.hp≠[]:=by
 unfold AW at h;split at h
 ·rw[bI]at h;intro e;rw[e]at h;exact absurd h.1 (by decide)
 ·cases h
def zrD(r:aq c.nt pin E0 E pf fr)(hp:ew c pin)(ho:o.op=.assign x)(h:FZ ez c x o.dst K pf)
(hk:∀pf' ai E',K pf'->aq c.nt pin E0 E' pf' ai->K' ai E'.H):aM P c.nt o K' fr E.H:=by
 have dE:∀{d:Option Tmp}{ty:TypeId}{ps:String}{af:Array Edge}{g:Option (Nat×Bool)}{x:Operand}{v:Value}{fr1:FR}{H1:AH},(∀s o,bM fr x≠J (.lp s o))->bh fr E.H x=J (v,fr1,H1)->bB c.nt K' d (.v v) fr1 H1->aM P c.nt ⟨d,.assign x,ty,ps,af,g⟩ K' fr E.H:=by
  intro d ty ps af g x v fr1 H1 h0 h1 h2;show(match bM fr x with|some (.lp s off)=>bB c.nt K' d (.lp s off) fr E.H|_=>dA P c.nt ⟨d,.assign x,ty,ps,af,g⟩ K' fr E.H);split
  ·rename_i s o e;exact absurd e (h0 s o)
  ·exact K7 (P:=P) (op:=.assign x) rfl h1 rfl h2
 unfold FZ at h;split at h
 ·rename_i y hy;obtain⟨d,op,ty,ps,af,g⟩:=o;simp only at ho hy h;subst ho;unfold Ba at hy;split at hy
  ·rename_i d t;split at hy
   ·have hf:=r.f t;unfold Fl at hy;split at hy
    ·rename_i row aE;cases hy;rw[aE]at hf;obtain⟨cells,c1,_⟩:=hf
     have ht:t<c.nt:=by
      rcases dK t c.nt with h1|h1
      ·exact h1
      ·have:=r.hi t h1;rw[aE]at this;cases this
     unfold aM;simp only[bM,c1];exact jz r hp (y:=.pt t [] 0 0) rfl ht (.inl ⟨cells,c1,rfl,rfl,rfl⟩) h hk
    ·rename_i s p aE;cases hy;rw[aE]at hf;obtain⟨v,h2,h3⟩:=hf;exact dE (x:=.tmp t) (λs o e=>by simp[bM,h2]at e) (by simp only[bh,h2]) (jz r hp (y:=.rf s p) rfl (r.rt t s (by rw[aE];rfl)) ⟨v,rfl,h3⟩ h hk)
    ·rename_i s gg us aE;cases hy;rw[aE]at hf;obtain⟨v,vs,h2,h3⟩:=hf;exact dE (x:=.tmp t) (λs o e=>by simp[bM,h2]at e) (by simp only[bh,h2]) (jz r hp (y:=.cl s gg us) rfl (r.rt t s (by rw[aE];rfl)) ⟨v,vs,rfl,h3⟩ h hk)
    ·cases hy
   ·cases hy
  ·cases hy
 split at h
 ·rename_i y aQ jl;obtain⟨v,fr1,H1,E1,m1,e1,r1,f1⟩:=uD r (fl:=[]) (λk x v h=>by simp at h) jl;have:=gO r1 hp (f1 0 y v rfl) h hk;rw[e1]at this;obtain⟨d,op,ty,ps,af,g⟩:=o;simp only at ho;subst ho;refine dE (λs o e=>?_) m1 this;cases x with
  |tmp t=>
   simp only[bh]at m1;split at m1
   ·rename_i hy;simp[bM,hy]at e
   ·rename_i hy;simp[bM,hy]at e
   ·cases m1
  |const k=>simp only[bM,bN]at e;obtain⟨w,_,e⟩:=e;cases e
  |func k=>simp only[bM,bN]at e;obtain⟨w,_,e⟩:=e;cases e
  |global k=>simp[bh,be]at m1
 ·cases h
def zuk(r:aq c.nt pin E0 E pf fr)(hp:ew c pin)(ho:o.op=.move x)(h:tn ez c x o.dst K pf)
(hk:∀pf' ai E',K pf'->aq c.nt pin E0 E' pf' ai->K' ai E'.H):aM P c.nt o K' fr E.H\/(c.hp≠[]/\fq P c.nt o K' fr E.H):=by
 obtain⟨d,op,ty,ps,af,g⟩:=o;simp only at ho h;subst ho
 have dE:∀{x:Operand}{v:Value}{fr1:FR}{H1:AH},(∀s o,bM fr x≠J (.lp s o))->bh fr E.H x=J (v,fr1,H1)->bB c.nt K' d (.v v) fr1 H1->aM P c.nt ⟨d,.move x,ty,ps,af,g⟩ K' fr E.H:=by
  intro x v fr1 H1 h0 h1 h2;show(match bM fr x with|some (.lp s off)=>bB c.nt K' d (.lp s off) fr E.H|_=>dA P c.nt ⟨d,.move x,ty,ps,af,g⟩ K' fr E.H);split
  ·rename_i s o e;exact absurd e (h0 s o)
  ·exact K7 (P:=P) (op:=.move x) rfl h1 rfl h2
 cases x with
 |tmp t=>
  simp only[tn]at h;have hf:=r.f t
  have ht:t<c.nt\/pf t=jP:=by
   rcases dK t c.nt with h1|h1
   ·exact .inl h1
   ·exact .inr (r.hi t h1)
  cases aE:pf t with
  |v x=>
   rw[aE]at h hf;simp only[sW]at h;left;obtain⟨hj,h⟩:=h;have sM:=oN hj;have ht:t<c.nt:=by rcases ht with h1|h1;exact h1;rw[aE]at h1;cases h1;exact absurd rfl sM
   obtain⟨v,h1,h2⟩:=gi hf sM;refine dE (λs o e=>by simp[bM,h1]at e) (v:=v) (fr1:=fr) (H1:=E.H) (by simp[bh,h1]) ?_;split at h
   ·exact jz r hp (y:=.rf t []) rfl ht ⟨v,rfl,.inl ⟨v,h1,rfl⟩⟩ h hk
   ·rename_i ho;exact gO r hp ((h2.free (by simpa using ho)).up) h hk
  |ls es rows=>
   rw[aE]at h;left;obtain⟨ht,h⟩:=h;obtain⟨v,fr1,E1,m1,m2,m3,_,_⟩:=r.Q8 ht aE
   obtain⟨cells,c1,_⟩:∃cells,fr t=.ls rows.length es cells/\True:=by
    rw[aE]at hf;obtain⟨cells,c1,_⟩:=hf;exact⟨cells,c1,trivial⟩
   refine dE (λs o e=>by simp[bM,c1]at e) m1 ?_;exact jz m3 hp (y:=.rf t []) rfl ht ⟨v,rfl,.inl ⟨v,m2,rfl⟩⟩ h hk
  |bl row=>
   rw[aE]at h hf;simp only[sW]at h;obtain⟨cells,c1,_⟩:=hf;have ht:t<c.nt:=by rcases ht with h1|h1;exact h1;rw[aE]at h1;cases h1
   left;unfold aM;simp only[bM,c1];exact jz r hp (y:=.pt t [] 0 0) rfl ht (.inl ⟨cells,c1,rfl,rfl,rfl⟩) h hk
  |skip=>rw[aE]at h;exact h.elim
  |pt s p i j=>
   rw[aE]at h hf;simp only[sW]at h;have hs:=r.rt t s (by rw[aE];rfl);have ht:t<c.nt:=by rcases ht with h1|h1;exact h1;rw[aE]at h1;cases h1
   split at h
   ·rename_i hl;split at h
    ·rename_i y hy;obtain⟨rfl,rfl,rfl,row,d8,rfl⟩:=zzd hy;obtain⟨cells,E2,k1,k2,k3,r2⟩:=r.AbN hs ht d8 aE
     have:=jz r2 hp (y:=.rf s []) (fv:=.v (.pointer (J ⟨E.H.n,0,ae⟩))) rfl hs ⟨_,rfl,.inl ⟨_,by
      have:s≠t:=λe=>by rw[e,aE]at d8;cases d8
      simp[FR.put,this],rfl⟩⟩ h hk
     refine .inr ⟨zCK hl,?_⟩;cases d with
     |none=>simp[AW]at hl
     |some d=>
      simp only[bB]at this;split at this
      ·rename_i hd;simp only[fq];refine⟨s,cells,⟨hd,ht,k1,k2⟩,?_⟩;rw[<-k3];exact this
      ·cases this
    ·cases h
   ·left;rcases hf with⟨cells,h1,h2,h3,h4⟩|⟨v0,id,o,h1,h2,h3⟩
    ·unfold aM;simp only[bM,h4,h1];exact jz r hp (y:=.pt s p i j) rfl hs (.inl ⟨cells,h1,h2,h3,rfl⟩) h hk
    ·exact dE (λs o e=>by simp[bM,h3]at e) (by simp only[bh,h3]) (jz r hp (y:=.pt s p i j) rfl hs (.inr ⟨v0,id,o,h1,h2,rfl⟩) h hk)
  |rf s p=>
   rw[aE]at h hf;simp only[sW]at h;left;obtain⟨v,h1,h2⟩:=hf;exact dE (λs o e=>by simp[bM,h1]at e) (by simp only[bh,h1]) (jz r hp (y:=.rf s p) rfl (r.rt t s (by rw[aE];rfl)) ⟨v,rfl,h2⟩ h hk)
  |rv s p lo hi=>
   rw[aE]at h hf;simp only[sW]at h;left;have hs:=r.rt t s (by rw[aE];rfl);rcases hf with⟨h1,h2,h3⟩|⟨id,off,es,n,cc,h1,h2,h3,h4⟩
   ·exact dE (λs o e=>by simp[bM,h2]at e) (by simp only[bh,h2]) (jz r hp (y:=.rv s p lo hi) rfl hs (.inl ⟨h1,rfl,h3⟩) h hk)
   ·exact dE (λs o e=>by simp[bM,h4]at e) (by simp only[bh,h4]) (jz r hp (y:=.rv s p lo hi) rfl hs (.inr ⟨id,off,es,n,cc,h1,h2,h3,rfl⟩) h hk)
  |as b s p i j n=>rw[aE]at h;exact h.elim
  |cl s gg us=>
   rw[aE]at h hf;simp only[sW]at h;left;obtain⟨v,vs,h1,h2⟩:=hf;exact dE (λs o e=>by simp[bM,h1]at e) (by simp only[bh,h1]) (jz r hp (y:=.cl s gg us) rfl (r.rt t s (by rw[aE];rfl)) ⟨v,vs,rfl,h2⟩ h hk)
  |ra s p i j n=>
   rw[aE]at h hf;simp only[sW]at h;left;obtain⟨vs,h1,h2,h3⟩:=hf;exact dE (λs o e=>by simp[bM,h1]at e) (by simp only[bh,h1]) (jz r hp (y:=.ra s p i j n) rfl (r.rt t s (by rw[aE];rfl)) ⟨vs,rfl,h2,h3⟩ h hk)
 |const k=>
  simp only[tn]at h;left;split at h
  ·rename_i y aQ jl;obtain⟨v,fr1,H1,E1,m1,e1,r1,f1⟩:=uD r (fl:=[]) (λk x v h=>by simp at h) jl;have:=gO r1 hp (f1 0 y v rfl) h hk;rw[e1]at this;refine dE (λs o e=>?_) m1 this;simp only[bM,bN]at e;obtain⟨w,_,e⟩:=e;cases e
  ·cases h
 |func k=>
  simp only[tn]at h;left;split at h
  ·rename_i y aQ jl;obtain⟨v,fr1,H1,E1,m1,e1,r1,f1⟩:=uD r (fl:=[]) (λk x v h=>by simp at h) jl;have:=gO r1 hp (f1 0 y v rfl) h hk;rw[e1]at this;refine dE (λs o e=>?_) m1 this;simp only[bM,bN]at e;obtain⟨w,_,e⟩:=e;cases e
  ·cases h
 |global g=>simp[tn,ep]at h
end
end Go.Pm
