import Derived.Test.YtnojafnlicbhpaaGreatPmI
open Bool renaming false→aa,true→Z
open Option renaming none→ae,some→J
set_option linter.defProp false
namespace Go.Pm
open Go.Am
def yC:=@List.all_cons
section
variable {nt:Nat}{pin:List (Nat×Value)}{E0 E E':Env}{pf:ah}{fr ai:FR}{c:aY}{P:Program}
variable{K:ah->Prop}{K':FR->AH->Prop}{ez:Nat}{o:Oper}{t:TypeId}{v:Value}{x:Operand}{z:List Value}
def M4{d:Nat}(h:gO c d .skip=Z):d<c.nt/\d∉c.io:=⟨(N5 h).1,(N5 h).2.1⟩
def aq.a0c(r:aq nt pin E0 E pf fr){d:Nat}{row:List PV}{cells:List Value}(hd:d<nt)(hp:∀v,(d,v)∉pin)(d6:d7 E')(iP:fU E E')(hm:∀s,s<nt->s≠d->du E E' (J (s,[])) (J (s,[])))
(hl:row.length=cells.length)(hr:∀(j:Nat) (x:PV) (y:Value),row[j]? =J x->cells[j]? =J y->PR E' (J (d,[(0,j)])) x y):aq nt pin E0 E' (pf.put d (.bl row)) (fr.eS d cells):=by
 have hfd:(fr.eS d cells) d=.loc cells:=by simp[FR.eS]
 have V7:∀t,t≠d->(∀o,fr t≠.lp d o)->(fr.eS d cells) t=fr t:=λt ht hn=>by
  simp only[FR.eS,az ht];cases nx:fr t with
  |lp s o=>
   simp only[kv];rw[az];rintro rfl;exact hn o nx
  |_=>rfl
 have uT:∀s,s≠d->(∃v,fr s=.v v)\/(∃cs,fr s=.loc cs)->(fr.eS d cells) s=fr s:=λs hs h=>V7 s hs λo e=>by
  rcases h with⟨v,h⟩|⟨v,h⟩<;>rw[e]at h<;>cases h
 have Al:∀{s:Nat}{p:aA}{v:Value},Wk E fr s p v->(∃v,fr s=.v v)\/(∃cs,fr s=.loc cs):=λh=>by
  rcases h with⟨r,h1,_⟩|⟨cs,_,_,_,h1,_⟩
  ·exact .inl ⟨r,h1⟩
  ·exact .inr ⟨cs,h1⟩
 refine⟨r.since.trans iP,d6.wf,d6.fresh,λt=>?_,λt ht=>?_,λt s h=>?_,λk v h=>?_⟩
 ·by_cases e:t=d
  ·subst e;simp only[ah.put,eP];exact⟨cells,hfd,hl,hr⟩
  ·simp only[ah.put,az e];by_cases ht:t<nt
   ·unfold fy;split
    ·exact True.intro
    ·rename_i hk;have hf:=r.f t;by_cases hj:pf t=jP
     ·rw[hj];exact True.intro
     ·have FZ:∀o,fr t≠.lp d o:=by
       intro o e2;revert hf;cases aE:pf t with
       |v x=>
        intro hf;obtain⟨v,h1,_⟩:=gi hf (by rintro rfl;exact hj aE);rw[e2]at h1;cases h1
       |skip=>intro hf;have hf:fr t=.skip:=hf;rw[e2]at hf;cases hf
       |ls es rows=>rintro⟨cs,h1,_⟩;rw[e2]at h1;cases h1
       |bl row=>rintro⟨cs,h1,_⟩;rw[e2]at h1;cases h1
       |pt s p i j=>
        rintro(⟨cs,h1,h2,h3,h4⟩|⟨v0,id,o',h1,h2,h3⟩)
        ·rw[e2]at h4;cases h4;exact hk (by rw[aE];rfl)
        ·rw[e2]at h3;cases h3
       |rf s p=>rintro⟨v,h1,_⟩;rw[e2]at h1;cases h1
       |rv s p lo hi=>
        rintro(⟨_,h2,_⟩|⟨id,off,es,n,cc,_,_,_,h4⟩)
        ·rw[e2]at h2;cases h2
        ·rw[e2]at h4;cases h4
       |ra s p i j n=>rintro⟨vs,h1,_⟩;rw[e2]at h1;cases h1
       |cl s g us=>rintro⟨v,vs,h1,_⟩;rw[e2]at h1;cases h1
       |as b s p i j n=>
        cases b with
        |false=>rintro⟨vs,h1,_⟩;rw[e2]at h1;cases h1
        |true=>rintro⟨id,off,k,v,h1,_⟩;rw[e2]at h1;cases h1
      refine hf.stay iP.g (hm t ht e) (V7 t e FZ) λs hs=>?_
      have f9:s≠d:=λe=>hk (by rw[hs,e])
      refine⟨?_,KL.Ir (hm s (r.rt t s hs) f9)⟩;revert hf hs;cases aE:pf t with
      |pt s' p i j=>
       intro hf hs;cases hs;rcases hf with⟨cs,h1,_⟩|⟨v0,id,o',h1,_⟩
       ·exact uT s f9 (.inr ⟨cs,h1⟩)
       ·exact uT s f9 (Al h1)
      |rf s' p=>
       rintro⟨v,_,h1⟩ hs;cases hs;exact uT s f9 (Al h1)
      |rv s' p lo hi=>
       intro hf hs;cases hs;rcases hf with⟨h1,_⟩|⟨id,off,es,n,cc,h1,_⟩
       ·exact uT s f9 (Al h1)
       ·exact uT s f9 (Al h1)
      |ra s' p i j n=>
       rintro⟨vs,h1,h2,h3⟩ hs;cases hs;by_cases hn:vs.toList=[]
       ·rw[hn]at h2;exact absurd h2.1.symm h2.2
       ·obtain⟨y,hy⟩:∃y,vs.toList[0]? =J y:=by
         cases DS:vs.toList with
         |nil=>exact absurd DS hn
         |cons y l=>exact⟨y,rfl⟩
        exact uT s f9 (Al (h3 0 y hy))
      |as b s' p i j n=>
       intro hf hs;cases hs;cases b with
       |false=>
        obtain⟨vs,h1,h2,h3⟩:=hf;exact uT s f9 (Al (h3 0 _ (cE (by omega))))
       |true=>
        obtain⟨id,off,k,v,_,_,_,_,hw⟩:=hf;exact uT s f9 (Al hw)
      |cl s' g us=>rintro⟨v,vs,h1,h2,h3⟩ hs;cases hs;exact uT s f9 (Al h2)
      |_=>intro _ hs;simp[bC]at hs
   ·rw[r.hi t (by omega)];have:fy d jP=jP:=by simp[fy,jP,bC]
    rw[this];exact True.intro
 ·have:t≠d:=by omega
  simp only[ah.put,az this,r.hi t ht];simp[fy,jP,bC]
 ·by_cases e:t=d
  ·subst e;simp[ah.put,bC]at h
  ·simp only[ah.put,az e]at h;unfold fy at h;split at h
   ·simp[jP,bC]at h
   ·exact r.rt t s h
 ·have hk:k≠d:=λe=>hp v (by rw[<-e];exact h)
  have:=r.pin k v h;rw[uT k hk (.inl ⟨v,this⟩)];exact this
def Yg:∀{z:List Value}{es:List Nat},(zc es z).length=z.length/\(z.all ct=Z->∀(j:Nat) (x:PV) (y:Value),(zc es z)[j]? =J x->z[j]? =J y->∀l,PR E l x y):=by
 intro z;induction z with
 |nil=>intro es;cases es<;>exact⟨rfl,λ_ j x y h=>by simp[zc]at h⟩
 |cons v z ih=>
  intro es
  have step:∀(e:Nat) (es:List Nat),(nb e v::zc es z).length=(v::z).length/\((v::z).all ct=Z->∀(j:Nat) (x:PV) (y:Value),(nb e v::zc es z)[j]? =J x->(v::z)[j]? =J y->∀l,PR E l x y):=by
   intro e es;obtain⟨h1,h2⟩:=ih (es:=es);refine⟨by simp[h1],λhz j x y a b l=>?_⟩;simp only[yC,bI]at hz;cases j with
   |zero=>simp at a b;subst a;subst b;exact IP hz.1 l
   |succ j=>exact h2 hz.2 j x y (by simpa using a) (by simpa using b) l
  cases es with
  |nil=>exact step 0 []
  |cons e es=>exact step e es
def JY :(zz P t z).length=z.length:=(Yg (E:=⟨⟨0,λ_=>ae⟩,λ_=>False,λ_=>ae⟩)).1
def HJ(hz:z.all ct=Z)(l:Nat->Lo):∀(j:Nat) (x:PV) (y:Value),(zz P t z)[j]? =J x->z[j]? =J y->PR E (l j) x y:=λj x y h1 h2=>Yg.2 hz j x y h1 h2 _
def zz7{x:PV}(h:PR E ae x v):PR E ae (dz x) v:=by
 unfold dz;split
 ·cases h with
  |sl0=>exact .sl0 aa _
  |jF a1 a2 a3 a4 a5 a6 a7 a8=>exact .jF a1 a2 a3 a4 a5 a6 a7 a8
 ·exact h
def Zm :((zz P t z).map dz).length=z.length:=by rw[Gx,JY]
def zpL(hz:z.all ct=Z)(l:Nat->Lo):∀(j:Nat) (x:PV) (y:Value),((zz P t z).map dz)[j]? =J x->z[j]? =J y->PR E (l j) x y:=λj x y h1 h2=>by
 obtain⟨x0,h3,rfl⟩:=mc h1;exact(zz7 (HJ hz (λ_=>ae) j x0 y h3 h2)).up
def zGO{x:PV}(h:PR E ae x v)(hv:ct v=Z):PR E ae (ud x) v:=by
 unfold ud;split
 ·cases h with
  |sl0=>exact .sl0 Z _
  |jF a1 a2 a3 a4 a5 a6 a7 a8=>simp[ct]at hv
 ·exact h
def Hj{b:Bool}:(uz b ((zz P t z).map dz)).length=z.length:=by unfold uz;split<;>simp[JY]
def OS{b:Bool}(hz:z.all ct=Z)(l:Nat->Lo):∀(j:Nat) (x:PV) (y:Value),(uz b ((zz P t z).map dz))[j]? =J x->z[j]? =J y->PR E (l j) x y:=λj x y h1 h2=>by
 unfold uz at h1;split at h1
 ·obtain⟨x0,h3,rfl⟩:=mc h1;obtain⟨x1,h4,rfl⟩:=mc h3;exact(zGO (zz7 (HJ hz (λ_=>ae) j x1 y h4 h2)) (bm.1 hz y (eo h2))).up
 ·exact zpL hz l j x y h1 h2
def ztn(r:aq c.nt pin E0 E pf fr)(hp:ep c pin){e:TypeId}(ho:o.op=.alloc e)(h:D1 P c e o.dst K pf)
(hk:∀pf' ai E',K pf'->aq c.nt pin E0 E' pf' ai->K' ai E'.H):aM P c.nt o K' fr E.H\/(c.hp≠[]/\fo P c.nt o K' fr E.H):=by
 unfold D1 at h;split at h
 ·rename_i z0 d BL hd;obtain⟨h2,h3⟩:=h;obtain⟨g,sz,b,z,ht,h1,rfl⟩:=zBO BL;obtain⟨c1,c2⟩:=M4 h2;have jU:∀w,(d,w)∉pin:=λw hw=>c2 (hp.h d w hw)
  split at h3
  ·rename_i o4;refine .inr ⟨λe=>by rw[e]at o4;simp at o4,?_⟩;have ok:=r.ok;simp only[fo,ho,hd,ht];refine⟨c1,h1,?_⟩
   have:=hk _ (fr.put d (.v (.pointer (J ⟨E.H.n,0,ae⟩)))) (E.push ⟨Z,z⟩ (d,[]) λ_=>ae) h3
    (r.set c1 jU ok.nr (λs _ _=>ok.mW λ_=>rfl) ok.uZ ok.push.wf ok.push.fresh
      (n0 (by simp[FR.put]) (.bx zhw ok.xJ yr rfl (by show(zz P e z).length<=z.length;rw[JY];exact cy _) (HJ h1 λj=>J (cO (d,[]) 0 j)))) (λs hs=>by cases hs))
   exact this
  ·left;unfold aM;rw[ho];simp only[ht,hd];rw[aB ⟨c1,h1⟩];exact hk _ _ E h3 (r.a0c c1 jU r.ok (fU.refl E) (λs _ _=>.refl _) (JY) (HJ h1 λj=>J (d,[(0,j)])))
 ·cases h
def U8{H H':AH}(h:bh fr H x=J (v,ai,H'))(hn:∀t,x=.tmp t->∀a b cs,fr t≠.ls a b cs):be fr x=J v/\ai=fr/\H'=H:=by
 cases x with
 |tmp t=>
  simp only[bh]at h;split at h
  ·rename_i y hy;simp only[aT,b9]at h;obtain⟨rfl,rfl,rfl⟩:=h;exact⟨by simp[be,hy],rfl,rfl⟩
  ·rename_i a b cs hy;exact absurd hy (hn t rfl a b cs)
  ·cases h
 |const k=>simp only[bh,bN,b9]at h;obtain⟨y,h1,rfl,rfl,rfl⟩:=h;exact⟨h1,rfl,rfl⟩
 |func k=>simp only[bh,bN,b9]at h;obtain⟨y,h1,rfl,rfl,rfl⟩:=h;exact⟨h1,rfl,rfl⟩
 |global k=>simp only[bh,bN,b9]at h;obtain⟨y,h1,rfl,rfl,rfl⟩:=h;exact⟨h1,rfl,rfl⟩
def zrk(r:aq nt pin E0 E pf fr){y:PV}{aQ:ah}(h:eu ez pf x=J (y,aQ))(hl:vr pf x=aa):∀t,x=.tmp t->∀a b cs,fr t≠.ls a b cs:=by
 rintro t rfl a b cs e;simp only[vr]at hl;simp only[eu]at h;have hf:=r.f t;cases aE:pf t with
 |v z=>
  rw[aE]at hf h;obtain⟨v,h1,_⟩:=gi hf (by rintro rfl;simp[lz,zF,dt]at h);rw[e]at h1;cases h1
 |ls es rows=>rw[aE]at hl;simp[qh]at hl
 |rf s p=>rw[aE]at hf;obtain⟨v,h1,_⟩:=hf;rw[e]at h1;cases h1
 |rv s p lo hi=>
  rw[aE]at hf;rcases hf with⟨_,h2,_⟩|⟨id,off,es,n,cc,_,_,_,h4⟩
  ·rw[e]at h2;cases h2
  ·rw[e]at h4;cases h4
 |ra s p i j n=>rw[aE]at hf;obtain⟨vs,h1,_⟩:=hf;rw[e]at h1;cases h1
 |_=>rw[aE]at h;simp[lz]at h
def zv0(r:aq c.nt pin E0 E pf fr)(hp:ep c pin){e:TypeId}(ho:o.op=.box e x)(h:Gl P c e x o.dst K pf)
(hk:∀pf' ai E',K pf'->aq c.nt pin E0 E' pf' ai->K' ai E'.H):aM P c.nt o K' fr E.H\/(c.hp≠[]/\fo P c.nt o K' fr E.H):=by
 unfold Gl at h;split at h
 ·rename_i tz y aQ d Cs jq hd;obtain⟨dF,ht⟩:=Gf Cs;obtain⟨h0,h1,h2,h3⟩:=h;obtain⟨c1,c2⟩:=M4 h2;have jU:∀w,(d,w)∉pin:=λw hw=>c2 (hp.h d w hw)
  obtain⟨v,fr1,H1,E1,m1,e1,r1,f1⟩:=ug r (fl:=[]) (λk x v h=>by simp at h) jq;obtain⟨m2,rfl,rfl⟩:=U8 m1 (zrk r jq h0);have hfl:PR E1 (J (c.nt,[(0,0)])) y v:=f1 0 y v rfl;have fj:∀s:Nat,s<c.nt->∀q:aA,iJ (c.nt,[(0,0)]) (d,[]) 0 0 y (s,q)=ae:=λs hs q=>zx7 (by show s≠c.nt;omega)
  split at h3
  ·rename_i o4;refine .inr ⟨λe=>by rw[e]at o4;simp at o4,?_⟩;have ok:=r1.ok;obtain⟨k1,k2,k3⟩:=Bq (E':=E1.push ⟨Z,v.cells.toList⟩ (d,[]) (iJ (c.nt,[(0,0)]) (d,[]) 0 0 y)) (b:=(d,[])) (i:=0) (j:=0) hfl h1 ok.nr λa b h=>ok.Tt h
   simp only[fo,ho,hd,ht,m2];refine⟨c1,k3,?_⟩
   have r2:=r1.set c1 jU ok.nr (λs hs _=>ok.mW λq=>fj s hs _) ok.uZ ok.push.wf ok.push.fresh
    (n0 (by simp[FR.put]) (.bx (k:=⟨Z,v.cells.toList⟩) zhw ok.xJ yr rfl (by show(cN y).length<=v.cells.toList.length;rw[k1];exact cy _) (λj x y a b=>by simpa[cO]using k2 j x y a b))) (λs hs=>by cases hs) (fv:=.v (.pointer (J ⟨E1.H.n,0,ae⟩)))
   split at h3
   ·have hf:=r2.f d;simp only[ah.put,aB]at hf;obtain⟨w,hw1,hw2⟩:=hf;have hwe:w=.pointer (J ⟨E1.H.n,0,ae⟩):=by simpa[FR.put]using hw1.symm
    subst hwe;have mY:∀v,(fr1.put d v).put d v=fr1.put d v:=λv=>by funext z;simp only[FR.put];split<;>rfl
    have ku:=hw2.freeze (E':=(E1.push ⟨Z,v.cells.toList⟩ (d,[]) (iJ (c.nt,[(0,0)]) (d,[]) 0 0 y)).fz (d,[])) pV MK;have r3:=r2.set c1 jU (pV (a:=(d,[]))) (λs hs hne=>yX (by show s≠d;exact hne)) EZ r2.ok.fz.wf r2.ok.fz.fresh (n0 (v:=.pointer (J ⟨E1.H.n,0,ae⟩)) (by simp[FR.put]) ku.up) (λs hs=>by cases hs) (fv:=.v (.pointer (J ⟨E1.H.n,0,ae⟩)));rw[mY]at r3;have:=hk _ (fr1.put d (.v (.pointer (J ⟨E1.H.n,0,ae⟩)))) _ h3 r3;rw[show((E1.push ⟨Z,v.cells.toList⟩ (d,[]) (iJ (c.nt,[(0,0)]) (d,[]) 0 0 y)).fz (d,[])).H=E1.H.push ⟨Z,v.cells.toList⟩from rfl,e1]at this;exact this
   have:=hk _ (fr1.put d (.v (.pointer (J ⟨E1.H.n,0,ae⟩)))) _ h3 r2;rw[show(E1.push ⟨Z,v.cells.toList⟩ (d,[]) (iJ (c.nt,[(0,0)]) (d,[]) 0 0 y)).H=E1.H.push ⟨Z,v.cells.toList⟩from rfl,e1]at this;exact this
  ·left;obtain⟨k1,k2,k3⟩:=Bq (E':=E1.rl (iJ (c.nt,[(0,0)]) (d,[]) 0 0 y)) (b:=(d,[])) (i:=0) (j:=0) hfl h1 dO λa b h=>k8 h
   unfold aM;rw[ho];simp only[ht,hd,m2];rw[aB ⟨c1,k3⟩];have:=hk _ _ (E1.rl (iJ (c.nt,[(0,0)]) (d,[]) 0 0 y)) h3 (r1.a0c c1 jU r1.ok.rl nS (λs hs _=>iZ λq=>fj s hs _) k1 (λj x y a b=>by simpa using k2 j x y a b));rw[show(E1.rl (iJ (c.nt,[(0,0)]) (d,[]) 0 0 y)).H=E1.H from rfl,e1]at this;exact this
 ·cases h
def aq.QF(r:aq nt pin E0 E pf fr){t es:Nat}{rows:List (List PV)}(ht:t<nt)(aE:pf t=.ls es rows):
 ∃v ai E',bh fr E.H (.tmp t)=J (v,ai,E'.H)/\ai t=.v v/\aq nt pin E0 E' ((pf.bS t (.v (.sl Z es rows))).kill t 0) ai/\(∀fl,d9 nt E fl->d9 nt E' fl)/\(∀s,s≠t->ai s=fr s):=by
 have hf:=r.f t;rw[aE]at hf;obtain⟨cells,c1,c2,c3,c4,c5⟩:=hf;have ok:=r.ok;refine⟨.slice (J ⟨E.H.n,0,J es⟩) rows.length rows.length,fr.put t (.v (.slice (J ⟨E.H.n,0,J es⟩) rows.length rows.length)),E.push ⟨Z,cells⟩ (t,[]) λ_=>ae,by simp[bh,c1];rfl,by simp[FR.put],?_,λfl hfl=>hfl.stay ok.nr (ok.mW λ_=>rfl),λs hs=>by simp[FR.put,hs]⟩;refine r.qs ht ok.nr (λs hs dH=>ok.mW λq=>rfl) (λL hL=>absurd hL (A1 _)) (λs hs=>by simp[FR.put,hs]) (λh=>absurd h (yA _)) ok.uZ ok.push.wf ok.push.fresh (λ_ _ h1 h2=>by rw[c1]at h1;cases h1) ?_ rfl λk v hk=>?_
 ·refine n0 (by simp[FR.put]) (.fk zhw ok.xJ yr rfl rfl (cy _) c3.1 c4 ⟨⟨c3.2,rfl⟩,by rw[gk,c2];exact cy _⟩ λi rw j x y g1 g2 g3=>?_);rw[gk]at g3;exact(c5 i rw j x y g1 g2 g3).move ok.nr (ok.mW λq=>rfl)
 ·have:=r.pin k v hk;have hne:k≠t:=λe=>by rw[e,c1]at this;cases this
  simpa[FR.put,hne]using this
def Of{op:Op}{d:Option Tmp}{ty:TypeId}{ps:String}{af:Array Edge}{g:Option (Nat×Bool)}{H H':AH}{w:Value}(h1:gw op=J [x])(h2:bh fr H x=J (v,ai,H'))(h3:eD P op [v]=J w)
(h:bB nt K' d (.v w) ai H'):dA P nt ⟨d,op,ty,ps,af,g⟩ K' fr H:=by
 simp only[dA,h1,cn,h2,h3];exact h
def aq.a0Z(r:aq nt pin E0 E pf fr){q s:Nat}{row:List PV}(hs:s<nt)(hq:q<nt)(fH:pf s=.bl row)(pj:pf q=.pt s [] 0 0):
 ∃cells E',fr q=.lp s 0/\fr s=.loc cells/\E'.H=E.H.push ⟨Z,cells⟩/\aq nt pin E0 E' (((pf.bS s (.v (.bx row))).kill s 0).put q (.rf s [])) ((fr.put s (.v (.pointer (J ⟨E.H.n,0,ae⟩)))).put q (.v (.pointer (J ⟨E.H.n,0,ae⟩)))):=by
 have hf:=r.f s;rw[fH]at hf;obtain⟨cells,c1,c2,c5⟩:=hf;have G5:=r.f q;rw[pj]at G5
 have FZ:fr q=.lp s 0:=by
  rcases G5 with⟨_,_,_,_,h4⟩|⟨v0,id,o,h1,h2,_⟩
  ·exact h4
  ·rcases h1 with⟨x,b1,b2⟩|⟨c0,j',p',y',b1,b2,_⟩
   ·rw[c1]at b1;cases b1
   ·cases b2
 have hne:∀s' w,fr s'=.v w->s'≠s:=λs' w h e=>by rw[e,c1]at h;cases h
 have ok:=r.ok;have hqs:q≠s:=λe=>by rw[e,fH]at pj;cases pj
 have r1:aq nt pin E0 (E.push ⟨Z,cells⟩ (s,[]) λ_=>ae) ((pf.bS s (.v (.bx row))).kill s 0) (fr.put s (.v (.pointer (J ⟨E.H.n,0,ae⟩)))):=by
  refine r.qs hs ok.nr (λs hs dH=>ok.mW λq=>rfl) (λL hL=>absurd hL (A1 _)) (λs hs=>by simp[FR.put,hs]) (λh=>absurd h (yA _)) ok.uZ ok.push.wf ok.push.fresh (λ_ _ _ h2=>by simp[FR.put]at h2) ?_ rfl λk v hk=>?_
  ·exact n0 (by simp[FR.put]) (.bx zhw ok.xJ yr rfl (a0q c2) λj x y g1 g2=>(c5 j x y g1 g2).move ok.nr (ok.mW λq=>rfl))
  ·have:=r.pin k v hk;have:=hne k v this;simp[FR.put,this,r.pin k v hk]
 refine⟨cells,E.push ⟨Z,cells⟩ (s,[]) λ_=>ae,FZ,c1,rfl,?_⟩;refine r1.set (d:=q) hq (λv hv=>by have:=r.pin q v hv;rw[FZ]at this;cases this) (GK.refl _) (λ_ _ _=>du.refl _) ⟨cy _,GK.refl _,λid _ h=>⟨h,rfl,λh=>h⟩⟩ r1.wf r1.fresh ?_ (λs' mu=>by cases mu;exact hs);exact⟨.pointer (J ⟨E.H.n,0,ae⟩),by simp[FR.put],.inl ⟨.pointer (J ⟨E.H.n,0,ae⟩),by simp[FR.put,Ne.symm hqs],rfl⟩⟩
def zzJ{q s i j:Nat}{p:aA}{y:PF}{x:PF×ah}(h:BF pf q s p i j y=J x):p=[]/\i=0/\j=0/\∃row,y=.bl row/\x=(.rf s [],((pf.bS s (.v (.bx row))).kill s 0).put q (.rf s [])):=by
 unfold BF at h;split at h
 ·rename_i row;cases h;exact⟨rfl,rfl,rfl,row,rfl,rfl⟩
 ·cases h
def zDw{c:aY}{d:Option Tmp}(h:Ai c d=Z):c.hp≠[]:=by
 unfold Ai at h;split at h
 ·rw[bI]at h;intro e;rw[e]at h;exact absurd h.1 (by decide)
 ·cases h
def zrF(r:aq c.nt pin E0 E pf fr)(hp:ep c pin)(ho:o.op=.assign x)(h:Eg ez c x o.dst K pf)
(hk:∀pf' ai E',K pf'->aq c.nt pin E0 E' pf' ai->K' ai E'.H):aM P c.nt o K' fr E.H:=by
 have dF:∀{d:Option Tmp}{ty:TypeId}{ps:String}{af:Array Edge}{g:Option (Nat×Bool)}{x:Operand}{v:Value}{fr1:FR}{H1:AH},(∀s o,bM fr x≠J (.lp s o))->bh fr E.H x=J (v,fr1,H1)->bB c.nt K' d (.v v) fr1 H1->aM P c.nt ⟨d,.assign x,ty,ps,af,g⟩ K' fr E.H:=by
  intro d ty ps af g x v fr1 H1 h0 h1 h2;show(match bM fr x with|some (.lp s off)=>bB c.nt K' d (.lp s off) fr E.H|_=>dA P c.nt ⟨d,.assign x,ty,ps,af,g⟩ K' fr E.H);split
  ·rename_i s o e;exact absurd e (h0 s o)
  ·exact Of (P:=P) (op:=.assign x) rfl h1 rfl h2
 unfold Eg at h;split at h
 ·rename_i y hy;obtain⟨d,op,ty,ps,af,g⟩:=o;simp only at ho hy h;subst ho;unfold BO at hy;split at hy
  ·rename_i d t;split at hy
   ·have hf:=r.f t;unfold Dl at hy;split at hy
    ·rename_i row aE;cases hy;rw[aE]at hf;obtain⟨cells,c1,_⟩:=hf
     have ht:t<c.nt:=by
      rcases dK t c.nt with h1|h1
      ·exact h1
      ·have:=r.hi t h1;rw[aE]at this;cases this
     unfold aM;simp only[bM,c1];exact jk r hp (y:=.pt t [] 0 0) rfl ht (.inl ⟨cells,c1,rfl,rfl,rfl⟩) h hk
    ·rename_i s p aE;cases hy;rw[aE]at hf;obtain⟨v,h2,h3⟩:=hf;exact dF (x:=.tmp t) (λs o e=>by simp[bM,h2]at e) (by simp only[bh,h2]) (jk r hp (y:=.rf s p) rfl (r.rt t s (by rw[aE];rfl)) ⟨v,rfl,h3⟩ h hk)
    ·rename_i s gg us aE;cases hy;rw[aE]at hf;obtain⟨v,vs,h2,h3⟩:=hf;exact dF (x:=.tmp t) (λs o e=>by simp[bM,h2]at e) (by simp only[bh,h2]) (jk r hp (y:=.cl s gg us) rfl (r.rt t s (by rw[aE];rfl)) ⟨v,vs,rfl,h3⟩ h hk)
    ·cases hy
   ·cases hy
  ·cases hy
 split at h
 ·rename_i y aQ jq;obtain⟨v,fr1,H1,E1,m1,e1,r1,f1⟩:=ug r (fl:=[]) (λk x v h=>by simp at h) jq;have:=gC r1 hp (f1 0 y v rfl) h hk;rw[e1]at this;obtain⟨d,op,ty,ps,af,g⟩:=o;simp only at ho;subst ho;refine dF (λs o e=>?_) m1 this;cases x with
  |tmp t=>
   simp only[bh]at m1;split at m1
   ·rename_i hy;simp[bM,hy]at e
   ·rename_i hy;simp[bM,hy]at e
   ·cases m1
  |const k=>simp only[bM,bN]at e;obtain⟨w,_,e⟩:=e;cases e
  |func k=>simp only[bM,bN]at e;obtain⟨w,_,e⟩:=e;cases e
  |global k=>simp[bh,be]at m1
 ·cases h
def zue(r:aq c.nt pin E0 E pf fr)(hp:ep c pin)(ho:o.op=.move x)(h:tw ez c x o.dst K pf)
(hk:∀pf' ai E',K pf'->aq c.nt pin E0 E' pf' ai->K' ai E'.H):aM P c.nt o K' fr E.H\/(c.hp≠[]/\fo P c.nt o K' fr E.H):=by
 obtain⟨d,op,ty,ps,af,g⟩:=o;simp only at ho h;subst ho
 have dF:∀{x:Operand}{v:Value}{fr1:FR}{H1:AH},(∀s o,bM fr x≠J (.lp s o))->bh fr E.H x=J (v,fr1,H1)->bB c.nt K' d (.v v) fr1 H1->aM P c.nt ⟨d,.move x,ty,ps,af,g⟩ K' fr E.H:=by
  intro x v fr1 H1 h0 h1 h2;show(match bM fr x with|some (.lp s off)=>bB c.nt K' d (.lp s off) fr E.H|_=>dA P c.nt ⟨d,.move x,ty,ps,af,g⟩ K' fr E.H);split
  ·rename_i s o e;exact absurd e (h0 s o)
  ·exact Of (P:=P) (op:=.move x) rfl h1 rfl h2
 cases x with
 |tmp t=>
  simp only[tw]at h;have hf:=r.f t
  have ht:t<c.nt\/pf t=jP:=by
   rcases dK t c.nt with h1|h1
   ·exact .inl h1
   ·exact .inr (r.hi t h1)
  cases aE:pf t with
  |v x=>
   rw[aE]at h hf;simp only[tE]at h;left;obtain⟨hj,h⟩:=h;have tL:=n5 hj;have ht:t<c.nt:=by rcases ht with h1|h1;exact h1;rw[aE]at h1;cases h1;exact absurd rfl tL
   obtain⟨v,h1,h2⟩:=gi hf tL;refine dF (λs o e=>by simp[bM,h1]at e) (v:=v) (fr1:=fr) (H1:=E.H) (by simp[bh,h1]) ?_;split at h
   ·exact jk r hp (y:=.rf t []) rfl ht ⟨v,rfl,.inl ⟨v,h1,rfl⟩⟩ h hk
   ·rename_i ho;exact gC r hp ((h2.free (by simpa using ho)).up) h hk
  |ls es rows=>
   rw[aE]at h;left;obtain⟨ht,h⟩:=h;obtain⟨v,fr1,E1,m1,m2,m3,_,_⟩:=r.QF ht aE
   obtain⟨cells,c1,_⟩:∃cells,fr t=.ls rows.length es cells/\True:=by
    rw[aE]at hf;obtain⟨cells,c1,_⟩:=hf;exact⟨cells,c1,trivial⟩
   refine dF (λs o e=>by simp[bM,c1]at e) m1 ?_;exact jk m3 hp (y:=.rf t []) rfl ht ⟨v,rfl,.inl ⟨v,m2,rfl⟩⟩ h hk
  |bl row=>
   rw[aE]at h hf;simp only[tE]at h;obtain⟨cells,c1,_⟩:=hf;have ht:t<c.nt:=by rcases ht with h1|h1;exact h1;rw[aE]at h1;cases h1
   left;unfold aM;simp only[bM,c1];exact jk r hp (y:=.pt t [] 0 0) rfl ht (.inl ⟨cells,c1,rfl,rfl,rfl⟩) h hk
  |skip=>rw[aE]at h;exact h.elim
  |pt s p i j=>
   rw[aE]at h hf;simp only[tE]at h;have hs:=r.rt t s (by rw[aE];rfl);have ht:t<c.nt:=by rcases ht with h1|h1;exact h1;rw[aE]at h1;cases h1
   split at h
   ·rename_i hl;split at h
    ·rename_i y hy;obtain⟨rfl,rfl,rfl,row,ej,rfl⟩:=zzJ hy;obtain⟨cells,E2,k1,k2,k3,r2⟩:=r.a0Z hs ht ej aE
     have:=jk r2 hp (y:=.rf s []) (fv:=.v (.pointer (J ⟨E.H.n,0,ae⟩))) rfl hs ⟨_,rfl,.inl ⟨_,by
      have:s≠t:=λe=>by rw[e,aE]at ej;cases ej
      simp[FR.put,this],rfl⟩⟩ h hk
     refine .inr ⟨zDw hl,?_⟩;cases d with
     |none=>simp[Ai]at hl
     |some d=>
      simp only[bB]at this;split at this
      ·rename_i hd;simp only[fo];refine⟨s,cells,⟨hd,ht,k1,k2⟩,?_⟩;rw[<-k3];exact this
      ·cases this
    ·cases h
   ·left;rcases hf with⟨cells,h1,h2,h3,h4⟩|⟨v0,id,o,h1,h2,h3⟩
    ·unfold aM;simp only[bM,h4,h1];exact jk r hp (y:=.pt s p i j) rfl hs (.inl ⟨cells,h1,h2,h3,rfl⟩) h hk
    ·exact dF (λs o e=>by simp[bM,h3]at e) (by simp only[bh,h3]) (jk r hp (y:=.pt s p i j) rfl hs (.inr ⟨v0,id,o,h1,h2,rfl⟩) h hk)
  |rf s p=>
   rw[aE]at h hf;simp only[tE]at h;left;obtain⟨v,h1,h2⟩:=hf;exact dF (λs o e=>by simp[bM,h1]at e) (by simp only[bh,h1]) (jk r hp (y:=.rf s p) rfl (r.rt t s (by rw[aE];rfl)) ⟨v,rfl,h2⟩ h hk)
  |rv s p lo hi=>
   rw[aE]at h hf;simp only[tE]at h;left;have hs:=r.rt t s (by rw[aE];rfl);rcases hf with⟨h1,h2,h3⟩|⟨id,off,es,n,cc,h1,h2,h3,h4⟩
   ·exact dF (λs o e=>by simp[bM,h2]at e) (by simp only[bh,h2]) (jk r hp (y:=.rv s p lo hi) rfl hs (.inl ⟨h1,rfl,h3⟩) h hk)
   ·exact dF (λs o e=>by simp[bM,h4]at e) (by simp only[bh,h4]) (jk r hp (y:=.rv s p lo hi) rfl hs (.inr ⟨id,off,es,n,cc,h1,h2,h3,rfl⟩) h hk)
  |as b s p i j n=>rw[aE]at h;exact h.elim
  |cl s gg us=>
   rw[aE]at h hf;simp only[tE]at h;left;obtain⟨v,vs,h1,h2⟩:=hf;exact dF (λs o e=>by simp[bM,h1]at e) (by simp only[bh,h1]) (jk r hp (y:=.cl s gg us) rfl (r.rt t s (by rw[aE];rfl)) ⟨v,vs,rfl,h2⟩ h hk)
  |ra s p i j n=>
   rw[aE]at h hf;simp only[tE]at h;left;obtain⟨vs,h1,h2,h3⟩:=hf;exact dF (λs o e=>by simp[bM,h1]at e) (by simp only[bh,h1]) (jk r hp (y:=.ra s p i j n) rfl (r.rt t s (by rw[aE];rfl)) ⟨vs,rfl,h2,h3⟩ h hk)
 |const k=>
  simp only[tw]at h;left;split at h
  ·rename_i y aQ jq;obtain⟨v,fr1,H1,E1,m1,e1,r1,f1⟩:=ug r (fl:=[]) (λk x v h=>by simp at h) jq;have:=gC r1 hp (f1 0 y v rfl) h hk;rw[e1]at this;refine dF (λs o e=>?_) m1 this;simp only[bM,bN]at e;obtain⟨w,_,e⟩:=e;cases e
  ·cases h
 |func k=>
  simp only[tw]at h;left;split at h
  ·rename_i y aQ jq;obtain⟨v,fr1,H1,E1,m1,e1,r1,f1⟩:=ug r (fl:=[]) (λk x v h=>by simp at h) jq;have:=gC r1 hp (f1 0 y v rfl) h hk;rw[e1]at this;refine dF (λs o e=>?_) m1 this;simp only[bM,bN]at e;obtain⟨w,_,e⟩:=e;cases e
  ·cases h
 |global g=>simp[tw,eu]at h
end
end Go.Pm
