import Derived.Test.YtnojafnlicbhpaaGreatPmF
open Bool renaming false→aa,true→Z
open Option renaming none→ae,some→J
set_option linter.defProp false
namespace Go.Pm
open Go.Am
section
variable {nt:Nat}{pin:List (Nat×Value)}{E0 E E':Env}{pf:ah}{fr ai:FR}
def Env.push(E:Env)(b:mi)(a:Nat×aA)(f:Nat×aA->Option (Nat×aA)):Env:=
 ⟨E.H.push b,E.G,λid=>if id=E.H.n then J a else(E.ow id).map λx=>(f x).getD x⟩
structure d7 (E:Env):Prop where
 wf:mJ E.H
 fresh:∀id,E.H.n<=id->E.ow id=ae/\¬E.G id
variable{a:Nat×aA}{b:mi}{f:Nat×aA->Option (Nat×aA)}{fl:List (PV×Value)}{i id n s:Nat}{p:aA}{pf':ah}{y:PV}
def aq.ok(r:aq nt pin E0 E pf fr):d7 E:=⟨r.wf,r.fresh⟩
def d7.lt(h:d7 E){c:Nat×aA}(ho:E.ow id=J c):id<E.H.n:=by
 rcases dK id E.H.n with h1|h1
 ·exact h1
 ·rw[(h.fresh id h1).1]at ho;cases ho
def d7.YG(h:d7 E)(hG:E.G id):id<E.H.n:=by
 rcases dK id E.H.n with h1|h1
 ·exact h1
 ·exact absurd hG (h.fresh id h1).2
def KN(h:id<E.H.n):(E.push b a f).H.b id=E.H.b id:=by
 simp[Env.push,AH.push,sD h]
def yr :(E.push b a f).H.b E.H.n=J b:=by simp[Env.push,AH.push]
def zhw :(E.push b a f).ow E.H.n=J a:=by simp[Env.push]
def d7.push(h:d7 E) :d7 (E.push b a f):=by
 refine⟨λid k hk=>?_,λid bY=>?_⟩
 ·simp only[Env.push,AH.push]at hk⊢;split at hk
  ·omega
  ·have:=h.wf id k hk;omega
 ·have bY:E.H.n+1<=id:=bY;obtain⟨h1,h2⟩:=h.fresh id (by omega);exact⟨by simp only[Env.push];rw[az (by omega),h1];rfl,h2⟩
def d7.nr(h:d7 E) :GK E (E.push b a f):=λ_ hG=>⟨hG,λk hk=>⟨k,(KN (h.YG hG)).trans hk,rfl⟩⟩
def d7.uZ(h:d7 E) :fU E (E.push b a f):=
 ⟨C8 _,h.nr,λid h1 h2=>⟨by simp only[Env.push];rw[az (sD h1),h2];rfl,KN h1,λh=>h⟩⟩
def d7.xJ(h:d7 E) :¬(E.push b a f).G E.H.n:=(h.fresh _ (cy _)).2
def d7.Tt(h:d7 E){bl:mi}{n:Nat×aA}{b:Nat×aA}(hf:∀r,f (a.1,a.2++r)=J (b.1,b.2++r)):du E (E.push bl n f) (J a) (J b):=
 λid r h1 h2=>⟨by simp only[Env.push];rw[az (sD (h.lt h1)),h1];simp[hf],h2,KN (h.lt h1)⟩
def d7.mW(h:d7 E){bl:mi}{n:Nat×aA}(hf:∀r,f (a.1,a.2++r)=ae):du E (E.push bl n f) (J a) (J a):=
 λid r h1 h2=>⟨by simp only[Env.push];rw[az (sD (h.lt h1)),h1];simp[hf],h2,KN (h.lt h1)⟩
def Zx(r:aq nt pin E0 E pf fr)(hfl:d9 nt E fl){x:PV}{v:Value}(hs:s<nt)(h:cj pf s p=J x)(hx:x≠.au)(hw:Wk E fr s p v)
(hj:zT (bK x) x pf s p=J (y,pf')):∃E',E'.H=E.H/\aq nt pin E0 E' pf' fr/\d9 nt E' (fl++[(y,v)]):=by
 have hp:=iQ r hw h;unfold zT at hj;split at hj
 ·simp only[bN,b9]at hj;obtain⟨aQ,h1,rfl,rfl⟩:=hj;obtain⟨v',E',w1,w2,w3,w4⟩:=r.LJ hfl hs h hx hp h1;have:=w1.same hw;subst this;exact⟨E',w2,w3,w4⟩
 ·rename_i ho;cases hj;obtain⟨v',w1,w2⟩:=r.at h hx hp;have:=w1.same hw;subst this;exact⟨E,rfl,r,N7 hfl w2 (by simpa using ho)⟩
def zxH{xs:List PV}{q:Nat}{z:PV}(h:(xs.map JA)[q]? =J z):∃x,xs[q]? =J x/\((bK x=Z/\z=.au)\/(bK x=aa/\z=x)):=by
 obtain⟨x,h1,h2⟩:=mc h;refine⟨x,h1,?_⟩;unfold JA at h2;split at h2
 ·exact .inl ⟨‹_›,h2.symm⟩
 ·rename_i hh;exact .inr ⟨by simpa using hh,h2.symm⟩
def zBu{b:Nat×aA}{j i' j':Nat}{c:Nat×aA}{d:Nat×aA}(h:tj a i j n b i' j' c=J d):∃q r,q<n/\c=(a.1,a.2++(i,j+q)::r):=by
 unfold tj at h;split at h
 ·rename_i hc;obtain⟨h1,t,h2⟩:=hc;split at h
  ·rename_i i1 j1 r he;split at h
   ·rename_i hh;obtain⟨rfl,h3,h4⟩:=hh;refine⟨j1-j,r,by omega,?_⟩;obtain⟨c1,c2⟩:=c;simp only at h1 h2 he⊢;subst h1;rw[<-h2]at he;simp only[Oz]at he;rw[<-h2,he];congr 4;omega
   ·cases h
  ·cases h
 ·cases h
def S8{r:List PV}(h:(cj pf s p).bind (lF i)=J r)(q:Nat):cj pf s (p++[(i,q)])=r[q]? :=by
 simp only[bR]at h;obtain⟨z,h1,h2⟩:=h;rw[zw4,h1];exact zzy h2
def zst(r:aq nt pin E0 E pf fr)(hfl:d9 nt E fl){j:Nat}{vs:Array Value}(hs:s<nt)(hl:vs.toList.length=n)
(hw:∀q y,vs.toList[q]? =J y->Wk E fr s (p++[(i,j+q)]) y)
(hj:Hu pf s p i j (((cj pf s p).bind (lF i)).bind (yb j n))=J (y,pf')):∃E',E'.H=E.H/\aq nt pin E0 E' pf' fr/\d9 nt E' (fl++[(y,.agg vs)]):=by
 unfold Hu at hj;split at hj
 ·rename_i o xs gu;simp only[bR]at gu;obtain⟨row,ej,qQ⟩:=gu;have TR:(cj pf s p).bind (lF i)=J row:=by simp only[bR];exact ej
  unfold yb at qQ;split at qQ
  ·rename_i cV;simp only[aT,PV.agg.injEq]at qQ;have g9:xs.length=n:=by rw[<-qQ];simp;omega
   have ic:∀q x,xs[q]? =J x->cj pf s (p++[(i,j+q)])=J x:=by
    intro q x hq;rw[S8 TR];rw[<-qQ,l6]at hq;split at hq
    ·rw[jd]at hq;exact hq
    ·cases hq
   have eV:∀q x v,xs[q]? =J x->vs.toList[q]? =J v->PR E (J (s,p++[(i,j+q)])) x v:=by
    intro q x v hq hv;by_cases hx:x=.au
    ·subst hx;exact .au v
    ·obtain⟨v',w1,w2⟩:=r.at (ic q x hq) hx (.inl Lk);rw[w1.same (hw q v hv)]at w2;exact w2
   split at hj
   ·rename_i ho;simp only[bN,b9]at hj;obtain⟨aQ,h1,rfl,rfl⟩:=hj;have hne:xs≠[]:=by rintro rfl;simp[ziJ]at ho
    have hf:∀c:Nat×aA,c.1≠s->tj (s,p) i j n (nt,[(0,fl.length)]) 0 0 c=ae:=λc hc=>ZI hc
    refine⟨E.rl (tj (s,p) i j n (nt,[(0,fl.length)]) 0 0),rfl,?_,?_⟩
    ·refine r.R7 hs (by simpa using hne) h1 rfl nS dO (λt _ ht=>iZ λq=>hf _ ht) (λid bY=>?_) (λid q g1 g2 g3=>⟨?_,g2⟩) λt z v g1 g2=>?_
     ·obtain⟨g1,g2⟩:=r.fresh id bY;exact⟨by simp[Env.rl,g1],g2⟩
     ·have:tu p i j n q:=by rw[Gx,g9]at g3;exact g3
      have:=zBE (a:=(s,p)) (b:=(nt,[(0,fl.length)])) (i':=0) (j':=0) this;simp[Env.rl,g1,this]
     ·obtain⟨x,hq,hz⟩:=zxH g1;rcases hz with⟨_,rfl⟩|⟨ho',rfl⟩
      ·exact .au v
      ·have mV:t<vs.toList.length:=by have:=(cT.1 hq).1;omega
       have hv:=cE mV;have:=(hw t _ hv).same g2;rw[this]at hv;exact((eV t z v hq hv).free ho').mono dO
    ·refine(hfl.stay dO (iZ λq=>hf _ (by show nt≠s;omega))).snoc (.agg (by rw[g9,hl]) λq x v hq hv=>?_);have GH:q<n:=by have:=(cT.1 hq).1;omega
     refine(eV q x v hq hv).move dO (k8 λr=>?_);have:=VX (a:=(s,p)) (b:=(nt,[(0,fl.length)])) (i:=i) (j:=j) (n:=n) (i':=0) (j':=0) GH r;simpa[cO]using this
   ·rename_i ho;cases hj;refine⟨E,rfl,r,N7 hfl (l:=ae) (.agg (by rw[g9,hl]) λq x v hq hv=>?_) (by simpa using ho)⟩;have ho':bK (.agg xs)=aa:=by simpa using ho
    rw[ziJ,KA]at ho';exact(eV q x v hq hv).free (by simpa using ho' x (eo hq))
  ·cases qQ
 ·cases hj
def zO{l:Lo}{es bw off c:Nat}{rows:List (List PV)}{o:Bool}(h:PR E l (.sl o es rows) (.slice (J ⟨id,off,J bw⟩) n c)):es=bw:=by
 generalize hx:PV.sl o es rows=x at h;cases h<;>cases hx<;>rfl
def zsu(r:aq nt pin E0 E pf fr)(hfl:d9 nt E fl){lo hi:Nat}{t:Nat}(hs:s<nt)
(hf:oN E (.rv s p lo hi) fr t)(hj:Eb pf s p lo hi (cj pf s p)=J (y,pf')):∃v E',fr t=.v v/\E'.H=E.H/\aq nt pin E0 E' pf' fr/\d9 nt E' (fl++[(y,v)]):=by
 unfold Eb at hj;split at hj
 ·rename_i o es rows hx;split at hj
  ·rename_i hb;obtain⟨eJ,fX⟩:=hb;rcases hf with⟨h1,h2,rfl,rfl⟩|⟨id,off,bw,n,c,h1,h2,h3,h4⟩
   ·
    obtain⟨v0,w1,w2⟩:=r.at hx (by simp) (iQ r h1 hx);have:=w1.same h1;subst this;rw[aB rfl]at hj;simp only[bN,b9]at hj;obtain⟨aQ,k1,rfl,rfl⟩:=hj;obtain⟨v',E',a1,a2,a3,a4⟩:=r.LJ hfl hs hx (by simp) (iQ r h1 hx) k1;have:=a1.same h1;subst this;refine⟨_,E',h2,a2,a3,?_⟩;have NJ:=a4 fl.length (.sl Z es rows) (.slice ae 0 0) (by simp);have GX:d9 nt E' fl:=λk x v hk=>a4 k x v (by rw[fw (cT.1 hk).1];exact hk)
    exact GX.snoc (.sl0 Z es)
   ·have dN:=iQ r h1 hx;split at hj
    ·rename_i hlo;subst hlo;simp only[bN,b9]at hj;obtain⟨aQ,k1,rfl,rfl⟩:=hj;obtain⟨v',E',a1,a2,a3,a4⟩:=r.LJ hfl hs hx (by simp) dN k1;have:=a1.same h1;subst this;refine⟨_,E',h4,a2,a3,?_⟩;have NJ:=a4 fl.length (.sl Z es rows) (.slice (J ⟨id,off,J bw⟩) n c) (by simp);have GX:d9 nt E' fl:=λk x v hk=>a4 k x v (by rw[fw (cT.1 hk).1];exact hk)
     obtain⟨_,e2,e3⟩:=NJ.a1M h3;refine GX.snoc ?_;simpa using e3
    ·rename_i hlo;simp only[bN,b9]at hj;obtain⟨aQ,k1,rfl,rfl⟩:=hj;obtain⟨v',a1,a2,a3⟩:=r.Et hs hx (by simp) dN k1;have:=a1.same h1;subst this;refine⟨_,E.fz (s,p),h4,rfl,a2,?_⟩;rw[zjE]at a3;obtain⟨_,e1,e2,e3⟩:=a3.cut h2 h3
     exact(hfl.stay pV (yX (by show nt≠s;omega))).snoc (by
      have ee:es=bw:=zO a3;subst ee
      exact e3.up)
  ·cases hj
 ·rename_i o es rows hx;split at hj
  ·rename_i hb;obtain⟨eJ,fX⟩:=hb;cases hj;rcases hf with⟨h1,h2,rfl,rfl⟩|⟨id,off,bw,n,c,h1,h2,h3,h4⟩
   ·exact⟨_,E,h2,rfl,r,N7 hfl (l:=ae) (by simpa using PR.sl0 (E:=E) aa es) (by simp[zkK])⟩
   ·obtain⟨v',w1,w2⟩:=r.at hx (by simp) (iQ r h1 hx);have:=w1.same h1;subst this;obtain⟨_,e1,e2,e3⟩:=w2.cut h2 h3;have ee:es=bw:=zO w2;subst ee;exact⟨_,E,h4,rfl,r,N7 hfl e3 (by simp[zkK])⟩
  ·cases hj
 ·cases hj
def zzs(r:aq nt pin E0 E pf fr){t:Nat}(h:lz pf t (pf t)=J (y,pf')):t<nt:=by
 rcases dK t nt with h1|h1
 ·exact h1
 ·rw[r.hi t h1]at h;simp[lz,jP,zF,dt]at h
def ug(r:aq nt pin E0 E pf fr)(hfl:d9 nt E fl){ez:Nat}{x:Operand}(h:eu ez pf x=J (y,pf')):
 ∃v ai H' E',bh fr E.H x=J (v,ai,H')/\E'.H=H'/\aq nt pin E0 E' pf' ai/\d9 nt E' (fl++[(y,v)]):=by
 cases x with
 |const c=>
  simp only[eu]at h;split at h
  ·rename_i hc;cases h;exact⟨c,fr,E.H,E,by simp[bh,be,hc],rfl,r,hfl.snoc (IP hc _)⟩
  ·cases h
 |func f=>
  simp only[eu,aT,b9]at h;obtain⟨rfl,rfl⟩:=h;exact⟨.func (.func f) #[] #[],fr,E.H,E,by simp[bh,be],rfl,r,hfl.snoc (.func _ rfl rfl (λi x y h=>by simp at h) (λi x y h=>by simp at h))⟩
 |global g=>simp[eu]at h
 |tmp t=>
  simp only[eu]at h;have ht:=zzs r h;have hf:=r.f t;cases aE:pf t with
  |v x=>
   rw[aE]at h hf;simp only[lz,zF]at h;split at h
   ·cases h
   ·rename_i hj;have hx:=n5 (by simpa using hj);obtain⟨v,h1,h2⟩:=gi hf hx;obtain⟨E',e1,e2,e3⟩:=Zx r hfl (s:=t) (p:=[]) (v:=v) ht (by simp[cj,aE,fD,iB]) hx (.inl ⟨v,h1,rfl⟩) h;exact⟨v,fr,E.H,E',by simp[bh,h1],e1,e2,e3⟩
  |rf s p=>
   rw[aE]at h hf;simp only[lz,Hx]at h;obtain⟨v,h1,h2⟩:=hf;split at h
   ·rename_i x hx;split at h
    ·cases h
    ·rename_i hj;obtain⟨E',e1,e2,e3⟩:=Zx r hfl (r.rt t s (by rw[aE];rfl)) hx (n5 (by simpa using hj)) h2 h;exact⟨v,fr,E.H,E',by simp[bh,h1],e1,e2,e3⟩
   ·cases h
  |rv s p lo hi=>
   rw[aE]at h hf;obtain⟨v,E',e0,e1,e2,e3⟩:=zsu r hfl (r.rt t s (by rw[aE];rfl)) hf h;exact⟨v,fr,E.H,E',by simp[bh,e0],e1,e2,e3⟩
  |ra s p i j n=>
   rw[aE]at h hf;obtain⟨vs,h1,h2,h3⟩:=hf;obtain⟨E',e1,e2,e3⟩:=zst r hfl (r.rt t s (by rw[aE];rfl)) h2.1 h3 h;exact⟨.agg vs,fr,E.H,E',by simp[bh,h1],e1,e2,e3⟩
  |ls es rows=>
   rw[aE]at h hf;simp only[lz,aT,b9]at h;obtain⟨rfl,rfl⟩:=h;obtain⟨cells,c1,c2,c3,c4,c5⟩:=hf;have ok:=r.ok;refine⟨_,_,_,E.push ⟨Z,cells⟩ (nt,[(0,fl.length)]) (fg (t,[]) (nt,[(0,fl.length)])),by simp[bh,c1];exact⟨rfl,rfl,rfl⟩,rfl,?_,?_⟩
   ·refine r.qs ht ok.nr (λs hs dH=>ok.mW λq=>kB dH) (λL hL=>absurd hL (A1 _)) (λs hs=>by simp[FR.put,hs]) (λh=>absurd h (yA _)) ok.uZ ok.push.wf ok.push.fresh (λ_ _ h1 h2=>by rw[c1]at h1;cases h1) wA rfl λk v hk=>?_
    have:=r.pin k v hk;have hne:k≠t:=λe=>by rw[e,c1]at this;cases this
    simpa[FR.put,hne]using this
   ·refine(hfl.stay ok.nr (ok.mW λq=>kB (by show nt≠t;omega))).snoc ?_;refine .fk zhw ok.xJ yr rfl rfl (cy _) c3.1 c4 ⟨⟨c3.2,rfl⟩,by rw[gk,c2];exact cy _⟩ λi rw j x y g1 g2 g3=>?_
    rw[gk]at g3;refine(c5 i rw j x y g1 g2 g3).move ok.nr (ok.Tt λq=>?_);have:=zgw (t,[]) (nt,[(0,fl.length)]) ((i,j)::q);simpa[cO]using this
  |_=>rw[aE]at h;simp[lz]at h
def zoD:∀{xs:List (Nat×Operand)}{E:Env}{pf pf':ah}{fr:FR}{fl:List (PV×Value)}{ys:List PV},aq nt pin E0 E pf fr->d9 nt E fl->pX pf xs=J (ys,pf')->
 ∃vs ai H' E',cn fr E.H (xs.map (·.2))=J (vs,ai,H')/\E'.H=H'/\aq nt pin E0 E' pf' ai/\vs.length=ys.length/\ys.length=xs.length/\d9 nt E' (fl++ys.zip vs):=by
 intro xs;induction xs with
 |nil=>
  intro E pf pf' fr fl ys r hfl h;simp only[pX,aT,b9]at h;obtain⟨rfl,rfl⟩:=h;exact⟨[],fr,E.H,E,rfl,rfl,r,rfl,rfl,by simpa using hfl⟩
 |cons x xs ih=>
  intro E pf pf' fr fl ys r hfl h;simp only[pX,bR,bN,b9]at h;obtain⟨⟨y,aQ⟩,h1,⟨Ua,bV⟩,h2,rfl,rfl⟩:=h;obtain⟨v,fr1,H1,E1,m1,e1,r1,f1⟩:=ug r hfl h1;obtain⟨vs,dI,H2,E2,m2,e2,r2,l2,l3,f2⟩:=ih r1 f1 h2;refine⟨v::vs,dI,H2,E2,?_,e2,r2,by simp[l2],by simp[l3],by simpa using f2⟩;rw[e1]at m2;simp[cn,m1,m2]
end
end Go.Pm
