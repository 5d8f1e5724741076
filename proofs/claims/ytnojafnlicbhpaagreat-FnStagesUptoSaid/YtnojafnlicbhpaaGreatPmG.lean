import Derived.Test.YtnojafnlicbhpaaGreatPmF
open Bool renaming false→aa,true→Z
open Option renaming none→ae,some→J
set_option linter.defProp false
namespace Go.Pm
open Go.Am
section
variable {nt:Nat}{pin:List (Nat×Value)}{E0 E E':Env}{pf:ah}{fr ai:FR}
def Env.push(E:Env)(b:mu)(a:Nat×aA)(f:Nat×aA->Option (Nat×aA)):Env:=
 ⟨E.H.push b,E.G,λid=>if id=E.H.n then J a else(E.ow id).map λx=>(f x).getD x⟩
structure ej (E:Env):Prop where
 wf:my E.H
 fresh:∀id,E.H.n<=id->E.ow id=ae/\¬E.G id
variable{a:Nat×aA}{b:mu}{f:Nat×aA->Option (Nat×aA)}{fl:List (PV×Value)}{i id n s:Nat}{p:aA}{pf':ah}{y:PV}
def aq.ok(r:aq nt pin E0 E pf fr):ej E:=⟨r.wf,r.fresh⟩
def ej.lt(h:ej E){c:Nat×aA}(ho:E.ow id=J c):id<E.H.n:=by
 rcases dK id E.H.n with h1|h1
 ·exact h1
 ·rw[(h.fresh id h1).1]at ho;cases ho
def ej.ZU(h:ej E)(hG:E.G id):id<E.H.n:=by
 rcases dK id E.H.n with h1|h1
 ·exact h1
 ·exact absurd hG (h.fresh id h1).2
def Of(h:id<E.H.n):(E.push b a f).H.b id=E.H.b id:=by
 simp[Env.push,AH.push,sC h]
def yl :(E.push b a f).H.b E.H.n=J b:=by simp[Env.push,AH.push]
def zhw :(E.push b a f).ow E.H.n=J a:=by simp[Env.push]
def ej.push(h:ej E) :ej (E.push b a f):=by
 refine⟨λid k hk=>?_,λid bY=>?_⟩
 ·simp only[Env.push,AH.push]at hk⊢;split at hk
  ·omega
  ·have:=h.wf id k hk;omega
 ·have bY:E.H.n+1<=id:=bY;obtain⟨h1,h2⟩:=h.fresh id (by omega);exact⟨by simp only[Env.push];rw[az (by omega),h1];rfl,h2⟩
def ej.nl(h:ej E) :GK E (E.push b a f):=λ_ hG=>⟨hG,λk hk=>⟨k,(Of (h.ZU hG)).trans hk,rfl⟩⟩
def ej.uL(h:ej E) :fZ E (E.push b a f):=
 ⟨C7 _,h.nl,λid h1 h2=>⟨by simp only[Env.push];rw[az (sC h1),h2];rfl,Of h1,λh=>h⟩⟩
def ej.xN(h:ej E) :¬(E.push b a f).G E.H.n:=(h.fresh _ (cy _)).2
def ej.PJ(h:ej E){bl:mu}{n:Nat×aA}{b:Nat×aA}(hf:∀r,f (a.1,a.2++r)=J (b.1,b.2++r)):dr E (E.push bl n f) (J a) (J b):=
 λid r h1 h2=>⟨by simp only[Env.push];rw[az (sC (h.lt h1)),h1];simp[hf],h2,Of (h.lt h1)⟩
def ej.m8(h:ej E){bl:mu}{n:Nat×aA}(hf:∀r,f (a.1,a.2++r)=ae):dr E (E.push bl n f) (J a) (J a):=
 λid r h1 h2=>⟨by simp only[Env.push];rw[az (sC (h.lt h1)),h1];simp[hf],h2,Of (h.lt h1)⟩
def XX(r:aq nt pin E0 E pf fr)(hfl:eb nt E fl){x:PV}{v:Value}(hs:s<nt)(h:ce pf s p=J x)(hx:x≠.au)(hw:Wk E fr s p v)
(hj:yP (bL x) x pf s p=J (y,pf')):∃E',E'.H=E.H/\aq nt pin E0 E' pf' fr/\eb nt E' (fl++[(y,v)]):=by
 have hp:=jc r hw h;unfold yP at hj;split at hj
 ·simp only[bN,b9]at hj;obtain⟨aQ,h1,rfl,rfl⟩:=hj;obtain⟨v',E',w1,w2,w3,w4⟩:=r.M8 hfl hs h hx hp h1;have:=w1.same hw;subst this;exact⟨E',w2,w3,w4⟩
 ·rename_i ho;cases hj;obtain⟨v',w1,w2⟩:=r.at h hx hp;have:=w1.same hw;subst this;exact⟨E,rfl,r,M1 hfl w2 (by simpa using ho)⟩
def zxM{xs:List PV}{q:Nat}{z:PV}(h:(xs.map GS)[q]? =J z):∃x,xs[q]? =J x/\((bL x=Z/\z=.au)\/(bL x=aa/\z=x)):=by
 obtain⟨x,h1,h2⟩:=mt h;refine⟨x,h1,?_⟩;unfold GS at h2;split at h2
 ·exact .inl ⟨‹_›,h2.symm⟩
 ·rename_i hh;exact .inr ⟨by simpa using hh,h2.symm⟩
def zAW{b:Nat×aA}{j i' j':Nat}{c:Nat×aA}{d:Nat×aA}(h:tU a i j n b i' j' c=J d):∃q r,q<n/\c=(a.1,a.2++(i,j+q)::r):=by
 unfold tU at h;split at h
 ·rename_i hc;obtain⟨h1,t,h2⟩:=hc;split at h
  ·rename_i i1 j1 r he;split at h
   ·rename_i hh;obtain⟨rfl,h3,h4⟩:=hh;refine⟨j1-j,r,by omega,?_⟩;obtain⟨c1,c2⟩:=c;simp only at h1 h2 he⊢;subst h1;rw[<-h2]at he;simp only[Ot]at he;rw[<-h2,he];congr 4;omega
   ·cases h
  ·cases h
 ·cases h
def OR{r:List PV}(h:(ce pf s p).bind (lJ i)=J r)(q:Nat):ce pf s (p++[(i,q)])=r[q]? :=by
 simp only[bR]at h;obtain⟨z,h1,h2⟩:=h;rw[zxq,h1];exact zzg h2
def ztN(r:aq nt pin E0 E pf fr)(hfl:eb nt E fl){j:Nat}{vs:Array Value}(hs:s<nt)(hl:vs.toList.length=n)
(hw:∀q y,vs.toList[q]? =J y->Wk E fr s (p++[(i,j+q)]) y)
(hj:JB pf s p i j (((ce pf s p).bind (lJ i)).bind (wU j n))=J (y,pf')):∃E',E'.H=E.H/\aq nt pin E0 E' pf' fr/\eb nt E' (fl++[(y,.agg vs)]):=by
 unfold JB at hj;split at hj
 ·rename_i o xs gv;simp only[bR]at gv;obtain⟨row,d7,qN⟩:=gv;have TY:(ce pf s p).bind (lJ i)=J row:=by simp only[bR];exact d7
  unfold wU at qN;split at qN
  ·rename_i cV;simp only[aT,PV.agg.injEq]at qN;have g9:xs.length=n:=by rw[<-qN];simp;omega
   have ib:∀q x,xs[q]? =J x->ce pf s (p++[(i,j+q)])=J x:=by
    intro q x hq;rw[OR TY];rw[<-qN,l6]at hq;split at hq
    ·rw[jd]at hq;exact hq
    ·cases hq
   have eV:∀q x v,xs[q]? =J x->vs.toList[q]? =J v->PR E (J (s,p++[(i,j+q)])) x v:=by
    intro q x v hq hv;by_cases hx:x=.au
    ·subst hx;exact .au v
    ·obtain⟨v',w1,w2⟩:=r.at (ib q x hq) hx (.inl K5);rw[w1.same (hw q v hv)]at w2;exact w2
   split at hj
   ·rename_i ho;simp only[bN,b9]at hj;obtain⟨aQ,h1,rfl,rfl⟩:=hj;have hne:xs≠[]:=by rintro rfl;simp[ziA]at ho
    have hf:∀c:Nat×aA,c.1≠s->tU (s,p) i j n (nt,[(0,fl.length)]) 0 0 c=ae:=λc hc=>WV hc
    refine⟨E.rl (tU (s,p) i j n (nt,[(0,fl.length)]) 0 0),rfl,?_,?_⟩
    ·refine r.Rs hs (by simpa using hne) h1 rfl nD dO (λt _ ht=>iR λq=>hf _ ht) (λid bY=>?_) (λid q g1 g2 g3=>⟨?_,g2⟩) λt z v g1 g2=>?_
     ·obtain⟨g1,g2⟩:=r.fresh id bY;exact⟨by simp[Env.rl,g1],g2⟩
     ·have:tf p i j n q:=by rw[Gu,g9]at g3;exact g3
      have:=zBw (a:=(s,p)) (b:=(nt,[(0,fl.length)])) (i':=0) (j':=0) this;simp[Env.rl,g1,this]
     ·obtain⟨x,hq,hz⟩:=zxM g1;rcases hz with⟨_,rfl⟩|⟨ho',rfl⟩
      ·exact .au v
      ·have mQ:t<vs.toList.length:=by have:=(cT.1 hq).1;omega
       have hv:=cE mQ;have:=(hw t _ hv).same g2;rw[this]at hv;exact((eV t z v hq hv).free ho').mono dO
    ·refine(hfl.stay dO (iR λq=>hf _ (by show nt≠s;omega))).snoc (.agg (by rw[g9,hl]) λq x v hq hv=>?_);have Kd:q<n:=by have:=(cT.1 hq).1;omega
     refine(eV q x v hq hv).move dO (lq λr=>?_);have:=zym (a:=(s,p)) (b:=(nt,[(0,fl.length)])) (i:=i) (j:=j) (n:=n) (i':=0) (j':=0) Kd r;simpa[cO]using this
   ·rename_i ho;cases hj;refine⟨E,rfl,r,M1 hfl (l:=ae) (.agg (by rw[g9,hl]) λq x v hq hv=>?_) (by simpa using ho)⟩;have ho':bL (.agg xs)=aa:=by simpa using ho
    rw[ziA,Kx]at ho';exact(eV q x v hq hv).free (by simpa using ho' x (eo hq))
  ·cases qN
 ·cases hj
def zR{l:Lo}{es bw off c:Nat}{rows:List (List PV)}{o:Bool}(h:PR E l (.sl o es rows) (.slice (J ⟨id,off,J bw⟩) n c)):es=bw:=by
 generalize hx:PV.sl o es rows=x at h;cases h<;>cases hx<;>rfl
def zsE(r:aq nt pin E0 E pf fr)(hfl:eb nt E fl){lo hi:Nat}{t:Nat}(hs:s<nt)
(hf:n8 E (.rv s p lo hi) fr t)(hj:FY pf s p lo hi (ce pf s p)=J (y,pf')):∃v E',fr t=.v v/\E'.H=E.H/\aq nt pin E0 E' pf' fr/\eb nt E' (fl++[(y,v)]):=by
 unfold FY at hj;split at hj
 ·rename_i o es rows hx;split at hj
  ·rename_i hb;obtain⟨eI,fV⟩:=hb;rcases hf with⟨h1,h2,rfl,rfl⟩|⟨id,off,bw,n,c,h1,h2,h3,h4⟩
   ·
    obtain⟨v0,w1,w2⟩:=r.at hx (by simp) (jc r h1 hx);have:=w1.same h1;subst this;rw[aB rfl]at hj;simp only[bN,b9]at hj;obtain⟨aQ,k1,rfl,rfl⟩:=hj;obtain⟨v',E',a1,a2,a3,a4⟩:=r.M8 hfl hs hx (by simp) (jc r h1 hx) k1;have:=a1.same h1;subst this;refine⟨_,E',h2,a2,a3,?_⟩;have Ly:=a4 fl.length (.sl Z es rows) (.slice ae 0 0) (by simp);have IX:eb nt E' fl:=λk x v hk=>a4 k x v (by rw[fw (cT.1 hk).1];exact hk)
    exact IX.snoc (.sl0 Z es)
   ·have dL:=jc r h1 hx;split at hj
    ·rename_i hlo;subst hlo;simp only[bN,b9]at hj;obtain⟨aQ,k1,rfl,rfl⟩:=hj;obtain⟨v',E',a1,a2,a3,a4⟩:=r.M8 hfl hs hx (by simp) dL k1;have:=a1.same h1;subst this;refine⟨_,E',h4,a2,a3,?_⟩;have Ly:=a4 fl.length (.sl Z es rows) (.slice (J ⟨id,off,J bw⟩) n c) (by simp);have IX:eb nt E' fl:=λk x v hk=>a4 k x v (by rw[fw (cT.1 hk).1];exact hk)
     obtain⟨_,e2,e3⟩:=Ly.Aa4 h3;refine IX.snoc ?_;simpa using e3
    ·rename_i hlo;simp only[bN,b9]at hj;obtain⟨aQ,k1,rfl,rfl⟩:=hj;obtain⟨v',a1,a2,a3⟩:=r.Ei hs hx (by simp) dL k1;have:=a1.same h1;subst this;refine⟨_,E.fz (s,p),h4,rfl,a2,?_⟩;rw[zjB]at a3;obtain⟨_,e1,e2,e3⟩:=a3.cut h2 h3
     exact(hfl.stay pP (yW (by show nt≠s;omega))).snoc (by
      have ee:es=bw:=zR a3;subst ee
      exact e3.up)
  ·cases hj
 ·rename_i o es rows hx;split at hj
  ·rename_i hb;obtain⟨eI,fV⟩:=hb;cases hj;rcases hf with⟨h1,h2,rfl,rfl⟩|⟨id,off,bw,n,c,h1,h2,h3,h4⟩
   ·exact⟨_,E,h2,rfl,r,M1 hfl (l:=ae) (by simpa using PR.sl0 (E:=E) aa es) (by simp[zkE])⟩
   ·obtain⟨v',w1,w2⟩:=r.at hx (by simp) (jc r h1 hx);have:=w1.same h1;subst this;obtain⟨_,e1,e2,e3⟩:=w2.cut h2 h3;have ee:es=bw:=zR w2;subst ee;exact⟨_,E,h4,rfl,r,M1 hfl e3 (by simp[zkE])⟩
  ·cases hj
 ·cases hj
def zzy(r:aq nt pin E0 E pf fr){t:Nat}(h:ll pf t (pf t)=J (y,pf')):t<nt:=by
 rcases dK t nt with h1|h1
 ·exact h1
 ·rw[r.hi t h1]at h;simp[ll,jP,AP,dv]at h
def um(r:aq nt pin E0 E pf fr)(hfl:eb nt E fl){ez:Nat}{x:Operand}(h:ew ez pf x=J (y,pf')):
 ∃v ai H' E',bh fr E.H x=J (v,ai,H')/\E'.H=H'/\aq nt pin E0 E' pf' ai/\eb nt E' (fl++[(y,v)]):=by
 cases x with
 |const c=>
  simp only[ew]at h;split at h
  ·rename_i hc;cases h;exact⟨c,fr,E.H,E,by simp[bh,be,hc],rfl,r,hfl.snoc (Hr hc _)⟩
  ·cases h
 |func f=>
  simp only[ew,aT,b9]at h;obtain⟨rfl,rfl⟩:=h;exact⟨.func (.func f) #[] #[],fr,E.H,E,by simp[bh,be],rfl,r,hfl.snoc (.func _ rfl rfl (λi x y h=>by simp at h) (λi x y h=>by simp at h))⟩
 |global g=>simp[ew]at h
 |tmp t=>
  simp only[ew]at h;have ht:=zzy r h;have hf:=r.f t;cases aD:pf t with
  |v x=>
   rw[aD]at h hf;simp only[ll,AP]at h;split at h
   ·cases h
   ·rename_i hj;have hx:=nX (by simpa using hj);obtain⟨v,h1,h2⟩:=ga hf hx;obtain⟨E',e1,e2,e3⟩:=XX r hfl (s:=t) (p:=[]) (v:=v) ht (by simp[ce,aD,fB,iM]) hx (.inl ⟨v,h1,rfl⟩) h;exact⟨v,fr,E.H,E',by simp[bh,h1],e1,e2,e3⟩
  |rf s p=>
   rw[aD]at h hf;simp only[ll,G9]at h;obtain⟨v,h1,h2⟩:=hf;split at h
   ·rename_i x hx;split at h
    ·cases h
    ·rename_i hj;obtain⟨E',e1,e2,e3⟩:=XX r hfl (r.rt t s (by rw[aD];rfl)) hx (nX (by simpa using hj)) h2 h;exact⟨v,fr,E.H,E',by simp[bh,h1],e1,e2,e3⟩
   ·cases h
  |rv s p lo hi=>
   rw[aD]at h hf;obtain⟨v,E',e0,e1,e2,e3⟩:=zsE r hfl (r.rt t s (by rw[aD];rfl)) hf h;exact⟨v,fr,E.H,E',by simp[bh,e0],e1,e2,e3⟩
  |ra s p i j n=>
   rw[aD]at h hf;obtain⟨vs,h1,h2,h3⟩:=hf;obtain⟨E',e1,e2,e3⟩:=ztN r hfl (r.rt t s (by rw[aD];rfl)) h2.1 h3 h;exact⟨.agg vs,fr,E.H,E',by simp[bh,h1],e1,e2,e3⟩
  |ls es rows=>
   rw[aD]at h hf;simp only[ll,aT,b9]at h;obtain⟨rfl,rfl⟩:=h;obtain⟨cells,c1,c2,c3,c4,c5⟩:=hf;have ok:=r.ok;refine⟨_,_,_,E.push ⟨Z,cells⟩ (nt,[(0,fl.length)]) (fa (t,[]) (nt,[(0,fl.length)])),by simp[bh,c1];exact⟨rfl,rfl,rfl⟩,rfl,?_,?_⟩
   ·refine r.qV ht ok.nl (λs hs dH=>ok.m8 λq=>kF dH) (λL hL=>absurd hL (A0 _)) (λs hs=>by simp[FR.put,hs]) (λh=>absurd h (yz _)) ok.uL ok.push.wf ok.push.fresh (λ_ _ h1 h2=>by rw[c1]at h1;cases h1) yn rfl λk v hk=>?_
    have:=r.pin k v hk;have hne:k≠t:=λe=>by rw[e,c1]at this;cases this
    simpa[FR.put,hne]using this
   ·refine(hfl.stay ok.nl (ok.m8 λq=>kF (by show nt≠t;omega))).snoc ?_;refine .fk zhw ok.xN yl rfl rfl (cy _) c3.1 c4 ⟨⟨c3.2,rfl⟩,by rw[gk,c2];exact cy _⟩ λi rw j x y g1 g2 g3=>?_
    rw[gk]at g3;refine(c5 i rw j x y g1 g2 g3).move ok.nl (ok.PJ λq=>?_);have:=zgr (t,[]) (nt,[(0,fl.length)]) ((i,j)::q);simpa[cO]using this
  |_=>rw[aD]at h;simp[ll]at h
def Xa:∀{xs:List (Nat×Operand)}{E:Env}{pf pf':ah}{fr:FR}{fl:List (PV×Value)}{ys:List PV},aq nt pin E0 E pf fr->eb nt E fl->ph pf xs=J (ys,pf')->
 ∃vs ai H' E',ck fr E.H (xs.map (·.2))=J (vs,ai,H')/\E'.H=H'/\aq nt pin E0 E' pf' ai/\vs.length=ys.length/\ys.length=xs.length/\eb nt E' (fl++ys.zip vs):=by
 intro xs;induction xs with
 |nil=>
  intro E pf pf' fr fl ys r hfl h;simp only[ph,aT,b9]at h;obtain⟨rfl,rfl⟩:=h;exact⟨[],fr,E.H,E,rfl,rfl,r,rfl,rfl,by simpa using hfl⟩
 |cons x xs ih=>
  intro E pf pf' fr fl ys r hfl h;simp only[ph,bR,bN,b9]at h;obtain⟨⟨y,aQ⟩,h1,⟨QD,bW⟩,h2,rfl,rfl⟩:=h;obtain⟨v,fr1,H1,E1,m1,e1,r1,f1⟩:=um r hfl h1;obtain⟨vs,dJ,H2,E2,m2,e2,r2,l2,l3,f2⟩:=ih r1 f1 h2;refine⟨v::vs,dJ,H2,E2,?_,e2,r2,by simp[l2],by simp[l3],by simpa using f2⟩;rw[e1]at m2;simp[ck,m1,m2]
end
end Go.Pm
