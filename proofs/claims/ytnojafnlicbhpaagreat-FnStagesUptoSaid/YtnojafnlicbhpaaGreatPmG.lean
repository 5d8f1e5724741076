import Derived.Test.YtnojafnlicbhpaaGreatPmF
namespace Go.Pm
set_option linter.defProp false
open Go.Am
open Bool renaming false→aa,true→Z
open Option renaming none→ae,some→J
section
variable {nt:Nat}{pin:List (Nat×Value)}{E0 E E':Env}{pf:ah}{fr ai:FR}
def Env.push(E:Env)(b:mD)(a:Nat×aA)(f:Nat×aA->Option (Nat×aA)):Env:=
 ⟨E.H.push b,E.G,λid=>if id=E.H.n then J a else(E.ow id).map λx=>(f x).getD x⟩
structure en (E:Env):Prop where
 wf:mj E.H
 fresh:∀id,E.H.n<=id->E.ow id=ae/\¬E.G id
variable{a:Nat×aA}{b:mD}{f:Nat×aA->Option (Nat×aA)}{fl:List (PV×Value)}{i id n s:Nat}{p:aA}{pf':ah}{y:PV}
def aq.ok(r:aq nt pin E0 E pf fr):en E:=⟨r.wf,r.fresh⟩
def en.lt(h:en E){c:Nat×aA}(ho:E.ow id=J c):id<E.H.n:=by
 rcases dK id E.H.n with h1|h1
 ·exact h1
 ·rw[(h.fresh id h1).1]at ho;cases ho
def en.ZH(h:en E)(hG:E.G id):id<E.H.n:=by
 rcases dK id E.H.n with h1|h1
 ·exact h1
 ·exact absurd hG (h.fresh id h1).2
def Mz(h:id<E.H.n):(E.push b a f).H.b id=E.H.b id:=by
 simp[Env.push,AH.push,sC h]
def xR :(E.push b a f).H.b E.H.n=J b:=by simp[Env.push,AH.push]
def zhy :(E.push b a f).ow E.H.n=J a:=by simp[Env.push]
def en.push(h:en E) :en (E.push b a f):=by
 refine⟨λid k hk=>?_,λid bY=>?_⟩
 ·simp only[Env.push,AH.push]at hk⊢;split at hk
  ·omega
  ·have:=h.wf id k hk;omega
 ·have bY:E.H.n+1<=id:=bY;obtain⟨h1,h2⟩:=h.fresh id (by omega);exact⟨by simp only[Env.push];rw[az (by omega),h1];rfl,h2⟩
def en.mP(h:en E) :GK E (E.push b a f):=λ_ hG=>⟨hG,λk hk=>⟨k,(Mz (h.ZH hG)).trans hk,rfl⟩⟩
def en.uX(h:en E) :fY E (E.push b a f):=
 ⟨C7 _,h.mP,λid h1 h2=>⟨by simp only[Env.push];rw[az (sC h1),h2];rfl,Mz h1,λh=>h⟩⟩
def en.yx(h:en E) :¬(E.push b a f).G E.H.n:=(h.fresh _ (cy _)).2
def en.Qx(h:en E){bl:mD}{n:Nat×aA}{b:Nat×aA}(hf:∀r,f (a.1,a.2++r)=J (b.1,b.2++r)):dt E (E.push bl n f) (J a) (J b):=
 λid r h1 h2=>⟨by simp only[Env.push];rw[az (sC (h.lt h1)),h1];simp[hf],h2,Mz (h.lt h1)⟩
def en.m9(h:en E){bl:mD}{n:Nat×aA}(hf:∀r,f (a.1,a.2++r)=ae):dt E (E.push bl n f) (J a) (J a):=
 λid r h1 h2=>⟨by simp only[Env.push];rw[az (sC (h.lt h1)),h1];simp[hf],h2,Mz (h.lt h1)⟩
def zpG(r:aq nt pin E0 E pf fr)(hfl:eb nt E fl){x:PV}{v:Value}(hs:s<nt)(h:cb pf s p=J x)(hx:x≠.au)(hw:Wk E fr s p v)
(hj:AB (bK x) x pf s p=J (y,pf')):∃E',E'.H=E.H/\aq nt pin E0 E' pf' fr/\eb nt E' (fl++[(y,v)]):=by
 have hp:=iP r hw h;unfold AB at hj;split at hj
 ·simp only[bN,b9]at hj;obtain⟨aQ,h1,rfl,rfl⟩:=hj;obtain⟨v',E',w1,w2,w3,w4⟩:=r.Of hfl hs h hx hp h1;have:=w1.same hw;subst this;exact⟨E',w2,w3,w4⟩
 ·rename_i ho;cases hj;obtain⟨v',w1,w2⟩:=r.at h hx hp;have:=w1.same hw;subst this;exact⟨E,rfl,r,MX hfl w2 (by simpa using ho)⟩
def zyf{xs:List PV}{q:Nat}{z:PV}(h:(xs.map Ha)[q]? =J z):∃x,xs[q]? =J x/\((bK x=Z/\z=.au)\/(bK x=aa/\z=x)):=by
 obtain⟨x,h1,h2⟩:=my h;refine⟨x,h1,?_⟩;unfold Ha at h2;split at h2
 ·exact .inl ⟨‹_›,h2.symm⟩
 ·rename_i hh;exact .inr ⟨by simpa using hh,h2.symm⟩
def zBC{b:Nat×aA}{j i' j':Nat}{c:Nat×aA}{d:Nat×aA}(h:te a i j n b i' j' c=J d):∃q r,q<n/\c=(a.1,a.2++(i,j+q)::r):=by
 unfold te at h;split at h
 ·rename_i hc;obtain⟨h1,t,h2⟩:=hc;split at h
  ·rename_i i1 j1 r he;split at h
   ·rename_i hh;obtain⟨rfl,h3,h4⟩:=hh;refine⟨j1-j,r,by omega,?_⟩;obtain⟨c1,c2⟩:=c;simp only at h1 h2 he⊢;subst h1;rw[<-h2]at he;simp only[Ot]at he;rw[<-h2,he];congr 4;omega
   ·cases h
  ·cases h
 ·cases h
def Qf{r:List PV}(h:(cb pf s p).bind (lv i)=J r)(q:Nat):cb pf s (p++[(i,q)])=r[q]? :=by
 simp only[bR]at h;obtain⟨z,h1,h2⟩:=h;rw[zyH,h1];exact zyL h2
def zs3(r:aq nt pin E0 E pf fr)(hfl:eb nt E fl){j:Nat}{vs:Array Value}(hs:s<nt)(hl:vs.toList.length=n)
(hw:∀q y,vs.toList[q]? =J y->Wk E fr s (p++[(i,j+q)]) y)
(hj:Ja pf s p i j (((cb pf s p).bind (lv i)).bind (wh j n))=J (y,pf')):∃E',E'.H=E.H/\aq nt pin E0 E' pf' fr/\eb nt E' (fl++[(y,.agg vs)]):=by
 unfold Ja at hj;split at hj
 ·rename_i o xs gx;simp only[bR]at gx;obtain⟨row,d8,qp⟩:=gx;have T8:(cb pf s p).bind (lv i)=J row:=by simp only[bR];exact d8
  unfold wh at qp;split at qp
  ·rename_i cU;simp only[aT,PV.agg.injEq]at qp;have gZ:xs.length=n:=by rw[<-qp];simp;omega
   have ir:∀q x,xs[q]? =J x->cb pf s (p++[(i,j+q)])=J x:=by
    intro q x hq;rw[Qf T8];rw[<-qp,l6]at hq;split at hq
    ·rw[jd]at hq;exact hq
    ·cases hq
   have eS:∀q x v,xs[q]? =J x->vs.toList[q]? =J v->PR E (J (s,p++[(i,j+q)])) x v:=by
    intro q x v hq hv;by_cases hx:x=.au
    ·subst hx;exact .au v
    ·obtain⟨v',w1,w2⟩:=r.at (ir q x hq) hx (.inl KR);rw[w1.same (hw q v hv)]at w2;exact w2
   split at hj
   ·rename_i ho;simp only[bN,b9]at hj;obtain⟨aQ,h1,rfl,rfl⟩:=hj;have hne:xs≠[]:=by rintro rfl;simp[ziK]at ho
    have hf:∀c:Nat×aA,c.1≠s->te (s,p) i j n (nt,[(0,fl.length)]) 0 0 c=ae:=λc hc=>Yk hc
    refine⟨E.rl (te (s,p) i j n (nt,[(0,fl.length)]) 0 0),rfl,?_,?_⟩
    ·refine r.Td hs (by simpa using hne) h1 rfl nF dO (λt _ ht=>iZ λq=>hf _ ht) (λid bY=>?_) (λid q g1 g2 g3=>⟨?_,g2⟩) λt z v g1 g2=>?_
     ·obtain⟨g1,g2⟩:=r.fresh id bY;exact⟨by simp[Env.rl,g1],g2⟩
     ·have:tT p i j n q:=by rw[Gu,gZ]at g3;exact g3
      have:=zBh (a:=(s,p)) (b:=(nt,[(0,fl.length)])) (i':=0) (j':=0) this;simp[Env.rl,g1,this]
     ·obtain⟨x,hq,hz⟩:=zyf g1;rcases hz with⟨_,rfl⟩|⟨ho',rfl⟩
      ·exact .au v
      ·have mS:t<vs.toList.length:=by have:=(cT.1 hq).1;omega
       have hv:=cE mS;have:=(hw t _ hv).same g2;rw[this]at hv;exact((eS t z v hq hv).free ho').mono dO
    ·refine(hfl.stay dO (iZ λq=>hf _ (by show nt≠s;omega))).snoc (.agg (by rw[gZ,hl]) λq x v hq hv=>?_);have H9:q<n:=by have:=(cT.1 hq).1;omega
     refine(eS q x v hq hv).move dO (lG λr=>?_);have:=WW (a:=(s,p)) (b:=(nt,[(0,fl.length)])) (i:=i) (j:=j) (n:=n) (i':=0) (j':=0) H9 r;simpa[cL]using this
   ·rename_i ho;cases hj;refine⟨E,rfl,r,MX hfl (l:=ae) (.agg (by rw[gZ,hl]) λq x v hq hv=>?_) (by simpa using ho)⟩;have ho':bK (.agg xs)=aa:=by simpa using ho
    rw[ziK,Kx]at ho';exact(eS q x v hq hv).free (by simpa using ho' x (eo hq))
  ·cases qp
 ·cases hj
def zO{l:Lo}{es bw off c:Nat}{rows:List (List PV)}{o:Bool}(h:PR E l (.sl o es rows) (.slice (J ⟨id,off,J bw⟩) n c)):es=bw:=by
 generalize hx:PV.sl o es rows=x at h;cases h<;>cases hx<;>rfl
def ztM(r:aq nt pin E0 E pf fr)(hfl:eb nt E fl){lo hi:Nat}{t:Nat}(hs:s<nt)
(hf:o0 E (.rv s p lo hi) fr t)(hj:FP pf s p lo hi (cb pf s p)=J (y,pf')):∃v E',fr t=.v v/\E'.H=E.H/\aq nt pin E0 E' pf' fr/\eb nt E' (fl++[(y,v)]):=by
 unfold FP at hj;split at hj
 ·rename_i o es rows hx;split at hj
  ·rename_i hb;obtain⟨eG,fW⟩:=hb;rcases hf with⟨h1,h2,rfl,rfl⟩|⟨id,off,bw,n,c,h1,h2,h3,h4⟩
   ·
    obtain⟨v0,w1,w2⟩:=r.at hx (by simp) (iP r h1 hx);have:=w1.same h1;subst this;rw[aB rfl]at hj;simp only[bN,b9]at hj;obtain⟨aQ,k1,rfl,rfl⟩:=hj;obtain⟨v',E',a1,a2,a3,a4⟩:=r.Of hfl hs hx (by simp) (iP r h1 hx) k1;have:=a1.same h1;subst this;refine⟨_,E',h2,a2,a3,?_⟩;have KM:=a4 fl.length (.sl Z es rows) (.slice ae 0 0) (by simp);have Jc:eb nt E' fl:=λk x v hk=>a4 k x v (by rw[fw (cT.1 hk).1];exact hk)
    exact Jc.snoc (.sl0 Z es)
   ·have dM:=iP r h1 hx;split at hj
    ·rename_i hlo;subst hlo;simp only[bN,b9]at hj;obtain⟨aQ,k1,rfl,rfl⟩:=hj;obtain⟨v',E',a1,a2,a3,a4⟩:=r.Of hfl hs hx (by simp) dM k1;have:=a1.same h1;subst this;refine⟨_,E',h4,a2,a3,?_⟩;have KM:=a4 fl.length (.sl Z es rows) (.slice (J ⟨id,off,J bw⟩) n c) (by simp);have Jc:eb nt E' fl:=λk x v hk=>a4 k x v (by rw[fw (cT.1 hk).1];exact hk)
     obtain⟨_,e2,e3⟩:=KM.AbH h3;refine Jc.snoc ?_;simpa using e3
    ·rename_i hlo;simp only[bN,b9]at hj;obtain⟨aQ,k1,rfl,rfl⟩:=hj;obtain⟨v',a1,a2,a3⟩:=r.Fa hs hx (by simp) dM k1;have:=a1.same h1;subst this;refine⟨_,E.fz (s,p),h4,rfl,a2,?_⟩;rw[zjF]at a3;obtain⟨_,e1,e2,e3⟩:=a3.cut h2 h3
     exact(hfl.stay pU (Az (by show nt≠s;omega))).snoc (by
      have ee:es=bw:=zO a3;subst ee
      exact e3.up)
  ·cases hj
 ·rename_i o es rows hx;split at hj
  ·rename_i hb;obtain⟨eG,fW⟩:=hb;cases hj;rcases hf with⟨h1,h2,rfl,rfl⟩|⟨id,off,bw,n,c,h1,h2,h3,h4⟩
   ·exact⟨_,E,h2,rfl,r,MX hfl (l:=ae) (by simpa using PR.sl0 (E:=E) aa es) (by simp[zkH])⟩
   ·obtain⟨v',w1,w2⟩:=r.at hx (by simp) (iP r h1 hx);have:=w1.same h1;subst this;obtain⟨_,e1,e2,e3⟩:=w2.cut h2 h3;have ee:es=bw:=zO w2;subst ee;exact⟨_,E,h4,rfl,r,MX hfl e3 (by simp[zkH])⟩
  ·cases hj
 ·cases hj
def zzS(r:aq nt pin E0 E pf fr){t:Nat}(h:lh pf t (pf t)=J (y,pf')):t<nt:=by
 rcases dK t nt with h1|h1
 ·exact h1
 ·rw[r.hi t h1]at h;simp[lh,jP,Ag,dr]at h
def uD(r:aq nt pin E0 E pf fr)(hfl:eb nt E fl){ez:Nat}{x:Operand}(h:ep ez pf x=J (y,pf')):
 ∃v ai H' E',bh fr E.H x=J (v,ai,H')/\E'.H=H'/\aq nt pin E0 E' pf' ai/\eb nt E' (fl++[(y,v)]):=by
 cases x with
 |const c=>
  simp only[ep]at h;split at h
  ·rename_i hc;cases h;exact⟨c,fr,E.H,E,by simp[bh,be,hc],rfl,r,hfl.snoc (JK hc _)⟩
  ·cases h
 |func f=>
  simp only[ep,aT,b9]at h;obtain⟨rfl,rfl⟩:=h;exact⟨.func (.func f) #[] #[],fr,E.H,E,by simp[bh,be],rfl,r,hfl.snoc (.func _ rfl rfl (λi x y h=>by simp at h) (λi x y h=>by simp at h))⟩
 |global g=>simp[ep]at h
 |tmp t=>
  simp only[ep]at h;have ht:=zzS r h;have hf:=r.f t;cases aE:pf t with
  |v x=>
   rw[aE]at h hf;simp only[lh,Ag]at h;split at h
   ·cases h
   ·rename_i hj;have hx:=oN (by simpa using hj);obtain⟨v,h1,h2⟩:=gi hf hx;obtain⟨E',e1,e2,e3⟩:=zpG r hfl (s:=t) (p:=[]) (v:=v) ht (by simp[cb,aE,fD,iF]) hx (.inl ⟨v,h1,rfl⟩) h;exact⟨v,fr,E.H,E',by simp[bh,h1],e1,e2,e3⟩
  |rf s p=>
   rw[aE]at h hf;simp only[lh,HO]at h;obtain⟨v,h1,h2⟩:=hf;split at h
   ·rename_i x hx;split at h
    ·cases h
    ·rename_i hj;obtain⟨E',e1,e2,e3⟩:=zpG r hfl (r.rt t s (by rw[aE];rfl)) hx (oN (by simpa using hj)) h2 h;exact⟨v,fr,E.H,E',by simp[bh,h1],e1,e2,e3⟩
   ·cases h
  |rv s p lo hi=>
   rw[aE]at h hf;obtain⟨v,E',e0,e1,e2,e3⟩:=ztM r hfl (r.rt t s (by rw[aE];rfl)) hf h;exact⟨v,fr,E.H,E',by simp[bh,e0],e1,e2,e3⟩
  |ra s p i j n=>
   rw[aE]at h hf;obtain⟨vs,h1,h2,h3⟩:=hf;obtain⟨E',e1,e2,e3⟩:=zs3 r hfl (r.rt t s (by rw[aE];rfl)) h2.1 h3 h;exact⟨.agg vs,fr,E.H,E',by simp[bh,h1],e1,e2,e3⟩
  |ls es rows=>
   rw[aE]at h hf;simp only[lh,aT,b9]at h;obtain⟨rfl,rfl⟩:=h;obtain⟨cells,c1,c2,c3,c4,c5⟩:=hf;have ok:=r.ok;refine⟨_,_,_,E.push ⟨Z,cells⟩ (nt,[(0,fl.length)]) (fg (t,[]) (nt,[(0,fl.length)])),by simp[bh,c1];exact⟨rfl,rfl,rfl⟩,rfl,?_,?_⟩
   ·refine r.qt ht ok.mP (λs hs dJ=>ok.m9 λq=>kO dJ) (λL hL=>absurd hL (A0 _)) (λs hs=>by simp[FR.put,hs]) (λh=>absurd h (yz _)) ok.uX ok.push.wf ok.push.fresh (λ_ _ h1 h2=>by rw[c1]at h1;cases h1) yg rfl λk v hk=>?_
    have:=r.pin k v hk;have hne:k≠t:=λe=>by rw[e,c1]at this;cases this
    simpa[FR.put,hne]using this
   ·refine(hfl.stay ok.mP (ok.m9 λq=>kO (by show nt≠t;omega))).snoc ?_;refine .fu zhy ok.yx xR rfl rfl (cy _) c3.1 c4 ⟨⟨c3.2,rfl⟩,by rw[gk,c2];exact cy _⟩ λi rw j x y g1 g2 g3=>?_
    rw[gk]at g3;refine(c5 i rw j x y g1 g2 g3).move ok.mP (ok.Qx λq=>?_);have:=zgp (t,[]) (nt,[(0,fl.length)]) ((i,j)::q);simpa[cL]using this
  |_=>rw[aE]at h;simp[lh]at h
def zoG:∀{xs:List (Nat×Operand)}{E:Env}{pf pf':ah}{fr:FR}{fl:List (PV×Value)}{ys:List PV},aq nt pin E0 E pf fr->eb nt E fl->pA pf xs=J (ys,pf')->
 ∃vs ai H' E',ck fr E.H (xs.map (·.2))=J (vs,ai,H')/\E'.H=H'/\aq nt pin E0 E' pf' ai/\vs.length=ys.length/\ys.length=xs.length/\eb nt E' (fl++ys.zip vs):=by
 intro xs;induction xs with
 |nil=>
  intro E pf pf' fr fl ys r hfl h;simp only[pA,aT,b9]at h;obtain⟨rfl,rfl⟩:=h;exact⟨[],fr,E.H,E,rfl,rfl,r,rfl,rfl,by simpa using hfl⟩
 |cons x xs ih=>
  intro E pf pf' fr fl ys r hfl h;simp only[pA,bR,bN,b9]at h;obtain⟨⟨y,aQ⟩,h1,⟨PY,bW⟩,h2,rfl,rfl⟩:=h;obtain⟨v,fr1,H1,E1,m1,e1,r1,f1⟩:=uD r hfl h1;obtain⟨vs,dH,H2,E2,m2,e2,r2,l2,l3,f2⟩:=ih r1 f1 h2;refine⟨v::vs,dH,H2,E2,?_,e2,r2,by simp[l2],by simp[l3],by simpa using f2⟩;rw[e1]at m2;simp[ck,m1,m2]
end
end Go.Pm
