import Derived.Test.YtnojafnlicbhpaaGreatPmF
open Bool renaming false→aa,true→Z
open Option renaming none→ae,some→J
set_option linter.defProp false
namespace Go.Pm
open Go.Am
section
variable {nt:Nat}{pin:List (Nat×Value)}{E0 E E':Env}{pf:ah}{fr ak:FR}
def Env.push(E:Env)(b:mD)(a:Nat×aC)(f:Nat×aC->Option (Nat×aC)):Env:=
 ⟨E.H.push b,E.G,λid=>if id=E.H.n then J a else(E.ow id).map λx=>(f x).getD x⟩
structure ey (E:Env):Prop where
 wf:mJ E.H
 fresh:∀id,E.H.n<=id->E.ow id=ae/\¬E.G id
variable{a:Nat×aC}{b:mD}{f:Nat×aC->Option (Nat×aC)}{fl:List (PV×Value)}{i id n s:Nat}{p:aC}{pf':ah}{y:PV}
def av.ok(r:av nt pin E0 E pf fr):ey E:=⟨r.wf,r.fresh⟩
def ey.lt(h:ey E){c:Nat×aC}(ho:E.ow id=J c):id<E.H.n:=by
 rcases dQ id E.H.n with h1|h1
 ·exact h1
 ·rw[(h.fresh id h1).1]at ho;cases ho
def ey.ZK(h:ey E)(hG:E.G id):id<E.H.n:=by
 rcases dQ id E.H.n with h1|h1
 ·exact h1
 ·exact absurd hG (h.fresh id h1).2
def N3(h:id<E.H.n):(E.push b a f).H.b id=E.H.b id:=by
 simp[Env.push,AH.push,td h]
def xV :(E.push b a f).H.b E.H.n=J b:=by simp[Env.push,AH.push]
def zhD :(E.push b a f).ow E.H.n=J a:=by simp[Env.push]
def ey.push(h:ey E) :ey (E.push b a f):=by
 refine⟨λid k hk=>?_,λid b9=>?_⟩
 ·simp only[Env.push,AH.push]at hk⊢;split at hk
  ·omega
  ·have:=h.wf id k hk;omega
 ·have b9:E.H.n+1<=id:=b9;obtain⟨h1,h2⟩:=h.fresh id (by omega);exact⟨by simp only[Env.push];rw[aB (by omega),h1];rfl,h2⟩
def ey.nw(h:ey E) :GK E (E.push b a f):=λ_ hG=>⟨hG,λk hk=>⟨k,(N3 (h.ZK hG)).trans hk,rfl⟩⟩
def ey.wM(h:ey E) :gn E (E.push b a f):=
 ⟨Et _,h.nw,λid h1 h2=>⟨by simp only[Env.push];rw[aB (td h1),h2];rfl,N3 h1,λh=>h⟩⟩
def ey.xR(h:ey E) :¬(E.push b a f).G E.H.n:=(h.fresh _ (cB _)).2
def ey.Sg(h:ey E){bl:mD}{n:Nat×aC}{b:Nat×aC}(hf:∀r,f (a.1,a.2++r)=J (b.1,b.2++r)):dC E (E.push bl n f) (J a) (J b):=
 λid r h1 h2=>⟨by simp only[Env.push];rw[aB (td (h.lt h1)),h1];simp[hf],h2,N3 (h.lt h1)⟩
def ey.nL(h:ey E){bl:mD}{n:Nat×aC}(hf:∀r,f (a.1,a.2++r)=ae):dC E (E.push bl n f) (J a) (J a):=
 λid r h1 h2=>⟨by simp only[Env.push];rw[aB (td (h.lt h1)),h1];simp[hf],h2,N3 (h.lt h1)⟩
def YH(r:av nt pin E0 E pf fr)(hfl:ep nt E fl){x:PV}{v:Value}(hs:s<nt)(h:cn pf s p=J x)(hx:x≠.ax)(hw:Wk E fr s p v)
(hj:An (bN x) x pf s p=J (y,pf')):∃E',E'.H=E.H/\av nt pin E0 E' pf' fr/\ep nt E' (fl++[(y,v)]):=by
 have hp:=jn r hw h;unfold An at hj;split at hj
 ·simp only[bP,cg]at hj;obtain⟨aR,h1,rfl,rfl⟩:=hj;obtain⟨v',E',w1,w2,w3,w4⟩:=r.P5 hfl hs h hx hp h1;have:=w1.same hw;subst this;exact⟨E',w2,w3,w4⟩
 ·rename_i ho;cases hj;obtain⟨v',w1,w2⟩:=r.at h hx hp;have:=w1.same hw;subst this;exact⟨E,rfl,r,OK hfl w2 (by simpa using ho)⟩
def zx9{xs:List PV}{q:Nat}{z:PV}(h:(xs.map Jo)[q]? =J z):∃x,xs[q]? =J x/\((bN x=Z/\z=.ax)\/(bN x=aa/\z=x)):=by
 obtain⟨x,h1,h2⟩:=mC h;refine⟨x,h1,?_⟩;unfold Jo at h2;split at h2
 ·exact .inl ⟨‹_›,h2.symm⟩
 ·rename_i hh;exact .inr ⟨by simpa using hh,h2.symm⟩
def zA4{b:Nat×aC}{j i' j':Nat}{c:Nat×aC}{d:Nat×aC}(h:tY a i j n b i' j' c=J d):∃q r,q<n/\c=(a.1,a.2++(i,j+q)::r):=by
 unfold tY at h;split at h
 ·rename_i hc;obtain⟨h1,t,h2⟩:=hc;split at h
  ·rename_i i1 j1 r he;split at h
   ·rename_i hh;obtain⟨rfl,h3,h4⟩:=hh;refine⟨j1-j,r,by omega,?_⟩;obtain⟨c1,c2⟩:=c;simp only at h1 h2 he⊢;subst h1;rw[<-h2]at he;simp only[Qd]at he;rw[<-h2,he];congr 4;omega
   ·cases h
  ·cases h
 ·cases h
def Vu{r:List PV}(h:(cn pf s p).bind (lL i)=J r)(q:Nat):cn pf s (p++[(i,q)])=r[q]? :=by
 simp only[bW]at h;obtain⟨z,h1,h2⟩:=h;rw[zyB,h1];exact zza h2
def zti(r:av nt pin E0 E pf fr)(hfl:ep nt E fl){j:Nat}{vs:Array Value}(hs:s<nt)(hl:vs.toList.length=n)
(hw:∀q y,vs.toList[q]? =J y->Wk E fr s (p++[(i,j+q)]) y)
(hj:K3 pf s p i j (((cn pf s p).bind (lL i)).bind (zk j n))=J (y,pf')):∃E',E'.H=E.H/\av nt pin E0 E' pf' fr/\ep nt E' (fl++[(y,.agg vs)]):=by
 unfold K3 at hj;split at hj
 ·rename_i o xs gM;simp only[bW]at gM;obtain⟨row,en,qV⟩:=gM;have TX:(cn pf s p).bind (lL i)=J row:=by simp only[bW];exact en
  unfold zk at qV;split at qV
  ·rename_i da;simp only[aT,PV.agg.injEq]at qV;have iv:xs.length=n:=by rw[<-qV];simp;omega
   have iP:∀q x,xs[q]? =J x->cn pf s (p++[(i,j+q)])=J x:=by
    intro q x hq;rw[Vu TX];rw[<-qV,mu]at hq;split at hq
    ·rw[jw]at hq;exact hq
    ·cases hq
   have fg:∀q x v,xs[q]? =J x->vs.toList[q]? =J v->PR E (J (s,p++[(i,j+q)])) x v:=by
    intro q x v hq hv;by_cases hx:x=.ax
    ·subst hx;exact .ax v
    ·obtain⟨v',w1,w2⟩:=r.at (iP q x hq) hx (.inl P2);rw[w1.same (hw q v hv)]at w2;exact w2
   split at hj
   ·rename_i ho;simp only[bP,cg]at hj;obtain⟨aR,h1,rfl,rfl⟩:=hj;have hne:xs≠[]:=by rintro rfl;simp[ziI]at ho
    have hf:∀c:Nat×aC,c.1≠s->tY (s,p) i j n (nt,[(0,fl.length)]) 0 0 c=ae:=λc hc=>zx1 hc
    refine⟨E.rl (tY (s,p) i j n (nt,[(0,fl.length)]) 0 0),rfl,?_,?_⟩
    ·refine r.SK hs (by simpa using hne) h1 rfl oi dU (λt _ ht=>jh λq=>hf _ ht) (λid b9=>?_) (λid q g1 g2 g3=>⟨?_,g2⟩) λt z v g1 g2=>?_
     ·obtain⟨g1,g2⟩:=r.fresh id b9;exact⟨by simp[Env.rl,g1],g2⟩
     ·have:tV p i j n q:=by rw[HJ,iv]at g3;exact g3
      have:=zBr (a:=(s,p)) (b:=(nt,[(0,fl.length)])) (i':=0) (j':=0) this;simp[Env.rl,g1,this]
     ·obtain⟨x,hq,hz⟩:=zx9 g1;rcases hz with⟨_,rfl⟩|⟨ho',rfl⟩
      ·exact .ax v
      ·have nC:t<vs.toList.length:=by have:=(cY.1 hq).1;omega
       have hv:=cJ nC;have:=(hw t _ hv).same g2;rw[this]at hv;exact((fg t z v hq hv).free ho').mono dU
    ·refine(hfl.stay dU (jh λq=>hf _ (by show nt≠s;omega))).snoc (.agg (by rw[iv,hl]) λq x v hq hv=>?_);have Lt:q<n:=by have:=(cY.1 hq).1;omega
     refine(fg q x v hq hv).move dU (lF λr=>?_);have:=zxT (a:=(s,p)) (b:=(nt,[(0,fl.length)])) (i:=i) (j:=j) (n:=n) (i':=0) (j':=0) Lt r;simpa[cS]using this
   ·rename_i ho;cases hj;refine⟨E,rfl,r,OK hfl (l:=ae) (.agg (by rw[iv,hl]) λq x v hq hv=>?_) (by simpa using ho)⟩;have ho':bN (.agg xs)=aa:=by simpa using ho
    rw[ziI,L2]at ho';exact(fg q x v hq hv).free (by simpa using ho' x (eA hq))
  ·cases qV
 ·cases hj
def AW{l:Lo}{es bA off c:Nat}{rows:List (List PV)}{o:Bool}(h:PR E l (.sl o es rows) (.slice (J ⟨id,off,J bA⟩) n c)):es=bA:=by
 generalize hx:PV.sl o es rows=x at h;cases h<;>cases hx<;>rfl
def ztt(r:av nt pin E0 E pf fr)(hfl:ep nt E fl){lo hi:Nat}{t:Nat}(hs:s<nt)
(hf:oL E (.rv s p lo hi) fr t)(hj:GP pf s p lo hi (cn pf s p)=J (y,pf')):∃v E',fr t=.v v/\E'.H=E.H/\av nt pin E0 E' pf' fr/\ep nt E' (fl++[(y,v)]):=by
 unfold GP at hj;split at hj
 ·rename_i o es rows hx;split at hj
  ·rename_i hb;obtain⟨eS,gv⟩:=hb;rcases hf with⟨h1,h2,rfl,rfl⟩|⟨id,off,bA,n,c,h1,h2,h3,h4⟩
   ·
    obtain⟨v0,w1,w2⟩:=r.at hx (by simp) (jn r h1 hx);have:=w1.same h1;subst this;rw[aD rfl]at hj;simp only[bP,cg]at hj;obtain⟨aR,k1,rfl,rfl⟩:=hj;obtain⟨v',E',a1,a2,a3,a4⟩:=r.P5 hfl hs hx (by simp) (jn r h1 hx) k1;have:=a1.same h1;subst this;refine⟨_,E',h2,a2,a3,?_⟩;have MH:=a4 fl.length (.sl Z es rows) (.slice ae 0 0) (by simp);have JY:ep nt E' fl:=λk x v hk=>a4 k x v (by rw[fM (cY.1 hk).1];exact hk)
    exact JY.snoc (.sl0 Z es)
   ·have dR:=jn r h1 hx;split at hj
    ·rename_i hlo;subst hlo;simp only[bP,cg]at hj;obtain⟨aR,k1,rfl,rfl⟩:=hj;obtain⟨v',E',a1,a2,a3,a4⟩:=r.P5 hfl hs hx (by simp) dR k1;have:=a1.same h1;subst this;refine⟨_,E',h4,a2,a3,?_⟩;have MH:=a4 fl.length (.sl Z es rows) (.slice (J ⟨id,off,J bA⟩) n c) (by simp);have JY:ep nt E' fl:=λk x v hk=>a4 k x v (by rw[fM (cY.1 hk).1];exact hk)
     obtain⟨_,e2,e3⟩:=MH.a2d h3;refine JY.snoc ?_;simpa using e3
    ·rename_i hlo;simp only[bP,cg]at hj;obtain⟨aR,k1,rfl,rfl⟩:=hj;obtain⟨v',a1,a2,a3⟩:=r.Hk hs hx (by simp) dR k1;have:=a1.same h1;subst this;refine⟨_,E.fz (s,p),h4,rfl,a2,?_⟩;rw[zjJ]at a3;obtain⟨_,e1,e2,e3⟩:=a3.cut h2 h3
     exact(hfl.stay p9 (Bb (by show nt≠s;omega))).snoc (by
      have ee:es=bA:=AW a3;subst ee
      exact e3.up)
  ·cases hj
 ·rename_i o es rows hx;split at hj
  ·rename_i hb;obtain⟨eS,gv⟩:=hb;cases hj;rcases hf with⟨h1,h2,rfl,rfl⟩|⟨id,off,bA,n,c,h1,h2,h3,h4⟩
   ·exact⟨_,E,h2,rfl,r,OK hfl (l:=ae) (by simpa using PR.sl0 (E:=E) aa es) (by simp[zkB])⟩
   ·obtain⟨v',w1,w2⟩:=r.at hx (by simp) (jn r h1 hx);have:=w1.same h1;subst this;obtain⟨_,e1,e2,e3⟩:=w2.cut h2 h3;have ee:es=bA:=AW w2;subst ee;exact⟨_,E,h4,rfl,r,OK hfl e3 (by simp[zkB])⟩
  ·cases hj
 ·cases hj
def zyJ(r:av nt pin E0 E pf fr){t:Nat}(h:mn pf t (pf t)=J (y,pf')):t<nt:=by
 rcases dQ t nt with h1|h1
 ·exact h1
 ·rw[r.hi t h1]at h;simp[mn,jP,Ag,dB]at h
def wb(r:av nt pin E0 E pf fr)(hfl:ep nt E fl){ez:Nat}{x:Operand}(h:eB ez pf x=J (y,pf')):
 ∃v ak H' E',bg fr E.H x=J (v,ak,H')/\E'.H=H'/\av nt pin E0 E' pf' ak/\ep nt E' (fl++[(y,v)]):=by
 cases x with
 |const c=>
  simp only[eB]at h;split at h
  ·rename_i hc;cases h;exact⟨c,fr,E.H,E,by simp[bg,be,hc],rfl,r,hfl.snoc (H3 hc _)⟩
  ·cases h
 |func f=>
  simp only[eB,aT,cg]at h;obtain⟨rfl,rfl⟩:=h;exact⟨.func (.func f) #[] #[],fr,E.H,E,by simp[bg,be],rfl,r,hfl.snoc (.func _ rfl rfl (λi x y h=>by simp at h) (λi x y h=>by simp at h))⟩
 |global g=>simp[eB]at h
 |tmp t=>
  simp only[eB]at h;have ht:=zyJ r h;have hf:=r.f t;cases aF:pf t with
  |v x=>
   rw[aF]at h hf;simp only[mn,Ag]at h;split at h
   ·cases h
   ·rename_i hj;have hx:=oT (by simpa using hj);obtain⟨v,h1,h2⟩:=gA hf hx;obtain⟨E',e1,e2,e3⟩:=YH r hfl (s:=t) (p:=[]) (v:=v) ht (by simp[cn,aF,fV,jb]) hx (.inl ⟨v,h1,rfl⟩) h;exact⟨v,fr,E.H,E',by simp[bg,h1],e1,e2,e3⟩
  |rf s p=>
   rw[aF]at h hf;simp only[mn,Lq]at h;obtain⟨v,h1,h2⟩:=hf;split at h
   ·rename_i x hx;split at h
    ·cases h
    ·rename_i hj;obtain⟨E',e1,e2,e3⟩:=YH r hfl (r.rt t s (by rw[aF];rfl)) hx (oT (by simpa using hj)) h2 h;exact⟨v,fr,E.H,E',by simp[bg,h1],e1,e2,e3⟩
   ·cases h
  |rv s p lo hi=>
   rw[aF]at h hf;obtain⟨v,E',e0,e1,e2,e3⟩:=ztt r hfl (r.rt t s (by rw[aF];rfl)) hf h;exact⟨v,fr,E.H,E',by simp[bg,e0],e1,e2,e3⟩
  |ra s p i j n=>
   rw[aF]at h hf;obtain⟨vs,h1,h2,h3⟩:=hf;obtain⟨E',e1,e2,e3⟩:=zti r hfl (r.rt t s (by rw[aF];rfl)) h2.1 h3 h;exact⟨.agg vs,fr,E.H,E',by simp[bg,h1],e1,e2,e3⟩
  |ls es rows=>
   rw[aF]at h hf;simp only[mn,aT,cg]at h;obtain⟨rfl,rfl⟩:=h;obtain⟨cells,c1,c2,c3,c4,c5⟩:=hf;have ok:=r.ok;refine⟨_,_,_,E.push ⟨Z,cells⟩ (nt,[(0,fl.length)]) (fq (t,[]) (nt,[(0,fl.length)])),by simp[bg,c1];exact⟨rfl,rfl,rfl⟩,rfl,?_,?_⟩
   ·refine r.rK ht ok.nw (λs hs dO=>ok.nL λq=>lq dO) (λL hL=>absurd hL (B0 _)) (λs hs=>by simp[FR.put,hs]) (λh=>absurd h (zB _)) ok.wM ok.push.wf ok.push.fresh (λ_ _ h1 h2=>by rw[c1]at h1;cases h1) yt rfl λk v hk=>?_
    have:=r.pin k v hk;have hne:k≠t:=λe=>by rw[e,c1]at this;cases this
    simpa[FR.put,hne]using this
   ·refine(hfl.stay ok.nw (ok.nL λq=>lq (by show nt≠t;omega))).snoc ?_;refine .fK zhD ok.xR xV rfl rfl (cB _) c3.1 c4 ⟨⟨c3.2,rfl⟩,by rw[gE,c2];exact cB _⟩ λi rw j x y g1 g2 g3=>?_
    rw[gE]at g3;refine(c5 i rw j x y g1 g2 g3).move ok.nw (ok.Sg λq=>?_);have:=zgu (t,[]) (nt,[(0,fl.length)]) ((i,j)::q);simpa[cS]using this
  |_=>rw[aF]at h;simp[mn]at h
def Xn:∀{xs:List (Nat×Operand)}{E:Env}{pf pf':ah}{fr:FR}{fl:List (PV×Value)}{ys:List PV},av nt pin E0 E pf fr->ep nt E fl->pS pf xs=J (ys,pf')->
 ∃vs ak H' E',cr fr E.H (xs.map (·.2))=J (vs,ak,H')/\E'.H=H'/\av nt pin E0 E' pf' ak/\vs.length=ys.length/\ys.length=xs.length/\ep nt E' (fl++ys.zip vs):=by
 intro xs;induction xs with
 |nil=>
  intro E pf pf' fr fl ys r hfl h;simp only[pS,aT,cg]at h;obtain⟨rfl,rfl⟩:=h;exact⟨[],fr,E.H,E,rfl,rfl,r,rfl,rfl,by simpa using hfl⟩
 |cons x xs ih=>
  intro E pf pf' fr fl ys r hfl h;simp only[pS,bW,bP,cg]at h;obtain⟨⟨y,aR⟩,h1,⟨QN,b7⟩,h2,rfl,rfl⟩:=h;obtain⟨v,fr1,H1,E1,m1,e1,r1,f1⟩:=wb r hfl h1;obtain⟨vs,dN,H2,E2,m2,e2,r2,l2,l3,f2⟩:=ih r1 f1 h2;refine⟨v::vs,dN,H2,E2,?_,e2,r2,by simp[l2],by simp[l3],by simpa using f2⟩;rw[e1]at m2;simp[cr,m1,m2]
end
end Go.Pm
