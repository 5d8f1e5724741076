import Derived.Test.YtplemekcclpaoaaGreatDoorPmF
namespace Go.Pm
open Go.Am
section
variable {nt:Nat}{pin:List (Nat×Value)}{E0 E E':Env}{pf:PFr}{fr fr':FR}
def Env.push(E:Env)(b:Blk)(a:Nat×zad)(f:Nat×zad→Option (Nat×zad)):Env:=
 ⟨E.H.push b,E.G,fun id=>if id=E.H.n then some a else(E.ow id).map fun x=>(f x).getD x⟩
structure EnvOK (E:Env):Prop where
 wf:WFH E.H
 fresh:∀id,E.H.n≤id→E.ow id=none∧¬E.G id
variable{a:Nat×zad}{b:Blk}{f:Nat×zad→Option (Nat×zad)}{fl:List (PV×Value)}{i id n s:Nat}{p:zad}{pf':PFr}{y:PV}
theorem RelP.ok(r:RelP nt pin E0 E pf fr):EnvOK E:=⟨r.wf,r.fresh⟩
theorem EnvOK.lt(h:EnvOK E){c:Nat×zad}(ho:E.ow id=some c):id<E.H.n:=by
 rcases Nat.lt_or_ge id E.H.n with h1|h1
 ·exact h1
 ·rw[(h.fresh id h1).1]at ho;cases ho
theorem EnvOK.ltG(h:EnvOK E)(hG:E.G id):id<E.H.n:=by
 rcases Nat.lt_or_ge id E.H.n with h1|h1
 ·exact h1
 ·exact absurd hG (h.fresh id h1).2
theorem zk1(h:id<E.H.n):(E.push b a f).H.b id=E.H.b id:=by
 simp[Env.push,AH.push,Nat.ne_of_lt h]
theorem zfX :(E.push b a f).H.b E.H.n=some b:=by simp[Env.push,AH.push]
theorem zge :(E.push b a f).ow E.H.n=some a:=by simp[Env.push]
theorem EnvOK.push(h:EnvOK E) :EnvOK (E.push b a f):=by
 refine⟨fun id k hk=>?_,fun id hid=>?_⟩
 ·simp only[Env.push,AH.push]at hk⊢;split at hk
  ·omega
  ·have:=h.wf id k hk;omega
 ·have hid:E.H.n+1≤id:=hid;obtain⟨h1,h2⟩:=h.fresh id (by omega);exact⟨by simp only[Env.push];rw[if_neg (by omega),h1];rfl,h2⟩
theorem EnvOK.gk_push(h:EnvOK E) :GK E (E.push b a f):=fun _ hG=>⟨hG,fun k hk=>⟨k,(zk1 (h.ltG hG)).trans hk,rfl⟩⟩
theorem EnvOK.since_push(h:EnvOK E) :Since E (E.push b a f):=
 ⟨Nat.le_succ _,h.gk_push,fun id h1 h2=>⟨by simp only[Env.push];rw[if_neg (Nat.ne_of_lt h1),h2];rfl,zk1 h1,fun h=>h⟩⟩
theorem EnvOK.newG(h:EnvOK E) :¬(E.push b a f).G E.H.n:=(h.fresh _ (Nat.le_refl _)).2
theorem EnvOK.move_push(h:EnvOK E){bl:Blk}{n:Nat×zad}{b:Nat×zad}(hf:∀r,f (a.1,a.2++r)=some (b.1,b.2++r)):MoveOK E (E.push bl n f) (some a) (some b):=
 fun id r h1 h2=>⟨by simp only[Env.push];rw[if_neg (Nat.ne_of_lt (h.lt h1)),h1];simp[hf],h2,zk1 (h.lt h1)⟩
theorem EnvOK.stay_push(h:EnvOK E){bl:Blk}{n:Nat×zad}(hf:∀r,f (a.1,a.2++r)=none):MoveOK E (E.push bl n f) (some a) (some a):=
 fun id r h1 h2=>⟨by simp only[Env.push];rw[if_neg (Nat.ne_of_lt (h.lt h1)),h1];simp[hf],h2,zk1 (h.lt h1)⟩
theorem zn7(r:RelP nt pin E0 E pf fr)(hfl:FlOK nt E fl){x:PV}{v:Value}(hs:s<nt)(h:zaz pf s p=some x)(hx:x≠.junk)(hw:Wk E fr s p v)
(hj:zlZ (zaC x) x pf s p=some (y,pf')):∃E',E'.H=E.H∧RelP nt pin E0 E' pf' fr∧FlOK nt E' (fl++[(y,v)]):=by
 have hp:=zbc r hw h;unfold zlZ at hj;split at hj
 ·simp only[Option.map_eq_some_iff,Prod.mk.injEq]at hj;obtain⟨pf1,h1,rfl,rfl⟩:=hj;obtain⟨v',E',w1,w2,w3,w4⟩:=r.takeAt hfl hs h hx hp h1;have:=w1.same hw;subst this;exact⟨E',w2,w3,w4⟩
 ·rename_i ho;cases hj;obtain⟨v',w1,w2⟩:=r.at h hx hp;have:=w1.same hw;subst this;exact⟨E,rfl,r,zi9 hfl w2 (by simpa using ho)⟩
theorem zwM{xs:List PV}{q:Nat}{z:PV}(h:(xs.map zoX)[q]? =some z):∃x,xs[q]? =some x∧((zaC x=true∧z=.junk)∨(zaC x=false∧z=x)):=by
 obtain⟨x,h1,h2⟩:=zdZ h;refine⟨x,h1,?_⟩;unfold zoX at h2;split at h2
 ·exact .inl ⟨‹_›,h2.symm⟩
 ·rename_i hh;exact .inr ⟨by simpa using hh,h2.symm⟩
theorem zzN{b:Nat×zad}{j i' j':Nat}{c:Nat×zad}{d:Nat×zad}(h:rlC a i j n b i' j' c=some d):∃q r,q<n∧c=(a.1,a.2++(i,j+q)::r):=by
 unfold rlC at h;split at h
 ·rename_i hc;obtain⟨h1,t,h2⟩:=hc;split at h
  ·rename_i i1 j1 r he;split at h
   ·rename_i hh;obtain⟨rfl,h3,h4⟩:=hh;refine⟨j1-j,r,by omega,?_⟩;obtain⟨c1,c2⟩:=c;simp only at h1 h2 he⊢;subst h1;rw[←h2]at he;simp only[List.drop_left]at he;rw[←h2,he];congr 4;omega
   ·cases h
  ·cases h
 ·cases h
theorem zpT{r:List PV}(h:(zaz pf s p).bind (zfR i)=some r)(q:Nat):zaz pf s (p++[(i,q)])=r[q]? :=by
 simp only[Option.bind_eq_some_iff]at h;obtain⟨z,h1,h2⟩:=h;rw[zwn,h1];exact zyl h2
theorem zrW(r:RelP nt pin E0 E pf fr)(hfl:FlOK nt E fl){j:Nat}{vs:Array Value}(hs:s<nt)(hl:vs.toList.length=n)
(hw:∀q y,vs.toList[q]? =some y→Wk E fr s (p++[(i,j+q)]) y)
(hj:zlT pf s p i j (((zaz pf s p).bind (zfR i)).bind (zi7 j n))=some (y,pf')):∃E',E'.H=E.H∧RelP nt pin E0 E' pf' fr∧FlOK nt E' (fl++[(y,.agg vs)]):=by
 unfold zlT at hj;split at hj
 ·rename_i o xs hcut;simp only[Option.bind_eq_some_iff]at hcut;obtain⟨row,hrow,hraw⟩:=hcut;have hrow':(zaz pf s p).bind (zfR i)=some row:=by simp only[Option.bind_eq_some_iff];exact hrow
  unfold zi7 at hraw;split at hraw
  ·rename_i hle;simp only[Option.some.injEq,PV.agg.injEq]at hraw;have hxl:xs.length=n:=by rw[←hraw];simp;omega
   have hxs:∀q x,xs[q]? =some x→zaz pf s (p++[(i,j+q)])=some x:=by
    intro q x hq;rw[zpT hrow'];rw[←hraw,List.getElem?_take]at hq;split at hq
    ·rw[List.getElem?_drop]at hq;exact hq
    ·cases hq
   have hpr:∀q x v,xs[q]? =some x→vs.toList[q]? =some v→PR E (some (s,p++[(i,j+q)])) x v:=by
    intro q x v hq hv;by_cases hx:x=.junk
    ·subst hx;exact .junk v
    ·obtain⟨v',w1,w2⟩:=r.at (hxs q x hq) hx (.inl zog);rw[w1.same (hw q v hv)]at w2;exact w2
   split at hj
   ·rename_i ho;simp only[Option.map_eq_some_iff,Prod.mk.injEq]at hj;obtain⟨pf1,h1,rfl,rfl⟩:=hj;have hne:xs≠[]:=by rintro rfl;simp[zhx]at ho
    have hf:∀c:Nat×zad,c.1≠s→rlC (s,p) i j n (nt,[(0,fl.length)]) 0 0 c=none:=fun c hc=>zvT hc
    refine⟨E.rl (rlC (s,p) i j n (nt,[(0,fl.length)]) 0 0),rfl,?_,?_⟩
    ·refine r.setCs hs (by simpa using hne) h1 rfl zcM zba (fun t _ ht=>zbN fun q=>hf _ ht) (fun id hid=>?_) (fun id q g1 g2 g3=>⟨?_,g2⟩) fun t z v g1 g2=>?_
     ·obtain⟨g1,g2⟩:=r.fresh id hid;exact⟨by simp[Env.rl,g1],g2⟩
     ·have:Off p i j n q:=by rw[List.length_map,hxl]at g3;exact g3
      have:=zAk (a:=(s,p)) (b:=(nt,[(0,fl.length)])) (i':=0) (j':=0) this;simp[Env.rl,g1,this]
     ·obtain⟨x,hq,hz⟩:=zwM g1;rcases hz with⟨_,rfl⟩|⟨ho',rfl⟩
      ·exact .junk v
      ·have htl:t<vs.toList.length:=by have:=(List.getElem?_eq_some_iff.1 hq).1;omega
       have hv:=List.getElem?_eq_getElem htl;have:=(hw t _ hv).same g2;rw[this]at hv;exact((hpr t z v hq hv).free ho').mono zba
    ·refine(hfl.stay zba (zbN fun q=>hf _ (by show nt≠s;omega))).snoc (.agg (by rw[hxl,hl]) fun q x v hq hv=>?_);have hqn:q<n:=by have:=(List.getElem?_eq_some_iff.1 hq).1;omega
     refine(hpr q x v hq hv).move zba (zcJ fun r=>?_);have:=zwG (a:=(s,p)) (b:=(nt,[(0,fl.length)])) (i:=i) (j:=j) (n:=n) (i':=0) (j':=0) hqn r;simpa[chl]using this
   ·rename_i ho;cases hj;refine⟨E,rfl,r,zi9 hfl (l:=none) (.agg (by rw[hxl,hl]) fun q x v hq hv=>?_) (by simpa using ho)⟩;have ho':zaC (.agg xs)=false:=by simpa using ho
    rw[zhx,List.any_eq_false]at ho';exact(hpr q x v hq hv).free (by simpa using ho' x (List.mem_of_getElem? hq))
  ·cases hraw
 ·cases hj
theorem zj3{l:Lo}{es es' off c:Nat}{rows:List (List PV)}{o:Bool}(h:PR E l (.sl o es rows) (.slice (some ⟨id,off,some es'⟩) n c)):es=es':=by
 generalize hx:PV.sl o es rows=x at h;cases h<;>cases hx<;>rfl
theorem zrv(r:RelP nt pin E0 E pf fr)(hfl:FlOK nt E fl){lo hi:Nat}{t:Nat}(hs:s<nt)
(hf:RPF E (.rv s p lo hi) fr t)(hj:zkA pf s p lo hi (zaz pf s p)=some (y,pf')):∃v E',fr t=.v v∧E'.H=E.H∧RelP nt pin E0 E' pf' fr∧FlOK nt E' (fl++[(y,v)]):=by
 unfold zkA at hj;split at hj
 ·rename_i o es rows hx;split at hj
  ·rename_i hb;obtain⟨hb1,hb2⟩:=hb;rcases hf with⟨h1,h2,rfl,rfl⟩|⟨id,off,es',n,c,h1,h2,h3,h4⟩
   ·
    obtain⟨v0,w1,w2⟩:=r.at hx (by simp) (zbc r h1 hx);have:=w1.same h1;subst this;rw[if_pos rfl]at hj;simp only[Option.map_eq_some_iff,Prod.mk.injEq]at hj;obtain⟨pf1,k1,rfl,rfl⟩:=hj;obtain⟨v',E',a1,a2,a3,a4⟩:=r.takeAt hfl hs hx (by simp) (zbc r h1 hx) k1;have:=a1.same h1;subst this;refine⟨_,E',h2,a2,a3,?_⟩;have hlast:=a4 fl.length (.sl true es rows) (.slice none 0 0) (by simp);have hpre:FlOK nt E' fl:=fun k x v hk=>a4 k x v (by rw[List.getElem?_append_left (List.getElem?_eq_some_iff.1 hk).1];exact hk)
    exact hpre.snoc (.sl0 true es)
   ·have hpl:=zbc r h1 hx;split at hj
    ·rename_i hlo;subst hlo;simp only[Option.map_eq_some_iff,Prod.mk.injEq]at hj;obtain⟨pf1,k1,rfl,rfl⟩:=hj;obtain⟨v',E',a1,a2,a3,a4⟩:=r.takeAt hfl hs hx (by simp) hpl k1;have:=a1.same h1;subst this;refine⟨_,E',h4,a2,a3,?_⟩;have hlast:=a4 fl.length (.sl true es rows) (.slice (some ⟨id,off,some es'⟩) n c) (by simp);have hpre:FlOK nt E' fl:=fun k x v hk=>a4 k x v (by rw[List.getElem?_append_left (List.getElem?_eq_some_iff.1 hk).1];exact hk)
     obtain⟨_,e2,e3⟩:=hlast.cut0 h3;refine hpre.snoc ?_;simpa using e3
    ·rename_i hlo;simp only[Option.map_eq_some_iff,Prod.mk.injEq]at hj;obtain⟨pf1,k1,rfl,rfl⟩:=hj;obtain⟨v',a1,a2,a3⟩:=r.freezeAt hs hx (by simp) hpl k1;have:=a1.same h1;subst this;refine⟨_,E.fz (s,p),h4,rfl,a2,?_⟩;rw[ziv]at a3;obtain⟨_,e1,e2,e3⟩:=a3.cut h2 h3
     exact(hfl.stay zgs (zhN (by show nt≠s;omega))).snoc (by
      have ee:es=es':=zj3 a3;subst ee
      exact e3.up)
  ·cases hj
 ·rename_i o es rows hx;split at hj
  ·rename_i hb;obtain⟨hb1,hb2⟩:=hb;cases hj;rcases hf with⟨h1,h2,rfl,rfl⟩|⟨id,off,es',n,c,h1,h2,h3,h4⟩
   ·exact⟨_,E,h2,rfl,r,zi9 hfl (l:=none) (by simpa using PR.sl0 (E:=E) false es) (by simp[zjk])⟩
   ·obtain⟨v',w1,w2⟩:=r.at hx (by simp) (zbc r h1 hx);have:=w1.same h1;subst this;obtain⟨_,e1,e2,e3⟩:=w2.cut h2 h3;have ee:es=es':=zj3 w2;subst ee;exact⟨_,E,h4,rfl,r,zi9 hfl e3 (by simp[zjk])⟩
  ·cases hj
 ·cases hj
theorem zx0(r:RelP nt pin E0 E pf fr){t:Nat}(h:zeO pf t (pf t)=some (y,pf')):t<nt:=by
 rcases Nat.lt_or_ge t nt with h1|h1
 ·exact h1
 ·rw[r.hi t h1]at h;simp[zeO,jP,zj2,isJ]at h
theorem zdw(r:RelP nt pin E0 E pf fr)(hfl:FlOK nt E fl){ez:Nat}{x:Operand}(h:zbg ez pf x=some (y,pf')):
 ∃v fr' H' E',mat fr E.H x=some (v,fr',H')∧E'.H=H'∧RelP nt pin E0 E' pf' fr'∧FlOK nt E' (fl++[(y,v)]):=by
 cases x with
 |const c=>
  simp only[zbg]at h;split at h
  ·rename_i hc;cases h;exact⟨c,fr,E.H,E,by simp[mat,rdv,hc],rfl,r,hfl.snoc (zkH hc _)⟩
  ·cases h
 |func f=>
  simp only[zbg,Option.some.injEq,Prod.mk.injEq]at h;obtain⟨rfl,rfl⟩:=h;exact⟨.func (.func f) #[] #[],fr,E.H,E,by simp[mat,rdv],rfl,r,hfl.snoc (.func _ rfl rfl (fun i x y h=>by simp at h) (fun i x y h=>by simp at h))⟩
 |global g=>simp[zbg]at h
 |tmp t=>
  simp only[zbg]at h;have ht:=zx0 r h;have hf:=r.f t;cases hpt:pf t with
  |v x=>
   rw[hpt]at h hf;simp only[zeO,zj2]at h;split at h
   ·cases h
   ·rename_i hj;have hx:=ze5 (by simpa using hj);obtain⟨v,h1,h2⟩:=zcl hf hx;obtain⟨E',e1,e2,e3⟩:=zn7 r hfl (s:=t) (p:=[]) (v:=v) ht (by simp[zaz,hpt,zbs,zeN]) hx (.inl ⟨v,h1,rfl⟩) h;exact⟨v,fr,E.H,E',by simp[mat,h1],e1,e2,e3⟩
  |rf s p=>
   rw[hpt]at h hf;simp only[zeO,zoq]at h;obtain⟨v,h1,h2⟩:=hf;split at h
   ·rename_i x hx;split at h
    ·cases h
    ·rename_i hj;obtain⟨E',e1,e2,e3⟩:=zn7 r hfl (r.rt t s (by rw[hpt];rfl)) hx (ze5 (by simpa using hj)) h2 h;exact⟨v,fr,E.H,E',by simp[mat,h1],e1,e2,e3⟩
   ·cases h
  |rv s p lo hi=>
   rw[hpt]at h hf;obtain⟨v,E',e0,e1,e2,e3⟩:=zrv r hfl (r.rt t s (by rw[hpt];rfl)) hf h;exact⟨v,fr,E.H,E',by simp[mat,e0],e1,e2,e3⟩
  |ra s p i j n=>
   rw[hpt]at h hf;obtain⟨vs,h1,h2,h3⟩:=hf;obtain⟨E',e1,e2,e3⟩:=zrW r hfl (r.rt t s (by rw[hpt];rfl)) h2.1 h3 h;exact⟨.agg vs,fr,E.H,E',by simp[mat,h1],e1,e2,e3⟩
  |ls es rows=>
   rw[hpt]at h hf;simp only[zeO,Option.some.injEq,Prod.mk.injEq]at h;obtain⟨rfl,rfl⟩:=h;obtain⟨cells,c1,c2,c3,c4,c5⟩:=hf;have ok:=r.ok;refine⟨_,_,_,E.push ⟨true,cells⟩ (nt,[(0,fl.length)]) (rlW (t,[]) (nt,[(0,fl.length)])),by simp[mat,c1];exact⟨rfl,rfl,rfl⟩,rfl,?_,?_⟩
   ·refine r.chg ht ok.gk_push (fun s hs hst=>ok.stay_push fun q=>zdq hst) (fun L hL=>absurd hL (Nat.not_lt_zero _)) (fun s hs=>by simp[FR.put,hs]) (fun h=>absurd h (Nat.lt_irrefl _)) ok.since_push ok.push.wf ok.push.fresh (fun _ _ h1 h2=>by rw[c1]at h1;cases h1) zfY rfl fun k v hk=>?_
    have:=r.pin k v hk;have hne:k≠t:=fun e=>by rw[e,c1]at this;cases this
    simpa[FR.put,hne]using this
   ·refine(hfl.stay ok.gk_push (ok.stay_push fun q=>zdq (by show nt≠t;omega))).snoc ?_;refine .slO zge ok.newG zfX rfl rfl (Nat.le_refl _) c3.1 c4 ⟨⟨c3.2,rfl⟩,by rw[Nat.zero_add,c2];exact Nat.le_refl _⟩ fun i rw j x y g1 g2 g3=>?_
    rw[Nat.zero_add]at g3;refine(c5 i rw j x y g1 g2 g3).move ok.gk_push (ok.move_push fun q=>?_);have:=zfq (t,[]) (nt,[(0,fl.length)]) ((i,j)::q);simpa[chl]using this
  |_=>rw[hpt]at h;simp[zeO]at h
theorem znr:∀{xs:List (Nat×Operand)}{E:Env}{pf pf':PFr}{fr:FR}{fl:List (PV×Value)}{ys:List PV},RelP nt pin E0 E pf fr→FlOK nt E fl→zgr pf xs=some (ys,pf')→
 ∃vs fr' H' E',zaG fr E.H (xs.map (·.2))=some (vs,fr',H')∧E'.H=H'∧RelP nt pin E0 E' pf' fr'∧vs.length=ys.length∧ys.length=xs.length∧FlOK nt E' (fl++ys.zip vs):=by
 intro xs;induction xs with
 |nil=>
  intro E pf pf' fr fl ys r hfl h;simp only[zgr,Option.some.injEq,Prod.mk.injEq]at h;obtain⟨rfl,rfl⟩:=h;exact⟨[],fr,E.H,E,rfl,rfl,r,rfl,rfl,by simpa using hfl⟩
 |cons x xs ih=>
  intro E pf pf' fr fl ys r hfl h;simp only[zgr,Option.bind_eq_some_iff,Option.map_eq_some_iff,Prod.mk.injEq]at h;obtain⟨⟨y,pf1⟩,h1,⟨ys1,pf2⟩,h2,rfl,rfl⟩:=h;obtain⟨v,fr1,H1,E1,m1,e1,r1,f1⟩:=zdw r hfl h1;obtain⟨vs,fr2,H2,E2,m2,e2,r2,l2,l3,f2⟩:=ih r1 f1 h2;refine⟨v::vs,fr2,H2,E2,?_,e2,r2,by simp[l2],by simp[l3],by simpa using f2⟩;rw[e1]at m2;simp[zaG,m1,m2]
end
end Go.Pm
