import Derived.Test.YtplemekcclpaoaaGreatDoorPmD
namespace Go.Pm
open Go.Am
def zay:PV→List PV
 | .agg row=>row
 |x=>[x]
def zcc:PV→Bool
 | .junk| .tup _=>false
 |_=>true
section
variable {nt:Nat}{pin:List (Nat×Value)}{E0 E E':Env}{pf:PFr}{fr fr':FR}
def rlF(a:Nat×zad)(b:Nat×zad)(i j:Nat):PV→Nat×zad→Option (Nat×zad)
 | .agg row=>rlC a 0 0 row.length b i j
 |_=>rlW a (b.1,b.2++[(i,j)])
variable{i j:Nat}{x:PV}
theorem zwk{a b:Nat×zad}{c:Nat×zad}(h:c.1≠a.1):rlF a b i j x c=none:=by
 cases x<;>first|exact zdq h|exact zvT h
theorem zgu{a b:Nat×zad}{v:Value}(h:PR E (some a) x v)(hx:zcc x=true)(hg:GK E E')
(hm:∀c d:Nat×zad,(∀r,rlF a b i j x (c.1,c.2++r)=some (d.1,d.2++r))→MoveOK E E' (some c) (some d)):
 (zay x).length=v.cells.toList.length∧(∀(t:Nat) (y:PV) (w:Value),(zay x)[t]? =some y→v.cells.toList[t]? =some w→PR E' (some (b.1,b.2++[(i,j+t)])) y w)∧zgi v=true:=by
 have one:∀(v:Value),PR E (some a) x v→v.cells.toList=[v]→zay x=[x]→(∀c,rlF a b i j x c=rlW a (b.1,b.2++[(i,j)]) c)→zgi v=true→
  (zay x).length=v.cells.toList.length∧(∀(t:Nat) (y:PV) (w:Value),(zay x)[t]? =some y→v.cells.toList[t]? =some w→PR E' (some (b.1,b.2++[(i,j+t)])) y w)∧zgi v=true:=by
  intro v hv e1 e2 e3 e4;rw[e1,e2];refine⟨rfl,fun t y w h1 h2=>?_,e4⟩;cases t with
  |succ t=>simp at h1
  |zero=>
   simp at h1 h2;subst h1;subst h2;exact hv.move hg (hm a (b.1,b.2++[(i,j)]) fun r=>by rw[e3];exact zfq a (b.1,b.2++[(i,j)]) r)
 cases x with
 |junk=>cases hx
 |tup xs=>cases hx
 |agg row=>
  cases h with
  |agg hl hh=>
   rename_i ys;refine⟨hl,fun t y w h1 h2=>?_,rfl⟩;have hlt:t<row.length:=(List.getElem?_eq_some_iff.1 h1).1;refine(hh t y w h1 h2).move hg (hm (chl a 0 t) (b.1,b.2++[(i,j+t)]) fun r=>?_);have:=zwG (a:=a) (b:=b) (i:=0) (j:=0) (n:=row.length) (i':=i) (j':=j) hlt r;simpa[rlF,chl]using this
 |sl o es rows=>cases h<;>exact one _ (by first|exact .sl0 o es|exact .slS ‹_› ‹_› ‹_› ‹_› ‹_› ‹_› ‹_› ‹_› |exact .slO ‹_› ‹_› ‹_› ‹_› ‹_› ‹_› ‹_› ‹_› ‹_› ‹_›) rfl rfl (fun _=>rfl) rfl
 |bool _=>cases h;exact one _ (.bool _) rfl rfl (fun _=>rfl) rfl
 |int _ _=>cases h;exact one _ (.int _ _) rfl rfl (fun _=>rfl) rfl
 |str _=>cases h;exact one _ (.str _) rfl rfl (fun _=>rfl) rfl
 |nilp=>cases h;exact one _ .nilp rfl rfl (fun _=>rfl) rfl
 |nilf=>cases h;exact one _ .nilf rfl rfl (fun _=>rfl) rfl
 |nili=>cases h;exact one _ .nili rfl rfl (fun _=>rfl) rfl
 |fp row=>cases h;exact one _ (.fp ‹_› ‹_› ‹_› ‹_›) rfl rfl (fun _=>rfl) rfl
 |bx row=>cases h;exact one _ (.bx ‹_› ‹_› ‹_› ‹_› ‹_› ‹_›) rfl rfl (fun _=>rfl) rfl
 |func fn xs us=>cases h;exact one _ (.func _ ‹_› ‹_› ‹_› ‹_›) rfl rfl (fun _=>rfl) rfl
def PtV(E:Env)(fr:FR)(s:Nat)(p:zad)(i j:Nat)(fv:FV):Prop:=
 (∃cells,fr s=.loc cells∧p=[]∧i=0∧fv=.lp s j)∨∃v0 id o,Wk E fr s p v0∧Hd E (s,p) v0 i id o∧fv=.v (.pointer (some ⟨id,o+j,none⟩))
def zAS(fr:FR)(H:AH)(fv:FV)(vs:List Value)(fr':FR)(H':AH):Prop:=
 (∃s off cells cs,fv=.lp s off∧fr s=.loc cells∧zbQ cells off vs=some cs∧fr'=fr.put s (.loc cs)∧H'=H)∨
 ∃id off k cs,fv=.v (.pointer (some ⟨id,off,none⟩))∧H.b id=some k∧k.rw=true∧zbQ k.cells off vs=some cs∧fr'=fr∧H'=H.set id (some ⟨true,cs⟩)
theorem zhC:∀{cs xs:List Value}{n:Nat},xs≠[]→n+xs.length≤cs.length→∃r,zbQ cs n xs=some r:=by
 intro cs;induction cs with
 |nil=>intro xs n h0 h;cases xs with|nil=>exact absurd rfl h0|cons x xs=>simp at h
 |cons c cs ih=>
  intro xs n h0 h;cases xs with
  |nil=>exact absurd rfl h0
  |cons x xs=>
   cases n with
   |succ n=>
    obtain⟨r,hr⟩:=ih (xs:=x::xs) (n:=n) (by simp) (by simp at h⊢;omega);exact⟨c::r,by simp[zbQ,hr]⟩
   |zero=>
    by_cases e:xs=[]
    ·subst e;exact⟨x::cs,by simp[zbQ]⟩
    ·obtain⟨r,hr⟩:=ih (xs:=xs) (n:=0) e (by simp at h⊢;omega);exact⟨x::r,by simp[zbQ,hr]⟩
theorem zhF{cs xs r:List Value}{n:Nat}(h0:xs≠[])(h:zbQ cs n xs=some r):r.length=cs.length∧n+xs.length≤cs.length∧(∀q,¬(n≤q∧q<n+xs.length)→r[q]? =cs[q]?)∧∀t,t<xs.length→r[n+t]? =xs[t]? :=by
 rcases zgO h with⟨e,_⟩|⟨hle,rfl⟩
 ·exact absurd e h0
 ·have hn:(cs.take n).length=n:=by rw[List.length_take];omega
  refine⟨by simp;omega,hle,fun q hq=>?_,fun t ht=>?_⟩
  ·rcases Nat.lt_or_ge q n with h1|h1
   ·rw[List.append_assoc,List.getElem?_append_left (by omega),List.getElem?_take,if_pos h1]
   ·have h2:n+xs.length≤q:=by omega
    rw[List.getElem?_append_right (by simp;omega),List.getElem?_drop];congr 1;simp;omega
  ·rw[List.append_assoc,List.getElem?_append_right (by omega),hn,show n+t-n=t by omega,List.getElem?_append_left ht]
theorem RelP.storeAt(r:RelP nt pin E0 E pf fr){s:Nat}{p:zad}{v:Value}{pf':PFr}{fv:FV}(hs:s<nt)(hfl:PR E (some (nt,[(0,0)])) x v)(hx:zcc x=true)(hne:zay x≠[])
(hpt:PtV E fr s p i j fv)(hp:zeo pf s p i j (zay x)=some pf'):
 ∃fr' H' E',zAS fr E.H fv v.cells.toList fr' H'∧E'.H=H'∧RelP nt pin E0 E' pf' fr':=by
 simp only[zeo,Option.bind_eq_some_iff,Option.map_eq_some_iff]at hp;obtain⟨x0,hx0,x1,hmod,y,hy,rfl⟩:=hp;have hrl:∀c:Nat×zad,c.1<nt→rlF (nt,[(0,0)]) (s,p) i j x c=none:=fun c hc=>zwk (by show c.1≠nt;omega)
 have howrl:∀id c,E.ow id=some c→c.1<nt→(E.rl (rlF (nt,[(0,0)]) (s,p) i j x)).ow id=some c:=fun id c h1 h2=>by simp[Env.rl,h1,hrl c h2]
 rcases hpt with⟨cells,h1,rfl,rfl,rfl⟩|⟨v0,id0,o,hw,hd,rfl⟩
 ·
  have hE':∀c d:Nat×zad,(∀r,rlF (nt,[(0,0)]) (s,[]) 0 j x (c.1,c.2++r)=some (d.1,d.2++r))→MoveOK E (E.rl (rlF (nt,[(0,0)]) (s,[]) 0 j x)) (some c) (some d):=fun c d h=>zcJ h
  obtain⟨c1,c2,c3⟩:=zgu (b:=(s,[])) (i:=0) (j:=j) hfl hx zba hE';have hvs:v.cells.toList≠[]:=fun e=>hne (List.eq_nil_of_length_eq_zero (by rw[c1,e];rfl))
  have hloc:∃row,pf s=.bl row:=by
   have hf:=r.f s;cases hps:pf s with
   |bl row=>exact⟨row,rfl⟩
   |v z=>
    rw[hps]at hf hx0;simp only[zbs,Option.some.injEq]at hx0;subst hx0;obtain⟨w,e,_⟩:=zcl hf (zpy hmod);rw[h1]at e;cases e
   |_=>rw[hps]at hx0;simp[zbs]at hx0
  obtain⟨row,hrow⟩:=hloc;have hf:=r.f s;rw[hrow]at hf hx0 hy;simp only[zbs,Option.some.injEq]at hx0;subst hx0;simp only[zfd,zeL,if_true,Option.map_eq_some_iff]at hmod;obtain⟨row',hput,rfl⟩:=hmod;simp only[zgD,Option.some.injEq]at hy;subst hy;obtain⟨cells0,l1,l2,l3⟩:=id hf;rw[h1]at l1;cases l1;obtain⟨a1,a2,a3⟩:=zfO hput;obtain⟨cs,hcs⟩:=zhC (cs:=cells) (n:=j) hvs (by rw[←c1,←l2];exact a2 hne);obtain⟨b1,b2,b3,b4⟩:=zhF hvs hcs;refine⟨fr.put s (.loc cs),E.H,E.rl (rlF (nt,[(0,0)]) (s,[]) 0 j x),.inl ⟨s,j,cells,cs,rfl,h1,hcs,rfl,rfl⟩,rfl,?_⟩
  refine r.chg hs zba (fun t ht _=>zbN fun q=>hrl _ ht) (fun L hL=>⟨fun id q g1 g2 g3=>⟨howrl id _ g1 hs,g2⟩,fun id q g1 g2 g3=>rfl⟩) (fun t ht=>by simp[FR.put,ht]) (fun _=>.inr ⟨cells,cs,h1,by simp[FR.put]⟩) zcM r.wf
   (fun id hid=>?_) (fun _ _ _ _=>.inr (by simp)) ?_ rfl fun k w hk=>?_
  ·obtain⟨g1,g2⟩:=r.fresh id hid;exact⟨by simp[Env.rl,g1],g2⟩
  ·refine znf hf hput h1 (by simp[FR.put]) b1 (fun q hq=>b3 q (by rw[←c1];exact hq)) zba (fun id q g1 g2 _=>⟨howrl id _ g1 hs,g2,rfl⟩) fun t z w g1 g2=>?_
   have htl:t<v.cells.toList.length:=by have:=(List.getElem?_eq_some_iff.1 g1).1;omega
   rw[b4 t htl]at g2;have:=c2 t z w g1 g2;simpa using this
  ·have hk':=r.pin k w hk;have:k≠s:=fun e=>by rw[e,h1]at hk';cases hk'
   simpa[FR.put,this]using hk'
 ·
  obtain⟨how,hG⟩:=hd.ow
  have hb0:∃k,E.H.b id0=some k∧k.rw=true∧o+j+(zay x).length≤k.cells.length:=by
   have key:∀(p:zad) (l:Nat×zad) (a a':PV) (w w0:Value),PR E (some l) a w→zfd a p (zeL i j (zay x))=some a'→Wv E l w p w0→Hd E (l.1,l.2++p) w0 i id0 o→∃k,E.H.b id0=some k∧k.rw=true∧o+j+(zay x).length≤k.cells.length:=by
    intro p;induction p with
    |nil=>
     intro l a a' w w0 h1 h2 h3 h4;have h3:w0=w:=h3;subst h3;simp only[zfd]at h2;cases h1 with
     | @slO _ _ off es n c k rows how hG hb hrw hn hc hm hr hl hh=>
      simp only[zeL,Option.bind_eq_some_iff,Option.map_eq_some_iff]at h2;obtain⟨r0,g1,r1,g2,_⟩:=h2;cases h4 with
      |sl _ _ hi=>
      obtain⟨_,a2,_⟩:=zfO g2;have:=a2 hne;have hr0:=hr r0 (List.mem_of_getElem? g1);refine⟨_,hb,hrw,?_⟩;have h5:(i+1)*es≤c*es:=Nat.mul_le_mul_right _ (by omega);rw[Nat.succ_mul]at h5;omega
     |bx how hG hb hrw hl hh=>
      simp only[zeL]at h2;split at h2
      ·simp only[Option.map_eq_some_iff]at h2;obtain⟨r1,g2,_⟩:=h2;cases h4 with
       |bx _ _=>
       obtain⟨_,a2,_⟩:=zfO g2;have:=a2 hne;exact⟨_,hb,hrw,by omega⟩
      ·cases h2
     |sl0 ob es=>cases h4
     |_=>simp[zeL]at h2
    |cons c p ih=>
     obtain⟨i1,j1⟩:=c;intro l a a' w w0 h1 h2 h3 h4;simp only[zfd,Option.bind_eq_some_iff,Option.map_eq_some_iff]at h2;obtain⟨z0,g1,z1,g2,_⟩:=h2;obtain⟨v1,w1,pr1⟩:=h1.get (p:=[(i1,j1)]) (x0:=z0) (by simp[zeN,g1]);obtain⟨id,o1,k,y,q1,q2,q3,q4,q5⟩:=h3;obtain⟨id',o1',k',y',q1',q2',q3',q4',q5'⟩:=w1;obtain⟨rfl,rfl⟩:=q1.same q1';rw[q3]at q3';cases q3';rw[q4]at q4';cases q4';have q5':v1=y:=q5';subst q5';exact ih (chl l i1 j1) z0 z1 v1 w0 pr1 g2 q5 (by rw[zgW];exact h4)
   have hf:=r.f s;cases hps:pf s with
   |v z=>
    rw[hps]at hf hx0;simp only[zbs,Option.some.injEq]at hx0;subst hx0;obtain⟨w,e,hpr⟩:=zcl hf (zpy hmod);rcases hw with⟨q,w1,w2⟩|⟨cells,j',p',y',w1,_⟩
    ·rw[e]at w1;cases w1;obtain⟨k,k1,k2,k3⟩:=key p (s,[]) z x1 w v0 hpr hmod w2 (by simpa using hd);exact⟨k,k1,k2,k3⟩
    ·rw[e]at w1;cases w1
   |bl row=>
    rw[hps]at hf hx0;simp only[zbs,Option.some.injEq]at hx0;subst hx0;obtain⟨cells0,l1,l2,l3⟩:=hf;rcases hw with⟨q,w1,w2⟩|⟨cells,j',p',y',w1,w2,w3,w4⟩
    ·rw[l1]at w1;cases w1
    ·rw[l1]at w1;cases w1;subst w2;simp only[zfd,zdd,if_true,Option.bind_eq_some_iff,Option.map_eq_some_iff]at hmod;obtain⟨z0,g1,z1,g2,_⟩:=hmod;obtain⟨k,k1,k2,k3⟩:=key p' (s,[(0,j')]) z0 z1 y' v0 (l3 j' z0 y' g1 w3) g2 w4 (by simpa using hd);exact⟨k,k1,k2,k3⟩
   |_=>rw[hps]at hx0;simp[zbs]at hx0
  obtain⟨k0,hk0,hrw0,hroom⟩:=hb0;have hlen0:(zay x).length=v.cells.toList.length:=(zgu (E':=E.rl (rlF (nt,[(0,0)]) (s,p) i j x)) (b:=(s,p)) (i:=i) (j:=j) hfl hx zba fun c d h=>zcJ h).1;have hvs:v.cells.toList≠[]:=fun e=>hne (List.eq_nil_of_length_eq_zero (by rw[hlen0,e];rfl))
  obtain⟨cs,hcs⟩:=zhC (cs:=k0.cells) (n:=o+j) hvs (by rw[←hlen0];exact hroom);obtain⟨b1,b2,b3,b4⟩:=zhF hvs hcs
  let E1:Env:={E.rl (rlF (nt,[(0,0)]) (s,p) i j x)with H:=E.H.set id0 (some ⟨true,cs⟩)}
  have hHne:∀id,id≠id0→E1.H.b id=E.H.b id:=fun id hid=>by simp[E1,AH.set,hid]
  have hHeq:E1.H.b id0=some ⟨true,cs⟩:=by simp[E1,AH.set]
  have hg1:GK E E1:=fun id hGid=>⟨hGid,fun k hk=>by
   have:id≠id0:=fun e=>hG (by rw[←e];exact hGid)
   exact⟨k,(hHne id this).trans hk,rfl⟩⟩
  have how1:∀id c,E.ow id=some c→c.1<nt→E1.ow id=some c:=howrl
  have hmv:∀t,t<nt→t≠s→MoveOK E E1 (some (t,[])) (some (t,[])):=fun t ht hts id q g1 g2=>by
   refine⟨how1 id _ g1 ht,g2,hHne id fun e=>?_⟩;subst e;rw[how]at g1;simp only[Option.some.injEq,Prod.mk.injEq]at g1;exact hts g1.1.symm
  have hmf:∀c d:Nat×zad,(∀r,rlF (nt,[(0,0)]) (s,p) i j x (c.1,c.2++r)=some (d.1,d.2++r))→MoveOK E E1 (some c) (some d):=fun c d h id q g1 g2=>by
   refine⟨by simp[E1,Env.rl,g1,h],g2,hHne id fun e=>?_⟩;subst e;have hc:=h q;rw[how]at g1;have e3:(c.1,c.2++q)=(s,p):=(Option.some.inj g1).symm;rw[e3,hrl (s,p) hs]at hc;cases hc
  obtain⟨_,c2,_⟩:=zgu (E':=E1) (b:=(s,p)) (i:=i) (j:=j) hfl hx hg1 hmf;refine⟨fr,E.H.set id0 (some ⟨true,cs⟩),E1,.inr ⟨id0,o+j,k0,cs,rfl,hk0,hrw0,hcs,rfl,rfl⟩,rfl,?_⟩;refine r.chg hs hg1 hmv (fun L hL=>⟨fun id q g1 g2 g3=>⟨how1 id _ g1 hs,g2⟩,fun id q g1 g2 g3=>hHne id fun e=>?_⟩) (fun _ _=>rfl) (fun _=>.inl rfl) ⟨Nat.le_refl _,hg1,fun id _ hn=>⟨by simp[E1,Env.rl,hn],hHne id (fun e=>by rw[e,how]at hn;cases hn),fun h=>h⟩⟩ (fun id k hk=>?_) (fun id hid=>?_) (fun _ _ h1 h2=>.inl (by rw[h1]at h2;cases h2;rfl)) ?_ (zl4 hy) r.pin
  ·subst e;rw[how]at g1;simp only[Option.some.injEq,Prod.mk.injEq,true_and]at g1;rw[←g1]at g3;omega
  ·by_cases e:id=id0
   ·subst e;exact r.wf id k0 hk0
   ·rw[hHne id e]at hk;exact r.wf id k hk
  ·obtain⟨g1,g2⟩:=r.fresh id hid;exact⟨by simp[E1,Env.rl,g1],g2⟩
  ·refine ztV (r.f s) hx0 hmod hy ⟨hg1,fun id q g1 g2 g3=>⟨how1 id _ g1 hs,g2,hHne id⟩,fun k hk=>?_⟩ hw hd rfl;rw[hk0]at hk;cases hk;refine⟨⟨true,cs⟩,hHeq,hrw0.symm,b1,fun q hq=>b3 q (by rw[←hlen0];exact hq),fun t z w g1 g2=>?_⟩;have htl:t<v.cells.toList.length:=by have:=(List.getElem?_eq_some_iff.1 g1).1;omega
   have g2:cs[o+j+t]? =some w:=g2;rw[b4 t htl]at g2;exact c2 t z w g1 g2
end
end Go.Pm
