import Derived.Test.YtplemekcclpaoaaGreatDoorPmI
namespace Go.Pm
open Go.Am
section
variable {nt:Nat}{pin:List (Nat×Value)}{E0 E E':Env}{pf:PFr}{fr fr':FR}{c:Cfg}{P:Program}
variable{K:PFr→Prop}{K':FR→AH→Prop}{ez:Nat}{o:Oper}{t:TypeId}{v:Value}{x:Operand}{z:List Value}
theorem zlg{d:Nat}(h:ckd c d .skip=true):d<c.nt∧d∉c.io:=⟨(zlm h).1,(zlm h).2.1⟩
theorem RelP.setLoc(r:RelP nt pin E0 E pf fr){d:Nat}{row:List PV}{cells:List Value}(hd:d<nt)(hp:∀v,(d,v)∉pin)(hok:EnvOK E')(hsn:Since E E')(hm:∀s,s<nt→s≠d→MoveOK E E' (some (s,[])) (some (s,[])))
(hl:row.length=cells.length)(hr:∀(j:Nat) (x:PV) (y:Value),row[j]? =some x→cells[j]? =some y→PR E' (some (d,[(0,j)])) x y):RelP nt pin E0 E' (pf.put d (.bl row)) (fr.putLoc d cells):=by
 have hfd:(fr.putLoc d cells) d=.loc cells:=by simp[FR.putLoc]
 have hfk:∀t,t≠d→(∀o,fr t≠.lp d o)→(fr.putLoc d cells) t=fr t:=fun t ht hn=>by
  simp only[FR.putLoc,if_neg ht];cases hft:fr t with
  |lp s o=>
   simp only[zex];rw[if_neg];rintro rfl;exact hn o hft
  |_=>rfl
 have hroot:∀s,s≠d→(∃v,fr s=.v v)∨(∃cs,fr s=.loc cs)→(fr.putLoc d cells) s=fr s:=fun s hs h=>hfk s hs fun o e=>by
  rcases h with⟨v,h⟩|⟨v,h⟩<;>rw[e]at h<;>cases h
 have wkr:∀{s:Nat}{p:zad}{v:Value},Wk E fr s p v→(∃v,fr s=.v v)∨(∃cs,fr s=.loc cs):=fun h=>by
  rcases h with⟨r,h1,_⟩|⟨cs,_,_,_,h1,_⟩
  ·exact .inl ⟨r,h1⟩
  ·exact .inr ⟨cs,h1⟩
 refine⟨r.since.trans hsn,hok.wf,hok.fresh,fun t=>?_,fun t ht=>?_,fun t s h=>?_,fun k v h=>?_⟩
 ·by_cases e:t=d
  ·subst e;simp only[PFr.put,if_true];exact⟨cells,hfd,hl,hr⟩
  ·simp only[PFr.put,if_neg e];by_cases ht:t<nt
   ·unfold zbZ;split
    ·exact True.intro
    ·rename_i hk;have hf:=r.f t;by_cases hj:pf t=jP
     ·rw[hj];exact True.intro
     ·have hlp:∀o,fr t≠.lp d o:=by
       intro o e2;revert hf;cases hpt:pf t with
       |v x=>
        intro hf;obtain⟨v,h1,_⟩:=zcl hf (by rintro rfl;exact hj hpt);rw[e2]at h1;cases h1
       |skip=>intro hf;have hf:fr t=.skip:=hf;rw[e2]at hf;cases hf
       |ls es rows=>rintro⟨cs,h1,_⟩;rw[e2]at h1;cases h1
       |bl row=>rintro⟨cs,h1,_⟩;rw[e2]at h1;cases h1
       |pt s p i j=>
        rintro(⟨cs,h1,h2,h3,h4⟩|⟨v0,id,o',h1,h2,h3⟩)
        ·rw[e2]at h4;cases h4;exact hk (by rw[hpt];rfl)
        ·rw[e2]at h3;cases h3
       |rf s p=>rintro⟨v,h1,_⟩;rw[e2]at h1;cases h1
       |rv s p lo hi=>
        rintro(⟨_,h2,_⟩|⟨id,off,es,n,cc,_,_,_,h4⟩)
        ·rw[e2]at h2;cases h2
        ·rw[e2]at h4;cases h4
       |ra s p i j n=>rintro⟨vs,h1,_⟩;rw[e2]at h1;cases h1
       |cl s g us=>rintro⟨v,vs,h1,_⟩;rw[e2]at h1;cases h1
       |as b s p i j n=>
        cases b with
        |false=>rintro⟨vs,h1,_⟩;rw[e2]at h1;cases h1
        |true=>rintro⟨id,off,k,v,h1,_⟩;rw[e2]at h1;cases h1
      refine hf.stay hsn.g (hm t ht e) (hfk t e hlp) fun s hs=>?_
      have hsd:s≠d:=fun e=>hk (by rw[hs,e])
      refine⟨?_,KL.of_move (hm s (r.rt t s hs) hsd)⟩;revert hf hs;cases hpt:pf t with
      |pt s' p i j=>
       intro hf hs;cases hs;rcases hf with⟨cs,h1,_⟩|⟨v0,id,o',h1,_⟩
       ·exact hroot s hsd (.inr ⟨cs,h1⟩)
       ·exact hroot s hsd (wkr h1)
      |rf s' p=>
       rintro⟨v,_,h1⟩ hs;cases hs;exact hroot s hsd (wkr h1)
      |rv s' p lo hi=>
       intro hf hs;cases hs;rcases hf with⟨h1,_⟩|⟨id,off,es,n,cc,h1,_⟩
       ·exact hroot s hsd (wkr h1)
       ·exact hroot s hsd (wkr h1)
      |ra s' p i j n=>
       rintro⟨vs,h1,h2,h3⟩ hs;cases hs;by_cases hn:vs.toList=[]
       ·rw[hn]at h2;exact absurd h2.1.symm h2.2
       ·obtain⟨y,hy⟩:∃y,vs.toList[0]? =some y:=by
         cases hvl:vs.toList with
         |nil=>exact absurd hvl hn
         |cons y l=>exact⟨y,rfl⟩
        exact hroot s hsd (wkr (h3 0 y hy))
      |as b s' p i j n=>
       intro hf hs;cases hs;cases b with
       |false=>
        obtain⟨vs,h1,h2,h3⟩:=hf;exact hroot s hsd (wkr (h3 0 _ (List.getElem?_eq_getElem (by omega))))
       |true=>
        obtain⟨id,off,k,v,_,_,_,_,hw⟩:=hf;exact hroot s hsd (wkr hw)
      |cl s' g us=>rintro⟨v,vs,h1,h2,h3⟩ hs;cases hs;exact hroot s hsd (wkr h2)
      |_=>intro _ hs;simp[zam]at hs
   ·rw[r.hi t (by omega)];have:zbZ d jP=jP:=by simp[zbZ,jP,zam]
    rw[this];exact True.intro
 ·have:t≠d:=by omega
  simp only[PFr.put,if_neg this,r.hi t ht];simp[zbZ,jP,zam]
 ·by_cases e:t=d
  ·subst e;simp[PFr.put,zam]at h
  ·simp only[PFr.put,if_neg e]at h;unfold zbZ at h;split at h
   ·simp[jP,zam]at h
   ·exact r.rt t s h
 ·have hk:k≠d:=fun e=>hp v (by rw[←e];exact h)
  have:=r.pin k v h;rw[hroot k hk (.inl ⟨v,this⟩)];exact this
theorem ztw:∀{z:List Value}{es:List Nat},(zc es z).length=z.length∧(z.all zai=true→∀(j:Nat) (x:PV) (y:Value),(zc es z)[j]? =some x→z[j]? =some y→∀l,PR E l x y):=by
 intro z;induction z with
 |nil=>intro es;cases es<;>exact⟨rfl,fun _ j x y h=>by simp[zc]at h⟩
 |cons v z ih=>
  intro es
  have step:∀(e:Nat) (es:List Nat),(zgF e v::zc es z).length=(v::z).length∧((v::z).all zai=true→∀(j:Nat) (x:PV) (y:Value),(zgF e v::zc es z)[j]? =some x→(v::z)[j]? =some y→∀l,PR E l x y):=by
   intro e es;obtain⟨h1,h2⟩:=ih (es:=es);refine⟨by simp[h1],fun hz j x y a b l=>?_⟩;simp only[List.all_cons,Bool.and_eq_true]at hz;cases j with
   |zero=>simp at a b;subst a;subst b;exact zkH hz.1 l
   |succ j=>exact h2 hz.2 j x y (by simpa using a) (by simpa using b) l
  cases es with
  |nil=>exact step 0 []
  |cons e es=>exact step e es
theorem zms :(zz P t z).length=z.length:=(ztw (E:=⟨⟨0,fun _=>none⟩,fun _=>False,fun _=>none⟩)).1
theorem ziP(hz:z.all zai=true)(l:Nat→Lo):∀(j:Nat) (x:PV) (y:Value),(zz P t z)[j]? =some x→z[j]? =some y→PR E (l j) x y:=fun j x y h1 h2=>ztw.2 hz j x y h1 h2 _
theorem zyX{x:PV}(h:PR E none x v):PR E none (dz x) v:=by
 unfold dz;split
 ·cases h with
  |sl0=>exact .sl0 false _
  |slS a1 a2 a3 a4 a5 a6 a7 a8=>exact .slS a1 a2 a3 a4 a5 a6 a7 a8
 ·exact h
theorem zwK :((zz P t z).map dz).length=z.length:=by rw[List.length_map,zms]
theorem zox(hz:z.all zai=true)(l:Nat→Lo):∀(j:Nat) (x:PV) (y:Value),((zz P t z).map dz)[j]? =some x→z[j]? =some y→PR E (l j) x y:=fun j x y h1 h2=>by
 obtain⟨x0,h3,rfl⟩:=zdZ h1;exact(zyX (ziP hz (fun _=>none) j x0 y h3 h2)).up
theorem zDE{x:PV}(h:PR E none x v)(hv:zai v=true):PR E none (ud x) v:=by
 unfold ud;split
 ·cases h with
  |sl0=>exact .sl0 true _
  |slS a1 a2 a3 a4 a5 a6 a7 a8=>simp[zai]at hv
 ·exact h
theorem zlV{b:Bool}:(uz b ((zz P t z).map dz)).length=z.length:=by unfold uz;split<;>simp[zms]
theorem zlt{b:Bool}(hz:z.all zai=true)(l:Nat→Lo):∀(j:Nat) (x:PV) (y:Value),(uz b ((zz P t z).map dz))[j]? =some x→z[j]? =some y→PR E (l j) x y:=fun j x y h1 h2=>by
 unfold uz at h1;split at h1
 ·obtain⟨x0,h3,rfl⟩:=zdZ h1;obtain⟨x1,h4,rfl⟩:=zdZ h3;exact(zDE (zyX (ziP hz (fun _=>none) j x1 y h4 h2)) (List.all_eq_true.1 hz y (List.mem_of_getElem? h2))).up
 ·exact zox hz l j x y h1 h2
theorem zrG(r:RelP c.nt pin E0 E pf fr)(hp:PinOK c pin){e:TypeId}(ho:o.op=.alloc e)(h:zkt P c e o.dst K pf)
(hk:∀pf' fr' E',K pf'→RelP c.nt pin E0 E' pf' fr'→K' fr' E'.H):aop P c.nt o K' fr E.H∨(c.hp≠[]∧ahp P c.nt o K' fr E.H):=by
 unfold zkt at h;split at h
 ·rename_i z0 d hz0 hd;obtain⟨h2,h3⟩:=h;obtain⟨g,sz,b,z,ht,h1,rfl⟩:=zAe hz0;obtain⟨c1,c2⟩:=zlg h2;have hpin:∀w,(d,w)∉pin:=fun w hw=>c2 (hp.h d w hw)
  split at h3
  ·rename_i hhp;refine .inr ⟨fun e=>by rw[e]at hhp;simp at hhp,?_⟩;have ok:=r.ok;simp only[ahp,ho,hd,ht];refine⟨c1,h1,?_⟩
   have:=hk _ (fr.put d (.v (.pointer (some ⟨E.H.n,0,none⟩)))) (E.push ⟨true,z⟩ (d,[]) fun _=>none) h3
    (r.set c1 hpin ok.gk_push (fun s _ _=>ok.stay_push fun _=>rfl) ok.since_push ok.push.wf ok.push.fresh
      (ze2 (by simp[FR.put]) (.bx zge ok.newG zfX rfl (by show(zz P e z).length≤z.length;rw[zms];exact Nat.le_refl _) (ziP h1 fun j=>some (chl (d,[]) 0 j)))) (fun s hs=>by cases hs))
   exact this
  ·left;unfold aop;rw[ho];simp only[ht,hd];rw[if_pos ⟨c1,h1⟩];exact hk _ _ E h3 (r.setLoc c1 hpin r.ok (Since.refl E) (fun s _ _=>.refl _) (zms) (ziP h1 fun j=>some (d,[(0,j)])))
 ·cases h
theorem zrJ{H H':AH}(h:mat fr H x=some (v,fr',H'))(hn:∀t,x=.tmp t→∀a b cs,fr t≠.ls a b cs):rdv fr x=some v∧fr'=fr∧H'=H:=by
 cases x with
 |tmp t=>
  simp only[mat]at h;split at h
  ·rename_i y hy;simp only[Option.some.injEq,Prod.mk.injEq]at h;obtain⟨rfl,rfl,rfl⟩:=h;exact⟨by simp[rdv,hy],rfl,rfl⟩
  ·rename_i a b cs hy;exact absurd hy (hn t rfl a b cs)
  ·cases h
 |const k=>simp only[mat,Option.map_eq_some_iff,Prod.mk.injEq]at h;obtain⟨y,h1,rfl,rfl,rfl⟩:=h;exact⟨h1,rfl,rfl⟩
 |func k=>simp only[mat,Option.map_eq_some_iff,Prod.mk.injEq]at h;obtain⟨y,h1,rfl,rfl,rfl⟩:=h;exact⟨h1,rfl,rfl⟩
 |global k=>simp only[mat,Option.map_eq_some_iff,Prod.mk.injEq]at h;obtain⟨y,h1,rfl,rfl,rfl⟩:=h;exact⟨h1,rfl,rfl⟩
theorem zp9(r:RelP nt pin E0 E pf fr){y:PV}{pf1:PFr}(h:zbg ez pf x=some (y,pf1))(hl:lsO pf x=false):∀t,x=.tmp t→∀a b cs,fr t≠.ls a b cs:=by
 rintro t rfl a b cs e;simp only[lsO]at hl;simp only[zbg]at h;have hf:=r.f t;cases hpt:pf t with
 |v z=>
  rw[hpt]at hf h;obtain⟨v,h1,_⟩:=zcl hf (by rintro rfl;simp[zeO,zj2,isJ]at h);rw[e]at h1;cases h1
 |ls es rows=>rw[hpt]at hl;simp[zio]at hl
 |rf s p=>rw[hpt]at hf;obtain⟨v,h1,_⟩:=hf;rw[e]at h1;cases h1
 |rv s p lo hi=>
  rw[hpt]at hf;rcases hf with⟨_,h2,_⟩|⟨id,off,es,n,cc,_,_,_,h4⟩
  ·rw[e]at h2;cases h2
  ·rw[e]at h4;cases h4
 |ra s p i j n=>rw[hpt]at hf;obtain⟨vs,h1,_⟩:=hf;rw[e]at h1;cases h1
 |_=>rw[hpt]at h;simp[zeO]at h
theorem zub(r:RelP c.nt pin E0 E pf fr)(hp:PinOK c pin){e:TypeId}(ho:o.op=.box e x)(h:zpP P c e x o.dst K pf)
(hk:∀pf' fr' E',K pf'→RelP c.nt pin E0 E' pf' fr'→K' fr' E'.H):aop P c.nt o K' fr E.H∨(c.hp≠[]∧ahp P c.nt o K' fr E.H):=by
 unfold zpP at h;split at h
 ·rename_i tz y pf1 d ht0 htk hd;obtain⟨rest,ht⟩:=zjn ht0;obtain⟨h0,h1,h2,h3⟩:=h;obtain⟨c1,c2⟩:=zlg h2;have hpin:∀w,(d,w)∉pin:=fun w hw=>c2 (hp.h d w hw)
  obtain⟨v,fr1,H1,E1,m1,e1,r1,f1⟩:=zdw r (fl:=[]) (fun k x v h=>by simp at h) htk;obtain⟨m2,rfl,rfl⟩:=zrJ m1 (zp9 r htk h0);have hfl:PR E1 (some (c.nt,[(0,0)])) y v:=f1 0 y v rfl;have hrl:∀s:Nat,s<c.nt→∀q:zad,rlF (c.nt,[(0,0)]) (d,[]) 0 0 y (s,q)=none:=fun s hs q=>zwk (by show s≠c.nt;omega)
  split at h3
  ·rename_i hhp;refine .inr ⟨fun e=>by rw[e]at hhp;simp at hhp,?_⟩;have ok:=r1.ok;obtain⟨k1,k2,k3⟩:=zgu (E':=E1.push ⟨true,v.cells.toList⟩ (d,[]) (rlF (c.nt,[(0,0)]) (d,[]) 0 0 y)) (b:=(d,[])) (i:=0) (j:=0) hfl h1 ok.gk_push fun a b h=>ok.move_push h
   simp only[ahp,ho,hd,ht,m2];refine⟨c1,k3,?_⟩
   have r2:=r1.set c1 hpin ok.gk_push (fun s hs _=>ok.stay_push fun q=>hrl s hs _) ok.since_push ok.push.wf ok.push.fresh
    (ze2 (by simp[FR.put]) (.bx (k:=⟨true,v.cells.toList⟩) zge ok.newG zfX rfl (by show(zay y).length≤v.cells.toList.length;rw[k1];exact Nat.le_refl _) (fun j x y a b=>by simpa[chl]using k2 j x y a b))) (fun s hs=>by cases hs) (fv:=.v (.pointer (some ⟨E1.H.n,0,none⟩)))
   split at h3
   ·have hf:=r2.f d;simp only[PFr.put,if_pos]at hf;obtain⟨w,hw1,hw2⟩:=hf;have hwe:w=.pointer (some ⟨E1.H.n,0,none⟩):=by simpa[FR.put]using hw1.symm
    subst hwe;have hfr:∀v,(fr1.put d v).put d v=fr1.put d v:=fun v=>by funext z;simp only[FR.put];split<;>rfl
    have hd2:=hw2.freeze (E':=(E1.push ⟨true,v.cells.toList⟩ (d,[]) (rlF (c.nt,[(0,0)]) (d,[]) 0 0 y)).fz (d,[])) zgs zqU;have r3:=r2.set c1 hpin (zgs (a:=(d,[]))) (fun s hs hne=>zhN (by show s≠d;exact hne)) ziC r2.ok.fz.wf r2.ok.fz.fresh (ze2 (v:=.pointer (some ⟨E1.H.n,0,none⟩)) (by simp[FR.put]) hd2.up) (fun s hs=>by cases hs) (fv:=.v (.pointer (some ⟨E1.H.n,0,none⟩)));rw[hfr]at r3;have:=hk _ (fr1.put d (.v (.pointer (some ⟨E1.H.n,0,none⟩)))) _ h3 r3;rw[show((E1.push ⟨true,v.cells.toList⟩ (d,[]) (rlF (c.nt,[(0,0)]) (d,[]) 0 0 y)).fz (d,[])).H=E1.H.push ⟨true,v.cells.toList⟩from rfl,e1]at this;exact this
   have:=hk _ (fr1.put d (.v (.pointer (some ⟨E1.H.n,0,none⟩)))) _ h3 r2;rw[show(E1.push ⟨true,v.cells.toList⟩ (d,[]) (rlF (c.nt,[(0,0)]) (d,[]) 0 0 y)).H=E1.H.push ⟨true,v.cells.toList⟩from rfl,e1]at this;exact this
  ·left;obtain⟨k1,k2,k3⟩:=zgu (E':=E1.rl (rlF (c.nt,[(0,0)]) (d,[]) 0 0 y)) (b:=(d,[])) (i:=0) (j:=0) hfl h1 zba fun a b h=>zcJ h
   unfold aop;rw[ho];simp only[ht,hd,m2];rw[if_pos ⟨c1,k3⟩];have:=hk _ _ (E1.rl (rlF (c.nt,[(0,0)]) (d,[]) 0 0 y)) h3 (r1.setLoc c1 hpin r1.ok.rl zcM (fun s hs _=>zbN fun q=>hrl s hs _) k1 (fun j x y a b=>by simpa using k2 j x y a b));rw[show(E1.rl (rlF (c.nt,[(0,0)]) (d,[]) 0 0 y)).H=E1.H from rfl,e1]at this;exact this
 ·cases h
theorem RelP.mater(r:RelP nt pin E0 E pf fr){t es:Nat}{rows:List (List PV)}(ht:t<nt)(hpt:pf t=.ls es rows):
 ∃v fr' E',mat fr E.H (.tmp t)=some (v,fr',E'.H)∧fr' t=.v v∧RelP nt pin E0 E' ((pf.upd t (.v (.sl true es rows))).kill t 0) fr'∧(∀fl,FlOK nt E fl→FlOK nt E' fl)∧(∀s,s≠t→fr' s=fr s):=by
 have hf:=r.f t;rw[hpt]at hf;obtain⟨cells,c1,c2,c3,c4,c5⟩:=hf;have ok:=r.ok;refine⟨.slice (some ⟨E.H.n,0,some es⟩) rows.length rows.length,fr.put t (.v (.slice (some ⟨E.H.n,0,some es⟩) rows.length rows.length)),E.push ⟨true,cells⟩ (t,[]) fun _=>none,by simp[mat,c1];rfl,by simp[FR.put],?_,fun fl hfl=>hfl.stay ok.gk_push (ok.stay_push fun _=>rfl),fun s hs=>by simp[FR.put,hs]⟩;refine r.chg ht ok.gk_push (fun s hs hst=>ok.stay_push fun q=>rfl) (fun L hL=>absurd hL (Nat.not_lt_zero _)) (fun s hs=>by simp[FR.put,hs]) (fun h=>absurd h (Nat.lt_irrefl _)) ok.since_push ok.push.wf ok.push.fresh (fun _ _ h1 h2=>by rw[c1]at h1;cases h1) ?_ rfl fun k v hk=>?_
 ·refine ze2 (by simp[FR.put]) (.slO zge ok.newG zfX rfl rfl (Nat.le_refl _) c3.1 c4 ⟨⟨c3.2,rfl⟩,by rw[Nat.zero_add,c2];exact Nat.le_refl _⟩ fun i rw j x y g1 g2 g3=>?_);rw[Nat.zero_add]at g3;exact(c5 i rw j x y g1 g2 g3).move ok.gk_push (ok.stay_push fun q=>rfl)
 ·have:=r.pin k v hk;have hne:k≠t:=fun e=>by rw[e,c1]at this;cases this
  simpa[FR.put,hne]using this
theorem zjc{op:Op}{d:Option Tmp}{ty:TypeId}{ps:String}{af:Array Edge}{g:Option (Nat×Bool)}{H H':AH}{w:Value}(h1:zaJ op=some [x])(h2:mat fr H x=some (v,fr',H'))(h3:zaP P op [v]=some w)
(h:zar nt K' d (.v w) fr' H'):zaB P nt ⟨d,op,ty,ps,af,g⟩ K' fr H:=by
 simp only[zaB,h1,zaG,h2,h3];exact h
theorem RelP.lay0(r:RelP nt pin E0 E pf fr){q s:Nat}{row:List PV}(hs:s<nt)(hq:q<nt)(hps:pf s=.bl row)(hpq:pf q=.pt s [] 0 0):
 ∃cells E',fr q=.lp s 0∧fr s=.loc cells∧E'.H=E.H.push ⟨true,cells⟩∧RelP nt pin E0 E' (((pf.upd s (.v (.bx row))).kill s 0).put q (.rf s [])) ((fr.put s (.v (.pointer (some ⟨E.H.n,0,none⟩)))).put q (.v (.pointer (some ⟨E.H.n,0,none⟩)))):=by
 have hf:=r.f s;rw[hps]at hf;obtain⟨cells,c1,c2,c5⟩:=hf;have hfq:=r.f q;rw[hpq]at hfq
 have hlp:fr q=.lp s 0:=by
  rcases hfq with⟨_,_,_,_,h4⟩|⟨v0,id,o,h1,h2,_⟩
  ·exact h4
  ·rcases h1 with⟨x,b1,b2⟩|⟨c0,j',p',y',b1,b2,_⟩
   ·rw[c1]at b1;cases b1
   ·cases b2
 have hne:∀s' w,fr s'=.v w→s'≠s:=fun s' w h e=>by rw[e,c1]at h;cases h
 have ok:=r.ok;have hqs:q≠s:=fun e=>by rw[e,hps]at hpq;cases hpq
 have r1:RelP nt pin E0 (E.push ⟨true,cells⟩ (s,[]) fun _=>none) ((pf.upd s (.v (.bx row))).kill s 0) (fr.put s (.v (.pointer (some ⟨E.H.n,0,none⟩)))):=by
  refine r.chg hs ok.gk_push (fun s hs hst=>ok.stay_push fun q=>rfl) (fun L hL=>absurd hL (Nat.not_lt_zero _)) (fun s hs=>by simp[FR.put,hs]) (fun h=>absurd h (Nat.lt_irrefl _)) ok.since_push ok.push.wf ok.push.fresh (fun _ _ _ h2=>by simp[FR.put]at h2) ?_ rfl fun k v hk=>?_
  ·exact ze2 (by simp[FR.put]) (.bx zge ok.newG zfX rfl (Nat.le_of_eq c2) fun j x y g1 g2=>(c5 j x y g1 g2).move ok.gk_push (ok.stay_push fun q=>rfl))
  ·have:=r.pin k v hk;have:=hne k v this;simp[FR.put,this,r.pin k v hk]
 refine⟨cells,E.push ⟨true,cells⟩ (s,[]) fun _=>none,hlp,c1,rfl,?_⟩;refine r1.set (d:=q) hq (fun v hv=>by have:=r.pin q v hv;rw[hlp]at this;cases this) (GK.refl _) (fun _ _ _=>MoveOK.refl _) ⟨Nat.le_refl _,GK.refl _,fun id _ h=>⟨h,rfl,fun h=>h⟩⟩ r1.wf r1.fresh ?_ (fun s' hs'=>by cases hs';exact hs);exact⟨.pointer (some ⟨E.H.n,0,none⟩),by simp[FR.put],.inl ⟨.pointer (some ⟨E.H.n,0,none⟩),by simp[FR.put,Ne.symm hqs],rfl⟩⟩
theorem zxy{q s i j:Nat}{p:zad}{y:PF}{x:PF×PFr}(h:lyR pf q s p i j y=some x):p=[]∧i=0∧j=0∧∃row,y=.bl row∧x=(.rf s [],((pf.upd s (.v (.bx row))).kill s 0).put q (.rf s [])):=by
 unfold lyR at h;split at h
 ·rename_i row;cases h;exact⟨rfl,rfl,rfl,row,rfl,rfl⟩
 ·cases h
theorem zBL{c:Cfg}{d:Option Tmp}(h:lyB c d=true):c.hp≠[]:=by
 unfold lyB at h;split at h
 ·rw[Bool.and_eq_true]at h;intro e;rw[e]at h;exact absurd h.1 (by decide)
 ·cases h
theorem zqq(r:RelP c.nt pin E0 E pf fr)(hp:PinOK c pin)(ho:o.op=.assign x)(h:zjo ez c x o.dst K pf)
(hk:∀pf' fr' E',K pf'→RelP c.nt pin E0 E' pf' fr'→K' fr' E'.H):aop P c.nt o K' fr E.H:=by
 have rest:∀{d:Option Tmp}{ty:TypeId}{ps:String}{af:Array Edge}{g:Option (Nat×Bool)}{x:Operand}{v:Value}{fr1:FR}{H1:AH},(∀s o,rda fr x≠some (.lp s o))→mat fr E.H x=some (v,fr1,H1)→zar c.nt K' d (.v v) fr1 H1→aop P c.nt ⟨d,.assign x,ty,ps,af,g⟩ K' fr E.H:=by
  intro d ty ps af g x v fr1 H1 h0 h1 h2;show(match rda fr x with|some (.lp s off)=>zar c.nt K' d (.lp s off) fr E.H|_=>zaB P c.nt ⟨d,.assign x,ty,ps,af,g⟩ K' fr E.H);split
  ·rename_i s o e;exact absurd e (h0 s o)
  ·exact zjc (P:=P) (op:=.assign x) rfl h1 rfl h2
 unfold zjo at h;split at h
 ·rename_i y hy;obtain⟨d,op,ty,ps,af,g⟩:=o;simp only at ho hy h;subst ho;unfold znv at hy;split at hy
  ·rename_i d t;split at hy
   ·have hf:=r.f t;unfold zpg at hy;split at hy
    ·rename_i row hpt;cases hy;rw[hpt]at hf;obtain⟨cells,c1,_⟩:=hf
     have ht:t<c.nt:=by
      rcases Nat.lt_or_ge t c.nt with h1|h1
      ·exact h1
      ·have:=r.hi t h1;rw[hpt]at this;cases this
     unfold aop;simp only[rda,c1];exact zb1 r hp (y:=.pt t [] 0 0) rfl ht (.inl ⟨cells,c1,rfl,rfl,rfl⟩) h hk
    ·rename_i s p hpt;cases hy;rw[hpt]at hf;obtain⟨v,h2,h3⟩:=hf;exact rest (x:=.tmp t) (fun s o e=>by simp[rda,h2]at e) (by simp only[mat,h2]) (zb1 r hp (y:=.rf s p) rfl (r.rt t s (by rw[hpt];rfl)) ⟨v,rfl,h3⟩ h hk)
    ·rename_i s gg us hpt;cases hy;rw[hpt]at hf;obtain⟨v,vs,h2,h3⟩:=hf;exact rest (x:=.tmp t) (fun s o e=>by simp[rda,h2]at e) (by simp only[mat,h2]) (zb1 r hp (y:=.cl s gg us) rfl (r.rt t s (by rw[hpt];rfl)) ⟨v,vs,rfl,h3⟩ h hk)
    ·cases hy
   ·cases hy
  ·cases hy
 split at h
 ·rename_i y pf1 htk;obtain⟨v,fr1,H1,E1,m1,e1,r1,f1⟩:=zdw r (fl:=[]) (fun k x v h=>by simp at h) htk;have:=za6 r1 hp (f1 0 y v rfl) h hk;rw[e1]at this;obtain⟨d,op,ty,ps,af,g⟩:=o;simp only at ho;subst ho;refine rest (fun s o e=>?_) m1 this;cases x with
  |tmp t=>
   simp only[mat]at m1;split at m1
   ·rename_i hy;simp[rda,hy]at e
   ·rename_i hy;simp[rda,hy]at e
   ·cases m1
  |const k=>simp only[rda,Option.map_eq_some_iff]at e;obtain⟨w,_,e⟩:=e;cases e
  |func k=>simp only[rda,Option.map_eq_some_iff]at e;obtain⟨w,_,e⟩:=e;cases e
  |global k=>simp[mat,rdv]at m1
 ·cases h
theorem zsO(r:RelP c.nt pin E0 E pf fr)(hp:PinOK c pin)(ho:o.op=.move x)(h:zhZ ez c x o.dst K pf)
(hk:∀pf' fr' E',K pf'→RelP c.nt pin E0 E' pf' fr'→K' fr' E'.H):aop P c.nt o K' fr E.H∨(c.hp≠[]∧ahp P c.nt o K' fr E.H):=by
 obtain⟨d,op,ty,ps,af,g⟩:=o;simp only at ho h;subst ho
 have rest:∀{x:Operand}{v:Value}{fr1:FR}{H1:AH},(∀s o,rda fr x≠some (.lp s o))→mat fr E.H x=some (v,fr1,H1)→zar c.nt K' d (.v v) fr1 H1→aop P c.nt ⟨d,.move x,ty,ps,af,g⟩ K' fr E.H:=by
  intro x v fr1 H1 h0 h1 h2;show(match rda fr x with|some (.lp s off)=>zar c.nt K' d (.lp s off) fr E.H|_=>zaB P c.nt ⟨d,.move x,ty,ps,af,g⟩ K' fr E.H);split
  ·rename_i s o e;exact absurd e (h0 s o)
  ·exact zjc (P:=P) (op:=.move x) rfl h1 rfl h2
 cases x with
 |tmp t=>
  simp only[zhZ]at h;have hf:=r.f t
  have ht:t<c.nt∨pf t=jP:=by
   rcases Nat.lt_or_ge t c.nt with h1|h1
   ·exact .inl h1
   ·exact .inr (r.hi t h1)
  cases hpt:pf t with
  |v x=>
   rw[hpt]at h hf;simp only[zgK]at h;left;obtain⟨hj,h⟩:=h;have hxj:=ze5 hj;have ht:t<c.nt:=by rcases ht with h1|h1;exact h1;rw[hpt]at h1;cases h1;exact absurd rfl hxj
   obtain⟨v,h1,h2⟩:=zcl hf hxj;refine rest (fun s o e=>by simp[rda,h1]at e) (v:=v) (fr1:=fr) (H1:=E.H) (by simp[mat,h1]) ?_;split at h
   ·exact zb1 r hp (y:=.rf t []) rfl ht ⟨v,rfl,.inl ⟨v,h1,rfl⟩⟩ h hk
   ·rename_i ho;exact za6 r hp ((h2.free (by simpa using ho)).up) h hk
  |ls es rows=>
   rw[hpt]at h;left;obtain⟨ht,h⟩:=h;obtain⟨v,fr1,E1,m1,m2,m3,_,_⟩:=r.mater ht hpt
   obtain⟨cells,c1,_⟩:∃cells,fr t=.ls rows.length es cells∧True:=by
    rw[hpt]at hf;obtain⟨cells,c1,_⟩:=hf;exact⟨cells,c1,trivial⟩
   refine rest (fun s o e=>by simp[rda,c1]at e) m1 ?_;exact zb1 m3 hp (y:=.rf t []) rfl ht ⟨v,rfl,.inl ⟨v,m2,rfl⟩⟩ h hk
  |bl row=>
   rw[hpt]at h hf;simp only[zgK]at h;obtain⟨cells,c1,_⟩:=hf;have ht:t<c.nt:=by rcases ht with h1|h1;exact h1;rw[hpt]at h1;cases h1
   left;unfold aop;simp only[rda,c1];exact zb1 r hp (y:=.pt t [] 0 0) rfl ht (.inl ⟨cells,c1,rfl,rfl,rfl⟩) h hk
  |skip=>rw[hpt]at h;exact h.elim
  |pt s p i j=>
   rw[hpt]at h hf;simp only[zgK]at h;have hs:=r.rt t s (by rw[hpt];rfl);have ht:t<c.nt:=by rcases ht with h1|h1;exact h1;rw[hpt]at h1;cases h1
   split at h
   ·rename_i hl;split at h
    ·rename_i y hy;obtain⟨rfl,rfl,rfl,row,hrow,rfl⟩:=zxy hy;obtain⟨cells,E2,k1,k2,k3,r2⟩:=r.lay0 hs ht hrow hpt
     have:=zb1 r2 hp (y:=.rf s []) (fv:=.v (.pointer (some ⟨E.H.n,0,none⟩))) rfl hs ⟨_,rfl,.inl ⟨_,by
      have:s≠t:=fun e=>by rw[e,hpt]at hrow;cases hrow
      simp[FR.put,this],rfl⟩⟩ h hk
     refine .inr ⟨zBL hl,?_⟩;cases d with
     |none=>simp[lyB]at hl
     |some d=>
      simp only[zar]at this;split at this
      ·rename_i hd;simp only[ahp];refine⟨s,cells,⟨hd,ht,k1,k2⟩,?_⟩;rw[←k3];exact this
      ·cases this
    ·cases h
   ·left;rcases hf with⟨cells,h1,h2,h3,h4⟩|⟨v0,id,o,h1,h2,h3⟩
    ·unfold aop;simp only[rda,h4,h1];exact zb1 r hp (y:=.pt s p i j) rfl hs (.inl ⟨cells,h1,h2,h3,rfl⟩) h hk
    ·exact rest (fun s o e=>by simp[rda,h3]at e) (by simp only[mat,h3]) (zb1 r hp (y:=.pt s p i j) rfl hs (.inr ⟨v0,id,o,h1,h2,rfl⟩) h hk)
  |rf s p=>
   rw[hpt]at h hf;simp only[zgK]at h;left;obtain⟨v,h1,h2⟩:=hf;exact rest (fun s o e=>by simp[rda,h1]at e) (by simp only[mat,h1]) (zb1 r hp (y:=.rf s p) rfl (r.rt t s (by rw[hpt];rfl)) ⟨v,rfl,h2⟩ h hk)
  |rv s p lo hi=>
   rw[hpt]at h hf;simp only[zgK]at h;left;have hs:=r.rt t s (by rw[hpt];rfl);rcases hf with⟨h1,h2,h3⟩|⟨id,off,es,n,cc,h1,h2,h3,h4⟩
   ·exact rest (fun s o e=>by simp[rda,h2]at e) (by simp only[mat,h2]) (zb1 r hp (y:=.rv s p lo hi) rfl hs (.inl ⟨h1,rfl,h3⟩) h hk)
   ·exact rest (fun s o e=>by simp[rda,h4]at e) (by simp only[mat,h4]) (zb1 r hp (y:=.rv s p lo hi) rfl hs (.inr ⟨id,off,es,n,cc,h1,h2,h3,rfl⟩) h hk)
  |as b s p i j n=>rw[hpt]at h;exact h.elim
  |cl s gg us=>
   rw[hpt]at h hf;simp only[zgK]at h;left;obtain⟨v,vs,h1,h2⟩:=hf;exact rest (fun s o e=>by simp[rda,h1]at e) (by simp only[mat,h1]) (zb1 r hp (y:=.cl s gg us) rfl (r.rt t s (by rw[hpt];rfl)) ⟨v,vs,rfl,h2⟩ h hk)
  |ra s p i j n=>
   rw[hpt]at h hf;simp only[zgK]at h;left;obtain⟨vs,h1,h2,h3⟩:=hf;exact rest (fun s o e=>by simp[rda,h1]at e) (by simp only[mat,h1]) (zb1 r hp (y:=.ra s p i j n) rfl (r.rt t s (by rw[hpt];rfl)) ⟨vs,rfl,h2,h3⟩ h hk)
 |const k=>
  simp only[zhZ]at h;left;split at h
  ·rename_i y pf1 htk;obtain⟨v,fr1,H1,E1,m1,e1,r1,f1⟩:=zdw r (fl:=[]) (fun k x v h=>by simp at h) htk;have:=za6 r1 hp (f1 0 y v rfl) h hk;rw[e1]at this;refine rest (fun s o e=>?_) m1 this;simp only[rda,Option.map_eq_some_iff]at e;obtain⟨w,_,e⟩:=e;cases e
  ·cases h
 |func k=>
  simp only[zhZ]at h;left;split at h
  ·rename_i y pf1 htk;obtain⟨v,fr1,H1,E1,m1,e1,r1,f1⟩:=zdw r (fl:=[]) (fun k x v h=>by simp at h) htk;have:=za6 r1 hp (f1 0 y v rfl) h hk;rw[e1]at this;refine rest (fun s o e=>?_) m1 this;simp only[rda,Option.map_eq_some_iff]at e;obtain⟨w,_,e⟩:=e;cases e
  ·cases h
 |global g=>simp[zhZ,zbg]at h
end
end Go.Pm
