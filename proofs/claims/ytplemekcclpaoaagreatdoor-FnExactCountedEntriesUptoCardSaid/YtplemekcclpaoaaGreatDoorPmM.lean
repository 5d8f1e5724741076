import Derived.Test.YtplemekcclpaoaaGreatDoorPmL
namespace Go.Pm
open Go.Am
section
variable {nt:Nat}{pin:List (Nat×Value)}{E0 E E':Env}{pf:PFr}{fr fr':FR}{c:Cfg}{P:Program}
def rlB(nt:Nat)(xs:List PV)(T:Nat×zad)(pl:Nat→Nat×Nat)(c:Nat×zad):Option (Nat×zad):=
 if c.1=nt then match c.2 with
  |(_,k)::_=>(xs[k]?).bind fun x=>rlF (nt,[(0,k)]) T (pl k).1 (pl k).2 x c
  |[]=>none
 else none
variable{K:PFr→Prop}{K':FR→AH→Prop}{T:Nat×zad}{i:Nat}{js:List Nat}{o:Oper}{pl:Nat→Nat×Nat}{ps:Array (Nat×Operand)}{t:TypeId}{v:Value}{vs:List Value}{x:PV}{xs:List PV}
theorem zz4{a b:Nat×zad}{j:Nat}{c d:Nat×zad}(h:rlF a b i j x c=some d):c.1=a.1∧a.2<+:c.2:=by
 cases x with
 |agg row=>
  obtain⟨q,r,_,rfl⟩:=zzN h;exact⟨rfl,by simp⟩
 |_=>
  simp only[rlF,rlW]at h;split at h
  ·assumption
  ·cases h
theorem zBo{k:Nat}{c d:Nat×zad}(hx:xs[k]? =some x)(h:rlF (nt,[(0,k)]) T (pl k).1 (pl k).2 x c=some d):rlB nt xs T pl c=some d:=by
 obtain⟨h1,r,h2⟩:=zz4 h;obtain⟨c1,c2⟩:=c;simp only at h1 h2;subst h1;subst h2;simp only[rlB,if_true,List.cons_append,List.nil_append,hx,Option.bind_some];exact h
theorem zwh{c:Nat×zad}(h:c.1≠nt):rlB nt xs T pl c=none:=by simp[rlB,h]
theorem znh(hfl:FlOK nt E (xs.zip vs))(hg:GK E E')(hm:∀a b:Nat×zad,(∀r,rlB nt xs T pl (a.1,a.2++r)=some (b.1,b.2++r))→MoveOK E E' (some a) (some b))
{k:Nat}(hx:xs[k]? =some x)(hv:vs[k]? =some v)(hc:zcc x=true):
 (zay x).length=v.cells.toList.length∧(∀(t:Nat) (y:PV) (w:Value),(zay x)[t]? =some y→v.cells.toList[t]? =some w→PR E' (some (T.1,T.2++[((pl k).1,(pl k).2+t)])) y w)∧zgi v=true:=by
 have h:=hfl k x v (by rw[List.getElem?_zip_eq_some];exact⟨hx,hv⟩);exact zgu h hc hg fun a b hab=>hm a b fun r=>zBo hx (hab r)
def zu9(E:Env)(T:Nat×zad)(row:List PV)(cells:List Value):Prop:=
 row.length=cells.length∧∀(j:Nat) (x:PV) (y:Value),row[j]? =some x→cells[j]? =some y→PR E (some (T.1,T.2++[(0,j)])) x y
def zqY(E:Env)(T:Nat×zad)(es:Nat)(rows:List (List PV))(cells:List Value):Prop:=
 cells.length=rows.length*es∧(∀r,r∈rows→r.length=es)∧∀(i:Nat) (r:List PV) (j:Nat) (x:PV) (y:Value),rows[i]? =some r→r[j]? =some x→cells[i*es+j]? =some y→PR E (some (T.1,T.2++[(i,j)])) x y
theorem zni{size:Nat}(h:zjD size x=true):zcc x=true∧(zay x).length=size∧size≠0:=by
 simp only[zjD,Bool.and_eq_true,decide_eq_true_eq]at h;exact⟨h.1.1,h.1.2,h.2⟩
theorem zs5{place:Nat→Option (Nat×Nat)}:∀(l:List (Nat×PV×Value)) {row row':List PV}{cells:List Value},
 (∀(q:Nat) (i:Nat) (x:PV) (v:Value),l[q]? =some (i,x,v)→zcc x=true→∀off sz,place i=some (off,sz)→
   (zay x).length=v.cells.toList.length∧(∀(t:Nat) (y:PV) (w:Value),(zay x)[t]? =some y→v.cells.toList[t]? =some w→PR E (some (T.1,T.2++[(0,off+t)])) y w)∧zgi v=true)→
 zu9 E T row cells→ziK place (l.map fun a=>(a.1,a.2.1)) row=some row'→∃cells',zdE place (l.map fun a=>(a.1,a.2.2)) cells=some cells'∧zu9 E T row' cells':=by
 intro l;induction l with
 |nil=>intro row row' cells _ hr h;simp only[List.map_nil,ziK,Option.some.injEq]at h;subst h;exact⟨cells,rfl,hr⟩
 |cons a l ih=>
  obtain⟨i,x,v⟩:=a;intro row row' cells hp hr h;simp only[List.map_cons,ziK,Option.bind_eq_some_iff]at h;obtain⟨⟨off,sz⟩,h1,h⟩:=h;split at h
  ·rename_i hok;obtain⟨k1,k2,k3⟩:=zni hok;obtain⟨row1,h2,h3⟩:=Option.bind_eq_some_iff.1 h;obtain⟨c1,c2,c3⟩:=hp 0 i x v rfl k1 off sz h1;obtain⟨a1,a2,a3⟩:=zfO h2;have hne:zay x≠[]:=fun e=>k3 (by rw[←k2,e];rfl)
   have hve:v.cells.toList≠[]:=fun e=>hne (List.eq_nil_of_length_eq_zero (by rw[c1,e];rfl))
   obtain⟨cs,hcs⟩:=zhC (cs:=cells) (n:=off) hve (by rw[←c1,←hr.1];exact a2 hne);obtain⟨b1,b2,b3,b4⟩:=zhF hve hcs
   have hr1:zu9 E T row1 cs:=by
    refine⟨by rw[a1,b1];exact hr.1,fun j z y g1 g2=>?_⟩;rw[a3 j]at g1;split at g1
    ·rename_i hin;have:=b4 (j-off) (by omega);rw[show off+(j-off)=j by omega,g2]at this;have:=c2 (j-off) z y g1 this.symm
     rwa [show off+(j-off)=j by omega]at this
    ·rename_i hin;rw[b3 j (by rw[←c1];exact hin)]at g2;exact hr.2 j z y g1 g2
   obtain⟨cells',q1,q2⟩:=ih (fun q i' x' v' hq=>hp (q+1) i' x' v' (by simpa using hq)) hr1 h3;refine⟨cells',?_,q2⟩;simp only[List.map_cons,zdE,h1];rw[if_pos (by simp[c3,←c1,k2,k3]),hcs];exact q1
  ·cases h
theorem zsI{es:Nat}:∀(l:List (Nat×PV×Value)) {rows rows':List (List PV)}{cells:List Value},
 (∀(q:Nat) (i:Nat) (x:PV) (v:Value),l[q]? =some (i,x,v)→zcc x=true→
   (zay x).length=v.cells.toList.length∧(∀(t:Nat) (y:PV) (w:Value),(zay x)[t]? =some y→v.cells.toList[t]? =some w→PR E (some (T.1,T.2++[(i,t)])) y w)∧zgi v=true)→
 zqY E T es rows cells→zhp es (l.map fun a=>(a.1,a.2.1)) rows=some rows'→∃cells',zdE (fun i=>some (i*es,es)) (l.map fun a=>(a.1,a.2.2)) cells=some cells'∧zqY E T es rows' cells'∧rows'.length=rows.length:=by
 intro l;induction l with
 |nil=>intro rows rows' cells _ hr h;simp only[List.map_nil,zhp,Option.some.injEq]at h;subst h;exact⟨cells,rfl,hr,rfl⟩
 |cons a l ih=>
  obtain⟨i,x,v⟩:=a;intro rows rows' cells hp hr h;simp only[List.map_cons,zhp]at h;split at h
  ·rename_i hc;obtain⟨hok,hi⟩:=hc;obtain⟨k1,k2,k3⟩:=zni hok;obtain⟨c1,c2,c3⟩:=hp 0 i x v rfl k1;obtain⟨r1,r2,r3⟩:=hr;have hne:zay x≠[]:=fun e=>k3 (by rw[←k2,e];rfl)
   have hve:v.cells.toList≠[]:=fun e=>hne (List.eq_nil_of_length_eq_zero (by rw[c1,e];rfl))
   have hmul:(i+1)*es≤rows.length*es:=Nat.mul_le_mul_right _ hi;rw[Nat.succ_mul]at hmul;obtain⟨cs,hcs⟩:=zhC (cs:=cells) (n:=i*es) hve (by rw[←c1,k2,r1];exact hmul);obtain⟨b1,b2,b3,b4⟩:=zhF hve hcs
   have hr1:zqY E T es (rows.set i (zay x)) cs:=by
    refine⟨by rw[b1,r1];simp,fun r hr'=>?_,fun i' r j z y g1 g2 g3=>?_⟩
    ·rcases List.mem_or_eq_of_mem_set hr' with h|rfl
     ·exact r2 r h
     ·exact k2
    ·rw[List.getElem?_set]at g1;by_cases e:i=i'
     ·subst e;rw[if_pos rfl,if_pos hi]at g1;cases g1;have hj:j<v.cells.toList.length:=by have:=(List.getElem?_eq_some_iff.1 g2).1;omega
      rw[b4 j hj]at g3;exact c2 j z y g2 g3
     ·rw[if_neg e]at g1;have hrl:=r2 r (List.mem_of_getElem? g1);have hj:j<es:=by have:=(List.getElem?_eq_some_iff.1 g2).1;omega
      rw[b3 _ (by
       rw[←c1,k2];rintro⟨q1,q2⟩;rcases Nat.lt_or_gt_of_ne e with h|h
       ·have:(i+1)*es≤i'*es:=Nat.mul_le_mul_right _ h;rw[Nat.succ_mul]at this;omega
       ·have:(i'+1)*es≤i*es:=Nat.mul_le_mul_right _ h
        rw[Nat.succ_mul]at this;omega)]at g3
      exact r3 i' r j z y g1 g2 g3
   obtain⟨cells',q1,q2,q3⟩:=ih (fun q i' x' v' hq=>hp (q+1) i' x' v' (by simpa using hq)) hr1 h;refine⟨cells',?_,q2,by simpa using q3⟩;simp only[List.map_cons,zdE];rw[if_pos (by simp[c3,←c1,k2,k3]),hcs];exact q1
  ·cases h
theorem zsF(h:vs.length=xs.length):(js.zip (xs.zip vs)).map (fun a=>(a.1,a.2.1))=js.zip xs:=by
 have:js.zip xs=js.zip ((xs.zip vs).map Prod.fst):=by rw[List.map_fst_zip (by omega)]
 rw[this,List.zip_map_right];rfl
theorem zrC(h:vs.length=xs.length):(js.zip (xs.zip vs)).map (fun a=>(a.1,a.2.2))=js.zip vs:=by
 have:js.zip vs=js.zip ((xs.zip vs).map Prod.snd):=by rw[List.map_snd_zip (by omega)]
 rw[this,List.zip_map_right];rfl
theorem zrk{q:Nat}(h:(js.zip (xs.zip vs))[q]? =some (i,x,v)):js[q]? =some i∧xs[q]? =some x∧vs[q]? =some v:=by
 rw[List.getElem?_zip_eq_some]at h;obtain⟨h1,h2⟩:=h;rw[List.getElem?_zip_eq_some]at h2;exact⟨h1,h2⟩
theorem zsP{b:(Nat→Option (Nat×Nat))×List PV}(h:zdu P t=some b):∃z,z.all zai=true∧b.2=zz P t z∧∀js vs,zkB P t js vs=(zdE b.1 (js.zip vs) z).map fun l=>.agg l.toArray:=by
 unfold zdu at h;split at h
 ·rename_i fields hu;split at h
  ·rename_i g s by_ z hz;split at h
   ·rename_i hc;simp only[Option.some.injEq]at h;subst h;refine⟨z,by simp only[Bool.and_eq_true]at hc;exact hc.1,rfl,fun js vs=>?_⟩;simp only[zkB,hu,hz];rw[if_pos hc]
   ·cases h
  ·cases h
 ·rename_i n e hu;split at h
  ·rename_i g s by_ z hz;split at h
   ·rename_i g2 es r2 hz2;split at h
    ·rename_i hc;simp only[Option.some.injEq]at h;subst h;refine⟨z,hc,rfl,fun js vs=>?_⟩;simp only[zkB,hu,hz,hz2];rw[if_pos hc]
    ·cases h
   ·cases h
  ·cases h
 ·cases h
theorem zse(r:RelP c.nt pin E0 E pf fr)(hp:PinOK c pin)(ho:o.op=.build t ps)(h:zkJ P c t ps.toList o.dst K pf)
(hk:∀pf' fr' E',K pf'→RelP c.nt pin E0 E' pf' fr'→K' fr' E'.H):aop P c.nt o K' fr E.H:=by
 obtain⟨d,op,ty,pp,af,g⟩:=o;simp only at ho h;subst ho;unfold zkJ at h;split at h
 ·rename_i b xs pf1 hb htk;obtain⟨vs,fr1,H1,E1,m1,e1,r1,l1,l2,f1⟩:=znr r (fl:=[]) (fun k x v h=>by simp at h) htk;simp only[List.nil_append]at f1;unfold zuZ at h;split at h
  ·rename_i row hfill
   let js:=ps.toList.map (·.1)
   let M:=xs.length
   let pl:Nat→Nat×Nat:=fun k=>(0,((js[k]?).bind b.1).elim 0 Prod.fst)
   let T:Nat×zad:=(c.nt,[(0,M)])
   obtain⟨z,hz1,hz2,hz3⟩:=zsP hb
   have hzero:zu9 (E1.rl (rlB c.nt xs T pl)) T b.2 z:=by
    rw[hz2];exact⟨zms,ziP hz1 fun j=>some (T.1,T.2++[(0,j)])⟩
   rw[←zsF l1]at hfill
   obtain⟨cells',q1,q2⟩:=zs5 (T:=T) _ (fun q i x v hq hc off sz hpl=>by
    obtain⟨a1,a2,a3⟩:=zrk hq;have:=znh (T:=T) (pl:=pl) f1 (zba (f:=rlB c.nt xs T pl)) (fun a b h=>zcJ h) a2 a3 hc;have e:pl q=(0,off):=by simp only[pl];rw[show js[q]? =some i from a1];simp[hpl]
    rw[e]at this
    exact this) hzero hfill
   rw[zrC l1]at q1;have hrlN:∀s:Nat,s<c.nt→∀q:zad,rlB c.nt xs T pl (s,q)=none:=fun s hs q=>zwh (by show s≠c.nt;omega)
   have r2:RelP c.nt pin E0 ((E1.rl (rlB c.nt xs T pl)).rl (rlW T (c.nt,[(0,0)]))) pf1 fr1:=
    (r1.env r1.ok.rl zcM fun s hs=>zbN fun q=>hrlN s hs _).env r1.ok.rl.rl zcM fun s hs=>zbN fun q=>zdq (by show s≠c.nt;omega)
   have hv:PR (E1.rl (rlB c.nt xs T pl)) (some T) (.agg row) (.agg cells'.toArray):=.agg (by simpa using q2.1) fun j x y a b=>q2.2 j x y a (by simpa using b)
   have:=za6 r2 hp (hv.move zba (zcJ fun q=>zfq _ _ q)) h hk;refine(show zaB P c.nt ⟨d,.build t ps,ty,pp,af,g⟩ K' fr E.H from ?_);simp only[List.map_map]at m1;have m1:zaG fr E.H (ps.toList.map (·.2))=some (vs,fr1,H1):=m1;simp only[zaB,zaJ,m1,zaP,hz3];rw[show(zdE b.1 ((ps.toList.map fun x=>x.1).zip vs) z)=some cells' from q1];simp only[Option.map_some];rw[←e1];exact this
  ·cases h
 ·cases h
theorem zwS{z:Value}:∀{cs zs:List Value},zbQ (cs++z::zs) cs.length [v]=some (cs++v::zs):=by
 intro cs;induction cs with
 |nil=>intro zs;simp[zbQ]
 |cons c cs ih=>intro zs;simp[zbQ,ih]
theorem zyB(r:RelP nt pin E0 E pf fr){s j:Nat}{p:zad}:∀{ps:List (Nat×Operand)}{q:Nat},zlj pf s p i j q ps=true→∃vs,zaG fr E.H (ps.map (·.2))=some (vs,fr,E.H)∧vs.length=ps.length∧
 (∀k v,vs[k]? =some v→Wk E fr s (p++[(i,j+(q+k))]) v)∧∀cs zs:List Value,cs.length=q→zs.length=ps.length→zdE (fun i=>some (i*1,1)) ((ps.map (·.1)).zip vs) (cs++zs)=some (cs++vs):=by
 intro ps;induction ps with
 |nil=>intro q _;exact⟨[],rfl,rfl,fun k v h=>by simp at h,fun cs zs h1 h2=>by rw[List.eq_nil_of_length_eq_zero h2];rfl⟩
 |cons x ps ih=>
  intro q h;obtain⟨q',x⟩:=x;cases x with
  |tmp t=>
   simp only[zlj]at h;split at h
   ·rename_i hc;obtain⟨rfl,hrf,hsl⟩:=hc
    have hpt:pf t=.rf s (p++[(i,j+q')]):=by
     revert hrf;cases pf t<;>simp[zn1]
    have hf:=r.f t;rw[hpt]at hf;obtain⟨v,h1,h2⟩:=hf;obtain⟨vs,a1,a2,a3,a4⟩:=ih h
    have hv:zgi v=true∧v.cells.toList=[v]:=by
     unfold zqP at hsl;split at hsl
     ·rename_i o es rows hg;obtain⟨v',w1,w2⟩:=r.at hg (by simp) (.inl zog);have:=w1.same h2;subst this;cases w2<;>exact⟨rfl,rfl⟩
     ·cases hsl
    refine⟨v::vs,?_,by simp[a2],fun k w hk=>?_,fun cs zs c1 c2=>?_⟩
    ·simp only[List.map_cons,zaG,mat,h1];rw[a1]
    ·cases k with
     |zero=>simp at hk;subst hk;exact h2
     |succ k=>have:=a3 k w (by simpa using hk);rw[show q'+(k+1)=q'+1+k by omega];exact this
    ·cases zs with
     |nil=>simp at c2
     |cons z zs=>
      simp only[List.map_cons,List.zip_cons_cons,zdE,hv.1,hv.2];rw[Nat.mul_one,←c1,zwS];have:=a4 (cs++[v]) zs (by simp[c1]) (by simpa using c2);simpa using this
   ·cases h
  |_=>simp[zlj]at h
theorem zte(r:RelP c.nt pin E0 E pf fr)(hp:PinOK c pin){len d:Nat}(ho:o.op=.buildSlice t len ps)(hd:o.dst=some d)(h:zoa P c t len ps.toList d K pf)
(hk:∀pf' fr' E',K pf'→RelP c.nt pin E0 E' pf' fr'→K' fr' E'.H):aop P c.nt o K' fr E.H:=by
 unfold zoa at h;split at h
 ·rename_i y hy;unfold zrx at hy;simp only[Option.bind_eq_some_iff]at hy;obtain⟨z,hz,⟨s,p,i,j⟩,hh,hy⟩:=hy;obtain⟨e,g,es,b,zc,he,ht,h2,h3,h4,rfl⟩:=ziw hz;simp only at hy;split at hy
  ·rename_i hc;obtain⟨rfl,hl,hpl,hgo⟩:=hc;simp only[Option.some.injEq]at hy;subst hy;obtain⟨vs,a1,a2,a3,a4⟩:=zyB r hgo;have hne:ps.toList≠[]:=by intro e;rw[e]at hh;simp[zpI]at hh
   have hl0:len≠0:=by rw[←hpl];simpa using hne
   have hs:s<c.nt:=by
    cases hps:ps.toList with
    |nil=>exact absurd hps hne
    |cons x l=>
     rw[hps]at hh;obtain⟨q',x⟩:=x;cases x with
     |tmp t'=>
      simp only[zpI,Option.bind_eq_some_iff,Option.map_eq_some_iff,Prod.mk.injEq]at hh;obtain⟨⟨s',p'⟩,g1,_,_,rfl,_⟩:=hh;refine r.rt t' s' ?_;revert g1;cases pf t'<;>simp[zn1,zam];rintro rfl _;rfl
     |_=>simp[zpI]at hh
   have hrep:((List.replicate len zc).flatten).length=ps.toList.length:=by
    rw[ziB (es:=1) fun e he=>by rw[(List.mem_replicate.1 he).2];exact h2];simp[hpl]
   have hq:=a4 [] _ rfl hrep;have:=zb1 (K':=K') r hp (y:=.as false s p i j len) rfl hs (fv:=.ls len 1 vs) ⟨vs,rfl,⟨by rw[a2,hpl],hl0⟩,fun q y hq=>by have:=a3 q y hq;rwa [Nat.zero_add]at this⟩ h hk;simp only[zar]at this;split at this
   ·rename_i hdn;unfold aop;rw[ho];simp only[he,hd,a1,ht];rw[if_pos ⟨hdn,by omega,h2,h3,h4⟩];simp only[List.nil_append]at hq;rw[hq];exact this
   ·cases this
  ·cases hy
 ·cases h
theorem zu4(r:RelP c.nt pin E0 E pf fr)(hp:PinOK c pin){len:Nat}(ho:o.op=.buildSlice t len ps)(h:zpE P c t len ps.toList o.dst K pf)
(hk:∀pf' fr' E',K pf'→RelP c.nt pin E0 E' pf' fr'→K' fr' E'.H):aop P c.nt o K' fr E.H:=by
 unfold zpE at h;split at h
 ·rename_i hm;cases hd:o.dst with
  |none=>rw[hd]at hm;cases hm
  |some d=>rw[hd]at h;exact zte r hp ho hd h hk
 split at h
 ·rename_i z xs0 pf1 d hz htk hd;obtain⟨h1,h5⟩:=h;obtain⟨e,g,es,b,zc,he,ht,h2,h3,h4,rfl⟩:=ziw hz;simp only at h1 h5;obtain⟨vs,fr1,H1,E0',m1,e0,r0,l0,l2,f0⟩:=znr r (fl:=[]) (fun k x v h=>by simp at h) htk;simp only[List.nil_append]at f0;obtain⟨xs,hxs⟩:∃xs,drx c d xs0=xs:=⟨_,rfl⟩
  rw[hxs]at h5
  obtain⟨E1,e1,r1,l1,f1⟩:∃E1:Env,E1.H=H1∧RelP c.nt pin E0 E1 pf1 fr1∧vs.length=xs.length∧FlOK c.nt E1 (xs.zip vs):=by
   subst hxs;unfold drx;split
   ·refine⟨E0'.fz (c.nt,[]),e0,r0.env r0.ok.fz ziC fun s hs=>zhN (Nat.ne_of_lt hs),by simpa using l0,fun k x v hk=>?_⟩;rw[List.getElem?_zip_eq_some]at hk;obtain⟨x0,hx0,rfl⟩:=zdZ hk.1;have:=f0 k x0 v (List.getElem?_zip_eq_some.2 ⟨hx0,hk.2⟩);exact(this.freeze (E':=E0'.fz (c.nt,[])) zgs fun id r h1 _=>⟨.inr ⟨_,h1⟩,fun kk hk=>⟨kk,hk,rfl⟩⟩).up
   ·exact⟨E0',e0,r0,l0,f0⟩
  unfold zqF at h5;split at h5
  ·rename_i rows hfill;obtain⟨hck,hK⟩:=h5;obtain⟨c1,c2⟩:=zlg hck;have hpin:∀w,(d,w)∉pin:=fun w hw=>c2 (hp.h d w hw)
   let js:=ps.toList.map (·.1)
   let pl:Nat→Nat×Nat:=fun k=>((js[k]?).getD 0,0)
   let T:Nat×zad:=(d,[])
   have hrep:∀e,e∈List.replicate len zc→e.length=es:=fun e he=>by rw[(List.mem_replicate.1 he).2];exact h2
   have hzero:zqY (E1.rl (rlB c.nt xs T pl)) T es (List.replicate len ((zz P e zc).map dz)) ((List.replicate len zc).flatten):=by
    refine⟨by rw[ziB hrep];simp,fun rw hr=>by rw[(List.mem_replicate.1 hr).2,zwK];exact h2,fun i rw j x y g1 g2 g3=>?_⟩;have hi:i<len:=by have:=(List.getElem?_eq_some_iff.1 g1).1;simpa using this
    have hrw:=(List.mem_replicate.1 (List.mem_of_getElem? g1)).2;subst hrw;have hj:j<es:=by have:=(List.getElem?_eq_some_iff.1 g2).1;rw[zwK]at this;omega
    rw[zlr hrep (e:=zc) (by rw[List.getElem?_replicate,if_pos hi]) hj]at g3;exact zox h4 (fun _=>some (T.1,T.2++[(i,j)])) j x y g2 g3
   rw[←zsF l1]at hfill
   obtain⟨cells',q1,q2,q3⟩:=zsI (T:=T) _ (fun q i x v hq hc=>by
    obtain⟨a1,a2,a3⟩:=zrk hq;have:=znh (T:=T) (pl:=pl) f1 (zba (f:=rlB c.nt xs T pl)) (fun a b h=>zcJ h) a2 a3 hc;have e:pl q=(i,0):=by simp only[pl];rw[show js[q]? =some i from a1];rfl
    rw[e]at this
    simpa using this) hzero hfill
   rw[zrC l1]at q1;have hlen:rows.length=len:=by simpa using q3
   have hmax:rows.length≤zcx:=by
    have:rows.length*1≤len*es:=by rw[hlen];exact Nat.mul_le_mul_left _ (by omega)
    unfold zcx;omega
   have hrlN:∀s:Nat,s<c.nt→∀q:zad,rlB c.nt xs T pl (s,q)=none:=fun s hs q=>zwh (by show s≠c.nt;omega)
   have r2:RelP c.nt pin E0 (E1.rl (rlB c.nt xs T pl)) (pf1.put d (.ls es rows)) (fr1.put d (.ls len es cells')):=
    r1.set c1 hpin zba (fun s hs _=>zbN fun q=>hrlN s hs _) zcM r1.ok.rl.wf r1.ok.rl.fresh ⟨cells',by simp[FR.put,hlen],q2.1,⟨hmax,h3⟩,q2.2.1,q2.2.2⟩ (fun s hs=>by cases hs)
   have:=hk _ _ _ hK r2;simp only[List.map_map]at m1;have m1:zaG fr E.H (ps.toList.map (·.2))=some (vs,fr1,H1):=m1;unfold aop;rw[ho];simp only[he,hd,m1,ht];rw[if_pos ⟨c1,h1,h2,h3,h4⟩];rw[show(zdE (fun i=>some (i*es,es)) ((ps.toList.map fun x=>x.1).zip vs) ((List.replicate len zc).flatten))=some cells' from q1];simp only;rw[←e1];exact this
  ·cases h5
 ·cases h
theorem zoF(r:RelP nt pin E0 E pf fr){s:Nat}{p:zad}{y:PV}{pf':PFr}(hs:s<nt)(h:zaz pf s p=some x)(hw:Wk E fr s p v)(hj:zkY pf s p x=some (y,pf')):
 ∃E',E'.H=E.H∧GK E E'∧RelP nt pin E0 E' pf' fr∧PR E' none y v:=by
 unfold zkY at hj;split at hj
 ·cases hj
 ·rename_i hx;have hx:=ze5 (x:=x) (by simpa using hx);have hp:=zbc r hw h;split at hj
  ·simp only[Option.map_eq_some_iff,Prod.mk.injEq]at hj;obtain⟨pf1,h1,rfl,rfl⟩:=hj;obtain⟨v',a1,a2,a3⟩:=r.freezeAt hs h hx hp h1;have:=a1.same hw;subst this;exact⟨E.fz (s,p),rfl,zgs,a2,a3⟩
  ·rename_i ho;cases hj;obtain⟨v',a1,a2⟩:=r.at h hx hp;have:=a1.same hw;subst this;exact⟨E,rfl,GK.refl E,r,a2.free (by simpa using ho)⟩
theorem RelP.layF(r:RelP nt pin E0 E pf fr){t:Nat}{row:List PV}(ht:t<nt)(hpt:pf t=.bl row):
 ∃v fr' E',zhs [t] fr E.H=some (fr',E'.H)∧fr' t=.v v∧(∀s w,fr s=.v w→fr' s=.v w)∧GK E E'∧RelP nt pin E0 E' ((pf.upd t (.v (.fp (row.map drop)))).kill t 0) fr'∧PR E' none (.fp (row.map drop)) v:=by
 have hf:=r.f t;rw[hpt]at hf;obtain⟨cells,c1,c2,c5⟩:=hf;have ok:=r.ok;have hne:∀s w,fr s=.v w→s≠t:=fun s w h e=>by rw[e,c1]at h;cases h
 have r1:RelP nt pin E0 (E.push ⟨true,cells⟩ (t,[]) fun _=>none) ((pf.upd t (.v (.bx row))).kill t 0) (fr.put t (.v (.pointer (some ⟨E.H.n,0,none⟩)))):=by
  refine r.chg ht ok.gk_push (fun s hs hst=>ok.stay_push fun q=>rfl) (fun L hL=>absurd hL (Nat.not_lt_zero _)) (fun s hs=>by simp[FR.put,hs]) (fun h=>absurd h (Nat.lt_irrefl _)) ok.since_push ok.push.wf ok.push.fresh (fun _ _ _ h2=>by simp[FR.put]at h2) ?_ rfl fun k v hk=>?_
  ·exact ze2 (by simp[FR.put]) (.bx zge ok.newG zfX rfl (Nat.le_of_eq c2) fun j x y g1 g2=>(c5 j x y g1 g2).move ok.gk_push (ok.stay_push fun q=>rfl))
  ·have:=r.pin k v hk;have:=hne k v this;simp[FR.put,this,r.pin k v hk]
 have hg:zaz ((pf.upd t (.v (.bx row))).kill t 0) t []=some (.bx row):=by simp[zaz,PFr.kill,PFr.upd,zaW,zam,zbs,zeN]
 obtain⟨v,w1,w2,w3⟩:=r1.freezeAt (s:=t) (p:=[]) (pf':=(((pf.upd t (.v (.bx row))).kill t 0).upd t (.v (drop (.bx row)))).kill t 0) ht hg (by simp) (.inr ⟨_,by simp[PFr.kill,PFr.upd,zaW,zam];rfl⟩) (by rfl);rw[zpF]at w2 w3;refine⟨v,fr.put t (.v (.pointer (some ⟨E.H.n,0,none⟩))),(E.push ⟨true,cells⟩ (t,[]) fun _=>none).fz (t,[]),by simp only[zhs,c1];rfl,?_,fun s w h=>by simp[FR.put,hne s w h,h],ok.gk_push.trans zgs,?_,w3⟩
 ·rcases w1 with⟨v',h1,h2⟩|⟨_,_,_,_,_,h2,_⟩
  ·rw[h1];cases h2;rfl
  ·cases h2
 ·have e:((((pf.upd t (.v (.bx row))).kill t 0).upd t (.v (.fp (row.map drop)))).kill t 0)=(pf.upd t (.v (.fp (row.map drop)))).kill t 0:=by
   funext s;by_cases h:s=t
   ·subst h;simp[PFr.kill,PFr.upd,zaW,zam]
   ·simp only[PFr.kill,PFr.upd,if_neg h];unfold zaW;split
    ·split
     ·simp_all [zam,jP]
     ·rfl
    ·rfl
  rw[e]at w2;exact w2
theorem zuM(r:RelP nt pin E0 E pf fr){hb:Bool}{x:Operand}{y:PV}{pf':PFr}(h:zjH hb pf x=some (y,pf')):
 ∃v fr' E' ts,zhs ts fr E.H=some (fr',E'.H)∧(hb=false→ts=[])∧(∀t w,fr t=.v w→fr' t=.v w)∧(∀fr2,(∀t w,fr' t=.v w→fr2 t=.v w)→∀H,mat fr2 H x=some (v,fr2,H))∧GK E E'∧RelP nt pin E0 E' pf' fr'∧PR E' none y v:=by
 cases x with
 |const k=>
  simp only[zjH]at h;split at h
  ·rename_i hc;cases h;exact⟨k,fr,E,[],rfl,fun _=>rfl,fun _ _ h=>h,fun fr2 _ H=>by simp[mat,rdv,hc],GK.refl E,r,(zkH hc none).freeze (GK.refl E) True.intro⟩
  ·cases h
 |func f=>
  simp only[zjH,Option.some.injEq,Prod.mk.injEq]at h;obtain⟨rfl,rfl⟩:=h;exact⟨.func (.func f) #[] #[],fr,E,[],rfl,fun _=>rfl,fun _ _ h=>h,fun fr2 _ H=>by simp[mat,rdv],GK.refl E,r,.func _ rfl rfl (fun i x y h=>by simp at h) (fun i x y h=>by simp at h)⟩
 |global g=>simp[zjH]at h
 |tmp t=>
  simp only[zjH]at h;have hf:=r.f t
  have ht:pf t≠jP→t<nt:=fun hn=>by
   rcases Nat.lt_or_ge t nt with h1|h1
   ·exact h1
   ·exact absurd (r.hi t h1) hn
  cases hpt:pf t with
  |v x=>
   rw[hpt]at h hf;simp only[zlB]at h;have hx:x≠.junk:=by rintro rfl;simp[zkY,isJ]at h
   obtain⟨v,h1,h2⟩:=zcl hf hx;obtain⟨E',a1,a2,a3,a4⟩:=zoF r (s:=t) (p:=[]) (v:=v) (ht (by rw[hpt];intro e;cases e;exact hx rfl)) (by simp[zaz,hpt,zbs,zeN]) (.inl ⟨v,h1,rfl⟩) h;exact⟨v,fr,E',[],by rw[a1];rfl,fun _=>rfl,fun _ _ h=>h,fun fr2 hh H=>by simp[mat,hh t v h1],a2,a3,a4⟩
  |rf s p=>
   rw[hpt]at h hf;simp only[zlB,Option.bind_eq_some_iff]at h;obtain⟨x,hx,h⟩:=h;obtain⟨v,h1,h2⟩:=hf;obtain⟨E',a1,a2,a3,a4⟩:=zoF r (r.rt t s (by rw[hpt];rfl)) hx h2 h;exact⟨v,fr,E',[],by rw[a1];rfl,fun _=>rfl,fun _ _ h=>h,fun fr2 hh H=>by simp[mat,hh t v h1],a2,a3,a4⟩
  |bl row=>
   rw[hpt]at h;simp only[zlB]at h;split at h
   ·rename_i hb1;cases h;obtain⟨v,fr',E',h1,h2,h3,h4,h5,h6⟩:=r.layF (ht (by rw[hpt];intro e;cases e)) hpt;exact⟨v,fr',E',[t],h1,fun e=>(by rw[hb1]at e;cases e),h3,fun fr2 hh H=>by simp[mat,hh t v h2],h4,h5,h6⟩
   ·cases h
  |_=>rw[hpt]at h;simp[zlB]at h
end
end Go.Pm
