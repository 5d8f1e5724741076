import Derived.Test.YtnojafnlicbhpaaGreatPmL
open Bool renaming false→aa,true→Z
open Option renaming none→ae,some→J
set_option linter.defProp false
namespace Go.Pm
open Go.Am
def Gx:=@List.getElem?_zip_eq_some
def Oz:=@Nat.mul_le_mul_left
section
variable {nt:Nat}{pin:List (Nat×Value)}{E0 E E':Env}{pf:ah}{fr ai:FR}{c:aY}{P:Program}
def pT(nt:Nat)(xs:List PV)(T:Nat×aA)(pl:Nat->Nat×Nat)(c:Nat×aA):Option (Nat×aA):=
 if c.1=nt then match c.2 with
  |(_,k)::_=>(xs[k]?).bind λx=>iL (nt,[(0,k)]) T (pl k).1 (pl k).2 x c
  |[]=>ae
 else ae
variable{K:ah->Prop}{K':FR->AH->Prop}{T:Nat×aA}{i:Nat}{js:List Nat}{o:Oper}{pl:Nat->Nat×Nat}{ps:Array (Nat×Operand)}{t:TypeId}{v:Value}{vs:List Value}{x:PV}{xs:List PV}
def zBS{a b:Nat×aA}{j:Nat}{c d:Nat×aA}(h:iL a b i j x c=J d):c.1=a.1/\a.2<+:c.2:=by
 cases x with
 |agg row=>
  obtain⟨q,r,_,rfl⟩:=zAW h;exact⟨rfl,by simp⟩
 |_=>
  simp only[iL,fa]at h;split at h
  ·assumption
  ·cases h
def zC3{k:Nat}{c d:Nat×aA}(hx:xs[k]? =J x)(h:iL (nt,[(0,k)]) T (pl k).1 (pl k).2 x c=J d):pT nt xs T pl c=J d:=by
 obtain⟨h1,r,h2⟩:=zBS h;obtain⟨c1,c2⟩:=c;simp only at h1 h2;subst h1;subst h2;simp only[pT,eP,tZ,mL,hx,aR];exact h
def VU{c:Nat×aA}(h:c.1≠nt):pT nt xs T pl c=ae:=by simp[pT,h]
def zoJ(hfl:eb nt E (xs.zip vs))(hg:GK E E')(hm:∀a b:Nat×aA,(∀r,pT nt xs T pl (a.1,a.2++r)=J (b.1,b.2++r))->dr E E' (J a) (J b))
{k:Nat}(hx:xs[k]? =J x)(hv:vs[k]? =J v)(hc:jR x=Z):
 (cN x).length=v.cells.toList.length/\(∀(t:Nat) (y:PV) (w:Value),(cN x)[t]? =J y->v.cells.toList[t]? =J w->PR E' (J (T.1,T.2++[((pl k).1,(pl k).2+t)])) y w)/\ml v=Z:=by
 have h:=hfl k x v (by rw[Gx];exact⟨hx,hv⟩);exact Cw h hc hg λa b nP=>hm a b λr=>zC3 hx (nP r)
def MY(E:Env)(T:Nat×aA)(row:List PV)(cells:List Value):Prop:=
 row.length=cells.length/\∀(j:Nat) (x:PV) (y:Value),row[j]? =J x->cells[j]? =J y->PR E (J (T.1,T.2++[(0,j)])) x y
def MD(E:Env)(T:Nat×aA)(es:Nat)(rows:List (List PV))(cells:List Value):Prop:=
 cells.length=rows.length*es/\(∀r,r∈rows->r.length=es)/\∀(i:Nat) (r:List PV) (j:Nat) (x:PV) (y:Value),rows[i]? =J r->r[j]? =J x->cells[i*es+j]? =J y->PR E (J (T.1,T.2++[(i,j)])) x y
def Xg{size:Nat}(h:CH size x=Z):jR x=Z/\(cN x).length=size/\size≠0:=by
 simp only[CH,bI,eC]at h;exact⟨h.1.1,h.1.2,h.2⟩
def zut{kB:Nat->Option (Nat×Nat)}:∀(l:List (Nat×PV×Value)) {row tr:List PV}{cells:List Value},
 (∀(q:Nat) (i:Nat) (x:PV) (v:Value),l[q]? =J (i,x,v)->jR x=Z->∀off sz,kB i=J (off,sz)->
   (cN x).length=v.cells.toList.length/\(∀(t:Nat) (y:PV) (w:Value),(cN x)[t]? =J y->v.cells.toList[t]? =J w->PR E (J (T.1,T.2++[(0,off+t)])) y w)/\ml v=Z)->
 MY E T row cells->ur kB (l.map λa=>(a.1,a.2.1)) row=J tr->∃dx,jx kB (l.map λa=>(a.1,a.2.2)) cells=J dx/\MY E T tr dx:=by
 intro l;induction l with
 |nil=>intro row tr cells _ hr h;simp only[p8,ur,aT]at h;subst h;exact⟨cells,rfl,hr⟩
 |cons a l ih=>
  obtain⟨i,x,v⟩:=a;intro row tr cells hp hr h;simp only[jD,ur,bR]at h;obtain⟨⟨off,sz⟩,h1,h⟩:=h;split at h
  ·rename_i dZ;obtain⟨k1,k2,k3⟩:=Xg dZ;obtain⟨Aa5,h2,h3⟩:=bR.1 h;obtain⟨c1,c2,c3⟩:=hp 0 i x v rfl k1 off sz h1;obtain⟨a1,a2,a3⟩:=yZ h2;have hne:cN x≠[]:=λe=>k3 (by rw[<-k2,e];rfl)
   have G6:v.cells.toList≠[]:=λe=>hne (mK (by rw[c1,e];rfl))
   obtain⟨cs,dQ⟩:=DT (cs:=cells) (n:=off) G6 (by rw[<-c1,<-hr.1];exact a2 hne);obtain⟨b1,b2,b3,b4⟩:=Dt G6 dQ
   have yQ:MY E T Aa5 cs:=by
    refine⟨by rw[a1,b1];exact hr.1,λj z y g1 g2=>?_⟩;rw[a3 j]at g1;split at g1
    ·rename_i gN;have:=b4 (j-off) (by omega);rw[show off+(j-off)=j by omega,g2]at this;have:=c2 (j-off) z y g1 this.symm
     rwa [show off+(j-off)=j by omega]at this
    ·rename_i gN;rw[b3 j (by rw[<-c1];exact gN)]at g2;exact hr.2 j z y g1 g2
   obtain⟨dx,q1,q2⟩:=ih (λq i' x' v' hq=>hp (q+1) i' x' v' (by simpa using hq)) yQ h3;refine⟨dx,?_,q2⟩;simp only[jD,jx,h1];rw[aB (by simp[c3,<-c1,k2,k3]),dQ];exact q1
  ·cases h
def zuF{es:Nat}:∀(l:List (Nat×PV×Value)) {rows zD:List (List PV)}{cells:List Value},
 (∀(q:Nat) (i:Nat) (x:PV) (v:Value),l[q]? =J (i,x,v)->jR x=Z->
   (cN x).length=v.cells.toList.length/\(∀(t:Nat) (y:PV) (w:Value),(cN x)[t]? =J y->v.cells.toList[t]? =J w->PR E (J (T.1,T.2++[(i,t)])) y w)/\ml v=Z)->
 MD E T es rows cells->rH es (l.map λa=>(a.1,a.2.1)) rows=J zD->∃dx,jx (λi=>J (i*es,es)) (l.map λa=>(a.1,a.2.2)) cells=J dx/\MD E T es zD dx/\zD.length=rows.length:=by
 intro l;induction l with
 |nil=>intro rows zD cells _ hr h;simp only[p8,rH,aT]at h;subst h;exact⟨cells,rfl,hr,rfl⟩
 |cons a l ih=>
  obtain⟨i,x,v⟩:=a;intro rows zD cells hp hr h;simp only[jD,rH]at h;split at h
  ·rename_i hc;obtain⟨dZ,hi⟩:=hc;obtain⟨k1,k2,k3⟩:=Xg dZ;obtain⟨c1,c2,c3⟩:=hp 0 i x v rfl k1;obtain⟨r1,r2,r3⟩:=hr;have hne:cN x≠[]:=λe=>k3 (by rw[<-k2,e];rfl)
   have G6:v.cells.toList≠[]:=λe=>hne (mK (by rw[c1,e];rfl))
   have He:(i+1)*es<=rows.length*es:=gA _ hi;rw[jZ]at He;obtain⟨cs,dQ⟩:=DT (cs:=cells) (n:=i*es) G6 (by rw[<-c1,k2,r1];exact He);obtain⟨b1,b2,b3,b4⟩:=Dt G6 dQ
   have yQ:MD E T es (rows.set i (cN x)) cs:=by
    refine⟨by rw[b1,r1];simp,λr hJ=>?_,λi' r j z y g1 g2 g3=>?_⟩
    ·rcases Aat hJ with h|rfl
     ·exact r2 r h
     ·exact k2
    ·rw[C6]at g1;by_cases e:i=i'
     ·subst e;rw[aB rfl,aB hi]at g1;cases g1;have hj:j<v.cells.toList.length:=by have:=(cT.1 g2).1;omega
      rw[b4 j hj]at g3;exact c2 j z y g2 g3
     ·rw[az e]at g1;have fm:=r2 r (eo g1);have hj:j<es:=by have:=(cT.1 g2).1;omega
      rw[b3 _ (by
       rw[<-c1,k2];rintro⟨q1,q2⟩;rcases Nat.lt_or_gt_of_ne e with h|h
       ·have:(i+1)*es<=i'*es:=gA _ h;rw[jZ]at this;omega
       ·have:(i'+1)*es<=i*es:=gA _ h
        rw[jZ]at this;omega)]at g3
      exact r3 i' r j z y g1 g2 g3
   obtain⟨dx,q1,q2,q3⟩:=ih (λq i' x' v' hq=>hp (q+1) i' x' v' (by simpa using hq)) yQ h;refine⟨dx,?_,q2,by simpa using q3⟩;simp only[jD,jx];rw[aB (by simp[c3,<-c1,k2,k3]),dQ];exact q1
  ·cases h
def Wy(h:vs.length=xs.length):(js.zip (xs.zip vs)).map (λa=>(a.1,a.2.1))=js.zip xs:=by
 have:js.zip xs=js.zip ((xs.zip vs).map Prod.fst):=by rw[List.map_fst_zip (by omega)]
 rw[this,List.zip_map_right];rfl
def Wr(h:vs.length=xs.length):(js.zip (xs.zip vs)).map (λa=>(a.1,a.2.2))=js.zip vs:=by
 have:js.zip vs=js.zip ((xs.zip vs).map Prod.snd):=by rw[List.map_snd_zip (by omega)]
 rw[this,List.zip_map_right];rfl
def ztF{q:Nat}(h:(js.zip (xs.zip vs))[q]? =J (i,x,v)):js[q]? =J i/\xs[q]? =J x/\vs[q]? =J v:=by
 rw[Gx]at h;obtain⟨h1,h2⟩:=h;rw[Gx]at h2;exact⟨h1,h2⟩
def zuN{b:(Nat->Option (Nat×Nat))×List PV}(h:nq P t=J b):∃z,z.all cr=Z/\b.2=zz P t z/\∀js vs,Em P t js vs=(jx b.1 (js.zip vs) z).map λl=>.agg l.toArray:=by
 unfold nq at h;split at h
 ·rename_i jX hu;split at h
  ·rename_i g s cz z hz;split at h
   ·rename_i hc;simp only[aT]at h;subst h;refine⟨z,by simp only[bI]at hc;exact hc.1,rfl,λjs vs=>?_⟩;simp only[Em,hu,hz];rw[aB hc]
   ·cases h
  ·cases h
 ·rename_i n e hu;split at h
  ·rename_i g s cz z hz;split at h
   ·rename_i g2 es r2 sn;split at h
    ·rename_i hc;simp only[aT]at h;subst h;refine⟨z,hc,rfl,λjs vs=>?_⟩;simp only[Em,hu,hz,sn];rw[aB hc]
    ·cases h
   ·cases h
  ·cases h
 ·cases h
def ztY(r:aq c.nt pin E0 E pf fr)(hp:er c pin)(ho:o.op=.build t ps)(h:Gm P c t ps.toList o.dst K pf)
(hk:∀pf' ai E',K pf'->aq c.nt pin E0 E' pf' ai->K' ai E'.H):aM P c.nt o K' fr E.H:=by
 obtain⟨d,op,ty,pp,af,g⟩:=o;simp only at ho h;subst ho;unfold Gm at h;split at h
 ·rename_i b xs aQ hb jp;obtain⟨vs,fr1,H1,E1,m1,e1,r1,l1,l2,f1⟩:=Xa r (fl:=[]) (λk x v h=>by simp at h) jp;simp only[mL]at f1;unfold SQ at h;split at h
  ·rename_i row HC
   let js:=ps.toList.map (·.1)
   let M:=xs.length
   let pl:Nat->Nat×Nat:=λk=>(0,((js[k]?).bind b.1).elim 0 Prod.fst)
   let T:Nat×aA:=(c.nt,[(0,M)])
   obtain⟨z,rV,sn,yF⟩:=zuN hb
   have Sk:MY (E1.rl (pT c.nt xs T pl)) T b.2 z:=by
    rw[sn];exact⟨Ia,Iy rV λj=>J (T.1,T.2++[(0,j)])⟩
   rw[<-Wy l1]at HC
   obtain⟨dx,q1,q2⟩:=zut (T:=T) _ (λq i x v hq hc off sz dL=>by
    obtain⟨a1,a2,a3⟩:=ztF hq;have:=zoJ (T:=T) (pl:=pl) f1 (dO (f:=pT c.nt xs T pl)) (λa b h=>lq h) a2 a3 hc;have e:pl q=(0,off):=by simp only[pl];rw[show js[q]? =J i from a1];simp[dL]
    rw[e]at this
    exact this) Sk HC
   rw[Wr l1]at q1;have TU:∀s:Nat,s<c.nt->∀q:aA,pT c.nt xs T pl (s,q)=ae:=λs hs q=>VU (by show s≠c.nt;omega)
   have r2:aq c.nt pin E0 ((E1.rl (pT c.nt xs T pl)).rl (fa T (c.nt,[(0,0)]))) aQ fr1:=
    (r1.env r1.ok.rl nD λs hs=>iR λq=>TU s hs _).env r1.ok.rl.rl nD λs hs=>iR λq=>kF (by show s≠c.nt;omega)
   have hv:PR (E1.rl (pT c.nt xs T pl)) (J T) (.agg row) (.agg dx.toArray):=.agg (by simpa using q2.1) λj x y a b=>q2.2 j x y a (by simpa using b)
   have:=gP r2 hp (hv.move dO (lq λq=>zgr _ _ q)) h hk;refine(show dw P c.nt ⟨d,.build t ps,ty,pp,af,g⟩ K' fr E.H from ?_);simp only[sF]at m1;have m1:ck fr E.H (ps.toList.map (·.2))=J (vs,fr1,H1):=m1;simp only[dw,gp,m1,eG,yF];rw[show(jx b.1 ((ps.toList.map λx=>x.1).zip vs) z)=J dx from q1];simp only[l9];rw[<-e1];exact this
  ·cases h
 ·cases h
def zx0{z:Value}:∀{cs zs:List Value},fW (cs++z::zs) cs.length [v]=J (cs++v::zs):=by
 intro cs;induction cs with
 |nil=>intro zs;simp[fW]
 |cons c cs ih=>intro zs;simp[fW,ih]
def zyU(r:aq nt pin E0 E pf fr){s j:Nat}{p:aA}:∀{ps:List (Nat×Operand)}{q:Nat},ww pf s p i j q ps=Z->∃vs,ck fr E.H (ps.map (·.2))=J (vs,fr,E.H)/\vs.length=ps.length/\
 (∀k v,vs[k]? =J v->Wk E fr s (p++[(i,j+(q+k))]) v)/\∀cs zs:List Value,cs.length=q->zs.length=ps.length->jx (λi=>J (i*1,1)) ((ps.map (·.1)).zip vs) (cs++zs)=J (cs++vs):=by
 intro ps;induction ps with
 |nil=>intro q _;exact⟨[],rfl,rfl,λk v h=>by simp at h,λcs zs h1 h2=>by rw[mK h2];rfl⟩
 |cons x ps ih=>
  intro q h;obtain⟨q',x⟩:=x;cases x with
  |tmp t=>
   simp only[ww]at h;split at h
   ·rename_i hc;obtain⟨rfl,hrf,eY⟩:=hc
    have aD:pf t=.rf s (p++[(i,j+q')]):=by
     revert hrf;cases pf t<;>simp[Bi]
    have hf:=r.f t;rw[aD]at hf;obtain⟨v,h1,h2⟩:=hf;obtain⟨vs,a1,a2,a3,a4⟩:=ih h
    have hv:ml v=Z/\v.cells.toList=[v]:=by
     unfold LJ at eY;split at eY
     ·rename_i o es rows hg;obtain⟨v',w1,w2⟩:=r.at hg (by simp) (.inl K5);have:=w1.same h2;subst this;cases w2<;>exact⟨rfl,rfl⟩
     ·cases eY
    refine⟨v::vs,?_,by simp[a2],λk w hk=>?_,λcs zs c1 c2=>?_⟩
    ·simp only[jD,ck,bh,h1];rw[a1]
    ·cases k with
     |zero=>simp at hk;subst hk;exact h2
     |succ k=>have:=a3 k w (by simpa using hk);rw[show q'+(k+1)=q'+1+k by omega];exact this
    ·cases zs with
     |nil=>simp at c2
     |cons z zs=>
      simp only[jD,Aal,jx,hv.1,hv.2];rw[Kv,<-c1,zx0];have:=a4 (cs++[v]) zs (by simp[c1]) (by simpa using c2);simpa using this
   ·cases h
  |_=>simp[ww]at h
def zue(r:aq c.nt pin E0 E pf fr)(hp:er c pin){len d:Nat}(ho:o.op=.buildSlice t len ps)(hd:o.dst=J d)(h:Iw P c t len ps.toList d K pf)
(hk:∀pf' ai E',K pf'->aq c.nt pin E0 E' pf' ai->K' ai E'.H):aM P c.nt o K' fr E.H:=by
 unfold Iw at h;split at h
 ·rename_i y hy;unfold GX at hy;simp only[bR]at hy;obtain⟨z,hz,⟨s,p,i,j⟩,hh,hy⟩:=hy;obtain⟨e,g,es,b,zc,he,ht,h2,h3,h4,rfl⟩:=Cn hz;simp only at hy;split at hy
  ·rename_i hc;obtain⟨rfl,hl,dL,hgo⟩:=hc;simp only[aT]at hy;subst hy;obtain⟨vs,a1,a2,a3,a4⟩:=zyU r hgo;have hne:ps.toList≠[]:=by intro e;rw[e]at hh;simp[Fe]at hh
   have yS:len≠0:=by rw[<-dL];simpa using hne
   have hs:s<c.nt:=by
    cases fI:ps.toList with
    |nil=>exact absurd fI hne
    |cons x l=>
     rw[fI]at hh;obtain⟨q',x⟩:=x;cases x with
     |tmp t'=>
      simp only[Fe,bR,bN,b9]at hh;obtain⟨⟨s',p'⟩,g1,_,_,rfl,_⟩:=hh;refine r.rt t' s' ?_;revert g1;cases pf t'<;>simp[Bi,bC];rintro rfl _;rfl
     |_=>simp[Fe]at hh
   have qX:((List.replicate len zc).flatten).length=ps.toList.length:=by
    rw[EH (es:=1) λe he=>by rw[(nr.1 he).2];exact h2];simp[dL]
   have hq:=a4 [] _ rfl qX;have:=jm (K':=K') r hp (y:=.as aa s p i j len) rfl hs (fv:=.ls len 1 vs) ⟨vs,rfl,⟨by rw[a2,dL],yS⟩,λq y hq=>by have:=a3 q y hq;rwa [gk]at this⟩ h hk;simp only[bB]at this;split at this
   ·rename_i T3;unfold aM;rw[ho];simp only[he,hd,a1,ht];rw[aB ⟨T3,by omega,h2,h3,h4⟩];simp only[mL]at hq;rw[hq];exact this
   ·cases this
  ·cases hy
 ·cases h
def zvF(r:aq c.nt pin E0 E pf fr)(hp:er c pin){len:Nat}(ho:o.op=.buildSlice t len ps)(h:DQ P c t len ps.toList o.dst K pf)
(hk:∀pf' ai E',K pf'->aq c.nt pin E0 E' pf' ai->K' ai E'.H):aM P c.nt o K' fr E.H:=by
 unfold DQ at h;split at h
 ·rename_i hm;cases hd:o.dst with
  |none=>rw[hd]at hm;cases hm
  |some d=>rw[hd]at h;exact zue r hp ho hd h hk
 split at h
 ·rename_i z xs0 aQ d hz jp hd;obtain⟨h1,h5⟩:=h;obtain⟨e,g,es,b,zc,he,ht,h2,h3,h4,rfl⟩:=Cn hz;simp only at h1 h5;obtain⟨vs,fr1,H1,Qr,m1,e0,r0,l0,l2,f0⟩:=Xa r (fl:=[]) (λk x v h=>by simp at h) jp;simp only[mL]at f0;obtain⟨xs,ib⟩:∃xs,uX c d xs0=xs:=⟨_,rfl⟩
  rw[ib]at h5
  obtain⟨E1,e1,r1,l1,f1⟩:∃E1:Env,E1.H=H1/\aq c.nt pin E0 E1 aQ fr1/\vs.length=xs.length/\eb c.nt E1 (xs.zip vs):=by
   subst ib;unfold uX;split
   ·refine⟨Qr.fz (c.nt,[]),e0,r0.env r0.ok.fz FA λs hs=>yW (sC hs),by simpa using l0,λk x v hk=>?_⟩;rw[Gx]at hk;obtain⟨x0,dA,rfl⟩:=mt hk.1;have:=f0 k x0 v (Gx.2 ⟨dA,hk.2⟩);exact(this.freeze (E':=Qr.fz (c.nt,[])) pP λid r h1 _=>⟨.inr ⟨_,h1⟩,λkk hk=>⟨kk,hk,rfl⟩⟩).up
   ·exact⟨Qr,e0,r0,l0,f0⟩
  unfold N0 at h5;split at h5
  ·rename_i rows HC;obtain⟨hck,hK⟩:=h5;obtain⟨c1,c2⟩:=LY hck;have jH:∀w,(d,w)∉pin:=λw hw=>c2 (hp.h d w hw)
   let js:=ps.toList.map (·.1)
   let pl:Nat->Nat×Nat:=λk=>((js[k]?).getD 0,0)
   let T:Nat×aA:=(d,[])
   have qX:∀e,e∈List.replicate len zc->e.length=es:=λe he=>by rw[(nr.1 he).2];exact h2
   have Sk:MD (E1.rl (pT c.nt xs T pl)) T es (List.replicate len ((zz P e zc).map dz)) ((List.replicate len zc).flatten):=by
    refine⟨by rw[EH qX];simp,λrw hr=>by rw[(nr.1 hr).2,UO];exact h2,λi rw j x y g1 g2 g3=>?_⟩;have hi:i<len:=by have:=(cT.1 g1).1;simpa using this
    have bc:=(nr.1 (eo g1)).2;subst bc;have hj:j<es:=by have:=(cT.1 g2).1;rw[UO]at this;omega
    rw[KJ qX (e:=zc) (by rw[Kz,aB hi]) hj]at g3;exact Z8 h4 (λ_=>J (T.1,T.2++[(i,j)])) j x y g2 g3
   rw[<-Wy l1]at HC
   obtain⟨dx,q1,q2,q3⟩:=zuF (T:=T) _ (λq i x v hq hc=>by
    obtain⟨a1,a2,a3⟩:=ztF hq;have:=zoJ (T:=T) (pl:=pl) f1 (dO (f:=pT c.nt xs T pl)) (λa b h=>lq h) a2 a3 hc;have e:pl q=(i,0):=by simp only[pl];rw[show js[q]? =J i from a1];rfl
    rw[e]at this
    simpa using this) Sk HC
   rw[Wr l1]at q1;have hlen:rows.length=len:=by simpa using q3
   have Abq:rows.length<=j3:=by
    have:rows.length*1<=len*es:=by rw[hlen];exact Oz _ (by omega)
    unfold j3;omega
   have TU:∀s:Nat,s<c.nt->∀q:aA,pT c.nt xs T pl (s,q)=ae:=λs hs q=>VU (by show s≠c.nt;omega)
   have r2:aq c.nt pin E0 (E1.rl (pT c.nt xs T pl)) (aQ.put d (.ls es rows)) (fr1.put d (.ls len es dx)):=
    r1.set c1 jH dO (λs hs _=>iR λq=>TU s hs _) nD r1.ok.rl.wf r1.ok.rl.fresh ⟨dx,by simp[FR.put,hlen],q2.1,⟨Abq,h3⟩,q2.2.1,q2.2.2⟩ (λs hs=>by cases hs)
   have:=hk _ _ _ hK r2;simp only[sF]at m1;have m1:ck fr E.H (ps.toList.map (·.2))=J (vs,fr1,H1):=m1;unfold aM;rw[ho];simp only[he,hd,m1,ht];rw[aB ⟨c1,h1,h2,h3,h4⟩];rw[show(jx (λi=>J (i*es,es)) ((ps.toList.map λx=>x.1).zip vs) ((List.replicate len zc).flatten))=J dx from q1];simp only;rw[<-e1];exact this
  ·cases h5
 ·cases h
def VN(r:aq nt pin E0 E pf fr){s:Nat}{p:aA}{y:PV}{pf':ah}(hs:s<nt)(h:ce pf s p=J x)(hw:Wk E fr s p v)(hj:yu pf s p x=J (y,pf')):
 ∃E',E'.H=E.H/\GK E E'/\aq nt pin E0 E' pf' fr/\PR E' ae y v:=by
 unfold yu at hj;split at hj
 ·cases hj
 ·rename_i hx;have hx:=nX (x:=x) (by simpa using hx);have hp:=jc r hw h;split at hj
  ·simp only[bN,b9]at hj;obtain⟨aQ,h1,rfl,rfl⟩:=hj;obtain⟨v',a1,a2,a3⟩:=r.Ei hs h hx hp h1;have:=a1.same hw;subst this;exact⟨E.fz (s,p),rfl,pP,a2,a3⟩
  ·rename_i ho;cases hj;obtain⟨v',a1,a2⟩:=r.at h hx hp;have:=a1.same hw;subst this;exact⟨E,rfl,GK.refl E,r,a2.free (by simpa using ho)⟩
def aq.Abn(r:aq nt pin E0 E pf fr){t:Nat}{row:List PV}(ht:t<nt)(aD:pf t=.bl row):
 ∃v ai E',oY [t] fr E.H=J (ai,E'.H)/\ai t=.v v/\(∀s w,fr s=.v w->ai s=.v w)/\GK E E'/\aq nt pin E0 E' ((pf.bU t (.v (.fp (row.map drop)))).kill t 0) ai/\PR E' ae (.fp (row.map drop)) v:=by
 have hf:=r.f t;rw[aD]at hf;obtain⟨cells,c1,c2,c5⟩:=hf;have ok:=r.ok;have hne:∀s w,fr s=.v w->s≠t:=λs w h e=>by rw[e,c1]at h;cases h
 have r1:aq nt pin E0 (E.push ⟨Z,cells⟩ (t,[]) λ_=>ae) ((pf.bU t (.v (.bx row))).kill t 0) (fr.put t (.v (.pointer (J ⟨E.H.n,0,ae⟩)))):=by
  refine r.qV ht ok.nl (λs hs dH=>ok.m8 λq=>rfl) (λL hL=>absurd hL (A0 _)) (λs hs=>by simp[FR.put,hs]) (λh=>absurd h (yz _)) ok.uL ok.push.wf ok.push.fresh (λ_ _ _ h2=>by simp[FR.put]at h2) ?_ rfl λk v hk=>?_
  ·exact oS (by simp[FR.put]) (.bx zhw ok.xN yl rfl (Aan c2) λj x y g1 g2=>(c5 j x y g1 g2).move ok.nl (ok.m8 λq=>rfl))
  ·have:=r.pin k v hk;have:=hne k v this;simp[FR.put,this,r.pin k v hk]
 have hg:ce ((pf.bU t (.v (.bx row))).kill t 0) t []=J (.bx row):=by simp[ce,ah.kill,ah.bU,df,bC,fB,iM]
 obtain⟨v,w1,w2,w3⟩:=r1.Ei (s:=t) (p:=[]) (pf':=(((pf.bU t (.v (.bx row))).kill t 0).bU t (.v (drop (.bx row)))).kill t 0) ht hg (by simp) (.inr ⟨_,by simp[ah.kill,ah.bU,df,bC];rfl⟩) (by rfl);rw[zqY]at w2 w3;refine⟨v,fr.put t (.v (.pointer (J ⟨E.H.n,0,ae⟩))),(E.push ⟨Z,cells⟩ (t,[]) λ_=>ae).fz (t,[]),by simp only[oY,c1];rfl,?_,λs w h=>by simp[FR.put,hne s w h,h],ok.nl.trans pP,?_,w3⟩
 ·rcases w1 with⟨v',h1,h2⟩|⟨_,_,_,_,_,h2,_⟩
  ·rw[h1];cases h2;rfl
  ·cases h2
 ·have e:((((pf.bU t (.v (.bx row))).kill t 0).bU t (.v (.fp (row.map drop)))).kill t 0)=(pf.bU t (.v (.fp (row.map drop)))).kill t 0:=by
   funext s;by_cases h:s=t
   ·subst h;simp[ah.kill,ah.bU,df,bC]
   ·simp only[ah.kill,ah.bU,az h];unfold df;split
    ·split
     ·simp_all [bC,jP]
     ·rfl
    ·rfl
  rw[e]at w2;exact w2
def zvV(r:aq nt pin E0 E pf fr){hb:Bool}{x:Operand}{y:PV}{pf':ah}(h:td hb pf x=J (y,pf')):
 ∃v ai E' ts,oY ts fr E.H=J (ai,E'.H)/\(hb=aa->ts=[])/\(∀t w,fr t=.v w->ai t=.v w)/\(∀dJ,(∀t w,ai t=.v w->dJ t=.v w)->∀H,bh dJ H x=J (v,dJ,H))/\GK E E'/\aq nt pin E0 E' pf' ai/\PR E' ae y v:=by
 cases x with
 |const k=>
  simp only[td]at h;split at h
  ·rename_i hc;cases h;exact⟨k,fr,E,[],rfl,λ_=>rfl,λ_ _ h=>h,λdJ _ H=>by simp[bh,be,hc],GK.refl E,r,(Hr hc ae).freeze (GK.refl E) True.intro⟩
  ·cases h
 |func f=>
  simp only[td,aT,b9]at h;obtain⟨rfl,rfl⟩:=h;exact⟨.func (.func f) #[] #[],fr,E,[],rfl,λ_=>rfl,λ_ _ h=>h,λdJ _ H=>by simp[bh,be],GK.refl E,r,.func _ rfl rfl (λi x y h=>by simp at h) (λi x y h=>by simp at h)⟩
 |global g=>simp[td]at h
 |tmp t=>
  simp only[td]at h;have hf:=r.f t
  have ht:pf t≠jP->t<nt:=λhn=>by
   rcases dK t nt with h1|h1
   ·exact h1
   ·exact absurd (r.hi t h1) hn
  cases aD:pf t with
  |v x=>
   rw[aD]at h hf;simp only[xP]at h;have hx:x≠.au:=by rintro rfl;simp[yu,dv]at h
   obtain⟨v,h1,h2⟩:=ga hf hx;obtain⟨E',a1,a2,a3,a4⟩:=VN r (s:=t) (p:=[]) (v:=v) (ht (by rw[aD];intro e;cases e;exact hx rfl)) (by simp[ce,aD,fB,iM]) (.inl ⟨v,h1,rfl⟩) h;exact⟨v,fr,E',[],by rw[a1];rfl,λ_=>rfl,λ_ _ h=>h,λdJ hh H=>by simp[bh,hh t v h1],a2,a3,a4⟩
  |rf s p=>
   rw[aD]at h hf;simp only[xP,bR]at h;obtain⟨x,hx,h⟩:=h;obtain⟨v,h1,h2⟩:=hf;obtain⟨E',a1,a2,a3,a4⟩:=VN r (r.rt t s (by rw[aD];rfl)) hx h2 h;exact⟨v,fr,E',[],by rw[a1];rfl,λ_=>rfl,λ_ _ h=>h,λdJ hh H=>by simp[bh,hh t v h1],a2,a3,a4⟩
  |bl row=>
   rw[aD]at h;simp only[xP]at h;split at h
   ·rename_i eI;cases h;obtain⟨v,ai,E',h1,h2,h3,h4,h5,h6⟩:=r.Abn (ht (by rw[aD];intro e;cases e)) aD;exact⟨v,ai,E',[t],h1,λe=>(by rw[eI]at e;cases e),h3,λdJ hh H=>by simp[bh,hh t v h2],h4,h5,h6⟩
   ·cases h
  |_=>rw[aD]at h;simp[xP]at h
end
end Go.Pm
