import Derived.Test.YtnojafnlicbhpaaGreatPmL
open Bool renaming false→aa,true→Z
open Option renaming none→ae,some→J
set_option linter.defProp false
namespace Go.Pm
open Go.Am
def Gz:=@List.getElem?_zip_eq_some
def OG:=@Nat.mul_le_mul_left
section
variable {nt:Nat}{pin:List (Nat×Value)}{E0 E E':Env}{pf:ah}{fr ai:FR}{c:aY}{P:Program}
def pW(nt:Nat)(xs:List PV)(T:Nat×aA)(pl:Nat->Nat×Nat)(c:Nat×aA):Option (Nat×aA):=
 if c.1=nt then match c.2 with
  |(_,k)::_=>(xs[k]?).bind λx=>iJ (nt,[(0,k)]) T (pl k).1 (pl k).2 x c
  |[]=>ae
 else ae
variable{K:ah->Prop}{K':FR->AH->Prop}{T:Nat×aA}{i:Nat}{js:List Nat}{o:Oper}{pl:Nat->Nat×Nat}{ps:Array (Nat×Operand)}{t:TypeId}{v:Value}{vs:List Value}{x:PV}{xs:List PV}
def zBi{a b:Nat×aA}{j:Nat}{c d:Nat×aA}(h:iJ a b i j x c=J d):c.1=a.1/\a.2<+:c.2:=by
 cases x with
 |agg row=>
  obtain⟨q,r,_,rfl⟩:=zBu h;exact⟨rfl,by simp⟩
 |_=>
  simp only[iJ,fg]at h;split at h
  ·assumption
  ·cases h
def zDN{k:Nat}{c d:Nat×aA}(hx:xs[k]? =J x)(h:iJ (nt,[(0,k)]) T (pl k).1 (pl k).2 x c=J d):pW nt xs T pl c=J d:=by
 obtain⟨h1,r,h2⟩:=zBi h;obtain⟨c1,c2⟩:=c;simp only at h1 h2;subst h1;subst h2;simp only[pW,eP,t5,mM,hx,aR];exact h
def Vy{c:Nat×aA}(h:c.1≠nt):pW nt xs T pl c=ae:=by simp[pW,h]
def Zp(hfl:d9 nt E (xs.zip vs))(hg:GK E E')(hm:∀a b:Nat×aA,(∀r,pW nt xs T pl (a.1,a.2++r)=J (b.1,b.2++r))->du E E' (J a) (J b))
{k:Nat}(hx:xs[k]? =J x)(hv:vs[k]? =J v)(hc:jS x=Z):
 (cN x).length=v.cells.toList.length/\(∀(t:Nat) (y:PV) (w:Value),(cN x)[t]? =J y->v.cells.toList[t]? =J w->PR E' (J (T.1,T.2++[((pl k).1,(pl k).2+t)])) y w)/\mD v=Z:=by
 have h:=hfl k x v (by rw[Gz];exact⟨hx,hv⟩);exact Bq h hc hg λa b nR=>hm a b λr=>zDN hx (nR r)
def NN(E:Env)(T:Nat×aA)(row:List PV)(cells:List Value):Prop:=
 row.length=cells.length/\∀(j:Nat) (x:PV) (y:Value),row[j]? =J x->cells[j]? =J y->PR E (J (T.1,T.2++[(0,j)])) x y
def LY(E:Env)(T:Nat×aA)(es:Nat)(rows:List (List PV))(cells:List Value):Prop:=
 cells.length=rows.length*es/\(∀r,r∈rows->r.length=es)/\∀(i:Nat) (r:List PV) (j:Nat) (x:PV) (y:Value),rows[i]? =J r->r[j]? =J x->cells[i*es+j]? =J y->PR E (J (T.1,T.2++[(i,j)])) x y
def zoN{size:Nat}(h:CV size x=Z):jS x=Z/\(cN x).length=size/\size≠0:=by
 simp only[CV,bI,eC]at h;exact⟨h.1.1,h.1.2,h.2⟩
def zt9{kR:Nat->Option (Nat×Nat)}:∀(l:List (Nat×PV×Value)) {row sS:List PV}{cells:List Value},
 (∀(q:Nat) (i:Nat) (x:PV) (v:Value),l[q]? =J (i,x,v)->jS x=Z->∀off sz,kR i=J (off,sz)->
   (cN x).length=v.cells.toList.length/\(∀(t:Nat) (y:PV) (w:Value),(cN x)[t]? =J y->v.cells.toList[t]? =J w->PR E (J (T.1,T.2++[(0,off+t)])) y w)/\mD v=Z)->
 NN E T row cells->vw kR (l.map λa=>(a.1,a.2.1)) row=J sS->∃dw,jw kR (l.map λa=>(a.1,a.2.2)) cells=J dw/\NN E T sS dw:=by
 intro l;induction l with
 |nil=>intro row sS cells _ hr h;simp only[p9,vw,aT]at h;subst h;exact⟨cells,rfl,hr⟩
 |cons a l ih=>
  obtain⟨i,x,v⟩:=a;intro row sS cells hp hr h;simp only[jD,vw,bR]at h;obtain⟨⟨off,sz⟩,h1,h⟩:=h;split at h
  ·rename_i d6;obtain⟨k1,k2,k3⟩:=zoN d6;obtain⟨a1w,h2,h3⟩:=bR.1 h;obtain⟨c1,c2,c3⟩:=hp 0 i x v rfl k1 off sz h1;obtain⟨a1,a2,a3⟩:=zK h2;have hne:cN x≠[]:=λe=>k3 (by rw[<-k2,e];rfl)
   have JD:v.cells.toList≠[]:=λe=>hne (mL (by rw[c1,e];rfl))
   obtain⟨cs,dP⟩:=F4 (cs:=cells) (n:=off) JD (by rw[<-c1,<-hr.1];exact a2 hne);obtain⟨b1,b2,b3,b4⟩:=EC JD dP
   have zg:NN E T a1w cs:=by
    refine⟨by rw[a1,b1];exact hr.1,λj z y g1 g2=>?_⟩;rw[a3 j]at g1;split at g1
    ·rename_i gR;have:=b4 (j-off) (by omega);rw[show off+(j-off)=j by omega,g2]at this;have:=c2 (j-off) z y g1 this.symm
     rwa [show off+(j-off)=j by omega]at this
    ·rename_i gR;rw[b3 j (by rw[<-c1];exact gR)]at g2;exact hr.2 j z y g1 g2
   obtain⟨dw,q1,q2⟩:=ih (λq i' x' v' hq=>hp (q+1) i' x' v' (by simpa using hq)) zg h3;refine⟨dw,?_,q2⟩;simp only[jD,jw,h1];rw[aB (by simp[c3,<-c1,k2,k3]),dP];exact q1
  ·cases h
def zuh{es:Nat}:∀(l:List (Nat×PV×Value)) {rows AB:List (List PV)}{cells:List Value},
 (∀(q:Nat) (i:Nat) (x:PV) (v:Value),l[q]? =J (i,x,v)->jS x=Z->
   (cN x).length=v.cells.toList.length/\(∀(t:Nat) (y:PV) (w:Value),(cN x)[t]? =J y->v.cells.toList[t]? =J w->PR E (J (T.1,T.2++[(i,t)])) y w)/\mD v=Z)->
 LY E T es rows cells->sf es (l.map λa=>(a.1,a.2.1)) rows=J AB->∃dw,jw (λi=>J (i*es,es)) (l.map λa=>(a.1,a.2.2)) cells=J dw/\LY E T es AB dw/\AB.length=rows.length:=by
 intro l;induction l with
 |nil=>intro rows AB cells _ hr h;simp only[p9,sf,aT]at h;subst h;exact⟨cells,rfl,hr,rfl⟩
 |cons a l ih=>
  obtain⟨i,x,v⟩:=a;intro rows AB cells hp hr h;simp only[jD,sf]at h;split at h
  ·rename_i hc;obtain⟨d6,hi⟩:=hc;obtain⟨k1,k2,k3⟩:=zoN d6;obtain⟨c1,c2,c3⟩:=hp 0 i x v rfl k1;obtain⟨r1,r2,r3⟩:=hr;have hne:cN x≠[]:=λe=>k3 (by rw[<-k2,e];rfl)
   have JD:v.cells.toList≠[]:=λe=>hne (mL (by rw[c1,e];rfl))
   have IV:(i+1)*es<=rows.length*es:=gA _ hi;rw[jZ]at IV;obtain⟨cs,dP⟩:=F4 (cs:=cells) (n:=i*es) JD (by rw[<-c1,k2,r1];exact IV);obtain⟨b1,b2,b3,b4⟩:=EC JD dP
   have zg:LY E T es (rows.set i (cN x)) cs:=by
    refine⟨by rw[b1,r1];simp,λr gX=>?_,λi' r j z y g1 g2 g3=>?_⟩
    ·rcases a0w gX with h|rfl
     ·exact r2 r h
     ·exact k2
    ·rw[C7]at g1;by_cases e:i=i'
     ·subst e;rw[aB rfl,aB hi]at g1;cases g1;have hj:j<v.cells.toList.length:=by have:=(cT.1 g2).1;omega
      rw[b4 j hj]at g3;exact c2 j z y g2 g3
     ·rw[az e]at g1;have fj:=r2 r (eo g1);have hj:j<es:=by have:=(cT.1 g2).1;omega
      rw[b3 _ (by
       rw[<-c1,k2];rintro⟨q1,q2⟩;rcases Nat.lt_or_gt_of_ne e with h|h
       ·have:(i+1)*es<=i'*es:=gA _ h;rw[jZ]at this;omega
       ·have:(i'+1)*es<=i*es:=gA _ h
        rw[jZ]at this;omega)]at g3
      exact r3 i' r j z y g1 g2 g3
   obtain⟨dw,q1,q2,q3⟩:=ih (λq i' x' v' hq=>hp (q+1) i' x' v' (by simpa using hq)) zg h;refine⟨dw,?_,q2,by simpa using q3⟩;simp only[jD,jw];rw[aB (by simp[c3,<-c1,k2,k3]),dP];exact q1
  ·cases h
def ztF(h:vs.length=xs.length):(js.zip (xs.zip vs)).map (λa=>(a.1,a.2.1))=js.zip xs:=by
 have:js.zip xs=js.zip ((xs.zip vs).map Prod.fst):=by rw[List.map_fst_zip (by omega)]
 rw[this,List.zip_map_right];rfl
def Vb(h:vs.length=xs.length):(js.zip (xs.zip vs)).map (λa=>(a.1,a.2.2))=js.zip vs:=by
 have:js.zip vs=js.zip ((xs.zip vs).map Prod.snd):=by rw[List.map_snd_zip (by omega)]
 rw[this,List.zip_map_right];rfl
def WC{q:Nat}(h:(js.zip (xs.zip vs))[q]? =J (i,x,v)):js[q]? =J i/\xs[q]? =J x/\vs[q]? =J v:=by
 rw[Gz]at h;obtain⟨h1,h2⟩:=h;rw[Gz]at h2;exact⟨h1,h2⟩
def zuC{b:(Nat->Option (Nat×Nat))×List PV}(h:mS P t=J b):∃z,z.all ct=Z/\b.2=zz P t z/\∀js vs,Gd P t js vs=(jw b.1 (js.zip vs) z).map λl=>.agg l.toArray:=by
 unfold mS at h;split at h
 ·rename_i jX hu;split at h
  ·rename_i g s cB z hz;split at h
   ·rename_i hc;simp only[aT]at h;subst h;refine⟨z,by simp only[bI]at hc;exact hc.1,rfl,λjs vs=>?_⟩;simp only[Gd,hu,hz];rw[aB hc]
   ·cases h
  ·cases h
 ·rename_i n e hu;split at h
  ·rename_i g s cB z hz;split at h
   ·rename_i g2 es r2 rz;split at h
    ·rename_i hc;simp only[aT]at h;subst h;refine⟨z,hc,rfl,λjs vs=>?_⟩;simp only[Gd,hu,hz,rz];rw[aB hc]
    ·cases h
   ·cases h
  ·cases h
 ·cases h
def ztb(r:aq c.nt pin E0 E pf fr)(hp:ep c pin)(ho:o.op=.build t ps)(h:Fh P c t ps.toList o.dst K pf)
(hk:∀pf' ai E',K pf'->aq c.nt pin E0 E' pf' ai->K' ai E'.H):aM P c.nt o K' fr E.H:=by
 obtain⟨d,op,ty,pp,af,g⟩:=o;simp only at ho h;subst ho;unfold Fh at h;split at h
 ·rename_i b xs aQ hb jq;obtain⟨vs,fr1,H1,E1,m1,e1,r1,l1,l2,f1⟩:=zoD r (fl:=[]) (λk x v h=>by simp at h) jq;simp only[mM]at f1;unfold Qz at h;split at h
  ·rename_i row Hn
   let js:=ps.toList.map (·.1)
   let M:=xs.length
   let pl:Nat->Nat×Nat:=λk=>(0,((js[k]?).bind b.1).elim 0 Prod.fst)
   let T:Nat×aA:=(c.nt,[(0,M)])
   obtain⟨z,rk,rz,As⟩:=zuC hb
   have PY:NN (E1.rl (pW c.nt xs T pl)) T b.2 z:=by
    rw[rz];exact⟨JY,HJ rk λj=>J (T.1,T.2++[(0,j)])⟩
   rw[<-ztF l1]at Hn
   obtain⟨dw,q1,q2⟩:=zt9 (T:=T) _ (λq i x v hq hc off sz dN=>by
    obtain⟨a1,a2,a3⟩:=WC hq;have:=Zp (T:=T) (pl:=pl) f1 (dO (f:=pW c.nt xs T pl)) (λa b h=>k8 h) a2 a3 hc;have e:pl q=(0,off):=by simp only[pl];rw[show js[q]? =J i from a1];simp[dN]
    rw[e]at this
    exact this) PY Hn
   rw[Vb l1]at q1;have QP:∀s:Nat,s<c.nt->∀q:aA,pW c.nt xs T pl (s,q)=ae:=λs hs q=>Vy (by show s≠c.nt;omega)
   have r2:aq c.nt pin E0 ((E1.rl (pW c.nt xs T pl)).rl (fg T (c.nt,[(0,0)]))) aQ fr1:=
    (r1.env r1.ok.rl nS λs hs=>iZ λq=>QP s hs _).env r1.ok.rl.rl nS λs hs=>iZ λq=>kB (by show s≠c.nt;omega)
   have hv:PR (E1.rl (pW c.nt xs T pl)) (J T) (.agg row) (.agg dw.toArray):=.agg (by simpa using q2.1) λj x y a b=>q2.2 j x y a (by simpa using b)
   have:=gC r2 hp (hv.move dO (k8 λq=>zgw _ _ q)) h hk;refine(show dA P c.nt ⟨d,.build t ps,ty,pp,af,g⟩ K' fr E.H from ?_);simp only[sG]at m1;have m1:cn fr E.H (ps.toList.map (·.2))=J (vs,fr1,H1):=m1;simp only[dA,gw,m1,eD,As];rw[show(jw b.1 ((ps.toList.map λx=>x.1).zip vs) z)=J dw from q1];simp only[l9];rw[<-e1];exact this
  ·cases h
 ·cases h
def zxa{z:Value}:∀{cs zs:List Value},fY (cs++z::zs) cs.length [v]=J (cs++v::zs):=by
 intro cs;induction cs with
 |nil=>intro zs;simp[fY]
 |cons c cs ih=>intro zs;simp[fY,ih]
def zyY(r:aq nt pin E0 E pf fr){s j:Nat}{p:aA}:∀{ps:List (Nat×Operand)}{q:Nat},yy pf s p i j q ps=Z->∃vs,cn fr E.H (ps.map (·.2))=J (vs,fr,E.H)/\vs.length=ps.length/\
 (∀k v,vs[k]? =J v->Wk E fr s (p++[(i,j+(q+k))]) v)/\∀cs zs:List Value,cs.length=q->zs.length=ps.length->jw (λi=>J (i*1,1)) ((ps.map (·.1)).zip vs) (cs++zs)=J (cs++vs):=by
 intro ps;induction ps with
 |nil=>intro q _;exact⟨[],rfl,rfl,λk v h=>by simp at h,λcs zs h1 h2=>by rw[mL h2];rfl⟩
 |cons x ps ih=>
  intro q h;obtain⟨q',x⟩:=x;cases x with
  |tmp t=>
   simp only[yy]at h;split at h
   ·rename_i hc;obtain⟨rfl,hrf,eW⟩:=hc
    have aE:pf t=.rf s (p++[(i,j+q')]):=by
     revert hrf;cases pf t<;>simp[Ci]
    have hf:=r.f t;rw[aE]at hf;obtain⟨v,h1,h2⟩:=hf;obtain⟨vs,a1,a2,a3,a4⟩:=ih h
    have hv:mD v=Z/\v.cells.toList=[v]:=by
     unfold Ob at eW;split at eW
     ·rename_i o es rows hg;obtain⟨v',w1,w2⟩:=r.at hg (by simp) (.inl Lk);have:=w1.same h2;subst this;cases w2<;>exact⟨rfl,rfl⟩
     ·cases eW
    refine⟨v::vs,?_,by simp[a2],λk w hk=>?_,λcs zs c1 c2=>?_⟩
    ·simp only[jD,cn,bh,h1];rw[a1]
    ·cases k with
     |zero=>simp at hk;subst hk;exact h2
     |succ k=>have:=a3 k w (by simpa using hk);rw[show q'+(k+1)=q'+1+k by omega];exact this
    ·cases zs with
     |nil=>simp at c2
     |cons z zs=>
      simp only[jD,a0o,jw,hv.1,hv.2];rw[Ky,<-c1,zxa];have:=a4 (cs++[v]) zs (by simp[c1]) (by simpa using c2);simpa using this
   ·cases h
  |_=>simp[yy]at h
def zuH(r:aq c.nt pin E0 E pf fr)(hp:ep c pin){len d:Nat}(ho:o.op=.buildSlice t len ps)(hd:o.dst=J d)(h:HT P c t len ps.toList d K pf)
(hk:∀pf' ai E',K pf'->aq c.nt pin E0 E' pf' ai->K' ai E'.H):aM P c.nt o K' fr E.H:=by
 unfold HT at h;split at h
 ·rename_i y hy;unfold JG at hy;simp only[bR]at hy;obtain⟨z,hz,⟨s,p,i,j⟩,hh,hy⟩:=hy;obtain⟨e,g,es,b,zc,he,ht,h2,h3,h4,rfl⟩:=CN hz;simp only at hy;split at hy
  ·rename_i hc;obtain⟨rfl,hl,dN,hgo⟩:=hc;simp only[aT]at hy;subst hy;obtain⟨vs,a1,a2,a3,a4⟩:=zyY r hgo;have hne:ps.toList≠[]:=by intro e;rw[e]at hh;simp[FG]at hh
   have za:len≠0:=by rw[<-dN];simpa using hne
   have hs:s<c.nt:=by
    cases fH:ps.toList with
    |nil=>exact absurd fH hne
    |cons x l=>
     rw[fH]at hh;obtain⟨q',x⟩:=x;cases x with
     |tmp t'=>
      simp only[FG,bR,bN,b9]at hh;obtain⟨⟨s',p'⟩,g1,_,_,rfl,_⟩:=hh;refine r.rt t' s' ?_;revert g1;cases pf t'<;>simp[Ci,bC];rintro rfl _;rfl
     |_=>simp[FG]at hh
   have qY:((List.replicate len zc).flatten).length=ps.toList.length:=by
    rw[Ev (es:=1) λe he=>by rw[(nu.1 he).2];exact h2];simp[dN]
   have hq:=a4 [] _ rfl qY;have:=jk (K':=K') r hp (y:=.as aa s p i j len) rfl hs (fv:=.ls len 1 vs) ⟨vs,rfl,⟨by rw[a2,dN],za⟩,λq y hq=>by have:=a3 q y hq;rwa [gk]at this⟩ h hk;simp only[bB]at this;split at this
   ·rename_i SL;unfold aM;rw[ho];simp only[he,hd,a1,ht];rw[aB ⟨SL,by omega,h2,h3,h4⟩];simp only[mM]at hq;rw[hq];exact this
   ·cases this
  ·cases hy
 ·cases h
def zwf(r:aq c.nt pin E0 E pf fr)(hp:ep c pin){len:Nat}(ho:o.op=.buildSlice t len ps)(h:Ex P c t len ps.toList o.dst K pf)
(hk:∀pf' ai E',K pf'->aq c.nt pin E0 E' pf' ai->K' ai E'.H):aM P c.nt o K' fr E.H:=by
 unfold Ex at h;split at h
 ·rename_i hm;cases hd:o.dst with
  |none=>rw[hd]at hm;cases hm
  |some d=>rw[hd]at h;exact zuH r hp ho hd h hk
 split at h
 ·rename_i z xs0 aQ d hz jq hd;obtain⟨h1,h5⟩:=h;obtain⟨e,g,es,b,zc,he,ht,h2,h3,h4,rfl⟩:=CN hz;simp only at h1 h5;obtain⟨vs,fr1,H1,QN,m1,e0,r0,l0,l2,f0⟩:=zoD r (fl:=[]) (λk x v h=>by simp at h) jq;simp only[mM]at f0;obtain⟨xs,ic⟩:∃xs,uJ c d xs0=xs:=⟨_,rfl⟩
  rw[ic]at h5
  obtain⟨E1,e1,r1,l1,f1⟩:∃E1:Env,E1.H=H1/\aq c.nt pin E0 E1 aQ fr1/\vs.length=xs.length/\d9 c.nt E1 (xs.zip vs):=by
   subst ic;unfold uJ;split
   ·refine⟨QN.fz (c.nt,[]),e0,r0.env r0.ok.fz EZ λs hs=>yX (sD hs),by simpa using l0,λk x v hk=>?_⟩;rw[Gz]at hk;obtain⟨x0,dy,rfl⟩:=mc hk.1;have:=f0 k x0 v (Gz.2 ⟨dy,hk.2⟩);exact(this.freeze (E':=QN.fz (c.nt,[])) pV λid r h1 _=>⟨.inr ⟨_,h1⟩,λkk hk=>⟨kk,hk,rfl⟩⟩).up
   ·exact⟨QN,e0,r0,l0,f0⟩
  unfold Ot at h5;split at h5
  ·rename_i rows Hn;obtain⟨hck,hK⟩:=h5;obtain⟨c1,c2⟩:=M4 hck;have jU:∀w,(d,w)∉pin:=λw hw=>c2 (hp.h d w hw)
   let js:=ps.toList.map (·.1)
   let pl:Nat->Nat×Nat:=λk=>((js[k]?).getD 0,0)
   let T:Nat×aA:=(d,[])
   have qY:∀e,e∈List.replicate len zc->e.length=es:=λe he=>by rw[(nu.1 he).2];exact h2
   have PY:LY (E1.rl (pW c.nt xs T pl)) T es (List.replicate len ((zz P e zc).map dz)) ((List.replicate len zc).flatten):=by
    refine⟨by rw[Ev qY];simp,λrw hr=>by rw[(nu.1 hr).2,Zm];exact h2,λi rw j x y g1 g2 g3=>?_⟩;have hi:i<len:=by have:=(cT.1 g1).1;simpa using this
    have bc:=(nu.1 (eo g1)).2;subst bc;have hj:j<es:=by have:=(cT.1 g2).1;rw[Zm]at this;omega
    rw[M3 qY (e:=zc) (by rw[KC,aB hi]) hj]at g3;exact zpL h4 (λ_=>J (T.1,T.2++[(i,j)])) j x y g2 g3
   rw[<-ztF l1]at Hn
   obtain⟨dw,q1,q2,q3⟩:=zuh (T:=T) _ (λq i x v hq hc=>by
    obtain⟨a1,a2,a3⟩:=WC hq;have:=Zp (T:=T) (pl:=pl) f1 (dO (f:=pW c.nt xs T pl)) (λa b h=>k8 h) a2 a3 hc;have e:pl q=(i,0):=by simp only[pl];rw[show js[q]? =J i from a1];rfl
    rw[e]at this
    simpa using this) PY Hn
   rw[Vb l1]at q1;have hlen:rows.length=len:=by simpa using q3
   have a1x:rows.length<=km:=by
    have:rows.length*1<=len*es:=by rw[hlen];exact OG _ (by omega)
    unfold km;omega
   have QP:∀s:Nat,s<c.nt->∀q:aA,pW c.nt xs T pl (s,q)=ae:=λs hs q=>Vy (by show s≠c.nt;omega)
   have r2:aq c.nt pin E0 (E1.rl (pW c.nt xs T pl)) (aQ.put d (.ls es rows)) (fr1.put d (.ls len es dw)):=
    r1.set c1 jU dO (λs hs _=>iZ λq=>QP s hs _) nS r1.ok.rl.wf r1.ok.rl.fresh ⟨dw,by simp[FR.put,hlen],q2.1,⟨a1x,h3⟩,q2.2.1,q2.2.2⟩ (λs hs=>by cases hs)
   have:=hk _ _ _ hK r2;simp only[sG]at m1;have m1:cn fr E.H (ps.toList.map (·.2))=J (vs,fr1,H1):=m1;unfold aM;rw[ho];simp only[he,hd,m1,ht];rw[aB ⟨c1,h1,h2,h3,h4⟩];rw[show(jw (λi=>J (i*es,es)) ((ps.toList.map λx=>x.1).zip vs) ((List.replicate len zc).flatten))=J dw from q1];simp only;rw[<-e1];exact this
  ·cases h5
 ·cases h
def Vs(r:aq nt pin E0 E pf fr){s:Nat}{p:aA}{y:PV}{pf':ah}(hs:s<nt)(h:cj pf s p=J x)(hw:Wk E fr s p v)(hj:xY pf s p x=J (y,pf')):
 ∃E',E'.H=E.H/\GK E E'/\aq nt pin E0 E' pf' fr/\PR E' ae y v:=by
 unfold xY at hj;split at hj
 ·cases hj
 ·rename_i hx;have hx:=n5 (x:=x) (by simpa using hx);have hp:=iQ r hw h;split at hj
  ·simp only[bN,b9]at hj;obtain⟨aQ,h1,rfl,rfl⟩:=hj;obtain⟨v',a1,a2,a3⟩:=r.Et hs h hx hp h1;have:=a1.same hw;subst this;exact⟨E.fz (s,p),rfl,pV,a2,a3⟩
  ·rename_i ho;cases hj;obtain⟨v',a1,a2⟩:=r.at h hx hp;have:=a1.same hw;subst this;exact⟨E,rfl,GK.refl E,r,a2.free (by simpa using ho)⟩
def aq.a02(r:aq nt pin E0 E pf fr){t:Nat}{row:List PV}(ht:t<nt)(aE:pf t=.bl row):
 ∃v ai E',oI [t] fr E.H=J (ai,E'.H)/\ai t=.v v/\(∀s w,fr s=.v w->ai s=.v w)/\GK E E'/\aq nt pin E0 E' ((pf.bS t (.v (.fp (row.map drop)))).kill t 0) ai/\PR E' ae (.fp (row.map drop)) v:=by
 have hf:=r.f t;rw[aE]at hf;obtain⟨cells,c1,c2,c5⟩:=hf;have ok:=r.ok;have hne:∀s w,fr s=.v w->s≠t:=λs w h e=>by rw[e,c1]at h;cases h
 have r1:aq nt pin E0 (E.push ⟨Z,cells⟩ (t,[]) λ_=>ae) ((pf.bS t (.v (.bx row))).kill t 0) (fr.put t (.v (.pointer (J ⟨E.H.n,0,ae⟩)))):=by
  refine r.qs ht ok.nr (λs hs dH=>ok.mW λq=>rfl) (λL hL=>absurd hL (A1 _)) (λs hs=>by simp[FR.put,hs]) (λh=>absurd h (yA _)) ok.uZ ok.push.wf ok.push.fresh (λ_ _ _ h2=>by simp[FR.put]at h2) ?_ rfl λk v hk=>?_
  ·exact n0 (by simp[FR.put]) (.bx zhw ok.xJ yr rfl (a0q c2) λj x y g1 g2=>(c5 j x y g1 g2).move ok.nr (ok.mW λq=>rfl))
  ·have:=r.pin k v hk;have:=hne k v this;simp[FR.put,this,r.pin k v hk]
 have hg:cj ((pf.bS t (.v (.bx row))).kill t 0) t []=J (.bx row):=by simp[cj,ah.kill,ah.bS,cZ,bC,fD,iB]
 obtain⟨v,w1,w2,w3⟩:=r1.Et (s:=t) (p:=[]) (pf':=(((pf.bS t (.v (.bx row))).kill t 0).bS t (.v (drop (.bx row)))).kill t 0) ht hg (by simp) (.inr ⟨_,by simp[ah.kill,ah.bS,cZ,bC];rfl⟩) (by rfl);rw[zqL]at w2 w3;refine⟨v,fr.put t (.v (.pointer (J ⟨E.H.n,0,ae⟩))),(E.push ⟨Z,cells⟩ (t,[]) λ_=>ae).fz (t,[]),by simp only[oI,c1];rfl,?_,λs w h=>by simp[FR.put,hne s w h,h],ok.nr.trans pV,?_,w3⟩
 ·rcases w1 with⟨v',h1,h2⟩|⟨_,_,_,_,_,h2,_⟩
  ·rw[h1];cases h2;rfl
  ·cases h2
 ·have e:((((pf.bS t (.v (.bx row))).kill t 0).bS t (.v (.fp (row.map drop)))).kill t 0)=(pf.bS t (.v (.fp (row.map drop)))).kill t 0:=by
   funext s;by_cases h:s=t
   ·subst h;simp[ah.kill,ah.bS,cZ,bC]
   ·simp only[ah.kill,ah.bS,az h];unfold cZ;split
    ·split
     ·simp_all [bC,jP]
     ·rfl
    ·rfl
  rw[e]at w2;exact w2
def zwh(r:aq nt pin E0 E pf fr){hb:Bool}{x:Operand}{y:PV}{pf':ah}(h:ta hb pf x=J (y,pf')):
 ∃v ai E' ts,oI ts fr E.H=J (ai,E'.H)/\(hb=aa->ts=[])/\(∀t w,fr t=.v w->ai t=.v w)/\(∀dI,(∀t w,ai t=.v w->dI t=.v w)->∀H,bh dI H x=J (v,dI,H))/\GK E E'/\aq nt pin E0 E' pf' ai/\PR E' ae y v:=by
 cases x with
 |const k=>
  simp only[ta]at h;split at h
  ·rename_i hc;cases h;exact⟨k,fr,E,[],rfl,λ_=>rfl,λ_ _ h=>h,λdI _ H=>by simp[bh,be,hc],GK.refl E,r,(IP hc ae).freeze (GK.refl E) True.intro⟩
  ·cases h
 |func f=>
  simp only[ta,aT,b9]at h;obtain⟨rfl,rfl⟩:=h;exact⟨.func (.func f) #[] #[],fr,E,[],rfl,λ_=>rfl,λ_ _ h=>h,λdI _ H=>by simp[bh,be],GK.refl E,r,.func _ rfl rfl (λi x y h=>by simp at h) (λi x y h=>by simp at h)⟩
 |global g=>simp[ta]at h
 |tmp t=>
  simp only[ta]at h;have hf:=r.f t
  have ht:pf t≠jP->t<nt:=λhn=>by
   rcases dK t nt with h1|h1
   ·exact h1
   ·exact absurd (r.hi t h1) hn
  cases aE:pf t with
  |v x=>
   rw[aE]at h hf;simp only[yq]at h;have hx:x≠.au:=by rintro rfl;simp[xY,dt]at h
   obtain⟨v,h1,h2⟩:=gi hf hx;obtain⟨E',a1,a2,a3,a4⟩:=Vs r (s:=t) (p:=[]) (v:=v) (ht (by rw[aE];intro e;cases e;exact hx rfl)) (by simp[cj,aE,fD,iB]) (.inl ⟨v,h1,rfl⟩) h;exact⟨v,fr,E',[],by rw[a1];rfl,λ_=>rfl,λ_ _ h=>h,λdI hh H=>by simp[bh,hh t v h1],a2,a3,a4⟩
  |rf s p=>
   rw[aE]at h hf;simp only[yq,bR]at h;obtain⟨x,hx,h⟩:=h;obtain⟨v,h1,h2⟩:=hf;obtain⟨E',a1,a2,a3,a4⟩:=Vs r (r.rt t s (by rw[aE];rfl)) hx h2 h;exact⟨v,fr,E',[],by rw[a1];rfl,λ_=>rfl,λ_ _ h=>h,λdI hh H=>by simp[bh,hh t v h1],a2,a3,a4⟩
  |bl row=>
   rw[aE]at h;simp only[yq]at h;split at h
   ·rename_i eJ;cases h;obtain⟨v,ai,E',h1,h2,h3,h4,h5,h6⟩:=r.a02 (ht (by rw[aE];intro e;cases e)) aE;exact⟨v,ai,E',[t],h1,λe=>(by rw[eJ]at e;cases e),h3,λdI hh H=>by simp[bh,hh t v h2],h4,h5,h6⟩
   ·cases h
  |_=>rw[aE]at h;simp[yq]at h
end
end Go.Pm
