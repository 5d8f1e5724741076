import Derived.Test.YtnojafnlicbhpaaGreatPmL
namespace Go.Pm
set_option linter.defProp false
open Go.Am
open Bool renaming false→aa,true→Z
open Option renaming none→ae,some→J
def Gx:=@List.getElem?_zip_eq_some
def Oz:=@Nat.mul_le_mul_left
section
variable {nt:Nat}{pin:List (Nat×Value)}{E0 E E':Env}{pf:ah}{fr ai:FR}{c:aY}{P:Program}
def pC(nt:Nat)(xs:List PV)(T:Nat×aA)(pl:Nat->Nat×Nat)(c:Nat×aA):Option (Nat×aA):=
 if c.1=nt then match c.2 with
  |(_,k)::_=>(xs[k]?).bind λx=>iB (nt,[(0,k)]) T (pl k).1 (pl k).2 x c
  |[]=>ae
 else ae
variable{K:ah->Prop}{K':FR->AH->Prop}{T:Nat×aA}{i:Nat}{js:List Nat}{o:Oper}{pl:Nat->Nat×Nat}{ps:Array (Nat×Operand)}{t:TypeId}{v:Value}{vs:List Value}{x:PV}{xs:List PV}
def zA4{a b:Nat×aA}{j:Nat}{c d:Nat×aA}(h:iB a b i j x c=J d):c.1=a.1/\a.2<+:c.2:=by
 cases x with
 |agg row=>
  obtain⟨q,r,_,rfl⟩:=zBC h;exact⟨rfl,by simp⟩
 |_=>
  simp only[iB,fg]at h;split at h
  ·assumption
  ·cases h
def zDw{k:Nat}{c d:Nat×aA}(hx:xs[k]? =J x)(h:iB (nt,[(0,k)]) T (pl k).1 (pl k).2 x c=J d):pC nt xs T pl c=J d:=by
 obtain⟨h1,r,h2⟩:=zA4 h;obtain⟨c1,c2⟩:=c;simp only at h1 h2;subst h1;subst h2;simp only[pC,eP,tZ,mL,hx,aR];exact h
def XO{c:Nat×aA}(h:c.1≠nt):pC nt xs T pl c=ae:=by simp[pC,h]
def zoR(hfl:eb nt E (xs.zip vs))(hg:GK E E')(hm:∀a b:Nat×aA,(∀r,pC nt xs T pl (a.1,a.2++r)=J (b.1,b.2++r))->dt E E' (J a) (J b))
{k:Nat}(hx:xs[k]? =J x)(hv:vs[k]? =J v)(hc:jQ x=Z):
 (cO x).length=v.cells.toList.length/\(∀(t:Nat) (y:PV) (w:Value),(cO x)[t]? =J y->v.cells.toList[t]? =J w->PR E' (J (T.1,T.2++[((pl k).1,(pl k).2+t)])) y w)/\mA v=Z:=by
 have h:=hfl k x v (by rw[Gx];exact⟨hx,hv⟩);exact Cs h hc hg λa b nI=>hm a b λr=>zDw hx (nI r)
def Ol(E:Env)(T:Nat×aA)(row:List PV)(cells:List Value):Prop:=
 row.length=cells.length/\∀(j:Nat) (x:PV) (y:Value),row[j]? =J x->cells[j]? =J y->PR E (J (T.1,T.2++[(0,j)])) x y
def Nw(E:Env)(T:Nat×aA)(es:Nat)(rows:List (List PV))(cells:List Value):Prop:=
 cells.length=rows.length*es/\(∀r,r∈rows->r.length=es)/\∀(i:Nat) (r:List PV) (j:Nat) (x:PV) (y:Value),rows[i]? =J r->r[j]? =J x->cells[i*es+j]? =J y->PR E (J (T.1,T.2++[(i,j)])) x y
def Zj{size:Nat}(h:B7 size x=Z):jQ x=Z/\(cO x).length=size/\size≠0:=by
 simp only[B7,bI,eC]at h;exact⟨h.1.1,h.1.2,h.2⟩
def zuI{kL:Nat->Option (Nat×Nat)}:∀(l:List (Nat×PV×Value)) {row tQ:List PV}{cells:List Value},
 (∀(q:Nat) (i:Nat) (x:PV) (v:Value),l[q]? =J (i,x,v)->jQ x=Z->∀off sz,kL i=J (off,sz)->
   (cO x).length=v.cells.toList.length/\(∀(t:Nat) (y:PV) (w:Value),(cO x)[t]? =J y->v.cells.toList[t]? =J w->PR E (J (T.1,T.2++[(0,off+t)])) y w)/\mA v=Z)->
 Ol E T row cells->vz kL (l.map λa=>(a.1,a.2.1)) row=J tQ->∃dx,jq kL (l.map λa=>(a.1,a.2.2)) cells=J dx/\Ol E T tQ dx:=by
 intro l;induction l with
 |nil=>intro row tQ cells _ hr h;simp only[p8,vz,aT]at h;subst h;exact⟨cells,rfl,hr⟩
 |cons a l ih=>
  obtain⟨i,x,v⟩:=a;intro row tQ cells hp hr h;simp only[jD,vz,bR]at h;obtain⟨⟨off,sz⟩,h1,h⟩:=h;split at h
  ·rename_i d6;obtain⟨k1,k2,k3⟩:=Zj d6;obtain⟨Abk,h2,h3⟩:=bR.1 h;obtain⟨c1,c2,c3⟩:=hp 0 i x v rfl k1 off sz h1;obtain⟨a1,a2,a3⟩:=yV h2;have hne:cO x≠[]:=λe=>k3 (by rw[<-k2,e];rfl)
   have JU:v.cells.toList≠[]:=λe=>hne (mK (by rw[c1,e];rfl))
   obtain⟨cs,dN⟩:=DA (cs:=cells) (n:=off) JU (by rw[<-c1,<-hr.1];exact a2 hne);obtain⟨b1,b2,b3,b4⟩:=Fz JU dN
   have AK:Ol E T Abk cs:=by
    refine⟨by rw[a1,b1];exact hr.1,λj z y g1 g2=>?_⟩;rw[a3 j]at g1;split at g1
    ·rename_i gJ;have:=b4 (j-off) (by omega);rw[show off+(j-off)=j by omega,g2]at this;have:=c2 (j-off) z y g1 this.symm
     rwa [show off+(j-off)=j by omega]at this
    ·rename_i gJ;rw[b3 j (by rw[<-c1];exact gJ)]at g2;exact hr.2 j z y g1 g2
   obtain⟨dx,q1,q2⟩:=ih (λq i' x' v' hq=>hp (q+1) i' x' v' (by simpa using hq)) AK h3;refine⟨dx,?_,q2⟩;simp only[jD,jq,h1];rw[aB (by simp[c3,<-c1,k2,k3]),dN];exact q1
  ·cases h
def zuD{es:Nat}:∀(l:List (Nat×PV×Value)) {rows Aw:List (List PV)}{cells:List Value},
 (∀(q:Nat) (i:Nat) (x:PV) (v:Value),l[q]? =J (i,x,v)->jQ x=Z->
   (cO x).length=v.cells.toList.length/\(∀(t:Nat) (y:PV) (w:Value),(cO x)[t]? =J y->v.cells.toList[t]? =J w->PR E (J (T.1,T.2++[(i,t)])) y w)/\mA v=Z)->
 Nw E T es rows cells->rL es (l.map λa=>(a.1,a.2.1)) rows=J Aw->∃dx,jq (λi=>J (i*es,es)) (l.map λa=>(a.1,a.2.2)) cells=J dx/\Nw E T es Aw dx/\Aw.length=rows.length:=by
 intro l;induction l with
 |nil=>intro rows Aw cells _ hr h;simp only[p8,rL,aT]at h;subst h;exact⟨cells,rfl,hr,rfl⟩
 |cons a l ih=>
  obtain⟨i,x,v⟩:=a;intro rows Aw cells hp hr h;simp only[jD,rL]at h;split at h
  ·rename_i hc;obtain⟨d6,hi⟩:=hc;obtain⟨k1,k2,k3⟩:=Zj d6;obtain⟨c1,c2,c3⟩:=hp 0 i x v rfl k1;obtain⟨r1,r2,r3⟩:=hr;have hne:cO x≠[]:=λe=>k3 (by rw[<-k2,e];rfl)
   have JU:v.cells.toList≠[]:=λe=>hne (mK (by rw[c1,e];rfl))
   have J2:(i+1)*es<=rows.length*es:=gA _ hi;rw[jZ]at J2;obtain⟨cs,dN⟩:=DA (cs:=cells) (n:=i*es) JU (by rw[<-c1,k2,r1];exact J2);obtain⟨b1,b2,b3,b4⟩:=Fz JU dN
   have AK:Nw E T es (rows.set i (cO x)) cs:=by
    refine⟨by rw[b1,r1];simp,λr gY=>?_,λi' r j z y g1 g2 g3=>?_⟩
    ·rcases Aau gY with h|rfl
     ·exact r2 r h
     ·exact k2
    ·rw[C6]at g1;by_cases e:i=i'
     ·subst e;rw[aB rfl,aB hi]at g1;cases g1;have hj:j<v.cells.toList.length:=by have:=(cT.1 g2).1;omega
      rw[b4 j hj]at g3;exact c2 j z y g2 g3
     ·rw[az e]at g1;have fm:=r2 r (eo g1);have hj:j<es:=by have:=(cT.1 g2).1;omega
      rw[b3 _ (by
       rw[<-c1,k2];rintro⟨q1,q2⟩;rcases Nat.lt_or_gt_of_ne e with h|h
       ·have:(i+1)*es<=i'*es:=gA _ h;rw[jZ]at this;omega
       ·have:(i'+1)*es<=i*es:=gA _ h
        rw[jZ]at this;omega)]at g3
      exact r3 i' r j z y g1 g2 g3
   obtain⟨dx,q1,q2,q3⟩:=ih (λq i' x' v' hq=>hp (q+1) i' x' v' (by simpa using hq)) AK h;refine⟨dx,?_,q2,by simpa using q3⟩;simp only[jD,jq];rw[aB (by simp[c3,<-c1,k2,k3]),dN];exact q1
  ·cases h
def W2(h:vs.length=xs.length):(js.zip (xs.zip vs)).map (λa=>(a.1,a.2.1))=js.zip xs:=by
 have:js.zip xs=js.zip ((xs.zip vs).map Prod.fst):=by rw[List.map_fst_zip (by omega)]
 rw[this,List.zip_map_right];rfl
def zsO(h:vs.length=xs.length):(js.zip (xs.zip vs)).map (λa=>(a.1,a.2.2))=js.zip vs:=by
 have:js.zip vs=js.zip ((xs.zip vs).map Prod.snd):=by rw[List.map_snd_zip (by omega)]
 rw[this,List.zip_map_right];rfl
def XG{q:Nat}(h:(js.zip (xs.zip vs))[q]? =J (i,x,v)):js[q]? =J i/\xs[q]? =J x/\vs[q]? =J v:=by
 rw[Gx]at h;obtain⟨h1,h2⟩:=h;rw[Gx]at h2;exact⟨h1,h2⟩
def zuv{b:(Nat->Option (Nat×Nat))×List PV}(h:nl P t=J b):∃z,z.all cq=Z/\b.2=zz P t z/\∀js vs,Gm P t js vs=(jq b.1 (js.zip vs) z).map λl=>.agg l.toArray:=by
 unfold nl at h;split at h
 ·rename_i jO hu;split at h
  ·rename_i g s cz z hz;split at h
   ·rename_i hc;simp only[aT]at h;subst h;refine⟨z,by simp only[bI]at hc;exact hc.1,rfl,λjs vs=>?_⟩;simp only[Gm,hu,hz];rw[aB hc]
   ·cases h
  ·cases h
 ·rename_i n e hu;split at h
  ·rename_i g s cz z hz;split at h
   ·rename_i g2 es r2 rz;split at h
    ·rename_i hc;simp only[aT]at h;subst h;refine⟨z,hc,rfl,λjs vs=>?_⟩;simp only[Gm,hu,hz,rz];rw[aB hc]
    ·cases h
   ·cases h
  ·cases h
 ·cases h
def ztB(r:aq c.nt pin E0 E pf fr)(hp:ew c pin)(ho:o.op=.build t ps)(h:EO P c t ps.toList o.dst K pf)
(hk:∀pf' ai E',K pf'->aq c.nt pin E0 E' pf' ai->K' ai E'.H):aM P c.nt o K' fr E.H:=by
 obtain⟨d,op,ty,pp,af,g⟩:=o;simp only at ho h;subst ho;unfold EO at h;split at h
 ·rename_i b xs aQ hb jl;obtain⟨vs,fr1,H1,E1,m1,e1,r1,l1,l2,f1⟩:=zoG r (fl:=[]) (λk x v h=>by simp at h) jl;simp only[mL]at f1;unfold SH at h;split at h
  ·rename_i row Hr
   let js:=ps.toList.map (·.1)
   let M:=xs.length
   let pl:Nat->Nat×Nat:=λk=>(0,((js[k]?).bind b.1).elim 0 Prod.fst)
   let T:Nat×aA:=(c.nt,[(0,M)])
   obtain⟨z,se,rz,AM⟩:=zuv hb
   have Sv:Ol (E1.rl (pC c.nt xs T pl)) T b.2 z:=by
    rw[rz];exact⟨JR,HT se λj=>J (T.1,T.2++[(0,j)])⟩
   rw[<-W2 l1]at Hr
   obtain⟨dx,q1,q2⟩:=zuI (T:=T) _ (λq i x v hq hc off sz dM=>by
    obtain⟨a1,a2,a3⟩:=XG hq;have:=zoR (T:=T) (pl:=pl) f1 (dO (f:=pC c.nt xs T pl)) (λa b h=>lG h) a2 a3 hc;have e:pl q=(0,off):=by simp only[pl];rw[show js[q]? =J i from a1];simp[dM]
    rw[e]at this
    exact this) Sv Hr
   rw[zsO l1]at q1;have Tr:∀s:Nat,s<c.nt->∀q:aA,pC c.nt xs T pl (s,q)=ae:=λs hs q=>XO (by show s≠c.nt;omega)
   have r2:aq c.nt pin E0 ((E1.rl (pC c.nt xs T pl)).rl (fg T (c.nt,[(0,0)]))) aQ fr1:=
    (r1.env r1.ok.rl nF λs hs=>iZ λq=>Tr s hs _).env r1.ok.rl.rl nF λs hs=>iZ λq=>kO (by show s≠c.nt;omega)
   have hv:PR (E1.rl (pC c.nt xs T pl)) (J T) (.agg row) (.agg dx.toArray):=.agg (by simpa using q2.1) λj x y a b=>q2.2 j x y a (by simpa using b)
   have:=gO r2 hp (hv.move dO (lG λq=>zgp _ _ q)) h hk;refine(show dA P c.nt ⟨d,.build t ps,ty,pp,af,g⟩ K' fr E.H from ?_);simp only[sF]at m1;have m1:ck fr E.H (ps.toList.map (·.2))=J (vs,fr1,H1):=m1;simp only[dA,gp,m1,eD,AM];rw[show(jq b.1 ((ps.toList.map λx=>x.1).zip vs) z)=J dx from q1];simp only[l9];rw[<-e1];exact this
  ·cases h
 ·cases h
def zxO{z:Value}:∀{cs zs:List Value},fV (cs++z::zs) cs.length [v]=J (cs++v::zs):=by
 intro cs;induction cs with
 |nil=>intro zs;simp[fV]
 |cons c cs ih=>intro zs;simp[fV,ih]
def zy2(r:aq nt pin E0 E pf fr){s j:Nat}{p:aA}:∀{ps:List (Nat×Operand)}{q:Nat},yj pf s p i j q ps=Z->∃vs,ck fr E.H (ps.map (·.2))=J (vs,fr,E.H)/\vs.length=ps.length/\
 (∀k v,vs[k]? =J v->Wk E fr s (p++[(i,j+(q+k))]) v)/\∀cs zs:List Value,cs.length=q->zs.length=ps.length->jq (λi=>J (i*1,1)) ((ps.map (·.1)).zip vs) (cs++zs)=J (cs++vs):=by
 intro ps;induction ps with
 |nil=>intro q _;exact⟨[],rfl,rfl,λk v h=>by simp at h,λcs zs h1 h2=>by rw[mK h2];rfl⟩
 |cons x ps ih=>
  intro q h;obtain⟨q',x⟩:=x;cases x with
  |tmp t=>
   simp only[yj]at h;split at h
   ·rename_i hc;obtain⟨rfl,hrf,e8⟩:=hc
    have aE:pf t=.rf s (p++[(i,j+q')]):=by
     revert hrf;cases pf t<;>simp[Cg]
    have hf:=r.f t;rw[aE]at hf;obtain⟨v,h1,h2⟩:=hf;obtain⟨vs,a1,a2,a3,a4⟩:=ih h
    have hv:mA v=Z/\v.cells.toList=[v]:=by
     unfold KN at e8;split at e8
     ·rename_i o es rows hg;obtain⟨v',w1,w2⟩:=r.at hg (by simp) (.inl KR);have:=w1.same h2;subst this;cases w2<;>exact⟨rfl,rfl⟩
     ·cases e8
    refine⟨v::vs,?_,by simp[a2],λk w hk=>?_,λcs zs c1 c2=>?_⟩
    ·simp only[jD,ck,bh,h1];rw[a1]
    ·cases k with
     |zero=>simp at hk;subst hk;exact h2
     |succ k=>have:=a3 k w (by simpa using hk);rw[show q'+(k+1)=q'+1+k by omega];exact this
    ·cases zs with
     |nil=>simp at c2
     |cons z zs=>
      simp only[jD,Aam,jq,hv.1,hv.2];rw[Kv,<-c1,zxO];have:=a4 (cs++[v]) zs (by simp[c1]) (by simpa using c2);simpa using this
   ·cases h
  |_=>simp[yj]at h
def zuc(r:aq c.nt pin E0 E pf fr)(hp:ew c pin){len d:Nat}(ho:o.op=.buildSlice t len ps)(hd:o.dst=J d)(h:JG P c t len ps.toList d K pf)
(hk:∀pf' ai E',K pf'->aq c.nt pin E0 E' pf' ai->K' ai E'.H):aM P c.nt o K' fr E.H:=by
 unfold JG at h;split at h
 ·rename_i y hy;unfold G5 at hy;simp only[bR]at hy;obtain⟨z,hz,⟨s,p,i,j⟩,hh,hy⟩:=hy;obtain⟨e,g,es,b,zc,he,ht,h2,h3,h4,rfl⟩:=CX hz;simp only at hy;split at hy
  ·rename_i hc;obtain⟨rfl,hl,dM,hgo⟩:=hc;simp only[aT]at hy;subst hy;obtain⟨vs,a1,a2,a3,a4⟩:=zy2 r hgo;have hne:ps.toList≠[]:=by intro e;rw[e]at hh;simp[D5]at hh
   have zf:len≠0:=by rw[<-dM];simpa using hne
   have hs:s<c.nt:=by
    cases fy:ps.toList with
    |nil=>exact absurd fy hne
    |cons x l=>
     rw[fy]at hh;obtain⟨q',x⟩:=x;cases x with
     |tmp t'=>
      simp only[D5,bR,bN,b9]at hh;obtain⟨⟨s',p'⟩,g1,_,_,rfl,_⟩:=hh;refine r.rt t' s' ?_;revert g1;cases pf t'<;>simp[Cg,bC];rintro rfl _;rfl
     |_=>simp[D5]at hh
   have qI:((List.replicate len zc).flatten).length=ps.toList.length:=by
    rw[FK (es:=1) λe he=>by rw[(nr.1 he).2];exact h2];simp[dM]
   have hq:=a4 [] _ rfl qI;have:=jz (K':=K') r hp (y:=.as aa s p i j len) rfl hs (fv:=.ls len 1 vs) ⟨vs,rfl,⟨by rw[a2,dM],zf⟩,λq y hq=>by have:=a3 q y hq;rwa [gk]at this⟩ h hk;simp only[bB]at this;split at this
   ·rename_i Sb;unfold aM;rw[ho];simp only[he,hd,a1,ht];rw[aB ⟨Sb,by omega,h2,h3,h4⟩];simp only[mL]at hq;rw[hq];exact this
   ·cases this
  ·cases hy
 ·cases h
def zwj(r:aq c.nt pin E0 E pf fr)(hp:ew c pin){len:Nat}(ho:o.op=.buildSlice t len ps)(h:Fh P c t len ps.toList o.dst K pf)
(hk:∀pf' ai E',K pf'->aq c.nt pin E0 E' pf' ai->K' ai E'.H):aM P c.nt o K' fr E.H:=by
 unfold Fh at h;split at h
 ·rename_i hm;cases hd:o.dst with
  |none=>rw[hd]at hm;cases hm
  |some d=>rw[hd]at h;exact zuc r hp ho hd h hk
 split at h
 ·rename_i z xs0 aQ d hz jl hd;obtain⟨h1,h5⟩:=h;obtain⟨e,g,es,b,zc,he,ht,h2,h3,h4,rfl⟩:=CX hz;simp only at h1 h5;obtain⟨vs,fr1,H1,RV,m1,e0,r0,l0,l2,f0⟩:=zoG r (fl:=[]) (λk x v h=>by simp at h) jl;simp only[mL]at f0;obtain⟨xs,ir⟩:∃xs,uH c d xs0=xs:=⟨_,rfl⟩
  rw[ir]at h5
  obtain⟨E1,e1,r1,l1,f1⟩:∃E1:Env,E1.H=H1/\aq c.nt pin E0 E1 aQ fr1/\vs.length=xs.length/\eb c.nt E1 (xs.zip vs):=by
   subst ir;unfold uH;split
   ·refine⟨RV.fz (c.nt,[]),e0,r0.env r0.ok.fz Fi λs hs=>Az (sC hs),by simpa using l0,λk x v hk=>?_⟩;rw[Gx]at hk;obtain⟨x0,dy,rfl⟩:=my hk.1;have:=f0 k x0 v (Gx.2 ⟨dy,hk.2⟩);exact(this.freeze (E':=RV.fz (c.nt,[])) pU λid r h1 _=>⟨.inr ⟨_,h1⟩,λkk hk=>⟨kk,hk,rfl⟩⟩).up
   ·exact⟨RV,e0,r0,l0,f0⟩
  unfold Lz at h5;split at h5
  ·rename_i rows Hr;obtain⟨hck,hK⟩:=h5;obtain⟨c1,c2⟩:=Ok hck;have jN:∀w,(d,w)∉pin:=λw hw=>c2 (hp.h d w hw)
   let js:=ps.toList.map (·.1)
   let pl:Nat->Nat×Nat:=λk=>((js[k]?).getD 0,0)
   let T:Nat×aA:=(d,[])
   have qI:∀e,e∈List.replicate len zc->e.length=es:=λe he=>by rw[(nr.1 he).2];exact h2
   have Sv:Nw (E1.rl (pC c.nt xs T pl)) T es (List.replicate len ((zz P e zc).map dz)) ((List.replicate len zc).flatten):=by
    refine⟨by rw[FK qI];simp,λrw hr=>by rw[(nr.1 hr).2,YS];exact h2,λi rw j x y g1 g2 g3=>?_⟩;have hi:i<len:=by have:=(cT.1 g1).1;simpa using this
    have bc:=(nr.1 (eo g1)).2;subst bc;have hj:j<es:=by have:=(cT.1 g2).1;rw[YS]at this;omega
    rw[Oh qI (e:=zc) (by rw[Kz,aB hi]) hj]at g3;exact zpP h4 (λ_=>J (T.1,T.2++[(i,j)])) j x y g2 g3
   rw[<-W2 l1]at Hr
   obtain⟨dx,q1,q2,q3⟩:=zuD (T:=T) _ (λq i x v hq hc=>by
    obtain⟨a1,a2,a3⟩:=XG hq;have:=zoR (T:=T) (pl:=pl) f1 (dO (f:=pC c.nt xs T pl)) (λa b h=>lG h) a2 a3 hc;have e:pl q=(i,0):=by simp only[pl];rw[show js[q]? =J i from a1];rfl
    rw[e]at this
    simpa using this) Sv Hr
   rw[zsO l1]at q1;have hlen:rows.length=len:=by simpa using q3
   have Abe:rows.length<=kj:=by
    have:rows.length*1<=len*es:=by rw[hlen];exact Oz _ (by omega)
    unfold kj;omega
   have Tr:∀s:Nat,s<c.nt->∀q:aA,pC c.nt xs T pl (s,q)=ae:=λs hs q=>XO (by show s≠c.nt;omega)
   have r2:aq c.nt pin E0 (E1.rl (pC c.nt xs T pl)) (aQ.put d (.ls es rows)) (fr1.put d (.ls len es dx)):=
    r1.set c1 jN dO (λs hs _=>iZ λq=>Tr s hs _) nF r1.ok.rl.wf r1.ok.rl.fresh ⟨dx,by simp[FR.put,hlen],q2.1,⟨Abe,h3⟩,q2.2.1,q2.2.2⟩ (λs hs=>by cases hs)
   have:=hk _ _ _ hK r2;simp only[sF]at m1;have m1:ck fr E.H (ps.toList.map (·.2))=J (vs,fr1,H1):=m1;unfold aM;rw[ho];simp only[he,hd,m1,ht];rw[aB ⟨c1,h1,h2,h3,h4⟩];rw[show(jq (λi=>J (i*es,es)) ((ps.toList.map λx=>x.1).zip vs) ((List.replicate len zc).flatten))=J dx from q1];simp only;rw[<-e1];exact this
  ·cases h5
 ·cases h
def Wf(r:aq nt pin E0 E pf fr){s:Nat}{p:aA}{y:PV}{pf':ah}(hs:s<nt)(h:cb pf s p=J x)(hw:Wk E fr s p v)(hj:yp pf s p x=J (y,pf')):
 ∃E',E'.H=E.H/\GK E E'/\aq nt pin E0 E' pf' fr/\PR E' ae y v:=by
 unfold yp at hj;split at hj
 ·cases hj
 ·rename_i hx;have hx:=oN (x:=x) (by simpa using hx);have hp:=iP r hw h;split at hj
  ·simp only[bN,b9]at hj;obtain⟨aQ,h1,rfl,rfl⟩:=hj;obtain⟨v',a1,a2,a3⟩:=r.Fa hs h hx hp h1;have:=a1.same hw;subst this;exact⟨E.fz (s,p),rfl,pU,a2,a3⟩
  ·rename_i ho;cases hj;obtain⟨v',a1,a2⟩:=r.at h hx hp;have:=a1.same hw;subst this;exact⟨E,rfl,GK.refl E,r,a2.free (by simpa using ho)⟩
def aq.Abl(r:aq nt pin E0 E pf fr){t:Nat}{row:List PV}(ht:t<nt)(aE:pf t=.bl row):
 ∃v ai E',oK [t] fr E.H=J (ai,E'.H)/\ai t=.v v/\(∀s w,fr s=.v w->ai s=.v w)/\GK E E'/\aq nt pin E0 E' ((pf.bU t (.v (.fp (row.map drop)))).kill t 0) ai/\PR E' ae (.fp (row.map drop)) v:=by
 have hf:=r.f t;rw[aE]at hf;obtain⟨cells,c1,c2,c5⟩:=hf;have ok:=r.ok;have hne:∀s w,fr s=.v w->s≠t:=λs w h e=>by rw[e,c1]at h;cases h
 have r1:aq nt pin E0 (E.push ⟨Z,cells⟩ (t,[]) λ_=>ae) ((pf.bU t (.v (.bx row))).kill t 0) (fr.put t (.v (.pointer (J ⟨E.H.n,0,ae⟩)))):=by
  refine r.qt ht ok.mP (λs hs dJ=>ok.m9 λq=>rfl) (λL hL=>absurd hL (A0 _)) (λs hs=>by simp[FR.put,hs]) (λh=>absurd h (yz _)) ok.uX ok.push.wf ok.push.fresh (λ_ _ _ h2=>by simp[FR.put]at h2) ?_ rfl λk v hk=>?_
  ·exact ou (by simp[FR.put]) (.bx zhy ok.yx xR rfl (Aao c2) λj x y g1 g2=>(c5 j x y g1 g2).move ok.mP (ok.m9 λq=>rfl))
  ·have:=r.pin k v hk;have:=hne k v this;simp[FR.put,this,r.pin k v hk]
 have hg:cb ((pf.bU t (.v (.bx row))).kill t 0) t []=J (.bx row):=by simp[cb,ah.kill,ah.bU,cZ,bC,fD,iF]
 obtain⟨v,w1,w2,w3⟩:=r1.Fa (s:=t) (p:=[]) (pf':=(((pf.bU t (.v (.bx row))).kill t 0).bU t (.v (drop (.bx row)))).kill t 0) ht hg (by simp) (.inr ⟨_,by simp[ah.kill,ah.bU,cZ,bC];rfl⟩) (by rfl);rw[zqQ]at w2 w3;refine⟨v,fr.put t (.v (.pointer (J ⟨E.H.n,0,ae⟩))),(E.push ⟨Z,cells⟩ (t,[]) λ_=>ae).fz (t,[]),by simp only[oK,c1];rfl,?_,λs w h=>by simp[FR.put,hne s w h,h],ok.mP.trans pU,?_,w3⟩
 ·rcases w1 with⟨v',h1,h2⟩|⟨_,_,_,_,_,h2,_⟩
  ·rw[h1];cases h2;rfl
  ·cases h2
 ·have e:((((pf.bU t (.v (.bx row))).kill t 0).bU t (.v (.fp (row.map drop)))).kill t 0)=(pf.bU t (.v (.fp (row.map drop)))).kill t 0:=by
   funext s;by_cases h:s=t
   ·subst h;simp[ah.kill,ah.bU,cZ,bC]
   ·simp only[ah.kill,ah.bU,az h];unfold cZ;split
    ·split
     ·simp_all [bC,jP]
     ·rfl
    ·rfl
  rw[e]at w2;exact w2
def zwe(r:aq nt pin E0 E pf fr){hb:Bool}{x:Operand}{y:PV}{pf':ah}(h:sO hb pf x=J (y,pf')):
 ∃v ai E' ts,oK ts fr E.H=J (ai,E'.H)/\(hb=aa->ts=[])/\(∀t w,fr t=.v w->ai t=.v w)/\(∀dH,(∀t w,ai t=.v w->dH t=.v w)->∀H,bh dH H x=J (v,dH,H))/\GK E E'/\aq nt pin E0 E' pf' ai/\PR E' ae y v:=by
 cases x with
 |const k=>
  simp only[sO]at h;split at h
  ·rename_i hc;cases h;exact⟨k,fr,E,[],rfl,λ_=>rfl,λ_ _ h=>h,λdH _ H=>by simp[bh,be,hc],GK.refl E,r,(JK hc ae).freeze (GK.refl E) True.intro⟩
  ·cases h
 |func f=>
  simp only[sO,aT,b9]at h;obtain⟨rfl,rfl⟩:=h;exact⟨.func (.func f) #[] #[],fr,E,[],rfl,λ_=>rfl,λ_ _ h=>h,λdH _ H=>by simp[bh,be],GK.refl E,r,.func _ rfl rfl (λi x y h=>by simp at h) (λi x y h=>by simp at h)⟩
 |global g=>simp[sO]at h
 |tmp t=>
  simp only[sO]at h;have hf:=r.f t
  have ht:pf t≠jP->t<nt:=λhn=>by
   rcases dK t nt with h1|h1
   ·exact h1
   ·exact absurd (r.hi t h1) hn
  cases aE:pf t with
  |v x=>
   rw[aE]at h hf;simp only[xK]at h;have hx:x≠.au:=by rintro rfl;simp[yp,dr]at h
   obtain⟨v,h1,h2⟩:=gi hf hx;obtain⟨E',a1,a2,a3,a4⟩:=Wf r (s:=t) (p:=[]) (v:=v) (ht (by rw[aE];intro e;cases e;exact hx rfl)) (by simp[cb,aE,fD,iF]) (.inl ⟨v,h1,rfl⟩) h;exact⟨v,fr,E',[],by rw[a1];rfl,λ_=>rfl,λ_ _ h=>h,λdH hh H=>by simp[bh,hh t v h1],a2,a3,a4⟩
  |rf s p=>
   rw[aE]at h hf;simp only[xK,bR]at h;obtain⟨x,hx,h⟩:=h;obtain⟨v,h1,h2⟩:=hf;obtain⟨E',a1,a2,a3,a4⟩:=Wf r (r.rt t s (by rw[aE];rfl)) hx h2 h;exact⟨v,fr,E',[],by rw[a1];rfl,λ_=>rfl,λ_ _ h=>h,λdH hh H=>by simp[bh,hh t v h1],a2,a3,a4⟩
  |bl row=>
   rw[aE]at h;simp only[xK]at h;split at h
   ·rename_i eG;cases h;obtain⟨v,ai,E',h1,h2,h3,h4,h5,h6⟩:=r.Abl (ht (by rw[aE];intro e;cases e)) aE;exact⟨v,ai,E',[t],h1,λe=>(by rw[eG]at e;cases e),h3,λdH hh H=>by simp[bh,hh t v h2],h4,h5,h6⟩
   ·cases h
  |_=>rw[aE]at h;simp[xK]at h
end
end Go.Pm
