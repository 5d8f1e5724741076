import Derived.Test.YtnojafnlicbhpaaGreatPmL
open Bool renaming false→aa,true→Z
open Option renaming none→ae,some→J
set_option linter.defProp false
namespace Go.Pm
open Go.Am
def HL:=@List.getElem?_zip_eq_some
def Qj:=@Nat.mul_le_mul_left
section
variable {nt:Nat}{pin:List (Nat×Value)}{E0 E E':Env}{pf:ah}{fr ak:FR}{c:aY}{P:Program}
def qm(nt:Nat)(xs:List PV)(T:Nat×aC)(pl:Nat->Nat×Nat)(c:Nat×aC):Option (Nat×aC):=
 if c.1=nt then match c.2 with
  |(_,k)::_=>(xs[k]?).bind λx=>iU (nt,[(0,k)]) T (pl k).1 (pl k).2 x c
  |[]=>ae
 else ae
variable{K:ah->Prop}{K':FR->AH->Prop}{T:Nat×aC}{i:Nat}{js:List Nat}{o:Oper}{pl:Nat->Nat×Nat}{ps:Array (Nat×Operand)}{t:TypeId}{v:Value}{vs:List Value}{x:PV}{xs:List PV}
def zBy{a b:Nat×aC}{j:Nat}{c d:Nat×aC}(h:iU a b i j x c=J d):c.1=a.1/\a.2<+:c.2:=by
 cases x with
 |agg row=>
  obtain⟨q,r,_,rfl⟩:=zA4 h;exact⟨rfl,by simp⟩
 |_=>
  simp only[iU,fq]at h;split at h
  ·assumption
  ·cases h
def zDg{k:Nat}{c d:Nat×aC}(hx:xs[k]? =J x)(h:iU (nt,[(0,k)]) T (pl k).1 (pl k).2 x c=J d):qm nt xs T pl c=J d:=by
 obtain⟨h1,r,h2⟩:=zBy h;obtain⟨c1,c2⟩:=c;simp only at h1 h2;subst h1;subst h2;simp only[qm,e9,uJ,na,hx,aS];exact h
def zx5{c:Nat×aC}(h:c.1≠nt):qm nt xs T pl c=ae:=by simp[qm,h]
def Xc(hfl:ep nt E (xs.zip vs))(hg:GK E E')(hm:∀a b:Nat×aC,(∀r,qm nt xs T pl (a.1,a.2++r)=J (b.1,b.2++r))->dC E E' (J a) (J b))
{k:Nat}(hx:xs[k]? =J x)(hv:vs[k]? =J v)(hc:kg x=Z):
 (cR x).length=v.cells.toList.length/\(∀(t:Nat) (y:PV) (w:Value),(cR x)[t]? =J y->v.cells.toList[t]? =J w->PR E' (J (T.1,T.2++[((pl k).1,(pl k).2+t)])) y w)/\mH v=Z:=by
 have h:=hfl k x v (by rw[HL];exact⟨hx,hv⟩);exact C3 h hc hg λa b oa=>hm a b λr=>zDg hx (oa r)
def Ot(E:Env)(T:Nat×aC)(row:List PV)(cells:List Value):Prop:=
 row.length=cells.length/\∀(j:Nat) (x:PV) (y:Value),row[j]? =J x->cells[j]? =J y->PR E (J (T.1,T.2++[(0,j)])) x y
def Mq(E:Env)(T:Nat×aC)(es:Nat)(rows:List (List PV))(cells:List Value):Prop:=
 cells.length=rows.length*es/\(∀r,r∈rows->r.length=es)/\∀(i:Nat) (r:List PV) (j:Nat) (x:PV) (y:Value),rows[i]? =J r->r[j]? =J x->cells[i*es+j]? =J y->PR E (J (T.1,T.2++[(i,j)])) x y
def Z6{size:Nat}(h:CX size x=Z):kg x=Z/\(cR x).length=size/\size≠0:=by
 simp only[CX,bK,eO]at h;exact⟨h.1.1,h.1.2,h.2⟩
def zum{lz:Nat->Option (Nat×Nat)}:∀(l:List (Nat×PV×Value)) {row tE:List PV}{cells:List Value},
 (∀(q:Nat) (i:Nat) (x:PV) (v:Value),l[q]? =J (i,x,v)->kg x=Z->∀off sz,lz i=J (off,sz)->
   (cR x).length=v.cells.toList.length/\(∀(t:Nat) (y:PV) (w:Value),(cR x)[t]? =J y->v.cells.toList[t]? =J w->PR E (J (T.1,T.2++[(0,off+t)])) y w)/\mH v=Z)->
 Ot E T row cells->v8 lz (l.map λa=>(a.1,a.2.1)) row=J tE->∃dF,jJ lz (l.map λa=>(a.1,a.2.2)) cells=J dF/\Ot E T tE dF:=by
 intro l;induction l with
 |nil=>intro row tE cells _ hr h;simp only[qI,v8,aT]at h;subst h;exact⟨cells,rfl,hr⟩
 |cons a l ih=>
  obtain⟨i,x,v⟩:=a;intro row tE cells hp hr h;simp only[jT,v8,bW]at h;obtain⟨⟨off,sz⟩,h1,h⟩:=h;split at h
  ·rename_i d7;obtain⟨k1,k2,k3⟩:=Z6 d7;obtain⟨a21,h2,h3⟩:=bW.1 h;obtain⟨c1,c2,c3⟩:=hp 0 i x v rfl k1 off sz h1;obtain⟨a1,a2,a3⟩:=Bh h2;have hne:cR x≠[]:=λe=>k3 (by rw[<-k2,e];rfl)
   have JM:v.cells.toList≠[]:=λe=>hne (m9 (by rw[c1,e];rfl))
   obtain⟨cs,dX⟩:=Hu (cs:=cells) (n:=off) JM (by rw[<-c1,<-hr.1];exact a2 hne);obtain⟨b1,b2,b3,b4⟩:=FT JM dX
   have So:Ot E T a21 cs:=by
    refine⟨by rw[a1,b1];exact hr.1,λj z y g1 g2=>?_⟩;rw[a3 j]at g1;split at g1
    ·rename_i hO;have:=b4 (j-off) (by omega);rw[show off+(j-off)=j by omega,g2]at this;have:=c2 (j-off) z y g1 this.symm
     rwa [show off+(j-off)=j by omega]at this
    ·rename_i hO;rw[b3 j (by rw[<-c1];exact hO)]at g2;exact hr.2 j z y g1 g2
   obtain⟨dF,q1,q2⟩:=ih (λq i' x' v' hq=>hp (q+1) i' x' v' (by simpa using hq)) So h3;refine⟨dF,?_,q2⟩;simp only[jT,jJ,h1];rw[aD (by simp[c3,<-c1,k2,k3]),dX];exact q1
  ·cases h
def zud{es:Nat}:∀(l:List (Nat×PV×Value)) {rows Bg:List (List PV)}{cells:List Value},
 (∀(q:Nat) (i:Nat) (x:PV) (v:Value),l[q]? =J (i,x,v)->kg x=Z->
   (cR x).length=v.cells.toList.length/\(∀(t:Nat) (y:PV) (w:Value),(cR x)[t]? =J y->v.cells.toList[t]? =J w->PR E (J (T.1,T.2++[(i,t)])) y w)/\mH v=Z)->
 Mq E T es rows cells->sg es (l.map λa=>(a.1,a.2.1)) rows=J Bg->∃dF,jJ (λi=>J (i*es,es)) (l.map λa=>(a.1,a.2.2)) cells=J dF/\Mq E T es Bg dF/\Bg.length=rows.length:=by
 intro l;induction l with
 |nil=>intro rows Bg cells _ hr h;simp only[qI,sg,aT]at h;subst h;exact⟨cells,rfl,hr,rfl⟩
 |cons a l ih=>
  obtain⟨i,x,v⟩:=a;intro rows Bg cells hp hr h;simp only[jT,sg]at h;split at h
  ·rename_i hc;obtain⟨d7,hi⟩:=hc;obtain⟨k1,k2,k3⟩:=Z6 d7;obtain⟨c1,c2,c3⟩:=hp 0 i x v rfl k1;obtain⟨r1,r2,r3⟩:=hr;have hne:cR x≠[]:=λe=>k3 (by rw[<-k2,e];rfl)
   have JM:v.cells.toList≠[]:=λe=>hne (m9 (by rw[c1,e];rfl))
   have KQ:(i+1)*es<=rows.length*es:=gO _ hi;rw[km]at KQ;obtain⟨cs,dX⟩:=Hu (cs:=cells) (n:=i*es) JM (by rw[<-c1,k2,r1];exact KQ);obtain⟨b1,b2,b3,b4⟩:=FT JM dX
   have So:Mq E T es (rows.set i (cR x)) cs:=by
    refine⟨by rw[b1,r1];simp,λr im=>?_,λi' r j z y g1 g2 g3=>?_⟩
    ·rcases a1l im with h|rfl
     ·exact r2 r h
     ·exact k2
    ·rw[Es]at g1;by_cases e:i=i'
     ·subst e;rw[aD rfl,aD hi]at g1;cases g1;have hj:j<v.cells.toList.length:=by have:=(cY.1 g2).1;omega
      rw[b4 j hj]at g3;exact c2 j z y g2 g3
     ·rw[aB e]at g1;have fF:=r2 r (eA g1);have hj:j<es:=by have:=(cY.1 g2).1;omega
      rw[b3 _ (by
       rw[<-c1,k2];rintro⟨q1,q2⟩;rcases Nat.lt_or_gt_of_ne e with h|h
       ·have:(i+1)*es<=i'*es:=gO _ h;rw[km]at this;omega
       ·have:(i'+1)*es<=i*es:=gO _ h
        rw[km]at this;omega)]at g3
      exact r3 i' r j z y g1 g2 g3
   obtain⟨dF,q1,q2,q3⟩:=ih (λq i' x' v' hq=>hp (q+1) i' x' v' (by simpa using hq)) So h;refine⟨dF,?_,q2,by simpa using q3⟩;simp only[jT,jJ];rw[aD (by simp[c3,<-c1,k2,k3]),dX];exact q1
  ·cases h
def XY(h:vs.length=xs.length):(js.zip (xs.zip vs)).map (λa=>(a.1,a.2.1))=js.zip xs:=by
 have:js.zip xs=js.zip ((xs.zip vs).map Prod.fst):=by rw[List.map_fst_zip (by omega)]
 rw[this,List.zip_map_right];rfl
def Y2(h:vs.length=xs.length):(js.zip (xs.zip vs)).map (λa=>(a.1,a.2.2))=js.zip vs:=by
 have:js.zip vs=js.zip ((xs.zip vs).map Prod.snd):=by rw[List.map_snd_zip (by omega)]
 rw[this,List.zip_map_right];rfl
def Zw{q:Nat}(h:(js.zip (xs.zip vs))[q]? =J (i,x,v)):js[q]? =J i/\xs[q]? =J x/\vs[q]? =J v:=by
 rw[HL]at h;obtain⟨h1,h2⟩:=h;rw[HL]at h2;exact⟨h1,h2⟩
def zuK{b:(Nat->Option (Nat×Nat))×List PV}(h:nE P t=J b):∃z,z.all cz=Z/\b.2=zz P t z/\∀js vs,Fm P t js vs=(jJ b.1 (js.zip vs) z).map λl=>.agg l.toArray:=by
 unfold nE at h;split at h
 ·rename_i jX hu;split at h
  ·rename_i g s cG z hz;split at h
   ·rename_i hc;simp only[aT]at h;subst h;refine⟨z,by simp only[bK]at hc;exact hc.1,rfl,λjs vs=>?_⟩;simp only[Fm,hu,hz];rw[aD hc]
   ·cases h
  ·cases h
 ·rename_i n e hu;split at h
  ·rename_i g s cG z hz;split at h
   ·rename_i g2 es r2 sT;split at h
    ·rename_i hc;simp only[aT]at h;subst h;refine⟨z,hc,rfl,λjs vs=>?_⟩;simp only[Fm,hu,hz,sT];rw[aD hc]
    ·cases h
   ·cases h
  ·cases h
 ·cases h
def zt5(r:av c.nt pin E0 E pf fr)(hp:eG c pin)(ho:o.op=.build t ps)(h:Gr P c t ps.toList o.dst K pf)
(hk:∀pf' ak E',K pf'->av c.nt pin E0 E' pf' ak->K' ak E'.H):aP P c.nt o K' fr E.H:=by
 obtain⟨d,op,ty,pp,af,g⟩:=o;simp only at ho h;subst ho;unfold Gr at h;split at h
 ·rename_i b xs aR hb jD;obtain⟨vs,fr1,H1,E1,m1,e1,r1,l1,l2,f1⟩:=Xn r (fl:=[]) (λk x v h=>by simp at h) jD;simp only[na]at f1;unfold QQ at h;split at h
  ·rename_i row IK
   let js:=ps.toList.map (·.1)
   let M:=xs.length
   let pl:Nat->Nat×Nat:=λk=>(0,((js[k]?).bind b.1).elim 0 Prod.fst)
   let T:Nat×aC:=(c.nt,[(0,M)])
   obtain⟨z,sn,sT,BE⟩:=zuK hb
   have QP:Ot (E1.rl (qm c.nt xs T pl)) T b.2 z:=by
    rw[sT];exact⟨Lz,KI sn λj=>J (T.1,T.2++[(0,j)])⟩
   rw[<-XY l1]at IK
   obtain⟨dF,q1,q2⟩:=zum (T:=T) _ (λq i x v hq hc off sz dR=>by
    obtain⟨a1,a2,a3⟩:=Zw hq;have:=Xc (T:=T) (pl:=pl) f1 (dU (f:=qm c.nt xs T pl)) (λa b h=>lF h) a2 a3 hc;have e:pl q=(0,off):=by simp only[pl];rw[show js[q]? =J i from a1];simp[dR]
    rw[e]at this
    exact this) QP IK
   rw[Y2 l1]at q1;have Uq:∀s:Nat,s<c.nt->∀q:aC,qm c.nt xs T pl (s,q)=ae:=λs hs q=>zx5 (by show s≠c.nt;omega)
   have r2:av c.nt pin E0 ((E1.rl (qm c.nt xs T pl)).rl (fq T (c.nt,[(0,0)]))) aR fr1:=
    (r1.env r1.ok.rl oi λs hs=>jh λq=>Uq s hs _).env r1.ok.rl.rl oi λs hs=>jh λq=>lq (by show s≠c.nt;omega)
   have hv:PR (E1.rl (qm c.nt xs T pl)) (J T) (.agg row) (.agg dF.toArray):=.agg (by simpa using q2.1) λj x y a b=>q2.2 j x y a (by simpa using b)
   have:=g8 r2 hp (hv.move dU (lF λq=>zgu _ _ q)) h hk;refine(show dE P c.nt ⟨d,.build t ps,ty,pp,af,g⟩ K' fr E.H from ?_);simp only[tf]at m1;have m1:cr fr E.H (ps.toList.map (·.2))=J (vs,fr1,H1):=m1;simp only[dE,gG,m1,eY,BE];rw[show(jJ b.1 ((ps.toList.map λx=>x.1).zip vs) z)=J dF from q1];simp only[mA];rw[<-e1];exact this
  ·cases h
 ·cases h
def zxv{z:Value}:∀{cs zs:List Value},gq (cs++z::zs) cs.length [v]=J (cs++v::zs):=by
 intro cs;induction cs with
 |nil=>intro zs;simp[gq]
 |cons c cs ih=>intro zs;simp[gq,ih]
def zzh(r:av nt pin E0 E pf fr){s j:Nat}{p:aC}:∀{ps:List (Nat×Operand)}{q:Nat},xU pf s p i j q ps=Z->∃vs,cr fr E.H (ps.map (·.2))=J (vs,fr,E.H)/\vs.length=ps.length/\
 (∀k v,vs[k]? =J v->Wk E fr s (p++[(i,j+(q+k))]) v)/\∀cs zs:List Value,cs.length=q->zs.length=ps.length->jJ (λi=>J (i*1,1)) ((ps.map (·.1)).zip vs) (cs++zs)=J (cs++vs):=by
 intro ps;induction ps with
 |nil=>intro q _;exact⟨[],rfl,rfl,λk v h=>by simp at h,λcs zs h1 h2=>by rw[m9 h2];rfl⟩
 |cons x ps ih=>
  intro q h;obtain⟨q',x⟩:=x;cases x with
  |tmp t=>
   simp only[xU]at h;split at h
   ·rename_i hc;obtain⟨rfl,hrf,fk⟩:=hc
    have aF:pf t=.rf s (p++[(i,j+q')]):=by
     revert hrf;cases pf t<;>simp[Cf]
    have hf:=r.f t;rw[aF]at hf;obtain⟨v,h1,h2⟩:=hf;obtain⟨vs,a1,a2,a3,a4⟩:=ih h
    have hv:mH v=Z/\v.cells.toList=[v]:=by
     unfold P1 at fk;split at fk
     ·rename_i o es rows hg;obtain⟨v',w1,w2⟩:=r.at hg (by simp) (.inl P2);have:=w1.same h2;subst this;cases w2<;>exact⟨rfl,rfl⟩
     ·cases fk
    refine⟨v::vs,?_,by simp[a2],λk w hk=>?_,λcs zs c1 c2=>?_⟩
    ·simp only[jT,cr,bg,h1];rw[a1]
    ·cases k with
     |zero=>simp at hk;subst hk;exact h2
     |succ k=>have:=a3 k w (by simpa using hk);rw[show q'+(k+1)=q'+1+k by omega];exact this
    ·cases zs with
     |nil=>simp at c2
     |cons z zs=>
      simp only[jT,a1d,jJ,hv.1,hv.2];rw[L0,<-c1,zxv];have:=a4 (cs++[v]) zs (by simp[c1]) (by simpa using c2);simpa using this
   ·cases h
  |_=>simp[xU]at h
def zuB(r:av c.nt pin E0 E pf fr)(hp:eG c pin){len d:Nat}(ho:o.op=.buildSlice t len ps)(hd:o.dst=J d)(h:Jj P c t len ps.toList d K pf)
(hk:∀pf' ak E',K pf'->av c.nt pin E0 E' pf' ak->K' ak E'.H):aP P c.nt o K' fr E.H:=by
 unfold Jj at h;split at h
 ·rename_i y hy;unfold LS at hy;simp only[bW]at hy;obtain⟨z,hz,⟨s,p,i,j⟩,hh,hy⟩:=hy;obtain⟨e,g,es,b,zc,he,ht,h2,h3,h4,rfl⟩:=D3 hz;simp only at hy;split at hy
  ·rename_i hc;obtain⟨rfl,hl,dR,hgo⟩:=hc;simp only[aT]at hy;subst hy;obtain⟨vs,a1,a2,a3,a4⟩:=zzh r hgo;have hne:ps.toList≠[]:=by intro e;rw[e]at hh;simp[GW]at hh
   have BG:len≠0:=by rw[<-dR];simpa using hne
   have hs:s<c.nt:=by
    cases fW:ps.toList with
    |nil=>exact absurd fW hne
    |cons x l=>
     rw[fW]at hh;obtain⟨q',x⟩:=x;cases x with
     |tmp t'=>
      simp only[GW,bW,bP,cg]at hh;obtain⟨⟨s',p'⟩,g1,_,_,rfl,_⟩:=hh;refine r.rt t' s' ?_;revert g1;cases pf t'<;>simp[Cf,bE];rintro rfl _;rfl
     |_=>simp[GW]at hh
   have rN:((List.replicate len zc).flatten).length=ps.toList.length:=by
    rw[EB (es:=1) λe he=>by rw[(nN.1 he).2];exact h2];simp[dR]
   have hq:=a4 [] _ rfl rN;have:=jQ (K':=K') r hp (y:=.as aa s p i j len) rfl hs (fv:=.ls len 1 vs) ⟨vs,rfl,⟨by rw[a2,dR],BG⟩,λq y hq=>by have:=a3 q y hq;rwa [gE]at this⟩ h hk;simp only[bC]at this;split at this
   ·rename_i VG;unfold aP;rw[ho];simp only[he,hd,a1,ht];rw[aD ⟨VG,by omega,h2,h3,h4⟩];simp only[na]at hq;rw[hq];exact this
   ·cases this
  ·cases hy
 ·cases h
def zwb(r:av c.nt pin E0 E pf fr)(hp:eG c pin){len:Nat}(ho:o.op=.buildSlice t len ps)(h:Hb P c t len ps.toList o.dst K pf)
(hk:∀pf' ak E',K pf'->av c.nt pin E0 E' pf' ak->K' ak E'.H):aP P c.nt o K' fr E.H:=by
 unfold Hb at h;split at h
 ·rename_i hm;cases hd:o.dst with
  |none=>rw[hd]at hm;cases hm
  |some d=>rw[hd]at h;exact zuB r hp ho hd h hk
 split at h
 ·rename_i z xs0 aR d hz jD hd;obtain⟨h1,h5⟩:=h;obtain⟨e,g,es,b,zc,he,ht,h2,h3,h4,rfl⟩:=D3 hz;simp only at h1 h5;obtain⟨vs,fr1,H1,Q8,m1,e0,r0,l0,l2,f0⟩:=Xn r (fl:=[]) (λk x v h=>by simp at h) jD;simp only[na]at f0;obtain⟨xs,iP⟩:∃xs,vo c d xs0=xs:=⟨_,rfl⟩
  rw[iP]at h5
  obtain⟨E1,e1,r1,l1,f1⟩:∃E1:Env,E1.H=H1/\av c.nt pin E0 E1 aR fr1/\vs.length=xs.length/\ep c.nt E1 (xs.zip vs):=by
   subst iP;unfold vo;split
   ·refine⟨Q8.fz (c.nt,[]),e0,r0.env r0.ok.fz Gv λs hs=>Bb (td hs),by simpa using l0,λk x v hk=>?_⟩;rw[HL]at hk;obtain⟨x0,dD,rfl⟩:=mC hk.1;have:=f0 k x0 v (HL.2 ⟨dD,hk.2⟩);exact(this.freeze (E':=Q8.fz (c.nt,[])) p9 λid r h1 _=>⟨.inr ⟨_,h1⟩,λkk hk=>⟨kk,hk,rfl⟩⟩).up
   ·exact⟨Q8,e0,r0,l0,f0⟩
  unfold Px at h5;split at h5
  ·rename_i rows IK;obtain⟨hck,hK⟩:=h5;obtain⟨c1,c2⟩:=MQ hck;have jY:∀w,(d,w)∉pin:=λw hw=>c2 (hp.h d w hw)
   let js:=ps.toList.map (·.1)
   let pl:Nat->Nat×Nat:=λk=>((js[k]?).getD 0,0)
   let T:Nat×aC:=(d,[])
   have rN:∀e,e∈List.replicate len zc->e.length=es:=λe he=>by rw[(nN.1 he).2];exact h2
   have QP:Mq (E1.rl (qm c.nt xs T pl)) T es (List.replicate len ((zz P e zc).map dz)) ((List.replicate len zc).flatten):=by
    refine⟨by rw[EB rN];simp,λrw hr=>by rw[(nN.1 hr).2,WT];exact h2,λi rw j x y g1 g2 g3=>?_⟩;have hi:i<len:=by have:=(cY.1 g1).1;simpa using this
    have bc:=(nN.1 (eA g1)).2;subst bc;have hj:j<es:=by have:=(cY.1 g2).1;rw[WT]at this;omega
    rw[OV rN (e:=zc) (by rw[L4,aD hi]) hj]at g3;exact zqc h4 (λ_=>J (T.1,T.2++[(i,j)])) j x y g2 g3
   rw[<-XY l1]at IK
   obtain⟨dF,q1,q2,q3⟩:=zud (T:=T) _ (λq i x v hq hc=>by
    obtain⟨a1,a2,a3⟩:=Zw hq;have:=Xc (T:=T) (pl:=pl) f1 (dU (f:=qm c.nt xs T pl)) (λa b h=>lF h) a2 a3 hc;have e:pl q=(i,0):=by simp only[pl];rw[show js[q]? =J i from a1];rfl
    rw[e]at this
    simpa using this) QP IK
   rw[Y2 l1]at q1;have hlen:rows.length=len:=by simpa using q3
   have a3I:rows.length<=kK:=by
    have:rows.length*1<=len*es:=by rw[hlen];exact Qj _ (by omega)
    unfold kK;omega
   have Uq:∀s:Nat,s<c.nt->∀q:aC,qm c.nt xs T pl (s,q)=ae:=λs hs q=>zx5 (by show s≠c.nt;omega)
   have r2:av c.nt pin E0 (E1.rl (qm c.nt xs T pl)) (aR.put d (.ls es rows)) (fr1.put d (.ls len es dF)):=
    r1.set c1 jY dU (λs hs _=>jh λq=>Uq s hs _) oi r1.ok.rl.wf r1.ok.rl.fresh ⟨dF,by simp[FR.put,hlen],q2.1,⟨a3I,h3⟩,q2.2.1,q2.2.2⟩ (λs hs=>by cases hs)
   have:=hk _ _ _ hK r2;simp only[tf]at m1;have m1:cr fr E.H (ps.toList.map (·.2))=J (vs,fr1,H1):=m1;unfold aP;rw[ho];simp only[he,hd,m1,ht];rw[aD ⟨c1,h1,h2,h3,h4⟩];rw[show(jJ (λi=>J (i*es,es)) ((ps.toList.map λx=>x.1).zip vs) ((List.replicate len zc).flatten))=J dF from q1];simp only;rw[<-e1];exact this
  ·cases h5
 ·cases h
def zpL(r:av nt pin E0 E pf fr){s:Nat}{p:aC}{y:PV}{pf':ah}(hs:s<nt)(h:cn pf s p=J x)(hw:Wk E fr s p v)(hj:yG pf s p x=J (y,pf')):
 ∃E',E'.H=E.H/\GK E E'/\av nt pin E0 E' pf' fr/\PR E' ae y v:=by
 unfold yG at hj;split at hj
 ·cases hj
 ·rename_i hx;have hx:=oT (x:=x) (by simpa using hx);have hp:=jn r hw h;split at hj
  ·simp only[bP,cg]at hj;obtain⟨aR,h1,rfl,rfl⟩:=hj;obtain⟨v',a1,a2,a3⟩:=r.Hk hs h hx hp h1;have:=a1.same hw;subst this;exact⟨E.fz (s,p),rfl,p9,a2,a3⟩
  ·rename_i ho;cases hj;obtain⟨v',a1,a2⟩:=r.at h hx hp;have:=a1.same hw;subst this;exact⟨E,rfl,GK.refl E,r,a2.free (by simpa using ho)⟩
def av.a4x(r:av nt pin E0 E pf fr){t:Nat}{row:List PV}(ht:t<nt)(aF:pf t=.bl row):
 ∃v ak E',oO [t] fr E.H=J (ak,E'.H)/\ak t=.v v/\(∀s w,fr s=.v w->ak s=.v w)/\GK E E'/\av nt pin E0 E' ((pf.bY t (.v (.fp (row.map drop)))).kill t 0) ak/\PR E' ae (.fp (row.map drop)) v:=by
 have hf:=r.f t;rw[aF]at hf;obtain⟨cells,c1,c2,c5⟩:=hf;have ok:=r.ok;have hne:∀s w,fr s=.v w->s≠t:=λs w h e=>by rw[e,c1]at h;cases h
 have r1:av nt pin E0 (E.push ⟨Z,cells⟩ (t,[]) λ_=>ae) ((pf.bY t (.v (.bx row))).kill t 0) (fr.put t (.v (.pointer (J ⟨E.H.n,0,ae⟩)))):=by
  refine r.rK ht ok.nw (λs hs dO=>ok.nL λq=>rfl) (λL hL=>absurd hL (B0 _)) (λs hs=>by simp[FR.put,hs]) (λh=>absurd h (zB _)) ok.wM ok.push.wf ok.push.fresh (λ_ _ _ h2=>by simp[FR.put]at h2) ?_ rfl λk v hk=>?_
  ·exact o9 (by simp[FR.put]) (.bx zhD ok.xR xV rfl (a1f c2) λj x y g1 g2=>(c5 j x y g1 g2).move ok.nw (ok.nL λq=>rfl))
  ·have:=r.pin k v hk;have:=hne k v this;simp[FR.put,this,r.pin k v hk]
 have hg:cn ((pf.bY t (.v (.bx row))).kill t 0) t []=J (.bx row):=by simp[cn,ah.kill,ah.bY,dr,bE,fV,jb]
 obtain⟨v,w1,w2,w3⟩:=r1.Hk (s:=t) (p:=[]) (pf':=(((pf.bY t (.v (.bx row))).kill t 0).bY t (.v (drop (.bx row)))).kill t 0) ht hg (by simp) (.inr ⟨_,by simp[ah.kill,ah.bY,dr,bE];rfl⟩) (by rfl);rw[zq8]at w2 w3;refine⟨v,fr.put t (.v (.pointer (J ⟨E.H.n,0,ae⟩))),(E.push ⟨Z,cells⟩ (t,[]) λ_=>ae).fz (t,[]),by simp only[oO,c1];rfl,?_,λs w h=>by simp[FR.put,hne s w h,h],ok.nw.trans p9,?_,w3⟩
 ·rcases w1 with⟨v',h1,h2⟩|⟨_,_,_,_,_,h2,_⟩
  ·rw[h1];cases h2;rfl
  ·cases h2
 ·have e:((((pf.bY t (.v (.bx row))).kill t 0).bY t (.v (.fp (row.map drop)))).kill t 0)=(pf.bY t (.v (.fp (row.map drop)))).kill t 0:=by
   funext s;by_cases h:s=t
   ·subst h;simp[ah.kill,ah.bY,dr,bE]
   ·simp only[ah.kill,ah.bY,aB h];unfold dr;split
    ·split
     ·simp_all [bE,jP]
     ·rfl
    ·rfl
  rw[e]at w2;exact w2
def zwd(r:av nt pin E0 E pf fr){hb:Bool}{x:Operand}{y:PV}{pf':ah}(h:uq hb pf x=J (y,pf')):
 ∃v ak E' ts,oO ts fr E.H=J (ak,E'.H)/\(hb=aa->ts=[])/\(∀t w,fr t=.v w->ak t=.v w)/\(∀dN,(∀t w,ak t=.v w->dN t=.v w)->∀H,bg dN H x=J (v,dN,H))/\GK E E'/\av nt pin E0 E' pf' ak/\PR E' ae y v:=by
 cases x with
 |const k=>
  simp only[uq]at h;split at h
  ·rename_i hc;cases h;exact⟨k,fr,E,[],rfl,λ_=>rfl,λ_ _ h=>h,λdN _ H=>by simp[bg,be,hc],GK.refl E,r,(H3 hc ae).freeze (GK.refl E) True.intro⟩
  ·cases h
 |func f=>
  simp only[uq,aT,cg]at h;obtain⟨rfl,rfl⟩:=h;exact⟨.func (.func f) #[] #[],fr,E,[],rfl,λ_=>rfl,λ_ _ h=>h,λdN _ H=>by simp[bg,be],GK.refl E,r,.func _ rfl rfl (λi x y h=>by simp at h) (λi x y h=>by simp at h)⟩
 |global g=>simp[uq]at h
 |tmp t=>
  simp only[uq]at h;have hf:=r.f t
  have ht:pf t≠jP->t<nt:=λhn=>by
   rcases dQ t nt with h1|h1
   ·exact h1
   ·exact absurd (r.hi t h1) hn
  cases aF:pf t with
  |v x=>
   rw[aF]at h hf;simp only[ya]at h;have hx:x≠.ax:=by rintro rfl;simp[yG,dB]at h
   obtain⟨v,h1,h2⟩:=gA hf hx;obtain⟨E',a1,a2,a3,a4⟩:=zpL r (s:=t) (p:=[]) (v:=v) (ht (by rw[aF];intro e;cases e;exact hx rfl)) (by simp[cn,aF,fV,jb]) (.inl ⟨v,h1,rfl⟩) h;exact⟨v,fr,E',[],by rw[a1];rfl,λ_=>rfl,λ_ _ h=>h,λdN hh H=>by simp[bg,hh t v h1],a2,a3,a4⟩
  |rf s p=>
   rw[aF]at h hf;simp only[ya,bW]at h;obtain⟨x,hx,h⟩:=h;obtain⟨v,h1,h2⟩:=hf;obtain⟨E',a1,a2,a3,a4⟩:=zpL r (r.rt t s (by rw[aF];rfl)) hx h2 h;exact⟨v,fr,E',[],by rw[a1];rfl,λ_=>rfl,λ_ _ h=>h,λdN hh H=>by simp[bg,hh t v h1],a2,a3,a4⟩
  |bl row=>
   rw[aF]at h;simp only[ya]at h;split at h
   ·rename_i eS;cases h;obtain⟨v,ak,E',h1,h2,h3,h4,h5,h6⟩:=r.a4x (ht (by rw[aF];intro e;cases e)) aF;exact⟨v,ak,E',[t],h1,λe=>(by rw[eS]at e;cases e),h3,λdN hh H=>by simp[bg,hh t v h2],h4,h5,h6⟩
   ·cases h
  |_=>rw[aF]at h;simp[ya]at h
end
end Go.Pm
