import Derived.Test.YtnojafnlicbhpaaGreatPmW
import Derived.ChangeSlices
import Derived.ChangeArms
import Derived.DataReads
import Derived.RowKit3
open Bool renaming false→aa,true→Z
open Option renaming none→ae,some→J
set_option linter.defProp false
namespace Go.Am
open Go.Pm
def Acc:=@List.getElem?_cons_zero
variable{H:AH}{b:mu}
def ztd(hw:my H):fu H (H.push b):=⟨C7 _,λid k hk=>by
 have:=hw id k hk;simp only[AH.push]
 rw[az (by omega)];exact hk⟩
def zBm(h:my H):my (H.push b):=by
 intro id k hk;simp only[AH.push]at hk⊢;split at hk
 ·omega
 ·have:=h id k hk;omega
def zxo :(H.push b).b H.n=J b:=by simp[AH.push]
def zsZ{es:Nat}:∀{dh:List (List Value)}(_:∀e,e∈dh->e.length=es) (i:Nat),dh.flatten.drop (i*es)=(dh.drop i).flatten:=by
 intro dh;induction dh with
 |nil=>intro _ i;simp
 |cons a l ih=>
  intro h i;cases i with
  |zero=>simp
  |succ i=>
   have ha:=h a (p9 ..)
   rw[Gt,jZ,Oq,List.drop_append,List.drop_eq_nil_of_le (by omega),mL,Ab4,
    <-ih (λe he=>h e (nU _ he))]
   congr 1;omega
def Tf{es:Nat}:∀{dh:List (List Value)}(_:∀e,e∈dh->e.length=es),dh.flatten.length=dh.length*es:=by
 intro dh;induction dh with
 |nil=>intro _;simp
 |cons a l ih=>
  intro h;rw[Gt,bP,h a (p9 ..),ih (λe he=>h e (nU _ he)),dX,jZ];omega
def RO(H:AH):Prop:=∀id k,H.b id=J k->k.rw=aa
def RO.push{as:List Value}(h:RO H):RO (H.push ⟨aa,as⟩):=by
 intro id k hk;simp only[AH.push]at hk;split at hk
 ·cases hk;rfl
 ·exact h id k hk
def Mu.put(m:Mu)(l:Loc):Mu:=⟨m.n+1,λi=>if i=m.n then l else m.f i⟩
def Mu.UP(m:Mu)(l:Loc):m.le (m.put l):=⟨C7 _,λi hi=>by simp only[Mu.put];rw[az (by omega)]⟩
def zBF{m:Mu}{w:World}{bq off size:Nat}{as:List Value}{cs:Array Value}{e:TypeId}{fz:Nat×Nat}(r:fU m H w)(lI:RO H)(hb:w.heap[bq]? =J (.cells cs e fz))(eA:off+size<=cs.size)
(hl:as.length<=size)(hv:∀i v,as[i]? =J v->∃c,cs[off+i]? =J c/\V m v c):fU (m.put ⟨bq,off,size⟩) (H.push ⟨aa,as⟩) w:=by
 have cV:=m.UP ⟨bq,off,size⟩;refine⟨by simp only[Mu.put,AH.push];rw[r.n],λid k hk=>zBm r.lt id k hk,λid k hk=>?_,λi j bi bj hi hj hne bc=>?_⟩
 ·simp only[AH.push]at hk;split at hk
  ·rename_i e1;cases hk;have:((m.put ⟨bq,off,size⟩).f id)=⟨bq,off,size⟩:=by simp only[Mu.put];rw[aB (by rw[r.n,e1])]
   rw[this];refine⟨cs,e,fz,hb,eA,hl,λh=>(by cases h),λi v hi=>?_⟩;obtain⟨c,h1,h2⟩:=hv i v hi;exact⟨c,h1,h2.mono cV⟩
  ·have hlt:=r.lt id k hk;have:((m.put ⟨bq,off,size⟩).f id)=m.f id:=cV.2 id (by rw[r.n];exact hlt);rw[this];obtain⟨eU,e',fz',h1,h2,h3,h4,h5⟩:=r.cells id k hk;exact⟨eU,e',fz',h1,h2,h3,h4,λi v hi=>by obtain⟨c,a,b⟩:=h5 i v hi;exact⟨c,a,b.mono cV⟩⟩
 ·have:=lI.push (as:=as) i bi hi;rw[this]at bc;cases bc
section
variable {P:Program}{X:Type}{enc:TypeId×Value->X}{W:World}
def Bo(X:Type)(enc:TypeId×Value->X)(P:Program)(W:World)(t:TypeId)(α:Type)(R:AH->List Value->α->DataW X->Prop):Prop:=
 ∀{m:Mu}{H:AH}{ip:Nat}{cs:List Value}{x:DataW X×List MemPlace},fU m H W->RO H->DataW.trod enc P W 0 (λ_=>Z) Z ip t cs=J x->
  ∃m' H' as a,fU m' H' W/\RO H'/\m.le m'/\fu H H'/\Vl m' as cs/\R H' as a x.1
def QX{w:World}{a:Addr}{v:Value}(h:w.cell? a=J v):∃cs e fz,w.heap[a.block]? =J (.cells cs e fz)/\a.spot=ae/\cs[a.off]? =J v:=by
 unfold World.cell? at h;split at h
 ·rename_i cs e fz hb;split at h
  ·cases h
  ·rename_i hs;exact⟨cs,e,fz,hb,by simpa using hs,h⟩
 ·cases h
def zF(a:Addr)(n:Nat):(a.add n).off=a.off+n/\(a.add n).block=a.block:=by
 unfold Addr.add;split
 ·rename_i h;subst h;exact⟨rfl,rfl⟩
 ·exact⟨rfl,rfl⟩
structure SlR {α:Type}(R:AH->List Value->α->DataW X->Prop) (H:AH) (es:Nat) (p:Option Addr) (c:Nat) (dh:List (List Value)) (L:List α) (D:List (DataW X)):Prop where
 s:(p=ae/\c=0)\/∃id k,p=J ⟨id,0,J es⟩/\L.length<=c/\H.b id=J k/\k.cells=dh.flatten
 z:p=ae->L=[]
 es:∀e,e∈dh->e.length=es
 l:dh.length=L.length
 d:D.length=L.length
 e:∀(i:Nat) (y:List Value) (a:α),dh[i]? =J y->L[i]? =J a->∃d,D[i]? =J d/\R H y a d
def zuG{t e:TypeId}{es:Nat}{α:Type}{R:AH->List Value->α->DataW X->Prop}(ht:P.underlying t=J (.slice e))(hc:P.cellsOf e=es)(h0:0<es)
(Vi:∀H H' y a d,R H y a d->fu H H'->R H' y a d)(hr:Bo X enc P W e α R):
 ∀{m:Mu}{H:AH}{ip:Nat}{cs:List Value}{x:DataW X×List MemPlace},fU m H W->RO H->DataW.trod enc P W 0 (λ_=>Z) Z ip t cs=J x->
 ∃m' H' p c dh L D,fU m' H' W/\RO H'/\m.le m'/\fu H H'/\Vl m' [.slice p L.length c] cs/\SlR R H' es p c dh L D/\(x.1=.nil/\D=[]\/∃sp,x.1=.slice D sp):=by
 intro m H ip cs x r lI h;rcases DataW.trod_slice ht h with⟨rfl,rfl⟩|⟨a,len,cap,elems,dD,n,rfl,rfl,rfl,hb,Ol,gD,hlen,sk,A7,_⟩
 ·refine⟨m,H,ae,0,[],[],[],r,lI,m.le_refl,.refl H,.cons (.mH ae) (.nil m),⟨.inl ⟨rfl,rfl⟩,λ_=>rfl,λ_ h=>(by cases h),rfl,rfl,λi y a h=>(by simp at h)⟩,.inl ⟨rfl,rfl⟩⟩
 ·obtain⟨fm,Te⟩:=A7 rfl;rw[hc]at sk Te;by_cases qY:cap=0
  ·subst qY;have:len=0:=by omega
   subst this;have:elems=[]:=mK hlen;subst this;refine⟨m,H,ae,0,[],[],[],r,lI,m.le_refl,.refl H,.cons (.mH _) (.nil m),⟨.inl ⟨rfl,rfl⟩,λ_=>rfl,λ_ h=>(by cases h),rfl,rfl,λi y a h=>(by simp at h)⟩,.inr ⟨_,rfl⟩⟩
  ·
   have Ly:∃eU,W.cells? 0 (a.add ((cap-1)*es)) es=J eU:=by
    by_cases rX:len=cap
    ·have:=sk (cap-1) (by omega);have hlt:cap-1<elems.length:=by omega
     rw[cE hlt]at this;obtain⟨eU,h1,_⟩:=bR.1 this;exact⟨eU,h1⟩
    ·have:=Te (cap-1-len) (by omega);have hlt:cap-1-len<dD.length:=by omega
     rw[cE hlt]at this;obtain⟨eU,h1,_⟩:=bR.1 this;rw[show len+(cap-1-len)=cap-1 by omega]at h1;exact⟨eU,h1⟩
   obtain⟨cl,gR⟩:=Ly;have Abi:=(World.cells?_some gR)
   have Aa9:es-1<cl.length:=by omega
   have Fj:=Abi.2.2 (es-1) (by omega);rw[cE Aa9]at Fj;obtain⟨Xt,ety,fz,OU,_,XC⟩:=QX Fj;rw[(zF _ _).2,(zF _ _).2]at OU;rw[(zF _ _).1,(zF _ _).1]at XC
   have He:(cap-1)*es+es=cap*es:=by
    rw[<-jZ];congr 1;omega
   have eA:a.off+cap*es<=Xt.size:=by
    have:=(AZ.1 XC).1;omega
   have build:∀i,i<=len->∃(m':Mu) (H':AH) (dh:List (List Value)) (L:List α),fU m' H' W/\RO H'/\m.le m'/\fu H H'/\dh.length=i/\L.length=i/\
    (∀(j:Nat) (y:List Value) (b:α),dh[j]? =J y->L[j]? =J b->∃d,(elems.map (·.1))[j]? =J d/\R H' y b d)/\
    (∀(j:Nat) (y:List Value),dh[j]? =J y->y.length=es/\∀(q:Nat) (v:Value),y[q]? =J v->∃c,Xt[a.off+(j*es+q)]? =J c/\V m' v c):=by
    intro i;induction i with
    |zero=>intro _;exact⟨m,H,[],[],r,lI,m.le_refl,.refl H,rfl,rfl,λj y b h=>(by simp at h),λj y h=>(by simp at h)⟩
    |succ i ih=>
     intro hi;obtain⟨m1,H1,dh,L,r1,pC,xX,ext1,l1,l2,hR,hV⟩:=ih (by omega);have he:=sk i (by omega);have hlt:i<elems.length:=by omega
     rw[cE hlt]at he;obtain⟨ci,G5,htr⟩:=bR.1 he;obtain⟨m2,H2,as,b,r2,S9,Ig,ZE,Vd,hRb⟩:=hr r1 pC htr;have Aab:=World.cells?_some G5;have AbA:as.length=es:=by rw[Vd.1];exact Aab.2.1
     refine⟨m2,H2,dh++[as],L++[b],r2,S9,Mu.le_trans xX Ig,ext1.trans ZE,by simp[l1],by simp[l2],λj y c hy hb=>?_,λj y hy=>?_⟩
     ·by_cases hj:j<i
      ·rw[fw (by omega)]at hy hb;obtain⟨d,t9,kG⟩:=hR j y c hy hb;exact⟨d,t9,Vi _ _ _ _ _ kG ZE⟩
      ·rw[fT (by omega)]at hy hb
       have hj0:j-dh.length=0:=by
        have:=(cT.1 hy).1;simp at this;omega
       have j8:j-L.length=0:=by omega
       rw[hj0]at hy;rw[j8]at hb;simp at hy hb;subst hy;subst hb;have yh:j=i:=by omega
       refine⟨_,?_,hRb⟩;rw[yh,Da,cE hlt];rfl
     ·by_cases hj:j<i
      ·rw[fw (by omega)]at hy;obtain⟨h1,h2⟩:=hV j y hy;exact⟨h1,λq v hq=>by obtain⟨c,h3,h4⟩:=h2 q v hq;exact⟨c,h3,h4.mono Ig⟩⟩
      ·rw[fT (by omega)]at hy
       have hj0:j-dh.length=0:=by
        have:=(cT.1 hy).1;simp at this;omega
       rw[hj0]at hy;simp at hy;subst hy;have yh:j=i:=by omega
       subst yh;refine⟨AbA,λq v hq=>?_⟩;obtain⟨c,Fj,oj⟩:=Vd.get hq;have hql:q<es:=by have:=(cT.1 hq).1;omega
       have:=Aab.2.2 q hql;rw[Fj]at this;obtain⟨b1,b2,b3,eI,_,rz⟩:=QX this;rw[(zF _ _).2,(zF _ _).2,OU]at eI;cases eI;rw[(zF _ _).1,(zF _ _).1]at rz;exact⟨c,by rw[<-rz];congr 1;omega,oj⟩
   obtain⟨m1,H1,dh,L,r1,pC,xX,ext1,l1,l2,hR,hV⟩:=build len (cy _)
   have HT:∀y,y∈dh->y.length=es:=by
    intro y hy;obtain⟨j,hj⟩:=Oy hy;exact(hV j y hj).1
   have hfl:dh.flatten.length<=cap*es:=by
    rw[Tf HT,l1];exact gA _ Ol
   have r2:=zBF (as:=dh.flatten) r1 pC OU eA hfl (by
    intro i v hi;have V4:i<dh.flatten.length:=(cT.1 hi).1;rw[Tf HT]at V4;have TX:i/es<dh.length:=Aav (by rw[wb];exact V4);have hdm:i=(i/es)*es+i%es:=by rw[wb];exact(OB i es).symm
    have hq:i%es<es:=mM _ h0;have hd:=zsZ HT (i/es);have cF:(dh.flatten.drop (i/es*es))[i%es]? =J v:=by rw[jd,<-hdm];exact hi
    rw[hd,Ox TX,Gt]at cF;have BQ:=HT _ (e9 TX);rw[fw (by omega)]at cF;obtain⟨c,h1,h2⟩:=(hV (i/es) _ (cE TX)).2 (i%es) v cF
    exact⟨c,by rw[hdm];exact h1,h2⟩)
   have dj:(m1.put ⟨a.block,a.off,cap*es⟩).f m1.n=⟨a.block,a.off,cap*es⟩:=by simp[Mu.put]
   have AaL:a=⟨a.block,a.off,ae⟩:=by
    have Aa8:∃eU,W.cells? 0 (a.add (0*es)) es=J eU:=by
     by_cases rX:len=0
     ·have:=Te 0 (by omega);have hlt:0<dD.length:=by omega
      rw[cE hlt]at this;obtain⟨eU,h1,_⟩:=bR.1 this;rw[show len+0=0 by omega]at h1;exact⟨eU,h1⟩
     ·have:=sk 0 (by omega);have hlt:0<elems.length:=by omega
      rw[cE hlt]at this;obtain⟨eU,h1,_⟩:=bR.1 this;exact⟨eU,h1⟩
    obtain⟨cf,hcf⟩:=Aa8;have AbP:=World.cells?_some hcf;have h3:=AbP.2.2 0 h0;have h4:0<cf.length:=by omega
    rw[cE h4]at h3;have e0:(a.add (0*es)).add 0=a:=by simp[Addr.add]
    rw[e0]at h3;obtain⟨_,_,_,_,hs,_⟩:=QX h3;obtain⟨b1,b2,b3⟩:=a;simp at hs;subst hs;rfl
   refine⟨_,_,J ⟨H1.n,0,J es⟩,len,dh,L,elems.map (·.1),r2,pC.push,Mu.le_trans xX (Mu.UP _ _),ext1.trans (ztd r1.lt),.cons ?_ (.nil _),⟨.inr ⟨H1.n,⟨aa,dh.flatten⟩,rfl,by omega,zxo,rfl⟩,λh=>(by cases h),HT,by rw[l1,l2],by simp[l2,hlen],λj y b hy hb=>?_⟩,.inr ⟨_,rfl⟩⟩
   ·have:=V.slice (m:=m1.put ⟨a.block,a.off,cap*es⟩) (id:=m1.n) (off:=0) (es:=es) (n:=L.length) (c:=len) (o:=a.off) (cap:=cap) (by simp[Mu.put]) (by omega) Ol (λ_=>by rw[dj];rfl) (by rw[dj];simp);rw[dj]at this;rw[<-r1.n,AaL];rw[l2]at this⊢;exact this
   ·obtain⟨d,h1,h2⟩:=hR j y b hy hb;exact⟨d,h1,Vi _ _ _ _ _ h2 (ztd r1.lt)⟩
def X6{m:Mu}{H:AH}{w':World}(lI:RO H)(hk:GE m H W w'):∀b,b<W.heap.size->w'.heap[b]? =W.heap[b]? :=
 λb hb=>hk.2.1 b hb λid k hi bc=>by rw[lI id k hi]at bc;cases bc
def zrB{m:Mu}{H:AH}{w':World}(lI:RO H)(hk:GE m H W w'):W.keptBut w' (λ_=>False):=by
 have hs:=X6 lI hk;refine⟨hk.2.2.os.1,hk.2.2.os.2,λi hi=>?_⟩;rw[hs i hi];split
 ·exact⟨by simp_all,by simp_all,by simp_all,λj _=>by simp_all⟩
 ·rename_i h1 h2;rw[h1]at h2;cases h2;exact .inr ⟨rfl,rfl⟩
 ·rfl
def zzB:fU ⟨0,λ_=>⟨0,0,0⟩⟩ ⟨0,λ_=>ae⟩ W:=
 ⟨rfl,λ_ _ h=>(by cases h),λ_ _ h=>(by cases h),λ_ _ _ _ h=>(by cases h)⟩
def zAK:RO ⟨0,λ_=>ae⟩:=λ_ _ h=>(by cases h)
end
end Go.Am
namespace Go.Pm
open Go.Am
structure ec (α:Type) where
 pc:α->List PV
 bk:α->Nat
 ok:α->Prop
def ec.int(k:IntKind):ec Int:=⟨λn=>[.int k n],λ_=>1,λn=>(Lit.int k n).wf=Z⟩
def ec.bool:ec Bool:=⟨λn=>[.bool n],λ_=>1,λ_=>True⟩
def ec.str:ec ByteArray:=⟨λn=>[.str n],λs=>s.size+1,λ_=>True⟩
def jO:List Nat->Nat
 |[]=>0
 |x::l=>x+jO l
def ec.sl{α:Type}(es:Nat)(s:ec α):ec (List α):=⟨λl=>[.sl aa es (l.map s.pc)],λl=>1+jO (l.map s.bk),λl=>∀x,x∈l->s.ok x⟩
variable{H:AH}
def zBA{α:Type}{f:α->Nat}{L:List α}{a:α}(h:a∈L):f a<=jO (L.map f):=by
 induction L with
 |nil=>cases h
 |cons x L ih=>
  simp only[jD,jO];cases fK.1 h with
  |inl e=>subst e;omega
  |inr e=>have:=ih e;omega
def SW{α:Type}{f:α->Nat}(hf:∀a,1<=f a)(L:List α):L.length<=jO (L.map f):=by
 induction L with
 |nil=>exact Ky _
 |cons x L ih=>have:=hf x;simp only[jD,jO,dX];omega
def ec.nil:ec Unit:=⟨λ_=>[],λ_=>0,λ_=>True⟩
def ec.cons{α β:Type}(a:ec α)(b:ec β):ec (α×β):=⟨λx=>a.pc x.1++b.pc x.2,λx=>a.bk x.1+b.bk x.2,λx=>a.ok x.1/\b.ok x.2⟩
def ec.st{α β:Type}(a:ec α)(f:β->α):ec β:=⟨λx=>a.pc (f x),λx=>1+a.bk (f x),λx=>a.ok (f x)⟩
def nK(H:AH):Env:=⟨H,λid=>(H.b id).isSome=Z,λ_=>ae⟩
def zDo(h:my H):ej (nK H):=⟨h,λid bY=>⟨rfl,λhg=>by
 cases hb:H.b id with
 |none=>simp[nK,hb]at hg
 |some k=>
  have:=h id k hb;have bY:H.n<=id:=bY
  omega⟩⟩
def zCQ{H':AH}(h:fu H H'):GK (nK H) (nK H'):=λid hg=>by
 cases hb:H.b id with
 |none=>simp[nK,hb]at hg
 |some k=>
  refine⟨by simp[nK,h.2 id k hb],λk' hk'=>⟨k',?_,rfl⟩⟩;exact h.2 id k' hk'
def Wd{H':AH}(h:fu H H'){x:PV}{v:Value}(hx:PR (nK H) ae x v):PR (nK H') ae x v:=hx.move (zCQ h) (l':=ae) True.intro
section
variable {P:Program}{X:Type}{enc:TypeId×Value->X}{W:World}{α β:Type}
def CR(s:ec α)(ub:DataW X->Nat)(H:AH)(as:List Value)(a:α)(d:DataW X):Prop:=
 (as.length=(s.pc a).length/\(s.bk a<=4611686018427387904->∀(j:Nat) (x:PV) (y:Value),(s.pc a)[j]? =J x->as[j]? =J y->PR (nK H) ae x y))/\s.ok a/\s.bk a<=ub d
def CR.mono{s:ec α}{ub:DataW X->Nat}(H H':AH)(y:List Value)(a:α)(d:DataW X)(h:CR s ub H y a d)(he:fu H H'):CR s ub H' y a d:=
 ⟨⟨h.1.1,λhb j x y h1 h2=>Wd he (h.1.2 hb j x y h1 h2)⟩,h.2⟩
structure Ub (ub:DataW X->Nat):Prop where
 one:∀d,1<=ub d
 sl:∀D sp,1+jO (D.map ub)<=ub (.slice D sp)
 agg:∀D,1+jO (D.map ub)<=ub (.agg D)
 str:∀(s:List UInt8),s.length+1<=ub (.lit (.string s))
variable {ub:DataW X->Nat}
def zCK{t:TypeId}{k:IntKind}(hu:Ub ub)(ht:P.underlying t=J (.int k)):Bo X enc P W t Int (CR (ec.int k) ub):=by
 intro m H ip cs x r lI h;obtain⟨n,rfl,rfl,hw⟩:=DataW.trod_int ht h;refine⟨m,H,[.int k n],n,r,lI,m.le_refl,.refl H,.cons (.int k n) (.nil m),⟨rfl,λ_ j x y h1 h2=>?_⟩,hw,hu.one _⟩;cases j with
 |zero=>simp[ec.int]at h1 h2;subst h1;subst h2;exact .int k n
 |succ j=>simp[ec.int]at h1
def zC9{s:ec α}{L:List α}{D:List (DataW X)}(hl:D.length=L.length)(h:∀(i:Nat) (a:α),L[i]? =J a->∃d,D[i]? =J d/\s.bk a<=ub d):jO (L.map s.bk)<=jO (D.map ub):=by
 induction L generalizing D with
 |nil=>exact Ky _
 |cons a L ih=>
  cases D with
  |nil=>simp at hl
  |cons d D=>
   obtain⟨d',h1,h2⟩:=h 0 a rfl;simp at h1;subst h1
   have:=ih (D:=D) (by simpa using hl) λi b hb=>by
    obtain⟨d',h1,h2⟩:=h (i+1) b (by simpa using hb);exact⟨d',by simpa using h1,h2⟩
   simp only[jD,jO];omega
def zFB{t e:TypeId}{es:Nat}{s:ec α}(hu:Ub ub)(ht:P.underlying t=J (.slice e))(hc:P.cellsOf e=es)(h0:0<es)(hs:∀a,(s.pc a).length=es)(eI:∀a,1<=s.bk a)(hr:Bo X enc P W e α (CR s ub)):Bo X enc P W t (List α) (CR (ec.sl es s) ub):=by
 intro m H ip cs x r lI h;obtain⟨m1,H1,p,c,dh,L,D,r1,pC,xX,ext1,hv1,hS,hd⟩:=zuG ht hc h0 CR.mono hr r lI h;refine⟨m1,H1,_,L,r1,pC,xX,ext1,hv1,⟨rfl,λGT j x y h1 h2=>?_⟩,λa ha=>?_,?_⟩
 ·cases j with
  |succ j=>simp[ec.sl]at h1
  |zero=>
   simp only[ec.sl,Acc,aT]at h1 h2;subst h1;subst h2;have GT:1+jO (L.map s.bk)<=4611686018427387904:=GT;have hlm:L.length<=j3:=by have:=SW eI L;unfold j3;omega
   rcases hS.s with⟨rfl,rfl⟩|⟨id,k,rfl,Ol,hb,dQ⟩
   ·have:=hS.z rfl;subst this;exact .sl0 aa es
   ·refine .jI (off:=0) (k:=k) (by simp[nK,hb]) hb (by simp) Ol hlm (λrw bc=>?_) ⟨by omega,?_⟩ λi rw j x y g1 g2 g3=>?_
    ·obtain⟨a,_,rfl⟩:=jE.1 bc;exact hs a
    ·rw[dQ,Tf hS.es,hS.l];omega
    ·rw[Da]at g1;cases ha:L[i]? with
     |none=>rw[ha]at g1;cases g1
     |some a=>
      rw[ha]at g1;simp only[l9,aT]at g1;subst g1;have hi:i<dh.length:=by rw[hS.l];exact(cT.1 ha).1
      obtain⟨d,_,hR⟩:=hS.e i _ a (cE hi) ha;have hj:j<es:=by rw[<-hs a];exact(cT.1 g2).1
      rw[gk,dQ,KJ hS.es (cE hi) hj]at g3;exact hR.1.2 (by have:=zBA (f:=s.bk) (eo ha);omega) j x y g2 g3
 ·obtain⟨i,hi⟩:=Oy ha;have hlt:i<dh.length:=by rw[hS.l];exact(cT.1 hi).1
  obtain⟨d,_,hR⟩:=hS.e i _ a (cE hlt) hi;exact hR.2.1
 ·rcases hd with⟨e1,e2⟩|⟨sp,e1⟩
  ·have hD:=hS.d;subst e2;have:L=[]:=mK (by simpa using hD.symm);subst this;exact hu.one _
  ·rw[e1];have h1:=hu.sl D sp
   have h2:=zC9 (s:=s) (ub:=ub) (L:=L) (D:=D) hS.d λi a ha=>by
    have hlt:i<dh.length:=by rw[hS.l];exact(cT.1 ha).1
    obtain⟨d,h1,hR⟩:=hS.e i _ a (cE hlt) ha;exact⟨d,h1,hR.2.2⟩
   show 1+jO (L.map s.bk)<=_;omega
def zDi(X:Type)(enc:TypeId×Value->X)(P:Program)(W:World)(ip:Nat):List (TypeId×Nat)->List Value->List (DataW X×List MemPlace)->Prop
 |[],cs,xs=>cs=[]/\xs=[]
 |f::fs,cs,xs=>∃x uf,xs=x::uf/\(cs.take f.2).length=f.2/\DataW.trod enc P W 0 (λ_=>Z) Z ip f.1 (cs.take f.2)=J x/\zDi X enc P W ip fs (cs.drop f.2) uf
def zR3(X:Type)(enc:TypeId×Value->X)(P:Program)(W:World)(fs:List (TypeId×Nat))(α:Type)(s:ec α)(ub:DataW X->Nat):Prop:=
 ∀{m:Mu}{H:AH}{ip:Nat}{cs:List Value}{xs:List (DataW X×List MemPlace)},fU m H W->RO H->zDi X enc P W ip fs cs xs->
  ∃m' H' as a,fU m' H' W/\RO H'/\m.le m'/\fu H H'/\Vl m' as cs/\(as.length=(s.pc a).length/\(s.bk a<=4611686018427387904->∀(j:Nat) (x:PV) (y:Value),(s.pc a)[j]? =J x->as[j]? =J y->PR (nK H') ae x y))/\s.ok a/\s.bk a<=jO (xs.map λx=>ub x.1)
end
end Go.Pm
