import Derived.Test.YtnojafnlicbhpaaGreatPmW
import Derived.ChangeSlices
import Derived.ChangeArms
import Derived.DataReads
import Derived.RowKit3
open Bool renaming false→aa,true→Z
open Option renaming none→ae,some→J
set_option linter.defProp false
namespace Go.Am
open Go.Pm
def a2h:=@List.getElem?_cons_zero
variable{H:AH}{b:mi}
def Zj(hw:mJ H):ft H (H.push b):=⟨C8 _,λid k hk=>by
 have:=hw id k hk;simp only[AH.push]
 rw[az (by omega)];exact hk⟩
def zA7(h:mJ H):mJ (H.push b):=by
 intro id k hk;simp only[AH.push]at hk⊢;split at hk
 ·omega
 ·have:=h id k hk;omega
def zxh :(H.push b).b H.n=J b:=by simp[AH.push]
def ztk{es:Nat}:∀{db:List (List Value)}(_:∀e,e∈db->e.length=es) (i:Nat),db.flatten.drop (i*es)=(db.drop i).flatten:=by
 intro db;induction db with
 |nil=>intro _ i;simp
 |cons a l ih=>
  intro h i;cases i with
  |zero=>simp
  |succ i=>
   have ha:=h a (qc ..)
   rw[Gv,jZ,Ox,List.drop_append,List.drop_eq_nil_of_le (by omega),mM,a19,
    <-ih (λe he=>h e (nV _ he))]
   congr 1;omega
def TH{es:Nat}:∀{db:List (List Value)}(_:∀e,e∈db->e.length=es),db.flatten.length=db.length*es:=by
 intro db;induction db with
 |nil=>intro _;simp
 |cons a l ih=>
  intro h;rw[Gv,bP,h a (qc ..),ih (λe he=>h e (nV _ he)),dX,jZ];omega
def RO(H:AH):Prop:=∀id k,H.b id=J k->k.rw=aa
def RO.push{as:List Value}(h:RO H):RO (H.push ⟨aa,as⟩):=by
 intro id k hk;simp only[AH.push]at hk;split at hk
 ·cases hk;rfl
 ·exact h id k hk
def Mu.put(m:Mu)(l:Loc):Mu:=⟨m.n+1,λi=>if i=m.n then l else m.f i⟩
def Mu.YU(m:Mu)(l:Loc):m.le (m.put l):=⟨C8 _,λi hi=>by simp only[Mu.put];rw[az (by omega)]⟩
def zBL{m:Mu}{w:World}{bq off size:Nat}{as:List Value}{cs:Array Value}{e:TypeId}{fz:Nat×Nat}(r:fW m H w)(l4:RO H)(hb:w.heap[bq]? =J (.cells cs e fz))(ey:off+size<=cs.size)
(hl:as.length<=size)(hv:∀i v,as[i]? =J v->∃c,cs[off+i]? =J c/\V m v c):fW (m.put ⟨bq,off,size⟩) (H.push ⟨aa,as⟩) w:=by
 have cV:=m.YU ⟨bq,off,size⟩;refine⟨by simp only[Mu.put,AH.push];rw[r.n],λid k hk=>zA7 r.lt id k hk,λid k hk=>?_,λi j bi bj hi hj hne bc=>?_⟩
 ·simp only[AH.push]at hk;split at hk
  ·rename_i e1;cases hk;have:((m.put ⟨bq,off,size⟩).f id)=⟨bq,off,size⟩:=by simp only[Mu.put];rw[aB (by rw[r.n,e1])]
   rw[this];refine⟨cs,e,fz,hb,ey,hl,λh=>(by cases h),λi v hi=>?_⟩;obtain⟨c,h1,h2⟩:=hv i v hi;exact⟨c,h1,h2.mono cV⟩
  ·have hlt:=r.lt id k hk;have:((m.put ⟨bq,off,size⟩).f id)=m.f id:=cV.2 id (by rw[r.n];exact hlt);rw[this];obtain⟨eQ,e',fz',h1,h2,h3,h4,h5⟩:=r.cells id k hk;exact⟨eQ,e',fz',h1,h2,h3,h4,λi v hi=>by obtain⟨c,a,b⟩:=h5 i v hi;exact⟨c,a,b.mono cV⟩⟩
 ·have:=l4.push (as:=as) i bi hi;rw[this]at bc;cases bc
section
variable {P:Program}{X:Type}{enc:TypeId×Value->X}{W:World}
def C3(X:Type)(enc:TypeId×Value->X)(P:Program)(W:World)(t:TypeId)(α:Type)(R:AH->List Value->α->DataW X->Prop):Prop:=
 ∀{m:Mu}{H:AH}{ir:Nat}{cs:List Value}{x:DataW X×List MemPlace},fW m H W->RO H->DataW.trod enc P W 0 (λ_=>Z) Z ir t cs=J x->
  ∃m' H' as a,fW m' H' W/\RO H'/\m.le m'/\ft H H'/\Vl m' as cs/\R H' as a x.1
def PZ{w:World}{a:Addr}{v:Value}(h:w.cell? a=J v):∃cs e fz,w.heap[a.block]? =J (.cells cs e fz)/\a.spot=ae/\cs[a.off]? =J v:=by
 unfold World.cell? at h;split at h
 ·rename_i cs e fz hb;split at h
  ·cases h
  ·rename_i hs;exact⟨cs,e,fz,hb,by simpa using hs,h⟩
 ·cases h
def Az(a:Addr)(n:Nat):(a.add n).off=a.off+n/\(a.add n).block=a.block:=by
 unfold Addr.add;split
 ·rename_i h;subst h;exact⟨rfl,rfl⟩
 ·exact⟨rfl,rfl⟩
structure SlR {α:Type}(R:AH->List Value->α->DataW X->Prop) (H:AH) (es:Nat) (p:Option Addr) (c:Nat) (db:List (List Value)) (L:List α) (D:List (DataW X)):Prop where
 s:(p=ae/\c=0)\/∃id k,p=J ⟨id,0,J es⟩/\L.length<=c/\H.b id=J k/\k.cells=db.flatten
 z:p=ae->L=[]
 es:∀e,e∈db->e.length=es
 l:db.length=L.length
 d:D.length=L.length
 e:∀(i:Nat) (y:List Value) (a:α),db[i]? =J y->L[i]? =J a->∃d,D[i]? =J d/\R H y a d
def zuy{t e:TypeId}{es:Nat}{α:Type}{R:AH->List Value->α->DataW X->Prop}(ht:P.underlying t=J (.slice e))(hc:P.cellsOf e=es)(h0:0<es)
(Wh:∀H H' y a d,R H y a d->ft H H'->R H' y a d)(hr:C3 X enc P W e α R):
 ∀{m:Mu}{H:AH}{ir:Nat}{cs:List Value}{x:DataW X×List MemPlace},fW m H W->RO H->DataW.trod enc P W 0 (λ_=>Z) Z ir t cs=J x->
 ∃m' H' p c db L D,fW m' H' W/\RO H'/\m.le m'/\ft H H'/\Vl m' [.slice p L.length c] cs/\SlR R H' es p c db L D/\(x.1=.nil/\D=[]\/∃sp,x.1=.slice D sp):=by
 intro m H ir cs x r l4 h;rcases DataW.trod_slice ht h with⟨rfl,rfl⟩|⟨a,len,cap,elems,dF,n,rfl,rfl,rfl,hb,NT,gE,hlen,rB,Bo,_⟩
 ·refine⟨m,H,ae,0,[],[],[],r,l4,m.le_refl,.refl H,.cons (.mf ae) (.nil m),⟨.inl ⟨rfl,rfl⟩,λ_=>rfl,λ_ h=>(by cases h),rfl,rfl,λi y a h=>(by simp at h)⟩,.inl ⟨rfl,rfl⟩⟩
 ·obtain⟨fj,Sa⟩:=Bo rfl;rw[hc]at rB Sa;by_cases qm:cap=0
  ·subst qm;have:len=0:=by omega
   subst this;have:elems=[]:=mL hlen;subst this;refine⟨m,H,ae,0,[],[],[],r,l4,m.le_refl,.refl H,.cons (.mf _) (.nil m),⟨.inl ⟨rfl,rfl⟩,λ_=>rfl,λ_ h=>(by cases h),rfl,rfl,λi y a h=>(by simp at h)⟩,.inr ⟨_,rfl⟩⟩
  ·
   have NJ:∃eQ,W.cells? 0 (a.add ((cap-1)*es)) es=J eQ:=by
    by_cases ry:len=cap
    ·have:=rB (cap-1) (by omega);have hlt:cap-1<elems.length:=by omega
     rw[cE hlt]at this;obtain⟨eQ,h1,_⟩:=bR.1 this;exact⟨eQ,h1⟩
    ·have:=Sa (cap-1-len) (by omega);have hlt:cap-1-len<dF.length:=by omega
     rw[cE hlt]at this;obtain⟨eQ,h1,_⟩:=bR.1 this;rw[show len+(cap-1-len)=cap-1 by omega]at h1;exact⟨eQ,h1⟩
   obtain⟨cl,gQ⟩:=NJ;have a0Y:=(World.cells?_some gQ)
   have a1D:es-1<cl.length:=by omega
   have DM:=a0Y.2.2 (es-1) (by omega);rw[cE a1D]at DM;obtain⟨a0j,ety,fz,TW,_,ZD⟩:=PZ DM;rw[(Az _ _).2,(Az _ _).2]at TW;rw[(Az _ _).1,(Az _ _).1]at ZD
   have IV:(cap-1)*es+es=cap*es:=by
    rw[<-jZ];congr 1;omega
   have ey:a.off+cap*es<=a0j.size:=by
    have:=(A0.1 ZD).1;omega
   have build:∀i,i<=len->∃(m':Mu) (H':AH) (db:List (List Value)) (L:List α),fW m' H' W/\RO H'/\m.le m'/\ft H H'/\db.length=i/\L.length=i/\
    (∀(j:Nat) (y:List Value) (b:α),db[j]? =J y->L[j]? =J b->∃d,(elems.map (·.1))[j]? =J d/\R H' y b d)/\
    (∀(j:Nat) (y:List Value),db[j]? =J y->y.length=es/\∀(q:Nat) (v:Value),y[q]? =J v->∃c,a0j[a.off+(j*es+q)]? =J c/\V m' v c):=by
    intro i;induction i with
    |zero=>intro _;exact⟨m,H,[],[],r,l4,m.le_refl,.refl H,rfl,rfl,λj y b h=>(by simp at h),λj y h=>(by simp at h)⟩
    |succ i ih=>
     intro hi;obtain⟨m1,H1,db,L,r1,pN,xL,ext1,l1,l2,hR,hV⟩:=ih (by omega);have he:=rB i (by omega);have hlt:i<elems.length:=by omega
     rw[cE hlt]at he;obtain⟨ci,HL,htr⟩:=bR.1 he;obtain⟨m2,H2,as,b,r2,Sq,G8,YQ,Ys,hRb⟩:=hr r1 pN htr;have Y3:=World.cells?_some HL;have a1K:as.length=es:=by rw[Ys.1];exact Y3.2.1
     refine⟨m2,H2,db++[as],L++[b],r2,Sq,Mu.le_trans xL G8,ext1.trans YQ,by simp[l1],by simp[l2],λj y c hy hb=>?_,λj y hy=>?_⟩
     ·by_cases hj:j<i
      ·rw[fw (by omega)]at hy hb;obtain⟨d,vu,ku⟩:=hR j y c hy hb;exact⟨d,vu,Wh _ _ _ _ _ ku YQ⟩
      ·rw[fT (by omega)]at hy hb
       have hj0:j-db.length=0:=by
        have:=(cT.1 hy).1;simp at this;omega
       have kg:j-L.length=0:=by omega
       rw[hj0]at hy;rw[kg]at hb;simp at hy hb;subst hy;subst hb;have ym:j=i:=by omega
       refine⟨_,?_,hRb⟩;rw[ym,Db,cE hlt];rfl
     ·by_cases hj:j<i
      ·rw[fw (by omega)]at hy;obtain⟨h1,h2⟩:=hV j y hy;exact⟨h1,λq v hq=>by obtain⟨c,h3,h4⟩:=h2 q v hq;exact⟨c,h3,h4.mono G8⟩⟩
      ·rw[fT (by omega)]at hy
       have hj0:j-db.length=0:=by
        have:=(cT.1 hy).1;simp at this;omega
       rw[hj0]at hy;simp at hy;subst hy;have ym:j=i:=by omega
       subst ym;refine⟨a1K,λq v hq=>?_⟩;obtain⟨c,DM,oa⟩:=Ys.get hq;have hql:q<es:=by have:=(cT.1 hq).1;omega
       have:=Y3.2.2 q hql;rw[DM]at this;obtain⟨b1,b2,b3,eJ,_,rS⟩:=PZ this;rw[(Az _ _).2,(Az _ _).2,TW]at eJ;cases eJ;rw[(Az _ _).1,(Az _ _).1]at rS;exact⟨c,by rw[<-rS];congr 1;omega,oa⟩
   obtain⟨m1,H1,db,L,r1,pN,xL,ext1,l1,l2,hR,hV⟩:=build len (cy _)
   have GJ:∀y,y∈db->y.length=es:=by
    intro y hy;obtain⟨j,hj⟩:=OE hy;exact(hV j y hj).1
   have hfl:db.flatten.length<=cap*es:=by
    rw[TH GJ,l1];exact gA _ NT
   have r2:=zBL (as:=db.flatten) r1 pN TW ey hfl (by
    intro i v hi;have XN:i<db.flatten.length:=(cT.1 hi).1;rw[TH GJ]at XN;have Qi:i/es<db.length:=a0y (by rw[wc];exact XN);have hdm:i=(i/es)*es+i%es:=by rw[wc];exact(OI i es).symm
    have hq:i%es<es:=mN _ h0;have hd:=ztk GJ (i/es);have cF:(db.flatten.drop (i/es*es))[i%es]? =J v:=by rw[jd,<-hdm];exact hi
    rw[hd,OD Qi,Gv]at cF;have BP:=GJ _ (e9 Qi);rw[fw (by omega)]at cF;obtain⟨c,h1,h2⟩:=(hV (i/es) _ (cE Qi)).2 (i%es) v cF
    exact⟨c,by rw[hdm];exact h1,h2⟩)
   have dn:(m1.put ⟨a.block,a.off,cap*es⟩).f m1.n=⟨a.block,a.off,cap*es⟩:=by simp[Mu.put]
   have a1S:a=⟨a.block,a.off,ae⟩:=by
    have a1R:∃eQ,W.cells? 0 (a.add (0*es)) es=J eQ:=by
     by_cases ry:len=0
     ·have:=Sa 0 (by omega);have hlt:0<dF.length:=by omega
      rw[cE hlt]at this;obtain⟨eQ,h1,_⟩:=bR.1 this;rw[show len+0=0 by omega]at h1;exact⟨eQ,h1⟩
     ·have:=rB 0 (by omega);have hlt:0<elems.length:=by omega
      rw[cE hlt]at this;obtain⟨eQ,h1,_⟩:=bR.1 this;exact⟨eQ,h1⟩
    obtain⟨cf,hcf⟩:=a1R;have a09:=World.cells?_some hcf;have h3:=a09.2.2 0 h0;have h4:0<cf.length:=by omega
    rw[cE h4]at h3;have e0:(a.add (0*es)).add 0=a:=by simp[Addr.add]
    rw[e0]at h3;obtain⟨_,_,_,_,hs,_⟩:=PZ h3;obtain⟨b1,b2,b3⟩:=a;simp at hs;subst hs;rfl
   refine⟨_,_,J ⟨H1.n,0,J es⟩,len,db,L,elems.map (·.1),r2,pN.push,Mu.le_trans xL (Mu.YU _ _),ext1.trans (Zj r1.lt),.cons ?_ (.nil _),⟨.inr ⟨H1.n,⟨aa,db.flatten⟩,rfl,by omega,zxh,rfl⟩,λh=>(by cases h),GJ,by rw[l1,l2],by simp[l2,hlen],λj y b hy hb=>?_⟩,.inr ⟨_,rfl⟩⟩
   ·have:=V.slice (m:=m1.put ⟨a.block,a.off,cap*es⟩) (id:=m1.n) (off:=0) (es:=es) (n:=L.length) (c:=len) (o:=a.off) (cap:=cap) (by simp[Mu.put]) (by omega) NT (λ_=>by rw[dn];rfl) (by rw[dn];simp);rw[dn]at this;rw[<-r1.n,a1S];rw[l2]at this⊢;exact this
   ·obtain⟨d,h1,h2⟩:=hR j y b hy hb;exact⟨d,h1,Wh _ _ _ _ _ h2 (Zj r1.lt)⟩
def Wu{m:Mu}{H:AH}{w':World}(l4:RO H)(hk:JZ m H W w'):∀b,b<W.heap.size->w'.heap[b]? =W.heap[b]? :=
 λb hb=>hk.2.1 b hb λid k hi bc=>by rw[l4 id k hi]at bc;cases bc
def zrJ{m:Mu}{H:AH}{w':World}(l4:RO H)(hk:JZ m H W w'):W.keptBut w' (λ_=>False):=by
 have hs:=Wu l4 hk;refine⟨hk.2.2.os.1,hk.2.2.os.2,λi hi=>?_⟩;rw[hs i hi];split
 ·exact⟨by simp_all,by simp_all,by simp_all,λj _=>by simp_all⟩
 ·rename_i h1 h2;rw[h1]at h2;cases h2;exact .inr ⟨rfl,rfl⟩
 ·rfl
def zyO:fW ⟨0,λ_=>⟨0,0,0⟩⟩ ⟨0,λ_=>ae⟩ W:=
 ⟨rfl,λ_ _ h=>(by cases h),λ_ _ h=>(by cases h),λ_ _ _ _ h=>(by cases h)⟩
def zBV:RO ⟨0,λ_=>ae⟩:=λ_ _ h=>(by cases h)
end
end Go.Am
namespace Go.Pm
open Go.Am
structure eb (α:Type) where
 pc:α->List PV
 bk:α->Nat
 ok:α->Prop
def eb.int(k:IntKind):eb Int:=⟨λn=>[.int k n],λ_=>1,λn=>(Lit.int k n).wf=Z⟩
def eb.bool:eb Bool:=⟨λn=>[.bool n],λ_=>1,λ_=>True⟩
def eb.str:eb ByteArray:=⟨λn=>[.str n],λs=>s.size+1,λ_=>True⟩
def jL:List Nat->Nat
 |[]=>0
 |x::l=>x+jL l
def eb.sl{α:Type}(es:Nat)(s:eb α):eb (List α):=⟨λl=>[.sl aa es (l.map s.pc)],λl=>1+jL (l.map s.bk),λl=>∀x,x∈l->s.ok x⟩
variable{H:AH}
def zAZ{α:Type}{f:α->Nat}{L:List α}{a:α}(h:a∈L):f a<=jL (L.map f):=by
 induction L with
 |nil=>cases h
 |cons x L ih=>
  simp only[jD,jL];cases fK.1 h with
  |inl e=>subst e;omega
  |inr e=>have:=ih e;omega
def OW{α:Type}{f:α->Nat}(hf:∀a,1<=f a)(L:List α):L.length<=jL (L.map f):=by
 induction L with
 |nil=>exact KB _
 |cons x L ih=>have:=hf x;simp only[jD,jL,dX];omega
def eb.nil:eb Unit:=⟨λ_=>[],λ_=>0,λ_=>True⟩
def eb.cons{α β:Type}(a:eb α)(b:eb β):eb (α×β):=⟨λx=>a.pc x.1++b.pc x.2,λx=>a.bk x.1+b.bk x.2,λx=>a.ok x.1/\b.ok x.2⟩
def eb.st{α β:Type}(a:eb α)(f:β->α):eb β:=⟨λx=>a.pc (f x),λx=>1+a.bk (f x),λx=>a.ok (f x)⟩
def nM(H:AH):Env:=⟨H,λid=>(H.b id).isSome=Z,λ_=>ae⟩
def zCz(h:mJ H):d7 (nM H):=⟨h,λid bY=>⟨rfl,λhg=>by
 cases hb:H.b id with
 |none=>simp[nM,hb]at hg
 |some k=>
  have:=h id k hb;have bY:H.n<=id:=bY
  omega⟩⟩
def zDt{H':AH}(h:ft H H'):GK (nM H) (nM H'):=λid hg=>by
 cases hb:H.b id with
 |none=>simp[nM,hb]at hg
 |some k=>
  refine⟨by simp[nM,h.2 id k hb],λk' hk'=>⟨k',?_,rfl⟩⟩;exact h.2 id k' hk'
def YW{H':AH}(h:ft H H'){x:PV}{v:Value}(hx:PR (nM H) ae x v):PR (nM H') ae x v:=hx.move (zDt h) (l':=ae) True.intro
section
variable {P:Program}{X:Type}{enc:TypeId×Value->X}{W:World}{α β:Type}
def CR(s:eb α)(ub:DataW X->Nat)(H:AH)(as:List Value)(a:α)(d:DataW X):Prop:=
 (as.length=(s.pc a).length/\(s.bk a<=4611686018427387904->∀(j:Nat) (x:PV) (y:Value),(s.pc a)[j]? =J x->as[j]? =J y->PR (nM H) ae x y))/\s.ok a/\s.bk a<=ub d
def CR.mono{s:eb α}{ub:DataW X->Nat}(H H':AH)(y:List Value)(a:α)(d:DataW X)(h:CR s ub H y a d)(he:ft H H'):CR s ub H' y a d:=
 ⟨⟨h.1.1,λhb j x y h1 h2=>YW he (h.1.2 hb j x y h1 h2)⟩,h.2⟩
structure Ub (ub:DataW X->Nat):Prop where
 one:∀d,1<=ub d
 sl:∀D sp,1+jL (D.map ub)<=ub (.slice D sp)
 agg:∀D,1+jL (D.map ub)<=ub (.agg D)
 str:∀(s:List UInt8),s.length+1<=ub (.lit (.string s))
variable {ub:DataW X->Nat}
def zDc{t:TypeId}{k:IntKind}(hu:Ub ub)(ht:P.underlying t=J (.int k)):C3 X enc P W t Int (CR (eb.int k) ub):=by
 intro m H ir cs x r l4 h;obtain⟨n,rfl,rfl,hw⟩:=DataW.trod_int ht h;refine⟨m,H,[.int k n],n,r,l4,m.le_refl,.refl H,.cons (.int k n) (.nil m),⟨rfl,λ_ j x y h1 h2=>?_⟩,hw,hu.one _⟩;cases j with
 |zero=>simp[eb.int]at h1 h2;subst h1;subst h2;exact .int k n
 |succ j=>simp[eb.int]at h1
def zDx{s:eb α}{L:List α}{D:List (DataW X)}(hl:D.length=L.length)(h:∀(i:Nat) (a:α),L[i]? =J a->∃d,D[i]? =J d/\s.bk a<=ub d):jL (L.map s.bk)<=jL (D.map ub):=by
 induction L generalizing D with
 |nil=>exact KB _
 |cons a L ih=>
  cases D with
  |nil=>simp at hl
  |cons d D=>
   obtain⟨d',h1,h2⟩:=h 0 a rfl;simp at h1;subst h1
   have:=ih (D:=D) (by simpa using hl) λi b hb=>by
    obtain⟨d',h1,h2⟩:=h (i+1) b (by simpa using hb);exact⟨d',by simpa using h1,h2⟩
   simp only[jD,jL];omega
def zEv{t e:TypeId}{es:Nat}{s:eb α}(hu:Ub ub)(ht:P.underlying t=J (.slice e))(hc:P.cellsOf e=es)(h0:0<es)(hs:∀a,(s.pc a).length=es)(eJ:∀a,1<=s.bk a)(hr:C3 X enc P W e α (CR s ub)):C3 X enc P W t (List α) (CR (eb.sl es s) ub):=by
 intro m H ir cs x r l4 h;obtain⟨m1,H1,p,c,db,L,D,r1,pN,xL,ext1,hv1,hS,hd⟩:=zuy ht hc h0 CR.mono hr r l4 h;refine⟨m1,H1,_,L,r1,pN,xL,ext1,hv1,⟨rfl,λGR j x y h1 h2=>?_⟩,λa ha=>?_,?_⟩
 ·cases j with
  |succ j=>simp[eb.sl]at h1
  |zero=>
   simp only[eb.sl,a2h,aT]at h1 h2;subst h1;subst h2;have GR:1+jL (L.map s.bk)<=4611686018427387904:=GR;have hlm:L.length<=km:=by have:=OW eJ L;unfold km;omega
   rcases hS.s with⟨rfl,rfl⟩|⟨id,k,rfl,NT,hb,dP⟩
   ·have:=hS.z rfl;subst this;exact .sl0 aa es
   ·refine .jF (off:=0) (k:=k) (by simp[nM,hb]) hb (by simp) NT hlm (λrw bc=>?_) ⟨by omega,?_⟩ λi rw j x y g1 g2 g3=>?_
    ·obtain⟨a,_,rfl⟩:=jE.1 bc;exact hs a
    ·rw[dP,TH hS.es,hS.l];omega
    ·rw[Db]at g1;cases ha:L[i]? with
     |none=>rw[ha]at g1;cases g1
     |some a=>
      rw[ha]at g1;simp only[l9,aT]at g1;subst g1;have hi:i<db.length:=by rw[hS.l];exact(cT.1 ha).1
      obtain⟨d,_,hR⟩:=hS.e i _ a (cE hi) ha;have hj:j<es:=by rw[<-hs a];exact(cT.1 g2).1
      rw[gk,dP,M3 hS.es (cE hi) hj]at g3;exact hR.1.2 (by have:=zAZ (f:=s.bk) (eo ha);omega) j x y g2 g3
 ·obtain⟨i,hi⟩:=OE ha;have hlt:i<db.length:=by rw[hS.l];exact(cT.1 hi).1
  obtain⟨d,_,hR⟩:=hS.e i _ a (cE hlt) hi;exact hR.2.1
 ·rcases hd with⟨e1,e2⟩|⟨sp,e1⟩
  ·have hD:=hS.d;subst e2;have:L=[]:=mL (by simpa using hD.symm);subst this;exact hu.one _
  ·rw[e1];have h1:=hu.sl D sp
   have h2:=zDx (s:=s) (ub:=ub) (L:=L) (D:=D) hS.d λi a ha=>by
    have hlt:i<db.length:=by rw[hS.l];exact(cT.1 ha).1
    obtain⟨d,h1,hR⟩:=hS.e i _ a (cE hlt) ha;exact⟨d,h1,hR.2.2⟩
   show 1+jL (L.map s.bk)<=_;omega
def Vr(X:Type)(enc:TypeId×Value->X)(P:Program)(W:World)(ir:Nat):List (TypeId×Nat)->List Value->List (DataW X×List MemPlace)->Prop
 |[],cs,xs=>cs=[]/\xs=[]
 |f::fs,cs,xs=>∃x vi,xs=x::vi/\(cs.take f.2).length=f.2/\DataW.trod enc P W 0 (λ_=>Z) Z ir f.1 (cs.take f.2)=J x/\Vr X enc P W ir fs (cs.drop f.2) vi
def zSw(X:Type)(enc:TypeId×Value->X)(P:Program)(W:World)(fs:List (TypeId×Nat))(α:Type)(s:eb α)(ub:DataW X->Nat):Prop:=
 ∀{m:Mu}{H:AH}{ir:Nat}{cs:List Value}{xs:List (DataW X×List MemPlace)},fW m H W->RO H->Vr X enc P W ir fs cs xs->
  ∃m' H' as a,fW m' H' W/\RO H'/\m.le m'/\ft H H'/\Vl m' as cs/\(as.length=(s.pc a).length/\(s.bk a<=4611686018427387904->∀(j:Nat) (x:PV) (y:Value),(s.pc a)[j]? =J x->as[j]? =J y->PR (nM H') ae x y))/\s.ok a/\s.bk a<=jL (xs.map λx=>ub x.1)
end
end Go.Pm
