import Derived.Test.YtnojafnlicbhpaaGreatPmW
import Derived.ChangeSlices
import Derived.ChangeArms
import Derived.DataReads
import Derived.RowKit3
open Bool renaming false→aa,true→Z
open Option renaming none→ae,some→J
set_option linter.defProp false
namespace Go.Am
open Go.Pm
def a5w:=@List.getElem?_cons_zero
variable{H:AH}{b:mD}
def zsv(hw:mJ H):fJ H (H.push b):=⟨Et _,λid k hk=>by
 have:=hw id k hk;simp only[AH.push]
 rw[aB (by omega)];exact hk⟩
def zBS(h:mJ H):mJ (H.push b):=by
 intro id k hk;simp only[AH.push]at hk⊢;split at hk
 ·omega
 ·have:=h id k hk;omega
def zxy :(H.push b).b H.n=J b:=by simp[AH.push]
def zsy{es:Nat}:∀{dn:List (List Value)}(_:∀e,e∈dn->e.length=es) (i:Nat),dn.flatten.drop (i*es)=(dn.drop i).flatten:=by
 intro dn;induction dn with
 |nil=>intro _ i;simp
 |cons a l ih=>
  intro h i;cases i with
  |zero=>simp
  |succ i=>
   have ha:=h a (qJ ..)
   rw[HI,km,Qb,List.drop_append,List.drop_eq_nil_of_le (by omega),na,a5o,
    <-ih (λe he=>h e (oB _ he))]
   congr 1;omega
def VC{es:Nat}:∀{dn:List (List Value)}(_:∀e,e∈dn->e.length=es),dn.flatten.length=dn.length*es:=by
 intro dn;induction dn with
 |nil=>intro _;simp
 |cons a l ih=>
  intro h;rw[HI,bT,h a (qJ ..),ih (λe he=>h e (oB _ he)),d5,km];omega
def RO(H:AH):Prop:=∀id k,H.b id=J k->k.rw=aa
def RO.push{as:List Value}(h:RO H):RO (H.push ⟨aa,as⟩):=by
 intro id k hk;simp only[AH.push]at hk;split at hk
 ·cases hk;rfl
 ·exact h id k hk
def Mu.put(m:Mu)(l:Loc):Mu:=⟨m.n+1,λi=>if i=m.n then l else m.f i⟩
def Mu.a0w(m:Mu)(l:Loc):m.le (m.put l):=⟨Et _,λi hi=>by simp only[Mu.put];rw[aB (by omega)]⟩
def zAZ{m:Mu}{w:World}{bu off size:Nat}{as:List Value}{cs:Array Value}{e:TypeId}{fz:Nat×Nat}(r:gp m H w)(mi:RO H)(hb:w.heap[bu]? =J (.cells cs e fz))(eI:off+size<=cs.size)
(hl:as.length<=size)(hv:∀i v,as[i]? =J v->∃c,cs[off+i]? =J c/\V m v c):gp (m.put ⟨bu,off,size⟩) (H.push ⟨aa,as⟩) w:=by
 have da:=m.a0w ⟨bu,off,size⟩;refine⟨by simp only[Mu.put,AH.push];rw[r.n],λid k hk=>zBS r.lt id k hk,λid k hk=>?_,λi j bi bj hi hj hne bc=>?_⟩
 ·simp only[AH.push]at hk;split at hk
  ·rename_i e1;cases hk;have:((m.put ⟨bu,off,size⟩).f id)=⟨bu,off,size⟩:=by simp only[Mu.put];rw[aD (by rw[r.n,e1])]
   rw[this];refine⟨cs,e,fz,hb,eI,hl,λh=>(by cases h),λi v hi=>?_⟩;obtain⟨c,h1,h2⟩:=hv i v hi;exact⟨c,h1,h2.mono da⟩
  ·have hlt:=r.lt id k hk;have:((m.put ⟨bu,off,size⟩).f id)=m.f id:=da.2 id (by rw[r.n];exact hlt);rw[this];obtain⟨fc,e',fz',h1,h2,h3,h4,h5⟩:=r.cells id k hk;exact⟨fc,e',fz',h1,h2,h3,h4,λi v hi=>by obtain⟨c,a,b⟩:=h5 i v hi;exact⟨c,a,b.mono da⟩⟩
 ·have:=mi.push (as:=as) i bi hi;rw[this]at bc;cases bc
section
variable {P:Program}{X:Type}{enc:TypeId×Value->X}{W:World}
def DH(X:Type)(enc:TypeId×Value->X)(P:Program)(W:World)(t:TypeId)(α:Type)(R:AH->List Value->α->DataW X->Prop):Prop:=
 ∀{m:Mu}{H:AH}{iJ:Nat}{cs:List Value}{x:DataW X×List MemPlace},gp m H W->RO H->DataW.trod enc P W 0 (λ_=>Z) Z iJ t cs=J x->
  ∃m' H' as a,gp m' H' W/\RO H'/\m.le m'/\fJ H H'/\Vl m' as cs/\R H' as a x.1
def Rt{w:World}{a:Addr}{v:Value}(h:w.cell? a=J v):∃cs e fz,w.heap[a.block]? =J (.cells cs e fz)/\a.spot=ae/\cs[a.off]? =J v:=by
 unfold World.cell? at h;split at h
 ·rename_i cs e fz hb;split at h
  ·cases h
  ·rename_i hs;exact⟨cs,e,fz,hb,by simpa using hs,h⟩
 ·cases h
def zV(a:Addr)(n:Nat):(a.add n).off=a.off+n/\(a.add n).block=a.block:=by
 unfold Addr.add;split
 ·rename_i h;subst h;exact⟨rfl,rfl⟩
 ·exact⟨rfl,rfl⟩
structure SlR {α:Type}(R:AH->List Value->α->DataW X->Prop) (H:AH) (es:Nat) (p:Option Addr) (c:Nat) (dn:List (List Value)) (L:List α) (D:List (DataW X)):Prop where
 s:(p=ae/\c=0)\/∃id k,p=J ⟨id,0,J es⟩/\L.length<=c/\H.b id=J k/\k.cells=dn.flatten
 z:p=ae->L=[]
 es:∀e,e∈dn->e.length=es
 l:dn.length=L.length
 d:D.length=L.length
 e:∀(i:Nat) (y:List Value) (a:α),dn[i]? =J y->L[i]? =J a->∃d,D[i]? =J d/\R H y a d
def zuw{t e:TypeId}{es:Nat}{α:Type}{R:AH->List Value->α->DataW X->Prop}(ht:P.underlying t=J (.slice e))(hc:P.cellsOf e=es)(h0:0<es)
(ZJ:∀H H' y a d,R H y a d->fJ H H'->R H' y a d)(hr:DH X enc P W e α R):
 ∀{m:Mu}{H:AH}{iJ:Nat}{cs:List Value}{x:DataW X×List MemPlace},gp m H W->RO H->DataW.trod enc P W 0 (λ_=>Z) Z iJ t cs=J x->
 ∃m' H' p c dn L D,gp m' H' W/\RO H'/\m.le m'/\fJ H H'/\Vl m' [.slice p L.length c] cs/\SlR R H' es p c dn L D/\(x.1=.nil/\D=[]\/∃sp,x.1=.slice D sp):=by
 intro m H iJ cs x r mi h;rcases DataW.trod_slice ht h with⟨rfl,rfl⟩|⟨a,len,cap,elems,dH,n,rfl,rfl,rfl,hb,NI,gY,hlen,sM,DC,_⟩
 ·refine⟨m,H,ae,0,[],[],[],r,mi,m.le_refl,.refl H,.cons (.mK ae) (.nil m),⟨.inl ⟨rfl,rfl⟩,λ_=>rfl,λ_ h=>(by cases h),rfl,rfl,λi y a h=>(by simp at h)⟩,.inl ⟨rfl,rfl⟩⟩
 ·obtain⟨fF,UQ⟩:=DC rfl;rw[hc]at sM UQ;by_cases rC:cap=0
  ·subst rC;have:len=0:=by omega
   subst this;have:elems=[]:=m9 hlen;subst this;refine⟨m,H,ae,0,[],[],[],r,mi,m.le_refl,.refl H,.cons (.mK _) (.nil m),⟨.inl ⟨rfl,rfl⟩,λ_=>rfl,λ_ h=>(by cases h),rfl,rfl,λi y a h=>(by simp at h)⟩,.inr ⟨_,rfl⟩⟩
  ·
   have MH:∃fc,W.cells? 0 (a.add ((cap-1)*es)) es=J fc:=by
    by_cases sI:len=cap
    ·have:=sM (cap-1) (by omega);have hlt:cap-1<elems.length:=by omega
     rw[cJ hlt]at this;obtain⟨fc,h1,_⟩:=bW.1 this;exact⟨fc,h1⟩
    ·have:=UQ (cap-1-len) (by omega);have hlt:cap-1-len<dH.length:=by omega
     rw[cJ hlt]at this;obtain⟨fc,h1,_⟩:=bW.1 this;rw[show len+(cap-1-len)=cap-1 by omega]at h1;exact⟨fc,h1⟩
   obtain⟨cl,gX⟩:=MH;have a3t:=(World.cells?_some gX)
   have a2i:es-1<cl.length:=by omega
   have GM:=a3t.2.2 (es-1) (by omega);rw[cJ a2i]at GM;obtain⟨a00,ety,fz,Tg,_,a0O⟩:=Rt GM;rw[(zV _ _).2,(zV _ _).2]at Tg;rw[(zV _ _).1,(zV _ _).1]at a0O
   have KQ:(cap-1)*es+es=cap*es:=by
    rw[<-km];congr 1;omega
   have eI:a.off+cap*es<=a00.size:=by
    have:=(BZ.1 a0O).1;omega
   have build:∀i,i<=len->∃(m':Mu) (H':AH) (dn:List (List Value)) (L:List α),gp m' H' W/\RO H'/\m.le m'/\fJ H H'/\dn.length=i/\L.length=i/\
    (∀(j:Nat) (y:List Value) (b:α),dn[j]? =J y->L[j]? =J b->∃d,(elems.map (·.1))[j]? =J d/\R H' y b d)/\
    (∀(j:Nat) (y:List Value),dn[j]? =J y->y.length=es/\∀(q:Nat) (v:Value),y[q]? =J v->∃c,a00[a.off+(j*es+q)]? =J c/\V m' v c):=by
    intro i;induction i with
    |zero=>intro _;exact⟨m,H,[],[],r,mi,m.le_refl,.refl H,rfl,rfl,λj y b h=>(by simp at h),λj y h=>(by simp at h)⟩
    |succ i ih=>
     intro hi;obtain⟨m1,H1,dn,L,r1,qo,yi,ext1,l1,l2,hR,hV⟩:=ih (by omega);have he:=sM i (by omega);have hlt:i<elems.length:=by omega
     rw[cJ hlt]at he;obtain⟨ci,I8,htr⟩:=bW.1 he;obtain⟨m2,H2,as,b,r2,UU,IL,Y1,hVl,hRb⟩:=hr r1 qo htr;have YX:=World.cells?_some I8;have a4a:as.length=es:=by rw[hVl.1];exact YX.2.1
     refine⟨m2,H2,dn++[as],L++[b],r2,UU,Mu.le_trans yi IL,ext1.trans Y1,by simp[l1],by simp[l2],λj y c hy hb=>?_,λj y hy=>?_⟩
     ·by_cases hj:j<i
      ·rw[fM (by omega)]at hy hb;obtain⟨d,xg,lv⟩:=hR j y c hy hb;exact⟨d,xg,ZJ _ _ _ _ _ lv Y1⟩
      ·rw[gj (by omega)]at hy hb
       have hj0:j-dn.length=0:=by
        have:=(cY.1 hy).1;simp at this;omega
       have ao:j-L.length=0:=by omega
       rw[hj0]at hy;rw[ao]at hb;simp at hy hb;subst hy;subst hb;have yE:j=i:=by omega
       refine⟨_,?_,hRb⟩;rw[yE,Ew,cJ hlt];rfl
     ·by_cases hj:j<i
      ·rw[fM (by omega)]at hy;obtain⟨h1,h2⟩:=hV j y hy;exact⟨h1,λq v hq=>by obtain⟨c,h3,h4⟩:=h2 q v hq;exact⟨c,h3,h4.mono IL⟩⟩
      ·rw[gj (by omega)]at hy
       have hj0:j-dn.length=0:=by
        have:=(cY.1 hy).1;simp at this;omega
       rw[hj0]at hy;simp at hy;subst hy;have yE:j=i:=by omega
       subst yE;refine⟨a4a,λq v hq=>?_⟩;obtain⟨c,GM,oZ⟩:=hVl.get hq;have hql:q<es:=by have:=(cY.1 hq).1;omega
       have:=YX.2.2 q hql;rw[GM]at this;obtain⟨b1,b2,b3,eS,_,sS⟩:=Rt this;rw[(zV _ _).2,(zV _ _).2,Tg]at eS;cases eS;rw[(zV _ _).1,(zV _ _).1]at sS;exact⟨c,by rw[<-sS];congr 1;omega,oZ⟩
   obtain⟨m1,H1,dn,L,r1,qo,yi,ext1,l1,l2,hR,hV⟩:=build len (cB _)
   have JQ:∀y,y∈dn->y.length=es:=by
    intro y hy;obtain⟨j,hj⟩:=Qi hy;exact(hV j y hj).1
   have hfl:dn.flatten.length<=cap*es:=by
    rw[VC JQ,l1];exact gO _ NI
   have r2:=zAZ (as:=dn.flatten) r1 qo Tg eI hfl (by
    intro i v hi;have hil:i<dn.flatten.length:=(cY.1 hi).1;rw[VC JQ]at hil;have U2:i/es<dn.length:=a1n (by rw[xJ];exact hil);have hdm:i=(i/es)*es+i%es:=by rw[xJ];exact(Ql i es).symm
    have hq:i%es<es:=nb _ h0;have hd:=zsy JQ (i/es);have fP:(dn.flatten.drop (i/es*es))[i%es]? =J v:=by rw[jw,<-hdm];exact hi
    rw[hd,Qh U2,HI]at fP;have Ed:=JQ _ (fm U2);rw[fM (by omega)]at fP;obtain⟨c,h1,h2⟩:=(hV (i/es) _ (cJ U2)).2 (i%es) v fP
    exact⟨c,by rw[hdm];exact h1,h2⟩)
   have dv:(m1.put ⟨a.block,a.off,cap*es⟩).f m1.n=⟨a.block,a.off,cap*es⟩:=by simp[Mu.put]
   have a22:a=⟨a.block,a.off,ae⟩:=by
    have a2Z:∃fc,W.cells? 0 (a.add (0*es)) es=J fc:=by
     by_cases sI:len=0
     ·have:=UQ 0 (by omega);have hlt:0<dH.length:=by omega
      rw[cJ hlt]at this;obtain⟨fc,h1,_⟩:=bW.1 this;rw[show len+0=0 by omega]at h1;exact⟨fc,h1⟩
     ·have:=sM 0 (by omega);have hlt:0<elems.length:=by omega
      rw[cJ hlt]at this;obtain⟨fc,h1,_⟩:=bW.1 this;exact⟨fc,h1⟩
    obtain⟨cf,hcf⟩:=a2Z;have a23:=World.cells?_some hcf;have h3:=a23.2.2 0 h0;have h4:0<cf.length:=by omega
    rw[cJ h4]at h3;have e0:(a.add (0*es)).add 0=a:=by simp[Addr.add]
    rw[e0]at h3;obtain⟨_,_,_,_,hs,_⟩:=Rt h3;obtain⟨b1,b2,b3⟩:=a;simp at hs;subst hs;rfl
   refine⟨_,_,J ⟨H1.n,0,J es⟩,len,dn,L,elems.map (·.1),r2,qo.push,Mu.le_trans yi (Mu.a0w _ _),ext1.trans (zsv r1.lt),.cons ?_ (.nil _),⟨.inr ⟨H1.n,⟨aa,dn.flatten⟩,rfl,by omega,zxy,rfl⟩,λh=>(by cases h),JQ,by rw[l1,l2],by simp[l2,hlen],λj y b hy hb=>?_⟩,.inr ⟨_,rfl⟩⟩
   ·have:=V.slice (m:=m1.put ⟨a.block,a.off,cap*es⟩) (id:=m1.n) (off:=0) (es:=es) (n:=L.length) (c:=len) (o:=a.off) (cap:=cap) (by simp[Mu.put]) (by omega) NI (λ_=>by rw[dv];rfl) (by rw[dv];simp);rw[dv]at this;rw[<-r1.n,a22];rw[l2]at this⊢;exact this
   ·obtain⟨d,h1,h2⟩:=hR j y b hy hb;exact⟨d,h1,ZJ _ _ _ _ _ h2 (zsv r1.lt)⟩
def zm2{m:Mu}{H:AH}{w':World}(mi:RO H)(hk:LW m H W w'):∀b,b<W.heap.size->w'.heap[b]? =W.heap[b]? :=
 λb hb=>hk.2.1 b hb λid k hi bc=>by rw[mi id k hi]at bc;cases bc
def zrG{m:Mu}{H:AH}{w':World}(mi:RO H)(hk:LW m H W w'):W.keptBut w' (λ_=>False):=by
 have hs:=zm2 mi hk;refine⟨hk.2.2.os.1,hk.2.2.os.2,λi hi=>?_⟩;rw[hs i hi];split
 ·exact⟨by simp_all,by simp_all,by simp_all,λj _=>by simp_all⟩
 ·rename_i h1 h2;rw[h1]at h2;cases h2;exact .inr ⟨rfl,rfl⟩
 ·rfl
def zzp:gp ⟨0,λ_=>⟨0,0,0⟩⟩ ⟨0,λ_=>ae⟩ W:=
 ⟨rfl,λ_ _ h=>(by cases h),λ_ _ h=>(by cases h),λ_ _ _ _ h=>(by cases h)⟩
def zB5:RO ⟨0,λ_=>ae⟩:=λ_ _ h=>(by cases h)
end
end Go.Am
namespace Go.Pm
open Go.Am
structure eu (α:Type) where
 pc:α->List PV
 bk:α->Nat
 ok:α->Prop
def eu.int(k:IntKind):eu Int:=⟨λn=>[.int k n],λ_=>1,λn=>(Lit.int k n).wf=Z⟩
def eu.bool:eu Bool:=⟨λn=>[.bool n],λ_=>1,λ_=>True⟩
def eu.str:eu ByteArray:=⟨λn=>[.str n],λs=>s.size+1,λ_=>True⟩
def ka:List Nat->Nat
 |[]=>0
 |x::l=>x+ka l
def eu.sl{α:Type}(es:Nat)(s:eu α):eu (List α):=⟨λl=>[.sl aa es (l.map s.pc)],λl=>1+ka (l.map s.bk),λl=>∀x,x∈l->s.ok x⟩
variable{H:AH}
def zA3{α:Type}{f:α->Nat}{L:List α}{a:α}(h:a∈L):f a<=ka (L.map f):=by
 induction L with
 |nil=>cases h
 |cons x L ih=>
  simp only[jT,ka];cases f6.1 h with
  |inl e=>subst e;omega
  |inr e=>have:=ih e;omega
def VJ{α:Type}{f:α->Nat}(hf:∀a,1<=f a)(L:List α):L.length<=ka (L.map f):=by
 induction L with
 |nil=>exact L3 _
 |cons x L ih=>have:=hf x;simp only[jT,ka,d5];omega
def eu.nil:eu Unit:=⟨λ_=>[],λ_=>0,λ_=>True⟩
def eu.cons{α β:Type}(a:eu α)(b:eu β):eu (α×β):=⟨λx=>a.pc x.1++b.pc x.2,λx=>a.bk x.1+b.bk x.2,λx=>a.ok x.1/\b.ok x.2⟩
def eu.st{α β:Type}(a:eu α)(f:β->α):eu β:=⟨λx=>a.pc (f x),λx=>1+a.bk (f x),λx=>a.ok (f x)⟩
def nX(H:AH):Env:=⟨H,λid=>(H.b id).isSome=Z,λ_=>ae⟩
def zDj(h:mJ H):ey (nX H):=⟨h,λid b9=>⟨rfl,λhg=>by
 cases hb:H.b id with
 |none=>simp[nX,hb]at hg
 |some k=>
  have:=h id k hb;have b9:H.n<=id:=b9
  omega⟩⟩
def zC9{H':AH}(h:fJ H H'):GK (nX H) (nX H'):=λid hg=>by
 cases hb:H.b id with
 |none=>simp[nX,hb]at hg
 |some k=>
  refine⟨by simp[nX,h.2 id k hb],λk' hk'=>⟨k',?_,rfl⟩⟩;exact h.2 id k' hk'
def zs8{H':AH}(h:fJ H H'){x:PV}{v:Value}(hx:PR (nX H) ae x v):PR (nX H') ae x v:=hx.move (zC9 h) (l':=ae) True.intro
section
variable {P:Program}{X:Type}{enc:TypeId×Value->X}{W:World}{α β:Type}
def CR(s:eu α)(ub:DataW X->Nat)(H:AH)(as:List Value)(a:α)(d:DataW X):Prop:=
 (as.length=(s.pc a).length/\(s.bk a<=4611686018427387904->∀(j:Nat) (x:PV) (y:Value),(s.pc a)[j]? =J x->as[j]? =J y->PR (nX H) ae x y))/\s.ok a/\s.bk a<=ub d
def CR.mono{s:eu α}{ub:DataW X->Nat}(H H':AH)(y:List Value)(a:α)(d:DataW X)(h:CR s ub H y a d)(he:fJ H H'):CR s ub H' y a d:=
 ⟨⟨h.1.1,λhb j x y h1 h2=>zs8 he (h.1.2 hb j x y h1 h2)⟩,h.2⟩
structure Ub (ub:DataW X->Nat):Prop where
 one:∀d,1<=ub d
 sl:∀D sp,1+ka (D.map ub)<=ub (.slice D sp)
 agg:∀D,1+ka (D.map ub)<=ub (.agg D)
 str:∀(s:List UInt8),s.length+1<=ub (.lit (.string s))
variable {ub:DataW X->Nat}
def zCJ{t:TypeId}{k:IntKind}(hu:Ub ub)(ht:P.underlying t=J (.int k)):DH X enc P W t Int (CR (eu.int k) ub):=by
 intro m H iJ cs x r mi h;obtain⟨n,rfl,rfl,hw⟩:=DataW.trod_int ht h;refine⟨m,H,[.int k n],n,r,mi,m.le_refl,.refl H,.cons (.int k n) (.nil m),⟨rfl,λ_ j x y h1 h2=>?_⟩,hw,hu.one _⟩;cases j with
 |zero=>simp[eu.int]at h1 h2;subst h1;subst h2;exact .int k n
 |succ j=>simp[eu.int]at h1
def zDE{s:eu α}{L:List α}{D:List (DataW X)}(hl:D.length=L.length)(h:∀(i:Nat) (a:α),L[i]? =J a->∃d,D[i]? =J d/\s.bk a<=ub d):ka (L.map s.bk)<=ka (D.map ub):=by
 induction L generalizing D with
 |nil=>exact L3 _
 |cons a L ih=>
  cases D with
  |nil=>simp at hl
  |cons d D=>
   obtain⟨d',h1,h2⟩:=h 0 a rfl;simp at h1;subst h1
   have:=ih (D:=D) (by simpa using hl) λi b hb=>by
    obtain⟨d',h1,h2⟩:=h (i+1) b (by simpa using hb);exact⟨d',by simpa using h1,h2⟩
   simp only[jT,ka];omega
def zFv{t e:TypeId}{es:Nat}{s:eu α}(hu:Ub ub)(ht:P.underlying t=J (.slice e))(hc:P.cellsOf e=es)(h0:0<es)(hs:∀a,(s.pc a).length=es)(eS:∀a,1<=s.bk a)(hr:DH X enc P W e α (CR s ub)):DH X enc P W t (List α) (CR (eu.sl es s) ub):=by
 intro m H iJ cs x r mi h;obtain⟨m1,H1,p,c,dn,L,D,r1,qo,yi,ext1,hv1,hS,hd⟩:=zuw ht hc h0 CR.mono hr r mi h;refine⟨m1,H1,_,L,r1,qo,yi,ext1,hv1,⟨rfl,λLw j x y h1 h2=>?_⟩,λa ha=>?_,?_⟩
 ·cases j with
  |succ j=>simp[eu.sl]at h1
  |zero=>
   simp only[eu.sl,a5w,aT]at h1 h2;subst h1;subst h2;have Lw:1+ka (L.map s.bk)<=4611686018427387904:=Lw;have hlm:L.length<=kK:=by have:=VJ eS L;unfold kK;omega
   rcases hS.s with⟨rfl,rfl⟩|⟨id,k,rfl,NI,hb,dX⟩
   ·have:=hS.z rfl;subst this;exact .sl0 aa es
   ·refine .jZ (off:=0) (k:=k) (by simp[nX,hb]) hb (by simp) NI hlm (λrw bc=>?_) ⟨by omega,?_⟩ λi rw j x y g1 g2 g3=>?_
    ·obtain⟨a,_,rfl⟩:=jU.1 bc;exact hs a
    ·rw[dX,VC hS.es,hS.l];omega
    ·rw[Ew]at g1;cases ha:L[i]? with
     |none=>rw[ha]at g1;cases g1
     |some a=>
      rw[ha]at g1;simp only[mA,aT]at g1;subst g1;have hi:i<dn.length:=by rw[hS.l];exact(cY.1 ha).1
      obtain⟨d,_,hR⟩:=hS.e i _ a (cJ hi) ha;have hj:j<es:=by rw[<-hs a];exact(cY.1 g2).1
      rw[gE,dX,OV hS.es (cJ hi) hj]at g3;exact hR.1.2 (by have:=zA3 (f:=s.bk) (eA ha);omega) j x y g2 g3
 ·obtain⟨i,hi⟩:=Qi ha;have hlt:i<dn.length:=by rw[hS.l];exact(cY.1 hi).1
  obtain⟨d,_,hR⟩:=hS.e i _ a (cJ hlt) hi;exact hR.2.1
 ·rcases hd with⟨e1,e2⟩|⟨sp,e1⟩
  ·have hD:=hS.d;subst e2;have:L=[]:=m9 (by simpa using hD.symm);subst this;exact hu.one _
  ·rw[e1];have h1:=hu.sl D sp
   have h2:=zDE (s:=s) (ub:=ub) (L:=L) (D:=D) hS.d λi a ha=>by
    have hlt:i<dn.length:=by rw[hS.l];exact(cY.1 ha).1
    obtain⟨d,h1,hR⟩:=hS.e i _ a (cJ hlt) ha;exact⟨d,h1,hR.2.2⟩
   show 1+ka (L.map s.bk)<=_;omega
def zCQ(X:Type)(enc:TypeId×Value->X)(P:Program)(W:World)(iJ:Nat):List (TypeId×Nat)->List Value->List (DataW X×List MemPlace)->Prop
 |[],cs,xs=>cs=[]/\xs=[]
 |f::fs,cs,xs=>∃x xh,xs=x::xh/\(cs.take f.2).length=f.2/\DataW.trod enc P W 0 (λ_=>Z) Z iJ f.1 (cs.take f.2)=J x/\zCQ X enc P W iJ fs (cs.drop f.2) xh
def zRB(X:Type)(enc:TypeId×Value->X)(P:Program)(W:World)(fs:List (TypeId×Nat))(α:Type)(s:eu α)(ub:DataW X->Nat):Prop:=
 ∀{m:Mu}{H:AH}{iJ:Nat}{cs:List Value}{xs:List (DataW X×List MemPlace)},gp m H W->RO H->zCQ X enc P W iJ fs cs xs->
  ∃m' H' as a,gp m' H' W/\RO H'/\m.le m'/\fJ H H'/\Vl m' as cs/\(as.length=(s.pc a).length/\(s.bk a<=4611686018427387904->∀(j:Nat) (x:PV) (y:Value),(s.pc a)[j]? =J x->as[j]? =J y->PR (nX H') ae x y))/\s.ok a/\s.bk a<=ka (xs.map λx=>ub x.1)
end
end Go.Pm
