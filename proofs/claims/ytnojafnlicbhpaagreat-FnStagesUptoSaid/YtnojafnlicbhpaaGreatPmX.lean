import Derived.Test.YtnojafnlicbhpaaGreatPmW
import Derived.ChangeSlices
import Derived.ChangeArms
import Derived.DataReads
import Derived.RowKit3
namespace Go.Am
set_option linter.defProp false
open Bool renaming false→aa,true→Z
open Option renaming none→ae,some→J
def Acf:=@List.getElem?_cons_zero
variable{H:AH}{b:mD}
def ztx(hw:mj H):fj H (H.push b):=⟨C7 _,λid k hk=>by
 have:=hw id k hk;simp only[AH.push]
 rw[az (by omega)];exact hk⟩
def zBG(h:mj H):mj (H.push b):=by
 intro id k hk;simp only[AH.push]at hk⊢;split at hk
 ·omega
 ·have:=h id k hk;omega
def zxI :(H.push b).b H.n=J b:=by simp[AH.push]
def zth{es:Nat}:∀{da:List (List Value)}(_:∀e,e∈da->e.length=es) (i:Nat),da.flatten.drop (i*es)=(da.drop i).flatten:=by
 intro da;induction da with
 |nil=>intro _ i;simp
 |cons a l ih=>
  intro h i;cases i with
  |zero=>simp
  |succ i=>
   have ha:=h a (p9 ..)
   rw[Gt,jZ,Oq,List.drop_append,List.drop_eq_nil_of_le (by omega),mL,Ab7,
    <-ih (λe he=>h e (nU _ he))]
   congr 1;omega
def Qy{es:Nat}:∀{da:List (List Value)}(_:∀e,e∈da->e.length=es),da.flatten.length=da.length*es:=by
 intro da;induction da with
 |nil=>intro _;simp
 |cons a l ih=>
  intro h;rw[Gt,bP,h a (p9 ..),ih (λe he=>h e (nU _ he)),dX,jZ];omega
def RO(H:AH):Prop:=∀id k,H.b id=J k->k.rw=aa
def RO.push{as:List Value}(h:RO H):RO (H.push ⟨aa,as⟩):=by
 intro id k hk;simp only[AH.push]at hk;split at hk
 ·cases hk;rfl
 ·exact h id k hk
def Mu.put(m:Mu)(l:Loc):Mu:=⟨m.n+1,λi=>if i=m.n then l else m.f i⟩
def Mu.Zn(m:Mu)(l:Loc):m.le (m.put l):=⟨C7 _,λi hi=>by simp only[Mu.put];rw[az (by omega)]⟩
def zBb{m:Mu}{w:World}{bq off size:Nat}{as:List Value}{cs:Array Value}{e:TypeId}{fz:Nat×Nat}(r:fX m H w)(lX:RO H)(hb:w.heap[bq]? =J (.cells cs e fz))(eB:off+size<=cs.size)
(hl:as.length<=size)(hv:∀i v,as[i]? =J v->∃c,cs[off+i]? =J c/\V m v c):fX (m.put ⟨bq,off,size⟩) (H.push ⟨aa,as⟩) w:=by
 have cU:=m.Zn ⟨bq,off,size⟩;refine⟨by simp only[Mu.put,AH.push];rw[r.n],λid k hk=>zBG r.lt id k hk,λid k hk=>?_,λi j bi bj hi hj hne bc=>?_⟩
 ·simp only[AH.push]at hk;split at hk
  ·rename_i e1;cases hk;have:((m.put ⟨bq,off,size⟩).f id)=⟨bq,off,size⟩:=by simp only[Mu.put];rw[aB (by rw[r.n,e1])]
   rw[this];refine⟨cs,e,fz,hb,eB,hl,λh=>(by cases h),λi v hi=>?_⟩;obtain⟨c,h1,h2⟩:=hv i v hi;exact⟨c,h1,h2.mono cU⟩
  ·have hlt:=r.lt id k hk;have:((m.put ⟨bq,off,size⟩).f id)=m.f id:=cU.2 id (by rw[r.n];exact hlt);rw[this];obtain⟨eV,e',fz',h1,h2,h3,h4,h5⟩:=r.cells id k hk;exact⟨eV,e',fz',h1,h2,h3,h4,λi v hi=>by obtain⟨c,a,b⟩:=h5 i v hi;exact⟨c,a,b.mono cU⟩⟩
 ·have:=lX.push (as:=as) i bi hi;rw[this]at bc;cases bc
section
variable {P:Program}{X:Type}{enc:TypeId×Value->X}{W:World}
def Ce(X:Type)(enc:TypeId×Value->X)(P:Program)(W:World)(t:TypeId)(α:Type)(R:AH->List Value->α->DataW X->Prop):Prop:=
 ∀{m:Mu}{H:AH}{ib:Nat}{cs:List Value}{x:DataW X×List MemPlace},fX m H W->RO H->DataW.trod enc P W 0 (λ_=>Z) Z ib t cs=J x->
  ∃m' H' as a,fX m' H' W/\RO H'/\m.le m'/\fj H H'/\Vl m' as cs/\R H' as a x.1
def RL{w:World}{a:Addr}{v:Value}(h:w.cell? a=J v):∃cs e fz,w.heap[a.block]? =J (.cells cs e fz)/\a.spot=ae/\cs[a.off]? =J v:=by
 unfold World.cell? at h;split at h
 ·rename_i cs e fz hb;split at h
  ·cases h
  ·rename_i hs;exact⟨cs,e,fz,hb,by simpa using hs,h⟩
 ·cases h
def yJ(a:Addr)(n:Nat):(a.add n).off=a.off+n/\(a.add n).block=a.block:=by
 unfold Addr.add;split
 ·rename_i h;subst h;exact⟨rfl,rfl⟩
 ·exact⟨rfl,rfl⟩
structure SlR {α:Type}(R:AH->List Value->α->DataW X->Prop) (H:AH) (es:Nat) (p:Option Addr) (c:Nat) (da:List (List Value)) (L:List α) (D:List (DataW X)):Prop where
 s:(p=ae/\c=0)\/∃id k,p=J ⟨id,0,J es⟩/\L.length<=c/\H.b id=J k/\k.cells=da.flatten
 z:p=ae->L=[]
 es:∀e,e∈da->e.length=es
 l:da.length=L.length
 d:D.length=L.length
 e:∀(i:Nat) (y:List Value) (a:α),da[i]? =J y->L[i]? =J a->∃d,D[i]? =J d/\R H y a d
def zuA{t e:TypeId}{es:Nat}{α:Type}{R:AH->List Value->α->DataW X->Prop}(ht:P.underlying t=J (.slice e))(hc:P.cellsOf e=es)(h0:0<es)
(Vs:∀H H' y a d,R H y a d->fj H H'->R H' y a d)(hr:Ce X enc P W e α R):
 ∀{m:Mu}{H:AH}{ib:Nat}{cs:List Value}{x:DataW X×List MemPlace},fX m H W->RO H->DataW.trod enc P W 0 (λ_=>Z) Z ib t cs=J x->
 ∃m' H' p c da L D,fX m' H' W/\RO H'/\m.le m'/\fj H H'/\Vl m' [.slice p L.length c] cs/\SlR R H' es p c da L D/\(x.1=.nil/\D=[]\/∃sp,x.1=.slice D sp):=by
 intro m H ib cs x r lX h;rcases DataW.trod_slice ht h with⟨rfl,rfl⟩|⟨a,len,cap,elems,dE,n,rfl,rfl,rfl,hb,Oe,gM,hlen,rY,C1,_⟩
 ·refine⟨m,H,ae,0,[],[],[],r,lX,m.le_refl,.refl H,.cons (.mu ae) (.nil m),⟨.inl ⟨rfl,rfl⟩,λ_=>rfl,λ_ h=>(by cases h),rfl,rfl,λi y a h=>(by simp at h)⟩,.inl ⟨rfl,rfl⟩⟩
 ·obtain⟨fm,Px⟩:=C1 rfl;rw[hc]at rY Px;by_cases qr:cap=0
  ·subst qr;have:len=0:=by omega
   subst this;have:elems=[]:=mK hlen;subst this;refine⟨m,H,ae,0,[],[],[],r,lX,m.le_refl,.refl H,.cons (.mu _) (.nil m),⟨.inl ⟨rfl,rfl⟩,λ_=>rfl,λ_ h=>(by cases h),rfl,rfl,λi y a h=>(by simp at h)⟩,.inr ⟨_,rfl⟩⟩
  ·
   have KM:∃eV,W.cells? 0 (a.add ((cap-1)*es)) es=J eV:=by
    by_cases rB:len=cap
    ·have:=rY (cap-1) (by omega);have hlt:cap-1<elems.length:=by omega
     rw[cE hlt]at this;obtain⟨eV,h1,_⟩:=bR.1 this;exact⟨eV,h1⟩
    ·have:=Px (cap-1-len) (by omega);have hlt:cap-1-len<dE.length:=by omega
     rw[cE hlt]at this;obtain⟨eV,h1,_⟩:=bR.1 this;rw[show len+(cap-1-len)=cap-1 by omega]at h1;exact⟨eV,h1⟩
   obtain⟨cl,gP⟩:=KM;have AbI:=(World.cells?_some gP)
   have AbP:es-1<cl.length:=by omega
   have DP:=AbI.2.2 (es-1) (by omega);rw[cE AbP]at DP;obtain⟨Zd,ety,fz,Tx,_,Aai⟩:=RL DP;rw[(yJ _ _).2,(yJ _ _).2]at Tx;rw[(yJ _ _).1,(yJ _ _).1]at Aai
   have J2:(cap-1)*es+es=cap*es:=by
    rw[<-jZ];congr 1;omega
   have eB:a.off+cap*es<=Zd.size:=by
    have:=(AZ.1 Aai).1;omega
   have build:∀i,i<=len->∃(m':Mu) (H':AH) (da:List (List Value)) (L:List α),fX m' H' W/\RO H'/\m.le m'/\fj H H'/\da.length=i/\L.length=i/\
    (∀(j:Nat) (y:List Value) (b:α),da[j]? =J y->L[j]? =J b->∃d,(elems.map (·.1))[j]? =J d/\R H' y b d)/\
    (∀(j:Nat) (y:List Value),da[j]? =J y->y.length=es/\∀(q:Nat) (v:Value),y[q]? =J v->∃c,Zd[a.off+(j*es+q)]? =J c/\V m' v c):=by
    intro i;induction i with
    |zero=>intro _;exact⟨m,H,[],[],r,lX,m.le_refl,.refl H,rfl,rfl,λj y b h=>(by simp at h),λj y h=>(by simp at h)⟩
    |succ i ih=>
     intro hi;obtain⟨m1,H1,da,L,r1,pe,wz,ext1,l1,l2,hR,hV⟩:=ih (by omega);have he:=rY i (by omega);have hlt:i<elems.length:=by omega
     rw[cE hlt]at he;obtain⟨ci,G4,htr⟩:=bR.1 he;obtain⟨m2,H2,as,b,r2,Rl,H5,XT,Y9,hRb⟩:=hr r1 pe htr;have Va:=World.cells?_some G4;have Ab4:as.length=es:=by rw[Y9.1];exact Va.2.1
     refine⟨m2,H2,da++[as],L++[b],r2,Rl,Mu.le_trans wz H5,ext1.trans XT,by simp[l1],by simp[l2],λj y c hy hb=>?_,λj y hy=>?_⟩
     ·by_cases hj:j<i
      ·rw[fw (by omega)]at hy hb;obtain⟨d,uT,kP⟩:=hR j y c hy hb;exact⟨d,uT,Vs _ _ _ _ _ kP XT⟩
      ·rw[fT (by omega)]at hy hb
       have hj0:j-da.length=0:=by
        have:=(cT.1 hy).1;simp at this;omega
       have j6:j-L.length=0:=by omega
       rw[hj0]at hy;rw[j6]at hb;simp at hy hb;subst hy;subst hb;have wO:j=i:=by omega
       refine⟨_,?_,hRb⟩;rw[wO,Da,cE hlt];rfl
     ·by_cases hj:j<i
      ·rw[fw (by omega)]at hy;obtain⟨h1,h2⟩:=hV j y hy;exact⟨h1,λq v hq=>by obtain⟨c,h3,h4⟩:=h2 q v hq;exact⟨c,h3,h4.mono H5⟩⟩
      ·rw[fT (by omega)]at hy
       have hj0:j-da.length=0:=by
        have:=(cT.1 hy).1;simp at this;omega
       rw[hj0]at hy;simp at hy;subst hy;have wO:j=i:=by omega
       subst wO;refine⟨Ab4,λq v hq=>?_⟩;obtain⟨c,DP,oX⟩:=Y9.get hq;have hql:q<es:=by have:=(cT.1 hq).1;omega
       have:=Va.2.2 q hql;rw[DP]at this;obtain⟨b1,b2,b3,eG,_,rK⟩:=RL this;rw[(yJ _ _).2,(yJ _ _).2,Tx]at eG;cases eG;rw[(yJ _ _).1,(yJ _ _).1]at rK;exact⟨c,by rw[<-rK];congr 1;omega,oX⟩
   obtain⟨m1,H1,da,L,r1,pe,wz,ext1,l1,l2,hR,hV⟩:=build len (cy _)
   have I7:∀y,y∈da->y.length=es:=by
    intro y hy;obtain⟨j,hj⟩:=Oy hy;exact(hV j y hj).1
   have hfl:da.flatten.length<=cap*es:=by
    rw[Qy I7,l1];exact gA _ Oe
   have r2:=zBb (as:=da.flatten) r1 pe Tx eB hfl (by
    intro i v hi;have Wl:i<da.flatten.length:=(cT.1 hi).1;rw[Qy I7]at Wl;have TK:i/es<da.length:=Aaw (by rw[wb];exact Wl);have UW:i=(i/es)*es+i%es:=by rw[wb];exact(OB i es).symm
    have hq:i%es<es:=mM _ h0;have hd:=zth I7 (i/es);have cH:(da.flatten.drop (i/es*es))[i%es]? =J v:=by rw[jd,<-UW];exact hi
    rw[hd,Ox TK,Gt]at cH;have C3:=I7 _ (e9 TK);rw[fw (by omega)]at cH;obtain⟨c,h1,h2⟩:=(hV (i/es) _ (cE TK)).2 (i%es) v cH
    exact⟨c,by rw[UW];exact h1,h2⟩)
   have dq:(m1.put ⟨a.block,a.off,cap*es⟩).f m1.n=⟨a.block,a.off,cap*es⟩:=by simp[Mu.put]
   have AbR:a=⟨a.block,a.off,ae⟩:=by
    have AbO:∃eV,W.cells? 0 (a.add (0*es)) es=J eV:=by
     by_cases rB:len=0
     ·have:=Px 0 (by omega);have hlt:0<dE.length:=by omega
      rw[cE hlt]at this;obtain⟨eV,h1,_⟩:=bR.1 this;rw[show len+0=0 by omega]at h1;exact⟨eV,h1⟩
     ·have:=rY 0 (by omega);have hlt:0<elems.length:=by omega
      rw[cE hlt]at this;obtain⟨eV,h1,_⟩:=bR.1 this;exact⟨eV,h1⟩
    obtain⟨cf,hcf⟩:=AbO;have AaW:=World.cells?_some hcf;have h3:=AaW.2.2 0 h0;have h4:0<cf.length:=by omega
    rw[cE h4]at h3;have e0:(a.add (0*es)).add 0=a:=by simp[Addr.add]
    rw[e0]at h3;obtain⟨_,_,_,_,hs,_⟩:=RL h3;obtain⟨b1,b2,b3⟩:=a;simp at hs;subst hs;rfl
   refine⟨_,_,J ⟨H1.n,0,J es⟩,len,da,L,elems.map (·.1),r2,pe.push,Mu.le_trans wz (Mu.Zn _ _),ext1.trans (ztx r1.lt),.cons ?_ (.nil _),⟨.inr ⟨H1.n,⟨aa,da.flatten⟩,rfl,by omega,zxI,rfl⟩,λh=>(by cases h),I7,by rw[l1,l2],by simp[l2,hlen],λj y b hy hb=>?_⟩,.inr ⟨_,rfl⟩⟩
   ·have:=V.slice (m:=m1.put ⟨a.block,a.off,cap*es⟩) (id:=m1.n) (off:=0) (es:=es) (n:=L.length) (c:=len) (o:=a.off) (cap:=cap) (by simp[Mu.put]) (by omega) Oe (λ_=>by rw[dq];rfl) (by rw[dq];simp);rw[dq]at this;rw[<-r1.n,AbR];rw[l2]at this⊢;exact this
   ·obtain⟨d,h1,h2⟩:=hR j y b hy hb;exact⟨d,h1,Vs _ _ _ _ _ h2 (ztx r1.lt)⟩
def W5{m:Mu}{H:AH}{w':World}(lX:RO H)(hk:IY m H W w'):∀b,b<W.heap.size->w'.heap[b]? =W.heap[b]? :=
 λb hb=>hk.2.1 b hb λid k hi bc=>by rw[lX id k hi]at bc;cases bc
def zrB{m:Mu}{H:AH}{w':World}(lX:RO H)(hk:IY m H W w'):W.keptBut w' (λ_=>False):=by
 have hs:=W5 lX hk;refine⟨hk.2.2.os.1,hk.2.2.os.2,λi hi=>?_⟩;rw[hs i hi];split
 ·exact⟨by simp_all,by simp_all,by simp_all,λj _=>by simp_all⟩
 ·rename_i h1 h2;rw[h1]at h2;cases h2;exact .inr ⟨rfl,rfl⟩
 ·rfl
def zzE:fX ⟨0,λ_=>⟨0,0,0⟩⟩ ⟨0,λ_=>ae⟩ W:=
 ⟨rfl,λ_ _ h=>(by cases h),λ_ _ h=>(by cases h),λ_ _ _ _ h=>(by cases h)⟩
def zAR:RO ⟨0,λ_=>ae⟩:=λ_ _ h=>(by cases h)
end
end Go.Am
namespace Go.Pm
open Go.Am
structure eg (α:Type) where
 pc:α->List PV
 bk:α->Nat
 ok:α->Prop
def eg.int(k:IntKind):eg Int:=⟨λn=>[.int k n],λ_=>1,λn=>(Lit.int k n).wf=Z⟩
def eg.bool:eg Bool:=⟨λn=>[.bool n],λ_=>1,λ_=>True⟩
def eg.str:eg ByteArray:=⟨λn=>[.str n],λs=>s.size+1,λ_=>True⟩
def jV:List Nat->Nat
 |[]=>0
 |x::l=>x+jV l
def eg.sl{α:Type}(es:Nat)(s:eg α):eg (List α):=⟨λl=>[.sl aa es (l.map s.pc)],λl=>1+jV (l.map s.bk),λl=>∀x,x∈l->s.ok x⟩
variable{H:AH}
def zBU{α:Type}{f:α->Nat}{L:List α}{a:α}(h:a∈L):f a<=jV (L.map f):=by
 induction L with
 |nil=>cases h
 |cons x L ih=>
  simp only[jD,jV];cases fK.1 h with
  |inl e=>subst e;omega
  |inr e=>have:=ih e;omega
def Tv{α:Type}{f:α->Nat}(hf:∀a,1<=f a)(L:List α):L.length<=jV (L.map f):=by
 induction L with
 |nil=>exact Ky _
 |cons x L ih=>have:=hf x;simp only[jD,jV,dX];omega
def eg.nil:eg Unit:=⟨λ_=>[],λ_=>0,λ_=>True⟩
def eg.cons{α β:Type}(a:eg α)(b:eg β):eg (α×β):=⟨λx=>a.pc x.1++b.pc x.2,λx=>a.bk x.1+b.bk x.2,λx=>a.ok x.1/\b.ok x.2⟩
def eg.st{α β:Type}(a:eg α)(f:β->α):eg β:=⟨λx=>a.pc (f x),λx=>1+a.bk (f x),λx=>a.ok (f x)⟩
def nx(H:AH):Env:=⟨H,λid=>(H.b id).isSome=Z,λ_=>ae⟩
def zCr(h:mj H):en (nx H):=⟨h,λid bY=>⟨rfl,λhg=>by
 cases hb:H.b id with
 |none=>simp[nx,hb]at hg
 |some k=>
  have:=h id k hb;have bY:H.n<=id:=bY
  omega⟩⟩
def zC7{H':AH}(h:fj H H'):GK (nx H) (nx H'):=λid hg=>by
 cases hb:H.b id with
 |none=>simp[nx,hb]at hg
 |some k=>
  refine⟨by simp[nx,h.2 id k hb],λk' hk'=>⟨k',?_,rfl⟩⟩;exact h.2 id k' hk'
def Vm{H':AH}(h:fj H H'){x:PV}{v:Value}(hx:PR (nx H) ae x v):PR (nx H') ae x v:=hx.move (zC7 h) (l':=ae) True.intro
section
variable {P:Program}{X:Type}{enc:TypeId×Value->X}{W:World}{α β:Type}
def CR(s:eg α)(ub:DataW X->Nat)(H:AH)(as:List Value)(a:α)(d:DataW X):Prop:=
 (as.length=(s.pc a).length/\(s.bk a<=4611686018427387904->∀(j:Nat) (x:PV) (y:Value),(s.pc a)[j]? =J x->as[j]? =J y->PR (nx H) ae x y))/\s.ok a/\s.bk a<=ub d
def CR.mono{s:eg α}{ub:DataW X->Nat}(H H':AH)(y:List Value)(a:α)(d:DataW X)(h:CR s ub H y a d)(he:fj H H'):CR s ub H' y a d:=
 ⟨⟨h.1.1,λhb j x y h1 h2=>Vm he (h.1.2 hb j x y h1 h2)⟩,h.2⟩
structure Ub (ub:DataW X->Nat):Prop where
 one:∀d,1<=ub d
 sl:∀D sp,1+jV (D.map ub)<=ub (.slice D sp)
 agg:∀D,1+jV (D.map ub)<=ub (.agg D)
 str:∀(s:List UInt8),s.length+1<=ub (.lit (.string s))
variable {ub:DataW X->Nat}
def zDe{t:TypeId}{k:IntKind}(hu:Ub ub)(ht:P.underlying t=J (.int k)):Ce X enc P W t Int (CR (eg.int k) ub):=by
 intro m H ib cs x r lX h;obtain⟨n,rfl,rfl,hw⟩:=DataW.trod_int ht h;refine⟨m,H,[.int k n],n,r,lX,m.le_refl,.refl H,.cons (.int k n) (.nil m),⟨rfl,λ_ j x y h1 h2=>?_⟩,hw,hu.one _⟩;cases j with
 |zero=>simp[eg.int]at h1 h2;subst h1;subst h2;exact .int k n
 |succ j=>simp[eg.int]at h1
def zCp{s:eg α}{L:List α}{D:List (DataW X)}(hl:D.length=L.length)(h:∀(i:Nat) (a:α),L[i]? =J a->∃d,D[i]? =J d/\s.bk a<=ub d):jV (L.map s.bk)<=jV (D.map ub):=by
 induction L generalizing D with
 |nil=>exact Ky _
 |cons a L ih=>
  cases D with
  |nil=>simp at hl
  |cons d D=>
   obtain⟨d',h1,h2⟩:=h 0 a rfl;simp at h1;subst h1
   have:=ih (D:=D) (by simpa using hl) λi b hb=>by
    obtain⟨d',h1,h2⟩:=h (i+1) b (by simpa using hb);exact⟨d',by simpa using h1,h2⟩
   simp only[jD,jV];omega
def zFP{t e:TypeId}{es:Nat}{s:eg α}(hu:Ub ub)(ht:P.underlying t=J (.slice e))(hc:P.cellsOf e=es)(h0:0<es)(hs:∀a,(s.pc a).length=es)(eG:∀a,1<=s.bk a)(hr:Ce X enc P W e α (CR s ub)):Ce X enc P W t (List α) (CR (eg.sl es s) ub):=by
 intro m H ib cs x r lX h;obtain⟨m1,H1,p,c,da,L,D,r1,pe,wz,ext1,hv1,hS,hd⟩:=zuA ht hc h0 CR.mono hr r lX h;refine⟨m1,H1,_,L,r1,pe,wz,ext1,hv1,⟨rfl,λIw j x y h1 h2=>?_⟩,λa ha=>?_,?_⟩
 ·cases j with
  |succ j=>simp[eg.sl]at h1
  |zero=>
   simp only[eg.sl,Acf,aT]at h1 h2;subst h1;subst h2;have Iw:1+jV (L.map s.bk)<=4611686018427387904:=Iw;have hlm:L.length<=kj:=by have:=Tv eG L;unfold kj;omega
   rcases hS.s with⟨rfl,rfl⟩|⟨id,k,rfl,Oe,hb,dN⟩
   ·have:=hS.z rfl;subst this;exact .sl0 aa es
   ·refine .jM (off:=0) (k:=k) (by simp[nx,hb]) hb (by simp) Oe hlm (λrw bc=>?_) ⟨by omega,?_⟩ λi rw j x y g1 g2 g3=>?_
    ·obtain⟨a,_,rfl⟩:=jE.1 bc;exact hs a
    ·rw[dN,Qy hS.es,hS.l];omega
    ·rw[Da]at g1;cases ha:L[i]? with
     |none=>rw[ha]at g1;cases g1
     |some a=>
      rw[ha]at g1;simp only[l9,aT]at g1;subst g1;have hi:i<da.length:=by rw[hS.l];exact(cT.1 ha).1
      obtain⟨d,_,hR⟩:=hS.e i _ a (cE hi) ha;have hj:j<es:=by rw[<-hs a];exact(cT.1 g2).1
      rw[gk,dN,Oh hS.es (cE hi) hj]at g3;exact hR.1.2 (by have:=zBU (f:=s.bk) (eo ha);omega) j x y g2 g3
 ·obtain⟨i,hi⟩:=Oy ha;have hlt:i<da.length:=by rw[hS.l];exact(cT.1 hi).1
  obtain⟨d,_,hR⟩:=hS.e i _ a (cE hlt) hi;exact hR.2.1
 ·rcases hd with⟨e1,e2⟩|⟨sp,e1⟩
  ·have hD:=hS.d;subst e2;have:L=[]:=mK (by simpa using hD.symm);subst this;exact hu.one _
  ·rw[e1];have h1:=hu.sl D sp
   have h2:=zCp (s:=s) (ub:=ub) (L:=L) (D:=D) hS.d λi a ha=>by
    have hlt:i<da.length:=by rw[hS.l];exact(cT.1 ha).1
    obtain⟨d,h1,hR⟩:=hS.e i _ a (cE hlt) ha;exact⟨d,h1,hR.2.2⟩
   show 1+jV (L.map s.bk)<=_;omega
def Zb(X:Type)(enc:TypeId×Value->X)(P:Program)(W:World)(ib:Nat):List (TypeId×Nat)->List Value->List (DataW X×List MemPlace)->Prop
 |[],cs,xs=>cs=[]/\xs=[]
 |f::fs,cs,xs=>∃x uv,xs=x::uv/\(cs.take f.2).length=f.2/\DataW.trod enc P W 0 (λ_=>Z) Z ib f.1 (cs.take f.2)=J x/\Zb X enc P W ib fs (cs.drop f.2) uv
def zRO(X:Type)(enc:TypeId×Value->X)(P:Program)(W:World)(fs:List (TypeId×Nat))(α:Type)(s:eg α)(ub:DataW X->Nat):Prop:=
 ∀{m:Mu}{H:AH}{ib:Nat}{cs:List Value}{xs:List (DataW X×List MemPlace)},fX m H W->RO H->Zb X enc P W ib fs cs xs->
  ∃m' H' as a,fX m' H' W/\RO H'/\m.le m'/\fj H H'/\Vl m' as cs/\(as.length=(s.pc a).length/\(s.bk a<=4611686018427387904->∀(j:Nat) (x:PV) (y:Value),(s.pc a)[j]? =J x->as[j]? =J y->PR (nx H') ae x y))/\s.ok a/\s.bk a<=jV (xs.map λx=>ub x.1)
end
end Go.Pm
