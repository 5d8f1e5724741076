import Derived.Test.YtjnidpmkglobfaaGreatPmW
import Derived.ChangeSlices
import Derived.ChangeArms
import Derived.DataReads
import Derived.RowKit3
open Bool renaming false→Z,true→O
open Option renaming none→aa,some→J
set_option linter.defProp false
namespace Go.Am
open Go.Pm
def a5N:=@List.getElem?_cons_zero
variable{H:AH}{b:mP}
def zsX(c:mF H):fL H (H.push b):=⟨Eu _,λid k a=>by
 have:=c id k a;simp only[AH.push]
 rw[aA (by omega)];exact a⟩
def zBi(h:mF H):mF (H.push b):=by
 intro id k a;simp only[AH.push]at a⊢;split at a
 ·omega
 ·have:=h id k a;omega
def zwM :(H.push b).b H.n=J b:=by simp[AH.push]
def zrX{d:Nat}:∀{c:List (List Value)}(_:∀e,e∈c->e.length=d) (i:Nat),c.flatten.drop (i*d)=(c.drop i).flatten:=by
 intro c;induction c with
 |nil=>intro _ i;simp
 |cons a l ih=>
  intro h i;cases i with
  |zero=>simp
  |succ i=>
   have g:=h a (qQ ..)
   rw[HK,kf,Qs,List.drop_append,List.drop_eq_nil_of_le (by omega),nb,a5G,
    <-ih (λe f=>h e (oH _ f))]
   congr 1;omega
def Tl{d:Nat}:∀{c:List (List Value)}(_:∀e,e∈c->e.length=d),c.flatten.length=c.length*d:=by
 intro c;induction c with
 |nil=>intro _;simp
 |cons a l ih=>
  intro h;rw[HK,cy,h a (qQ ..),ih (λe f=>h e (oH _ f)),fG,kf];omega
def RO(H:AH):Prop:=∀id k,H.b id=J k->k.rw=Z
def RO.push{as:List Value}(h:RO H):RO (H.push ⟨Z,as⟩):=by
 intro id k a;simp only[AH.push]at a;split at a
 ·cases a;rfl
 ·exact h id k a
def Mu.put(m:Mu)(l:Loc):Mu:=⟨m.n+1,λi=>if i=m.n then l else m.f i⟩
def Mu.a0Y(m:Mu)(l:Loc):m.le (m.put l):=⟨Eu _,λi a=>by simp only[Mu.put];rw[aA (by omega)]⟩
def zAD{m:Mu}{w:World}{g off f:Nat}{as:List Value}{cs:Array Value}{e:TypeId}{s:Nat×Nat}(r:gf m H w)(K:RO H)(E:w.heap[g]? =J (.cells cs e s))(y:off+f<=cs.size)
(F:as.length<=f)(I:∀i v,as[i]? =J v->∃c,cs[off+i]? =J c/\V m v c):gf (m.put ⟨g,off,f⟩) (H.push ⟨Z,as⟩) w:=by
 have n:=m.a0Y ⟨g,off,f⟩;refine⟨by simp only[Mu.put,AH.push];rw[r.n],λid k d=>zBi r.lt id k d,λid k d=>?_,λi j t L l M N q=>?_⟩
 ·simp only[AH.push]at d;split at d
  ·rename_i x;cases d;have:((m.put ⟨g,off,f⟩).f id)=⟨g,off,f⟩:=by simp only[Mu.put];rw[aE (by rw[r.n,x])]
   rw[this];refine⟨cs,e,s,E,y,F,λh=>(by cases h),λi v l=>?_⟩;obtain⟨c,o,p⟩:=I i v l;exact⟨c,o,p.mono n⟩
  ·have G:=r.lt id k d;have:((m.put ⟨g,off,f⟩).f id)=m.f id:=n.2 id (by rw[r.n];exact G);rw[this];obtain⟨z,u,A,o,p,B,C,D⟩:=r.cells id k d;exact⟨z,u,A,o,p,B,C,λi v l=>by obtain⟨c,a,b⟩:=D i v l;exact⟨c,a,b.mono n⟩⟩
 ·have:=K.push (as:=as) i t l;rw[this]at q;cases q
section
variable {P:Program}{X:Type}{enc:TypeId×Value->X}{W:World}
def B8(X:Type)(enc:TypeId×Value->X)(P:Program)(W:World)(t:TypeId)(α:Type)(R:AH->List Value->α->DataW X->Prop):Prop:=
 ∀{m:Mu}{H:AH}{f:Nat}{cs:List Value}{x:DataW X×List MemPlace},gf m H W->RO H->DataW.trod enc P W 0 (λ_=>O) O f t cs=J x->
  ∃d c e a,gf d c W/\RO c/\m.le d/\fL H c/\Vl d e cs/\R c e a x.1
def Sv{w:World}{a:Addr}{v:Value}(h:w.cell? a=J v):∃cs e c,w.heap[a.block]? =J (.cells cs e c)/\a.spot=aa/\cs[a.off]? =J v:=by
 unfold World.cell? at h;split at h
 ·rename_i cs e c d;split at h
  ·cases h
  ·rename_i f;exact⟨cs,e,c,d,by simpa using f,h⟩
 ·cases h
def zL(a:Addr)(n:Nat):(a.add n).off=a.off+n/\(a.add n).block=a.block:=by
 unfold Addr.add;split
 ·rename_i h;subst h;exact⟨rfl,rfl⟩
 ·exact⟨rfl,rfl⟩
structure SlR {α:Type}(R:AH->List Value->α->DataW X->Prop) (H:AH) (es:Nat) (p:Option Addr) (c:Nat) (dp:List (List Value)) (L:List α) (D:List (DataW X)):Prop where
 s:(p=aa/\c=0)\/∃id k,p=J ⟨id,0,J es⟩/\L.length<=c/\H.b id=J k/\k.cells=dp.flatten
 z:p=aa->L=[]
 es:∀e,e∈dp->e.length=es
 l:dp.length=L.length
 d:D.length=L.length
 e:∀(i:Nat) (y:List Value) (a:α),dp[i]? =J y->L[i]? =J a->∃d,D[i]? =J d/\R H y a d
def zt7{tx1 e:TypeId}{es:Nat}{α:Type}{R:AH->List Value->α->DataW X->Prop}(ht:P.underlying tx1=J (.slice e))(hc:P.cellsOf e=es)(h0:0<es)
(a1i:∀H l y a d,R H y a d->fL H l->R l y a d)(hr:B8 X enc P W e α R):
 ∀{m:Mu}{H:AH}{iQ:Nat}{cs:List Value}{x:DataW X×List MemPlace},gf m H W->RO H->DataW.trod enc P W 0 (λ_=>O) O iQ tx1 cs=J x->
 ∃u l px1 c g L D,gf u l W/\RO l/\m.le u/\fL H l/\Vl u [.slice px1 L.length c] cs/\SlR R l es px1 c g L D/\(x.1=.nil/\D=[]\/∃sp,x.1=.slice D sp):=by
 intro m H iQ cs x rx1 mf h;rcases DataW.trod_slice ht h with⟨rfl,rfl⟩|⟨a,p,cap,w,dJ,n,rfl,rfl,rfl,t,Qi,gZ,hlen,Q,D8,_⟩
 ·refine⟨m,H,aa,0,[],[],[],rx1,mf,m.le_refl,.refl H,.cons (.mV aa) (.nil m),⟨.inl ⟨rfl,rfl⟩,λ_=>rfl,λ_ h=>(by cases h),rfl,rfl,λi y a h=>(by simp at h)⟩,.inl ⟨rfl,rfl⟩⟩
 ·obtain⟨fJ,U⟩:=D8 rfl;rw[hc]at Q U;by_cases rW:cap=0
  ·subst rW;have:p=0:=by omega
   subst this;have:w=[]:=na hlen;subst this;refine⟨m,H,aa,0,[],[],[],rx1,mf,m.le_refl,.refl H,.cons (.mV _) (.nil m),⟨.inl ⟨rfl,rfl⟩,λ_=>rfl,λ_ h=>(by cases h),rfl,rfl,λi y a h=>(by simp at h)⟩,.inr ⟨_,rfl⟩⟩
  ·
   have NC:∃r,W.cells? 0 (a.add ((cap-1)*es)) es=J r:=by
    by_cases tA:p=cap
    ·have:=Q (cap-1) (by omega);have s:cap-1<w.length:=by omega
     rw[cI s]at this;obtain⟨r,k,_⟩:=bT.1 this;exact⟨r,k⟩
    ·have:=U (cap-1-p) (by omega);have s:cap-1-p<dJ.length:=by omega
     rw[cI s]at this;obtain⟨r,k,_⟩:=bT.1 this;rw[show p+(cap-1-p)=cap-1 by omega]at k;exact⟨r,k⟩
   obtain⟨cl,ie⟩:=NC;have a5D:=(World.cells?_some ie)
   have a40:es-1<cl.length:=by omega
   have I:=a5D.2.2 (es-1) (by omega);rw[cI a40]at I;obtain⟨YQ,ety,fz,T,_,a0g⟩:=Sv I;rw[(zL _ _).2,(zL _ _).2]at T;rw[(zL _ _).1,(zL _ _).1]at a0g
   have Je:(cap-1)*es+es=cap*es:=by
    rw[<-kf];congr 1;omega
   have eN:a.off+cap*es<=YQ.size:=by
    have:=(BU.1 a0g).1;omega
   have build:∀i,i<=p->∃(u:Mu) (l:AH) (g:List (List Value)) (L:List α),gf u l W/\RO l/\m.le u/\fL H l/\g.length=i/\L.length=i/\
    (∀(j:Nat) (y:List Value) (b:α),g[j]? =J y->L[j]? =J b->∃d,(w.map (·.1))[j]? =J d/\R l y b d)/\
    (∀(j:Nat) (y:List Value),g[j]? =J y->y.length=es/\∀(q:Nat) (v:Value),y[q]? =J v->∃c,YQ[a.off+(j*es+q)]? =J c/\V u v c):=by
    intro i;induction i with
    |zero=>intro _;exact⟨m,H,[],[],rx1,mf,m.le_refl,.refl H,rfl,rfl,λj y b h=>(by simp at h),λj y h=>(by simp at h)⟩
    |succ i ih=>
     intro hi;obtain⟨G,S,g,L,z,N,za,ext1,M,F,hR,K⟩:=ih (by omega);have he:=Q i (by omega);have s:i<w.length:=by omega
     rw[cI s]at he;obtain⟨ci,JA,htr⟩:=bT.1 he;obtain⟨m2,H2,as,b,r2,Rv,IY,a0e,Yc,hRb⟩:=hr z N htr;have a0y:=World.cells?_some JA;have a2Q:as.length=es:=by rw[Yc.1];exact a0y.2.1
     refine⟨m2,H2,g++[as],L++[b],r2,Rv,Mu.le_trans za IY,ext1.trans a0e,by simp[M],by simp[F],λj y c f t=>?_,λj y f=>?_⟩
     ·by_cases hj:j<i
      ·rw[fE (by omega)]at f t;obtain⟨d,u7,oT⟩:=hR j y c f t;exact⟨d,u7,a1i _ _ _ _ _ oT a0e⟩
      ·rw[f9 (by omega)]at f t
       have hj0:j-g.length=0:=by
        have:=(cY.1 f).1;simp at this;omega
       have an:j-L.length=0:=by omega
       rw[hj0]at f;rw[an]at t;simp at f t;subst f;subst t;have yQ:j=i:=by omega
       refine⟨_,?_,hRb⟩;rw[yQ,Ex,cI s];rfl
     ·by_cases hj:j<i
      ·rw[fE (by omega)]at f;obtain⟨k,B⟩:=K j y f;exact⟨k,λq v E=>by obtain⟨c,C,h4⟩:=B q v E;exact⟨c,C,h4.mono IY⟩⟩
      ·rw[f9 (by omega)]at f
       have hj0:j-g.length=0:=by
        have:=(cY.1 f).1;simp at this;omega
       rw[hj0]at f;simp at f;subst f;have yQ:j=i:=by omega
       subst yQ;refine⟨a2Q,λq v E=>?_⟩;obtain⟨c,I,nP⟩:=Yc.get E;have hql:q<es:=by have:=(cY.1 E).1;omega
       have:=a0y.2.2 q hql;rw[I]at this;obtain⟨b1,b2,b3,eV,_,sQ⟩:=Sv this;rw[(zL _ _).2,(zL _ _).2,T]at eV;cases eV;rw[(zL _ _).1,(zL _ _).1]at sQ;exact⟨c,by rw[<-sQ];congr 1;omega,nP⟩
   obtain⟨G,S,g,L,z,N,za,ext1,M,F,hR,K⟩:=build p (cq _)
   have A:∀y,y∈g->y.length=es:=by
    intro y f;obtain⟨j,hj⟩:=Qy f;exact(K j y hj).1
   have hfl:g.flatten.length<=cap*es:=by
    rw[Tl A,M];exact gN _ Qi
   have r2:=zAD (as:=g.flatten) z N T eN hfl (by
    intro i v hi;have hil:i<g.flatten.length:=(cY.1 hi).1;rw[Tl A]at hil;have UI:i/es<g.length:=a1H (by rw[xJ];exact hil);have hdm:i=(i/es)*es+i%es:=by rw[xJ];exact(QA i es).symm
    have E:i%es<es:=nc _ h0;have hd:=zrX A (i/es);have fa:(g.flatten.drop (i/es*es))[i%es]? =J v:=by rw[jq,<-hdm];exact hi
    rw[hd,a1F UI,HK]at fa;have CD:=A _ (eL UI);rw[fE (by omega)]at fa;obtain⟨c,k,B⟩:=(K (i/es) _ (cI UI)).2 (i%es) v fa
    exact⟨c,by rw[hdm];exact k,B⟩)
   have dA:(G.put ⟨a.block,a.off,cap*es⟩).f G.n=⟨a.block,a.off,cap*es⟩:=by simp[Mu.put]
   have a3H:a=⟨a.block,a.off,aa⟩:=by
    have a2E:∃r,W.cells? 0 (a.add (0*es)) es=J r:=by
     by_cases tA:p=0
     ·have:=U 0 (by omega);have s:0<dJ.length:=by omega
      rw[cI s]at this;obtain⟨r,k,_⟩:=bT.1 this;rw[show p+0=0 by omega]at k;exact⟨r,k⟩
     ·have:=Q 0 (by omega);have s:0<w.length:=by omega
      rw[cI s]at this;obtain⟨r,k,_⟩:=bT.1 this;exact⟨r,k⟩
    obtain⟨cf,hcf⟩:=a2E;have a5F:=World.cells?_some hcf;have C:=a5F.2.2 0 h0;have h4:0<cf.length:=by omega
    rw[cI h4]at C;have e0:(a.add (0*es)).add 0=a:=by simp[Addr.add]
    rw[e0]at C;obtain⟨_,_,_,_,hs,_⟩:=Sv C;obtain⟨b1,b2,b3⟩:=a;simp at hs;subst hs;rfl
   refine⟨_,_,J ⟨S.n,0,J es⟩,p,g,L,w.map (·.1),r2,N.push,Mu.le_trans za (Mu.a0Y _ _),ext1.trans (zsX z.lt),.cons ?_ (.nil _),⟨.inr ⟨S.n,⟨Z,g.flatten⟩,rfl,by omega,zwM,rfl⟩,λh=>(by cases h),A,by rw[M,F],by simp[F,hlen],λj y b f t=>?_⟩,.inr ⟨_,rfl⟩⟩
   ·have:=V.slice (m:=G.put ⟨a.block,a.off,cap*es⟩) (id:=G.n) (off:=0) (es:=es) (n:=L.length) (c:=p) (o:=a.off) (cap:=cap) (by simp[Mu.put]) (by omega) Qi (λ_=>by rw[dA];rfl) (by rw[dA];simp);rw[dA]at this;rw[<-z.n,a3H];rw[F]at this⊢;exact this
   ·obtain⟨d,k,B⟩:=hR j y b f t;exact⟨d,k,a1i _ _ _ _ _ B (zsX z.lt)⟩
def zmE{m:Mu}{H:AH}{c:World}(g:RO H)(f:IQ m H W c):∀b,b<W.heap.size->c.heap[b]? =W.heap[b]? :=
 λb d=>f.2.1 b d λid k e a=>by rw[g id k e]at a;cases a
def zri{m:Mu}{H:AH}{d:World}(h:RO H)(a:IQ m H W d):W.keptBut d (λ_=>False):=by
 have g:=zmE h a;refine⟨a.2.2.os.1,a.2.2.os.2,λi f=>?_⟩;rw[g i f];split
 ·exact⟨by simp_all,by simp_all,by simp_all,λj _=>by simp_all⟩
 ·rename_i e c;rw[e]at c;cases c;exact .inr ⟨rfl,rfl⟩
 ·rfl
def zy0:gf ⟨0,λ_=>⟨0,0,0⟩⟩ ⟨0,λ_=>aa⟩ W:=
 ⟨rfl,λ_ _ h=>(by cases h),λ_ _ h=>(by cases h),λ_ _ _ _ h=>(by cases h)⟩
def zAk:RO ⟨0,λ_=>aa⟩:=λ_ _ h=>(by cases h)
end
end Go.Am
namespace Go.Pm
open Go.Am
structure eC (α:Type) where
 pc:α->List PV
 bk:α->Nat
 ok:α->Prop
def eC.int(k:IntKind):eC Int:=⟨λn=>[.int k n],λ_=>1,λn=>(Lit.int k n).wf=O⟩
def eC.bool:eC Bool:=⟨λn=>[.bool n],λ_=>1,λ_=>True⟩
def eC.str:eC ByteArray:=⟨λn=>[.str n],λs=>s.size+1,λ_=>True⟩
def jR:List Nat->Nat
 |[]=>0
 |x::l=>x+jR l
def eC.sl{α:Type}(a:Nat)(s:eC α):eC (List α):=⟨λl=>[.sl Z a (l.map s.pc)],λl=>1+jR (l.map s.bk),λl=>∀x,x∈l->s.ok x⟩
variable{H:AH}
def zA6{α:Type}{f:α->Nat}{L:List α}{a:α}(h:a∈L):f a<=jR (L.map f):=by
 induction L with
 |nil=>cases h
 |cons x L ih=>
  simp only[jO,jR];cases gp.1 h with
  |inl e=>subst e;omega
  |inr e=>have:=ih e;omega
def QX{α:Type}{f:α->Nat}(c:∀a,1<=f a)(L:List α):L.length<=jR (L.map f):=by
 induction L with
 |nil=>exact Mk _
 |cons x L ih=>have:=c x;simp only[jO,jR,fG];omega
def eC.nil:eC Unit:=⟨λ_=>[],λ_=>0,λ_=>True⟩
def eC.cons{α Y:Type}(a:eC α)(b:eC Y):eC (α×Y):=⟨λx=>a.pc x.1++b.pc x.2,λx=>a.bk x.1+b.bk x.2,λx=>a.ok x.1/\b.ok x.2⟩
def eC.st{α Y:Type}(a:eC α)(f:Y->α):eC Y:=⟨λx=>a.pc (f x),λx=>1+a.bk (f x),λx=>a.ok (f x)⟩
def nY(H:AH):Env:=⟨H,λid=>(H.b id).isSome=O,λ_=>aa⟩
def zCs(h:mF H):ew (nY H):=⟨h,λid a=>⟨rfl,λd=>by
 cases c:H.b id with
 |none=>simp[nY,c]at d
 |some k=>
  have:=h id k c;have a:H.n<=id:=a
  omega⟩⟩
def zB5{a:AH}(h:fL H a):GK (nY H) (nY a):=λid e=>by
 cases c:H.b id with
 |none=>simp[nY,c]at e
 |some k=>
  refine⟨by simp[nY,h.2 id k c],λd f=>⟨d,?_,rfl⟩⟩;exact h.2 id d f
def zsh{a:AH}(h:fL H a){x:PV}{v:Value}(c:PR (nY H) aa x v):PR (nY a) aa x v:=c.move (zB5 h) (l':=aa) True.intro
section
variable {P:Program}{X:Type}{enc:TypeId×Value->X}{W:World}{α Y:Type}
def CR(s:eC α)(ub:DataW X->Nat)(H:AH)(c:List Value)(a:α)(d:DataW X):Prop:=
 (c.length=(s.pc a).length/\(s.bk a<=4611686018427387904->∀(j:Nat) (x:PV) (y:Value),(s.pc a)[j]? =J x->c[j]? =J y->PR (nY H) aa x y))/\s.ok a/\s.bk a<=ub d
def CR.mono{s:eC α}{ub:DataW X->Nat}(H c:AH)(y:List Value)(a:α)(d:DataW X)(h:CR s ub H y a d)(i:fL H c):CR s ub c y a d:=
 ⟨⟨h.1.1,λg j x y e f=>zsh i (h.1.2 g j x y e f)⟩,h.2⟩
structure Ub (ub:DataW X->Nat):Prop where
 one:∀d,1<=ub d
 sl:∀D sp,1+jR (D.map ub)<=ub (.slice D sp)
 agg:∀D,1+jR (D.map ub)<=ub (.agg D)
 str:∀(s:List UInt8),s.length+1<=ub (.lit (.string s))
variable {ub:DataW X->Nat}
def zB7{t:TypeId}{k:IntKind}(e:Ub ub)(d:P.underlying t=J (.int k)):B8 X enc P W t Int (CR (eC.int k) ub):=by
 intro m H i cs x r g h;obtain⟨n,rfl,rfl,f⟩:=DataW.trod_int d h;refine⟨m,H,[.int k n],n,r,g,m.le_refl,.refl H,.cons (.int k n) (.nil m),⟨rfl,λ_ j x y a c=>?_⟩,f,e.one _⟩;cases j with
 |zero=>simp[eC.int]at a c;subst a;subst c;exact .int k n
 |succ j=>simp[eC.int]at a
def zBV{s:eC α}{L:List α}{D:List (DataW X)}(g:D.length=L.length)(h:∀(i:Nat) (a:α),L[i]? =J a->∃d,D[i]? =J d/\s.bk a<=ub d):jR (L.map s.bk)<=jR (D.map ub):=by
 induction L generalizing D with
 |nil=>exact Mk _
 |cons a L ih=>
  cases D with
  |nil=>simp at g
  |cons d D=>
   obtain⟨e,c,f⟩:=h 0 a rfl;simp at c;subst c
   have:=ih (D:=D) (by simpa using g) λi b j=>by
    obtain⟨e,c,f⟩:=h (i+1) b (by simpa using j);exact⟨e,by simpa using c,f⟩
   simp only[jO,jR];omega
def zGo{t e:TypeId}{l:Nat}{s:eC α}(F:Ub ub)(ht:P.underlying t=J (.slice e))(S:P.cellsOf e=l)(Q:0<l)(E:∀a,(s.pc a).length=l)(N:∀a,1<=s.bk a)(hr:B8 X enc P W e α (CR s ub)):B8 X enc P W t (List α) (CR (eC.sl l s) ub):=by
 intro mx1 H iQ cs x rx1 mf h;obtain⟨m1,G,px1,cx1,q,L,D,r1,p6,za,ext1,hv1,c,hd⟩:=zt7 ht S Q CR.mono hr rx1 mf h;refine⟨m1,G,_,L,r1,p6,za,ext1,hv1,⟨rfl,λv j x y n r=>?_⟩,λa g=>?_,?_⟩
 ·cases j with
  |succ j=>simp[eC.sl]at n
  |zero=>
   simp only[eC.sl,a5N,aS]at n r;subst n;subst r;have v:1+jR (L.map s.bk)<=4611686018427387904:=v;have U:L.length<=kA:=by have:=QX N L;unfold kA;omega
   rcases c.s with⟨rfl,rfl⟩|⟨id,k,rfl,I,C,w⟩
   ·have:=c.z rfl;subst this;exact .sl0 Z l
   ·refine .jX (off:=0) (k:=k) (by simp[nY,C]) C (by simp) I U (λrw K=>?_) ⟨by omega,?_⟩ λi rw j x y m A B=>?_
    ·obtain⟨a,_,rfl⟩:=jr.1 K;exact E a
    ·rw[w,Tl c.es,c.l];omega
    ·rw[Ex]at m;cases g:L[i]? with
     |none=>rw[g]at m;cases m
     |some a=>
      rw[g]at m;simp only[mz,aS]at m;subst m;have p:i<q.length:=by rw[c.l];exact(cY.1 g).1
      obtain⟨d,_,o⟩:=c.e i _ a (cI p) g;have T:j<l:=by rw[<-E a];exact(cY.1 A).1
      rw[gD,w,P1 c.es (cI p) T]at B;exact o.1.2 (by have:=zA6 (f:=s.bk) (eD g);omega) j x y A B
 ·obtain⟨i,p⟩:=Qy g;have u:i<q.length:=by rw[c.l];exact(cY.1 p).1
  obtain⟨d,_,o⟩:=c.e i _ a (cI u) p;exact o.2.1
 ·rcases hd with⟨z,M⟩|⟨sp,z⟩
  ·have R:=c.d;subst M;have:L=[]:=na (by simpa using R.symm);subst this;exact F.one _
  ·rw[z];have n:=F.sl D sp
   have r:=zBV (s:=s) (ub:=ub) (L:=L) (D:=D) c.d λi a g=>by
    have u:i<q.length:=by rw[c.l];exact(cY.1 g).1
    obtain⟨d,n,o⟩:=c.e i _ a (cI u) g;exact⟨d,n,o.2.2⟩
   show 1+jR (L.map s.bk)<=_;omega
def ZY(X:Type)(enc:TypeId×Value->X)(P:Program)(W:World)(c:Nat):List (TypeId×Nat)->List Value->List (DataW X×List MemPlace)->Prop
 |[],cs,a=>cs=[]/\a=[]
 |f::e,cs,a=>∃x d,a=x::d/\(cs.take f.2).length=f.2/\DataW.trod enc P W 0 (λ_=>O) O c f.1 (cs.take f.2)=J x/\ZY X enc P W c e (cs.drop f.2) d
def zRG(X:Type)(enc:TypeId×Value->X)(P:Program)(W:World)(g:List (TypeId×Nat))(α:Type)(s:eC α)(ub:DataW X->Nat):Prop:=
 ∀{m:Mu}{H:AH}{h:Nat}{cs:List Value}{f:List (DataW X×List MemPlace)},gf m H W->RO H->ZY X enc P W h g cs f->
  ∃e c d a,gf e c W/\RO c/\m.le e/\fL H c/\Vl e d cs/\(d.length=(s.pc a).length/\(s.bk a<=4611686018427387904->∀(j:Nat) (x:PV) (y:Value),(s.pc a)[j]? =J x->d[j]? =J y->PR (nY c) aa x y))/\s.ok a/\s.bk a<=jR (f.map λx=>ub x.1)
end
end Go.Pm
