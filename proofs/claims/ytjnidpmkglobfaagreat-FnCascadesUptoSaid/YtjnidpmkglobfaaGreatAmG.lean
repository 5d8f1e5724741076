import Derived.Test.YtjnidpmkglobfaaGreatAmF
open Option renaming none→aa,some→J
open Bool renaming true→O
set_option linter.defProp false
namespace Go.Am
def fE:=@List.getElem?_append_left
def f9:=@List.getElem?_append_right
def gO:=@List.append_assoc
def HJ:=@List.getElem?_toArray
def Me:=@List.getElem?_take_of_lt
section
variable {c:rV}{m:Mu}{Y:FR}{H:AH}{a:Act}{w:World}{P:Program}
variable{cells:List Value}{e:TypeId}
def aT.RR(r:aT c m Y H a w){B:Nat}(g:Array Value)(u:∀id k,H.b id=J k->(m.f id).bn≠B)(p:∀t,cP Y a.tmps t≠J B)(v:c.A B):
 aT c m Y H a (w.setRow B g):=by
 refine⟨⟨r.h.n,r.h.lt,λid k h=>?_,r.h.apart⟩,λt=>?_,r.d,r.sz,r.own,r.apart,r.lR,r.jB,λb j q=>?_,by simpa using r.grow,r.m9,r.mU,r.mD,r.le,r.io.setRow _ _⟩
 ·obtain⟨cs,e,s,d,i⟩:=r.h.cells id k h;exact⟨cs,e,s,(setRow_other w B _ g (u id k h)).trans d,i⟩
 ·have f:=r.f t;unfold RF at f⊢;split at f
  ·exact f
  ·exact f
  ·rename_i cells o;obtain⟨b,cs,e,d,i,n⟩:=f;have j:b≠B:=λl=>p t (by rw[<-l];simp[cP,o,d])
   exact⟨b,cs,e,d,(setRow_other w B b g j).trans i,n⟩
  ·rename_i z y cells o;obtain⟨b,cs,e,d,i,n⟩:=f;have j:b≠B:=λl=>p t (by rw[<-l];simp[cP,o,d])
   exact⟨b,cs,e,d,(setRow_other w B b g j).trans i,n⟩
  ·exact f
 ·have x:b≠B:=λe=>q (e▸v)
  exact(setRow_other w B b g x).trans (r.ej b j q)
def aT.kill(r:aT c m Y H a w)(id:Nat):aT c m Y (H.set id aa) a w:=by
 have d:∀i k,(H.set id aa).b i=J k->i≠id/\H.b i=J k:=by
  intro i k h;simp only[AH.set]at h;split at h
  ·cases h
  ·exact⟨‹_›,h⟩
 exact⟨⟨r.h.n,λi k h=>r.h.lt i k (d i k h).2,λi k h=>r.h.cells i k (d i k h).2,λi j f g l n=>r.h.apart i j f g (d i f l).2 (d j g n).2⟩,
  r.f,r.d,r.sz,r.own,λt b i k h o=>r.apart t b i k h (d i k o).2,r.lR,λi k h=>r.jB i k (d i k h).2,r.ej,r.grow,r.m9,λi k h=>r.mU i k (d i k h).2,r.mD,r.le,r.io⟩
def aT.a4Y(r:aT c m Y H a w){id:Nat}(x:id<H.n){cs:Array Value}(z:w.heap[(m.f id).bn]? =J (.cells cs e (0,0)))
(A:(m.f id).base+(m.f id).size<=cs.size)(B:cells.length<=(m.f id).size)(C:∀(i:Nat) (v:Value),cells[i]? =J v->∃c,cs[(m.f id).base+i]? =J c/\V m v c)
(p:∀i k,H.b i=J k->(m.f i).bn≠(m.f id).bn)(D:∀t,cP Y a.tmps t≠J (m.f id).bn)(E:c.A (m.f id).bn)(y:c.S (m.f id).bn):
 aT c m Y (H.set id (J ⟨O,cells⟩)) a w:=by
 have d:∀i k,(H.set id (J ⟨O,cells⟩)).b i=J k->(i=id/\k=⟨O,cells⟩)\/(i≠id/\H.b i=J k):=by
  intro i k h;simp only[AH.set]at h;split at h
  ·cases h;exact .inl ⟨‹_›,rfl⟩
  ·exact .inr ⟨‹_›,h⟩
 refine⟨⟨r.h.n,λi k h=>?_,λi k h=>?_,λi j o g F s u n=>?_⟩,r.f,r.d,r.sz,r.own,λt b i k h G=>?_,r.lR,λi k h n=>?_,r.ej,r.grow,r.m9,λi k h=>?_,r.mD,r.le,r.io⟩
 ·rcases d i k h with⟨rfl,_⟩|⟨_,h⟩
  ·exact x
  ·exact r.h.lt i k h
 ·rcases d i k h with⟨rfl,rfl⟩|⟨_,h⟩
  ·exact⟨cs,e,(0,0),z,A,B,λ_=>rfl,C⟩
  ·exact r.h.cells i k h
 ·rcases d i o F with⟨rfl,rfl⟩|⟨_,q⟩
  ·rcases d j g s with⟨rfl,_⟩|⟨_,l⟩
   ·exact absurd rfl u
   ·exact λe=>p j g l e.symm
  ·rcases d j g s with⟨rfl,rfl⟩|⟨_,l⟩
   ·exact p i o q
   ·exact r.h.apart i j o g q l u n
 ·rcases d i k G with⟨rfl,rfl⟩|⟨_,f⟩
  ·exact λe=>D t (by rw[e];exact h)
  ·exact r.apart t b i k h f
 ·rcases d i k h with⟨rfl,rfl⟩|⟨_,f⟩
  ·exact E
  ·exact r.jB i k f n
 ·rcases d i k h with⟨rfl,rfl⟩|⟨_,f⟩
  ·exact y
  ·exact r.mU i k f
def aT.push(r:aT c m Y H a w){l:Loc}{cs:Array Value}(q:w.heap[l.bn]? =J (.cells cs e (0,0)))(s:l.base+l.size<=cs.size)
(u:cells.length<=l.size)(x:∀(i:Nat) (v:Value),cells[i]? =J v->∃c,cs[l.base+i]? =J c/\V m v c)
(y:∀i k,H.b i=J k->(m.f i).bn≠l.bn)(z:∀t,cP Y a.tmps t≠J l.bn)(A:c.A l.bn)(p:c.S l.bn):
 aT c (m.push l) Y (H.push ⟨O,cells⟩) a w:=by
 have g:=m.N6 l;have n:(m.push l).f H.n=l:=by rw[<-r.h.n];exact m.zQ l
 have j:∀i k,(H.push ⟨O,cells⟩).b i=J k->(i=H.n/\k=⟨O,cells⟩)\/((m.push l).f i=m.f i/\H.b i=J k):=by
  intro i k h;simp only[AH.push]at h;split at h
  ·cases h;exact .inl ⟨‹_›,rfl⟩
  ·exact .inr ⟨g.2 i (by rw[r.h.n];exact r.h.lt i k h),h⟩
 refine⟨r.h.push q s u (λ_=>rfl) x (λi k h _=>y i k h),λt=>(r.f t).mono g,r.d,r.sz,r.own,λt b i k h B=>?_,r.lR,λi k h o=>?_,r.ej,r.grow,r.m9,λi k h=>?_,r.mD,Mu.le_trans r.le g,r.io⟩
 ·rcases j i k B with⟨rfl,rfl⟩|⟨d,f⟩
  ·rw[n];exact λe=>z t (by rw[e];exact h)
  ·rw[d];exact r.apart t b i k h f
 ·rcases j i k h with⟨rfl,rfl⟩|⟨d,f⟩
  ·rw[n];exact A
  ·rw[d];exact r.jB i k f o
 ·rcases j i k h with⟨rfl,rfl⟩|⟨d,f⟩
  ·rw[n];exact p
  ·rw[d];exact r.mU i k f
def aT.a5w(r:aT c m Y H a w){s b:Nat}{o:List Value}{D d:Array Value}(B:Y s=.loc cells)(C:a.tmps.getD s undef=.pointer (J ⟨b,0,aa⟩))
(N:w.heap[b]? =J (.cells D e (0,0)))(Q:Vl m o d.toList):aT c m (Y.put s (.loc o)) H a (w.setRow b d):=by
 have u:cP Y a.tmps s=J b:=by simp[cP,B,C]
 have p:∀t,cP (Y.put s (.loc o)) a.tmps t=cP Y a.tmps t:=by
  intro t;by_cases e:t=s
  ·subst e;simp only[cP,j6,B,C]
  ·simp only[cP,pO Y _ e]
 have S:∀(t j:_),(Y.put s (.loc o)) t=.loc j->∃x,Y t=.loc x:=by
  intro t j h;by_cases e:t=s
  ·subst e;exact⟨_,B⟩
  ·rw[pO Y _ e]at h;exact⟨_,h⟩
 refine⟨⟨r.h.n,r.h.lt,λid k h=>?_,r.h.apart⟩,λt=>?_,r.d,r.sz,λt E b h I=>r.own t E b (p t▸h) (p E▸I),λt b id k h=>r.apart t b id k (p t▸h),λt b h=>r.lR t b (p t▸h),r.jB,
  λy G M=>?_,by simpa using r.grow,r.m9,r.mU,r.mD,r.le,r.io.setRow _ _⟩
 ·obtain⟨cs,e,F,g,l⟩:=r.h.cells id k h;exact⟨cs,e,F,(setRow_other w b _ d (r.apart s b id k u h)).trans g,l⟩
 ·by_cases q:t=s
  ·subst q;unfold RF;simp only[j6];exact⟨b,d,e,C,setRow_heap w b D d e (0,0) N,Q⟩
  ·have i:=r.f t;unfold RF at i⊢;rw[pO Y _ q];split at i
   ·exact i
   ·exact i
   ·rename_i j v;obtain⟨f,cs,e,g,l,A⟩:=i;have n:f≠b:=λz=>q (r.own t s b (by rw[<-z];simp[cP,v,g]) u)
    exact⟨f,cs,e,g,(setRow_other w b f d n).trans l,A⟩
   ·rename_i U T j v;obtain⟨f,cs,e,g,l,A⟩:=i;have n:f≠b:=λz=>q (r.own t s b (by rw[<-z];simp[cP,v,g]) u)
    exact⟨f,cs,e,g,(setRow_other w b f d n).trans l,A⟩
   ·rename_i R off v;intro j K;obtain⟨x,L⟩:=S R j K;exact i x L
 ·have n:y≠b:=λe=>by have:=r.lR s b u;omega
  exact(setRow_other w b y d n).trans (r.ej y G M)
def aT.call(r:aT c m Y H a w){p:Mu}{s:AH}{q:World}(h:gf p s q)(z:m.le p)(o:IQ m H w q)(d:VY m H w p s):aT c p Y s a q:=by
 have C:∀t b,cP Y a.tmps t=J b->q.heap[b]? =w.heap[b]? :=λt b n=>o.2.1 b (r.D7 n) λid k g _=>r.apart t b id k n g
 refine⟨h,λt=>?_,r.d,r.sz,r.own,λt b id k n g=>?_,r.lR,λid k g u=>?_,λb B A=>?_,ii r.grow o.1,r.m9,λid k g=>?_,r.mD,Mu.le_trans r.le z,r.io.call o.2.2⟩
 ·have d:=(r.f t).mono z;unfold RF at d⊢;split at d
  ·exact d
  ·exact d
  ·rename_i cells y;obtain⟨b,cs,e,j,v,x⟩:=d;exact⟨b,cs,e,j,(C t b (by simp[cP,y,j])).trans v,x⟩
  ·rename_i F E cells y;obtain⟨b,cs,e,j,v,x⟩:=d;exact⟨b,cs,e,j,(C t b (by simp[cP,y,j])).trans v,x⟩
  ·exact d
 ·rcases d id k g with f|⟨i,k0,f,l,_⟩
  ·have:=r.D7 n;omega
  ·rw[<-l];exact r.apart t b i k0 n f
 ·rcases d id k g with f|⟨i,k0,f,l,D⟩
  ·exact r.m9 _ (ii r.grow f)
  ·rw[<-l];exact r.jB i k0 f (D u)
 ·rw[o.2.1 b (BS B r.grow) λid k g u e=>A (e▸r.jB id k g u)];exact r.ej b B A
 ·rcases d id k g with f|⟨i,k0,f,l,_⟩
  ·exact r.mD _ (ii r.grow f)
  ·rw[<-l];exact r.mU i k0 f
def aT.weaken(r:aT c m Y H a w){g:FR}(l:Zb g Y):aT c m g H a w:=by
 have f:∀t b,cP g a.tmps t=J b->cP Y a.tmps t=J b:=by
  intro t b h;rcases l t with e|e
  ·simpa only[cP,e]using h
  ·simp[cP,e,jv]at h
 refine⟨r.h,λt=>?_,r.d,r.sz,λt o b h n=>r.own t o b (f _ _ h) (f _ _ n),λt b id k h=>r.apart t b id k (f _ _ h),λt b h=>r.lR t b (f _ _ h),r.jB,r.ej,r.grow,r.m9,r.mU,r.mD,r.le,r.io⟩;rcases l t with e|e
 ·have d:=r.f t;unfold RF at d⊢;rw[e];split at d
  ·exact d
  ·exact d
  ·exact d
  ·exact d
  ·rename_i s off _;intro cells j;rcases l s with i|i
   ·exact d cells (i▸j)
   ·rw[i]at j;cases j
 ·unfold RF;rw[e];exact .az _
def zx3{b:Array Value}{base p:Nat}{k n g:List Value}{d:List Value}{off:Nat}(C:base+p<=b.size)(A:k.length<=p)
(h:∀(i:Nat) (v:Value),k[i]? =J v->∃c,b[base+i]? =J c/\V m v c)(q:gk k off g=J n)(o:Vl m g d)(u:g≠[]):
 base+off+d.length<=b.size/\n.length=k.length/\(b.toList.take (base+off)++d++b.toList.drop (base+off+d.length)).toArray.size=b.size/\
  ∀(i:Nat) (v:Value),n[i]? =J v->∃c,(b.toList.take (base+off)++d++b.toList.drop (base+off+d.length)).toArray[base+i]? =J c/\V m v c:=by
 rcases LU q with⟨e,_⟩|⟨x,rfl⟩
 ·exact absurd e u
 ·have B:=o.1;have t:base+off+d.length<=b.size:=by omega
  refine⟨t,by simp;omega,by simp;omega,λi v f=>?_⟩;have D:b.toList.length=b.size:=xI;by_cases s:i<off
  ·rw[gO,fE (by simp;omega),Me s]at f;obtain⟨y,l,j⟩:=h i v f;refine⟨y,?_,j⟩;rw[HJ,gO,fE (by simp;omega),Me (by omega)];simpa using l
  ·by_cases z:i<off+g.length
   ·rw[gO,f9 (by simp;omega),fE (by simp;omega)]at f;obtain⟨y,l,j⟩:=o.get f;refine⟨y,?_,j⟩;rw[HJ,gO,f9 (by simp;omega),fE (by simp;omega),<-l];congr 1;simp;omega
   ·rw[gO,f9 (by simp;omega),f9 (by simp;omega),jq]at f;have e:off+g.length+(i-(k.take off).length-g.length)=i:=by simp;omega
    rw[e]at f;obtain⟨y,l,j⟩:=h i v f;refine⟨y,?_,j⟩;rw[HJ,gO,f9 (by simp;omega),f9 (by simp;omega),jq];have r:base+off+d.length+(base+i-(b.toList.take (base+off)).length-d.length)=base+i:=by simp;omega
    rw[r];simpa using l
end
end Go.Am
