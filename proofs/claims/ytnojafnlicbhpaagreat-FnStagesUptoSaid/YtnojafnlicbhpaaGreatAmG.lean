import Derived.Test.YtnojafnlicbhpaaGreatAmF
open Option renaming none→ae,some→J
open Bool renaming true→Z
set_option linter.defProp false
namespace Go.Am
def fw:=@List.getElem?_append_left
def fT:=@List.getElem?_append_right
def gU:=@List.append_assoc
def Gu:=@List.getElem?_toArray
def Kv:=@List.getElem?_take_of_lt
section
variable {c:q9}{m:Mu}{fr:FR}{H:AH}{a:Act}{w:World}{P:Program}
variable{cells:List Value}{e:TypeId}
def aX.Tu(r:aX c m fr H a w){B:Nat}(bF:Array Value)(h1:∀id k,H.b id=J k->(m.f id).bq≠B)(h2:∀t,cK fr a.tmps t≠J B)(h3:c.A B):
 aX c m fr H a (w.setRow B bF):=by
 refine⟨⟨r.h.n,r.h.lt,λid k h=>?_,r.h.apart⟩,λt=>?_,r.d,r.sz,r.own,r.apart,r.k7,r.jm,λb hb hA=>?_,by simpa using r.grow,r.mC,r.mj,r.mI,r.le,r.io.setRow _ _⟩
 ·obtain⟨cs,e,fz,g1,g2⟩:=r.h.cells id k h;exact⟨cs,e,fz,(setRow_other w B _ bF (h1 id k h)).trans g1,g2⟩
 ·have hf:=r.f t;unfold RF at hf⊢;split at hf
  ·exact hf
  ·exact hf
  ·rename_i cells ht;obtain⟨b,cs,e,g1,g2,g3⟩:=hf;have hb:b≠B:=λe'=>h2 t (by rw[<-e'];simp[cK,ht,g1])
   exact⟨b,cs,e,g1,(setRow_other w B b bF hb).trans g2,g3⟩
  ·rename_i len es cells ht;obtain⟨b,cs,e,g1,g2,g3⟩:=hf;have hb:b≠B:=λe'=>h2 t (by rw[<-e'];simp[cK,ht,g1])
   exact⟨b,cs,e,g1,(setRow_other w B b bF hb).trans g2,g3⟩
  ·exact hf
 ·have hne:b≠B:=λe=>hA (e▸h3)
  exact(setRow_other w B b bF hne).trans (r.dZ b hb hA)
def aX.kill(r:aX c m fr H a w)(id:Nat):aX c m fr (H.set id ae) a w:=by
 have hb:∀i k,(H.set id ae).b i=J k->i≠id/\H.b i=J k:=by
  intro i k h;simp only[AH.set]at h;split at h
  ·cases h
  ·exact⟨‹_›,h⟩
 exact⟨⟨r.h.n,λi k h=>r.h.lt i k (hb i k h).2,λi k h=>r.h.cells i k (hb i k h).2,λi j bi bj hi hj=>r.h.apart i j bi bj (hb i bi hi).2 (hb j bj hj).2⟩,
  r.f,r.d,r.sz,r.own,λt b i k h hk=>r.apart t b i k h (hb i k hk).2,r.k7,λi k h=>r.jm i k (hb i k h).2,r.dZ,r.grow,r.mC,λi k h=>r.mj i k (hb i k h).2,r.mI,r.le,r.io⟩
def aX.a1Y(r:aX c m fr H a w){id:Nat}(bY:id<H.n){cs:Array Value}(h1:w.heap[(m.f id).bq]? =J (.cells cs e (0,0)))
(h2:(m.f id).base+(m.f id).size<=cs.size)(h3:cells.length<=(m.f id).size)(h6:∀(i:Nat) (v:Value),cells[i]? =J v->∃c,cs[(m.f id).base+i]? =J c/\V m v c)
(h7:∀i k,H.b i=J k->(m.f i).bq≠(m.f id).bq)(h8:∀t,cK fr a.tmps t≠J (m.f id).bq)(h9:c.A (m.f id).bq)(xD:c.S (m.f id).bq):
 aX c m fr (H.set id (J ⟨Z,cells⟩)) a w:=by
 have hb:∀i k,(H.set id (J ⟨Z,cells⟩)).b i=J k->(i=id/\k=⟨Z,cells⟩)\/(i≠id/\H.b i=J k):=by
  intro i k h;simp only[AH.set]at h;split at h
  ·cases h;exact .inl ⟨‹_›,rfl⟩
  ·exact .inr ⟨‹_›,h⟩
 refine⟨⟨r.h.n,λi k h=>?_,λi k h=>?_,λi j bi bj hi hj hne bc=>?_⟩,r.f,r.d,r.sz,r.own,λt b i k h hk=>?_,r.k7,λi k h bc=>?_,r.dZ,r.grow,r.mC,λi k h=>?_,r.mI,r.le,r.io⟩
 ·rcases hb i k h with⟨rfl,_⟩|⟨_,h⟩
  ·exact bY
  ·exact r.h.lt i k h
 ·rcases hb i k h with⟨rfl,rfl⟩|⟨_,h⟩
  ·exact⟨cs,e,(0,0),h1,h2,h3,λ_=>rfl,h6⟩
  ·exact r.h.cells i k h
 ·rcases hb i bi hi with⟨rfl,rfl⟩|⟨_,hi'⟩
  ·rcases hb j bj hj with⟨rfl,_⟩|⟨_,DL⟩
   ·exact absurd rfl hne
   ·exact λe=>h7 j bj DL e.symm
  ·rcases hb j bj hj with⟨rfl,rfl⟩|⟨_,DL⟩
   ·exact h7 i bi hi'
   ·exact r.h.apart i j bi bj hi' DL hne bc
 ·rcases hb i k hk with⟨rfl,rfl⟩|⟨_,hk'⟩
  ·exact λe=>h8 t (by rw[e];exact h)
  ·exact r.apart t b i k h hk'
 ·rcases hb i k h with⟨rfl,rfl⟩|⟨_,hk'⟩
  ·exact h9
  ·exact r.jm i k hk' bc
 ·rcases hb i k h with⟨rfl,rfl⟩|⟨_,hk'⟩
  ·exact xD
  ·exact r.mj i k hk'
def aX.push(r:aX c m fr H a w){l:Loc}{cs:Array Value}(h1:w.heap[l.bq]? =J (.cells cs e (0,0)))(h2:l.base+l.size<=cs.size)
(h3:cells.length<=l.size)(h6:∀(i:Nat) (v:Value),cells[i]? =J v->∃c,cs[l.base+i]? =J c/\V m v c)
(h7:∀i k,H.b i=J k->(m.f i).bq≠l.bq)(h8:∀t,cK fr a.tmps t≠J l.bq)(h9:c.A l.bq)(xD:c.S l.bq):
 aX c (m.push l) fr (H.push ⟨Z,cells⟩) a w:=by
 have cV:=m.LD l;have hn:(m.push l).f H.n=l:=by rw[<-r.h.n];exact m.yE l
 have hb:∀i k,(H.push ⟨Z,cells⟩).b i=J k->(i=H.n/\k=⟨Z,cells⟩)\/((m.push l).f i=m.f i/\H.b i=J k):=by
  intro i k h;simp only[AH.push]at h;split at h
  ·cases h;exact .inl ⟨‹_›,rfl⟩
  ·exact .inr ⟨cV.2 i (by rw[r.h.n];exact r.h.lt i k h),h⟩
 refine⟨r.h.push h1 h2 h3 (λ_=>rfl) h6 (λi k h _=>h7 i k h),λt=>(r.f t).mono cV,r.d,r.sz,r.own,λt b i k h hk=>?_,r.k7,λi k h bc=>?_,r.dZ,r.grow,r.mC,λi k h=>?_,r.mI,Mu.le_trans r.le cV,r.io⟩
 ·rcases hb i k hk with⟨rfl,rfl⟩|⟨e',hk'⟩
  ·rw[hn];exact λe=>h8 t (by rw[e];exact h)
  ·rw[e'];exact r.apart t b i k h hk'
 ·rcases hb i k h with⟨rfl,rfl⟩|⟨e',hk'⟩
  ·rw[hn];exact h9
  ·rw[e'];exact r.jm i k hk' bc
 ·rcases hb i k h with⟨rfl,rfl⟩|⟨e',hk'⟩
  ·rw[hn];exact xD
  ·rw[e'];exact r.mj i k hk'
def aX.a1c(r:aX c m fr H a w){s b:Nat}{dw:List Value}{bF AP:Array Value}(hs:fr s=.loc cells)(ht:a.tmps.getD s undef=.pointer (J ⟨b,0,ae⟩))
(hb:w.heap[b]? =J (.cells bF e (0,0)))(hv:Vl m dw AP.toList):aX c m (fr.put s (.loc dw)) H a (w.setRow b AP):=by
 have ho:cK fr a.tmps s=J b:=by simp[cK,hs,ht]
 have df:∀t,cK (fr.put s (.loc dw)) a.tmps t=cK fr a.tmps t:=by
  intro t;by_cases e:t=s
  ·subst e;simp only[cK,jJ,hs,ht]
  ·simp only[cK,om fr _ e]
 have xi:∀(t cells2:_),(fr.put s (.loc dw)) t=.loc cells2->∃RJ,fr t=.loc RJ:=by
  intro t cells2 h;by_cases e:t=s
  ·subst e;exact⟨_,hs⟩
  ·rw[om fr _ e]at h;exact⟨_,h⟩
 refine⟨⟨r.h.n,r.h.lt,λid k h=>?_,r.h.apart⟩,λt=>?_,r.d,r.sz,λt t' b h h'=>r.own t t' b (df t▸h) (df t'▸h'),λt b id k h=>r.apart t b id k (df t▸h),λt b h=>r.k7 t b (df t▸h),r.jm,
  λb' gD hA=>?_,by simpa using r.grow,r.mC,r.mj,r.mI,r.le,r.io.setRow _ _⟩
 ·obtain⟨cs,e,fz,g1,g2⟩:=r.h.cells id k h;exact⟨cs,e,fz,(setRow_other w b _ AP (r.apart s b id k ho h)).trans g1,g2⟩
 ·by_cases et:t=s
  ·subst et;unfold RF;simp only[jJ];exact⟨b,AP,e,ht,setRow_heap w b bF AP e (0,0) hb,hv⟩
  ·have hf:=r.f t;unfold RF at hf⊢;rw[om fr _ et];split at hf
   ·exact hf
   ·exact hf
   ·rename_i cells2 uG;obtain⟨b2,cs,e,g1,g2,g3⟩:=hf;have hne:b2≠b:=λe'=>et (r.own t s b (by rw[<-e'];simp[cK,uG,g1]) ho)
    exact⟨b2,cs,e,g1,(setRow_other w b b2 AP hne).trans g2,g3⟩
   ·rename_i len es cells2 uG;obtain⟨b2,cs,e,g1,g2,g3⟩:=hf;have hne:b2≠b:=λe'=>et (r.own t s b (by rw[<-e'];simp[cK,uG,g1]) ho)
    exact⟨b2,cs,e,g1,(setRow_other w b b2 AP hne).trans g2,g3⟩
   ·rename_i s2 off uG;intro cells2 h2;obtain⟨RJ,h3⟩:=xi s2 cells2 h2;exact hf RJ h3
 ·have hne:b'≠b:=λe=>by have:=r.k7 s b ho;omega
  exact(setRow_other w b b' AP hne).trans (r.dZ b' gD hA)
def aX.call(r:aX c m fr H a w){m':Mu}{H':AH}{w':World}(h:fW m' H' w')(cV:m.le m')(hk:JZ m H w w')(hf:PU m H w m' H'):aX c m' fr H' a w':=by
 have hold:∀t b,cK fr a.tmps t=J b->w'.heap[b]? =w.heap[b]? :=λt b ho=>hk.2.1 b (r.Bf ho) λid k hi _=>r.apart t b id k ho hi
 refine⟨h,λt=>?_,r.d,r.sz,r.own,λt b id k ho hi=>?_,r.k7,λid k hi bc=>?_,λb hb hA=>?_,gj r.grow hk.1,r.mC,λid k hi=>?_,r.mI,Mu.le_trans r.le cV,r.io.call hk.2.2⟩
 ·have hf:=(r.f t).mono cV;unfold RF at hf⊢;split at hf
  ·exact hf
  ·exact hf
  ·rename_i cells ht;obtain⟨b,cs,e,g1,g2,g3⟩:=hf;exact⟨b,cs,e,g1,(hold t b (by simp[cK,ht,g1])).trans g2,g3⟩
  ·rename_i len es cells ht;obtain⟨b,cs,e,g1,g2,g3⟩:=hf;exact⟨b,cs,e,g1,(hold t b (by simp[cK,ht,g1])).trans g2,g3⟩
  ·exact hf
 ·rcases hf id k hi with h1|⟨dM,k0,h1,h2,_⟩
  ·have:=r.Bf ho;omega
  ·rw[<-h2];exact r.apart t b dM k0 ho h1
 ·rcases hf id k hi with h1|⟨dM,k0,h1,h2,h3⟩
  ·exact r.mC _ (gj r.grow h1)
  ·rw[<-h2];exact r.jm dM k0 h1 (h3 bc)
 ·rw[hk.2.1 b (AY hb r.grow) λid k hi bc e=>hA (e▸r.jm id k hi bc)];exact r.dZ b hb hA
 ·rcases hf id k hi with h1|⟨dM,k0,h1,h2,_⟩
  ·exact r.mI _ (gj r.grow h1)
  ·rw[<-h2];exact r.mj dM k0 h1
def aX.weaken(r:aX c m fr H a w){dI:FR}(hw:Xo dI fr):aX c m dI H a w:=by
 have df:∀t b,cK dI a.tmps t=J b->cK fr a.tmps t=J b:=by
  intro t b h;rcases hw t with e|e
  ·simpa only[cK,e]using h
  ·simp[cK,e,jv]at h
 refine⟨r.h,λt=>?_,r.d,r.sz,λt t' b h h'=>r.own t t' b (df _ _ h) (df _ _ h'),λt b id k h=>r.apart t b id k (df _ _ h),λt b h=>r.k7 t b (df _ _ h),r.jm,r.dZ,r.grow,r.mC,r.mj,r.mI,r.le,r.io⟩;rcases hw t with e|e
 ·have hf:=r.f t;unfold RF at hf⊢;rw[e];split at hf
  ·exact hf
  ·exact hf
  ·exact hf
  ·exact hf
  ·rename_i s off _;intro cells hc;rcases hw s with e2|e2
   ·exact hf cells (e2▸hc)
   ·rw[e2]at hc;cases hc
 ·unfold RF;rw[e];exact .au _
def zyG{bF:Array Value}{base size:Nat}{k k' xs:List Value}{ys:List Value}{off:Nat}(hs:base+size<=bF.size)(hk:k.length<=size)
(h:∀(i:Nat) (v:Value),k[i]? =J v->∃c,bF[base+i]? =J c/\V m v c)(dn:fY k off xs=J k')(hv:Vl m xs ys)(hne:xs≠[]):
 base+off+ys.length<=bF.size/\k'.length=k.length/\(bF.toList.take (base+off)++ys++bF.toList.drop (base+off+ys.length)).toArray.size=bF.size/\
  ∀(i:Nat) (v:Value),k'[i]? =J v->∃c,(bF.toList.take (base+off)++ys++bF.toList.drop (base+off+ys.length)).toArray[base+i]? =J c/\V m v c:=by
 rcases IU dn with⟨e,_⟩|⟨cV,rfl⟩
 ·exact absurd e hne
 ·have hl:=hv.1;have hfit:base+off+ys.length<=bF.size:=by omega
  refine⟨hfit,by simp;omega,by simp;omega,λi v hi=>?_⟩;have gQ:bF.toList.length=bF.size:=wb;by_cases h1:i<off
  ·rw[gU,fw (by simp;omega),Kv h1]at hi;obtain⟨y,hy,hV⟩:=h i v hi;refine⟨y,?_,hV⟩;rw[Gu,gU,fw (by simp;omega),Kv (by omega)];simpa using hy
  ·by_cases h2:i<off+xs.length
   ·rw[gU,fT (by simp;omega),fw (by simp;omega)]at hi;obtain⟨y,hy,hV⟩:=hv.get hi;refine⟨y,?_,hV⟩;rw[Gu,gU,fT (by simp;omega),fw (by simp;omega),<-hy];congr 1;simp;omega
   ·rw[gU,fT (by simp;omega),fT (by simp;omega),jd]at hi;have e:off+xs.length+(i-(k.take off).length-xs.length)=i:=by simp;omega
    rw[e]at hi;obtain⟨y,hy,hV⟩:=h i v hi;refine⟨y,?_,hV⟩;rw[Gu,gU,fT (by simp;omega),fT (by simp;omega),jd];have e2:base+off+ys.length+(base+i-(bF.toList.take (base+off)).length-ys.length)=base+i:=by simp;omega
    rw[e2];simpa using hy
end
end Go.Am
