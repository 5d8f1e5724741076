import Derived.Test.YtnojafnlicbhpaaGreatAmF
open Option renaming none→ae,some→J
open Bool renaming true→Z
set_option linter.defProp false
namespace Go.Am
def fM:=@List.getElem?_append_left
def gj:=@List.getElem?_append_right
def ie:=@List.append_assoc
def HH:=@List.getElem?_toArray
def LX:=@List.getElem?_take_of_lt
section
variable {c:rA}{m:Mu}{fr:FR}{H:AH}{a:Act}{w:World}{P:Program}
variable{cells:List Value}{e:TypeId}
def aX.Ur(r:aX c m fr H a w){B:Nat}(bI:Array Value)(h1:∀id k,H.b id=J k->(m.f id).bu≠B)(h2:∀t,cP fr a.tmps t≠J B)(h3:c.A B):
 aX c m fr H a (w.setRow B bI):=by
 refine⟨⟨r.h.n,r.h.lt,λid k h=>?_,r.h.apart⟩,λt=>?_,r.d,r.sz,r.own,r.apart,r.l9,r.jG,λb hb hA=>?_,by simpa using r.grow,r.mU,r.mE,r.mQ,r.le,r.io.setRow _ _⟩
 ·obtain⟨cs,e,fz,g1,g2⟩:=r.h.cells id k h;exact⟨cs,e,fz,(setRow_other w B _ bI (h1 id k h)).trans g1,g2⟩
 ·have hf:=r.f t;unfold RF at hf⊢;split at hf
  ·exact hf
  ·exact hf
  ·rename_i cells ht;obtain⟨b,cs,e,g1,g2,g3⟩:=hf;have hb:b≠B:=λe'=>h2 t (by rw[<-e'];simp[cP,ht,g1])
   exact⟨b,cs,e,g1,(setRow_other w B b bI hb).trans g2,g3⟩
  ·rename_i len es cells ht;obtain⟨b,cs,e,g1,g2,g3⟩:=hf;have hb:b≠B:=λe'=>h2 t (by rw[<-e'];simp[cP,ht,g1])
   exact⟨b,cs,e,g1,(setRow_other w B b bI hb).trans g2,g3⟩
  ·exact hf
 ·have hne:b≠B:=λe=>hA (e▸h3)
  exact(setRow_other w B b bI hne).trans (r.eb b hb hA)
def aX.kill(r:aX c m fr H a w)(id:Nat):aX c m fr (H.set id ae) a w:=by
 have hb:∀i k,(H.set id ae).b i=J k->i≠id/\H.b i=J k:=by
  intro i k h;simp only[AH.set]at h;split at h
  ·cases h
  ·exact⟨‹_›,h⟩
 exact⟨⟨r.h.n,λi k h=>r.h.lt i k (hb i k h).2,λi k h=>r.h.cells i k (hb i k h).2,λi j bi bj hi hj=>r.h.apart i j bi bj (hb i bi hi).2 (hb j bj hj).2⟩,
  r.f,r.d,r.sz,r.own,λt b i k h hk=>r.apart t b i k h (hb i k hk).2,r.l9,λi k h=>r.jG i k (hb i k h).2,r.eb,r.grow,r.mU,λi k h=>r.mE i k (hb i k h).2,r.mQ,r.le,r.io⟩
def aX.a16(r:aX c m fr H a w){id:Nat}(b9:id<H.n){cs:Array Value}(h1:w.heap[(m.f id).bu]? =J (.cells cs e (0,0)))
(h2:(m.f id).base+(m.f id).size<=cs.size)(h3:cells.length<=(m.f id).size)(h6:∀(i:Nat) (v:Value),cells[i]? =J v->∃c,cs[(m.f id).base+i]? =J c/\V m v c)
(h7:∀i k,H.b i=J k->(m.f i).bu≠(m.f id).bu)(h8:∀t,cP fr a.tmps t≠J (m.f id).bu)(h9:c.A (m.f id).bu)(df:c.S (m.f id).bu):
 aX c m fr (H.set id (J ⟨Z,cells⟩)) a w:=by
 have hb:∀i k,(H.set id (J ⟨Z,cells⟩)).b i=J k->(i=id/\k=⟨Z,cells⟩)\/(i≠id/\H.b i=J k):=by
  intro i k h;simp only[AH.set]at h;split at h
  ·cases h;exact .inl ⟨‹_›,rfl⟩
  ·exact .inr ⟨‹_›,h⟩
 refine⟨⟨r.h.n,λi k h=>?_,λi k h=>?_,λi j bi bj hi hj hne bc=>?_⟩,r.f,r.d,r.sz,r.own,λt b i k h hk=>?_,r.l9,λi k h bc=>?_,r.eb,r.grow,r.mU,λi k h=>?_,r.mQ,r.le,r.io⟩
 ·rcases hb i k h with⟨rfl,_⟩|⟨_,h⟩
  ·exact b9
  ·exact r.h.lt i k h
 ·rcases hb i k h with⟨rfl,rfl⟩|⟨_,h⟩
  ·exact⟨cs,e,(0,0),h1,h2,h3,λ_=>rfl,h6⟩
  ·exact r.h.cells i k h
 ·rcases hb i bi hi with⟨rfl,rfl⟩|⟨_,hi'⟩
  ·rcases hb j bj hj with⟨rfl,_⟩|⟨_,EN⟩
   ·exact absurd rfl hne
   ·exact λe=>h7 j bj EN e.symm
  ·rcases hb j bj hj with⟨rfl,rfl⟩|⟨_,EN⟩
   ·exact h7 i bi hi'
   ·exact r.h.apart i j bi bj hi' EN hne bc
 ·rcases hb i k hk with⟨rfl,rfl⟩|⟨_,hk'⟩
  ·exact λe=>h8 t (by rw[e];exact h)
  ·exact r.apart t b i k h hk'
 ·rcases hb i k h with⟨rfl,rfl⟩|⟨_,hk'⟩
  ·exact h9
  ·exact r.jG i k hk' bc
 ·rcases hb i k h with⟨rfl,rfl⟩|⟨_,hk'⟩
  ·exact df
  ·exact r.mE i k hk'
def aX.push(r:aX c m fr H a w){l:Loc}{cs:Array Value}(h1:w.heap[l.bu]? =J (.cells cs e (0,0)))(h2:l.base+l.size<=cs.size)
(h3:cells.length<=l.size)(h6:∀(i:Nat) (v:Value),cells[i]? =J v->∃c,cs[l.base+i]? =J c/\V m v c)
(h7:∀i k,H.b i=J k->(m.f i).bu≠l.bu)(h8:∀t,cP fr a.tmps t≠J l.bu)(h9:c.A l.bu)(df:c.S l.bu):
 aX c (m.push l) fr (H.push ⟨Z,cells⟩) a w:=by
 have da:=m.O7 l;have hn:(m.push l).f H.n=l:=by rw[<-r.h.n];exact m.BB l
 have hb:∀i k,(H.push ⟨Z,cells⟩).b i=J k->(i=H.n/\k=⟨Z,cells⟩)\/((m.push l).f i=m.f i/\H.b i=J k):=by
  intro i k h;simp only[AH.push]at h;split at h
  ·cases h;exact .inl ⟨‹_›,rfl⟩
  ·exact .inr ⟨da.2 i (by rw[r.h.n];exact r.h.lt i k h),h⟩
 refine⟨r.h.push h1 h2 h3 (λ_=>rfl) h6 (λi k h _=>h7 i k h),λt=>(r.f t).mono da,r.d,r.sz,r.own,λt b i k h hk=>?_,r.l9,λi k h bc=>?_,r.eb,r.grow,r.mU,λi k h=>?_,r.mQ,Mu.le_trans r.le da,r.io⟩
 ·rcases hb i k hk with⟨rfl,rfl⟩|⟨e',hk'⟩
  ·rw[hn];exact λe=>h8 t (by rw[e];exact h)
  ·rw[e'];exact r.apart t b i k h hk'
 ·rcases hb i k h with⟨rfl,rfl⟩|⟨e',hk'⟩
  ·rw[hn];exact h9
  ·rw[e'];exact r.jG i k hk' bc
 ·rcases hb i k h with⟨rfl,rfl⟩|⟨e',hk'⟩
  ·rw[hn];exact df
  ·rw[e'];exact r.mE i k hk'
def aX.a3V(r:aX c m fr H a w){s b:Nat}{dF:List Value}{bI AE:Array Value}(hs:fr s=.loc cells)(ht:a.tmps.getD s undef=.pointer (J ⟨b,0,ae⟩))
(hb:w.heap[b]? =J (.cells bI e (0,0)))(hv:Vl m dF AE.toList):aX c m (fr.put s (.loc dF)) H a (w.setRow b AE):=by
 have ho:cP fr a.tmps s=J b:=by simp[cP,hs,ht]
 have dk:∀t,cP (fr.put s (.loc dF)) a.tmps t=cP fr a.tmps t:=by
  intro t;by_cases e:t=s
  ·subst e;simp only[cP,kc,hs,ht]
  ·simp only[cP,oW fr _ e]
 have y8:∀(t cells2:_),(fr.put s (.loc dF)) t=.loc cells2->∃RW,fr t=.loc RW:=by
  intro t cells2 h;by_cases e:t=s
  ·subst e;exact⟨_,hs⟩
  ·rw[oW fr _ e]at h;exact⟨_,h⟩
 refine⟨⟨r.h.n,r.h.lt,λid k h=>?_,r.h.apart⟩,λt=>?_,r.d,r.sz,λt t' b h h'=>r.own t t' b (dk t▸h) (dk t'▸h'),λt b id k h=>r.apart t b id k (dk t▸h),λt b h=>r.l9 t b (dk t▸h),r.jG,
  λb' hY hA=>?_,by simpa using r.grow,r.mU,r.mE,r.mQ,r.le,r.io.setRow _ _⟩
 ·obtain⟨cs,e,fz,g1,g2⟩:=r.h.cells id k h;exact⟨cs,e,fz,(setRow_other w b _ AE (r.apart s b id k ho h)).trans g1,g2⟩
 ·by_cases et:t=s
  ·subst et;unfold RF;simp only[kc];exact⟨b,AE,e,ht,setRow_heap w b bI AE e (0,0) hb,hv⟩
  ·have hf:=r.f t;unfold RF at hf⊢;rw[oW fr _ et];split at hf
   ·exact hf
   ·exact hf
   ·rename_i cells2 xj;obtain⟨b2,cs,e,g1,g2,g3⟩:=hf;have hne:b2≠b:=λe'=>et (r.own t s b (by rw[<-e'];simp[cP,xj,g1]) ho)
    exact⟨b2,cs,e,g1,(setRow_other w b b2 AE hne).trans g2,g3⟩
   ·rename_i len es cells2 xj;obtain⟨b2,cs,e,g1,g2,g3⟩:=hf;have hne:b2≠b:=λe'=>et (r.own t s b (by rw[<-e'];simp[cP,xj,g1]) ho)
    exact⟨b2,cs,e,g1,(setRow_other w b b2 AE hne).trans g2,g3⟩
   ·rename_i s2 off xj;intro cells2 h2;obtain⟨RW,h3⟩:=y8 s2 cells2 h2;exact hf RW h3
 ·have hne:b'≠b:=λe=>by have:=r.l9 s b ho;omega
  exact(setRow_other w b b' AE hne).trans (r.eb b' hY hA)
def aX.call(r:aX c m fr H a w){m':Mu}{H':AH}{w':World}(h:gp m' H' w')(da:m.le m')(hk:LW m H w w')(hf:UX m H w m' H'):aX c m' fr H' a w':=by
 have hold:∀t b,cP fr a.tmps t=J b->w'.heap[b]? =w.heap[b]? :=λt b ho=>hk.2.1 b (r.Cn ho) λid k hi _=>r.apart t b id k ho hi
 refine⟨h,λt=>?_,r.d,r.sz,r.own,λt b id k ho hi=>?_,r.l9,λid k hi bc=>?_,λb hb hA=>?_,gD r.grow hk.1,r.mU,λid k hi=>?_,r.mQ,Mu.le_trans r.le da,r.io.call hk.2.2⟩
 ·have hf:=(r.f t).mono da;unfold RF at hf⊢;split at hf
  ·exact hf
  ·exact hf
  ·rename_i cells ht;obtain⟨b,cs,e,g1,g2,g3⟩:=hf;exact⟨b,cs,e,g1,(hold t b (by simp[cP,ht,g1])).trans g2,g3⟩
  ·rename_i len es cells ht;obtain⟨b,cs,e,g1,g2,g3⟩:=hf;exact⟨b,cs,e,g1,(hold t b (by simp[cP,ht,g1])).trans g2,g3⟩
  ·exact hf
 ·rcases hf id k hi with h1|⟨dS,k0,h1,h2,_⟩
  ·have:=r.Cn ho;omega
  ·rw[<-h2];exact r.apart t b dS k0 ho h1
 ·rcases hf id k hi with h1|⟨dS,k0,h1,h2,h3⟩
  ·exact r.mU _ (gD r.grow h1)
  ·rw[<-h2];exact r.jG dS k0 h1 (h3 bc)
 ·rw[hk.2.1 b (BW hb r.grow) λid k hi bc e=>hA (e▸r.jG id k hi bc)];exact r.eb b hb hA
 ·rcases hf id k hi with h1|⟨dS,k0,h1,h2,_⟩
  ·exact r.mQ _ (gD r.grow h1)
  ·rw[<-h2];exact r.mE dS k0 h1
def aX.weaken(r:aX c m fr H a w){dN:FR}(hw:WM dN fr):aX c m dN H a w:=by
 have dk:∀t b,cP dN a.tmps t=J b->cP fr a.tmps t=J b:=by
  intro t b h;rcases hw t with e|e
  ·simpa only[cP,e]using h
  ·simp[cP,e,jv]at h
 refine⟨r.h,λt=>?_,r.d,r.sz,λt t' b h h'=>r.own t t' b (dk _ _ h) (dk _ _ h'),λt b id k h=>r.apart t b id k (dk _ _ h),λt b h=>r.l9 t b (dk _ _ h),r.jG,r.eb,r.grow,r.mU,r.mE,r.mQ,r.le,r.io⟩;rcases hw t with e|e
 ·have hf:=r.f t;unfold RF at hf⊢;rw[e];split at hf
  ·exact hf
  ·exact hf
  ·exact hf
  ·exact hf
  ·rename_i s off _;intro cells hc;rcases hw s with e2|e2
   ·exact hf cells (e2▸hc)
   ·rw[e2]at hc;cases hc
 ·unfold RF;rw[e];exact .ax _
def zxV{bI:Array Value}{base size:Nat}{k k' xs:List Value}{ys:List Value}{off:Nat}(hs:base+size<=bI.size)(hk:k.length<=size)
(h:∀(i:Nat) (v:Value),k[i]? =J v->∃c,bI[base+i]? =J c/\V m v c)(dv:gq k off xs=J k')(hv:Vl m xs ys)(hne:xs≠[]):
 base+off+ys.length<=bI.size/\k'.length=k.length/\(bI.toList.take (base+off)++ys++bI.toList.drop (base+off+ys.length)).toArray.size=bI.size/\
  ∀(i:Nat) (v:Value),k'[i]? =J v->∃c,(bI.toList.take (base+off)++ys++bI.toList.drop (base+off+ys.length)).toArray[base+i]? =J c/\V m v c:=by
 rcases HU dv with⟨e,_⟩|⟨da,rfl⟩
 ·exact absurd e hne
 ·have hl:=hv.1;have hfit:base+off+ys.length<=bI.size:=by omega
  refine⟨hfit,by simp;omega,by simp;omega,λi v hi=>?_⟩;have gX:bI.toList.length=bI.size:=xI;by_cases h1:i<off
  ·rw[ie,fM (by simp;omega),LX h1]at hi;obtain⟨y,hy,hV⟩:=h i v hi;refine⟨y,?_,hV⟩;rw[HH,ie,fM (by simp;omega),LX (by omega)];simpa using hy
  ·by_cases h2:i<off+xs.length
   ·rw[ie,gj (by simp;omega),fM (by simp;omega)]at hi;obtain⟨y,hy,hV⟩:=hv.get hi;refine⟨y,?_,hV⟩;rw[HH,ie,gj (by simp;omega),fM (by simp;omega),<-hy];congr 1;simp;omega
   ·rw[ie,gj (by simp;omega),gj (by simp;omega),jw]at hi;have e:off+xs.length+(i-(k.take off).length-xs.length)=i:=by simp;omega
    rw[e]at hi;obtain⟨y,hy,hV⟩:=h i v hi;refine⟨y,?_,hV⟩;rw[HH,ie,gj (by simp;omega),gj (by simp;omega),jw];have e2:base+off+ys.length+(base+i-(bI.toList.take (base+off)).length-ys.length)=base+i:=by simp;omega
    rw[e2];simpa using hy
end
end Go.Am
