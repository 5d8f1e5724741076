import Derived.Test.YtnojafnlicbhpaaGreatAmB
import Derived.Laws.CopyRow
import Derived.Laws.AppendOwn
import Derived.Laws.MakeOwn
import Derived.Laws.StructEq
import Derived.Laws.NewBlocks
import Derived.Laws.Concat
open Option renaming none→ae,some→J
open Bool renaming true→Z
set_option linter.defProp false
namespace Go.Am
def eP:=@if_true
def sD:=@Nat.ne_of_lt
def v8:=@Array.getD_eq_getD_getElem?
def A0:=@Array.getElem?_eq_some_iff
def a0m:=@Array.getElem?_setIfInBounds
set_option linter.unusedSimpArgs false
def xC(a:Array Value)(d t:Nat)(y u:Value)(hd:d<a.size):(a.setIfInBounds d y).getD t u=if t=d then y else a.getD t u:=by
 simp only[v8,a0m];by_cases h:d=t
 ·subst h;simp[hd]
 ·rw[az h,az (λe=>h e.symm)]
def RF(m:Mu)(w:World)(fr:FR)(tm:Array Value)(t:Nat):Prop:=
 match fr t with
 | .v x=>V m x (tm.getD t undef)
 | .skip=>tm.getD t undef=undef
 | .loc cells=>∃b cs e,tm.getD t undef=.pointer (J ⟨b,0,ae⟩)/\w.heap[b]? =J (.cells cs e (0,0))/\Vl m cells cs.toList
 | .ls len es cells=>∃b cs e,tm.getD t undef=.slice (J ⟨b,0,ae⟩) len len/\w.heap[b]? =J (.cells cs e (0,0))/\Vl m cells cs.toList/\cells.length=len*es
 | .lp s off=>∀cells,fr s=.loc cells->∃b,tm.getD s undef=.pointer (J ⟨b,0,ae⟩)/\tm.getD t undef=.pointer (J ⟨b,off,ae⟩)
def cK(fr:FR)(tm:Array Value)(t:Nat):Option Nat:=
 match fr t,tm.getD t undef with
 | .loc _,.pointer (J a)=>J a.block
 | .ls ..,.slice (J a) _ _=>J a.block
 |_,_=>ae
structure q9 where
 A:Nat->Prop
 S:Nat->Prop
 w0:World
 m0:Mu
 nt:Nat
 tb:∀g,H7=J g->¬A g/\g<w0.heap.size/\∃e fz,w0.heap[g]? =J (Obj.cells Mi e fz)
structure aX (c:q9) (m:Mu) (fr:FR) (H:AH) (a:Act) (w:World):Prop where
 h:fW m H w
 f:∀t,RF m w fr a.tmps t
 d:a.defers=[]
 sz:a.tmps.size=c.nt
 own:∀t t' b,cK fr a.tmps t=J b->cK fr a.tmps t'=J b->t=t'
 apart:∀t b id k,cK fr a.tmps t=J b->H.b id=J k->(m.f id).bq≠b
 k7:∀t b,cK fr a.tmps t=J b->c.w0.heap.size<=b
 jm:∀id k,H.b id=J k->k.rw=Z->c.A (m.f id).bq
 dZ:∀b,b<c.w0.heap.size->¬c.A b->w.heap[b]? =c.w0.heap[b]?
 grow:c.w0.heap.size<=w.heap.size
 mC:∀b,c.w0.heap.size<=b->c.A b
 mj:∀id k,H.b id=J k->c.S (m.f id).bq
 mI:∀b,c.w0.heap.size<=b->c.S b
 le:c.m0.le m
 io:oP c.w0 w
section
variable {c:q9}{m:Mu}{fr:FR}{H:AH}{a:Act}{w:World}
variable{d t:Nat}{y:Value}
def aX.tb(r:aX c m fr H a w):Tb m H w:=λg hg=>by
 obtain⟨h1,h2,e,fz,h3⟩:=c.tb g hg;exact⟨⟨e,fz,(r.dZ g h2 h1).trans h3⟩,λid k hk bc e2=>h1 (e2▸r.jm id k hk bc)⟩
def jJ(fr:FR)(d:Nat)(x:FV):fr.put d x d=x:=by simp[FR.put]
def om(fr:FR)(x:FV)(h:t≠d):fr.put d x t=fr t:=by simp[FR.put,h]
def zvA{tm:Array Value}{x:FV}(hd:d<tm.size)(h:t≠d):cK (fr.put d x) (tm.setIfInBounds d y) t=cK fr tm t:=by
 simp only[cK,om fr x h,xC tm d t y undef hd,az h]
def aX.put{x:FV}(r:aX c m fr H a w)(hd:d<c.nt)(hx:RF m w (fr.put d x) (a.tmps.setIfInBounds d y) d)
(ho:cK (fr.put d x) (a.tmps.setIfInBounds d y) d=ae):aX c m (fr.put d x) H {a with tmps:=a.tmps.setIfInBounds d y} w:=by
 have hZ:d<a.tmps.size:=by rw[r.sz];exact hd
 have df:∀t b,cK (fr.put d x) (a.tmps.setIfInBounds d y) t=J b->t≠d/\cK fr a.tmps t=J b:=by
  intro t b h;by_cases e:t=d
  ·subst e;rw[ho]at h;cases h
  ·rw[zvA hZ e]at h;exact⟨e,h⟩
 refine⟨r.h,λt=>?_,r.d,by simpa using r.sz,λt t' b h h'=>r.own t t' b (df _ _ h).2 (df _ _ h').2,λt b id k h hk=>r.apart t b id k (df _ _ h).2 hk,λt b h=>r.k7 t b (df _ _ h).2,r.jm,r.dZ,r.grow,r.mC,r.mj,r.mI,r.le,r.io⟩;by_cases e:t=d
 ·subst e;exact hx
 ·have hf:=r.f t;unfold RF at hf⊢;rw[om fr x e];split at hf<;>simp only[xC a.tmps d t y undef hZ,az e]
  ·exact hf
  ·exact hf
  ·exact hf
  ·exact hf
  ·rename_i s off _;intro cells hs;by_cases es:s=d
   ·subst es;exfalso;rw[jJ]at hs;subst hs;unfold RF at hx;rw[jJ]at hx;obtain⟨b,cs,e',h1,_⟩:=hx;simp[cK,jJ,h1]at ho
   ·rw[om fr x es]at hs;simp only[xC a.tmps d s y undef hZ,az es];exact hf cells hs
def aX.Ao{x:Value}(r:aX c m fr H a w)(hd:d<c.nt)(hv:V m x y):aX c m (fr.put d (.v x)) H {a with tmps:=a.tmps.setIfInBounds d y} w:=by
 have hZ:d<a.tmps.size:=by rw[r.sz];exact hd
 refine r.put hd ?_ ?_
 ·unfold RF;simp only[jJ,xC a.tmps d d y undef hZ,eP];exact hv
 ·simp[cK,jJ]
def aX.a0R(r:aX c m fr H a w)(hd:d<c.nt):aX c m (fr.put d .skip) H {a with tmps:=a.tmps.setIfInBounds d undef} w:=by
 have hZ:d<a.tmps.size:=by rw[r.sz];exact hd
 refine r.put hd ?_ ?_
 ·unfold RF;simp only[jJ,xC a.tmps d d _ undef hZ,eP]
 ·simp[cK,jJ]
def aX.a14{s off:Nat}(r:aX c m fr H a w)(hd:d<c.nt)
(hv:∀cells,fr s=.loc cells->∃b,a.tmps.getD s undef=.pointer (J ⟨b,0,ae⟩)/\y=.pointer (J ⟨b,off,ae⟩)):
 aX c m (fr.put d (.lp s off)) H {a with tmps:=a.tmps.setIfInBounds d y} w:=by
 have hZ:d<a.tmps.size:=by rw[r.sz];exact hd
 refine r.put hd ?_ ?_
 ·unfold RF;simp only[jJ,xC a.tmps d d _ undef hZ,eP];intro cells hs;by_cases es:s=d
  ·subst es;rw[jJ]at hs;cases hs
  ·rw[om fr _ es]at hs;simp only[xC a.tmps d s y undef hZ,az es];exact hv cells hs
 ·simp[cK,jJ]
def fW.alloc(r:fW m H w)(o:Obj):fW m H (w.alloc o):=
 ⟨r.n,r.lt,λid k h=>by
   obtain⟨cs,e,fz,h1,h2⟩:=r.cells id k h;have hlt:=(A0.1 h1).1
   exact⟨cs,e,fz,(heap_alloc_old w o _ hlt).trans h1,h2⟩,r.apart⟩
def fW.Th(r:fW m H w){id:Nat}{k:mi}(h:H.b id=J k):(m.f id).bq<w.heap.size:=by
 obtain⟨cs,e,fz,h1,_⟩:=r.cells id k h;exact(A0.1 h1).1
def RF.alloc(o:Obj){tm:Array Value}(h:RF m w fr tm t):RF m (w.alloc o) fr tm t:=by
 unfold RF at h⊢;split at h
 ·exact h
 ·exact h
 ·obtain⟨b,cs,e,h1,h2,h3⟩:=h;exact⟨b,cs,e,h1,(heap_alloc_old w o _ (A0.1 h2).1).trans h2,h3⟩
 ·obtain⟨b,cs,e,h1,h2,h3⟩:=h;exact⟨b,cs,e,h1,(heap_alloc_old w o _ (A0.1 h2).1).trans h2,h3⟩
 ·exact h
def aX.Bf(r:aX c m fr H a w){b:Nat}(h:cK fr a.tmps t=J b):b<w.heap.size:=by
 have hf:=r.f t;unfold RF at hf;unfold cK at h;split at h
 ·rename_i h1 h2;rw[h1]at hf;obtain⟨b',cs,e,k1,k2,_⟩:=hf;rw[h2]at k1;cases k1;cases h;exact(A0.1 k2).1
 ·rename_i h1 h2;rw[h1]at hf;obtain⟨b',cs,e,k1,k2,_⟩:=hf;rw[h2]at k1;cases k1;cases h;exact(A0.1 k2).1
 ·cases h
def oP.alloc{w0 w:World}(h:oP w0 w)(cs:Array Value)(e:TypeId):oP w0 (w.alloc (.cells cs e)):=by
 refine⟨h.os,λb eQ e' fz hb=>?_⟩;obtain⟨c2,h2⟩:=h.old b eQ e' fz hb;exact⟨c2,(heap_alloc_old w _ b (A0.1 h2).1).trans h2⟩
def oP.drew{w0 w:World}(h:oP w0 w):oP w0 w.drew:=⟨h.os,h.old⟩
def oP.setRow{w0 w:World}(h:oP w0 w)(B:Nat)(bF:Array Value):oP w0 (w.setRow B bF):=by
 refine⟨h.os,λb eQ e' fz hb=>?_⟩;obtain⟨c2,h2⟩:=h.old b eQ e' fz hb;by_cases e1:b=B
 ·subst e1;exact⟨bF,setRow_heap w b c2 bF e' fz h2⟩
 ·exact⟨c2,(setRow_other w B b bF e1).trans h2⟩
def oP.call{w0 w w':World}(h:oP w0 w)(h':oP w w'):oP w0 w':=
 ⟨⟨h'.os.1.trans h.os.1,h'.os.2.trans h.os.2⟩,λb cs e fz hb=>by
   obtain⟨c2,h2⟩:=h.old b cs e fz hb
   exact h'.old b c2 e fz h2⟩
def aX.alloc(r:aX c m fr H a w)(cs:Array Value)(e:TypeId):aX c m fr H a (w.alloc (.cells cs e)):=
 let o:Obj:=.cells cs e
 ⟨r.h.alloc o,λt=>(r.f t).alloc o,r.d,r.sz,r.own,r.apart,r.k7,r.jm,
  λb hb hA=>(heap_alloc_old w o b (AY hb r.grow)).trans (r.dZ b hb hA),by simp;have:=r.grow;omega,r.mC,r.mj,r.mI,r.le,r.io.alloc _ _⟩
def aX.drew(r:aX c m fr H a w):aX c m fr H a w.drew:=
 ⟨⟨r.h.n,r.h.lt,r.h.cells,r.h.apart⟩,r.f,r.d,r.sz,r.own,r.apart,r.k7,r.jm,r.dZ,r.grow,r.mC,r.mj,r.mI,r.le,r.io.drew⟩
def aX.eS{cells:List Value}{cs:Array Value}(r:aX c m fr H a w)(hd:d<c.nt)(hv:Vl m cells cs.toList)(e:TypeId):
 aX c m (fr.eS d cells) H {a with tmps:=a.tmps.setIfInBounds d (.pointer (J ⟨w.heap.size,0,ae⟩))} (w.alloc (.cells cs e)):=by
 have hZ:d<a.tmps.size:=by rw[r.sz];exact hd
 have hg:∀t,(a.tmps.setIfInBounds d (.pointer (J ⟨w.heap.size,0,ae⟩))).getD t undef=if t=d then .pointer (J ⟨w.heap.size,0,ae⟩)else a.tmps.getD t undef:=
  λt=>xC a.tmps d t _ undef hZ
 have df:∀t b,cK (fr.eS d cells) (a.tmps.setIfInBounds d (.pointer (J ⟨w.heap.size,0,ae⟩))) t=J b->
  (t=d/\b=w.heap.size)\/(t≠d/\cK fr a.tmps t=J b):=by
  intro t b h;by_cases e:t=d
  ·subst e;simp[cK,FR.eS,hg]at h;exact .inl ⟨rfl,h.symm⟩
  ·refine .inr ⟨e,?_⟩;simp only[cK,FR.eS,az e,hg]at h⊢;cases hx:fr t with
   |lp s o=>rw[hx]at h;by_cases f9:s=d<;>simp[kv,f9,jv]at h
   |_=>rw[hx]at h;exact h
 refine⟨r.h.alloc _,λt=>?_,r.d,by simpa using r.sz,λt t' b h h'=>?_,λt b id k h hk=>?_,λt b h=>?_,r.jm,
  λb hb hA=>(heap_alloc_old w _ b (AY hb r.grow)).trans (r.dZ b hb hA),by simp;have:=r.grow;omega,r.mC,r.mj,r.mI,r.le,r.io.alloc _ _⟩
 ·have hf:=(r.f t).alloc (.cells cs e);unfold RF at hf⊢;simp only[FR.eS,hg];by_cases ht:t=d
  ·subst ht;simp only[eP];exact⟨w.heap.size,cs,e,rfl,heap_alloc_new w _,hv⟩
  ·simp only[az ht];cases hx:fr t with
   |v x=>rw[hx]at hf;exact hf
   |skip=>rw[hx]at hf;exact hf
   |loc x=>rw[hx]at hf;exact hf
   |ls a b x=>rw[hx]at hf;exact hf
   |lp s off=>
    rw[hx]at hf;simp only[kv];by_cases hs:s=d
    ·rw[aB hs];exact .au _
    ·rw[az hs];simp only[az hs];intro dw hc;refine hf dw ?_;cases hy:fr s with
     |lp s' o=>rw[hy]at hc;simp only[kv]at hc;split at hc<;>simp[jv]at hc
     |_=>rw[hy]at hc;exact hc
 ·rcases df t b h with⟨rfl,e1⟩|⟨n1,o1⟩
  ·rcases df t' b h' with⟨rfl,_⟩|⟨_,o2⟩
   ·rfl
   ·have:=r.Bf o2;omega
  ·rcases df t' b h' with⟨rfl,e2⟩|⟨_,o2⟩
   ·have:=r.Bf o1;omega
   ·exact r.own t t' b o1 o2
 ·rcases df t b h with⟨_,rfl⟩|⟨_,o1⟩
  ·exact sD (r.h.Th hk)
  ·exact r.apart t b id k o1 hk
 ·rcases df t b h with⟨_,rfl⟩|⟨_,o1⟩
  ·exact r.grow
  ·exact r.k7 t b o1
def aX.a1k{len es:Nat}{cells:List Value}{cs:Array Value}(r:aX c m fr H a w)(hd:d<c.nt)(hv:Vl m cells cs.toList)(hl:cells.length=len*es)(e:TypeId):
 aX c m (fr.put d (.ls len es cells)) H {a with tmps:=a.tmps.setIfInBounds d (.slice (J ⟨w.heap.size,0,ae⟩) len len)} (w.alloc (.cells cs e)):=by
 have hZ:d<a.tmps.size:=by rw[r.sz];exact hd
 have hg:∀t,(a.tmps.setIfInBounds d (.slice (J ⟨w.heap.size,0,ae⟩) len len)).getD t undef=if t=d then .slice (J ⟨w.heap.size,0,ae⟩) len len else a.tmps.getD t undef:=
  λt=>xC a.tmps d t _ undef hZ
 have df:∀t b,cK (fr.put d (.ls len es cells)) (a.tmps.setIfInBounds d (.slice (J ⟨w.heap.size,0,ae⟩) len len)) t=J b->
  (t=d/\b=w.heap.size)\/(t≠d/\cK fr a.tmps t=J b):=by
  intro t b h;by_cases e:t=d
  ·subst e;simp[cK,jJ,hg]at h;exact .inl ⟨rfl,h.symm⟩
  ·exact .inr ⟨e,by rw[zvA hZ e]at h;exact h⟩
 refine⟨r.h.alloc _,λt=>?_,r.d,by simpa using r.sz,λt t' b h h'=>?_,λt b id k h hk=>?_,λt b h=>?_,r.jm,
  λb hb hA=>(heap_alloc_old w _ b (AY hb r.grow)).trans (r.dZ b hb hA),by simp;have:=r.grow;omega,r.mC,r.mj,r.mI,r.le,r.io.alloc _ _⟩
 ·have hf:=(r.f t).alloc (.cells cs e);unfold RF at hf⊢;by_cases ht:t=d
  ·subst ht;simp only[jJ,hg,eP];exact⟨w.heap.size,cs,e,rfl,heap_alloc_new w _,hv,hl⟩
  ·rw[om fr _ ht];simp only[hg,az ht];split at hf
   ·exact hf
   ·exact hf
   ·exact hf
   ·exact hf
   ·rename_i s off _;intro dw hc;by_cases hs:s=d
    ·subst hs;rw[jJ]at hc;cases hc
    ·rw[om fr _ hs]at hc;simp only[az hs];exact hf dw hc
 ·rcases df t b h with⟨rfl,e1⟩|⟨n1,o1⟩
  ·rcases df t' b h' with⟨rfl,_⟩|⟨_,o2⟩
   ·rfl
   ·have:=r.Bf o2;omega
  ·rcases df t' b h' with⟨rfl,e2⟩|⟨_,o2⟩
   ·have:=r.Bf o1;omega
   ·exact r.own t t' b o1 o2
 ·rcases df t b h with⟨_,rfl⟩|⟨_,o1⟩
  ·exact sD (r.h.Th hk)
  ·exact r.apart t b id k o1 hk
 ·rcases df t b h with⟨_,rfl⟩|⟨_,o1⟩
  ·exact r.grow
  ·exact r.k7 t b o1
end
end Go.Am
