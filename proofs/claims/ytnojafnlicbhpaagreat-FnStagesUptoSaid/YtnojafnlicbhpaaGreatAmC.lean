import Derived.Test.YtnojafnlicbhpaaGreatAmB
import Derived.Laws.CopyRow
import Derived.Laws.AppendOwn
import Derived.Laws.MakeOwn
import Derived.Laws.StructEq
import Derived.Laws.NewBlocks
import Derived.Laws.Concat
open Option renaming none→ae,some→J
open Bool renaming true→Z
set_option linter.defProp false
namespace Go.Am
def e9:=@if_true
def td:=@Nat.ne_of_lt
def xF:=@Array.getD_eq_getD_getElem?
def BZ:=@Array.getElem?_eq_some_iff
def a1b:=@Array.getElem?_setIfInBounds
set_option linter.unusedSimpArgs false
def zf(a:Array Value)(d t:Nat)(y u:Value)(hd:d<a.size):(a.setIfInBounds d y).getD t u=if t=d then y else a.getD t u:=by
 simp only[xF,a1b];by_cases h:d=t
 ·subst h;simp[hd]
 ·rw[aB h,aB (λe=>h e.symm)]
def RF(m:Mu)(w:World)(fr:FR)(tm:Array Value)(t:Nat):Prop:=
 match fr t with
 | .v x=>V m x (tm.getD t undef)
 | .skip=>tm.getD t undef=undef
 | .loc cells=>∃b cs e,tm.getD t undef=.pointer (J ⟨b,0,ae⟩)/\w.heap[b]? =J (.cells cs e (0,0))/\Vl m cells cs.toList
 | .ls len es cells=>∃b cs e,tm.getD t undef=.slice (J ⟨b,0,ae⟩) len len/\w.heap[b]? =J (.cells cs e (0,0))/\Vl m cells cs.toList/\cells.length=len*es
 | .lp s off=>∀cells,fr s=.loc cells->∃b,tm.getD s undef=.pointer (J ⟨b,0,ae⟩)/\tm.getD t undef=.pointer (J ⟨b,off,ae⟩)
def cP(fr:FR)(tm:Array Value)(t:Nat):Option Nat:=
 match fr t,tm.getD t undef with
 | .loc _,.pointer (J a)=>J a.block
 | .ls ..,.slice (J a) _ _=>J a.block
 |_,_=>ae
structure rA where
 A:Nat->Prop
 S:Nat->Prop
 w0:World
 m0:Mu
 nt:Nat
 tb:∀g,IR=J g->¬A g/\g<w0.heap.size/\∃e fz,w0.heap[g]? =J (Obj.cells PN e fz)
structure aX (c:rA) (m:Mu) (fr:FR) (H:AH) (a:Act) (w:World):Prop where
 h:gp m H w
 f:∀t,RF m w fr a.tmps t
 d:a.defers=[]
 sz:a.tmps.size=c.nt
 own:∀t t' b,cP fr a.tmps t=J b->cP fr a.tmps t'=J b->t=t'
 apart:∀t b id k,cP fr a.tmps t=J b->H.b id=J k->(m.f id).bu≠b
 l9:∀t b,cP fr a.tmps t=J b->c.w0.heap.size<=b
 jG:∀id k,H.b id=J k->k.rw=Z->c.A (m.f id).bu
 eb:∀b,b<c.w0.heap.size->¬c.A b->w.heap[b]? =c.w0.heap[b]?
 grow:c.w0.heap.size<=w.heap.size
 mU:∀b,c.w0.heap.size<=b->c.A b
 mE:∀id k,H.b id=J k->c.S (m.f id).bu
 mQ:∀b,c.w0.heap.size<=b->c.S b
 le:c.m0.le m
 io:pJ c.w0 w
section
variable {c:rA}{m:Mu}{fr:FR}{H:AH}{a:Act}{w:World}
variable{d t:Nat}{y:Value}
def aX.tb(r:aX c m fr H a w):Tb m H w:=λg hg=>by
 obtain⟨h1,h2,e,fz,h3⟩:=c.tb g hg;exact⟨⟨e,fz,(r.eb g h2 h1).trans h3⟩,λid k hk bc e2=>h1 (e2▸r.jG id k hk bc)⟩
def kc(fr:FR)(d:Nat)(x:FV):fr.put d x d=x:=by simp[FR.put]
def oW(fr:FR)(x:FV)(h:t≠d):fr.put d x t=fr t:=by simp[FR.put,h]
def YT{tm:Array Value}{x:FV}(hd:d<tm.size)(h:t≠d):cP (fr.put d x) (tm.setIfInBounds d y) t=cP fr tm t:=by
 simp only[cP,oW fr x h,zf tm d t y undef hd,aB h]
def aX.put{x:FV}(r:aX c m fr H a w)(hd:d<c.nt)(hx:RF m w (fr.put d x) (a.tmps.setIfInBounds d y) d)
(ho:cP (fr.put d x) (a.tmps.setIfInBounds d y) d=ae):aX c m (fr.put d x) H {a with tmps:=a.tmps.setIfInBounds d y} w:=by
 have iw:d<a.tmps.size:=by rw[r.sz];exact hd
 have dk:∀t b,cP (fr.put d x) (a.tmps.setIfInBounds d y) t=J b->t≠d/\cP fr a.tmps t=J b:=by
  intro t b h;by_cases e:t=d
  ·subst e;rw[ho]at h;cases h
  ·rw[YT iw e]at h;exact⟨e,h⟩
 refine⟨r.h,λt=>?_,r.d,by simpa using r.sz,λt t' b h h'=>r.own t t' b (dk _ _ h).2 (dk _ _ h').2,λt b id k h hk=>r.apart t b id k (dk _ _ h).2 hk,λt b h=>r.l9 t b (dk _ _ h).2,r.jG,r.eb,r.grow,r.mU,r.mE,r.mQ,r.le,r.io⟩;by_cases e:t=d
 ·subst e;exact hx
 ·have hf:=r.f t;unfold RF at hf⊢;rw[oW fr x e];split at hf<;>simp only[zf a.tmps d t y undef iw,aB e]
  ·exact hf
  ·exact hf
  ·exact hf
  ·exact hf
  ·rename_i s off _;intro cells hs;by_cases es:s=d
   ·subst es;exfalso;rw[kc]at hs;subst hs;unfold RF at hx;rw[kc]at hx;obtain⟨b,cs,e',h1,_⟩:=hx;simp[cP,kc,h1]at ho
   ·rw[oW fr x es]at hs;simp only[zf a.tmps d s y undef iw,aB es];exact hf cells hs
def aX.BF{x:Value}(r:aX c m fr H a w)(hd:d<c.nt)(hv:V m x y):aX c m (fr.put d (.v x)) H {a with tmps:=a.tmps.setIfInBounds d y} w:=by
 have iw:d<a.tmps.size:=by rw[r.sz];exact hd
 refine r.put hd ?_ ?_
 ·unfold RF;simp only[kc,zf a.tmps d d y undef iw,e9];exact hv
 ·simp[cP,kc]
def aX.a18(r:aX c m fr H a w)(hd:d<c.nt):aX c m (fr.put d .skip) H {a with tmps:=a.tmps.setIfInBounds d undef} w:=by
 have iw:d<a.tmps.size:=by rw[r.sz];exact hd
 refine r.put hd ?_ ?_
 ·unfold RF;simp only[kc,zf a.tmps d d _ undef iw,e9]
 ·simp[cP,kc]
def aX.a2K{s off:Nat}(r:aX c m fr H a w)(hd:d<c.nt)
(hv:∀cells,fr s=.loc cells->∃b,a.tmps.getD s undef=.pointer (J ⟨b,0,ae⟩)/\y=.pointer (J ⟨b,off,ae⟩)):
 aX c m (fr.put d (.lp s off)) H {a with tmps:=a.tmps.setIfInBounds d y} w:=by
 have iw:d<a.tmps.size:=by rw[r.sz];exact hd
 refine r.put hd ?_ ?_
 ·unfold RF;simp only[kc,zf a.tmps d d _ undef iw,e9];intro cells hs;by_cases es:s=d
  ·subst es;rw[kc]at hs;cases hs
  ·rw[oW fr _ es]at hs;simp only[zf a.tmps d s y undef iw,aB es];exact hv cells hs
 ·simp[cP,kc]
def gp.alloc(r:gp m H w)(o:Obj):gp m H (w.alloc o):=
 ⟨r.n,r.lt,λid k h=>by
   obtain⟨cs,e,fz,h1,h2⟩:=r.cells id k h;have hlt:=(BZ.1 h1).1
   exact⟨cs,e,fz,(heap_alloc_old w o _ hlt).trans h1,h2⟩,r.apart⟩
def gp.Tl(r:gp m H w){id:Nat}{k:mD}(h:H.b id=J k):(m.f id).bu<w.heap.size:=by
 obtain⟨cs,e,fz,h1,_⟩:=r.cells id k h;exact(BZ.1 h1).1
def RF.alloc(o:Obj){tm:Array Value}(h:RF m w fr tm t):RF m (w.alloc o) fr tm t:=by
 unfold RF at h⊢;split at h
 ·exact h
 ·exact h
 ·obtain⟨b,cs,e,h1,h2,h3⟩:=h;exact⟨b,cs,e,h1,(heap_alloc_old w o _ (BZ.1 h2).1).trans h2,h3⟩
 ·obtain⟨b,cs,e,h1,h2,h3⟩:=h;exact⟨b,cs,e,h1,(heap_alloc_old w o _ (BZ.1 h2).1).trans h2,h3⟩
 ·exact h
def aX.Cn(r:aX c m fr H a w){b:Nat}(h:cP fr a.tmps t=J b):b<w.heap.size:=by
 have hf:=r.f t;unfold RF at hf;unfold cP at h;split at h
 ·rename_i h1 h2;rw[h1]at hf;obtain⟨b',cs,e,k1,k2,_⟩:=hf;rw[h2]at k1;cases k1;cases h;exact(BZ.1 k2).1
 ·rename_i h1 h2;rw[h1]at hf;obtain⟨b',cs,e,k1,k2,_⟩:=hf;rw[h2]at k1;cases k1;cases h;exact(BZ.1 k2).1
 ·cases h
def pJ.alloc{w0 w:World}(h:pJ w0 w)(cs:Array Value)(e:TypeId):pJ w0 (w.alloc (.cells cs e)):=by
 refine⟨h.os,λb fc e' fz hb=>?_⟩;obtain⟨c2,h2⟩:=h.old b fc e' fz hb;exact⟨c2,(heap_alloc_old w _ b (BZ.1 h2).1).trans h2⟩
def pJ.drew{w0 w:World}(h:pJ w0 w):pJ w0 w.drew:=⟨h.os,h.old⟩
def pJ.setRow{w0 w:World}(h:pJ w0 w)(B:Nat)(bI:Array Value):pJ w0 (w.setRow B bI):=by
 refine⟨h.os,λb fc e' fz hb=>?_⟩;obtain⟨c2,h2⟩:=h.old b fc e' fz hb;by_cases e1:b=B
 ·subst e1;exact⟨bI,setRow_heap w b c2 bI e' fz h2⟩
 ·exact⟨c2,(setRow_other w B b bI e1).trans h2⟩
def pJ.call{w0 w w':World}(h:pJ w0 w)(h':pJ w w'):pJ w0 w':=
 ⟨⟨h'.os.1.trans h.os.1,h'.os.2.trans h.os.2⟩,λb cs e fz hb=>by
   obtain⟨c2,h2⟩:=h.old b cs e fz hb
   exact h'.old b c2 e fz h2⟩
def aX.alloc(r:aX c m fr H a w)(cs:Array Value)(e:TypeId):aX c m fr H a (w.alloc (.cells cs e)):=
 let o:Obj:=.cells cs e
 ⟨r.h.alloc o,λt=>(r.f t).alloc o,r.d,r.sz,r.own,r.apart,r.l9,r.jG,
  λb hb hA=>(heap_alloc_old w o b (BW hb r.grow)).trans (r.eb b hb hA),by simp;have:=r.grow;omega,r.mU,r.mE,r.mQ,r.le,r.io.alloc _ _⟩
def aX.drew(r:aX c m fr H a w):aX c m fr H a w.drew:=
 ⟨⟨r.h.n,r.h.lt,r.h.cells,r.h.apart⟩,r.f,r.d,r.sz,r.own,r.apart,r.l9,r.jG,r.eb,r.grow,r.mU,r.mE,r.mQ,r.le,r.io.drew⟩
def aX.fh{cells:List Value}{cs:Array Value}(r:aX c m fr H a w)(hd:d<c.nt)(hv:Vl m cells cs.toList)(e:TypeId):
 aX c m (fr.fh d cells) H {a with tmps:=a.tmps.setIfInBounds d (.pointer (J ⟨w.heap.size,0,ae⟩))} (w.alloc (.cells cs e)):=by
 have iw:d<a.tmps.size:=by rw[r.sz];exact hd
 have hg:∀t,(a.tmps.setIfInBounds d (.pointer (J ⟨w.heap.size,0,ae⟩))).getD t undef=if t=d then .pointer (J ⟨w.heap.size,0,ae⟩)else a.tmps.getD t undef:=
  λt=>zf a.tmps d t _ undef iw
 have dk:∀t b,cP (fr.fh d cells) (a.tmps.setIfInBounds d (.pointer (J ⟨w.heap.size,0,ae⟩))) t=J b->
  (t=d/\b=w.heap.size)\/(t≠d/\cP fr a.tmps t=J b):=by
  intro t b h;by_cases e:t=d
  ·subst e;simp[cP,FR.fh,hg]at h;exact .inl ⟨rfl,h.symm⟩
  ·refine .inr ⟨e,?_⟩;simp only[cP,FR.fh,aB e,hg]at h⊢;cases hx:fr t with
   |lp s o=>rw[hx]at h;by_cases gy:s=d<;>simp[lD,gy,jv]at h
   |_=>rw[hx]at h;exact h
 refine⟨r.h.alloc _,λt=>?_,r.d,by simpa using r.sz,λt t' b h h'=>?_,λt b id k h hk=>?_,λt b h=>?_,r.jG,
  λb hb hA=>(heap_alloc_old w _ b (BW hb r.grow)).trans (r.eb b hb hA),by simp;have:=r.grow;omega,r.mU,r.mE,r.mQ,r.le,r.io.alloc _ _⟩
 ·have hf:=(r.f t).alloc (.cells cs e);unfold RF at hf⊢;simp only[FR.fh,hg];by_cases ht:t=d
  ·subst ht;simp only[e9];exact⟨w.heap.size,cs,e,rfl,heap_alloc_new w _,hv⟩
  ·simp only[aB ht];cases hx:fr t with
   |v x=>rw[hx]at hf;exact hf
   |skip=>rw[hx]at hf;exact hf
   |loc x=>rw[hx]at hf;exact hf
   |ls a b x=>rw[hx]at hf;exact hf
   |lp s off=>
    rw[hx]at hf;simp only[lD];by_cases hs:s=d
    ·rw[aD hs];exact .ax _
    ·rw[aB hs];simp only[aB hs];intro dF hc;refine hf dF ?_;cases hy:fr s with
     |lp s' o=>rw[hy]at hc;simp only[lD]at hc;split at hc<;>simp[jv]at hc
     |_=>rw[hy]at hc;exact hc
 ·rcases dk t b h with⟨rfl,e1⟩|⟨n1,o1⟩
  ·rcases dk t' b h' with⟨rfl,_⟩|⟨_,o2⟩
   ·rfl
   ·have:=r.Cn o2;omega
  ·rcases dk t' b h' with⟨rfl,e2⟩|⟨_,o2⟩
   ·have:=r.Cn o1;omega
   ·exact r.own t t' b o1 o2
 ·rcases dk t b h with⟨_,rfl⟩|⟨_,o1⟩
  ·exact td (r.h.Tl hk)
  ·exact r.apart t b id k o1 hk
 ·rcases dk t b h with⟨_,rfl⟩|⟨_,o1⟩
  ·exact r.grow
  ·exact r.l9 t b o1
def aX.a12{len es:Nat}{cells:List Value}{cs:Array Value}(r:aX c m fr H a w)(hd:d<c.nt)(hv:Vl m cells cs.toList)(hl:cells.length=len*es)(e:TypeId):
 aX c m (fr.put d (.ls len es cells)) H {a with tmps:=a.tmps.setIfInBounds d (.slice (J ⟨w.heap.size,0,ae⟩) len len)} (w.alloc (.cells cs e)):=by
 have iw:d<a.tmps.size:=by rw[r.sz];exact hd
 have hg:∀t,(a.tmps.setIfInBounds d (.slice (J ⟨w.heap.size,0,ae⟩) len len)).getD t undef=if t=d then .slice (J ⟨w.heap.size,0,ae⟩) len len else a.tmps.getD t undef:=
  λt=>zf a.tmps d t _ undef iw
 have dk:∀t b,cP (fr.put d (.ls len es cells)) (a.tmps.setIfInBounds d (.slice (J ⟨w.heap.size,0,ae⟩) len len)) t=J b->
  (t=d/\b=w.heap.size)\/(t≠d/\cP fr a.tmps t=J b):=by
  intro t b h;by_cases e:t=d
  ·subst e;simp[cP,kc,hg]at h;exact .inl ⟨rfl,h.symm⟩
  ·exact .inr ⟨e,by rw[YT iw e]at h;exact h⟩
 refine⟨r.h.alloc _,λt=>?_,r.d,by simpa using r.sz,λt t' b h h'=>?_,λt b id k h hk=>?_,λt b h=>?_,r.jG,
  λb hb hA=>(heap_alloc_old w _ b (BW hb r.grow)).trans (r.eb b hb hA),by simp;have:=r.grow;omega,r.mU,r.mE,r.mQ,r.le,r.io.alloc _ _⟩
 ·have hf:=(r.f t).alloc (.cells cs e);unfold RF at hf⊢;by_cases ht:t=d
  ·subst ht;simp only[kc,hg,e9];exact⟨w.heap.size,cs,e,rfl,heap_alloc_new w _,hv,hl⟩
  ·rw[oW fr _ ht];simp only[hg,aB ht];split at hf
   ·exact hf
   ·exact hf
   ·exact hf
   ·exact hf
   ·rename_i s off _;intro dF hc;by_cases hs:s=d
    ·subst hs;rw[kc]at hc;cases hc
    ·rw[oW fr _ hs]at hc;simp only[aB hs];exact hf dF hc
 ·rcases dk t b h with⟨rfl,e1⟩|⟨n1,o1⟩
  ·rcases dk t' b h' with⟨rfl,_⟩|⟨_,o2⟩
   ·rfl
   ·have:=r.Cn o2;omega
  ·rcases dk t' b h' with⟨rfl,e2⟩|⟨_,o2⟩
   ·have:=r.Cn o1;omega
   ·exact r.own t t' b o1 o2
 ·rcases dk t b h with⟨_,rfl⟩|⟨_,o1⟩
  ·exact td (r.h.Tl hk)
  ·exact r.apart t b id k o1 hk
 ·rcases dk t b h with⟨_,rfl⟩|⟨_,o1⟩
  ·exact r.grow
  ·exact r.l9 t b o1
end
end Go.Am
