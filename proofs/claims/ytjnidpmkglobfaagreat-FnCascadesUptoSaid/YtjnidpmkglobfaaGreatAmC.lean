import Derived.Test.YtjnidpmkglobfaaGreatAmB
import Derived.Laws.CopyRow
import Derived.Laws.AppendOwn
import Derived.Laws.MakeOwn
import Derived.Laws.StructEq
import Derived.Laws.NewBlocks
import Derived.Laws.Concat
open Option renaming none→aa,some→J
open Bool renaming true→O
set_option linter.defProp false
namespace Go.Am
def e7:=@if_true
def tF:=@Nat.ne_of_lt
def xG:=@Array.getD_eq_getD_getElem?
def BU:=@Array.getElem?_eq_some_iff
def a1r:=@Array.getElem?_setIfInBounds
set_option linter.unusedSimpArgs false
def yI(a:Array Value)(d t:Nat)(y u:Value)(hd:d<a.size):(a.setIfInBounds d y).getD t u=if t=d then y else a.getD t u:=by
 simp only[xG,a1r];by_cases h:d=t
 ·subst h;simp[hd]
 ·rw[aA h,aA (λe=>h e.symm)]
def RF(m:Mu)(w:World)(fr:FR)(g:Array Value)(t:Nat):Prop:=
 match fr t with
 | .v x=>V m x (g.getD t undef)
 | .skip=>g.getD t undef=undef
 | .loc f=>∃b cs e,g.getD t undef=.pointer (J ⟨b,0,aa⟩)/\w.heap[b]? =J (.cells cs e (0,0))/\Vl m f cs.toList
 | .ls h i f=>∃b cs e,g.getD t undef=.slice (J ⟨b,0,aa⟩) h h/\w.heap[b]? =J (.cells cs e (0,0))/\Vl m f cs.toList/\f.length=h*i
 | .lp s off=>∀f,fr s=.loc f->∃b,g.getD s undef=.pointer (J ⟨b,0,aa⟩)/\g.getD t undef=.pointer (J ⟨b,off,aa⟩)
def cP(fr:FR)(b:Array Value)(t:Nat):Option Nat:=
 match fr t,b.getD t undef with
 | .loc _,.pointer (J a)=>J a.block
 | .ls ..,.slice (J a) _ _=>J a.block
 |_,_=>aa
structure rV where
 A:Nat->Prop
 S:Nat->Prop
 w0:World
 m0:Mu
 nt:Nat
 tb:∀g,KW=J g->¬A g/\g<w0.heap.size/\∃e fz,w0.heap[g]? =J (Obj.cells OT e fz)
structure aT (c:rV) (m:Mu) (fr:FR) (H:AH) (a:Act) (w:World):Prop where
 h:gf m H w
 f:∀t,RF m w fr a.tmps t
 d:a.defers=[]
 sz:a.tmps.size=c.nt
 own:∀t t' b,cP fr a.tmps t=J b->cP fr a.tmps t'=J b->t=t'
 apart:∀t b id k,cP fr a.tmps t=J b->H.b id=J k->(m.f id).bn≠b
 lR:∀t b,cP fr a.tmps t=J b->c.w0.heap.size<=b
 jB:∀id k,H.b id=J k->k.rw=O->c.A (m.f id).bn
 ej:∀b,b<c.w0.heap.size->¬c.A b->w.heap[b]? =c.w0.heap[b]?
 grow:c.w0.heap.size<=w.heap.size
 m9:∀b,c.w0.heap.size<=b->c.A b
 mU:∀id k,H.b id=J k->c.S (m.f id).bn
 mD:∀b,c.w0.heap.size<=b->c.S b
 le:c.m0.le m
 io:o5 c.w0 w
section
variable {c:rV}{m:Mu}{fr:FR}{H:AH}{a:Act}{w:World}
variable{d t:Nat}{y:Value}
def aT.tb(r:aT c m fr H a w):Tb m H w:=λg n=>by
 obtain⟨b,j,e,i,l⟩:=c.tb g n;exact⟨⟨e,i,(r.ej g j b).trans l⟩,λid k o f h=>b (h▸r.jB id k o f)⟩
def j6(fr:FR)(d:Nat)(x:FV):fr.put d x d=x:=by simp[FR.put]
def pO(fr:FR)(x:FV)(h:t≠d):fr.put d x t=fr t:=by simp[FR.put,h]
def zu4{b:Array Value}{x:FV}(hd:d<b.size)(h:t≠d):cP (fr.put d x) (b.setIfInBounds d y) t=cP fr b t:=by
 simp only[cP,pO fr x h,yI b d t y undef hd,aA h]
def aT.put{x:FV}(r:aT c m fr H a w)(hd:d<c.nt)(j:RF m w (fr.put d x) (a.tmps.setIfInBounds d y) d)
(o:cP (fr.put d x) (a.tmps.setIfInBounds d y) d=aa):aT c m (fr.put d x) H {a with tmps:=a.tmps.setIfInBounds d y} w:=by
 have n:d<a.tmps.size:=by rw[r.sz];exact hd
 have g:∀t b,cP (fr.put d x) (a.tmps.setIfInBounds d y) t=J b->t≠d/\cP fr a.tmps t=J b:=by
  intro t b h;by_cases e:t=d
  ·subst e;rw[o]at h;cases h
  ·rw[zu4 n e]at h;exact⟨e,h⟩
 refine⟨r.h,λt=>?_,r.d,by simpa using r.sz,λt z b h q=>r.own t z b (g _ _ h).2 (g _ _ q).2,λt b id k h v=>r.apart t b id k (g _ _ h).2 v,λt b h=>r.lR t b (g _ _ h).2,r.jB,r.ej,r.grow,r.m9,r.mU,r.mD,r.le,r.io⟩;by_cases e:t=d
 ·subst e;exact j
 ·have f:=r.f t;unfold RF at f⊢;rw[pO fr x e];split at f<;>simp only[yI a.tmps d t y undef n,aA e]
  ·exact f
  ·exact f
  ·exact f
  ·exact f
  ·rename_i s off _;intro p i;by_cases l:s=d
   ·subst l;exfalso;rw[j6]at i;subst i;unfold RF at j;rw[j6]at j;obtain⟨b,cs,A,u,_⟩:=j;simp[cP,j6,u]at o
   ·rw[pO fr x l]at i;simp only[yI a.tmps d s y undef n,aA l];exact f p i
def aT.A7{x:Value}(r:aT c m fr H a w)(hd:d<c.nt)(b:V m x y):aT c m (fr.put d (.v x)) H {a with tmps:=a.tmps.setIfInBounds d y} w:=by
 have e:d<a.tmps.size:=by rw[r.sz];exact hd
 refine r.put hd ?_ ?_
 ·unfold RF;simp only[j6,yI a.tmps d d y undef e,e7];exact b
 ·simp[cP,j6]
def aT.a2m(r:aT c m fr H a w)(hd:d<c.nt):aT c m (fr.put d .skip) H {a with tmps:=a.tmps.setIfInBounds d undef} w:=by
 have b:d<a.tmps.size:=by rw[r.sz];exact hd
 refine r.put hd ?_ ?_
 ·unfold RF;simp only[j6,yI a.tmps d d _ undef b,e7]
 ·simp[cP,j6]
def aT.a2K{s off:Nat}(r:aT c m fr H a w)(hd:d<c.nt)
(i:∀f,fr s=.loc f->∃b,a.tmps.getD s undef=.pointer (J ⟨b,0,aa⟩)/\y=.pointer (J ⟨b,off,aa⟩)):
 aT c m (fr.put d (.lp s off)) H {a with tmps:=a.tmps.setIfInBounds d y} w:=by
 have h:d<a.tmps.size:=by rw[r.sz];exact hd
 refine r.put hd ?_ ?_
 ·unfold RF;simp only[j6,yI a.tmps d d _ undef h,e7];intro f e;by_cases g:s=d
  ·subst g;rw[j6]at e;cases e
  ·rw[pO fr _ g]at e;simp only[yI a.tmps d s y undef h,aA g];exact i f e
 ·simp[cP,j6]
def gf.alloc(r:gf m H w)(o:Obj):gf m H (w.alloc o):=
 ⟨r.n,r.lt,λid k h=>by
   obtain⟨cs,e,f,b,g⟩:=r.cells id k h;have i:=(BU.1 b).1
   exact⟨cs,e,f,(heap_alloc_old w o _ i).trans b,g⟩,r.apart⟩
def gf.SS(r:gf m H w){id:Nat}{k:mP}(h:H.b id=J k):(m.f id).bn<w.heap.size:=by
 obtain⟨cs,e,f,b,_⟩:=r.cells id k h;exact(BU.1 b).1
def RF.alloc(o:Obj){j:Array Value}(h:RF m w fr j t):RF m (w.alloc o) fr j t:=by
 unfold RF at h⊢;split at h
 ·exact h
 ·exact h
 ·obtain⟨b,cs,e,g,f,i⟩:=h;exact⟨b,cs,e,g,(heap_alloc_old w o _ (BU.1 f).1).trans f,i⟩
 ·obtain⟨b,cs,e,g,f,i⟩:=h;exact⟨b,cs,e,g,(heap_alloc_old w o _ (BU.1 f).1).trans f,i⟩
 ·exact h
def aT.D7(r:aT c m fr H a w){b:Nat}(h:cP fr a.tmps t=J b):b<w.heap.size:=by
 have f:=r.f t;unfold RF at f;unfold cP at h;split at h
 ·rename_i g i;rw[g]at f;obtain⟨j,cs,e,k1,k2,_⟩:=f;rw[i]at k1;cases k1;cases h;exact(BU.1 k2).1
 ·rename_i g i;rw[g]at f;obtain⟨j,cs,e,k1,k2,_⟩:=f;rw[i]at k1;cases k1;cases h;exact(BU.1 k2).1
 ·cases h
def o5.alloc{g w:World}(h:o5 g w)(cs:Array Value)(e:TypeId):o5 g (w.alloc (.cells cs e)):=by
 refine⟨h.os,λb k j l n=>?_⟩;obtain⟨i,f⟩:=h.old b k j l n;exact⟨i,(heap_alloc_old w _ b (BU.1 f).1).trans f⟩
def o5.drew{b w:World}(h:o5 b w):o5 b w.drew:=⟨h.os,h.old⟩
def o5.setRow{l w:World}(h:o5 l w)(B:Nat)(e:Array Value):o5 l (w.setRow B e):=by
 refine⟨h.os,λb n g j o=>?_⟩;obtain⟨f,k⟩:=h.old b n g j o;by_cases i:b=B
 ·subst i;exact⟨e,setRow_heap w b f e g j k⟩
 ·exact⟨f,(setRow_other w B b e i).trans k⟩
def o5.call{j w i:World}(h:o5 j w)(f:o5 w i):o5 j i:=
 ⟨⟨f.os.1.trans h.os.1,f.os.2.trans h.os.2⟩,λb cs e g n=>by
   obtain⟨k,l⟩:=h.old b cs e g n
   exact f.old b k e g l⟩
def aT.alloc(r:aT c m fr H a w)(cs:Array Value)(e:TypeId):aT c m fr H a (w.alloc (.cells cs e)):=
 let o:Obj:=.cells cs e
 ⟨r.h.alloc o,λt=>(r.f t).alloc o,r.d,r.sz,r.own,r.apart,r.lR,r.jB,
  λb f g=>(heap_alloc_old w o b (BS f r.grow)).trans (r.ej b f g),by simp;have:=r.grow;omega,r.m9,r.mU,r.mD,r.le,r.io.alloc _ _⟩
def aT.drew(r:aT c m fr H a w):aT c m fr H a w.drew:=
 ⟨⟨r.h.n,r.h.lt,r.h.cells,r.h.apart⟩,r.f,r.d,r.sz,r.own,r.apart,r.lR,r.jB,r.ej,r.grow,r.m9,r.mU,r.mD,r.le,r.io.drew⟩
def aT.fh{n:List Value}{cs:Array Value}(r:aT c m fr H a w)(hd:d<c.nt)(K:Vl m n cs.toList)(e:TypeId):
 aT c m (fr.fh d n) H {a with tmps:=a.tmps.setIfInBounds d (.pointer (J ⟨w.heap.size,0,aa⟩))} (w.alloc (.cells cs e)):=by
 have L:d<a.tmps.size:=by rw[r.sz];exact hd
 have p:∀t,(a.tmps.setIfInBounds d (.pointer (J ⟨w.heap.size,0,aa⟩))).getD t undef=if t=d then .pointer (J ⟨w.heap.size,0,aa⟩)else a.tmps.getD t undef:=
  λt=>yI a.tmps d t _ undef L
 have l:∀t b,cP (fr.fh d n) (a.tmps.setIfInBounds d (.pointer (J ⟨w.heap.size,0,aa⟩))) t=J b->
  (t=d/\b=w.heap.size)\/(t≠d/\cP fr a.tmps t=J b):=by
  intro t b h;by_cases e:t=d
  ·subst e;simp[cP,FR.fh,p]at h;exact .inl ⟨rfl,h.symm⟩
  ·refine .inr ⟨e,?_⟩;simp only[cP,FR.fh,aA e,p]at h⊢;cases g:fr t with
   |lp s o=>rw[g]at h;by_cases G:s=d<;>simp[lz,G,jv]at h
   |_=>rw[g]at h;exact h
 refine⟨r.h.alloc _,λt=>?_,r.d,by simpa using r.sz,λt z b h A=>?_,λt b id k h C=>?_,λt b h=>?_,r.jB,
  λb B I=>(heap_alloc_old w _ b (BS B r.grow)).trans (r.ej b B I),by simp;have:=r.grow;omega,r.m9,r.mU,r.mD,r.le,r.io.alloc _ _⟩
 ·have f:=(r.f t).alloc (.cells cs e);unfold RF at f⊢;simp only[FR.fh,p];by_cases D:t=d
  ·subst D;simp only[e7];exact⟨w.heap.size,cs,e,rfl,heap_alloc_new w _,K⟩
  ·simp only[aA D];cases g:fr t with
   |v x=>rw[g]at f;exact f
   |skip=>rw[g]at f;exact f
   |loc x=>rw[g]at f;exact f
   |ls a b x=>rw[g]at f;exact f
   |lp s off=>
    rw[g]at f;simp only[lz];by_cases q:s=d
    ·rw[aE q];exact .az _
    ·rw[aA q];simp only[aA q];intro F i;refine f F ?_;cases E:fr s with
     |lp Q o=>rw[E]at i;simp only[lz]at i;split at i<;>simp[jv]at i
     |_=>rw[E]at i;exact i
 ·rcases l t b h with⟨rfl,M⟩|⟨P,j⟩
  ·rcases l z b A with⟨rfl,_⟩|⟨_,u⟩
   ·rfl
   ·have:=r.D7 u;omega
  ·rcases l z b A with⟨rfl,N⟩|⟨_,u⟩
   ·have:=r.D7 j;omega
   ·exact r.own t z b j u
 ·rcases l t b h with⟨_,rfl⟩|⟨_,j⟩
  ·exact tF (r.h.SS C)
  ·exact r.apart t b id k j C
 ·rcases l t b h with⟨_,rfl⟩|⟨_,j⟩
  ·exact r.grow
  ·exact r.lR t b j
def aT.a4o{f o:Nat}{l:List Value}{cs:Array Value}(r:aT c m fr H a w)(hd:d<c.nt)(G:Vl m l cs.toList)(F:l.length=f*o)(e:TypeId):
 aT c m (fr.put d (.ls f o l)) H {a with tmps:=a.tmps.setIfInBounds d (.slice (J ⟨w.heap.size,0,aa⟩) f f)} (w.alloc (.cells cs e)):=by
 have C:d<a.tmps.size:=by rw[r.sz];exact hd
 have p:∀t,(a.tmps.setIfInBounds d (.slice (J ⟨w.heap.size,0,aa⟩) f f)).getD t undef=if t=d then .slice (J ⟨w.heap.size,0,aa⟩) f f else a.tmps.getD t undef:=
  λt=>yI a.tmps d t _ undef C
 have j:∀t b,cP (fr.put d (.ls f o l)) (a.tmps.setIfInBounds d (.slice (J ⟨w.heap.size,0,aa⟩) f f)) t=J b->
  (t=d/\b=w.heap.size)\/(t≠d/\cP fr a.tmps t=J b):=by
  intro t b h;by_cases e:t=d
  ·subst e;simp[cP,j6,p]at h;exact .inl ⟨rfl,h.symm⟩
  ·exact .inr ⟨e,by rw[zu4 C e]at h;exact h⟩
 refine⟨r.h.alloc _,λt=>?_,r.d,by simpa using r.sz,λt x b h z=>?_,λt b id k h B=>?_,λt b h=>?_,r.jB,
  λb A E=>(heap_alloc_old w _ b (BS A r.grow)).trans (r.ej b A E),by simp;have:=r.grow;omega,r.m9,r.mU,r.mD,r.le,r.io.alloc _ _⟩
 ·have g:=(r.f t).alloc (.cells cs e);unfold RF at g⊢;by_cases u:t=d
  ·subst u;simp only[j6,p,e7];exact⟨w.heap.size,cs,e,rfl,heap_alloc_new w _,G,F⟩
  ·rw[pO fr _ u];simp only[p,aA u];split at g
   ·exact g
   ·exact g
   ·exact g
   ·exact g
   ·rename_i s off _;intro D n;by_cases q:s=d
    ·subst q;rw[j6]at n;cases n
    ·rw[pO fr _ q]at n;simp only[aA q];exact g D n
 ·rcases j t b h with⟨rfl,I⟩|⟨L,i⟩
  ·rcases j x b z with⟨rfl,_⟩|⟨_,v⟩
   ·rfl
   ·have:=r.D7 v;omega
  ·rcases j x b z with⟨rfl,K⟩|⟨_,v⟩
   ·have:=r.D7 i;omega
   ·exact r.own t x b i v
 ·rcases j t b h with⟨_,rfl⟩|⟨_,i⟩
  ·exact tF (r.h.SS B)
  ·exact r.apart t b id k i B
 ·rcases j t b h with⟨_,rfl⟩|⟨_,i⟩
  ·exact r.grow
  ·exact r.lR t b i
end
end Go.Am
