import Derived.Test.YtplemekcclpaoaaGreatDoorAmB
import Derived.Laws.CopyRow
import Derived.Laws.AppendOwn
import Derived.Laws.MakeOwn
import Derived.Laws.StructEq
import Derived.Laws.NewBlocks
import Derived.Laws.Concat
namespace Go.Am
set_option linter.unusedSimpArgs false
theorem zfV(a:Array Value)(d t:Nat)(y u:Value)(hd:d<a.size):(a.setIfInBounds d y).getD t u=if t=d then y else a.getD t u:=by
 simp only[Array.getD_eq_getD_getElem?,Array.getElem?_setIfInBounds];by_cases h:d=t
 ·subst h;simp[hd]
 ·rw[if_neg h,if_neg (fun e=>h e.symm)]
def RF(m:Mu)(w:World)(fr:FR)(tm:Array Value)(t:Nat):Prop:=
 match fr t with
 | .v x=>V m x (tm.getD t undef)
 | .skip=>tm.getD t undef=undef
 | .loc cells=>∃b cs e,tm.getD t undef=.pointer (some ⟨b,0,none⟩)∧w.heap[b]? =some (.cells cs e (0,0))∧Vl m cells cs.toList
 | .ls len es cells=>∃b cs e,tm.getD t undef=.slice (some ⟨b,0,none⟩) len len∧w.heap[b]? =some (.cells cs e (0,0))∧Vl m cells cs.toList∧cells.length=len*es
 | .lp s off=>∀cells,fr s=.loc cells→∃b,tm.getD s undef=.pointer (some ⟨b,0,none⟩)∧tm.getD t undef=.pointer (some ⟨b,off,none⟩)
def za4(fr:FR)(tm:Array Value)(t:Nat):Option Nat:=
 match fr t,tm.getD t undef with
 | .loc _,.pointer (some a)=>some a.block
 | .ls ..,.slice (some a) _ _=>some a.block
 |_,_=>none
structure Ctx where
 A:Nat→Prop
 S:Nat→Prop
 w0:World
 m0:Mu
 nt:Nat
 tb:∀g,zlX=some g→¬A g∧g<w0.heap.size∧∃e fz,w0.heap[g]? =some (Obj.cells zmm e fz)
structure RelS (c:Ctx) (m:Mu) (fr:FR) (H:AH) (a:Act) (w:World):Prop where
 h:RelH m H w
 f:∀t,RF m w fr a.tmps t
 d:a.defers=[]
 sz:a.tmps.size=c.nt
 own:∀t t' b,za4 fr a.tmps t=some b→za4 fr a.tmps t'=some b→t=t'
 apart:∀t b id k,za4 fr a.tmps t=some b→H.b id=some k→(m.f id).blk≠b
 ownN:∀t b,za4 fr a.tmps t=some b→c.w0.heap.size≤b
 rwA:∀id k,H.b id=some k→k.rw=true→c.A (m.f id).blk
 keep:∀b,b<c.w0.heap.size→¬c.A b→w.heap[b]? =c.w0.heap[b]?
 grow:c.w0.heap.size≤w.heap.size
 newA:∀b,c.w0.heap.size≤b→c.A b
 srcS:∀id k,H.b id=some k→c.S (m.f id).blk
 newS:∀b,c.w0.heap.size≤b→c.S b
 le:c.m0.le m
 io:Kio c.w0 w
section
variable {c:Ctx}{m:Mu}{fr:FR}{H:AH}{a:Act}{w:World}
variable{d t:Nat}{y:Value}
theorem RelS.tb(r:RelS c m fr H a w):Tb m H w:=fun g hg=>by
 obtain⟨h1,h2,e,fz,h3⟩:=c.tb g hg;exact⟨⟨e,fz,(r.keep g h2 h1).trans h3⟩,fun id k hk hrw e2=>h1 (e2▸r.rwA id k hk hrw)⟩
theorem zbD(fr:FR)(d:Nat)(x:FV):fr.put d x d=x:=by simp[FR.put]
theorem ze1(fr:FR)(x:FV)(h:t≠d):fr.put d x t=fr t:=by simp[FR.put,h]
theorem ztW{tm:Array Value}{x:FV}(hd:d<tm.size)(h:t≠d):za4 (fr.put d x) (tm.setIfInBounds d y) t=za4 fr tm t:=by
 simp only[za4,ze1 fr x h,zfV tm d t y undef hd,if_neg h]
theorem RelS.put{x:FV}(r:RelS c m fr H a w)(hd:d<c.nt)(hx:RF m w (fr.put d x) (a.tmps.setIfInBounds d y) d)
(ho:za4 (fr.put d x) (a.tmps.setIfInBounds d y) d=none):RelS c m (fr.put d x) H {a with tmps:=a.tmps.setIfInBounds d y} w:=by
 have hd':d<a.tmps.size:=by rw[r.sz];exact hd
 have hown:∀t b,za4 (fr.put d x) (a.tmps.setIfInBounds d y) t=some b→t≠d∧za4 fr a.tmps t=some b:=by
  intro t b h;by_cases e:t=d
  ·subst e;rw[ho]at h;cases h
  ·rw[ztW hd' e]at h;exact⟨e,h⟩
 refine⟨r.h,fun t=>?_,r.d,by simpa using r.sz,fun t t' b h h'=>r.own t t' b (hown _ _ h).2 (hown _ _ h').2,fun t b id k h hk=>r.apart t b id k (hown _ _ h).2 hk,fun t b h=>r.ownN t b (hown _ _ h).2,r.rwA,r.keep,r.grow,r.newA,r.srcS,r.newS,r.le,r.io⟩;by_cases e:t=d
 ·subst e;exact hx
 ·have hf:=r.f t;unfold RF at hf⊢;rw[ze1 fr x e];split at hf<;>simp only[zfV a.tmps d t y undef hd',if_neg e]
  ·exact hf
  ·exact hf
  ·exact hf
  ·exact hf
  ·rename_i s off _;intro cells hs;by_cases es:s=d
   ·subst es;exfalso;rw[zbD]at hs;subst hs;unfold RF at hx;rw[zbD]at hx;obtain⟨b,cs,e',h1,_⟩:=hx;simp[za4,zbD,h1]at ho
   ·rw[ze1 fr x es]at hs;simp only[zfV a.tmps d s y undef hd',if_neg es];exact hf cells hs
theorem RelS.put_v{x:Value}(r:RelS c m fr H a w)(hd:d<c.nt)(hv:V m x y):RelS c m (fr.put d (.v x)) H {a with tmps:=a.tmps.setIfInBounds d y} w:=by
 have hd':d<a.tmps.size:=by rw[r.sz];exact hd
 refine r.put hd ?_ ?_
 ·unfold RF;simp only[zbD,zfV a.tmps d d y undef hd',if_true];exact hv
 ·simp[za4,zbD]
theorem RelS.put_skip(r:RelS c m fr H a w)(hd:d<c.nt):RelS c m (fr.put d .skip) H {a with tmps:=a.tmps.setIfInBounds d undef} w:=by
 have hd':d<a.tmps.size:=by rw[r.sz];exact hd
 refine r.put hd ?_ ?_
 ·unfold RF;simp only[zbD,zfV a.tmps d d _ undef hd',if_true]
 ·simp[za4,zbD]
theorem RelS.put_lp{s off:Nat}(r:RelS c m fr H a w)(hd:d<c.nt)
(hv:∀cells,fr s=.loc cells→∃b,a.tmps.getD s undef=.pointer (some ⟨b,0,none⟩)∧y=.pointer (some ⟨b,off,none⟩)):
 RelS c m (fr.put d (.lp s off)) H {a with tmps:=a.tmps.setIfInBounds d y} w:=by
 have hd':d<a.tmps.size:=by rw[r.sz];exact hd
 refine r.put hd ?_ ?_
 ·unfold RF;simp only[zbD,zfV a.tmps d d _ undef hd',if_true];intro cells hs;by_cases es:s=d
  ·subst es;rw[zbD]at hs;cases hs
  ·rw[ze1 fr _ es]at hs;simp only[zfV a.tmps d s y undef hd',if_neg es];exact hv cells hs
 ·simp[za4,zbD]
theorem RelH.alloc(r:RelH m H w)(o:Obj):RelH m H (w.alloc o):=
 ⟨r.n,r.lt,fun id k h=>by
   obtain⟨cs,e,fz,h1,h2⟩:=r.cells id k h;have hlt:=(Array.getElem?_eq_some_iff.1 h1).1
   exact⟨cs,e,fz,(heap_alloc_old w o _ hlt).trans h1,h2⟩,r.apart⟩
theorem RelH.blk_lt(r:RelH m H w){id:Nat}{k:Blk}(h:H.b id=some k):(m.f id).blk<w.heap.size:=by
 obtain⟨cs,e,fz,h1,_⟩:=r.cells id k h;exact(Array.getElem?_eq_some_iff.1 h1).1
theorem RF.alloc(o:Obj){tm:Array Value}(h:RF m w fr tm t):RF m (w.alloc o) fr tm t:=by
 unfold RF at h⊢;split at h
 ·exact h
 ·exact h
 ·obtain⟨b,cs,e,h1,h2,h3⟩:=h;exact⟨b,cs,e,h1,(heap_alloc_old w o _ (Array.getElem?_eq_some_iff.1 h2).1).trans h2,h3⟩
 ·obtain⟨b,cs,e,h1,h2,h3⟩:=h;exact⟨b,cs,e,h1,(heap_alloc_old w o _ (Array.getElem?_eq_some_iff.1 h2).1).trans h2,h3⟩
 ·exact h
theorem RelS.own_lt(r:RelS c m fr H a w){b:Nat}(h:za4 fr a.tmps t=some b):b<w.heap.size:=by
 have hf:=r.f t;unfold RF at hf;unfold za4 at h;split at h
 ·rename_i h1 h2;rw[h1]at hf;obtain⟨b',cs,e,k1,k2,_⟩:=hf;rw[h2]at k1;cases k1;cases h;exact(Array.getElem?_eq_some_iff.1 k2).1
 ·rename_i h1 h2;rw[h1]at hf;obtain⟨b',cs,e,k1,k2,_⟩:=hf;rw[h2]at k1;cases k1;cases h;exact(Array.getElem?_eq_some_iff.1 k2).1
 ·cases h
theorem Kio.alloc{w0 w:World}(h:Kio w0 w)(cs:Array Value)(e:TypeId):Kio w0 (w.alloc (.cells cs e)):=by
 refine⟨h.os,fun b cs' e' fz hb=>?_⟩;obtain⟨c2,h2⟩:=h.old b cs' e' fz hb;exact⟨c2,(heap_alloc_old w _ b (Array.getElem?_eq_some_iff.1 h2).1).trans h2⟩
theorem Kio.drew{w0 w:World}(h:Kio w0 w):Kio w0 w.drew:=⟨h.os,h.old⟩
theorem Kio.setRow{w0 w:World}(h:Kio w0 w)(B:Nat)(cur:Array Value):Kio w0 (w.setRow B cur):=by
 refine⟨h.os,fun b cs' e' fz hb=>?_⟩;obtain⟨c2,h2⟩:=h.old b cs' e' fz hb;by_cases e1:b=B
 ·subst e1;exact⟨cur,setRow_heap w b c2 cur e' fz h2⟩
 ·exact⟨c2,(setRow_other w B b cur e1).trans h2⟩
theorem Kio.call{w0 w w':World}(h:Kio w0 w)(h':Kio w w'):Kio w0 w':=
 ⟨⟨h'.os.1.trans h.os.1,h'.os.2.trans h.os.2⟩,fun b cs e fz hb=>by
   obtain⟨c2,h2⟩:=h.old b cs e fz hb
   exact h'.old b c2 e fz h2⟩
theorem RelS.alloc(r:RelS c m fr H a w)(cs:Array Value)(e:TypeId):RelS c m fr H a (w.alloc (.cells cs e)):=
 let o:Obj:=.cells cs e
 ⟨r.h.alloc o,fun t=>(r.f t).alloc o,r.d,r.sz,r.own,r.apart,r.ownN,r.rwA,
  fun b hb hA=>(heap_alloc_old w o b (Nat.lt_of_lt_of_le hb r.grow)).trans (r.keep b hb hA),by simp;have:=r.grow;omega,r.newA,r.srcS,r.newS,r.le,r.io.alloc _ _⟩
theorem RelS.drew(r:RelS c m fr H a w):RelS c m fr H a w.drew:=
 ⟨⟨r.h.n,r.h.lt,r.h.cells,r.h.apart⟩,r.f,r.d,r.sz,r.own,r.apart,r.ownN,r.rwA,r.keep,r.grow,r.newA,r.srcS,r.newS,r.le,r.io.drew⟩
theorem RelS.putLoc{cells:List Value}{cs:Array Value}(r:RelS c m fr H a w)(hd:d<c.nt)(hv:Vl m cells cs.toList)(e:TypeId):
 RelS c m (fr.putLoc d cells) H {a with tmps:=a.tmps.setIfInBounds d (.pointer (some ⟨w.heap.size,0,none⟩))} (w.alloc (.cells cs e)):=by
 have hd':d<a.tmps.size:=by rw[r.sz];exact hd
 have hg:∀t,(a.tmps.setIfInBounds d (.pointer (some ⟨w.heap.size,0,none⟩))).getD t undef=if t=d then .pointer (some ⟨w.heap.size,0,none⟩)else a.tmps.getD t undef:=
  fun t=>zfV a.tmps d t _ undef hd'
 have hown:∀t b,za4 (fr.putLoc d cells) (a.tmps.setIfInBounds d (.pointer (some ⟨w.heap.size,0,none⟩))) t=some b→
  (t=d∧b=w.heap.size)∨(t≠d∧za4 fr a.tmps t=some b):=by
  intro t b h;by_cases e:t=d
  ·subst e;simp[za4,FR.putLoc,hg]at h;exact .inl ⟨rfl,h.symm⟩
  ·refine .inr ⟨e,?_⟩;simp only[za4,FR.putLoc,if_neg e,hg]at h⊢;cases hx:fr t with
   |lp s o=>rw[hx]at h;by_cases hsd:s=d<;>simp[zex,hsd,jv]at h
   |_=>rw[hx]at h;exact h
 refine⟨r.h.alloc _,fun t=>?_,r.d,by simpa using r.sz,fun t t' b h h'=>?_,fun t b id k h hk=>?_,fun t b h=>?_,r.rwA,
  fun b hb hA=>(heap_alloc_old w _ b (Nat.lt_of_lt_of_le hb r.grow)).trans (r.keep b hb hA),by simp;have:=r.grow;omega,r.newA,r.srcS,r.newS,r.le,r.io.alloc _ _⟩
 ·have hf:=(r.f t).alloc (.cells cs e);unfold RF at hf⊢;simp only[FR.putLoc,hg];by_cases ht:t=d
  ·subst ht;simp only[if_true];exact⟨w.heap.size,cs,e,rfl,heap_alloc_new w _,hv⟩
  ·simp only[if_neg ht];cases hx:fr t with
   |v x=>rw[hx]at hf;exact hf
   |skip=>rw[hx]at hf;exact hf
   |loc x=>rw[hx]at hf;exact hf
   |ls a b x=>rw[hx]at hf;exact hf
   |lp s off=>
    rw[hx]at hf;simp only[zex];by_cases hs:s=d
    ·rw[if_pos hs];exact .junk _
    ·rw[if_neg hs];simp only[if_neg hs];intro cells' hc;refine hf cells' ?_;cases hy:fr s with
     |lp s' o=>rw[hy]at hc;simp only[zex]at hc;split at hc<;>simp[jv]at hc
     |_=>rw[hy]at hc;exact hc
 ·rcases hown t b h with⟨rfl,e1⟩|⟨n1,o1⟩
  ·rcases hown t' b h' with⟨rfl,_⟩|⟨_,o2⟩
   ·rfl
   ·have:=r.own_lt o2;omega
  ·rcases hown t' b h' with⟨rfl,e2⟩|⟨_,o2⟩
   ·have:=r.own_lt o1;omega
   ·exact r.own t t' b o1 o2
 ·rcases hown t b h with⟨_,rfl⟩|⟨_,o1⟩
  ·exact Nat.ne_of_lt (r.h.blk_lt hk)
  ·exact r.apart t b id k o1 hk
 ·rcases hown t b h with⟨_,rfl⟩|⟨_,o1⟩
  ·exact r.grow
  ·exact r.ownN t b o1
theorem RelS.putLs{len es:Nat}{cells:List Value}{cs:Array Value}(r:RelS c m fr H a w)(hd:d<c.nt)(hv:Vl m cells cs.toList)(hl:cells.length=len*es)(e:TypeId):
 RelS c m (fr.put d (.ls len es cells)) H {a with tmps:=a.tmps.setIfInBounds d (.slice (some ⟨w.heap.size,0,none⟩) len len)} (w.alloc (.cells cs e)):=by
 have hd':d<a.tmps.size:=by rw[r.sz];exact hd
 have hg:∀t,(a.tmps.setIfInBounds d (.slice (some ⟨w.heap.size,0,none⟩) len len)).getD t undef=if t=d then .slice (some ⟨w.heap.size,0,none⟩) len len else a.tmps.getD t undef:=
  fun t=>zfV a.tmps d t _ undef hd'
 have hown:∀t b,za4 (fr.put d (.ls len es cells)) (a.tmps.setIfInBounds d (.slice (some ⟨w.heap.size,0,none⟩) len len)) t=some b→
  (t=d∧b=w.heap.size)∨(t≠d∧za4 fr a.tmps t=some b):=by
  intro t b h;by_cases e:t=d
  ·subst e;simp[za4,zbD,hg]at h;exact .inl ⟨rfl,h.symm⟩
  ·exact .inr ⟨e,by rw[ztW hd' e]at h;exact h⟩
 refine⟨r.h.alloc _,fun t=>?_,r.d,by simpa using r.sz,fun t t' b h h'=>?_,fun t b id k h hk=>?_,fun t b h=>?_,r.rwA,
  fun b hb hA=>(heap_alloc_old w _ b (Nat.lt_of_lt_of_le hb r.grow)).trans (r.keep b hb hA),by simp;have:=r.grow;omega,r.newA,r.srcS,r.newS,r.le,r.io.alloc _ _⟩
 ·have hf:=(r.f t).alloc (.cells cs e);unfold RF at hf⊢;by_cases ht:t=d
  ·subst ht;simp only[zbD,hg,if_true];exact⟨w.heap.size,cs,e,rfl,heap_alloc_new w _,hv,hl⟩
  ·rw[ze1 fr _ ht];simp only[hg,if_neg ht];split at hf
   ·exact hf
   ·exact hf
   ·exact hf
   ·exact hf
   ·rename_i s off _;intro cells' hc;by_cases hs:s=d
    ·subst hs;rw[zbD]at hc;cases hc
    ·rw[ze1 fr _ hs]at hc;simp only[if_neg hs];exact hf cells' hc
 ·rcases hown t b h with⟨rfl,e1⟩|⟨n1,o1⟩
  ·rcases hown t' b h' with⟨rfl,_⟩|⟨_,o2⟩
   ·rfl
   ·have:=r.own_lt o2;omega
  ·rcases hown t' b h' with⟨rfl,e2⟩|⟨_,o2⟩
   ·have:=r.own_lt o1;omega
   ·exact r.own t t' b o1 o2
 ·rcases hown t b h with⟨_,rfl⟩|⟨_,o1⟩
  ·exact Nat.ne_of_lt (r.h.blk_lt hk)
  ·exact r.apart t b id k o1 hk
 ·rcases hown t b h with⟨_,rfl⟩|⟨_,o1⟩
  ·exact r.grow
  ·exact r.ownN t b o1
end
end Go.Am
