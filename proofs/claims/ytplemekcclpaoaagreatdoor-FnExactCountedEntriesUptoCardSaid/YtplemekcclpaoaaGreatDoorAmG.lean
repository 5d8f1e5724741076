import Derived.Test.YtplemekcclpaoaaGreatDoorAmF
namespace Go.Am
section
variable {c:Ctx}{m:Mu}{fr:FR}{H:AH}{a:Act}{w:World}{P:Program}
variable{cells:List Value}{e:TypeId}
theorem RelS.write_free(r:RelS c m fr H a w){B:Nat}(cur:Array Value)(h1:∀id k,H.b id=some k→(m.f id).blk≠B)(h2:∀t,za4 fr a.tmps t≠some B)(h3:c.A B):
 RelS c m fr H a (w.setRow B cur):=by
 refine⟨⟨r.h.n,r.h.lt,fun id k h=>?_,r.h.apart⟩,fun t=>?_,r.d,r.sz,r.own,r.apart,r.ownN,r.rwA,fun b hb hA=>?_,by simpa using r.grow,r.newA,r.srcS,r.newS,r.le,r.io.setRow _ _⟩
 ·obtain⟨cs,e,fz,g1,g2⟩:=r.h.cells id k h;exact⟨cs,e,fz,(setRow_other w B _ cur (h1 id k h)).trans g1,g2⟩
 ·have hf:=r.f t;unfold RF at hf⊢;split at hf
  ·exact hf
  ·exact hf
  ·rename_i cells ht;obtain⟨b,cs,e,g1,g2,g3⟩:=hf;have hb:b≠B:=fun e'=>h2 t (by rw[←e'];simp[za4,ht,g1])
   exact⟨b,cs,e,g1,(setRow_other w B b cur hb).trans g2,g3⟩
  ·rename_i len es cells ht;obtain⟨b,cs,e,g1,g2,g3⟩:=hf;have hb:b≠B:=fun e'=>h2 t (by rw[←e'];simp[za4,ht,g1])
   exact⟨b,cs,e,g1,(setRow_other w B b cur hb).trans g2,g3⟩
  ·exact hf
 ·have hne:b≠B:=fun e=>hA (e▸h3)
  exact(setRow_other w B b cur hne).trans (r.keep b hb hA)
theorem RelS.kill(r:RelS c m fr H a w)(id:Nat):RelS c m fr (H.set id none) a w:=by
 have hb:∀i k,(H.set id none).b i=some k→i≠id∧H.b i=some k:=by
  intro i k h;simp only[AH.set]at h;split at h
  ·cases h
  ·exact⟨‹_›,h⟩
 exact⟨⟨r.h.n,fun i k h=>r.h.lt i k (hb i k h).2,fun i k h=>r.h.cells i k (hb i k h).2,fun i j bi bj hi hj=>r.h.apart i j bi bj (hb i bi hi).2 (hb j bj hj).2⟩,
  r.f,r.d,r.sz,r.own,fun t b i k h hk=>r.apart t b i k h (hb i k hk).2,r.ownN,fun i k h=>r.rwA i k (hb i k h).2,r.keep,r.grow,r.newA,fun i k h=>r.srcS i k (hb i k h).2,r.newS,r.le,r.io⟩
theorem RelS.revive(r:RelS c m fr H a w){id:Nat}(hid:id<H.n){cs:Array Value}(h1:w.heap[(m.f id).blk]? =some (.cells cs e (0,0)))
(h2:(m.f id).base+(m.f id).size≤cs.size)(h3:cells.length≤(m.f id).size)(h6:∀(i:Nat) (v:Value),cells[i]? =some v→∃c,cs[(m.f id).base+i]? =some c∧V m v c)
(h7:∀i k,H.b i=some k→(m.f i).blk≠(m.f id).blk)(h8:∀t,za4 fr a.tmps t≠some (m.f id).blk)(h9:c.A (m.f id).blk)(h10:c.S (m.f id).blk):
 RelS c m fr (H.set id (some ⟨true,cells⟩)) a w:=by
 have hb:∀i k,(H.set id (some ⟨true,cells⟩)).b i=some k→(i=id∧k=⟨true,cells⟩)∨(i≠id∧H.b i=some k):=by
  intro i k h;simp only[AH.set]at h;split at h
  ·cases h;exact .inl ⟨‹_›,rfl⟩
  ·exact .inr ⟨‹_›,h⟩
 refine⟨⟨r.h.n,fun i k h=>?_,fun i k h=>?_,fun i j bi bj hi hj hne hrw=>?_⟩,r.f,r.d,r.sz,r.own,fun t b i k h hk=>?_,r.ownN,fun i k h hrw=>?_,r.keep,r.grow,r.newA,fun i k h=>?_,r.newS,r.le,r.io⟩
 ·rcases hb i k h with⟨rfl,_⟩|⟨_,h⟩
  ·exact hid
  ·exact r.h.lt i k h
 ·rcases hb i k h with⟨rfl,rfl⟩|⟨_,h⟩
  ·exact⟨cs,e,(0,0),h1,h2,h3,fun _=>rfl,h6⟩
  ·exact r.h.cells i k h
 ·rcases hb i bi hi with⟨rfl,rfl⟩|⟨_,hi'⟩
  ·rcases hb j bj hj with⟨rfl,_⟩|⟨_,hj'⟩
   ·exact absurd rfl hne
   ·exact fun e=>h7 j bj hj' e.symm
  ·rcases hb j bj hj with⟨rfl,rfl⟩|⟨_,hj'⟩
   ·exact h7 i bi hi'
   ·exact r.h.apart i j bi bj hi' hj' hne hrw
 ·rcases hb i k hk with⟨rfl,rfl⟩|⟨_,hk'⟩
  ·exact fun e=>h8 t (by rw[e];exact h)
  ·exact r.apart t b i k h hk'
 ·rcases hb i k h with⟨rfl,rfl⟩|⟨_,hk'⟩
  ·exact h9
  ·exact r.rwA i k hk' hrw
 ·rcases hb i k h with⟨rfl,rfl⟩|⟨_,hk'⟩
  ·exact h10
  ·exact r.srcS i k hk'
theorem RelS.push(r:RelS c m fr H a w){l:Loc}{cs:Array Value}(h1:w.heap[l.blk]? =some (.cells cs e (0,0)))(h2:l.base+l.size≤cs.size)
(h3:cells.length≤l.size)(h6:∀(i:Nat) (v:Value),cells[i]? =some v→∃c,cs[l.base+i]? =some c∧V m v c)
(h7:∀i k,H.b i=some k→(m.f i).blk≠l.blk)(h8:∀t,za4 fr a.tmps t≠some l.blk)(h9:c.A l.blk)(h10:c.S l.blk):
 RelS c (m.push l) fr (H.push ⟨true,cells⟩) a w:=by
 have hle:=m.le_push l;have hn:(m.push l).f H.n=l:=by rw[←r.h.n];exact m.push_f l
 have hb:∀i k,(H.push ⟨true,cells⟩).b i=some k→(i=H.n∧k=⟨true,cells⟩)∨((m.push l).f i=m.f i∧H.b i=some k):=by
  intro i k h;simp only[AH.push]at h;split at h
  ·cases h;exact .inl ⟨‹_›,rfl⟩
  ·exact .inr ⟨hle.2 i (by rw[r.h.n];exact r.h.lt i k h),h⟩
 refine⟨r.h.push h1 h2 h3 (fun _=>rfl) h6 (fun i k h _=>h7 i k h),fun t=>(r.f t).mono hle,r.d,r.sz,r.own,fun t b i k h hk=>?_,r.ownN,fun i k h hrw=>?_,r.keep,r.grow,r.newA,fun i k h=>?_,r.newS,Mu.le_trans r.le hle,r.io⟩
 ·rcases hb i k hk with⟨rfl,rfl⟩|⟨e',hk'⟩
  ·rw[hn];exact fun e=>h8 t (by rw[e];exact h)
  ·rw[e'];exact r.apart t b i k h hk'
 ·rcases hb i k h with⟨rfl,rfl⟩|⟨e',hk'⟩
  ·rw[hn];exact h9
  ·rw[e'];exact r.rwA i k hk' hrw
 ·rcases hb i k h with⟨rfl,rfl⟩|⟨e',hk'⟩
  ·rw[hn];exact h10
  ·rw[e'];exact r.srcS i k hk'
theorem RelS.regset(r:RelS c m fr H a w){s b:Nat}{cells':List Value}{cur cur':Array Value}(hs:fr s=.loc cells)(ht:a.tmps.getD s undef=.pointer (some ⟨b,0,none⟩))
(hb:w.heap[b]? =some (.cells cur e (0,0)))(hv:Vl m cells' cur'.toList):RelS c m (fr.put s (.loc cells')) H a (w.setRow b cur'):=by
 have ho:za4 fr a.tmps s=some b:=by simp[za4,hs,ht]
 have hown:∀t,za4 (fr.put s (.loc cells')) a.tmps t=za4 fr a.tmps t:=by
  intro t;by_cases e:t=s
  ·subst e;simp only[za4,zbD,hs,ht]
  ·simp only[za4,ze1 fr _ e]
 have hlb:∀(t cells2:_),(fr.put s (.loc cells')) t=.loc cells2→∃cells3,fr t=.loc cells3:=by
  intro t cells2 h;by_cases e:t=s
  ·subst e;exact⟨_,hs⟩
  ·rw[ze1 fr _ e]at h;exact⟨_,h⟩
 refine⟨⟨r.h.n,r.h.lt,fun id k h=>?_,r.h.apart⟩,fun t=>?_,r.d,r.sz,fun t t' b h h'=>r.own t t' b (hown t▸h) (hown t'▸h'),fun t b id k h=>r.apart t b id k (hown t▸h),fun t b h=>r.ownN t b (hown t▸h),r.rwA,
  fun b' hb' hA=>?_,by simpa using r.grow,r.newA,r.srcS,r.newS,r.le,r.io.setRow _ _⟩
 ·obtain⟨cs,e,fz,g1,g2⟩:=r.h.cells id k h;exact⟨cs,e,fz,(setRow_other w b _ cur' (r.apart s b id k ho h)).trans g1,g2⟩
 ·by_cases et:t=s
  ·subst et;unfold RF;simp only[zbD];exact⟨b,cur',e,ht,setRow_heap w b cur cur' e (0,0) hb,hv⟩
  ·have hf:=r.f t;unfold RF at hf⊢;rw[ze1 fr _ et];split at hf
   ·exact hf
   ·exact hf
   ·rename_i cells2 ht2;obtain⟨b2,cs,e,g1,g2,g3⟩:=hf;have hne:b2≠b:=fun e'=>et (r.own t s b (by rw[←e'];simp[za4,ht2,g1]) ho)
    exact⟨b2,cs,e,g1,(setRow_other w b b2 cur' hne).trans g2,g3⟩
   ·rename_i len es cells2 ht2;obtain⟨b2,cs,e,g1,g2,g3⟩:=hf;have hne:b2≠b:=fun e'=>et (r.own t s b (by rw[←e'];simp[za4,ht2,g1]) ho)
    exact⟨b2,cs,e,g1,(setRow_other w b b2 cur' hne).trans g2,g3⟩
   ·rename_i s2 off ht2;intro cells2 h2;obtain⟨cells3,h3⟩:=hlb s2 cells2 h2;exact hf cells3 h3
 ·have hne:b'≠b:=fun e=>by have:=r.ownN s b ho;omega
  exact(setRow_other w b b' cur' hne).trans (r.keep b' hb' hA)
theorem RelS.call(r:RelS c m fr H a w){m':Mu}{H':AH}{w':World}(h:RelH m' H' w')(hle:m.le m')(hk:zoh m H w w')(hf:zx5 m H w m' H'):RelS c m' fr H' a w':=by
 have hold:∀t b,za4 fr a.tmps t=some b→w'.heap[b]? =w.heap[b]? :=fun t b ho=>hk.2.1 b (r.own_lt ho) fun id k hi _=>r.apart t b id k ho hi
 refine⟨h,fun t=>?_,r.d,r.sz,r.own,fun t b id k ho hi=>?_,r.ownN,fun id k hi hrw=>?_,fun b hb hA=>?_,Nat.le_trans r.grow hk.1,r.newA,fun id k hi=>?_,r.newS,Mu.le_trans r.le hle,r.io.call hk.2.2⟩
 ·have hf:=(r.f t).mono hle;unfold RF at hf⊢;split at hf
  ·exact hf
  ·exact hf
  ·rename_i cells ht;obtain⟨b,cs,e,g1,g2,g3⟩:=hf;exact⟨b,cs,e,g1,(hold t b (by simp[za4,ht,g1])).trans g2,g3⟩
  ·rename_i len es cells ht;obtain⟨b,cs,e,g1,g2,g3⟩:=hf;exact⟨b,cs,e,g1,(hold t b (by simp[za4,ht,g1])).trans g2,g3⟩
  ·exact hf
 ·rcases hf id k hi with h1|⟨id0,k0,h1,h2,_⟩
  ·have:=r.own_lt ho;omega
  ·rw[←h2];exact r.apart t b id0 k0 ho h1
 ·rcases hf id k hi with h1|⟨id0,k0,h1,h2,h3⟩
  ·exact r.newA _ (Nat.le_trans r.grow h1)
  ·rw[←h2];exact r.rwA id0 k0 h1 (h3 hrw)
 ·rw[hk.2.1 b (Nat.lt_of_lt_of_le hb r.grow) fun id k hi hrw e=>hA (e▸r.rwA id k hi hrw)];exact r.keep b hb hA
 ·rcases hf id k hi with h1|⟨id0,k0,h1,h2,_⟩
  ·exact r.newS _ (Nat.le_trans r.grow h1)
  ·rw[←h2];exact r.srcS id0 k0 h1
theorem RelS.weaken(r:RelS c m fr H a w){fr2:FR}(hw:zyx fr2 fr):RelS c m fr2 H a w:=by
 have hown:∀t b,za4 fr2 a.tmps t=some b→za4 fr a.tmps t=some b:=by
  intro t b h;rcases hw t with e|e
  ·simpa only[za4,e]using h
  ·simp[za4,e,jv]at h
 refine⟨r.h,fun t=>?_,r.d,r.sz,fun t t' b h h'=>r.own t t' b (hown _ _ h) (hown _ _ h'),fun t b id k h=>r.apart t b id k (hown _ _ h),fun t b h=>r.ownN t b (hown _ _ h),r.rwA,r.keep,r.grow,r.newA,r.srcS,r.newS,r.le,r.io⟩;rcases hw t with e|e
 ·have hf:=r.f t;unfold RF at hf⊢;rw[e];split at hf
  ·exact hf
  ·exact hf
  ·exact hf
  ·exact hf
  ·rename_i s off _;intro cells hc;rcases hw s with e2|e2
   ·exact hf cells (e2▸hc)
   ·rw[e2]at hc;cases hc
 ·unfold RF;rw[e];exact .junk _
theorem zvN{cur:Array Value}{base size:Nat}{k k' xs:List Value}{ys:List Value}{off:Nat}(hs:base+size≤cur.size)(hk:k.length≤size)
(h:∀(i:Nat) (v:Value),k[i]? =some v→∃c,cur[base+i]? =some c∧V m v c)(hput:zbQ k off xs=some k')(hv:Vl m xs ys)(hne:xs≠[]):
 base+off+ys.length≤cur.size∧k'.length=k.length∧(cur.toList.take (base+off)++ys++cur.toList.drop (base+off+ys.length)).toArray.size=cur.size∧
  ∀(i:Nat) (v:Value),k'[i]? =some v→∃c,(cur.toList.take (base+off)++ys++cur.toList.drop (base+off+ys.length)).toArray[base+i]? =some c∧V m v c:=by
 rcases zgO hput with⟨e,_⟩|⟨hle,rfl⟩
 ·exact absurd e hne
 ·have hl:=hv.1;have hfit:base+off+ys.length≤cur.size:=by omega
  refine⟨hfit,by simp;omega,by simp;omega,fun i v hi=>?_⟩;have hcl:cur.toList.length=cur.size:=Array.length_toList;by_cases h1:i<off
  ·rw[List.append_assoc,List.getElem?_append_left (by simp;omega),List.getElem?_take_of_lt h1]at hi;obtain⟨y,hy,hV⟩:=h i v hi;refine⟨y,?_,hV⟩;rw[List.getElem?_toArray,List.append_assoc,List.getElem?_append_left (by simp;omega),List.getElem?_take_of_lt (by omega)];simpa using hy
  ·by_cases h2:i<off+xs.length
   ·rw[List.append_assoc,List.getElem?_append_right (by simp;omega),List.getElem?_append_left (by simp;omega)]at hi;obtain⟨y,hy,hV⟩:=hv.get hi;refine⟨y,?_,hV⟩;rw[List.getElem?_toArray,List.append_assoc,List.getElem?_append_right (by simp;omega),List.getElem?_append_left (by simp;omega),←hy];congr 1;simp;omega
   ·rw[List.append_assoc,List.getElem?_append_right (by simp;omega),List.getElem?_append_right (by simp;omega),List.getElem?_drop]at hi;have e:off+xs.length+(i-(k.take off).length-xs.length)=i:=by simp;omega
    rw[e]at hi;obtain⟨y,hy,hV⟩:=h i v hi;refine⟨y,?_,hV⟩;rw[List.getElem?_toArray,List.append_assoc,List.getElem?_append_right (by simp;omega),List.getElem?_append_right (by simp;omega),List.getElem?_drop];have e2:base+off+ys.length+(base+i-(cur.toList.take (base+off)).length-ys.length)=base+i:=by simp;omega
    rw[e2];simpa using hy
end
end Go.Am
