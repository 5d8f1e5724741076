import Derived.Test.YthafgjhkjgcdeaaGreatPmW
import Derived.Shelf.Sort.Plain
import Derived.Shelf.Slices.In.SortNone
namespace Go.Am
structure SortH (P:Program) (g:FuncId):Prop where
 c:zaf P g
 one:∀(blk off cap:Nat) (zs:List Int) (w:World),Go.Sort.Holds (Value.int .i64) w blk off zs.toArray→blk<w.heap.size→zs.length<4611686018427387904→
  Calls P g #[.slice (some ⟨blk,off,none⟩) zs.length cap] w fun e w'=>e=.returned (.tuple #[])∧∃n os,w'=Go.Sort.grow (Go.Sort.putRow (Value.int .i64) (Go.Sort.ahead w n) blk off (srt zs).toArray) os
 none:∀(p:Option Addr) (cap:Nat) (w:World),Calls P g #[.slice p 0 cap] w fun e w'=>e=.returned (.tuple #[])∧w'=w
theorem zjq {w:World}{k blk off:Nat}{l:List Int}{os:Array Obj}{b:Nat}(hb:b<w.heap.size):
 (Go.Sort.grow (Go.Sort.putRow (Value.int .i64) (Go.Sort.ahead w k) blk off l.toArray) os).heap[b]? =if blk=b then(w.heap[b]?).map (Go.Sort.onCells (Go.Sort.putCells (Value.int .i64) off l.toArray))else w.heap[b]? :=by
 rw[Go.Sort.heap_grow_old _ _ (by simpa using hb)]
 simp only[Go.Sort.putRow,Go.Sort.mapBlock,Go.Sort.ahead,Array.getElem?_modify]
theorem zlc {P:Program}{g:FuncId}(h:SortH P g) {H:AH}{a:Option Addr}{c:Nat}:ACalls P g [.slice a 0 c] H fun v H'=>v=.tuple #[]∧H'=H:=by
 refine⟨h.c,fun m w cargs hr hv=>?_⟩
 obtain⟨y,ys,e1,hv1,hv2⟩:=hv.cons_inv
 have e2:=hv2.nil_inv
 subst e2
 have hc:cargs= #[y]:=by
  cases cargs;simpa using e1
 subst hc
 have hy:∃p cap,y=.slice p 0 cap:=by
  cases hv1 with
  |nils p=>exact⟨_,_,rfl⟩
  |slice=>exact⟨_,_,rfl⟩
 obtain⟨p,cap,rfl⟩:=hy
 refine(h.none p cap w).mono ?_
 rintro e w' ⟨rfl,rfl⟩
 exact⟨.tuple #[],.tuple #[],H,m,rfl,⟨rfl,rfl⟩,.junk _,hr,Mu.le_refl m,⟨Nat.le_refl _,fun b _ _=>rfl,⟨⟨rfl,rfl⟩,fun b cs e fz h=>⟨cs,h⟩⟩⟩,fun id k' hk=>.inr ⟨id,k',hk,rfl,fun h=>h⟩⟩
theorem ztx {P:Program}{g:FuncId}(hc0:zaf P g) {id n c:Nat}{cells:List Value}{H:AH}{zs ol:List Int}{ra:Value}{rc:Nat→Nat→Nat→Value}
 (h:∀(blk off cap:Nat) (w:World),Go.Sort.Holds (Value.int .i64) w blk off zs.toArray→blk<w.heap.size→n≤cap→
   Calls P g #[.slice (some ⟨blk,off,none⟩) n cap] w fun e w'=>e=.returned (rc blk off cap)∧∃k os,w'=Go.Sort.grow (Go.Sort.putRow (Value.int .i64) (Go.Sort.ahead w k) blk off ol.toArray) os)
 (hV:∀(m:Mu) (cap:Nat),id<m.n→c≤cap→0+cap*1≤(m.f id).size→V m ra (rc (m.f id).blk (m.f id).base cap))
 (hol:ol.length=zs.length) (hb:H.b id=some ⟨true,cells⟩) (hz:zs.length=n) (hn:0<n) (hnc:n≤c) (hcl:c≤cells.length)
 (hq:∀q (hq:q<zs.length),cells[q]? =some (.int .i64 zs[q])):
 ACalls P g [.slice (some ⟨id,0,some 1⟩) n c] H fun v H'=>v=ra∧∃cs,H'=H.set id (some ⟨true,cs⟩)∧cs.length=cells.length∧∀q (hq:q<ol.length),cs[q]? =some (.int .i64 ol[q]):=by
 refine⟨hc0,fun m w cargs hr hv=>?_⟩
 obtain⟨y,ys,e1,hv1,hv2⟩:=hv.cons_inv
 have e2:=hv2.nil_inv
 subst e2
 have hc:cargs= #[y]:=by
  cases cargs;simpa using e1
 subst hc
 have hL:=hz
 cases hv1 with
 | @slice _ _ _ _ _ o cap hid g1 g2 g3 g4=>
  obtain⟨cs,e,fz,k1,k2,k3,k4,k5⟩:=hr.cells id _ hb
  have fz0:=k4 rfl
  subst fz0
  have ho:=g3 (by omega)
  rw[Nat.add_zero]at ho
  subst ho
  have hlt:=(Array.getElem?_eq_some_iff.1 k1).1
  have hold:Go.Sort.Holds (Value.int .i64) w (m.f id).blk (m.f id).base zs.toArray:=fun j hj=>by
   have hj':j<zs.length:=by simpa using hj
   obtain⟨c0,c1,c2⟩:=k5 j _ (hq j hj')
   cases c2
   refine⟨?_,?_⟩
   ·simp[World.cell?,k1,c1,hj']
   ·simp[World.frozen?,k1]
  refine(h _ _ cap w hold hlt (by omega)).mono ?_
  rintro e' w' ⟨rfl,k,os,rfl⟩
  have hsl:=hol
  have hcl':cells.length≤(m.f id).size:=k3
  have hget:∀q,q<ol.length→(ol.map (Value.int .i64)++cells.drop n)[q]? =(ol[q]?).map (Value.int .i64):=fun q hq'=>by
   rw[List.getElem?_append_left (by simpa using hq'),List.getElem?_map]
  have hlen:(ol.map (Value.int .i64)++cells.drop n).length=cells.length:=by simp;omega
  have hsize:w.heap.size≤(Go.Sort.grow (Go.Sort.putRow (Value.int .i64) (Go.Sort.ahead w k) (m.f id).blk (m.f id).base ol.toArray) os).heap.size:=by simp
  refine⟨_,ra,H.set id (some ⟨true,ol.map (Value.int .i64)++cells.drop n⟩),m,rfl,⟨rfl,_,rfl,hlen,fun q hq'=>?_⟩,hV m cap hid g2 g4,⟨hr.n,fun id' k' hk=>?_,fun id' k' hk=>?_,fun i j bi bj hi hj hne hrw=>?_⟩,Mu.le_refl m,⟨hsize,fun b hb1 hb2=>?_,⟨⟨rfl,rfl⟩,fun b cs' e2 fz2 hb1=>?_⟩⟩,fun id' k' hk=>?_⟩
  ·rw[hget q hq',List.getElem?_eq_getElem hq'];rfl
  ·simp only[AH.set]at hk⊢
   split at hk
   ·rename_i e2;subst e2;exact hr.lt _ _ hb
   ·exact hr.lt _ _ hk
  ·simp only[AH.set]at hk
   split at hk
   ·rename_i e2
    subst e2
    cases hk
    refine⟨Go.Sort.putCells (Value.int .i64) (m.f id').base ol.toArray cs,e,(0,0),?_,by simpa[Go.Sort.putCells]using k2,by rw[hlen];exact k3,fun _=>rfl,fun i v hi=>?_⟩
    ·rw[zjq hlt,if_pos rfl,k1];rfl
    ·have hi2:i<cells.length:=by
      have:=(List.getElem?_eq_some_iff.1 hi).1
      rw[hlen]at this;exact this
     have hi3:(m.f id').base+i<cs.size:=by omega
     simp only[Go.Sort.putCells,Array.getElem?_mapIdx,Array.getElem?_eq_getElem hi3,Option.map_some,Option.some.injEq,exists_eq_left']
     by_cases hin:i<ol.length
     ·rw[hget i hin,List.getElem?_eq_getElem hin]at hi
      cases hi
      rw[if_pos ⟨by omega,by simp;omega⟩]
      simp only[Nat.add_sub_cancel_left]
      rw[getElem!_pos _ i (by simpa using hin)]
      simp only[List.getElem_toArray]
      exact .int _ _
     ·rw[if_neg (by simp;omega)]
      rw[List.getElem?_append_right (by simpa using hin),List.getElem?_drop]at hi
      have e3:n+(i-(ol.map (Value.int .i64)).length)=i:=by simp;omega
      rw[e3]at hi
      obtain⟨c0,c1,c2⟩:=k5 i v hi
      rw[Array.getElem?_eq_getElem hi3]at c1
      cases c1
      exact c2
   ·rename_i e2
    obtain⟨cs',e3,fz3,r1,r2⟩:=hr.cells id' k' hk
    have hne:(m.f id).blk≠(m.f id').blk:=hr.apart id id' _ _ hb hk (fun e4=>e2 e4.symm) rfl
    refine⟨cs',e3,fz3,?_,r2⟩
    rw[zjq (Array.getElem?_eq_some_iff.1 r1).1,if_neg hne];exact r1
  ·simp only[AH.set]at hi hj
   have hi':∃b0,H.b i=some b0∧(bi.rw=true→b0.rw=true):=by
    split at hi
    ·rename_i e2;subst e2;exact⟨_,hb,fun _=>rfl⟩
    ·exact⟨_,hi,fun h=>h⟩
   have hj':∃b0,H.b j=some b0:=by
    split at hj
    ·rename_i e2;subst e2;exact⟨_,hb⟩
    ·exact⟨_,hj⟩
   obtain⟨b1,i1,i2⟩:=hi'
   obtain⟨b2,j1⟩:=hj'
   exact hr.apart i j b1 b2 i1 j1 hne (i2 hrw)
  ·rw[zjq hb1,if_neg (hb2 id _ hb rfl)]
  ·have hb3:=(Array.getElem?_eq_some_iff.1 hb1).1
   rw[zjq hb3]
   split
   ·rw[hb1];exact⟨_,rfl⟩
   ·exact⟨cs',hb1⟩
  ·simp only[AH.set]at hk
   split at hk
   ·rename_i e2;subst e2;cases hk;exact .inr ⟨id',_,hb,rfl,fun _=>rfl⟩
   ·exact .inr ⟨id',k',hk,rfl,fun h=>h⟩
theorem zrf {P:Program}{g:FuncId}(h:SortH P g) {id n c:Nat}{cells:List Value}{H:AH}{zs:List Int}(hb:H.b id=some ⟨true,cells⟩) (hz:zs.length=n) (hn:0<n) (hnc:n≤c) (hcl:c≤cells.length) (hl:n<4611686018427387904)
 (hq:∀q (hq:q<zs.length),cells[q]? =some (.int .i64 zs[q])):
 ACalls P g [.slice (some ⟨id,0,some 1⟩) n c] H fun v H'=>v=.tuple #[]∧∃cs,H'=H.set id (some ⟨true,cs⟩)∧cs.length=cells.length∧∀q (hq:q<(srt zs).length),cs[q]? =some (.int .i64 (srt zs)[q]):=
 ztx h.c (rc:=fun _ _ _=>.tuple #[]) (fun blk off cap w h1 h2 _=>hz▸h.one blk off cap zs w h1 h2 (by omega)) (fun m _ _ _ _=>.junk _) (zjX zs) hb hz hn hnc hcl hq
end Go.Am
namespace Go.Pm
open Go.Am
theorem sort_calls {P:Program}{g:FuncId}(h:SortH P g) (row:Int→List PV) (hrow:∀x,row x=[.int .i64 x]) {l:List Int}(hb8:l.length*8≤140737488355328):
 PCalls P g [(.io,.sl true 1 (l.map row))] (Eo .junk [.sl true 1 ((srt l).map row)]):=by
 have hsl:=zjX l
 refine⟨h.c,fun E vs ok hlen hargs=>?_⟩
 match vs,hlen with
 |[v0],_=>
  have h0:PR E (some (0,[])) (.sl true 1 (l.map row)) v0:=hargs 0 _ v0 rfl rfl
  generalize hx:PV.sl true 1 (l.map row)=x at h0
  cases h0 with
  |sl0 o es=>
   injection hx with e1 e2 e3
   have:l=[]:=by simpa using e3
   subst this
   refine(zlc h).mono fun v H' hv=>?_
   obtain⟨rfl,rfl⟩:=hv
   refine⟨_,_,E,⟨rfl,rfl⟩,rfl,⟨ok,⟨Nat.le_refl _,fun b hg=>⟨hg,fun k' hk=>⟨k',hk,rfl⟩⟩,fun b _ hb2=>⟨hb2,rfl,fun h=>h⟩⟩,.junk _,rfl,fun q y v hy hv=>?_⟩⟩
   have hq:q=0:=by
    have:=(List.getElem?_eq_some_iff.1 hv).1
    simp at this;exact this
   subst hq
   simp only[List.getElem?_cons_zero,Option.some.injEq]at hy hv
   subst hy
   subst hv
   have:(srt []).map row=[]:=by rw[List.map_eq_nil_iff,←List.length_eq_zero_iff,zjX];rfl
   rw[this]
   exact .sl0 _ _
  | @slO l' id off es n c k rows how hG hb hrw hn hcc hm hr hl hh=>
   injection hx with e1 e2 e3
   subst e3
   subst e2
   obtain⟨⟨_,rfl⟩,hl⟩:=hl
   simp only[List.length_map]at hn
   subst hn
   obtain⟨rw,cells⟩:=k
   dsimp only at hrw hl
   subst hrw
   simp only[Nat.zero_add,Nat.mul_one]at hl
   by_cases hz:l.length=0
   ·have hl0:=List.eq_nil_of_length_eq_zero hz
    subst hl0
    refine(zlc h).mono fun v H' hv=>?_
    obtain⟨rfl,rfl⟩:=hv
    refine⟨_,_,E,⟨rfl,rfl⟩,rfl,⟨ok,⟨Nat.le_refl _,fun b hg=>⟨hg,fun k' hk=>⟨k',hk,rfl⟩⟩,fun b _ hb2=>⟨hb2,rfl,fun h=>h⟩⟩,.junk _,rfl,fun q y v hy hv=>?_⟩⟩
    have hq:q=0:=by
     have:=(List.getElem?_eq_some_iff.1 hv).1
     simp at this;exact this
    subst hq
    simp only[List.getElem?_cons_zero,Option.some.injEq]at hy hv
    subst hy
    subst hv
    have e0:(srt []).map row=[].map row:=by rw[List.map_nil,List.map_eq_nil_iff,←List.length_eq_zero_iff,zjX];rfl
    rw[e0]
    exact .slO how hG hb rfl (by simp) hcc hm hr (by simpa using hl) hh
   have hq:∀q,(hq:q<l.length)→cells[q]? =some (.int .i64 l[q]):=fun q hq=>by
    have hy:∃y,cells[q]? =some y:=⟨cells[q]'(by omega),List.getElem?_eq_getElem (by omega)⟩
    obtain⟨y,hy⟩:=hy
    have:=hh q (row l[q]) 0 (.int .i64 l[q]) y (by simp[hq]) (by simp[hrow]) (by simpa using hy)
    cases this
    exact hy
   refine(zrf h (zs:=l) hb rfl (by omega) hcc hl (by omega) hq).mono fun v H' hv=>?_
   obtain⟨rfl,cs,rfl,k1,k2⟩:=hv
   have hid:id<E.H.n:=ok.wf id _ hb
   refine⟨_,_,⟨E.H.set id (some ⟨true,cs⟩),E.G,E.ow⟩,⟨rfl,rfl⟩,rfl,⟨⟨fun b k' hk=>?_,fun b hb'=>ok.fresh b hb'⟩,⟨Nat.le_refl _,fun b hg=>⟨hg,fun k' hk=>?_⟩,fun b hb1 hb2=>?_⟩,.junk _,rfl,fun q y v hy hv=>?_⟩⟩
   ·simp only[AH.set]at hk⊢
    split at hk
    ·rename_i e;rw[e];exact hid
    ·exact ok.wf b k' hk
   ·have hne:b≠id:=fun e=>hG (e▸hg)
    exact⟨k',by simp[AH.set,hne,hk],rfl⟩
   ·have hne:b≠id:=fun e=>by rw[e,how]at hb2;cases hb2
    exact⟨hb2,by simp[AH.set,hne],fun hg=>hg⟩
   ·have hq0:q=0:=by
     have:=(List.getElem?_eq_some_iff.1 hv).1
     simp at this;exact this
    subst hq0
    simp only[List.getElem?_cons_zero,Option.some.injEq]at hy hv
    subst hy
    subst hv
    refine .slO (k:=⟨true,cs⟩) how hG (by simp[AH.set]) rfl (by simp;omega) hcc (by unfold zc0;omega) (fun r hr=>?_) ⟨⟨by omega,rfl⟩,by simp[k1];omega⟩ fun q r t x y a1 a2 a3=>?_
    ·obtain⟨z,_,rfl⟩:=List.mem_map.1 hr
     simp[hrow]
    ·simp only[List.getElem?_map]at a1
     obtain⟨z,hz,rfl⟩:=Option.map_eq_some_iff.1 a1
     rw[hrow]at a2
     have ht:t=0:=by
      have:=(List.getElem?_eq_some_iff.1 a2).1
      simp at this;omega
     subst ht
     simp only[List.getElem?_cons_zero,Option.some.injEq]at a2
     subst a2
     simp only[Nat.zero_add,Nat.mul_one,Nat.add_zero]at a3
     have hql:=(List.getElem?_eq_some_iff.1 hz).1
     rw[k2 q hql]at a3
     rw[List.getElem?_eq_getElem hql]at hz
     cases hz;cases a3
     exact .int _ _
  |_=>cases hx
end Go.Pm
