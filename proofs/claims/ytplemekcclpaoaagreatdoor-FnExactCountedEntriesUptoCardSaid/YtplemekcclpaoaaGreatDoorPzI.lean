import Derived.Test.YtplemekcclpaoaaGreatDoorPmW
import Derived.Shelf.Strconv.Itoa3
namespace Go.Am
structure ItoaH (P:Program) (g:FuncId):Prop where
 c:zac P g
 t:∃b,zlX=some b∧P.globalNamed "internal/strconv.uint64pow10" =some b
 one:∀(n:Int) (_: -9223372036854775808≤n) (_:n≤9223372036854775807) (w:World),Lib.TabIs P w "internal/strconv.uint64pow10" .u64 Lib.pow10Tab→
  Calls P g #[.int .i64 n] w fun e w'=>e=.returned (.string ⟨(Lib.itoa n).toArray⟩)∧∃k os,w'=Go.Sort.grow (w.drewN k) os
theorem zl8{w:World}{k:Nat}{os:Array Obj}{b:Nat}(hb:b<w.heap.size):(Go.Sort.grow (w.drewN k) os).heap[b]? =w.heap[b]? :=by
 rw[Go.Sort.heap_grow_old _ _ (by simpa using hb)];simp
theorem zs3{P:Program}{g:FuncId}(h:ItoaH P g){H:AH}{n:Int}(h0: -9223372036854775808≤n)(h1:n≤9223372036854775807):
 ACalls P g [.int .i64 n] H fun v H'=>v=.string ⟨(Lib.itoa n).toArray⟩∧H'=H:=by
 refine⟨h.c,fun m w cargs hr hv ht=>?_⟩;obtain⟨y,ys,e1,hv1,hv2⟩:=hv.cons_inv;have e2:=hv2.nil_inv;subst e2
 have hc:cargs= #[y]:=by
  cases cargs;simpa using e1
 subst hc;have hy:=zgX hv1;subst hy;obtain⟨b,hb1,hb2⟩:=h.t;obtain⟨⟨e,fz,hcell⟩,_⟩:=ht b hb1
 have htab:Lib.TabIs P w "internal/strconv.uint64pow10" .u64 Lib.pow10Tab:=by
  unfold Lib.TabIs World.var?;rw[hb2,Option.bind_some,hcell];simp only[zmm,Lib.pow10Tab,List.map_map];rfl
 refine(h.one n h0 h1 w htab).mono ?_;rintro e w' ⟨rfl,k,os,rfl⟩;have hsize:w.heap.size≤(Go.Sort.grow (w.drewN k) os).heap.size:=by simp
 refine⟨_,_,H,m,rfl,⟨rfl,rfl⟩,.str _,⟨hr.n,hr.lt,fun id k' hk=>?_,hr.apart⟩,Mu.le_refl m,⟨hsize,fun b hb _=>zl8 hb,⟨⟨rfl,rfl⟩,fun b cs e fz hb=>⟨cs,(zl8 (Array.getElem?_eq_some_iff.1 hb).1).trans hb⟩⟩⟩,fun id k' hk=>.inr ⟨id,k',hk,rfl,fun h=>h⟩⟩;obtain⟨cs,e,fz,k1,k2⟩:=hr.cells id k' hk;exact⟨cs,e,fz,(zl8 (Array.getElem?_eq_some_iff.1 k1).1).trans k1,k2⟩
end Go.Am
namespace Go.Pm
open Go.Am
theorem itoa_calls{P:Program}{g:FuncId}(h:ItoaH P g){n:Int}(h0: -9223372036854775808≤n)(h1:n≤9223372036854775807):
 PCalls P g [(.sh,.int .i64 n)] (Eo (.str ⟨(Lib.itoa n).toArray⟩) [.junk]):=by
 refine⟨h.c,fun E vs ok hlen hargs=>?_⟩
 match vs,hlen with
 |[v0],_=>
  have h2:PR E none (.int .i64 n) v0:=hargs 0 _ v0 rfl rfl;cases h2;refine(zs3 h h0 h1).mono fun v H' hv=>?_
  obtain⟨rfl,rfl⟩:=hv;refine⟨_,_,E,⟨rfl,rfl⟩,rfl,⟨ok,⟨Nat.le_refl _,fun b hg=>⟨hg,fun k' hk=>⟨k',hk,rfl⟩⟩,fun b _ hb2=>⟨hb2,rfl,fun h=>h⟩⟩,.str _,rfl,fun q y v hy hv=>?_⟩⟩
  have hq:q=0:=by
   have:=(List.getElem?_eq_some_iff.1 hv).1;simp at this;exact this
  subst hq;simp only[List.getElem?_cons_zero,Option.some.injEq]at hy hv;subst hy;exact .junk _
end Go.Pm
