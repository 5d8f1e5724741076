import Derived.Calls
import Derived.LoopN
import Derived.Laws.Sem
namespace Go.Am
structure Blk where
 rw:Bool
 cells:List Value
structure AH where
 n:Nat
 b:Nat→Option Blk
structure Loc where
 blk:Nat
 base:Nat
 size:Nat
structure Mu where
 n:Nat
 f:Nat→Loc
def Mu.le(m m':Mu):Prop:=m.n≤m'.n∧∀i,i<m.n→m'.f i=m.f i
variable{m:Mu}{x y:Value}{xs ys:List Value}
theorem Mu.le_refl(m:Mu):m.le m:=⟨Nat.le_refl _,fun _ _=>rfl⟩
theorem Mu.le_trans{a b c:Mu}(h:a.le b)(h':b.le c):a.le c:=
 ⟨Nat.le_trans h.1 h'.1,fun i hi=>(h'.2 i (Nat.lt_of_lt_of_le hi h.1)).trans (h.2 i hi)⟩
inductive V (m:Mu):Value→Value→Prop where
 |junk (c:Value):V m (.tuple #[]) c
 |bool (b:Bool):V m (.bool b) (.bool b)
 |int (k:IntKind) (n:Int):V m (.int k n) (.int k n)
 |str (s:ByteArray):V m (.string s) (.string s)
 |nils (a:Option Addr):V m (.slice none 0 0) (.slice a 0 0)
 |slice {id off es n c o cap:Nat}(hid:id<m.n) (h1:n≤c) (h2:c≤cap) (h3:0<cap→o=(m.f id).base+off)
  (h4:off+cap*es≤(m.f id).size):V m (.slice (some ⟨id,off,some es⟩) n c) (.slice (some ⟨(m.f id).blk,o,none⟩) n cap)
 |nilp:V m (.pointer none) (.pointer none)
 |ptr {id off:Nat}(hid:id<m.n):V m (.pointer (some ⟨id,off,none⟩)) (.pointer (some ⟨(m.f id).blk,(m.f id).base+off,none⟩))
 |nilf:V m .nilFunc .nilFunc
 |nili:V m .nilIface .nilIface
 |func (fn:Fn) {xs ys us vs:Array Value}(hl:xs.toList.length=ys.toList.length)
  (h:∀(i:Nat) (x y:Value),xs.toList[i]? =some x→ys.toList[i]? =some y→V m x y) (kl:us.toList.length=vs.toList.length)
  (k:∀(i:Nat) (x y:Value),us.toList[i]? =some x→vs.toList[i]? =some y→V m x y):V m (.func fn xs us) (.func fn ys vs)
 |agg {xs ys:Array Value}(hl:xs.toList.length=ys.toList.length)
  (h:∀(i:Nat) (x y:Value),xs.toList[i]? =some x→ys.toList[i]? =some y→V m x y):V m (.agg xs) (.agg ys)
 |tuple {xs ys:Array Value}(hl:xs.toList.length=ys.toList.length)
  (h:∀(i:Nat) (x y:Value),xs.toList[i]? =some x→ys.toList[i]? =some y→V m x y):V m (.tuple xs) (.tuple ys)
def Vl(m:Mu)(xs ys:List Value):Prop:=xs.length=ys.length∧∀(i:Nat) (x y:Value),xs[i]? =some x→ys[i]? =some y→V m x y
theorem V.mono{m':Mu}(hm:m.le m')(h:V m x y):V m' x y:=by
 induction h with
 |junk c=>exact .junk c
 |bool b=>exact .bool b
 |int k n=>exact .int k n
 |str s=>exact .str s
 |nils a=>exact .nils a
 |slice hid h1 h2 h3 h4=>
  have e:=hm.2 _ hid;rw[←e]at h3 h4⊢;exact .slice (Nat.lt_of_lt_of_le hid hm.1) h1 h2 h3 h4
 |nilp=>exact .nilp
 |ptr hid=>
  have e:=hm.2 _ hid;rw[←e];exact .ptr (Nat.lt_of_lt_of_le hid hm.1)
 |nilf=>exact .nilf
 |nili=>exact .nili
 |func fn hl _ kl _ ih ik=>exact .func fn hl ih kl ik
 |agg hl _ ih=>exact .agg hl ih
 |tuple hl _ ih=>exact .tuple hl ih
theorem Vl.mono{m':Mu}(hm:m.le m')(h:Vl m xs ys):Vl m' xs ys:=⟨h.1,fun i x y a b=>(h.2 i x y a b).mono hm⟩
theorem Vl.nil(m:Mu):Vl m [] []:=⟨rfl,fun _ _ _ h=>by simp at h⟩
theorem Vl.cons(h:V m x y)(hs:Vl m xs ys):Vl m (x::xs) (y::ys):=by
 refine⟨by simp[hs.1],fun i a b ha hb=>?_⟩;cases i with
 |zero=>simp at ha hb;subst ha;subst hb;exact h
 |succ i=>exact hs.2 i a b (by simpa using ha) (by simpa using hb)
theorem Vl.nil_inv(h:Vl m [] ys):ys=[]:=List.eq_nil_of_length_eq_zero h.1.symm
theorem Vl.cons_inv(h:Vl m (x::xs) ys):∃y ys',ys=y::ys'∧V m x y∧Vl m xs ys':=by
 cases ys with
 |nil=>have:=h.1;simp at this
 |cons y ys'=>
  refine⟨y,ys',rfl,h.2 0 x y rfl rfl,?_,fun i a b ha hb=>h.2 (i+1) a b (by simpa using ha) (by simpa using hb)⟩;have:=h.1;simpa using this
theorem Vl.append{us vs:List Value}(h:Vl m xs ys)(k:Vl m us vs):Vl m (xs++us) (ys++vs):=by
 induction xs generalizing ys with
 |nil=>rw[h.nil_inv];exact k
 |cons x xs ih=>obtain⟨y,ys',rfl,hv,ht⟩:=h.cons_inv;exact .cons hv (ih ht)
theorem Vl.get(h:Vl m xs ys){i:Nat}(hx:xs[i]? =some x):∃y,ys[i]? =some y∧V m x y:=by
 have hi:i<xs.length:=by
  rcases Nat.lt_or_ge i xs.length with h|h
  ·exact h
  ·rw[List.getElem?_eq_none h]at hx;cases hx
 have hj:i<ys.length:=h.1▸hi;exact⟨ys[i],List.getElem?_eq_getElem hj,h.2 i x _ hx (List.getElem?_eq_getElem hj)⟩
theorem Vl.take(h:Vl m xs ys)(k:Nat):Vl m (xs.take k) (ys.take k):=by
 refine⟨by simp[h.1],fun i x y hx hy=>?_⟩;rw[List.getElem?_take]at hx hy;split at hx
 ·rename_i hlt;rw[if_pos hlt]at hy;exact h.2 i x y hx hy
 ·cases hx
theorem Vl.drop(h:Vl m xs ys)(k:Nat):Vl m (xs.drop k) (ys.drop k):=by
 refine⟨by simp[h.1],fun i x y hx hy=>?_⟩;rw[List.getElem?_drop]at hx hy;exact h.2 _ x y hx hy
theorem Vl.set(h:Vl m xs ys)(i:Nat)(hv:V m x y):Vl m (xs.set i x) (ys.set i y):=by
 refine⟨by simp[h.1],fun j a b ha hb=>?_⟩;rw[List.getElem?_set]at ha hb;split at ha
 ·rename_i e;rw[if_pos e]at hb;split at ha
  ·split at hb
   ·cases ha;cases hb;exact hv
   ·cases hb
  ·cases ha
 ·rename_i e;rw[if_neg e]at hb;exact h.2 j a b ha hb
def zeb:Value→Bool
 | .agg _| .tuple _=>false
 |_=>true
theorem V.oneCell(h:V m x y)(hs:zeb x=true):y.oneCell'=true:=by
 cases h<;>first|rfl|cases hs
theorem V.cells(h:V m x y)(hx:x≠.tuple #[]):Vl m x.cells.toList y.cells.toList:=by
 cases h with
 |junk c=>exact absurd rfl hx
 |agg hl k=>exact⟨hl,k⟩
 |tuple hl k=>exact .cons (.tuple hl k) (.nil m)
 |bool b=>exact .cons (.bool b) (.nil m)
 |int k n=>exact .cons (.int k n) (.nil m)
 |str s=>exact .cons (.str s) (.nil m)
 |nils a=>exact .cons (.nils a) (.nil m)
 |slice hid h1 h2 h3 h4=>exact .cons (.slice hid h1 h2 h3 h4) (.nil m)
 |nilp=>exact .cons .nilp (.nil m)
 |ptr hid=>exact .cons (.ptr hid) (.nil m)
 |nilf=>exact .cons .nilf (.nil m)
 |nili=>exact .cons .nili (.nil m)
 |func fn hl h kl k=>exact .cons (.func fn hl h kl k) (.nil m)
structure RelH (m:Mu) (H:AH) (w:World):Prop where
 n:m.n=H.n
 lt:∀id k,H.b id=some k→id<H.n
 cells:∀id k,H.b id=some k→∃cs e fz,w.heap[(m.f id).blk]? =some (.cells cs e fz)∧(m.f id).base+(m.f id).size≤cs.size∧
  k.cells.length≤(m.f id).size∧(k.rw=true→fz=(0,0))∧∀i v,k.cells[i]? =some v→∃c,cs[(m.f id).base+i]? =some c∧V m v c
 apart:∀i j bi bj,H.b i=some bi→H.b j=some bj→i≠j→bi.rw=true→(m.f i).blk≠(m.f j).blk
structure Kio (w0 w:World):Prop where
 os:w.os=w0.os∧w.output=w0.output
 old:∀(b:Nat) cs e fz,w0.heap[b]? =some (Obj.cells cs e fz)→∃cs',w.heap[b]? =some (Obj.cells cs' e fz)
def zoh(m:Mu)(H:AH)(w w':World):Prop:=
 w.heap.size≤w'.heap.size∧(∀b,b<w.heap.size→(∀id k,H.b id=some k→k.rw=true→(m.f id).blk≠b)→w'.heap[b]? =w.heap[b]?)∧Kio w w'
def zx5(m:Mu)(H:AH)(w:World)(m':Mu)(H':AH):Prop:=
 ∀id k',H'.b id=some k'→w.heap.size≤(m'.f id).blk∨∃id0 k0,H.b id0=some k0∧(m.f id0).blk=(m'.f id).blk∧(k'.rw=true→k0.rw=true)
def zac(P:Program)(f:FuncId):Prop:=∀args w,(callFunc f args).run P w=.ok (.enter f args) w
def zlX:Option Nat:=some 0
def zmm:Array Value:=((List.range 20).map fun i=>Value.int .u64 ((10^i:Nat):Int)).toArray
def Tb(m:Mu)(H:AH)(w:World):Prop:=
 ∀g,zlX=some g→(∃e fz,w.heap[g]? =some (Obj.cells zmm e fz))∧∀id k,H.b id=some k→k.rw=true→(m.f id).blk≠g
def ACalls(P:Program)(f:FuncId)(args:List Value)(H:AH)(R:Value→AH→Prop):Prop:=
 zac P f∧∀(m:Mu) (w:World) (cargs:Array Value),RelH m H w→Vl m args cargs.toList→Tb m H w→
  Calls P f cargs w fun e w'=>∃cv v H' m',e=.returned cv∧R v H'∧V m' v cv∧RelH m' H' w'∧m.le m'∧zoh m H w w'∧zx5 m H w m' H'
def WFH(H:AH):Prop:=∀id k,H.b id=some k→id<H.n
theorem ACalls.wf{P:Program}{f:FuncId}{args:List Value}{H:AH}{R:Value→AH→Prop}(h:ACalls P f args H R):ACalls P f args H fun v H'=>R v H'∧WFH H':=
 ⟨h.1,fun m w cargs hm hv ht=>(h.2 m w cargs hm hv ht).mono fun _ _ ⟨cv,v,H',m',he,hR,hV,hH,r⟩=>⟨cv,v,H',m',he,⟨hR,hH.lt⟩,hV,hH,r⟩⟩
theorem ACalls.mono{P:Program}{f:FuncId}{args:List Value}{H:AH}{R R':Value→AH→Prop}(h:ACalls P f args H R)
(hr:∀v H',R v H'→R' v H'):ACalls P f args H R':=
 ⟨h.1,fun m w cargs hm hv ht=>(h.2 m w cargs hm hv ht).mono fun _ _ ⟨cv,v,H',m',he,hR,r⟩=>⟨cv,v,H',m',he,hr v H' hR,r⟩⟩
end Go.Am
