import Derived.Calls
import Derived.LoopN
import Derived.Laws.Sem
open Bool renaming false→aa,true→Z
open Option renaming none→ae,some→J
set_option linter.defProp false
namespace Go.Am
def aB:=@if_neg
def aD:=@if_pos
def cB:=@Nat.le_refl
def cJ:=@List.getElem?_eq_getElem
def dQ:=@Nat.lt_or_ge
def gD:=@Nat.le_trans
def jw:=@List.getElem?_drop
def mu:=@List.getElem?_take
def m9:=@List.eq_nil_of_length_eq_zero
def BW:=@Nat.lt_of_lt_of_le
def BX:=@List.getElem?_eq_none
def Es:=@List.getElem?_set
structure mD where
 rw:Bool
 cells:List Value
structure AH where
 n:Nat
 b:Nat->Option mD
structure Loc where
 bu:Nat
 base:Nat
 size:Nat
structure Mu where
 n:Nat
 f:Nat->Loc
def Mu.le(m m':Mu):Prop:=m.n<=m'.n/\∀i,i<m.n->m'.f i=m.f i
variable{m:Mu}{x y:Value}{xs ys:List Value}
def Mu.le_refl(m:Mu):m.le m:=⟨cB _,λ_ _=>rfl⟩
def Mu.le_trans{a b c:Mu}(h:a.le b)(h':b.le c):a.le c:=
 ⟨gD h.1 h'.1,λi hi=>(h'.2 i (BW hi h.1)).trans (h.2 i hi)⟩
inductive V (m:Mu):Value->Value->Prop where
 |ax (c:Value):V m (.tuple #[]) c
 |bool (b:Bool):V m (.bool b) (.bool b)
 |int (k:IntKind) (n:Int):V m (.int k n) (.int k n)
 |str (s:ByteArray):V m (.string s) (.string s)
 |mK (a:Option Addr):V m (.slice ae 0 0) (.slice a 0 0)
 |slice {id off es n c o cap:Nat}(b9:id<m.n) (h1:n<=c) (h2:c<=cap) (h3:0<cap->o=(m.f id).base+off)
  (h4:off+cap*es<=(m.f id).size):V m (.slice (J ⟨id,off,J es⟩) n c) (.slice (J ⟨(m.f id).bu,o,ae⟩) n cap)
 |gu:V m (.pointer ae) (.pointer ae)
 |ptr {id off:Nat}(b9:id<m.n):V m (.pointer (J ⟨id,off,ae⟩)) (.pointer (J ⟨(m.f id).bu,(m.f id).base+off,ae⟩))
 |fX:V m .nilFunc .nilFunc
 |ia:V m .nilIface .nilIface
 |func (fn:Fn) {xs ys us vs:Array Value}(hl:xs.toList.length=ys.toList.length)
  (h:∀(i:Nat) (x y:Value),xs.toList[i]? =J x->ys.toList[i]? =J y->V m x y) (kl:us.toList.length=vs.toList.length)
  (k:∀(i:Nat) (x y:Value),us.toList[i]? =J x->vs.toList[i]? =J y->V m x y):V m (.func fn xs us) (.func fn ys vs)
 |agg {xs ys:Array Value}(hl:xs.toList.length=ys.toList.length)
  (h:∀(i:Nat) (x y:Value),xs.toList[i]? =J x->ys.toList[i]? =J y->V m x y):V m (.agg xs) (.agg ys)
 |tuple {xs ys:Array Value}(hl:xs.toList.length=ys.toList.length)
  (h:∀(i:Nat) (x y:Value),xs.toList[i]? =J x->ys.toList[i]? =J y->V m x y):V m (.tuple xs) (.tuple ys)
def Vl(m:Mu)(xs ys:List Value):Prop:=xs.length=ys.length/\∀(i:Nat) (x y:Value),xs[i]? =J x->ys[i]? =J y->V m x y
def V.mono{m':Mu}(hm:m.le m')(h:V m x y):V m' x y:=by
 induction h with
 |ax c=>exact .ax c
 |bool b=>exact .bool b
 |int k n=>exact .int k n
 |str s=>exact .str s
 |mK a=>exact .mK a
 |slice b9 h1 h2 h3 h4=>
  have e:=hm.2 _ b9;rw[<-e]at h3 h4⊢;exact .slice (BW b9 hm.1) h1 h2 h3 h4
 |gu=>exact .gu
 |ptr b9=>
  have e:=hm.2 _ b9;rw[<-e];exact .ptr (BW b9 hm.1)
 |fX=>exact .fX
 |ia=>exact .ia
 |func fn hl _ kl _ ih ik=>exact .func fn hl ih kl ik
 |agg hl _ ih=>exact .agg hl ih
 |tuple hl _ ih=>exact .tuple hl ih
def Vl.mono{m':Mu}(hm:m.le m')(h:Vl m xs ys):Vl m' xs ys:=⟨h.1,λi x y a b=>(h.2 i x y a b).mono hm⟩
def Vl.nil(m:Mu):Vl m [] []:=⟨rfl,λ_ _ _ h=>by simp at h⟩
def Vl.cons(h:V m x y)(hs:Vl m xs ys):Vl m (x::xs) (y::ys):=by
 refine⟨by simp[hs.1],λi a b ha hb=>?_⟩;cases i with
 |zero=>simp at ha hb;subst ha;subst hb;exact h
 |succ i=>exact hs.2 i a b (by simpa using ha) (by simpa using hb)
def Vl.W3(h:Vl m [] ys):ys=[]:=m9 h.1.symm
def Vl.cons_inv(h:Vl m (x::xs) ys):∃y qx,ys=y::qx/\V m x y/\Vl m xs qx:=by
 cases ys with
 |nil=>have:=h.1;simp at this
 |cons y qx=>
  refine⟨y,qx,rfl,h.2 0 x y rfl rfl,?_,λi a b ha hb=>h.2 (i+1) a b (by simpa using ha) (by simpa using hb)⟩;have:=h.1;simpa using this
def Vl.append{us vs:List Value}(h:Vl m xs ys)(k:Vl m us vs):Vl m (xs++us) (ys++vs):=by
 induction xs generalizing ys with
 |nil=>rw[h.W3];exact k
 |cons x xs ih=>obtain⟨y,qx,rfl,hv,ht⟩:=h.cons_inv;exact .cons hv (ih ht)
def Vl.get(h:Vl m xs ys){i:Nat}(hx:xs[i]? =J x):∃y,ys[i]? =J y/\V m x y:=by
 have hi:i<xs.length:=by
  rcases dQ i xs.length with h|h
  ·exact h
  ·rw[BX h]at hx;cases hx
 have hj:i<ys.length:=h.1▸hi;exact⟨ys[i],cJ hj,h.2 i x _ hx (cJ hj)⟩
def Vl.take(h:Vl m xs ys)(k:Nat):Vl m (xs.take k) (ys.take k):=by
 refine⟨by simp[h.1],λi x y hx hy=>?_⟩;rw[mu]at hx hy;split at hx
 ·rename_i hlt;rw[aD hlt]at hy;exact h.2 i x y hx hy
 ·cases hx
def Vl.drop(h:Vl m xs ys)(k:Nat):Vl m (xs.drop k) (ys.drop k):=by
 refine⟨by simp[h.1],λi x y hx hy=>?_⟩;rw[jw]at hx hy;exact h.2 _ x y hx hy
def Vl.set(h:Vl m xs ys)(i:Nat)(hv:V m x y):Vl m (xs.set i x) (ys.set i y):=by
 refine⟨by simp[h.1],λj a b ha hb=>?_⟩;rw[Es]at ha hb;split at ha
 ·rename_i e;rw[aD e]at hb;split at ha
  ·split at hb
   ·cases ha;cases hb;exact hv
   ·cases hb
  ·cases ha
 ·rename_i e;rw[aB e]at hb;exact h.2 j a b ha hb
def l8:Value->Bool
 | .agg _| .tuple _=>aa
 |_=>Z
def V.a3m(h:V m x y)(hs:l8 x=Z):y.oneCell'=Z:=by
 cases h<;>first|rfl|cases hs
def V.cells(h:V m x y)(hx:x≠.tuple #[]):Vl m x.cells.toList y.cells.toList:=by
 cases h with
 |ax c=>exact absurd rfl hx
 |agg hl k=>exact⟨hl,k⟩
 |tuple hl k=>exact .cons (.tuple hl k) (.nil m)
 |bool b=>exact .cons (.bool b) (.nil m)
 |int k n=>exact .cons (.int k n) (.nil m)
 |str s=>exact .cons (.str s) (.nil m)
 |mK a=>exact .cons (.mK a) (.nil m)
 |slice b9 h1 h2 h3 h4=>exact .cons (.slice b9 h1 h2 h3 h4) (.nil m)
 |gu=>exact .cons .gu (.nil m)
 |ptr b9=>exact .cons (.ptr b9) (.nil m)
 |fX=>exact .cons .fX (.nil m)
 |ia=>exact .cons .ia (.nil m)
 |func fn hl h kl k=>exact .cons (.func fn hl h kl k) (.nil m)
structure gp (m:Mu) (H:AH) (w:World):Prop where
 n:m.n=H.n
 lt:∀id k,H.b id=J k->id<H.n
 cells:∀id k,H.b id=J k->∃cs e fz,w.heap[(m.f id).bu]? =J (.cells cs e fz)/\(m.f id).base+(m.f id).size<=cs.size/\
  k.cells.length<=(m.f id).size/\(k.rw=Z->fz=(0,0))/\∀i v,k.cells[i]? =J v->∃c,cs[(m.f id).base+i]? =J c/\V m v c
 apart:∀i j bi bj,H.b i=J bi->H.b j=J bj->i≠j->bi.rw=Z->(m.f i).bu≠(m.f j).bu
structure pJ (w0 w:World):Prop where
 os:w.os=w0.os/\w.output=w0.output
 old:∀(b:Nat) cs e fz,w0.heap[b]? =J (Obj.cells cs e fz)->∃fc,w.heap[b]? =J (Obj.cells fc e fz)
def LW(m:Mu)(H:AH)(w w':World):Prop:=
 w.heap.size<=w'.heap.size/\(∀b,b<w.heap.size->(∀id k,H.b id=J k->k.rw=Z->(m.f id).bu≠b)->w'.heap[b]? =w.heap[b]?)/\pJ w w'
def UX(m:Mu)(H:AH)(w:World)(m':Mu)(H':AH):Prop:=
 ∀id k',H'.b id=J k'->w.heap.size<=(m'.f id).bu\/∃dS k0,H.b dS=J k0/\(m.f dS).bu=(m'.f id).bu/\(k'.rw=Z->k0.rw=Z)
def aA(P:Program)(f:FuncId):Prop:=∀args w,(callFunc f args).run P w=.ok (.enter f args) w
def IR:Option Nat:=ae
def PN:Array Value:=((List.range 20).map λi=>Value.int .u64 ((10^i:Nat):Int)).toArray
def Tb(m:Mu)(H:AH)(w:World):Prop:=
 ∀g,IR=J g->(∃e fz,w.heap[g]? =J (Obj.cells PN e fz))/\∀id k,H.b id=J k->k.rw=Z->(m.f id).bu≠g
def qj(P:Program)(f:FuncId)(args:List Value)(H:AH)(R:Value->AH->Prop):Prop:=
 aA P f/\∀(m:Mu) (w:World) (eT:Array Value),gp m H w->Vl m args eT.toList->Tb m H w->
  Calls P f eT w λe w'=>∃cv v H' m',e=.returned cv/\R v H'/\V m' v cv/\gp m' H' w'/\m.le m'/\LW m H w w'/\UX m H w m' H'
def mJ(H:AH):Prop:=∀id k,H.b id=J k->id<H.n
def qj.wf{P:Program}{f:FuncId}{args:List Value}{H:AH}{R:Value->AH->Prop}(h:qj P f args H R):qj P f args H λv H'=>R v H'/\mJ H':=
 ⟨h.1,λm w eT hm hv ht=>(h.2 m w eT hm hv ht).mono λ_ _ ⟨cv,v,H',m',he,hR,hV,hH,r⟩=>⟨cv,v,H',m',he,⟨hR,hH.lt⟩,hV,hH,r⟩⟩
def qj.mono{P:Program}{f:FuncId}{args:List Value}{H:AH}{R R':Value->AH->Prop}(h:qj P f args H R)
(hr:∀v H',R v H'->R' v H'):qj P f args H R':=
 ⟨h.1,λm w eT hm hv ht=>(h.2 m w eT hm hv ht).mono λ_ _ ⟨cv,v,H',m',he,hR,r⟩=>⟨cv,v,H',m',he,hr v H' hR,r⟩⟩
end Go.Am
