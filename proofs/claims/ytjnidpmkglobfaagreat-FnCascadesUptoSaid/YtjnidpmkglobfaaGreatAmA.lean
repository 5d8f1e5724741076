import Derived.Calls
import Derived.LoopN
import Derived.Laws.Sem
open Bool renaming false→Z,true→O
open Option renaming none→aa,some→J
set_option linter.defProp false
namespace Go.Am
def aA:=@if_neg
def aE:=@if_pos
def cq:=@Nat.le_refl
def cI:=@List.getElem?_eq_getElem
def dS:=@Nat.lt_or_ge
def ii:=@Nat.le_trans
def jq:=@List.getElem?_drop
def my:=@List.getElem?_take
def na:=@List.eq_nil_of_length_eq_zero
def BS:=@Nat.lt_of_lt_of_le
def BT:=@List.getElem?_eq_none
def Et:=@List.getElem?_set
structure mP where
 rw:Bool
 cells:List Value
structure AH where
 n:Nat
 b:Nat->Option mP
structure Loc where
 bn:Nat
 base:Nat
 size:Nat
structure Mu where
 n:Nat
 f:Nat->Loc
def Mu.le(m a:Mu):Prop:=m.n<=a.n/\∀i,i<m.n->a.f i=m.f i
variable{m:Mu}{x y:Value}{xs ys:List Value}
def Mu.le_refl(m:Mu):m.le m:=⟨cq _,λ_ _=>rfl⟩
def Mu.le_trans{a b c:Mu}(h:a.le b)(d:b.le c):a.le c:=
 ⟨ii h.1 d.1,λi e=>(d.2 i (BS e h.1)).trans (h.2 i e)⟩
inductive V (m:Mu):Value->Value->Prop where
 |az (c:Value):V m (.tuple #[]) c
 |bool (b:Bool):V m (.bool b) (.bool b)
 |int (k:IntKind) (n:Int):V m (.int k n) (.int k n)
 |str (s:ByteArray):V m (.string s) (.string s)
 |mV (a:Option Addr):V m (.slice aa 0 0) (.slice a 0 0)
 |slice {id off es n c o cap:Nat}(b7:id<m.n) (h1:n<=c) (h2:c<=cap) (h3:0<cap->o=(m.f id).base+off)
  (h4:off+cap*es<=(m.f id).size):V m (.slice (J ⟨id,off,J es⟩) n c) (.slice (J ⟨(m.f id).bn,o,aa⟩) n cap)
 |gy:V m (.pointer aa) (.pointer aa)
 |ptr {id off:Nat}(b7:id<m.n):V m (.pointer (J ⟨id,off,aa⟩)) (.pointer (J ⟨(m.f id).bn,(m.f id).base+off,aa⟩))
 |fX:V m .nilFunc .nilFunc
 |gU:V m .nilIface .nilIface
 |func (fn:Fn) {xs ys us vs:Array Value}(hl:xs.toList.length=ys.toList.length)
  (h:∀(i:Nat) (x y:Value),xs.toList[i]? =J x->ys.toList[i]? =J y->V m x y) (kl:us.toList.length=vs.toList.length)
  (k:∀(i:Nat) (x y:Value),us.toList[i]? =J x->vs.toList[i]? =J y->V m x y):V m (.func fn xs us) (.func fn ys vs)
 |agg {xs ys:Array Value}(hl:xs.toList.length=ys.toList.length)
  (h:∀(i:Nat) (x y:Value),xs.toList[i]? =J x->ys.toList[i]? =J y->V m x y):V m (.agg xs) (.agg ys)
 |tuple {xs ys:Array Value}(hl:xs.toList.length=ys.toList.length)
  (h:∀(i:Nat) (x y:Value),xs.toList[i]? =J x->ys.toList[i]? =J y->V m x y):V m (.tuple xs) (.tuple ys)
def Vl(m:Mu)(xs ys:List Value):Prop:=xs.length=ys.length/\∀(i:Nat) (x y:Value),xs[i]? =J x->ys[i]? =J y->V m x y
def V.mono{l:Mu}(g:m.le l)(h:V m x y):V l x y:=by
 induction h with
 |az c=>exact .az c
 |bool b=>exact .bool b
 |int k n=>exact .int k n
 |str s=>exact .str s
 |mV a=>exact .mV a
 |slice d p q i j=>
  have e:=g.2 _ d;rw[<-e]at i j⊢;exact .slice (BS d g.1) p q i j
 |gy=>exact .gy
 |ptr d=>
  have e:=g.2 _ d;rw[<-e];exact .ptr (BS d g.1)
 |fX=>exact .fX
 |gU=>exact .gU
 |func o f _ t _ ih r=>exact .func o f ih t r
 |agg f _ ih=>exact .agg f ih
 |tuple f _ ih=>exact .tuple f ih
def Vl.mono{c:Mu}(d:m.le c)(h:Vl m xs ys):Vl c xs ys:=⟨h.1,λi x y a b=>(h.2 i x y a b).mono d⟩
def Vl.nil(m:Mu):Vl m [] []:=⟨rfl,λ_ _ _ h=>by simp at h⟩
def Vl.cons(h:V m x y)(e:Vl m xs ys):Vl m (x::xs) (y::ys):=by
 refine⟨by simp[e.1],λi a b c d=>?_⟩;cases i with
 |zero=>simp at c d;subst c;subst d;exact h
 |succ i=>exact e.2 i a b (by simpa using c) (by simpa using d)
def Vl.a0X(h:Vl m [] ys):ys=[]:=na h.1.symm
def Vl.cons_inv(h:Vl m (x::xs) ys):∃y c,ys=y::c/\V m x y/\Vl m xs c:=by
 cases ys with
 |nil=>have:=h.1;simp at this
 |cons y c=>
  refine⟨y,c,rfl,h.2 0 x y rfl rfl,?_,λi a b d e=>h.2 (i+1) a b (by simpa using d) (by simpa using e)⟩;have:=h.1;simpa using this
def Vl.append{a b:List Value}(h:Vl m xs ys)(k:Vl m a b):Vl m (xs++a) (ys++b):=by
 induction xs generalizing ys with
 |nil=>rw[h.a0X];exact k
 |cons x xs ih=>obtain⟨y,e,rfl,d,c⟩:=h.cons_inv;exact .cons d (ih c)
def Vl.get(h:Vl m xs ys){i:Nat}(a:xs[i]? =J x):∃y,ys[i]? =J y/\V m x y:=by
 have c:i<xs.length:=by
  rcases dS i xs.length with h|h
  ·exact h
  ·rw[BT h]at a;cases a
 have b:i<ys.length:=h.1▸c;exact⟨ys[i],cI b,h.2 i x _ a (cI b)⟩
def Vl.take(h:Vl m xs ys)(k:Nat):Vl m (xs.take k) (ys.take k):=by
 refine⟨by simp[h.1],λi x y a b=>?_⟩;rw[my]at a b;split at a
 ·rename_i c;rw[aE c]at b;exact h.2 i x y a b
 ·cases a
def Vl.drop(h:Vl m xs ys)(k:Nat):Vl m (xs.drop k) (ys.drop k):=by
 refine⟨by simp[h.1],λi x y a b=>?_⟩;rw[jq]at a b;exact h.2 _ x y a b
def Vl.set(h:Vl m xs ys)(i:Nat)(f:V m x y):Vl m (xs.set i x) (ys.set i y):=by
 refine⟨by simp[h.1],λj a b d c=>?_⟩;rw[Et]at d c;split at d
 ·rename_i e;rw[aE e]at c;split at d
  ·split at c
   ·cases d;cases c;exact f
   ·cases c
  ·cases d
 ·rename_i e;rw[aA e]at c;exact h.2 j a b d c
def l8:Value->Bool
 | .agg _| .tuple _=>Z
 |_=>O
def V.a3I(h:V m x y)(a:l8 x=O):y.oneCell'=O:=by
 cases h<;>first|rfl|cases a
def V.cells(h:V m x y)(o:x≠.tuple #[]):Vl m x.cells.toList y.cells.toList:=by
 cases h with
 |az c=>exact absurd rfl o
 |agg d k=>exact⟨d,k⟩
 |tuple d k=>exact .cons (.tuple d k) (.nil m)
 |bool b=>exact .cons (.bool b) (.nil m)
 |int k n=>exact .cons (.int k n) (.nil m)
 |str s=>exact .cons (.str s) (.nil m)
 |mV a=>exact .cons (.mV a) (.nil m)
 |slice e g i j l=>exact .cons (.slice e g i j l) (.nil m)
 |gy=>exact .cons .gy (.nil m)
 |ptr e=>exact .cons (.ptr e) (.nil m)
 |fX=>exact .cons .fX (.nil m)
 |gU=>exact .cons .gU (.nil m)
 |func f d h p k=>exact .cons (.func f d h p k) (.nil m)
structure gf (m:Mu) (H:AH) (w:World):Prop where
 n:m.n=H.n
 lt:∀id k,H.b id=J k->id<H.n
 cells:∀id k,H.b id=J k->∃cs e fz,w.heap[(m.f id).bn]? =J (.cells cs e fz)/\(m.f id).base+(m.f id).size<=cs.size/\
  k.cells.length<=(m.f id).size/\(k.rw=O->fz=(0,0))/\∀i v,k.cells[i]? =J v->∃c,cs[(m.f id).base+i]? =J c/\V m v c
 apart:∀i j bi bj,H.b i=J bi->H.b j=J bj->i≠j->bi.rw=O->(m.f i).bn≠(m.f j).bn
structure o5 (w0 w:World):Prop where
 os:w.os=w0.os/\w.output=w0.output
 old:∀(b:Nat) cs e fz,w0.heap[b]? =J (Obj.cells cs e fz)->∃fe,w.heap[b]? =J (Obj.cells fe e fz)
def IQ(m:Mu)(H:AH)(w a:World):Prop:=
 w.heap.size<=a.heap.size/\(∀b,b<w.heap.size->(∀id k,H.b id=J k->k.rw=O->(m.f id).bn≠b)->a.heap[b]? =w.heap[b]?)/\o5 w a
def VY(m:Mu)(H:AH)(w:World)(c:Mu)(d:AH):Prop:=
 ∀id b,d.b id=J b->w.heap.size<=(c.f id).bn\/∃a k0,H.b a=J k0/\(m.f a).bn=(c.f id).bn/\(b.rw=O->k0.rw=O)
def aC(P:Program)(f:FuncId):Prop:=∀args w,(callFunc f args).run P w=.ok (.enter f args) w
def KW:Option Nat:=aa
def OT:Array Value:=((List.range 20).map λi=>Value.int .u64 ((10^i:Nat):Int)).toArray
def Tb(m:Mu)(H:AH)(w:World):Prop:=
 ∀g,KW=J g->(∃e a,w.heap[g]? =J (Obj.cells OT e a))/\∀id k,H.b id=J k->k.rw=O->(m.f id).bn≠g
def qH(P:Program)(f:FuncId)(args:List Value)(H:AH)(R:Value->AH->Prop):Prop:=
 aC P f/\∀(m:Mu) (w:World) (eY:Array Value),gf m H w->Vl m args eY.toList->Tb m H w->
  Calls P f eY w λe d=>∃c v b a,e=.returned c/\R v b/\V a v c/\gf a b d/\m.le a/\IQ m H w d/\VY m H w a b
def mF(H:AH):Prop:=∀id k,H.b id=J k->id<H.n
def qH.wf{P:Program}{f:FuncId}{args:List Value}{H:AH}{R:Value->AH->Prop}(h:qH P f args H R):qH P f args H λv a=>R v a/\mF a:=
 ⟨h.1,λm w eY i k j=>(h.2 m w eY i k j).mono λ_ _ ⟨c,v,a,l,g,d,e,b,r⟩=>⟨c,v,a,l,g,⟨d,b.lt⟩,e,b,r⟩⟩
def qH.mono{P:Program}{f:FuncId}{args:List Value}{H:AH}{R b:Value->AH->Prop}(h:qH P f args H R)
(i:∀v a,R v a->b v a):qH P f args H b:=
 ⟨h.1,λm w eY g k j=>(h.2 m w eY g k j).mono λ_ _ ⟨c,v,a,l,e,d,r⟩=>⟨c,v,a,l,e,i v a d,r⟩⟩
end Go.Am
