import Derived.Test.YtplemekcclpaoaaGreatDoorAmM
namespace Go.Pm
open Go.Am
inductive PV where
 |junk
 |bool (b:Bool)
 |int (k:IntKind) (n:Int)
 |str (s:ByteArray)
 |nilp
 |nilf
 |nili
 |sl (o:Bool) (es:Nat) (rows:List (List PV))
 |fp (row:List PV)
 |bx (row:List PV)
 |func (fn:Fn) (xs us:List PV)
 |agg (row:List PV)
 |tup (xs:List PV)
abbrev zad:=List (Nat×Nat)
abbrev Lo:=Option (Nat×zad)
def chl(l:Nat×zad)(i j:Nat):Nat×zad:=(l.1,l.2++[(i,j)])
def Lo.ch(l:Lo)(i j:Nat):Lo:=l.map fun x=>chl x i j
structure Env where
 H:AH
 G:Nat→Prop
 ow:Nat→Option (Nat×zad)
def zcx:Nat:=4611686018427387904
inductive PR (E:Env):Lo→PV→Value→Prop where
 |junk {l:Lo}(v:Value):PR E l .junk v
 |bool {l:Lo}(b:Bool):PR E l (.bool b) (.bool b)
 |int {l:Lo}(k:IntKind) (n:Int):PR E l (.int k n) (.int k n)
 |str {l:Lo}(s:ByteArray):PR E l (.str s) (.string s)
 |nilp {l:Lo}:PR E l .nilp (.pointer none)
 |nilf {l:Lo}:PR E l .nilf .nilFunc
 |nili {l:Lo}:PR E l .nili .nilIface
 |sl0 {l:Lo}(o:Bool) (es:Nat):PR E l (.sl o es []) (.slice none 0 0)
 |slS {l:Lo}{id off es n c:Nat}{k:Blk}{rows:List (List PV)}(hG:E.G id) (hb:E.H.b id=some k) (hn:rows.length=n) (hc:n≤c) (hm:n≤zcx)
  (hr:∀r,r∈rows→r.length=es) (hl:es≠0∧off+n*es≤k.cells.length)
  (h:∀(i:Nat) (r:List PV) (j:Nat) (x:PV) (y:Value),rows[i]? =some r→r[j]? =some x→k.cells[off+i*es+j]? =some y→PR E none x y):
  PR E l (.sl false es rows) (.slice (some ⟨id,off,some es⟩) n c)
 |slO {l:Nat×zad}{id off es n c:Nat}{k:Blk}{rows:List (List PV)}(how:E.ow id=some l) (hG:¬E.G id) (hb:E.H.b id=some k) (hrw:k.rw=true) (hn:rows.length=n) (hc:n≤c) (hm:n≤zcx)
  (hr:∀r,r∈rows→r.length=es) (hl:(es≠0∧off=0)∧off+c*es≤k.cells.length)
  (h:∀(i:Nat) (r:List PV) (j:Nat) (x:PV) (y:Value),rows[i]? =some r→r[j]? =some x→k.cells[off+i*es+j]? =some y→PR E (some (chl l i j)) x y):
  PR E (some l) (.sl true es rows) (.slice (some ⟨id,off,some es⟩) n c)
 |fp {l:Lo}{id off:Nat}{k:Blk}{row:List PV}(hG:E.G id) (hb:E.H.b id=some k) (hl:off+row.length≤k.cells.length)
  (h:∀(j:Nat) (x:PV) (y:Value),row[j]? =some x→k.cells[off+j]? =some y→PR E none x y):PR E l (.fp row) (.pointer (some ⟨id,off,none⟩))
 |bx {l:Nat×zad}{id:Nat}{k:Blk}{row:List PV}(how:E.ow id=some l) (hG:¬E.G id) (hb:E.H.b id=some k) (hrw:k.rw=true) (hl:row.length≤k.cells.length)
  (h:∀(j:Nat) (x:PV) (y:Value),row[j]? =some x→k.cells[j]? =some y→PR E (some (chl l 0 j)) x y):PR E (some l) (.bx row) (.pointer (some ⟨id,0,none⟩))
 |func {l:Lo}(fn:Fn) {xs us:List PV}{ys vs:Array Value}(hl:xs.length=ys.toList.length) (kl:us.length=vs.toList.length)
  (h:∀(i:Nat) (x:PV) (y:Value),xs[i]? =some x→ys.toList[i]? =some y→PR E none x y)
  (k:∀(i:Nat) (x:PV) (y:Value),us[i]? =some x→vs.toList[i]? =some y→PR E none x y):PR E l (.func fn xs us) (.func fn ys vs)
 |agg {l:Lo}{row:List PV}{ys:Array Value}(hl:row.length=ys.toList.length)
  (h:∀(j:Nat) (x:PV) (y:Value),row[j]? =some x→ys.toList[j]? =some y→PR E (l.ch 0 j) x y):PR E l (.agg row) (.agg ys)
 |tup {l:Lo}{xs:List PV}{ys:Array Value}(hl:xs.length=ys.toList.length) (h0:xs≠[])
  (h:∀(j:Nat) (x:PV) (y:Value),xs[j]? =some x→ys.toList[j]? =some y→PR E (l.ch 0 j) x y):PR E l (.tup xs) (.tuple ys)
def zaC:PV→Bool
 | .sl o _ _=>o
 | .bx _=>true
 | .agg row=>row.attach.any fun⟨x,_⟩=>zaC x
 | .tup xs=>xs.attach.any fun⟨x,_⟩=>zaC x
 |_=>false
def drop:PV→PV
 | .sl _ es rows=>.sl false es (rows.attach.map fun⟨r,_⟩=>r.attach.map fun⟨x,_⟩=>drop x)
 | .bx row=>.fp (row.attach.map fun⟨x,_⟩=>drop x)
 | .agg row=>.agg (row.attach.map fun⟨x,_⟩=>drop x)
 | .tup xs=>.tup (xs.attach.map fun⟨x,_⟩=>drop x)
 |x=>x
decreasing_by
 all_goals simp_wf
 all_goals
  first
   |(have h1:=List.sizeOf_lt_of_mem ‹_∈_›;omega)
   |(have h1:=List.sizeOf_lt_of_mem ‹x∈r›;have h2:=List.sizeOf_lt_of_mem ‹r∈rows›;omega)
def GK(E E':Env):Prop:=∀id,E.G id→E'.G id∧∀k,E.H.b id=some k→∃k',E'.H.b id=some k'∧k'=k
structure Since (E E':Env):Prop where
 n:E.H.n≤E'.H.n
 g:GK E E'
 own:∀id,id<E.H.n→E.ow id=none→E'.ow id=none∧E'.H.b id=E.H.b id∧(E'.G id→E.G id)
variable{E E':Env}{l:Lo}{row:List PV}{v:Value}{x:PV}
theorem GK.refl(E:Env):GK E E:=fun _ h=>⟨h,fun k hk=>⟨k,hk,rfl⟩⟩
theorem GK.trans{a b c:Env}(h:GK a b)(h':GK b c):GK a c:=fun id hG=>
 ⟨(h' id (h id hG).1).1,fun k hk=>by
   obtain⟨k1,h1,e1⟩:=(h id hG).2 k hk;obtain⟨k2,h2,e2⟩:=(h' id (h id hG).1).2 k1 h1
   exact⟨k2,h2,e2.trans e1⟩⟩
theorem Since.refl(E:Env):Since E E:=⟨Nat.le_refl _,GK.refl E,fun _ _ h=>⟨h,rfl,fun h=>h⟩⟩
theorem Since.trans{a b c:Env}(h:Since a b)(h':Since b c):Since a c:=⟨Nat.le_trans h.n h'.n,h.g.trans h'.g,fun id h1 h2=>by
 obtain⟨a1,a2,a3⟩:=h.own id h1 h2;obtain⟨b1,b2,b3⟩:=h'.own id (Nat.lt_of_lt_of_le h1 h.n) a1
 exact⟨b1,b2.trans a2,fun hg=>a3 (b3 hg)⟩⟩
def MoveOK(E E':Env):Lo→Lo→Prop
 |none,_=>True
 |some a,some b=>∀id r,E.ow id=some (a.1,a.2++r)→¬E.G id→E'.ow id=some (b.1,b.2++r)∧¬E'.G id∧E'.H.b id=E.H.b id
 |some a,none=>∀id r,E.ow id=some (a.1,a.2++r)→E.G id
theorem MoveOK.ch{l':Lo}(h:MoveOK E E' l l')(i j:Nat):MoveOK E E' (l.ch i j) (l'.ch i j):=by
 cases l with
 |none=>cases l'<;>exact True.intro
 |some a=>
  cases l' with
  |none=>
   intro id r h1;have h:∀id r,E.ow id=some (a.1,a.2++r)→E.G id:=h;simp only[chl]at h1;rw[List.append_assoc]at h1;exact h id _ h1
  |some b=>
   intro id r h1 h2;have h:∀id r,E.ow id=some (a.1,a.2++r)→¬E.G id→E'.ow id=some (b.1,b.2++r)∧¬E'.G id∧E'.H.b id=E.H.b id:=h;simp only[chl]at h1⊢;rw[List.append_assoc]at h1;have:=h id _ h1 h2;rw[List.append_assoc];exact this
theorem PR.move(hg:GK E E')(h:PR E l x v):∀{l':Lo},MoveOK E E' l l'→PR E' l' x v:=by
 induction h with
 |junk v=>intro l' _;exact .junk v
 |bool b=>intro l' _;exact .bool b
 |int k n=>intro l' _;exact .int k n
 |str s=>intro l' _;exact .str s
 |nilp=>intro l' _;exact .nilp
 |nilf=>intro l' _;exact .nilf
 |nili=>intro l' _;exact .nili
 |sl0 o es=>intro l' _;exact .sl0 o es
 |slS hG hb hn hc hm hr hl h ih=>
  intro l' _;obtain⟨hG',hk⟩:=hg _ hG;obtain⟨k',hb',e⟩:=hk _ hb;exact .slS hG' hb' hn hc hm hr (by rw[e];exact hl) fun i r j x y h1 h2 h3=>ih i r j x y h1 h2 (by rw[←e];exact h3) True.intro
 |slO how hG hb hrw hn hc hm hr hl h ih=>
  intro l' hm';rename_i l _ _ _ _ _ _ _;cases l' with
  |none=>exact absurd (hm' _ [] (by simpa using how)) hG
  |some b=>
   have hm2:∀id r,E.ow id=some (l.1,l.2++r)→¬E.G id→E'.ow id=some (b.1,b.2++r)∧¬E'.G id∧E'.H.b id=E.H.b id:=hm';obtain⟨h1,h2,h3⟩:=hm2 _ [] (by simpa using how) hG;rw[←h3]at hb;exact .slO (by simpa using h1) h2 hb hrw hn hc hm hr hl fun i r j x y a1 a2 a3=>ih i r j x y a1 a2 a3 (MoveOK.ch (l:=some l) (l':=some b) hm' i j)
 |fp hG hb hl h ih=>
  intro l' _;obtain⟨hG',hk⟩:=hg _ hG;obtain⟨k',hb',e⟩:=hk _ hb;exact .fp hG' hb' (by rw[e];exact hl) fun j x y h2 h3=>ih j x y h2 (by rw[←e];exact h3) True.intro
 |bx how hG hb hrw hl h ih=>
  intro l' hm';rename_i l _ _ _;cases l' with
  |none=>exact absurd (hm' _ [] (by simpa using how)) hG
  |some b=>
   have hm2:∀id r,E.ow id=some (l.1,l.2++r)→¬E.G id→E'.ow id=some (b.1,b.2++r)∧¬E'.G id∧E'.H.b id=E.H.b id:=hm';obtain⟨h1,h2,h3⟩:=hm2 _ [] (by simpa using how) hG;rw[←h3]at hb;exact .bx (by simpa using h1) h2 hb hrw hl fun j x y a1 a2=>ih j x y a1 a2 (MoveOK.ch (l:=some l) (l':=some b) hm' 0 j)
 |func fn hl kl h k ih ik=>intro l' _;exact .func fn hl kl (fun i x y a b=>ih i x y a b True.intro) (fun i x y a b=>ik i x y a b True.intro)
 |agg hl h ih=>intro l' hm';exact .agg hl fun j x y a b=>ih j x y a b (hm'.ch 0 j)
 |tup hl h0 h ih=>intro l' hm';exact .tup hl h0 fun j x y a b=>ih j x y a b (hm'.ch 0 j)
theorem PR.up(h:PR E none x v):PR E l x v:=h.move (GK.refl E) True.intro
theorem PR.mono(hg:GK E E')(h:PR E none x v):PR E' l x v:=h.move hg True.intro
theorem zjk{o:Bool}{es:Nat}{rows:List (List PV)}:zaC (.sl o es rows)=o:=by simp[zaC]
theorem ztr :zaC (.bx row)=true:=by simp[zaC]
theorem zhx :zaC (.agg row)=row.any zaC:=by simp[zaC]
theorem zq4 :zaC (.tup row)=row.any zaC:=by simp[zaC]
theorem PR.free(h:PR E l x v):zaC x=false→PR E none x v:=by
 induction h with
 |junk v=>intro _;exact .junk v
 |bool b=>intro _;exact .bool b
 |int k n=>intro _;exact .int k n
 |str s=>intro _;exact .str s
 |nilp=>intro _;exact .nilp
 |nilf=>intro _;exact .nilf
 |nili=>intro _;exact .nili
 |sl0 o es=>intro _;exact .sl0 o es
 |slS hG hb hn hc hm hr hl h ih=>intro _;exact .slS hG hb hn hc hm hr hl h
 |slO how hG hb hrw hn hc hm hr hl h ih=>intro h;simp[zjk]at h
 |fp hG hb hl h ih=>intro _;exact .fp hG hb hl h
 |bx how hG hb hrw hl h ih=>intro h;simp[ztr]at h
 |func fn hl kl h k ih ik=>intro _;exact .func fn hl kl h k
 |agg hl h ih=>
  intro ho;rw[zhx,List.any_eq_false]at ho;exact .agg hl fun j x y a b=>ih j x y a b (by simpa using ho x (List.mem_of_getElem? a))
 |tup hl h0 h ih=>
  intro ho;rw[zq4,List.any_eq_false]at ho;exact .tup hl h0 fun j x y a b=>ih j x y a b (by simpa using ho x (List.mem_of_getElem? a))
theorem ziv{o:Bool}{es:Nat}{rows:List (List PV)}:drop (.sl o es rows)=.sl false es (rows.map (·.map drop)):=by simp[drop]
theorem zpF :drop (.bx row)=.fp (row.map drop):=by simp[drop]
theorem zn4 :drop (.agg row)=.agg (row.map drop):=by simp[drop]
theorem zq3 :drop (.tup row)=.tup (row.map drop):=by simp[drop]
def FzOK(E E':Env):Lo→Prop
 |none=>True
 |some a=>∀id r,E.ow id=some (a.1,a.2++r)→¬E.G id→E'.G id∧∀k,E.H.b id=some k→∃k',E'.H.b id=some k'∧k'.cells=k.cells
theorem FzOK.ch(h:FzOK E E' l)(i j:Nat):FzOK E E' (l.ch i j):=by
 cases l with
 |none=>exact True.intro
 |some a=>
  intro id r h1 h2;have h:∀id r,E.ow id=some (a.1,a.2++r)→¬E.G id→E'.G id∧∀k,E.H.b id=some k→∃k',E'.H.b id=some k'∧k'.cells=k.cells:=h;simp only[chl]at h1;rw[List.append_assoc]at h1;exact h id _ h1 h2
theorem zdZ{α β:Type}{f:α→β}{l:List α}{i:Nat}{y:β}(h:(l.map f)[i]? =some y):∃x,l[i]? =some x∧f x=y:=by
 rw[List.getElem?_map,Option.map_eq_some_iff]at h;exact h
theorem PR.freeze(hg:GK E E')(h:PR E l x v):FzOK E E' l→PR E' none (drop x) v:=by
 induction h with
 |junk v=>intro _;simp only[drop];exact .junk v
 |bool b=>intro _;simp only[drop];exact .bool b
 |int k n=>intro _;simp only[drop];exact .int k n
 |str s=>intro _;simp only[drop];exact .str s
 |nilp=>intro _;simp only[drop];exact .nilp
 |nilf=>intro _;simp only[drop];exact .nilf
 |nili=>intro _;simp only[drop];exact .nili
 |sl0 o es=>intro _;rw[ziv];exact .sl0 false es
 |slS hG hb hn hc hm hr hl h ih=>
  intro _;rw[ziv];obtain⟨hG',hk⟩:=hg _ hG;obtain⟨k',hb',e⟩:=hk _ hb;refine .slS hG' hb' (by simpa using hn) hc hm (fun r hr'=>?_) (by rw[e];exact hl) fun i r j x y h1 h2 h3=>?_
  ·obtain⟨r0,h0,rfl⟩:=List.mem_map.1 hr';simpa using hr r0 h0
  ·obtain⟨r0,h0,rfl⟩:=zdZ h1;obtain⟨x0,hx0,rfl⟩:=zdZ h2;exact ih i r0 j x0 y h0 hx0 (by rw[←e];exact h3) True.intro
 |slO how hG hb hrw hn hc hm hr hl h ih=>
  intro hf;rename_i l _ _ _ _ _ _ _;rw[ziv];have hf2:∀id r,E.ow id=some (l.1,l.2++r)→¬E.G id→E'.G id∧∀k,E.H.b id=some k→∃k',E'.H.b id=some k'∧k'.cells=k.cells:=hf;obtain⟨hG',hk⟩:=hf2 _ [] (by simpa using how) hG;obtain⟨k',hb',e⟩:=hk _ hb;refine .slS hG' hb' (by simpa using hn) hc hm (fun r hr'=>?_) ⟨hl.1.1,?_⟩ fun i r j x y h1 h2 h3=>?_
  ·obtain⟨r0,h0,rfl⟩:=List.mem_map.1 hr';simpa using hr r0 h0
  ·rw[e];refine Nat.le_trans (Nat.add_le_add_left (Nat.mul_le_mul_right _ ?_) _) hl.2;exact hc
  ·obtain⟨r0,h0,rfl⟩:=zdZ h1;obtain⟨x0,hx0,rfl⟩:=zdZ h2;exact ih i r0 j x0 y h0 hx0 (by rw[←e];exact h3) (FzOK.ch (l:=some l) hf i j)
 |fp hG hb hl h ih=>
  intro _;simp only[drop];obtain⟨hG',hk⟩:=hg _ hG;obtain⟨k',hb',e⟩:=hk _ hb;exact .fp hG' hb' (by rw[e];exact hl) fun j x y h1 h3=>(h j x y h1 (by rw[←e];exact h3)).mono hg
 |bx how hG hb hrw hl h ih=>
  intro hf;rename_i l _ _ _;rw[zpF];have hf2:∀id r,E.ow id=some (l.1,l.2++r)→¬E.G id→E'.G id∧∀k,E.H.b id=some k→∃k',E'.H.b id=some k'∧k'.cells=k.cells:=hf;obtain⟨hG',hk⟩:=hf2 _ [] (by simpa using how) hG;obtain⟨k',hb',e⟩:=hk _ hb;refine .fp hG' hb' (by rw[e];simpa using hl) fun j x y h2 h3=>?_
  obtain⟨x0,hx0,rfl⟩:=zdZ h2;rw[Nat.zero_add]at h3;exact ih j x0 y hx0 (by rw[←e];exact h3) (FzOK.ch (l:=some l) hf 0 j)
 |func fn hl kl h k ih ik=>intro _;simp only[drop];exact .func fn hl kl (fun i x y a b=>(h i x y a b).mono hg) (fun i x y a b=>(k i x y a b).mono hg)
 |agg hl h ih=>
  intro hf;rw[zn4];refine .agg (by simpa using hl) fun j x y a b=>?_
  obtain⟨x0,hx0,rfl⟩:=zdZ a;exact ih j x0 y hx0 b (hf.ch 0 j)
 |tup hl h0 h ih=>
  intro hf;rw[zq3];refine .tup (by simpa using hl) (by simpa using h0) fun j x y a b=>?_
  obtain⟨x0,hx0,rfl⟩:=zdZ a;exact ih j x0 y hx0 b (hf.ch 0 j)
end Go.Pm
