import Derived.Test.YtnojafnlicbhpaaGreatAmM
open Bool renaming false→aa,true→Z
open Option renaming none→ae,some→J
set_option linter.defProp false
namespace Go.Pm
open Go.Am
def L1:=@List.sizeOf_lt_of_mem
def L2:=@List.any_eq_false
inductive PV where
 |ax
 |bool (b:Bool)
 |int (k:IntKind) (n:Int)
 |str (s:ByteArray)
 |gu
 |fX
 |ia
 |sl (o:Bool) (es:Nat) (rows:List (List PV))
 |fp (row:List PV)
 |bx (row:List PV)
 |func (fn:Fn) (xs us:List PV)
 |agg (row:List PV)
 |bS (xs:List PV)
abbrev aC:=List (Nat×Nat)
abbrev Lo:=Option (Nat×aC)
def cS(l:Nat×aC)(i j:Nat):Nat×aC:=(l.1,l.2++[(i,j)])
def Lo.ch(l:Lo)(i j:Nat):Lo:=l.map λx=>cS x i j
structure Env where
 H:AH
 G:Nat->Prop
 ow:Nat->Option (Nat×aC)
def kK:Nat:=4611686018427387904
inductive PR (E:Env):Lo->PV->Value->Prop where
 |ax {l:Lo}(v:Value):PR E l .ax v
 |bool {l:Lo}(b:Bool):PR E l (.bool b) (.bool b)
 |int {l:Lo}(k:IntKind) (n:Int):PR E l (.int k n) (.int k n)
 |str {l:Lo}(s:ByteArray):PR E l (.str s) (.string s)
 |gu {l:Lo}:PR E l .gu (.pointer ae)
 |fX {l:Lo}:PR E l .fX .nilFunc
 |ia {l:Lo}:PR E l .ia .nilIface
 |sl0 {l:Lo}(o:Bool) (es:Nat):PR E l (.sl o es []) (.slice ae 0 0)
 |jZ {l:Lo}{id off es n c:Nat}{k:mD}{rows:List (List PV)}(hG:E.G id) (hb:E.H.b id=J k) (hn:rows.length=n) (hc:n<=c) (hm:n<=kK)
  (hr:∀r,r∈rows->r.length=es) (hl:es≠0/\off+n*es<=k.cells.length)
  (h:∀(i:Nat) (r:List PV) (j:Nat) (x:PV) (y:Value),rows[i]? =J r->r[j]? =J x->k.cells[off+i*es+j]? =J y->PR E ae x y):
  PR E l (.sl aa es rows) (.slice (J ⟨id,off,J es⟩) n c)
 |fK {l:Nat×aC}{id off es n c:Nat}{k:mD}{rows:List (List PV)}(how:E.ow id=J l) (hG:¬E.G id) (hb:E.H.b id=J k) (bc:k.rw=Z) (hn:rows.length=n) (hc:n<=c) (hm:n<=kK)
  (hr:∀r,r∈rows->r.length=es) (hl:(es≠0/\off=0)/\off+c*es<=k.cells.length)
  (h:∀(i:Nat) (r:List PV) (j:Nat) (x:PV) (y:Value),rows[i]? =J r->r[j]? =J x->k.cells[off+i*es+j]? =J y->PR E (J (cS l i j)) x y):
  PR E (J l) (.sl Z es rows) (.slice (J ⟨id,off,J es⟩) n c)
 |fp {l:Lo}{id off:Nat}{k:mD}{row:List PV}(hG:E.G id) (hb:E.H.b id=J k) (hl:off+row.length<=k.cells.length)
  (h:∀(j:Nat) (x:PV) (y:Value),row[j]? =J x->k.cells[off+j]? =J y->PR E ae x y):PR E l (.fp row) (.pointer (J ⟨id,off,ae⟩))
 |bx {l:Nat×aC}{id:Nat}{k:mD}{row:List PV}(how:E.ow id=J l) (hG:¬E.G id) (hb:E.H.b id=J k) (bc:k.rw=Z) (hl:row.length<=k.cells.length)
  (h:∀(j:Nat) (x:PV) (y:Value),row[j]? =J x->k.cells[j]? =J y->PR E (J (cS l 0 j)) x y):PR E (J l) (.bx row) (.pointer (J ⟨id,0,ae⟩))
 |func {l:Lo}(fn:Fn) {xs us:List PV}{ys vs:Array Value}(hl:xs.length=ys.toList.length) (kl:us.length=vs.toList.length)
  (h:∀(i:Nat) (x:PV) (y:Value),xs[i]? =J x->ys.toList[i]? =J y->PR E ae x y)
  (k:∀(i:Nat) (x:PV) (y:Value),us[i]? =J x->vs.toList[i]? =J y->PR E ae x y):PR E l (.func fn xs us) (.func fn ys vs)
 |agg {l:Lo}{row:List PV}{ys:Array Value}(hl:row.length=ys.toList.length)
  (h:∀(j:Nat) (x:PV) (y:Value),row[j]? =J x->ys.toList[j]? =J y->PR E (l.ch 0 j) x y):PR E l (.agg row) (.agg ys)
 |bS {l:Lo}{xs:List PV}{ys:Array Value}(hl:xs.length=ys.toList.length) (h0:xs≠[])
  (h:∀(j:Nat) (x:PV) (y:Value),xs[j]? =J x->ys.toList[j]? =J y->PR E (l.ch 0 j) x y):PR E l (.bS xs) (.tuple ys)
def bN:PV->Bool
 | .sl o _ _=>o
 | .bx _=>Z
 | .agg row=>row.attach.any λ⟨x,_⟩=>bN x
 | .bS xs=>xs.attach.any λ⟨x,_⟩=>bN x
 |_=>aa
def drop:PV->PV
 | .sl _ es rows=>.sl aa es (rows.attach.map λ⟨r,_⟩=>r.attach.map λ⟨x,_⟩=>drop x)
 | .bx row=>.fp (row.attach.map λ⟨x,_⟩=>drop x)
 | .agg row=>.agg (row.attach.map λ⟨x,_⟩=>drop x)
 | .bS xs=>.bS (xs.attach.map λ⟨x,_⟩=>drop x)
 |x=>x
decreasing_by
 all_goals simp_wf
 all_goals
  first
   |(have h1:=L1 ‹_∈_›;omega)
   |(have h1:=L1 ‹x∈r›;have h2:=L1 ‹r∈rows›;omega)
def GK(E E':Env):Prop:=∀id,E.G id->E'.G id/\∀k,E.H.b id=J k->∃k',E'.H.b id=J k'/\k'=k
structure gn (E E':Env):Prop where
 n:E.H.n<=E'.H.n
 g:GK E E'
 own:∀id,id<E.H.n->E.ow id=ae->E'.ow id=ae/\E'.H.b id=E.H.b id/\(E'.G id->E.G id)
variable{E E':Env}{l:Lo}{row:List PV}{v:Value}{x:PV}
def GK.refl(E:Env):GK E E:=λ_ h=>⟨h,λk hk=>⟨k,hk,rfl⟩⟩
def GK.trans{a b c:Env}(h:GK a b)(h':GK b c):GK a c:=λid hG=>
 ⟨(h' id (h id hG).1).1,λk hk=>by
   obtain⟨k1,h1,e1⟩:=(h id hG).2 k hk;obtain⟨k2,h2,e2⟩:=(h' id (h id hG).1).2 k1 h1
   exact⟨k2,h2,e2.trans e1⟩⟩
def gn.refl(E:Env):gn E E:=⟨cB _,GK.refl E,λ_ _ h=>⟨h,rfl,λh=>h⟩⟩
def gn.trans{a b c:Env}(h:gn a b)(h':gn b c):gn a c:=⟨gD h.n h'.n,h.g.trans h'.g,λid h1 h2=>by
 obtain⟨a1,a2,a3⟩:=h.own id h1 h2;obtain⟨b1,b2,b3⟩:=h'.own id (BW h1 h.n) a1
 exact⟨b1,b2.trans a2,λhg=>a3 (b3 hg)⟩⟩
def dC(E E':Env):Lo->Lo->Prop
 |none,_=>True
 |some a,J b=>∀id r,E.ow id=J (a.1,a.2++r)->¬E.G id->E'.ow id=J (b.1,b.2++r)/\¬E'.G id/\E'.H.b id=E.H.b id
 |some a,ae=>∀id r,E.ow id=J (a.1,a.2++r)->E.G id
def dC.ch{l':Lo}(h:dC E E' l l')(i j:Nat):dC E E' (l.ch i j) (l'.ch i j):=by
 cases l with
 |none=>cases l'<;>exact True.intro
 |some a=>
  cases l' with
  |none=>
   intro id r h1;have h:∀id r,E.ow id=J (a.1,a.2++r)->E.G id:=h;simp only[cS]at h1;rw[ie]at h1;exact h id _ h1
  |some b=>
   intro id r h1 h2;have h:∀id r,E.ow id=J (a.1,a.2++r)->¬E.G id->E'.ow id=J (b.1,b.2++r)/\¬E'.G id/\E'.H.b id=E.H.b id:=h;simp only[cS]at h1⊢;rw[ie]at h1;have:=h id _ h1 h2;rw[ie];exact this
def PR.move(hg:GK E E')(h:PR E l x v):∀{l':Lo},dC E E' l l'->PR E' l' x v:=by
 induction h with
 |ax v=>intro l' _;exact .ax v
 |bool b=>intro l' _;exact .bool b
 |int k n=>intro l' _;exact .int k n
 |str s=>intro l' _;exact .str s
 |gu=>intro l' _;exact .gu
 |fX=>intro l' _;exact .fX
 |ia=>intro l' _;exact .ia
 |sl0 o es=>intro l' _;exact .sl0 o es
 |jZ hG hb hn hc hm hr hl h ih=>
  intro l' _;obtain⟨rc,hk⟩:=hg _ hG;obtain⟨k',hY,e⟩:=hk _ hb;exact .jZ rc hY hn hc hm hr (by rw[e];exact hl) λi r j x y h1 h2 h3=>ih i r j x y h1 h2 (by rw[<-e];exact h3) True.intro
 |fK how hG hb bc hn hc hm hr hl h ih=>
  intro l' jF;rename_i l _ _ _ _ _ _ _;cases l' with
  |none=>exact absurd (jF _ [] (by simpa using how)) hG
  |some b=>
   have qO:∀id r,E.ow id=J (l.1,l.2++r)->¬E.G id->E'.ow id=J (b.1,b.2++r)/\¬E'.G id/\E'.H.b id=E.H.b id:=jF;obtain⟨h1,h2,h3⟩:=qO _ [] (by simpa using how) hG;rw[<-h3]at hb;exact .fK (by simpa using h1) h2 hb bc hn hc hm hr hl λi r j x y a1 a2 a3=>ih i r j x y a1 a2 a3 (dC.ch (l:=J l) (l':=J b) jF i j)
 |fp hG hb hl h ih=>
  intro l' _;obtain⟨rc,hk⟩:=hg _ hG;obtain⟨k',hY,e⟩:=hk _ hb;exact .fp rc hY (by rw[e];exact hl) λj x y h2 h3=>ih j x y h2 (by rw[<-e];exact h3) True.intro
 |bx how hG hb bc hl h ih=>
  intro l' jF;rename_i l _ _ _;cases l' with
  |none=>exact absurd (jF _ [] (by simpa using how)) hG
  |some b=>
   have qO:∀id r,E.ow id=J (l.1,l.2++r)->¬E.G id->E'.ow id=J (b.1,b.2++r)/\¬E'.G id/\E'.H.b id=E.H.b id:=jF;obtain⟨h1,h2,h3⟩:=qO _ [] (by simpa using how) hG;rw[<-h3]at hb;exact .bx (by simpa using h1) h2 hb bc hl λj x y a1 a2=>ih j x y a1 a2 (dC.ch (l:=J l) (l':=J b) jF 0 j)
 |func fn hl kl h k ih ik=>intro l' _;exact .func fn hl kl (λi x y a b=>ih i x y a b True.intro) (λi x y a b=>ik i x y a b True.intro)
 |agg hl h ih=>intro l' jF;exact .agg hl λj x y a b=>ih j x y a b (jF.ch 0 j)
 |bS hl h0 h ih=>intro l' jF;exact .bS hl h0 λj x y a b=>ih j x y a b (jF.ch 0 j)
def PR.up(h:PR E ae x v):PR E l x v:=h.move (GK.refl E) True.intro
def PR.mono(hg:GK E E')(h:PR E ae x v):PR E' l x v:=h.move hg True.intro
def zkB{o:Bool}{es:Nat}{rows:List (List PV)}:bN (.sl o es rows)=o:=by simp[bN]
def zu5 :bN (.bx row)=Z:=by simp[bN]
def ziI :bN (.agg row)=row.any bN:=by simp[bN]
def zsF :bN (.bS row)=row.any bN:=by simp[bN]
def PR.free(h:PR E l x v):bN x=aa->PR E ae x v:=by
 induction h with
 |ax v=>intro _;exact .ax v
 |bool b=>intro _;exact .bool b
 |int k n=>intro _;exact .int k n
 |str s=>intro _;exact .str s
 |gu=>intro _;exact .gu
 |fX=>intro _;exact .fX
 |ia=>intro _;exact .ia
 |sl0 o es=>intro _;exact .sl0 o es
 |jZ hG hb hn hc hm hr hl h ih=>intro _;exact .jZ hG hb hn hc hm hr hl h
 |fK how hG hb bc hn hc hm hr hl h ih=>intro h;simp[zkB]at h
 |fp hG hb hl h ih=>intro _;exact .fp hG hb hl h
 |bx how hG hb bc hl h ih=>intro h;simp[zu5]at h
 |func fn hl kl h k ih ik=>intro _;exact .func fn hl kl h k
 |agg hl h ih=>
  intro ho;rw[ziI,L2]at ho;exact .agg hl λj x y a b=>ih j x y a b (by simpa using ho x (eA a))
 |bS hl h0 h ih=>
  intro ho;rw[zsF,L2]at ho;exact .bS hl h0 λj x y a b=>ih j x y a b (by simpa using ho x (eA a))
def zjJ{o:Bool}{es:Nat}{rows:List (List PV)}:drop (.sl o es rows)=.sl aa es (rows.map (·.map drop)):=by simp[drop]
def zq8 :drop (.bx row)=.fp (row.map drop):=by simp[drop]
def zpj :drop (.agg row)=.agg (row.map drop):=by simp[drop]
def zt6 :drop (.bS row)=.bS (row.map drop):=by simp[drop]
def zg(E E':Env):Lo->Prop
 |none=>True
 |some a=>∀id r,E.ow id=J (a.1,a.2++r)->¬E.G id->E'.G id/\∀k,E.H.b id=J k->∃k',E'.H.b id=J k'/\k'.cells=k.cells
def zg.ch(h:zg E E' l)(i j:Nat):zg E E' (l.ch i j):=by
 cases l with
 |none=>exact True.intro
 |some a=>
  intro id r h1 h2;have h:∀id r,E.ow id=J (a.1,a.2++r)->¬E.G id->E'.G id/\∀k,E.H.b id=J k->∃k',E'.H.b id=J k'/\k'.cells=k.cells:=h;simp only[cS]at h1;rw[ie]at h1;exact h id _ h1 h2
def mC{α β:Type}{f:α->β}{l:List α}{i:Nat}{y:β}(h:(l.map f)[i]? =J y):∃x,l[i]? =J x/\f x=y:=by
 rw[Ew,bP]at h;exact h
def PR.freeze(hg:GK E E')(h:PR E l x v):zg E E' l->PR E' ae (drop x) v:=by
 induction h with
 |ax v=>intro _;simp only[drop];exact .ax v
 |bool b=>intro _;simp only[drop];exact .bool b
 |int k n=>intro _;simp only[drop];exact .int k n
 |str s=>intro _;simp only[drop];exact .str s
 |gu=>intro _;simp only[drop];exact .gu
 |fX=>intro _;simp only[drop];exact .fX
 |ia=>intro _;simp only[drop];exact .ia
 |sl0 o es=>intro _;rw[zjJ];exact .sl0 aa es
 |jZ hG hb hn hc hm hr hl h ih=>
  intro _;rw[zjJ];obtain⟨rc,hk⟩:=hg _ hG;obtain⟨k',hY,e⟩:=hk _ hb;refine .jZ rc hY (by simpa using hn) hc hm (λr im=>?_) (by rw[e];exact hl) λi r j x y h1 h2 h3=>?_
  ·obtain⟨r0,h0,rfl⟩:=jU.1 im;simpa using hr r0 h0
  ·obtain⟨r0,h0,rfl⟩:=mC h1;obtain⟨x0,dD,rfl⟩:=mC h2;exact ih i r0 j x0 y h0 dD (by rw[<-e];exact h3) True.intro
 |fK how hG hb bc hn hc hm hr hl h ih=>
  intro hf;rename_i l _ _ _ _ _ _ _;rw[zjJ];have qh:∀id r,E.ow id=J (l.1,l.2++r)->¬E.G id->E'.G id/\∀k,E.H.b id=J k->∃k',E'.H.b id=J k'/\k'.cells=k.cells:=hf;obtain⟨rc,hk⟩:=qh _ [] (by simpa using how) hG;obtain⟨k',hY,e⟩:=hk _ hb;refine .jZ rc hY (by simpa using hn) hc hm (λr im=>?_) ⟨hl.1.1,?_⟩ λi r j x y h1 h2 h3=>?_
  ·obtain⟨r0,h0,rfl⟩:=jU.1 im;simpa using hr r0 h0
  ·rw[e];refine gD (Nat.add_le_add_left (gO _ ?_) _) hl.2;exact hc
  ·obtain⟨r0,h0,rfl⟩:=mC h1;obtain⟨x0,dD,rfl⟩:=mC h2;exact ih i r0 j x0 y h0 dD (by rw[<-e];exact h3) (zg.ch (l:=J l) hf i j)
 |fp hG hb hl h ih=>
  intro _;simp only[drop];obtain⟨rc,hk⟩:=hg _ hG;obtain⟨k',hY,e⟩:=hk _ hb;exact .fp rc hY (by rw[e];exact hl) λj x y h1 h3=>(h j x y h1 (by rw[<-e];exact h3)).mono hg
 |bx how hG hb bc hl h ih=>
  intro hf;rename_i l _ _ _;rw[zq8];have qh:∀id r,E.ow id=J (l.1,l.2++r)->¬E.G id->E'.G id/\∀k,E.H.b id=J k->∃k',E'.H.b id=J k'/\k'.cells=k.cells:=hf;obtain⟨rc,hk⟩:=qh _ [] (by simpa using how) hG;obtain⟨k',hY,e⟩:=hk _ hb;refine .fp rc hY (by rw[e];simpa using hl) λj x y h2 h3=>?_
  obtain⟨x0,dD,rfl⟩:=mC h2;rw[gE]at h3;exact ih j x0 y dD (by rw[<-e];exact h3) (zg.ch (l:=J l) hf 0 j)
 |func fn hl kl h k ih ik=>intro _;simp only[drop];exact .func fn hl kl (λi x y a b=>(h i x y a b).mono hg) (λi x y a b=>(k i x y a b).mono hg)
 |agg hl h ih=>
  intro hf;rw[zpj];refine .agg (by simpa using hl) λj x y a b=>?_
  obtain⟨x0,dD,rfl⟩:=mC a;exact ih j x0 y dD b (hf.ch 0 j)
 |bS hl h0 h ih=>
  intro hf;rw[zt6];refine .bS (by simpa using hl) (by simpa using h0) λj x y a b=>?_
  obtain⟨x0,dD,rfl⟩:=mC a;exact ih j x0 y dD b (hf.ch 0 j)
end Go.Pm
