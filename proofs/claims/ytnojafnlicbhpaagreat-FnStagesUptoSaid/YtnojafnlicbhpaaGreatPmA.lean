import Derived.Test.YtnojafnlicbhpaaGreatAmM
namespace Go.Pm
set_option linter.defProp false
open Go.Am
open Bool renaming false→aa,true→Z
open Option renaming none→ae,some→J
def Kw:=@List.sizeOf_lt_of_mem
def Kx:=@List.any_eq_false
inductive PV where
 |au
 |bool (b:Bool)
 |int (k:IntKind) (n:Int)
 |str (s:ByteArray)
 |fZ
 |fH
 |gC
 |sl (o:Bool) (es:Nat) (rows:List (List PV))
 |fp (row:List PV)
 |bx (row:List PV)
 |func (fn:Fn) (xs us:List PV)
 |agg (row:List PV)
 |bO (xs:List PV)
abbrev aA:=List (Nat×Nat)
abbrev Lo:=Option (Nat×aA)
def cL(l:Nat×aA)(i j:Nat):Nat×aA:=(l.1,l.2++[(i,j)])
def Lo.ch(l:Lo)(i j:Nat):Lo:=l.map λx=>cL x i j
structure Env where
 H:AH
 G:Nat->Prop
 ow:Nat->Option (Nat×aA)
def kj:Nat:=4611686018427387904
inductive PR (E:Env):Lo->PV->Value->Prop where
 |au {l:Lo}(v:Value):PR E l .au v
 |bool {l:Lo}(b:Bool):PR E l (.bool b) (.bool b)
 |int {l:Lo}(k:IntKind) (n:Int):PR E l (.int k n) (.int k n)
 |str {l:Lo}(s:ByteArray):PR E l (.str s) (.string s)
 |fZ {l:Lo}:PR E l .fZ (.pointer ae)
 |fH {l:Lo}:PR E l .fH .nilFunc
 |gC {l:Lo}:PR E l .gC .nilIface
 |sl0 {l:Lo}(o:Bool) (es:Nat):PR E l (.sl o es []) (.slice ae 0 0)
 |jM {l:Lo}{id off es n c:Nat}{k:mD}{rows:List (List PV)}(hG:E.G id) (hb:E.H.b id=J k) (hn:rows.length=n) (hc:n<=c) (hm:n<=kj)
  (hr:∀r,r∈rows->r.length=es) (hl:es≠0/\off+n*es<=k.cells.length)
  (h:∀(i:Nat) (r:List PV) (j:Nat) (x:PV) (y:Value),rows[i]? =J r->r[j]? =J x->k.cells[off+i*es+j]? =J y->PR E ae x y):
  PR E l (.sl aa es rows) (.slice (J ⟨id,off,J es⟩) n c)
 |fu {l:Nat×aA}{id off es n c:Nat}{k:mD}{rows:List (List PV)}(how:E.ow id=J l) (hG:¬E.G id) (hb:E.H.b id=J k) (bc:k.rw=Z) (hn:rows.length=n) (hc:n<=c) (hm:n<=kj)
  (hr:∀r,r∈rows->r.length=es) (hl:(es≠0/\off=0)/\off+c*es<=k.cells.length)
  (h:∀(i:Nat) (r:List PV) (j:Nat) (x:PV) (y:Value),rows[i]? =J r->r[j]? =J x->k.cells[off+i*es+j]? =J y->PR E (J (cL l i j)) x y):
  PR E (J l) (.sl Z es rows) (.slice (J ⟨id,off,J es⟩) n c)
 |fp {l:Lo}{id off:Nat}{k:mD}{row:List PV}(hG:E.G id) (hb:E.H.b id=J k) (hl:off+row.length<=k.cells.length)
  (h:∀(j:Nat) (x:PV) (y:Value),row[j]? =J x->k.cells[off+j]? =J y->PR E ae x y):PR E l (.fp row) (.pointer (J ⟨id,off,ae⟩))
 |bx {l:Nat×aA}{id:Nat}{k:mD}{row:List PV}(how:E.ow id=J l) (hG:¬E.G id) (hb:E.H.b id=J k) (bc:k.rw=Z) (hl:row.length<=k.cells.length)
  (h:∀(j:Nat) (x:PV) (y:Value),row[j]? =J x->k.cells[j]? =J y->PR E (J (cL l 0 j)) x y):PR E (J l) (.bx row) (.pointer (J ⟨id,0,ae⟩))
 |func {l:Lo}(fn:Fn) {xs us:List PV}{ys vs:Array Value}(hl:xs.length=ys.toList.length) (kl:us.length=vs.toList.length)
  (h:∀(i:Nat) (x:PV) (y:Value),xs[i]? =J x->ys.toList[i]? =J y->PR E ae x y)
  (k:∀(i:Nat) (x:PV) (y:Value),us[i]? =J x->vs.toList[i]? =J y->PR E ae x y):PR E l (.func fn xs us) (.func fn ys vs)
 |agg {l:Lo}{row:List PV}{ys:Array Value}(hl:row.length=ys.toList.length)
  (h:∀(j:Nat) (x:PV) (y:Value),row[j]? =J x->ys.toList[j]? =J y->PR E (l.ch 0 j) x y):PR E l (.agg row) (.agg ys)
 |bO {l:Lo}{xs:List PV}{ys:Array Value}(hl:xs.length=ys.toList.length) (h0:xs≠[])
  (h:∀(j:Nat) (x:PV) (y:Value),xs[j]? =J x->ys.toList[j]? =J y->PR E (l.ch 0 j) x y):PR E l (.bO xs) (.tuple ys)
def bK:PV->Bool
 | .sl o _ _=>o
 | .bx _=>Z
 | .agg row=>row.attach.any λ⟨x,_⟩=>bK x
 | .bO xs=>xs.attach.any λ⟨x,_⟩=>bK x
 |_=>aa
def drop:PV->PV
 | .sl _ es rows=>.sl aa es (rows.attach.map λ⟨r,_⟩=>r.attach.map λ⟨x,_⟩=>drop x)
 | .bx row=>.fp (row.attach.map λ⟨x,_⟩=>drop x)
 | .agg row=>.agg (row.attach.map λ⟨x,_⟩=>drop x)
 | .bO xs=>.bO (xs.attach.map λ⟨x,_⟩=>drop x)
 |x=>x
decreasing_by
 all_goals simp_wf
 all_goals
  first
   |(have h1:=Kw ‹_∈_›;omega)
   |(have h1:=Kw ‹x∈r›;have h2:=Kw ‹r∈rows›;omega)
def GK(E E':Env):Prop:=∀id,E.G id->E'.G id/\∀k,E.H.b id=J k->∃k',E'.H.b id=J k'/\k'=k
structure fY (E E':Env):Prop where
 n:E.H.n<=E'.H.n
 g:GK E E'
 own:∀id,id<E.H.n->E.ow id=ae->E'.ow id=ae/\E'.H.b id=E.H.b id/\(E'.G id->E.G id)
variable{E E':Env}{l:Lo}{row:List PV}{v:Value}{x:PV}
def GK.refl(E:Env):GK E E:=λ_ h=>⟨h,λk hk=>⟨k,hk,rfl⟩⟩
def GK.trans{a b c:Env}(h:GK a b)(h':GK b c):GK a c:=λid hG=>
 ⟨(h' id (h id hG).1).1,λk hk=>by
   obtain⟨k1,h1,e1⟩:=(h id hG).2 k hk;obtain⟨k2,h2,e2⟩:=(h' id (h id hG).1).2 k1 h1
   exact⟨k2,h2,e2.trans e1⟩⟩
def fY.refl(E:Env):fY E E:=⟨cy _,GK.refl E,λ_ _ h=>⟨h,rfl,λh=>h⟩⟩
def fY.trans{a b c:Env}(h:fY a b)(h':fY b c):fY a c:=⟨gj h.n h'.n,h.g.trans h'.g,λid h1 h2=>by
 obtain⟨a1,a2,a3⟩:=h.own id h1 h2;obtain⟨b1,b2,b3⟩:=h'.own id (AX h1 h.n) a1
 exact⟨b1,b2.trans a2,λhg=>a3 (b3 hg)⟩⟩
def dt(E E':Env):Lo->Lo->Prop
 |none,_=>True
 |some a,J b=>∀id r,E.ow id=J (a.1,a.2++r)->¬E.G id->E'.ow id=J (b.1,b.2++r)/\¬E'.G id/\E'.H.b id=E.H.b id
 |some a,ae=>∀id r,E.ow id=J (a.1,a.2++r)->E.G id
def dt.ch{l':Lo}(h:dt E E' l l')(i j:Nat):dt E E' (l.ch i j) (l'.ch i j):=by
 cases l with
 |none=>cases l'<;>exact True.intro
 |some a=>
  cases l' with
  |none=>
   intro id r h1;have h:∀id r,E.ow id=J (a.1,a.2++r)->E.G id:=h;simp only[cL]at h1;rw[gU]at h1;exact h id _ h1
  |some b=>
   intro id r h1 h2;have h:∀id r,E.ow id=J (a.1,a.2++r)->¬E.G id->E'.ow id=J (b.1,b.2++r)/\¬E'.G id/\E'.H.b id=E.H.b id:=h;simp only[cL]at h1⊢;rw[gU]at h1;have:=h id _ h1 h2;rw[gU];exact this
def PR.move(hg:GK E E')(h:PR E l x v):∀{l':Lo},dt E E' l l'->PR E' l' x v:=by
 induction h with
 |au v=>intro l' _;exact .au v
 |bool b=>intro l' _;exact .bool b
 |int k n=>intro l' _;exact .int k n
 |str s=>intro l' _;exact .str s
 |fZ=>intro l' _;exact .fZ
 |fH=>intro l' _;exact .fH
 |gC=>intro l' _;exact .gC
 |sl0 o es=>intro l' _;exact .sl0 o es
 |jM hG hb hn hc hm hr hl h ih=>
  intro l' _;obtain⟨qT,hk⟩:=hg _ hG;obtain⟨k',gE,e⟩:=hk _ hb;exact .jM qT gE hn hc hm hr (by rw[e];exact hl) λi r j x y h1 h2 h3=>ih i r j x y h1 h2 (by rw[<-e];exact h3) True.intro
 |fu how hG hb bc hn hc hm hr hl h ih=>
  intro l' jw;rename_i l _ _ _ _ _ _ _;cases l' with
  |none=>exact absurd (jw _ [] (by simpa using how)) hG
  |some b=>
   have qN:∀id r,E.ow id=J (l.1,l.2++r)->¬E.G id->E'.ow id=J (b.1,b.2++r)/\¬E'.G id/\E'.H.b id=E.H.b id:=jw;obtain⟨h1,h2,h3⟩:=qN _ [] (by simpa using how) hG;rw[<-h3]at hb;exact .fu (by simpa using h1) h2 hb bc hn hc hm hr hl λi r j x y a1 a2 a3=>ih i r j x y a1 a2 a3 (dt.ch (l:=J l) (l':=J b) jw i j)
 |fp hG hb hl h ih=>
  intro l' _;obtain⟨qT,hk⟩:=hg _ hG;obtain⟨k',gE,e⟩:=hk _ hb;exact .fp qT gE (by rw[e];exact hl) λj x y h2 h3=>ih j x y h2 (by rw[<-e];exact h3) True.intro
 |bx how hG hb bc hl h ih=>
  intro l' jw;rename_i l _ _ _;cases l' with
  |none=>exact absurd (jw _ [] (by simpa using how)) hG
  |some b=>
   have qN:∀id r,E.ow id=J (l.1,l.2++r)->¬E.G id->E'.ow id=J (b.1,b.2++r)/\¬E'.G id/\E'.H.b id=E.H.b id:=jw;obtain⟨h1,h2,h3⟩:=qN _ [] (by simpa using how) hG;rw[<-h3]at hb;exact .bx (by simpa using h1) h2 hb bc hl λj x y a1 a2=>ih j x y a1 a2 (dt.ch (l:=J l) (l':=J b) jw 0 j)
 |func fn hl kl h k ih ik=>intro l' _;exact .func fn hl kl (λi x y a b=>ih i x y a b True.intro) (λi x y a b=>ik i x y a b True.intro)
 |agg hl h ih=>intro l' jw;exact .agg hl λj x y a b=>ih j x y a b (jw.ch 0 j)
 |bO hl h0 h ih=>intro l' jw;exact .bO hl h0 λj x y a b=>ih j x y a b (jw.ch 0 j)
def PR.up(h:PR E ae x v):PR E l x v:=h.move (GK.refl E) True.intro
def PR.mono(hg:GK E E')(h:PR E ae x v):PR E' l x v:=h.move hg True.intro
def zkH{o:Bool}{es:Nat}{rows:List (List PV)}:bK (.sl o es rows)=o:=by simp[bK]
def zvy :bK (.bx row)=Z:=by simp[bK]
def ziK :bK (.agg row)=row.any bK:=by simp[bK]
def ztt :bK (.bO row)=row.any bK:=by simp[bK]
def PR.free(h:PR E l x v):bK x=aa->PR E ae x v:=by
 induction h with
 |au v=>intro _;exact .au v
 |bool b=>intro _;exact .bool b
 |int k n=>intro _;exact .int k n
 |str s=>intro _;exact .str s
 |fZ=>intro _;exact .fZ
 |fH=>intro _;exact .fH
 |gC=>intro _;exact .gC
 |sl0 o es=>intro _;exact .sl0 o es
 |jM hG hb hn hc hm hr hl h ih=>intro _;exact .jM hG hb hn hc hm hr hl h
 |fu how hG hb bc hn hc hm hr hl h ih=>intro h;simp[zkH]at h
 |fp hG hb hl h ih=>intro _;exact .fp hG hb hl h
 |bx how hG hb bc hl h ih=>intro h;simp[zvy]at h
 |func fn hl kl h k ih ik=>intro _;exact .func fn hl kl h k
 |agg hl h ih=>
  intro ho;rw[ziK,Kx]at ho;exact .agg hl λj x y a b=>ih j x y a b (by simpa using ho x (eo a))
 |bO hl h0 h ih=>
  intro ho;rw[ztt,Kx]at ho;exact .bO hl h0 λj x y a b=>ih j x y a b (by simpa using ho x (eo a))
def zjF{o:Bool}{es:Nat}{rows:List (List PV)}:drop (.sl o es rows)=.sl aa es (rows.map (·.map drop)):=by simp[drop]
def zqQ :drop (.bx row)=.fp (row.map drop):=by simp[drop]
def zpg :drop (.agg row)=.agg (row.map drop):=by simp[drop]
def zt3 :drop (.bO row)=.bO (row.map drop):=by simp[drop]
def xM(E E':Env):Lo->Prop
 |none=>True
 |some a=>∀id r,E.ow id=J (a.1,a.2++r)->¬E.G id->E'.G id/\∀k,E.H.b id=J k->∃k',E'.H.b id=J k'/\k'.cells=k.cells
def xM.ch(h:xM E E' l)(i j:Nat):xM E E' (l.ch i j):=by
 cases l with
 |none=>exact True.intro
 |some a=>
  intro id r h1 h2;have h:∀id r,E.ow id=J (a.1,a.2++r)->¬E.G id->E'.G id/\∀k,E.H.b id=J k->∃k',E'.H.b id=J k'/\k'.cells=k.cells:=h;simp only[cL]at h1;rw[gU]at h1;exact h id _ h1 h2
def my{α β:Type}{f:α->β}{l:List α}{i:Nat}{y:β}(h:(l.map f)[i]? =J y):∃x,l[i]? =J x/\f x=y:=by
 rw[Da,bN]at h;exact h
def PR.freeze(hg:GK E E')(h:PR E l x v):xM E E' l->PR E' ae (drop x) v:=by
 induction h with
 |au v=>intro _;simp only[drop];exact .au v
 |bool b=>intro _;simp only[drop];exact .bool b
 |int k n=>intro _;simp only[drop];exact .int k n
 |str s=>intro _;simp only[drop];exact .str s
 |fZ=>intro _;simp only[drop];exact .fZ
 |fH=>intro _;simp only[drop];exact .fH
 |gC=>intro _;simp only[drop];exact .gC
 |sl0 o es=>intro _;rw[zjF];exact .sl0 aa es
 |jM hG hb hn hc hm hr hl h ih=>
  intro _;rw[zjF];obtain⟨qT,hk⟩:=hg _ hG;obtain⟨k',gE,e⟩:=hk _ hb;refine .jM qT gE (by simpa using hn) hc hm (λr gY=>?_) (by rw[e];exact hl) λi r j x y h1 h2 h3=>?_
  ·obtain⟨r0,h0,rfl⟩:=jE.1 gY;simpa using hr r0 h0
  ·obtain⟨r0,h0,rfl⟩:=my h1;obtain⟨x0,dy,rfl⟩:=my h2;exact ih i r0 j x0 y h0 dy (by rw[<-e];exact h3) True.intro
 |fu how hG hb bc hn hc hm hr hl h ih=>
  intro hf;rename_i l _ _ _ _ _ _ _;rw[zjF];have pV:∀id r,E.ow id=J (l.1,l.2++r)->¬E.G id->E'.G id/\∀k,E.H.b id=J k->∃k',E'.H.b id=J k'/\k'.cells=k.cells:=hf;obtain⟨qT,hk⟩:=pV _ [] (by simpa using how) hG;obtain⟨k',gE,e⟩:=hk _ hb;refine .jM qT gE (by simpa using hn) hc hm (λr gY=>?_) ⟨hl.1.1,?_⟩ λi r j x y h1 h2 h3=>?_
  ·obtain⟨r0,h0,rfl⟩:=jE.1 gY;simpa using hr r0 h0
  ·rw[e];refine gj (Nat.add_le_add_left (gA _ ?_) _) hl.2;exact hc
  ·obtain⟨r0,h0,rfl⟩:=my h1;obtain⟨x0,dy,rfl⟩:=my h2;exact ih i r0 j x0 y h0 dy (by rw[<-e];exact h3) (xM.ch (l:=J l) hf i j)
 |fp hG hb hl h ih=>
  intro _;simp only[drop];obtain⟨qT,hk⟩:=hg _ hG;obtain⟨k',gE,e⟩:=hk _ hb;exact .fp qT gE (by rw[e];exact hl) λj x y h1 h3=>(h j x y h1 (by rw[<-e];exact h3)).mono hg
 |bx how hG hb bc hl h ih=>
  intro hf;rename_i l _ _ _;rw[zqQ];have pV:∀id r,E.ow id=J (l.1,l.2++r)->¬E.G id->E'.G id/\∀k,E.H.b id=J k->∃k',E'.H.b id=J k'/\k'.cells=k.cells:=hf;obtain⟨qT,hk⟩:=pV _ [] (by simpa using how) hG;obtain⟨k',gE,e⟩:=hk _ hb;refine .fp qT gE (by rw[e];simpa using hl) λj x y h2 h3=>?_
  obtain⟨x0,dy,rfl⟩:=my h2;rw[gk]at h3;exact ih j x0 y dy (by rw[<-e];exact h3) (xM.ch (l:=J l) hf 0 j)
 |func fn hl kl h k ih ik=>intro _;simp only[drop];exact .func fn hl kl (λi x y a b=>(h i x y a b).mono hg) (λi x y a b=>(k i x y a b).mono hg)
 |agg hl h ih=>
  intro hf;rw[zpg];refine .agg (by simpa using hl) λj x y a b=>?_
  obtain⟨x0,dy,rfl⟩:=my a;exact ih j x0 y dy b (hf.ch 0 j)
 |bO hl h0 h ih=>
  intro hf;rw[zt3];refine .bO (by simpa using hl) (by simpa using h0) λj x y a b=>?_
  obtain⟨x0,dy,rfl⟩:=my a;exact ih j x0 y dy b (hf.ch 0 j)
end Go.Pm
