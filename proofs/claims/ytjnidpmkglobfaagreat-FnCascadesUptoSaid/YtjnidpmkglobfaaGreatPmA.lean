import Derived.Test.YtjnidpmkglobfaaGreatAmM
open Bool renaming false→Z,true→O
open Option renaming none→aa,some→J
set_option linter.defProp false
namespace Go.Pm
open Go.Am
def Mi:=@List.sizeOf_lt_of_mem
def Mj:=@List.any_eq_false
inductive PV where
 |az
 |bool (b:Bool)
 |int (k:IntKind) (n:Int)
 |str (s:ByteArray)
 |gy
 |fX
 |gU
 |sl (o:Bool) (es:Nat) (rows:List (List PV))
 |fp (row:List PV)
 |bx (row:List PV)
 |func (fn:Fn) (xs us:List PV)
 |agg (row:List PV)
 |bR (xs:List PV)
abbrev aB:=List (Nat×Nat)
abbrev Lo:=Option (Nat×aB)
def cS(l:Nat×aB)(i j:Nat):Nat×aB:=(l.1,l.2++[(i,j)])
def Lo.ch(l:Lo)(i j:Nat):Lo:=l.map λx=>cS x i j
structure Env where
 H:AH
 G:Nat->Prop
 ow:Nat->Option (Nat×aB)
def kA:Nat:=4611686018427387904
inductive PR (E:Env):Lo->PV->Value->Prop where
 |az {l:Lo}(v:Value):PR E l .az v
 |bool {l:Lo}(b:Bool):PR E l (.bool b) (.bool b)
 |int {l:Lo}(k:IntKind) (n:Int):PR E l (.int k n) (.int k n)
 |str {l:Lo}(s:ByteArray):PR E l (.str s) (.string s)
 |gy {l:Lo}:PR E l .gy (.pointer aa)
 |fX {l:Lo}:PR E l .fX .nilFunc
 |gU {l:Lo}:PR E l .gU .nilIface
 |sl0 {l:Lo}(o:Bool) (es:Nat):PR E l (.sl o es []) (.slice aa 0 0)
 |jX {l:Lo}{id off es n c:Nat}{k:mP}{rows:List (List PV)}(hG:E.G id) (hb:E.H.b id=J k) (hn:rows.length=n) (hc:n<=c) (hm:n<=kA)
  (hr:∀r,r∈rows->r.length=es) (hl:es≠0/\off+n*es<=k.cells.length)
  (h:∀(i:Nat) (r:List PV) (j:Nat) (x:PV) (y:Value),rows[i]? =J r->r[j]? =J x->k.cells[off+i*es+j]? =J y->PR E aa x y):
  PR E l (.sl Z es rows) (.slice (J ⟨id,off,J es⟩) n c)
 |fN {l:Nat×aB}{id off es n c:Nat}{k:mP}{rows:List (List PV)}(how:E.ow id=J l) (hG:¬E.G id) (hb:E.H.b id=J k) (aY:k.rw=O) (hn:rows.length=n) (hc:n<=c) (hm:n<=kA)
  (hr:∀r,r∈rows->r.length=es) (hl:(es≠0/\off=0)/\off+c*es<=k.cells.length)
  (h:∀(i:Nat) (r:List PV) (j:Nat) (x:PV) (y:Value),rows[i]? =J r->r[j]? =J x->k.cells[off+i*es+j]? =J y->PR E (J (cS l i j)) x y):
  PR E (J l) (.sl O es rows) (.slice (J ⟨id,off,J es⟩) n c)
 |fp {l:Lo}{id off:Nat}{k:mP}{row:List PV}(hG:E.G id) (hb:E.H.b id=J k) (hl:off+row.length<=k.cells.length)
  (h:∀(j:Nat) (x:PV) (y:Value),row[j]? =J x->k.cells[off+j]? =J y->PR E aa x y):PR E l (.fp row) (.pointer (J ⟨id,off,aa⟩))
 |bx {l:Nat×aB}{id:Nat}{k:mP}{row:List PV}(how:E.ow id=J l) (hG:¬E.G id) (hb:E.H.b id=J k) (aY:k.rw=O) (hl:row.length<=k.cells.length)
  (h:∀(j:Nat) (x:PV) (y:Value),row[j]? =J x->k.cells[j]? =J y->PR E (J (cS l 0 j)) x y):PR E (J l) (.bx row) (.pointer (J ⟨id,0,aa⟩))
 |func {l:Lo}(fn:Fn) {xs us:List PV}{ys vs:Array Value}(hl:xs.length=ys.toList.length) (kl:us.length=vs.toList.length)
  (h:∀(i:Nat) (x:PV) (y:Value),xs[i]? =J x->ys.toList[i]? =J y->PR E aa x y)
  (k:∀(i:Nat) (x:PV) (y:Value),us[i]? =J x->vs.toList[i]? =J y->PR E aa x y):PR E l (.func fn xs us) (.func fn ys vs)
 |agg {l:Lo}{row:List PV}{ys:Array Value}(hl:row.length=ys.toList.length)
  (h:∀(j:Nat) (x:PV) (y:Value),row[j]? =J x->ys.toList[j]? =J y->PR E (l.ch 0 j) x y):PR E l (.agg row) (.agg ys)
 |bR {l:Lo}{xs:List PV}{ys:Array Value}(hl:xs.length=ys.toList.length) (h0:xs≠[])
  (h:∀(j:Nat) (x:PV) (y:Value),xs[j]? =J x->ys.toList[j]? =J y->PR E (l.ch 0 j) x y):PR E l (.bR xs) (.tuple ys)
def bI:PV->Bool
 | .sl o _ _=>o
 | .bx _=>O
 | .agg row=>row.attach.any λ⟨x,_⟩=>bI x
 | .bR a=>a.attach.any λ⟨x,_⟩=>bI x
 |_=>Z
def drop:PV->PV
 | .sl _ b a=>.sl Z b (a.attach.map λ⟨r,_⟩=>r.attach.map λ⟨x,_⟩=>drop x)
 | .bx row=>.fp (row.attach.map λ⟨x,_⟩=>drop x)
 | .agg row=>.agg (row.attach.map λ⟨x,_⟩=>drop x)
 | .bR d=>.bR (d.attach.map λ⟨x,_⟩=>drop x)
 |x=>x
decreasing_by
 all_goals simp_wf
 all_goals
  first
   |(have c:=Mi ‹_∈_›;omega)
   |(have c:=Mi ‹x∈r›;have e:=Mi ‹r∈a›;omega)
def GK(E E':Env):Prop:=∀id,E.G id->E'.G id/\∀k,E.H.b id=J k->∃a,E'.H.b id=J a/\a=k
structure gi (E E':Env):Prop where
 n:E.H.n<=E'.H.n
 g:GK E E'
 own:∀id,id<E.H.n->E.ow id=aa->E'.ow id=aa/\E'.H.b id=E.H.b id/\(E'.G id->E.G id)
variable{E E':Env}{l:Lo}{row:List PV}{v:Value}{x:PV}
def GK.refl(E:Env):GK E E:=λ_ h=>⟨h,λk a=>⟨k,a,rfl⟩⟩
def GK.trans{a b c:Env}(h:GK a b)(e:GK b c):GK a c:=λid d=>
 ⟨(e id (h id d).1).1,λk m=>by
   obtain⟨k1,i,f⟩:=(h id d).2 k m;obtain⟨k2,j,g⟩:=(e id (h id d).1).2 k1 i
   exact⟨k2,j,g.trans f⟩⟩
def gi.refl(E:Env):gi E E:=⟨cq _,GK.refl E,λ_ _ h=>⟨h,rfl,λh=>h⟩⟩
def gi.trans{a b c:Env}(h:gi a b)(d:gi b c):gi a c:=⟨ii h.n d.n,h.g.trans d.g,λid e n=>by
 obtain⟨f,g,i⟩:=h.own id e n;obtain⟨j,k,m⟩:=d.own id (BS e h.n) f
 exact⟨j,k.trans g,λo=>i (m o)⟩⟩
def dC(E E':Env):Lo->Lo->Prop
 |none,_=>True
 |some a,J b=>∀id r,E.ow id=J (a.1,a.2++r)->¬E.G id->E'.ow id=J (b.1,b.2++r)/\¬E'.G id/\E'.H.b id=E.H.b id
 |some a,aa=>∀id r,E.ow id=J (a.1,a.2++r)->E.G id
def dC.ch{l':Lo}(h:dC E E' l l')(i j:Nat):dC E E' (l.ch i j) (l'.ch i j):=by
 cases l with
 |none=>cases l'<;>exact True.intro
 |some a=>
  cases l' with
  |none=>
   intro id r c;have h:∀id r,E.ow id=J (a.1,a.2++r)->E.G id:=h;simp only[cS]at c;rw[gO]at c;exact h id _ c
  |some b=>
   intro id r c d;have h:∀id r,E.ow id=J (a.1,a.2++r)->¬E.G id->E'.ow id=J (b.1,b.2++r)/\¬E'.G id/\E'.H.b id=E.H.b id:=h;simp only[cS]at c⊢;rw[gO]at c;have:=h id _ c d;rw[gO];exact this
def PR.move(K:GK E E')(h:PR E l x v):∀{l':Lo},dC E E' l l'->PR E' l' x v:=by
 induction h with
 |az v=>intro l' _;exact .az v
 |bool b=>intro l' _;exact .bool b
 |int k n=>intro l' _;exact .int k n
 |str s=>intro l' _;exact .str s
 |gy=>intro l' _;exact .gy
 |fX=>intro l' _;exact .fX
 |gU=>intro l' _;exact .gU
 |sl0 o M=>intro l' _;exact .sl0 o M
 |jX f g F B D G c h ih=>
  intro l' _;obtain⟨I,C⟩:=K _ f;obtain⟨R,A,e⟩:=C _ g;exact .jX I A F B D G (by rw[e];exact c) λi r j x y q m p=>ih i r j x y q m (by rw[<-e];exact p) True.intro
 |fN t f g z F B D G c h ih=>
  intro l' d;rename_i l _ _ _ _ _ _ _;cases l' with
  |none=>exact absurd (d _ [] (by simpa using t)) f
  |some b=>
   have H:∀id r,E.ow id=J (l.1,l.2++r)->¬E.G id->E'.ow id=J (b.1,b.2++r)/\¬E'.G id/\E'.H.b id=E.H.b id:=d;obtain⟨q,m,p⟩:=H _ [] (by simpa using t) f;rw[<-p]at g;exact .fN (by simpa using q) m g z F B D G c λi r j x y u w L=>ih i r j x y u w L (dC.ch (l:=J l) (l':=J b) d i j)
 |fp f g c h ih=>
  intro l' _;obtain⟨I,C⟩:=K _ f;obtain⟨R,A,e⟩:=C _ g;exact .fp I A (by rw[e];exact c) λj x y m p=>ih j x y m (by rw[<-e];exact p) True.intro
 |bx t f g z c h ih=>
  intro l' d;rename_i l _ _ _;cases l' with
  |none=>exact absurd (d _ [] (by simpa using t)) f
  |some b=>
   have H:∀id r,E.ow id=J (l.1,l.2++r)->¬E.G id->E'.ow id=J (b.1,b.2++r)/\¬E'.G id/\E'.H.b id=E.H.b id:=d;obtain⟨q,m,p⟩:=H _ [] (by simpa using t) f;rw[<-p]at g;exact .bx (by simpa using q) m g z c λj x y u w=>ih j x y u w (dC.ch (l:=J l) (l':=J b) d 0 j)
 |func N c S h k ih Q=>intro l' _;exact .func N c S (λi x y a b=>ih i x y a b True.intro) (λi x y a b=>Q i x y a b True.intro)
 |agg c h ih=>intro l' d;exact .agg c λj x y a b=>ih j x y a b (d.ch 0 j)
 |bR c P h ih=>intro l' d;exact .bR c P λj x y a b=>ih j x y a b (d.ch 0 j)
def PR.up(h:PR E aa x v):PR E l x v:=h.move (GK.refl E) True.intro
def PR.mono(a:GK E E')(h:PR E aa x v):PR E' l x v:=h.move a True.intro
def zkl{o:Bool}{a:Nat}{b:List (List PV)}:bI (.sl o a b)=o:=by simp[bI]
def zu5 :bI (.bx row)=O:=by simp[bI]
def zio :bI (.agg row)=row.any bI:=by simp[bI]
def zs8 :bI (.bR row)=row.any bI:=by simp[bI]
def PR.free(h:PR E l x v):bI x=Z->PR E aa x v:=by
 induction h with
 |az v=>intro _;exact .az v
 |bool b=>intro _;exact .bool b
 |int k n=>intro _;exact .int k n
 |str s=>intro _;exact .str s
 |gy=>intro _;exact .gy
 |fX=>intro _;exact .fX
 |gU=>intro _;exact .gU
 |sl0 o r=>intro _;exact .sl0 o r
 |jX d e m g i p c h ih=>intro _;exact .jX d e m g i p c h
 |fN w d e q m g i p c h ih=>intro h;simp[zkl]at h
 |fp d e c h ih=>intro _;exact .fp d e c h
 |bx w d e q c h ih=>intro h;simp[zu5]at h
 |func t c z h k ih A=>intro _;exact .func t c z h k
 |agg c h ih=>
  intro f;rw[zio,Mj]at f;exact .agg c λj x y a b=>ih j x y a b (by simpa using f x (eD a))
 |bR c u h ih=>
  intro f;rw[zs8,Mj]at f;exact .bR c u λj x y a b=>ih j x y a b (by simpa using f x (eD a))
def zi9{o:Bool}{a:Nat}{b:List (List PV)}:drop (.sl o a b)=.sl Z a (b.map (·.map drop)):=by simp[drop]
def zqa :drop (.bx row)=.fp (row.map drop):=by simp[drop]
def zo5 :drop (.agg row)=.agg (row.map drop):=by simp[drop]
def zsi :drop (.bR row)=.bR (row.map drop):=by simp[drop]
def yK(E E':Env):Lo->Prop
 |none=>True
 |some a=>∀id r,E.ow id=J (a.1,a.2++r)->¬E.G id->E'.G id/\∀k,E.H.b id=J k->∃b,E'.H.b id=J b/\b.cells=k.cells
def yK.ch(h:yK E E' l)(i j:Nat):yK E E' (l.ch i j):=by
 cases l with
 |none=>exact True.intro
 |some a=>
  intro id r b d;have h:∀id r,E.ow id=J (a.1,a.2++r)->¬E.G id->E'.G id/\∀k,E.H.b id=J k->∃c,E'.H.b id=J c/\c.cells=k.cells:=h;simp only[cS]at b;rw[gO]at b;exact h id _ b d
def mM{a b:Type}{f:a->b}{l:List a}{i:Nat}{y:b}(h:(l.map f)[i]? =J y):∃x,l[i]? =J x/\f x=y:=by
 rw[Ex,bL]at h;exact h
def PR.freeze(F:GK E E')(h:PR E l x v):yK E E' l->PR E' aa (drop x) v:=by
 induction h with
 |az v=>intro _;simp only[drop];exact .az v
 |bool b=>intro _;simp only[drop];exact .bool b
 |int k n=>intro _;simp only[drop];exact .int k n
 |str s=>intro _;simp only[drop];exact .str s
 |gy=>intro _;simp only[drop];exact .gy
 |fX=>intro _;simp only[drop];exact .fX
 |gU=>intro _;simp only[drop];exact .gU
 |sl0 o Q=>intro _;rw[zi9];exact .sl0 Z Q
 |jX u w I G H L c h ih=>
  intro _;rw[zi9];obtain⟨B,z⟩:=F _ u;obtain⟨m,t,e⟩:=z _ w;refine .jX B t (by simpa using I) G H (λr M=>?_) (by rw[e];exact c) λi r j x y C D q=>?_
  ·obtain⟨A,f,rfl⟩:=jr.1 M;simpa using L A f
  ·obtain⟨A,f,rfl⟩:=mM C;obtain⟨p,d,rfl⟩:=mM D;exact ih i A j p y f d (by rw[<-e];exact q) True.intro
 |fN K u w P I G H L c h ih=>
  intro g;rename_i l _ _ _ _ _ _ _;rw[zi9];have N:∀id r,E.ow id=J (l.1,l.2++r)->¬E.G id->E'.G id/\∀k,E.H.b id=J k->∃m,E'.H.b id=J m/\m.cells=k.cells:=g;obtain⟨B,z⟩:=N _ [] (by simpa using K) u;obtain⟨m,t,e⟩:=z _ w;refine .jX B t (by simpa using I) G H (λr M=>?_) ⟨c.1.1,?_⟩ λi r j x y C D q=>?_
  ·obtain⟨A,f,rfl⟩:=jr.1 M;simpa using L A f
  ·rw[e];refine ii (Nat.add_le_add_left (gN _ ?_) _) c.2;exact G
  ·obtain⟨A,f,rfl⟩:=mM C;obtain⟨p,d,rfl⟩:=mM D;exact ih i A j p y f d (by rw[<-e];exact q) (yK.ch (l:=J l) g i j)
 |fp u w c h ih=>
  intro _;simp only[drop];obtain⟨B,z⟩:=F _ u;obtain⟨m,t,e⟩:=z _ w;exact .fp B t (by rw[e];exact c) λj x y C q=>(h j x y C (by rw[<-e];exact q)).mono F
 |bx K u w P c h ih=>
  intro g;rename_i l _ _ _;rw[zqa];have N:∀id r,E.ow id=J (l.1,l.2++r)->¬E.G id->E'.G id/\∀k,E.H.b id=J k->∃m,E'.H.b id=J m/\m.cells=k.cells:=g;obtain⟨B,z⟩:=N _ [] (by simpa using K) u;obtain⟨m,t,e⟩:=z _ w;refine .fp B t (by rw[e];simpa using c) λj x y D q=>?_
  obtain⟨p,d,rfl⟩:=mM D;rw[gD]at q;exact ih j p y d (by rw[<-e];exact q) (yK.ch (l:=J l) g 0 j)
 |func R c S h k ih T=>intro _;simp only[drop];exact .func R c S (λi x y a b=>(h i x y a b).mono F) (λi x y a b=>(k i x y a b).mono F)
 |agg c h ih=>
  intro g;rw[zo5];refine .agg (by simpa using c) λj x y a b=>?_
  obtain⟨p,d,rfl⟩:=mM a;exact ih j p y d b (g.ch 0 j)
 |bR c f h ih=>
  intro g;rw[zsi];refine .bR (by simpa using c) (by simpa using f) λj x y a b=>?_
  obtain⟨p,d,rfl⟩:=mM a;exact ih j p y d b (g.ch 0 j)
end Go.Pm
