import Derived.Test.YtnojafnlicbhpaaGreatAmM
open Bool renaming false→aa,true→Z
open Option renaming none→ae,some→J
set_option linter.defProp false
namespace Go.Pm
open Go.Am
def Kz:=@List.sizeOf_lt_of_mem
def KA:=@List.any_eq_false
inductive PV where
 |au
 |bool (b:Bool)
 |int (k:IntKind) (n:Int)
 |str (s:ByteArray)
 |fZ
 |fB
 |gG
 |sl (o:Bool) (es:Nat) (rows:List (List PV))
 |fp (row:List PV)
 |bx (row:List PV)
 |func (fn:Fn) (xs us:List PV)
 |agg (row:List PV)
 |bO (xs:List PV)
abbrev aA:=List (Nat×Nat)
abbrev Lo:=Option (Nat×aA)
def cO(l:Nat×aA)(i j:Nat):Nat×aA:=(l.1,l.2++[(i,j)])
def Lo.ch(l:Lo)(i j:Nat):Lo:=l.map λx=>cO x i j
structure Env where
 H:AH
 G:Nat->Prop
 ow:Nat->Option (Nat×aA)
def km:Nat:=4611686018427387904
inductive PR (E:Env):Lo->PV->Value->Prop where
 |au {l:Lo}(v:Value):PR E l .au v
 |bool {l:Lo}(b:Bool):PR E l (.bool b) (.bool b)
 |int {l:Lo}(k:IntKind) (n:Int):PR E l (.int k n) (.int k n)
 |str {l:Lo}(s:ByteArray):PR E l (.str s) (.string s)
 |fZ {l:Lo}:PR E l .fZ (.pointer ae)
 |fB {l:Lo}:PR E l .fB .nilFunc
 |gG {l:Lo}:PR E l .gG .nilIface
 |sl0 {l:Lo}(o:Bool) (es:Nat):PR E l (.sl o es []) (.slice ae 0 0)
 |jF {l:Lo}{id off es n c:Nat}{k:mi}{rows:List (List PV)}(hG:E.G id) (hb:E.H.b id=J k) (hn:rows.length=n) (hc:n<=c) (hm:n<=km)
  (hr:∀r,r∈rows->r.length=es) (hl:es≠0/\off+n*es<=k.cells.length)
  (h:∀(i:Nat) (r:List PV) (j:Nat) (x:PV) (y:Value),rows[i]? =J r->r[j]? =J x->k.cells[off+i*es+j]? =J y->PR E ae x y):
  PR E l (.sl aa es rows) (.slice (J ⟨id,off,J es⟩) n c)
 |fk {l:Nat×aA}{id off es n c:Nat}{k:mi}{rows:List (List PV)}(how:E.ow id=J l) (hG:¬E.G id) (hb:E.H.b id=J k) (bc:k.rw=Z) (hn:rows.length=n) (hc:n<=c) (hm:n<=km)
  (hr:∀r,r∈rows->r.length=es) (hl:(es≠0/\off=0)/\off+c*es<=k.cells.length)
  (h:∀(i:Nat) (r:List PV) (j:Nat) (x:PV) (y:Value),rows[i]? =J r->r[j]? =J x->k.cells[off+i*es+j]? =J y->PR E (J (cO l i j)) x y):
  PR E (J l) (.sl Z es rows) (.slice (J ⟨id,off,J es⟩) n c)
 |fp {l:Lo}{id off:Nat}{k:mi}{row:List PV}(hG:E.G id) (hb:E.H.b id=J k) (hl:off+row.length<=k.cells.length)
  (h:∀(j:Nat) (x:PV) (y:Value),row[j]? =J x->k.cells[off+j]? =J y->PR E ae x y):PR E l (.fp row) (.pointer (J ⟨id,off,ae⟩))
 |bx {l:Nat×aA}{id:Nat}{k:mi}{row:List PV}(how:E.ow id=J l) (hG:¬E.G id) (hb:E.H.b id=J k) (bc:k.rw=Z) (hl:row.length<=k.cells.length)
  (h:∀(j:Nat) (x:PV) (y:Value),row[j]? =J x->k.cells[j]? =J y->PR E (J (cO l 0 j)) x y):PR E (J l) (.bx row) (.pointer (J ⟨id,0,ae⟩))
 |func {l:Lo}(fn:Fn) {xs us:List PV}{ys vs:Array Value}(hl:xs.length=ys.toList.length) (kl:us.length=vs.toList.length)
  (h:∀(i:Nat) (x:PV) (y:Value),xs[i]? =J x->ys.toList[i]? =J y->PR E ae x y)
  (k:∀(i:Nat) (x:PV) (y:Value),us[i]? =J x->vs.toList[i]? =J y->PR E ae x y):PR E l (.func fn xs us) (.func fn ys vs)
 |agg {l:Lo}{row:List PV}{ys:Array Value}(hl:row.length=ys.toList.length)
  (h:∀(j:Nat) (x:PV) (y:Value),row[j]? =J x->ys.toList[j]? =J y->PR E (l.ch 0 j) x y):PR E l (.agg row) (.agg ys)
 |bO {l:Lo}{xs:List PV}{ys:Array Value}(hl:xs.length=ys.toList.length) (h0:xs≠[])
  (h:∀(j:Nat) (x:PV) (y:Value),xs[j]? =J x->ys.toList[j]? =J y->PR E (l.ch 0 j) x y):PR E l (.bO xs) (.tuple ys)
def bK:PV->Bool
 | .sl o _ _=>o
 | .bx _=>Z
 | .agg row=>row.attach.any λ⟨x,_⟩=>bK x
 | .bO xs=>xs.attach.any λ⟨x,_⟩=>bK x
 |_=>aa
def drop:PV->PV
 | .sl _ es rows=>.sl aa es (rows.attach.map λ⟨r,_⟩=>r.attach.map λ⟨x,_⟩=>drop x)
 | .bx row=>.fp (row.attach.map λ⟨x,_⟩=>drop x)
 | .agg row=>.agg (row.attach.map λ⟨x,_⟩=>drop x)
 | .bO xs=>.bO (xs.attach.map λ⟨x,_⟩=>drop x)
 |x=>x
decreasing_by
 all_goals simp_wf
 all_goals
  first
   |(have h1:=Kz ‹_∈_›;omega)
   |(have h1:=Kz ‹x∈r›;have h2:=Kz ‹r∈rows›;omega)
def GK(E E':Env):Prop:=∀id,E.G id->E'.G id/\∀k,E.H.b id=J k->∃k',E'.H.b id=J k'/\k'=k
structure fU (E E':Env):Prop where
 n:E.H.n<=E'.H.n
 g:GK E E'
 own:∀id,id<E.H.n->E.ow id=ae->E'.ow id=ae/\E'.H.b id=E.H.b id/\(E'.G id->E.G id)
variable{E E':Env}{l:Lo}{row:List PV}{v:Value}{x:PV}
def GK.refl(E:Env):GK E E:=λ_ h=>⟨h,λk hk=>⟨k,hk,rfl⟩⟩
def GK.trans{a b c:Env}(h:GK a b)(h':GK b c):GK a c:=λid hG=>
 ⟨(h' id (h id hG).1).1,λk hk=>by
   obtain⟨k1,h1,e1⟩:=(h id hG).2 k hk;obtain⟨k2,h2,e2⟩:=(h' id (h id hG).1).2 k1 h1
   exact⟨k2,h2,e2.trans e1⟩⟩
def fU.refl(E:Env):fU E E:=⟨cy _,GK.refl E,λ_ _ h=>⟨h,rfl,λh=>h⟩⟩
def fU.trans{a b c:Env}(h:fU a b)(h':fU b c):fU a c:=⟨gj h.n h'.n,h.g.trans h'.g,λid h1 h2=>by
 obtain⟨a1,a2,a3⟩:=h.own id h1 h2;obtain⟨b1,b2,b3⟩:=h'.own id (AY h1 h.n) a1
 exact⟨b1,b2.trans a2,λhg=>a3 (b3 hg)⟩⟩
def du(E E':Env):Lo->Lo->Prop
 |none,_=>True
 |some a,J b=>∀id r,E.ow id=J (a.1,a.2++r)->¬E.G id->E'.ow id=J (b.1,b.2++r)/\¬E'.G id/\E'.H.b id=E.H.b id
 |some a,ae=>∀id r,E.ow id=J (a.1,a.2++r)->E.G id
def du.ch{l':Lo}(h:du E E' l l')(i j:Nat):du E E' (l.ch i j) (l'.ch i j):=by
 cases l with
 |none=>cases l'<;>exact True.intro
 |some a=>
  cases l' with
  |none=>
   intro id r h1;have h:∀id r,E.ow id=J (a.1,a.2++r)->E.G id:=h;simp only[cO]at h1;rw[gU]at h1;exact h id _ h1
  |some b=>
   intro id r h1 h2;have h:∀id r,E.ow id=J (a.1,a.2++r)->¬E.G id->E'.ow id=J (b.1,b.2++r)/\¬E'.G id/\E'.H.b id=E.H.b id:=h;simp only[cO]at h1⊢;rw[gU]at h1;have:=h id _ h1 h2;rw[gU];exact this
def PR.move(hg:GK E E')(h:PR E l x v):∀{l':Lo},du E E' l l'->PR E' l' x v:=by
 induction h with
 |au v=>intro l' _;exact .au v
 |bool b=>intro l' _;exact .bool b
 |int k n=>intro l' _;exact .int k n
 |str s=>intro l' _;exact .str s
 |fZ=>intro l' _;exact .fZ
 |fB=>intro l' _;exact .fB
 |gG=>intro l' _;exact .gG
 |sl0 o es=>intro l' _;exact .sl0 o es
 |jF hG hb hn hc hm hr hl h ih=>
  intro l' _;obtain⟨rb,hk⟩:=hg _ hG;obtain⟨k',gD,e⟩:=hk _ hb;exact .jF rb gD hn hc hm hr (by rw[e];exact hl) λi r j x y h1 h2 h3=>ih i r j x y h1 h2 (by rw[<-e];exact h3) True.intro
 |fk how hG hb bc hn hc hm hr hl h ih=>
  intro l' jn;rename_i l _ _ _ _ _ _ _;cases l' with
  |none=>exact absurd (jn _ [] (by simpa using how)) hG
  |some b=>
   have qn:∀id r,E.ow id=J (l.1,l.2++r)->¬E.G id->E'.ow id=J (b.1,b.2++r)/\¬E'.G id/\E'.H.b id=E.H.b id:=jn;obtain⟨h1,h2,h3⟩:=qn _ [] (by simpa using how) hG;rw[<-h3]at hb;exact .fk (by simpa using h1) h2 hb bc hn hc hm hr hl λi r j x y a1 a2 a3=>ih i r j x y a1 a2 a3 (du.ch (l:=J l) (l':=J b) jn i j)
 |fp hG hb hl h ih=>
  intro l' _;obtain⟨rb,hk⟩:=hg _ hG;obtain⟨k',gD,e⟩:=hk _ hb;exact .fp rb gD (by rw[e];exact hl) λj x y h2 h3=>ih j x y h2 (by rw[<-e];exact h3) True.intro
 |bx how hG hb bc hl h ih=>
  intro l' jn;rename_i l _ _ _;cases l' with
  |none=>exact absurd (jn _ [] (by simpa using how)) hG
  |some b=>
   have qn:∀id r,E.ow id=J (l.1,l.2++r)->¬E.G id->E'.ow id=J (b.1,b.2++r)/\¬E'.G id/\E'.H.b id=E.H.b id:=jn;obtain⟨h1,h2,h3⟩:=qn _ [] (by simpa using how) hG;rw[<-h3]at hb;exact .bx (by simpa using h1) h2 hb bc hl λj x y a1 a2=>ih j x y a1 a2 (du.ch (l:=J l) (l':=J b) jn 0 j)
 |func fn hl kl h k ih ik=>intro l' _;exact .func fn hl kl (λi x y a b=>ih i x y a b True.intro) (λi x y a b=>ik i x y a b True.intro)
 |agg hl h ih=>intro l' jn;exact .agg hl λj x y a b=>ih j x y a b (jn.ch 0 j)
 |bO hl h0 h ih=>intro l' jn;exact .bO hl h0 λj x y a b=>ih j x y a b (jn.ch 0 j)
def PR.up(h:PR E ae x v):PR E l x v:=h.move (GK.refl E) True.intro
def PR.mono(hg:GK E E')(h:PR E ae x v):PR E' l x v:=h.move hg True.intro
def zkK{o:Bool}{es:Nat}{rows:List (List PV)}:bK (.sl o es rows)=o:=by simp[bK]
def zvf :bK (.bx row)=Z:=by simp[bK]
def ziJ :bK (.agg row)=row.any bK:=by simp[bK]
def zt2 :bK (.bO row)=row.any bK:=by simp[bK]
def PR.free(h:PR E l x v):bK x=aa->PR E ae x v:=by
 induction h with
 |au v=>intro _;exact .au v
 |bool b=>intro _;exact .bool b
 |int k n=>intro _;exact .int k n
 |str s=>intro _;exact .str s
 |fZ=>intro _;exact .fZ
 |fB=>intro _;exact .fB
 |gG=>intro _;exact .gG
 |sl0 o es=>intro _;exact .sl0 o es
 |jF hG hb hn hc hm hr hl h ih=>intro _;exact .jF hG hb hn hc hm hr hl h
 |fk how hG hb bc hn hc hm hr hl h ih=>intro h;simp[zkK]at h
 |fp hG hb hl h ih=>intro _;exact .fp hG hb hl h
 |bx how hG hb bc hl h ih=>intro h;simp[zvf]at h
 |func fn hl kl h k ih ik=>intro _;exact .func fn hl kl h k
 |agg hl h ih=>
  intro ho;rw[ziJ,KA]at ho;exact .agg hl λj x y a b=>ih j x y a b (by simpa using ho x (eo a))
 |bO hl h0 h ih=>
  intro ho;rw[zt2,KA]at ho;exact .bO hl h0 λj x y a b=>ih j x y a b (by simpa using ho x (eo a))
def zjE{o:Bool}{es:Nat}{rows:List (List PV)}:drop (.sl o es rows)=.sl aa es (rows.map (·.map drop)):=by simp[drop]
def zqL :drop (.bx row)=.fp (row.map drop):=by simp[drop]
def zoZ :drop (.agg row)=.agg (row.map drop):=by simp[drop]
def ztG :drop (.bO row)=.bO (row.map drop):=by simp[drop]
def yv(E E':Env):Lo->Prop
 |none=>True
 |some a=>∀id r,E.ow id=J (a.1,a.2++r)->¬E.G id->E'.G id/\∀k,E.H.b id=J k->∃k',E'.H.b id=J k'/\k'.cells=k.cells
def yv.ch(h:yv E E' l)(i j:Nat):yv E E' (l.ch i j):=by
 cases l with
 |none=>exact True.intro
 |some a=>
  intro id r h1 h2;have h:∀id r,E.ow id=J (a.1,a.2++r)->¬E.G id->E'.G id/\∀k,E.H.b id=J k->∃k',E'.H.b id=J k'/\k'.cells=k.cells:=h;simp only[cO]at h1;rw[gU]at h1;exact h id _ h1 h2
def mc{α β:Type}{f:α->β}{l:List α}{i:Nat}{y:β}(h:(l.map f)[i]? =J y):∃x,l[i]? =J x/\f x=y:=by
 rw[Db,bN]at h;exact h
def PR.freeze(hg:GK E E')(h:PR E l x v):yv E E' l->PR E' ae (drop x) v:=by
 induction h with
 |au v=>intro _;simp only[drop];exact .au v
 |bool b=>intro _;simp only[drop];exact .bool b
 |int k n=>intro _;simp only[drop];exact .int k n
 |str s=>intro _;simp only[drop];exact .str s
 |fZ=>intro _;simp only[drop];exact .fZ
 |fB=>intro _;simp only[drop];exact .fB
 |gG=>intro _;simp only[drop];exact .gG
 |sl0 o es=>intro _;rw[zjE];exact .sl0 aa es
 |jF hG hb hn hc hm hr hl h ih=>
  intro _;rw[zjE];obtain⟨rb,hk⟩:=hg _ hG;obtain⟨k',gD,e⟩:=hk _ hb;refine .jF rb gD (by simpa using hn) hc hm (λr gX=>?_) (by rw[e];exact hl) λi r j x y h1 h2 h3=>?_
  ·obtain⟨r0,h0,rfl⟩:=jE.1 gX;simpa using hr r0 h0
  ·obtain⟨r0,h0,rfl⟩:=mc h1;obtain⟨x0,dy,rfl⟩:=mc h2;exact ih i r0 j x0 y h0 dy (by rw[<-e];exact h3) True.intro
 |fk how hG hb bc hn hc hm hr hl h ih=>
  intro hf;rename_i l _ _ _ _ _ _ _;rw[zjE];have pT:∀id r,E.ow id=J (l.1,l.2++r)->¬E.G id->E'.G id/\∀k,E.H.b id=J k->∃k',E'.H.b id=J k'/\k'.cells=k.cells:=hf;obtain⟨rb,hk⟩:=pT _ [] (by simpa using how) hG;obtain⟨k',gD,e⟩:=hk _ hb;refine .jF rb gD (by simpa using hn) hc hm (λr gX=>?_) ⟨hl.1.1,?_⟩ λi r j x y h1 h2 h3=>?_
  ·obtain⟨r0,h0,rfl⟩:=jE.1 gX;simpa using hr r0 h0
  ·rw[e];refine gj (Nat.add_le_add_left (gA _ ?_) _) hl.2;exact hc
  ·obtain⟨r0,h0,rfl⟩:=mc h1;obtain⟨x0,dy,rfl⟩:=mc h2;exact ih i r0 j x0 y h0 dy (by rw[<-e];exact h3) (yv.ch (l:=J l) hf i j)
 |fp hG hb hl h ih=>
  intro _;simp only[drop];obtain⟨rb,hk⟩:=hg _ hG;obtain⟨k',gD,e⟩:=hk _ hb;exact .fp rb gD (by rw[e];exact hl) λj x y h1 h3=>(h j x y h1 (by rw[<-e];exact h3)).mono hg
 |bx how hG hb bc hl h ih=>
  intro hf;rename_i l _ _ _;rw[zqL];have pT:∀id r,E.ow id=J (l.1,l.2++r)->¬E.G id->E'.G id/\∀k,E.H.b id=J k->∃k',E'.H.b id=J k'/\k'.cells=k.cells:=hf;obtain⟨rb,hk⟩:=pT _ [] (by simpa using how) hG;obtain⟨k',gD,e⟩:=hk _ hb;refine .fp rb gD (by rw[e];simpa using hl) λj x y h2 h3=>?_
  obtain⟨x0,dy,rfl⟩:=mc h2;rw[gk]at h3;exact ih j x0 y dy (by rw[<-e];exact h3) (yv.ch (l:=J l) hf 0 j)
 |func fn hl kl h k ih ik=>intro _;simp only[drop];exact .func fn hl kl (λi x y a b=>(h i x y a b).mono hg) (λi x y a b=>(k i x y a b).mono hg)
 |agg hl h ih=>
  intro hf;rw[zoZ];refine .agg (by simpa using hl) λj x y a b=>?_
  obtain⟨x0,dy,rfl⟩:=mc a;exact ih j x0 y dy b (hf.ch 0 j)
 |bO hl h0 h ih=>
  intro hf;rw[ztG];refine .bO (by simpa using hl) (by simpa using h0) λj x y a b=>?_
  obtain⟨x0,dy,rfl⟩:=mc a;exact ih j x0 y dy b (hf.ch 0 j)
end Go.Pm
