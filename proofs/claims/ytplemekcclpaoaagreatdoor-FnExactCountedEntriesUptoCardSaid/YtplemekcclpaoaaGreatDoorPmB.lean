import Derived.Test.YtplemekcclpaoaaGreatDoorPmA
namespace Go.Pm
open Go.Am
def zdd:PV→Nat×Nat→Option PV
 | .sl true _ rows,a=>(rows[a.1]?).bind (·[a.2]?)
 | .bx row,a=>if a.1=0 then row[a.2]? else none
 |_,_=>none
def zeN:PV→zad→Option PV
 |x,[]=>some x
 |x,a::p=>(zdd x a).bind (zeN · p)
def znD:PV→Nat×Nat→PV→PV
 | .sl true es rows,a,y=>.sl true es (rows.set a.1 ((rows.getD a.1 []).set a.2 y))
 | .bx row,a,y=>.bx (row.set a.2 y)
 |x,_,_=>x
def zfd:PV→zad→(PV→Option PV)→Option PV
 |x,[],f=>f x
 |x,a::p,f=>(zdd x a).bind fun y=>(zfd y p f).map (znD x a)
def zfB:List PV→Nat→List PV→Option (List PV)
 |cs,_,[]=>some cs
 |[],_,_::_=>none
 |c::cs,n+1,xs=>(zfB cs n xs).map (c:: ·)
 |_::cs,0,x::xs=>(zfB cs 0 xs).map (x:: ·)
def zeL(i j:Nat)(xs:List PV):PV→Option PV
 | .sl true es rows=>(rows[i]?).bind fun r=>(zfB r j xs).map fun r'=>.sl true es (rows.set i r')
 | .bx row=>if i=0 then(zfB row j xs).map .bx else none
 |_=>none
def zfR(i:Nat):PV→Option (List PV)
 | .sl true _ rows=>rows[i]?
 | .bx row=>if i=0 then some row else none
 |_=>none
variable{E:Env}{a:Nat×Nat}{i j o:Nat}{p:zad}
theorem zfO:∀{cs xs:List PV}{n:Nat}{r:List PV},zfB cs n xs=some r→r.length=cs.length∧(xs≠[]→n+xs.length≤cs.length)∧
 ∀j,r[j]? =if n≤j∧j<n+xs.length then xs[j-n]? else cs[j]? :=by
 intro cs;induction cs with
 |nil=>
  intro xs n r h;cases xs with
  |nil=>simp[zfB]at h;subst h;exact⟨rfl,fun h=>absurd rfl h,fun j=>by rw[if_neg (by intro h;simp at h;omega)]⟩
  |cons x xs=>simp[zfB]at h
 |cons c cs ih=>
  intro xs n r h;cases xs with
  |nil=>simp[zfB]at h;subst h;exact⟨rfl,fun h=>absurd rfl h,fun j=>by rw[if_neg (by intro h;simp at h;omega)]⟩
  |cons x xs=>
   cases n with
   |zero=>
    simp only[zfB,Option.map_eq_some_iff]at h;obtain⟨r',h1,rfl⟩:=h;obtain⟨h2,h3,h4⟩:=ih h1;refine⟨by simp[h2],fun _=>?_,fun j=>?_⟩
    ·by_cases e:xs=[]
     ·subst e;simp
     ·have:=h3 e;simp at this⊢;omega
    ·cases j with
     |zero=>simp
     |succ j=>
      simp only[List.getElem?_cons_succ,h4 j];by_cases hj:j<xs.length
      ·rw[if_pos ⟨Nat.zero_le _,by omega⟩,if_pos ⟨Nat.zero_le _,by simp;omega⟩];simp
      ·rw[if_neg (by omega),if_neg (by simp;omega)]
   |succ n=>
    simp only[zfB,Option.map_eq_some_iff]at h;obtain⟨r',h1,rfl⟩:=h;obtain⟨h2,h3,h4⟩:=ih h1;refine⟨by simp[h2],fun _=>?_,fun j=>?_⟩
    ·have:=h3 (by simp);simp at this⊢;omega
    ·cases j with
     |zero=>rw[if_neg (by omega)];simp
     |succ j=>
      simp only[List.getElem?_cons_succ,h4 j];by_cases hj:n≤j∧j<n+(x::xs).length
      ·rw[if_pos hj,if_pos (by omega)];congr 1;omega
      ·rw[if_neg hj,if_neg (by omega)]
inductive Hd (E:Env) (l:Nat×zad):Value→Nat→Nat→Nat→Prop where
 |sl {id off es n c:Nat}(how:E.ow id=some l) (hG:¬E.G id) {i j:Nat}(hi:i<n):Hd E l (.slice (some ⟨id,off,some es⟩) n c) i id (off+i*es)
 |bx {id:Nat}(how:E.ow id=some l) (hG:¬E.G id):Hd E l (.pointer (some ⟨id,0,none⟩)) 0 id 0
def Wv(E:Env):Nat×zad→Value→zad→Value→Prop
 |_,v,[],v0=>v0=v
 |l,v,(i,j)::p,v0=>∃id o k y,Hd E l v i id o∧(∀es,(∃off n c,v=.slice (some ⟨id,off,some es⟩) n c)→j<es)∧E.H.b id=some k∧k.cells[o+j]? =some y∧Wv E (chl l i j) y p v0
theorem Hd.same{l:Nat×zad}{v:Value}{id id' o':Nat}(h:Hd E l v i id o)(h':Hd E l v i id' o'):id=id'∧o=o':=by
 cases h<;>cases h'<;>exact⟨rfl,rfl⟩
theorem Wv.same :∀{p:zad}{l:Nat×zad}{v a b:Value},Wv E l v p a→Wv E l v p b→a=b:=by
 intro p;induction p with
 |nil=>intro l v a b h h';exact h.trans h'.symm
 |cons s p ih=>
  obtain⟨i,j⟩:=s;intro l v a b h h';obtain⟨id,o,k,y,h1,h2,h3,h4,h5⟩:=h;obtain⟨id',o',k',y',h1',h2',h3',h4',h5'⟩:=h';obtain⟨rfl,rfl⟩:=h1.same h1';rw[h3]at h3';cases h3';rw[h4]at h4';cases h4';exact ih h5 h5'
theorem zgW(l:Nat×zad)(i j:Nat)(r:zad):((chl l i j).1,(chl l i j).2++r)=(l.1,l.2++(i,j)::r):=by simp[chl]
theorem zji(l:Nat×zad):(l.1,l.2++[])=l:=by simp
theorem PR.get :∀{p:zad}{l:Nat×zad}{x x0:PV}{v:Value},PR E (some l) x v→zeN x p=some x0→∃v0,Wv E l v p v0∧PR E (some (l.1,l.2++p)) x0 v0:=by
 intro p;induction p with
 |nil=>intro l x x0 v h hg;simp only[zeN,Option.some.injEq]at hg;subst hg;exact⟨v,rfl,by rw[zji];exact h⟩
 |cons s p ih=>
  obtain⟨i,j⟩:=s;intro l x x0 v h hg;simp only[zeN,Option.bind_eq_some_iff]at hg;obtain⟨y,h1,h2⟩:=hg;cases h with
  |slO how hG hb hrw hn hc hm hr hl hh=>
   simp only[zdd,Option.bind_eq_some_iff]at h1;obtain⟨r,a1,a2⟩:=h1;rename_i id off es n c k rows;have hi:i<n:=by have:=(List.getElem?_eq_some_iff.1 a1).1;omega
   have hj:j<es:=by have:=(List.getElem?_eq_some_iff.1 a2).1;have:=hr r (List.mem_of_getElem? a1);omega
   have hlt:off+i*es+j<k.cells.length:=by
    have h1:(i+1)*es≤c*es:=Nat.mul_le_mul_right _ (by omega);rw[Nat.succ_mul]at h1;omega
   obtain⟨v0,w1,w2⟩:=ih (hh i r j y _ a1 a2 (List.getElem?_eq_getElem hlt)) h2;rw[zgW]at w2;refine⟨v0,⟨id,off+i*es,k,_,.sl (j:=j) how hG hi,?_,hb,List.getElem?_eq_getElem hlt,w1⟩,w2⟩;rintro es' ⟨_,_,_,e⟩;cases e;exact hj
  |bx how hG hb hrw hl hh=>
   simp only[zdd]at h1;split at h1
   ·rename_i e;have e:i=0:=e;subst e;have hj:j<_:=Nat.lt_of_lt_of_le (List.getElem?_eq_some_iff.1 h1).1 hl;obtain⟨v0,w1,w2⟩:=ih (hh j y _ h1 (List.getElem?_eq_getElem hj)) h2;rw[zgW]at w2;refine⟨v0,⟨_,0,_,_,.bx how hG,?_,hb,by rw[Nat.zero_add];exact List.getElem?_eq_getElem hj,w1⟩,w2⟩;rintro es' ⟨_,_,_,e⟩;cases e
   ·cases h1
  |sl0 o es=>
   cases o<;>simp[zdd]at h1
  |_=>simp[zdd]at h1
def Off(p:zad)(i j m:Nat)(r:zad):Prop:=∀j' r',r=p++(i,j')::r'→¬(j≤j'∧j'<j+m)
theorem Off.tail{m:Nat}{r:zad}(h:Off p i j m r):Off (a::p) i j m (a::r):=fun j' r' e=>h j' r' (by simpa using e)
theorem zp3{b:Nat×Nat}(h:a≠b){m:Nat}{r:zad}:Off (a::p) i j m (b::r):=fun j' r' e=>by
 simp only[List.cons_append,List.cons.injEq]at e;exact absurd e.1.symm h
structure Chg (E E':Env) (l:Nat×zad) (p:zad) (i j:Nat) (xs:List PV) (id0 o:Nat):Prop where
 g:GK E E'
 keep:∀id r,E.ow id=some (l.1,l.2++r)→¬E.G id→Off p i j xs.length r→E'.ow id=some (l.1,l.2++r)∧¬E'.G id∧(id≠id0→E'.H.b id=E.H.b id)
 blk:∀k,E.H.b id0=some k→∃k',E'.H.b id0=some k'∧k'.rw=k.rw∧k'.cells.length=k.cells.length∧(∀q,¬(o+j≤q∧q<o+j+xs.length)→k'.cells[q]? =k.cells[q]?)∧
  ∀t x y,xs[t]? =some x→k'.cells[o+j+t]? =some y→PR E' (some (l.1,l.2++p++[(i,j+t)])) x y
theorem Chg.ch{E':Env}{l:Nat×zad}{xs:List PV}{id0:Nat}(h:Chg E E' l (a::p) i j xs id0 o):Chg E E' (chl l a.1 a.2) p i j xs id0 o:=by
 refine⟨h.g,fun id r h1 h2 h3=>?_,fun k hk=>?_⟩
 ·rw[zgW]at h1⊢;exact h.keep id _ h1 h2 h3.tail
 ·obtain⟨k',h1,h2,h3,h4,h5⟩:=h.blk k hk;refine⟨k',h1,h2,h3,h4,fun t x y a1 a2=>?_⟩;have:=h5 t x y a1 a2;simpa[chl]using this
theorem PR.upd{E':Env}{id0:Nat}{xs:List PV}:∀{p:zad}{l:Nat×zad}{x x':PV}{v v0:Value},PR E (some l) x v→zfd x p (zeL i j xs)=some x'→Wv E l v p v0→
 Hd E (l.1,l.2++p) v0 i id0 o→Chg E E' l p i j xs id0 o→PR E' (some l) x' v:=by
 intro p;induction p with
 |nil=>
  intro l x x' v v0 h hm hw hd hc;have hw:v0=v:=hw;subst hw;rw[zji]at hd;simp only[zfd]at hm
  have stay:∀(i' j':Nat) (z:PV) (y:Value),PR E (some (chl l i' j')) z y→¬(i'=i∧j≤j'∧j'<j+xs.length)→(∀id,E.ow id=some (chl l i' j')∨True→True)→id0=id0→
   (∀id r,E.ow id=some ((chl l i' j').1,(chl l i' j').2++r)→¬E.G id→id≠id0)→PR E' (some (chl l i' j')) z y:=by
   intro i' j' z y hz hn _ _ hne;refine hz.move hc.g fun id r h1 h2=>?_
   have hid:=hne id r h1 h2;rw[zgW]at h1⊢
   have:=hc.keep id _ h1 h2 (by
    intro j2 r' e ⟨e1,e2⟩;simp only[List.nil_append,List.cons.injEq,Prod.mk.injEq]at e;obtain⟨⟨rfl,rfl⟩,_⟩:=e
    exact hn ⟨rfl,e1,e2⟩)
   exact⟨this.1,this.2.1,this.2.2 hid⟩
  have ne0:E.ow id0=some l→∀(i' j':Nat) id r,E.ow id=some ((chl l i' j').1,(chl l i' j').2++r)→¬E.G id→id≠id0:=by
   intro h0 i' j' id r h1 _ e;subst e;rw[h0]at h1;have:=congrArg (fun z=>(z.getD l).2.length) h1;simp[chl]at this
  cases h with
  |slO how hG hb hrw hn hcap hmx hr hl hh=>
   simp only[zeL,Option.bind_eq_some_iff,Option.map_eq_some_iff]at hm;obtain⟨r0,hr0,r1,hp,rfl⟩:=hm;rename_i id off es n c k rows;cases hd with
   |sl how2 hG2 hi=>
   obtain⟨a1,a2,a3⟩:=zfO hp;obtain⟨k',b1,b2,b3,b4,b5⟩:=hc.blk _ hb;have hr0l:=hr r0 (List.mem_of_getElem? hr0);have kk:=hc.keep _ [] (by simpa using how) hG (by intro j' r' e;simp at e);refine .slO (by simpa using kk.1) kk.2.1 b1 (by rw[b2];exact hrw) (by simpa using hn) hcap hmx (fun r hr'=>?_) (by rw[b3];exact hl) fun i' r j' z y g1 g2 g3=>?_
   ·rcases List.mem_or_eq_of_mem_set hr' with h|rfl
    ·exact hr r h
    ·rw[a1];exact hr0l
   ·rw[List.getElem?_set]at g1;have hlen:(i':Nat)*es+j'=i'*es+j':=rfl;by_cases e:i=i'
    ·subst e;rw[if_pos rfl]at g1;split at g1
     ·cases g1;rw[a3 j']at g2;split at g2
      ·rename_i hin;have:=b5 (j'-j) z y g2 (by rw[show off+i*es+j+(j'-j)=off+i*es+j' by omega];exact g3);rw[show j+(j'-j)=j' by omega]at this;simpa[chl]using this
      ·rename_i hin;rw[b4 _ (by omega)]at g3;exact stay i j' z y (hh i r0 j' z y hr0 g2 g3) (by omega) (fun _ _=>True.intro) rfl (ne0 how i j')
     ·cases g1
    ·rw[if_neg e]at g1;have hrl:=hr r (List.mem_of_getElem? g1);have hj':j'<es:=by have:=(List.getElem?_eq_some_iff.1 g2).1;omega
     have hjx:xs≠[]→j+xs.length≤es:=fun hx=>by have:=a2 hx;omega
     rw[b4 _ (by
      rintro⟨q1,q2⟩;have hx:xs≠[]:=by intro h;subst h;simp at q2;omega
      have:=hjx hx;rcases Nat.lt_or_gt_of_ne e with h|h
      ·have:(i+1)*es≤i'*es:=Nat.mul_le_mul_right _ h;rw[Nat.succ_mul]at this;omega
      ·have:(i'+1)*es≤i*es:=Nat.mul_le_mul_right _ h
       rw[Nat.succ_mul]at this;omega)]at g3
     exact stay i' j' z y (hh i' r j' z y g1 g2 g3) (fun h=>e h.1.symm) (fun _ _=>True.intro) rfl (ne0 how i' j')
  |bx how hG hb hrw hl hh=>
   simp only[zeL]at hm;split at hm
   ·rename_i hi0;subst hi0;simp only[Option.map_eq_some_iff]at hm;obtain⟨r1,hp,rfl⟩:=hm;cases hd with
    |bx how2 hG2=>
    obtain⟨a1,a2,a3⟩:=zfO hp;obtain⟨k',b1,b2,b3,b4,b5⟩:=hc.blk _ hb;have kk:=hc.keep _ [] (by simpa using how) hG (by intro j' r' e;simp at e);refine .bx (by simpa using kk.1) kk.2.1 b1 (by rw[b2];exact hrw) (by rw[a1,b3];exact hl) fun j' z y g2 g3=>?_
    rw[a3 j']at g2;split at g2
    ·rename_i hin;have:=b5 (j'-j) z y g2 (by rw[show 0+j+(j'-j)=j' by omega];exact g3);rw[show j+(j'-j)=j' by omega]at this;simpa[chl]using this
    ·rename_i hin;rw[b4 _ (by omega)]at g3;exact stay 0 j' z y (hh j' z y g2 g3) (by omega) (fun _ _=>True.intro) rfl (ne0 how 0 j')
   ·cases hm
  |sl0 ob es=>
   cases hd
  |_=>simp[zeL]at hm
 |cons s p ih=>
  obtain⟨i1,j1⟩:=s;intro l x x' v v0 h hm hw hd hc;simp only[zfd,Option.bind_eq_some_iff,Option.map_eq_some_iff]at hm;obtain⟨z0,hs,z1,hm,rfl⟩:=hm;obtain⟨idw,ow,kw,yw,w1,w2,w3,w4,w5⟩:=hw;have hd':Hd E ((chl l i1 j1).1,(chl l i1 j1).2++p) v0 i id0 o:=by rw[zgW];exact hd
  have how0:E.ow id0=some (l.1,l.2++(i1,j1)::p):=by cases hd<;>assumption
  have stay:∀(i' j':Nat) (z:PV) (y:Value),PR E (some (chl l i' j')) z y→(i',j')≠(i1,j1)→PR E' (some (chl l i' j')) z y:=by
   intro i' j' z y hz hne;refine hz.move hc.g fun id r h1 h2=>?_
   rw[zgW]at h1⊢;have:=hc.keep id _ h1 h2 (zp3 (fun e=>hne e.symm));refine⟨this.1,this.2.1,this.2.2 fun e=>?_⟩;subst e;rw[how0]at h1;simp only[Option.some.injEq,Prod.mk.injEq,List.append_cancel_left_eq,List.cons.injEq,true_and]at h1;exact hne (by rw[Prod.mk.injEq];exact⟨h1.1.1.symm,h1.1.2.symm⟩)
  have offnil:Off ((i1,j1)::p) i j xs.length []:=by intro j' r' e;simp at e
  have ne1:∀id,E.ow id=some l→id≠id0:=by
   intro id h e;subst e;rw[h]at how0;have:=congrArg (fun z=>(z.getD l).2.length) how0;simp at this
  cases h with
  |slO how hG hb hrw hn hcap hmx hr hl hh=>
   simp only[zdd,Option.bind_eq_some_iff]at hs;obtain⟨r0,hr0,hz0⟩:=hs;rename_i id off es n c k rows;cases w1 with
   |sl how2 hG2 hi=>
   rw[hb]at w3;cases w3;have kk:=hc.keep _ [] (by simpa using how) hG offnil;have hb':=(kk.2.2 (ne1 _ how)).trans hb;have hr0l:=hr r0 (List.mem_of_getElem? hr0);have hsub:=ih (hh i1 r0 j1 z0 yw hr0 hz0 w4) hm w5 hd' hc.ch;simp only[znD];have hget:rows.getD i1 []=r0:=by simp[List.getD,hr0]
   rw[hget];refine .slO (by simpa using kk.1) kk.2.1 hb' hrw (by simpa using hn) hcap hmx (fun r hr'=>?_) hl fun i' r j' z y g1 g2 g3=>?_
   ·rcases List.mem_or_eq_of_mem_set hr' with h|rfl
    ·exact hr r h
    ·simpa using hr0l
   ·rw[List.getElem?_set]at g1;by_cases e:i1=i'
    ·subst e;rw[if_pos rfl]at g1;split at g1
     ·cases g1;rw[List.getElem?_set]at g2;by_cases e2:j1=j'
      ·subst e2;rw[if_pos rfl]at g2;split at g2
       ·cases g2;rw[w4]at g3;cases g3;exact hsub
       ·cases g2
      ·rw[if_neg e2]at g2;exact stay i1 j' z y (hh i1 r0 j' z y hr0 g2 g3) (by simp;exact fun e=>e2 e.symm)
     ·cases g1
    ·rw[if_neg e]at g1;exact stay i' j' z y (hh i' r j' z y g1 g2 g3) (by simp;exact fun e'=>absurd e'.symm e)
  |bx how hG hb hrw hl hh=>
   simp only[zdd]at hs;split at hs
   ·rename_i hi0;have hi0:i1=0:=hi0;subst hi0;have hs:_=some z0:=hs;cases w1 with
    |bx how2 hG2=>
    rw[hb]at w3;cases w3;rw[Nat.zero_add]at w4;have kk:=hc.keep _ [] (by simpa using how) hG offnil;have hb':=(kk.2.2 (ne1 _ how)).trans hb;have hsub:=ih (hh j1 z0 yw hs w4) hm w5 hd' hc.ch;simp only[znD];refine .bx (by simpa using kk.1) kk.2.1 hb' hrw (by simpa using hl) fun j' z y g2 g3=>?_
    rw[List.getElem?_set]at g2;by_cases e2:j1=j'
    ·subst e2;rw[if_pos rfl]at g2;split at g2
     ·cases g2;rw[w4]at g3;cases g3;exact hsub
     ·cases g2
    ·rw[if_neg e2]at g2;exact stay 0 j' z y (hh j' z y g2 g3) (by simp;exact fun e=>e2 e.symm)
   ·cases hs
  |sl0 ob es=>cases ob<;>simp[zdd]at hs
  |_=>simp[zdd]at hs
end Go.Pm
