import Derived.Test.YtnojafnlicbhpaaGreatPmA
open Option renaming none→ae,some→J
open Bool renaming true→Z
set_option linter.defProp false
namespace Go.Pm
open Go.Am
def gn:=@congrArg
def jZ:=@Nat.succ_mul
def o6:=@true_and
def KB:=@Nat.zero_le
def Um:=@List.cons.injEq
def a0w:=@List.mem_or_eq_of_mem_set
def a2e:=@List.getElem?_cons_succ
def iv:PV->Nat×Nat->Option PV
 | .sl Z _ rows,a=>(rows[a.1]?).bind (·[a.2]?)
 | .bx row,a=>if a.1=0 then row[a.2]? else ae
 |_,_=>ae
def iB:PV->aA->Option PV
 |x,[]=>J x
 |x,a::p=>(iv x a).bind (iB · p)
def BX:PV->Nat×Nat->PV->PV
 | .sl Z es rows,a,y=>.sl Z es (rows.set a.1 ((rows.getD a.1 []).set a.2 y))
 | .bx row,a,y=>.bx (row.set a.2 y)
 |x,_,_=>x
def jx:PV->aA->(PV->Option PV)->Option PV
 |x,[],f=>f x
 |x,a::p,f=>(iv x a).bind λy=>(jx y p f).map (BX x a)
def jR:List PV->Nat->List PV->Option (List PV)
 |cs,_,[]=>J cs
 |[],_,_::_=>ae
 |c::cs,n+1,xs=>(jR cs n xs).map (c:: ·)
 |_::cs,0,x::xs=>(jR cs 0 xs).map (x:: ·)
def iL(i j:Nat)(xs:List PV):PV->Option PV
 | .sl Z es rows=>(rows[i]?).bind λr=>(jR r j xs).map λr'=>.sl Z es (rows.set i r')
 | .bx row=>if i=0 then(jR row j xs).map .bx else ae
 |_=>ae
def lF(i:Nat):PV->Option (List PV)
 | .sl Z _ rows=>rows[i]?
 | .bx row=>if i=0 then J row else ae
 |_=>ae
variable{E:Env}{a:Nat×Nat}{i j o:Nat}{p:aA}
def zK:∀{cs xs:List PV}{n:Nat}{r:List PV},jR cs n xs=J r->r.length=cs.length/\(xs≠[]->n+xs.length<=cs.length)/\
 ∀j,r[j]? =if n<=j/\j<n+xs.length then xs[j-n]? else cs[j]? :=by
 intro cs;induction cs with
 |nil=>
  intro xs n r h;cases xs with
  |nil=>simp[jR]at h;subst h;exact⟨rfl,λh=>absurd rfl h,λj=>by rw[az (by intro h;simp at h;omega)]⟩
  |cons x xs=>simp[jR]at h
 |cons c cs ih=>
  intro xs n r h;cases xs with
  |nil=>simp[jR]at h;subst h;exact⟨rfl,λh=>absurd rfl h,λj=>by rw[az (by intro h;simp at h;omega)]⟩
  |cons x xs=>
   cases n with
   |zero=>
    simp only[jR,bN]at h;obtain⟨r',h1,rfl⟩:=h;obtain⟨h2,h3,h4⟩:=ih h1;refine⟨by simp[h2],λ_=>?_,λj=>?_⟩
    ·by_cases e:xs=[]
     ·subst e;simp
     ·have:=h3 e;simp at this⊢;omega
    ·cases j with
     |zero=>simp
     |succ j=>
      simp only[a2e,h4 j];by_cases hj:j<xs.length
      ·rw[aB ⟨KB _,by omega⟩,aB ⟨KB _,by simp;omega⟩];simp
      ·rw[az (by omega),az (by simp;omega)]
   |succ n=>
    simp only[jR,bN]at h;obtain⟨r',h1,rfl⟩:=h;obtain⟨h2,h3,h4⟩:=ih h1;refine⟨by simp[h2],λ_=>?_,λj=>?_⟩
    ·have:=h3 (by simp);simp at this⊢;omega
    ·cases j with
     |zero=>rw[az (by omega)];simp
     |succ j=>
      simp only[a2e,h4 j];by_cases hj:n<=j/\j<n+(x::xs).length
      ·rw[aB hj,aB (by omega)];congr 1;omega
      ·rw[az hj,az (by omega)]
inductive Hd (E:Env) (l:Nat×aA):Value->Nat->Nat->Nat->Prop where
 |sl {id off es n c:Nat}(how:E.ow id=J l) (hG:¬E.G id) {i j:Nat}(hi:i<n):Hd E l (.slice (J ⟨id,off,J es⟩) n c) i id (off+i*es)
 |bx {id:Nat}(how:E.ow id=J l) (hG:¬E.G id):Hd E l (.pointer (J ⟨id,0,ae⟩)) 0 id 0
def Wv(E:Env):Nat×aA->Value->aA->Value->Prop
 |_,v,[],v0=>v0=v
 |l,v,(i,j)::p,v0=>∃id o k y,Hd E l v i id o/\(∀es,(∃off n c,v=.slice (J ⟨id,off,J es⟩) n c)->j<es)/\E.H.b id=J k/\k.cells[o+j]? =J y/\Wv E (cO l i j) y p v0
def Hd.same{l:Nat×aA}{v:Value}{id Cy o':Nat}(h:Hd E l v i id o)(h':Hd E l v i Cy o'):id=Cy/\o=o':=by
 cases h<;>cases h'<;>exact⟨rfl,rfl⟩
def Wv.same :∀{p:aA}{l:Nat×aA}{v a b:Value},Wv E l v p a->Wv E l v p b->a=b:=by
 intro p;induction p with
 |nil=>intro l v a b h h';exact h.trans h'.symm
 |cons s p ih=>
  obtain⟨i,j⟩:=s;intro l v a b h h';obtain⟨id,o,k,y,h1,h2,h3,h4,h5⟩:=h;obtain⟨Cy,o',k',y',jO,NI,Wq,WE,xP⟩:=h';obtain⟨rfl,rfl⟩:=h1.same jO;rw[h3]at Wq;cases Wq;rw[h4]at WE;cases WE;exact ih h5 xP
def xE(l:Nat×aA)(i j:Nat)(r:aA):((cO l i j).1,(cO l i j).2++r)=(l.1,l.2++(i,j)::r):=by simp[cO]
def Fq(l:Nat×aA):(l.1,l.2++[])=l:=by simp
def PR.get :∀{p:aA}{l:Nat×aA}{x x0:PV}{v:Value},PR E (J l) x v->iB x p=J x0->∃v0,Wv E l v p v0/\PR E (J (l.1,l.2++p)) x0 v0:=by
 intro p;induction p with
 |nil=>intro l x x0 v h hg;simp only[iB,aT]at hg;subst hg;exact⟨v,rfl,by rw[Fq];exact h⟩
 |cons s p ih=>
  obtain⟨i,j⟩:=s;intro l x x0 v h hg;simp only[iB,bR]at hg;obtain⟨y,h1,h2⟩:=hg;cases h with
  |fk how hG hb bc hn hc hm hr hl hh=>
   simp only[iv,bR]at h1;obtain⟨r,a1,a2⟩:=h1;rename_i id off es n c k rows;have hi:i<n:=by have:=(cT.1 a1).1;omega
   have hj:j<es:=by have:=(cT.1 a2).1;have:=hr r (eo a1);omega
   have hlt:off+i*es+j<k.cells.length:=by
    have h1:(i+1)*es<=c*es:=gA _ (by omega);rw[jZ]at h1;omega
   obtain⟨v0,w1,w2⟩:=ih (hh i r j y _ a1 a2 (cE hlt)) h2;rw[xE]at w2;refine⟨v0,⟨id,off+i*es,k,_,.sl (j:=j) how hG hi,?_,hb,cE hlt,w1⟩,w2⟩;rintro bw ⟨_,_,_,e⟩;cases e;exact hj
  |bx how hG hb bc hl hh=>
   simp only[iv]at h1;split at h1
   ·rename_i e;have e:i=0:=e;subst e;have hj:j<_:=AY (cT.1 h1).1 hl;obtain⟨v0,w1,w2⟩:=ih (hh j y _ h1 (cE hj)) h2;rw[xE]at w2;refine⟨v0,⟨_,0,_,_,.bx how hG,?_,hb,by rw[gk];exact cE hj,w1⟩,w2⟩;rintro bw ⟨_,_,_,e⟩;cases e
   ·cases h1
  |sl0 o es=>
   cases o<;>simp[iv]at h1
  |_=>simp[iv]at h1
def tu(p:aA)(i j m:Nat)(r:aA):Prop:=∀j' r',r=p++(i,j')::r'->¬(j<=j'/\j'<j+m)
def tu.tail{m:Nat}{r:aA}(h:tu p i j m r):tu (a::p) i j m (a::r):=λj' r' e=>h j' r' (by simpa using e)
def zrn{b:Nat×Nat}(h:a≠b){m:Nat}{r:aA}:tu (a::p) i j m (b::r):=λj' r' e=>by
 simp only[t5,Um]at e;exact absurd e.1.symm h
structure J0 (E E':Env) (l:Nat×aA) (p:aA) (i j:Nat) (xs:List PV) (dM o:Nat):Prop where
 g:GK E E'
 dZ:∀id r,E.ow id=J (l.1,l.2++r)->¬E.G id->tu p i j xs.length r->E'.ow id=J (l.1,l.2++r)/\¬E'.G id/\(id≠dM->E'.H.b id=E.H.b id)
 bq:∀k,E.H.b dM=J k->∃k',E'.H.b dM=J k'/\k'.rw=k.rw/\k'.cells.length=k.cells.length/\(∀q,¬(o+j<=q/\q<o+j+xs.length)->k'.cells[q]? =k.cells[q]?)/\
  ∀t x y,xs[t]? =J x->k'.cells[o+j+t]? =J y->PR E' (J (l.1,l.2++p++[(i,j+t)])) x y
def J0.ch{E':Env}{l:Nat×aA}{xs:List PV}{dM:Nat}(h:J0 E E' l (a::p) i j xs dM o):J0 E E' (cO l a.1 a.2) p i j xs dM o:=by
 refine⟨h.g,λid r h1 h2 h3=>?_,λk hk=>?_⟩
 ·rw[xE]at h1⊢;exact h.dZ id _ h1 h2 h3.tail
 ·obtain⟨k',h1,h2,h3,h4,h5⟩:=h.bq k hk;refine⟨k',h1,h2,h3,h4,λt x y a1 a2=>?_⟩;have:=h5 t x y a1 a2;simpa[cO]using this
def PR.bS{E':Env}{dM:Nat}{xs:List PV}:∀{p:aA}{l:Nat×aA}{x x':PV}{v v0:Value},PR E (J l) x v->jx x p (iL i j xs)=J x'->Wv E l v p v0->
 Hd E (l.1,l.2++p) v0 i dM o->J0 E E' l p i j xs dM o->PR E' (J l) x' v:=by
 intro p;induction p with
 |nil=>
  intro l x x' v v0 h hm hw hd hc;have hw:v0=v:=hw;subst hw;rw[Fq]at hd;simp only[jx]at hm
  have stay:∀(i' j':Nat) (z:PV) (y:Value),PR E (J (cO l i' j')) z y->¬(i'=i/\j<=j'/\j'<j+xs.length)->(∀id,E.ow id=J (cO l i' j')\/True->True)->dM=dM->
   (∀id r,E.ow id=J ((cO l i' j').1,(cO l i' j').2++r)->¬E.G id->id≠dM)->PR E' (J (cO l i' j')) z y:=by
   intro i' j' z y hz hn _ _ hne;refine hz.move hc.g λid r h1 h2=>?_
   have bY:=hne id r h1 h2;rw[xE]at h1⊢
   have:=hc.dZ id _ h1 h2 (by
    intro j2 r' e ⟨e1,e2⟩;simp only[mM,Um,b9]at e;obtain⟨⟨rfl,rfl⟩,_⟩:=e
    exact hn ⟨rfl,e1,e2⟩)
   exact⟨this.1,this.2.1,this.2.2 bY⟩
  have Ti:E.ow dM=J l->∀(i' j':Nat) id r,E.ow id=J ((cO l i' j').1,(cO l i' j').2++r)->¬E.G id->id≠dM:=by
   intro h0 i' j' id r h1 _ e;subst e;rw[h0]at h1;have:=gn (λz=>(z.getD l).2.length) h1;simp[cO]at this
  cases h with
  |fk how hG hb bc hn qm gE hr hl hh=>
   simp only[iL,bR,bN]at hm;obtain⟨r0,dD,r1,hp,rfl⟩:=hm;rename_i id off es n c k rows;cases hd with
   |sl HS GN hi=>
   obtain⟨a1,a2,a3⟩:=zK hp;obtain⟨k',b1,b2,b3,b4,b5⟩:=hc.bq _ hb;have hr0l:=hr r0 (eo dD);have kk:=hc.dZ _ [] (by simpa using how) hG (by intro j' r' e;simp at e);refine .fk (by simpa using kk.1) kk.2.1 b1 (by rw[b2];exact bc) (by simpa using hn) qm gE (λr gX=>?_) (by rw[b3];exact hl) λi' r j' z y g1 g2 g3=>?_
   ·rcases a0w gX with h|rfl
    ·exact hr r h
    ·rw[a1];exact hr0l
   ·rw[C7]at g1;have hlen:(i':Nat)*es+j'=i'*es+j':=rfl;by_cases e:i=i'
    ·subst e;rw[aB rfl]at g1;split at g1
     ·cases g1;rw[a3 j']at g2;split at g2
      ·rename_i gR;have:=b5 (j'-j) z y g2 (by rw[show off+i*es+j+(j'-j)=off+i*es+j' by omega];exact g3);rw[show j+(j'-j)=j' by omega]at this;simpa[cO]using this
      ·rename_i gR;rw[b4 _ (by omega)]at g3;exact stay i j' z y (hh i r0 j' z y dD g2 g3) (by omega) (λ_ _=>True.intro) rfl (Ti how i j')
     ·cases g1
    ·rw[az e]at g1;have fj:=hr r (eo g1);have DL:j'<es:=by have:=(cT.1 g2).1;omega
     have MB:xs≠[]->j+xs.length<=es:=λhx=>by have:=a2 hx;omega
     rw[b4 _ (by
      rintro⟨q1,q2⟩;have hx:xs≠[]:=by intro h;subst h;simp at q2;omega
      have:=MB hx;rcases Nat.lt_or_gt_of_ne e with h|h
      ·have:(i+1)*es<=i'*es:=gA _ h;rw[jZ]at this;omega
      ·have:(i'+1)*es<=i*es:=gA _ h
       rw[jZ]at this;omega)]at g3
     exact stay i' j' z y (hh i' r j' z y g1 g2 g3) (λh=>e h.1.symm) (λ_ _=>True.intro) rfl (Ti how i' j')
  |bx how hG hb bc hl hh=>
   simp only[iL]at hm;split at hm
   ·rename_i aO;subst aO;simp only[bN]at hm;obtain⟨r1,hp,rfl⟩:=hm;cases hd with
    |bx HS GN=>
    obtain⟨a1,a2,a3⟩:=zK hp;obtain⟨k',b1,b2,b3,b4,b5⟩:=hc.bq _ hb;have kk:=hc.dZ _ [] (by simpa using how) hG (by intro j' r' e;simp at e);refine .bx (by simpa using kk.1) kk.2.1 b1 (by rw[b2];exact bc) (by rw[a1,b3];exact hl) λj' z y g2 g3=>?_
    rw[a3 j']at g2;split at g2
    ·rename_i gR;have:=b5 (j'-j) z y g2 (by rw[show 0+j+(j'-j)=j' by omega];exact g3);rw[show j+(j'-j)=j' by omega]at this;simpa[cO]using this
    ·rename_i gR;rw[b4 _ (by omega)]at g3;exact stay 0 j' z y (hh j' z y g2 g3) (by omega) (λ_ _=>True.intro) rfl (Ti how 0 j')
   ·cases hm
  |sl0 ob es=>
   cases hd
  |_=>simp[iL]at hm
 |cons s p ih=>
  obtain⟨i1,j1⟩:=s;intro l x x' v v0 h hm hw hd hc;simp only[jx,bR,bN]at hm;obtain⟨z0,hs,z1,hm,rfl⟩:=hm;obtain⟨idw,ow,kw,yw,w1,w2,w3,w4,w5⟩:=hw;have hZ:Hd E ((cO l i1 j1).1,(cO l i1 j1).2++p) v0 i dM o:=by rw[xE];exact hd
  have Sh:E.ow dM=J (l.1,l.2++(i1,j1)::p):=by cases hd<;>assumption
  have stay:∀(i' j':Nat) (z:PV) (y:Value),PR E (J (cO l i' j')) z y->(i',j')≠(i1,j1)->PR E' (J (cO l i' j')) z y:=by
   intro i' j' z y hz hne;refine hz.move hc.g λid r h1 h2=>?_
   rw[xE]at h1⊢;have:=hc.dZ id _ h1 h2 (zrn (λe=>hne e.symm));refine⟨this.1,this.2.1,this.2.2 λe=>?_⟩;subst e;rw[Sh]at h1;simp only[aT,b9,List.append_cancel_left_eq,Um,o6]at h1;exact hne (by rw[b9];exact⟨h1.1.1.symm,h1.1.2.symm⟩)
  have Xe:tu ((i1,j1)::p) i j xs.length []:=by intro j' r' e;simp at e
  have WP:∀id,E.ow id=J l->id≠dM:=by
   intro id h e;subst e;rw[h]at Sh;have:=gn (λz=>(z.getD l).2.length) Sh;simp at this
  cases h with
  |fk how hG hb bc hn qm gE hr hl hh=>
   simp only[iv,bR]at hs;obtain⟨r0,dD,BL⟩:=hs;rename_i id off es n c k rows;cases w1 with
   |sl HS GN hi=>
   rw[hb]at w3;cases w3;have kk:=hc.dZ _ [] (by simpa using how) hG Xe;have gD:=(kk.2.2 (WP _ how)).trans hb;have hr0l:=hr r0 (eo dD);have BR:=ih (hh i1 r0 j1 z0 yw dD BL w4) hm w5 hZ hc.ch;simp only[BX];have I5:rows.getD i1 []=r0:=by simp[List.getD,dD]
   rw[I5];refine .fk (by simpa using kk.1) kk.2.1 gD bc (by simpa using hn) qm gE (λr gX=>?_) hl λi' r j' z y g1 g2 g3=>?_
   ·rcases a0w gX with h|rfl
    ·exact hr r h
    ·simpa using hr0l
   ·rw[C7]at g1;by_cases e:i1=i'
    ·subst e;rw[aB rfl]at g1;split at g1
     ·cases g1;rw[C7]at g2;by_cases e2:j1=j'
      ·subst e2;rw[aB rfl]at g2;split at g2
       ·cases g2;rw[w4]at g3;cases g3;exact BR
       ·cases g2
      ·rw[az e2]at g2;exact stay i1 j' z y (hh i1 r0 j' z y dD g2 g3) (by simp;exact λe=>e2 e.symm)
     ·cases g1
    ·rw[az e]at g1;exact stay i' j' z y (hh i' r j' z y g1 g2 g3) (by simp;exact λe'=>absurd e'.symm e)
  |bx how hG hb bc hl hh=>
   simp only[iv]at hs;split at hs
   ·rename_i aO;have aO:i1=0:=aO;subst aO;have hs:_=J z0:=hs;cases w1 with
    |bx HS GN=>
    rw[hb]at w3;cases w3;rw[gk]at w4;have kk:=hc.dZ _ [] (by simpa using how) hG Xe;have gD:=(kk.2.2 (WP _ how)).trans hb;have BR:=ih (hh j1 z0 yw hs w4) hm w5 hZ hc.ch;simp only[BX];refine .bx (by simpa using kk.1) kk.2.1 gD bc (by simpa using hl) λj' z y g2 g3=>?_
    rw[C7]at g2;by_cases e2:j1=j'
    ·subst e2;rw[aB rfl]at g2;split at g2
     ·cases g2;rw[w4]at g3;cases g3;exact BR
     ·cases g2
    ·rw[az e2]at g2;exact stay 0 j' z y (hh j' z y g2 g3) (by simp;exact λe=>e2 e.symm)
   ·cases hs
  |sl0 ob es=>cases ob<;>simp[iv]at hs
  |_=>simp[iv]at hs
end Go.Pm
