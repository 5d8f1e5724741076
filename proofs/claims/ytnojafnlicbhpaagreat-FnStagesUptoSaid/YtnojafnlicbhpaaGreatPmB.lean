import Derived.Test.YtnojafnlicbhpaaGreatPmA
open Option renaming none→ae,some→J
open Bool renaming true→Z
set_option linter.defProp false
namespace Go.Pm
open Go.Am
def gn:=@congrArg
def jZ:=@Nat.succ_mul
def o5:=@true_and
def Ky:=@Nat.zero_le
def Uf:=@List.cons.injEq
def Aat:=@List.mem_or_eq_of_mem_set
def Ab9:=@List.getElem?_cons_succ
def iq:PV->Nat×Nat->Option PV
 | .sl Z _ rows,a=>(rows[a.1]?).bind (·[a.2]?)
 | .bx row,a=>if a.1=0 then row[a.2]? else ae
 |_,_=>ae
def iM:PV->aA->Option PV
 |x,[]=>J x
 |x,a::p=>(iq x a).bind (iM · p)
def Co:PV->Nat×Nat->PV->PV
 | .sl Z es rows,a,y=>.sl Z es (rows.set a.1 ((rows.getD a.1 []).set a.2 y))
 | .bx row,a,y=>.bx (row.set a.2 y)
 |x,_,_=>x
def jz:PV->aA->(PV->Option PV)->Option PV
 |x,[],f=>f x
 |x,a::p,f=>(iq x a).bind λy=>(jz y p f).map (Co x a)
def jL:List PV->Nat->List PV->Option (List PV)
 |cs,_,[]=>J cs
 |[],_,_::_=>ae
 |c::cs,n+1,xs=>(jL cs n xs).map (c:: ·)
 |_::cs,0,x::xs=>(jL cs 0 xs).map (x:: ·)
def iD(i j:Nat)(xs:List PV):PV->Option PV
 | .sl Z es rows=>(rows[i]?).bind λr=>(jL r j xs).map λr'=>.sl Z es (rows.set i r')
 | .bx row=>if i=0 then(jL row j xs).map .bx else ae
 |_=>ae
def lJ(i:Nat):PV->Option (List PV)
 | .sl Z _ rows=>rows[i]?
 | .bx row=>if i=0 then J row else ae
 |_=>ae
variable{E:Env}{a:Nat×Nat}{i j o:Nat}{p:aA}
def yZ:∀{cs xs:List PV}{n:Nat}{r:List PV},jL cs n xs=J r->r.length=cs.length/\(xs≠[]->n+xs.length<=cs.length)/\
 ∀j,r[j]? =if n<=j/\j<n+xs.length then xs[j-n]? else cs[j]? :=by
 intro cs;induction cs with
 |nil=>
  intro xs n r h;cases xs with
  |nil=>simp[jL]at h;subst h;exact⟨rfl,λh=>absurd rfl h,λj=>by rw[az (by intro h;simp at h;omega)]⟩
  |cons x xs=>simp[jL]at h
 |cons c cs ih=>
  intro xs n r h;cases xs with
  |nil=>simp[jL]at h;subst h;exact⟨rfl,λh=>absurd rfl h,λj=>by rw[az (by intro h;simp at h;omega)]⟩
  |cons x xs=>
   cases n with
   |zero=>
    simp only[jL,bN]at h;obtain⟨r',h1,rfl⟩:=h;obtain⟨h2,h3,h4⟩:=ih h1;refine⟨by simp[h2],λ_=>?_,λj=>?_⟩
    ·by_cases e:xs=[]
     ·subst e;simp
     ·have:=h3 e;simp at this⊢;omega
    ·cases j with
     |zero=>simp
     |succ j=>
      simp only[Ab9,h4 j];by_cases hj:j<xs.length
      ·rw[aB ⟨Ky _,by omega⟩,aB ⟨Ky _,by simp;omega⟩];simp
      ·rw[az (by omega),az (by simp;omega)]
   |succ n=>
    simp only[jL,bN]at h;obtain⟨r',h1,rfl⟩:=h;obtain⟨h2,h3,h4⟩:=ih h1;refine⟨by simp[h2],λ_=>?_,λj=>?_⟩
    ·have:=h3 (by simp);simp at this⊢;omega
    ·cases j with
     |zero=>rw[az (by omega)];simp
     |succ j=>
      simp only[Ab9,h4 j];by_cases hj:n<=j/\j<n+(x::xs).length
      ·rw[aB hj,aB (by omega)];congr 1;omega
      ·rw[az hj,az (by omega)]
inductive Hd (E:Env) (l:Nat×aA):Value->Nat->Nat->Nat->Prop where
 |sl {id off es n c:Nat}(how:E.ow id=J l) (hG:¬E.G id) {i j:Nat}(hi:i<n):Hd E l (.slice (J ⟨id,off,J es⟩) n c) i id (off+i*es)
 |bx {id:Nat}(how:E.ow id=J l) (hG:¬E.G id):Hd E l (.pointer (J ⟨id,0,ae⟩)) 0 id 0
def Wv(E:Env):Nat×aA->Value->aA->Value->Prop
 |_,v,[],v0=>v0=v
 |l,v,(i,j)::p,v0=>∃id o k y,Hd E l v i id o/\(∀es,(∃off n c,v=.slice (J ⟨id,off,J es⟩) n c)->j<es)/\E.H.b id=J k/\k.cells[o+j]? =J y/\Wv E (cO l i j) y p v0
def Hd.same{l:Nat×aA}{v:Value}{id Ba o':Nat}(h:Hd E l v i id o)(h':Hd E l v i Ba o'):id=Ba/\o=o':=by
 cases h<;>cases h'<;>exact⟨rfl,rfl⟩
def Wv.same :∀{p:aA}{l:Nat×aA}{v a b:Value},Wv E l v p a->Wv E l v p b->a=b:=by
 intro p;induction p with
 |nil=>intro l v a b h h';exact h.trans h'.symm
 |cons s p ih=>
  obtain⟨i,j⟩:=s;intro l v a b h h';obtain⟨id,o,k,y,h1,h2,h3,h4,h5⟩:=h;obtain⟨Ba,o',k',y',jN,MO,XF,h4',xh⟩:=h';obtain⟨rfl,rfl⟩:=h1.same jN;rw[h3]at XF;cases XF;rw[h4]at h4';cases h4';exact ih h5 xh
def xE(l:Nat×aA)(i j:Nat)(r:aA):((cO l i j).1,(cO l i j).2++r)=(l.1,l.2++(i,j)::r):=by simp[cO]
def Eu(l:Nat×aA):(l.1,l.2++[])=l:=by simp
def PR.get :∀{p:aA}{l:Nat×aA}{x x0:PV}{v:Value},PR E (J l) x v->iM x p=J x0->∃v0,Wv E l v p v0/\PR E (J (l.1,l.2++p)) x0 v0:=by
 intro p;induction p with
 |nil=>intro l x x0 v h hg;simp only[iM,aT]at hg;subst hg;exact⟨v,rfl,by rw[Eu];exact h⟩
 |cons s p ih=>
  obtain⟨i,j⟩:=s;intro l x x0 v h hg;simp only[iM,bR]at hg;obtain⟨y,h1,h2⟩:=hg;cases h with
  |fk how hG hb bc hn hc hm hr hl hh=>
   simp only[iq,bR]at h1;obtain⟨r,a1,a2⟩:=h1;rename_i id off es n c k rows;have hi:i<n:=by have:=(cT.1 a1).1;omega
   have hj:j<es:=by have:=(cT.1 a2).1;have:=hr r (eo a1);omega
   have hlt:off+i*es+j<k.cells.length:=by
    have h1:(i+1)*es<=c*es:=gA _ (by omega);rw[jZ]at h1;omega
   obtain⟨v0,w1,w2⟩:=ih (hh i r j y _ a1 a2 (cE hlt)) h2;rw[xE]at w2;refine⟨v0,⟨id,off+i*es,k,_,.sl (j:=j) how hG hi,?_,hb,cE hlt,w1⟩,w2⟩;rintro bw ⟨_,_,_,e⟩;cases e;exact hj
  |bx how hG hb bc hl hh=>
   simp only[iq]at h1;split at h1
   ·rename_i e;have e:i=0:=e;subst e;have hj:j<_:=AX (cT.1 h1).1 hl;obtain⟨v0,w1,w2⟩:=ih (hh j y _ h1 (cE hj)) h2;rw[xE]at w2;refine⟨v0,⟨_,0,_,_,.bx how hG,?_,hb,by rw[gk];exact cE hj,w1⟩,w2⟩;rintro bw ⟨_,_,_,e⟩;cases e
   ·cases h1
  |sl0 o es=>
   cases o<;>simp[iq]at h1
  |_=>simp[iq]at h1
def tf(p:aA)(i j m:Nat)(r:aA):Prop:=∀j' r',r=p++(i,j')::r'->¬(j<=j'/\j'<j+m)
def tf.tail{m:Nat}{r:aA}(h:tf p i j m r):tf (a::p) i j m (a::r):=λj' r' e=>h j' r' (by simpa using e)
def Y7{b:Nat×Nat}(h:a≠b){m:Nat}{r:aA}:tf (a::p) i j m (b::r):=λj' r' e=>by
 simp only[tZ,Uf]at e;exact absurd e.1.symm h
structure JN (E E':Env) (l:Nat×aA) (p:aA) (i j:Nat) (xs:List PV) (dR o:Nat):Prop where
 g:GK E E'
 d4:∀id r,E.ow id=J (l.1,l.2++r)->¬E.G id->tf p i j xs.length r->E'.ow id=J (l.1,l.2++r)/\¬E'.G id/\(id≠dR->E'.H.b id=E.H.b id)
 bq:∀k,E.H.b dR=J k->∃k',E'.H.b dR=J k'/\k'.rw=k.rw/\k'.cells.length=k.cells.length/\(∀q,¬(o+j<=q/\q<o+j+xs.length)->k'.cells[q]? =k.cells[q]?)/\
  ∀t x y,xs[t]? =J x->k'.cells[o+j+t]? =J y->PR E' (J (l.1,l.2++p++[(i,j+t)])) x y
def JN.ch{E':Env}{l:Nat×aA}{xs:List PV}{dR:Nat}(h:JN E E' l (a::p) i j xs dR o):JN E E' (cO l a.1 a.2) p i j xs dR o:=by
 refine⟨h.g,λid r h1 h2 h3=>?_,λk hk=>?_⟩
 ·rw[xE]at h1⊢;exact h.d4 id _ h1 h2 h3.tail
 ·obtain⟨k',h1,h2,h3,h4,h5⟩:=h.bq k hk;refine⟨k',h1,h2,h3,h4,λt x y a1 a2=>?_⟩;have:=h5 t x y a1 a2;simpa[cO]using this
def PR.bU{E':Env}{dR:Nat}{xs:List PV}:∀{p:aA}{l:Nat×aA}{x x':PV}{v v0:Value},PR E (J l) x v->jz x p (iD i j xs)=J x'->Wv E l v p v0->
 Hd E (l.1,l.2++p) v0 i dR o->JN E E' l p i j xs dR o->PR E' (J l) x' v:=by
 intro p;induction p with
 |nil=>
  intro l x x' v v0 h hm hw hd hc;have hw:v0=v:=hw;subst hw;rw[Eu]at hd;simp only[jz]at hm
  have stay:∀(i' j':Nat) (z:PV) (y:Value),PR E (J (cO l i' j')) z y->¬(i'=i/\j<=j'/\j'<j+xs.length)->(∀id,E.ow id=J (cO l i' j')\/True->True)->dR=dR->
   (∀id r,E.ow id=J ((cO l i' j').1,(cO l i' j').2++r)->¬E.G id->id≠dR)->PR E' (J (cO l i' j')) z y:=by
   intro i' j' z y hz hn _ _ hne;refine hz.move hc.g λid r h1 h2=>?_
   have bY:=hne id r h1 h2;rw[xE]at h1⊢
   have:=hc.d4 id _ h1 h2 (by
    intro j2 r' e ⟨e1,e2⟩;simp only[mL,Uf,b9]at e;obtain⟨⟨rfl,rfl⟩,_⟩:=e
    exact hn ⟨rfl,e1,e2⟩)
   exact⟨this.1,this.2.1,this.2.2 bY⟩
  have Q8:E.ow dR=J l->∀(i' j':Nat) id r,E.ow id=J ((cO l i' j').1,(cO l i' j').2++r)->¬E.G id->id≠dR:=by
   intro h0 i' j' id r h1 _ e;subst e;rw[h0]at h1;have:=gn (λz=>(z.getD l).2.length) h1;simp[cO]at this
  cases h with
  |fk how hG hb bc hn qY gD hr hl hh=>
   simp only[iD,bR,bN]at hm;obtain⟨r0,dE,r1,hp,rfl⟩:=hm;rename_i id off es n c k rows;cases hd with
   |sl HN Hu hi=>
   obtain⟨a1,a2,a3⟩:=yZ hp;obtain⟨k',b1,b2,b3,b4,b5⟩:=hc.bq _ hb;have hr0l:=hr r0 (eo dE);have kk:=hc.d4 _ [] (by simpa using how) hG (by intro j' r' e;simp at e);refine .fk (by simpa using kk.1) kk.2.1 b1 (by rw[b2];exact bc) (by simpa using hn) qY gD (λr hJ=>?_) (by rw[b3];exact hl) λi' r j' z y g1 g2 g3=>?_
   ·rcases Aat hJ with h|rfl
    ·exact hr r h
    ·rw[a1];exact hr0l
   ·rw[C6]at g1;have hlen:(i':Nat)*es+j'=i'*es+j':=rfl;by_cases e:i=i'
    ·subst e;rw[aB rfl]at g1;split at g1
     ·cases g1;rw[a3 j']at g2;split at g2
      ·rename_i gN;have:=b5 (j'-j) z y g2 (by rw[show off+i*es+j+(j'-j)=off+i*es+j' by omega];exact g3);rw[show j+(j'-j)=j' by omega]at this;simpa[cO]using this
      ·rename_i gN;rw[b4 _ (by omega)]at g3;exact stay i j' z y (hh i r0 j' z y dE g2 g3) (by omega) (λ_ _=>True.intro) rfl (Q8 how i j')
     ·cases g1
    ·rw[az e]at g1;have fm:=hr r (eo g1);have Ez:j'<es:=by have:=(cT.1 g2).1;omega
     have K6:xs≠[]->j+xs.length<=es:=λhx=>by have:=a2 hx;omega
     rw[b4 _ (by
      rintro⟨q1,q2⟩;have hx:xs≠[]:=by intro h;subst h;simp at q2;omega
      have:=K6 hx;rcases Nat.lt_or_gt_of_ne e with h|h
      ·have:(i+1)*es<=i'*es:=gA _ h;rw[jZ]at this;omega
      ·have:(i'+1)*es<=i*es:=gA _ h
       rw[jZ]at this;omega)]at g3
     exact stay i' j' z y (hh i' r j' z y g1 g2 g3) (λh=>e h.1.symm) (λ_ _=>True.intro) rfl (Q8 how i' j')
  |bx how hG hb bc hl hh=>
   simp only[iD]at hm;split at hm
   ·rename_i aO;subst aO;simp only[bN]at hm;obtain⟨r1,hp,rfl⟩:=hm;cases hd with
    |bx HN Hu=>
    obtain⟨a1,a2,a3⟩:=yZ hp;obtain⟨k',b1,b2,b3,b4,b5⟩:=hc.bq _ hb;have kk:=hc.d4 _ [] (by simpa using how) hG (by intro j' r' e;simp at e);refine .bx (by simpa using kk.1) kk.2.1 b1 (by rw[b2];exact bc) (by rw[a1,b3];exact hl) λj' z y g2 g3=>?_
    rw[a3 j']at g2;split at g2
    ·rename_i gN;have:=b5 (j'-j) z y g2 (by rw[show 0+j+(j'-j)=j' by omega];exact g3);rw[show j+(j'-j)=j' by omega]at this;simpa[cO]using this
    ·rename_i gN;rw[b4 _ (by omega)]at g3;exact stay 0 j' z y (hh j' z y g2 g3) (by omega) (λ_ _=>True.intro) rfl (Q8 how 0 j')
   ·cases hm
  |sl0 ob es=>
   cases hd
  |_=>simp[iD]at hm
 |cons s p ih=>
  obtain⟨i1,j1⟩:=s;intro l x x' v v0 h hm hw hd hc;simp only[jz,bR,bN]at hm;obtain⟨z0,hs,z1,hm,rfl⟩:=hm;obtain⟨idw,ow,kw,yw,w1,w2,w3,w4,w5⟩:=hw;have gW:Hd E ((cO l i1 j1).1,(cO l i1 j1).2++p) v0 i dR o:=by rw[xE];exact hd
  have PX:E.ow dR=J (l.1,l.2++(i1,j1)::p):=by cases hd<;>assumption
  have stay:∀(i' j':Nat) (z:PV) (y:Value),PR E (J (cO l i' j')) z y->(i',j')≠(i1,j1)->PR E' (J (cO l i' j')) z y:=by
   intro i' j' z y hz hne;refine hz.move hc.g λid r h1 h2=>?_
   rw[xE]at h1⊢;have:=hc.d4 id _ h1 h2 (Y7 (λe=>hne e.symm));refine⟨this.1,this.2.1,this.2.2 λe=>?_⟩;subst e;rw[PX]at h1;simp only[aT,b9,List.append_cancel_left_eq,Uf,o5]at h1;exact hne (by rw[b9];exact⟨h1.1.1.symm,h1.1.2.symm⟩)
  have Yc:tf ((i1,j1)::p) i j xs.length []:=by intro j' r' e;simp at e
  have X4:∀id,E.ow id=J l->id≠dR:=by
   intro id h e;subst e;rw[h]at PX;have:=gn (λz=>(z.getD l).2.length) PX;simp at this
  cases h with
  |fk how hG hb bc hn qY gD hr hl hh=>
   simp only[iq,bR]at hs;obtain⟨r0,dE,Bl⟩:=hs;rename_i id off es n c k rows;cases w1 with
   |sl HN Hu hi=>
   rw[hb]at w3;cases w3;have kk:=hc.d4 _ [] (by simpa using how) hG Yc;have gK:=(kk.2.2 (X4 _ how)).trans hb;have hr0l:=hr r0 (eo dE);have Bg:=ih (hh i1 r0 j1 z0 yw dE Bl w4) hm w5 gW hc.ch;simp only[Co];have J1:rows.getD i1 []=r0:=by simp[List.getD,dE]
   rw[J1];refine .fk (by simpa using kk.1) kk.2.1 gK bc (by simpa using hn) qY gD (λr hJ=>?_) hl λi' r j' z y g1 g2 g3=>?_
   ·rcases Aat hJ with h|rfl
    ·exact hr r h
    ·simpa using hr0l
   ·rw[C6]at g1;by_cases e:i1=i'
    ·subst e;rw[aB rfl]at g1;split at g1
     ·cases g1;rw[C6]at g2;by_cases e2:j1=j'
      ·subst e2;rw[aB rfl]at g2;split at g2
       ·cases g2;rw[w4]at g3;cases g3;exact Bg
       ·cases g2
      ·rw[az e2]at g2;exact stay i1 j' z y (hh i1 r0 j' z y dE g2 g3) (by simp;exact λe=>e2 e.symm)
     ·cases g1
    ·rw[az e]at g1;exact stay i' j' z y (hh i' r j' z y g1 g2 g3) (by simp;exact λe'=>absurd e'.symm e)
  |bx how hG hb bc hl hh=>
   simp only[iq]at hs;split at hs
   ·rename_i aO;have aO:i1=0:=aO;subst aO;have hs:_=J z0:=hs;cases w1 with
    |bx HN Hu=>
    rw[hb]at w3;cases w3;rw[gk]at w4;have kk:=hc.d4 _ [] (by simpa using how) hG Yc;have gK:=(kk.2.2 (X4 _ how)).trans hb;have Bg:=ih (hh j1 z0 yw hs w4) hm w5 gW hc.ch;simp only[Co];refine .bx (by simpa using kk.1) kk.2.1 gK bc (by simpa using hl) λj' z y g2 g3=>?_
    rw[C6]at g2;by_cases e2:j1=j'
    ·subst e2;rw[aB rfl]at g2;split at g2
     ·cases g2;rw[w4]at g3;cases g3;exact Bg
     ·cases g2
    ·rw[az e2]at g2;exact stay 0 j' z y (hh j' z y g2 g3) (by simp;exact λe=>e2 e.symm)
   ·cases hs
  |sl0 ob es=>cases ob<;>simp[iq]at hs
  |_=>simp[iq]at hs
end Go.Pm
