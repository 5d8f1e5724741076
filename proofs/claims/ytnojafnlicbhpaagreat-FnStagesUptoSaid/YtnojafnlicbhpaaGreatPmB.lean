import Derived.Test.YtnojafnlicbhpaaGreatPmA
open Option renaming none→ae,some→J
open Bool renaming true→Z
set_option linter.defProp false
namespace Go.Pm
open Go.Am
def gF:=@congrArg
def km:=@Nat.succ_mul
def pM:=@true_and
def L3:=@Nat.zero_le
def V3:=@List.cons.injEq
def a1l:=@List.mem_or_eq_of_mem_set
def a5t:=@List.getElem?_cons_succ
def iM:PV->Nat×Nat->Option PV
 | .sl Z _ rows,a=>(rows[a.1]?).bind (·[a.2]?)
 | .bx row,a=>if a.1=0 then row[a.2]? else ae
 |_,_=>ae
def jb:PV->aC->Option PV
 |x,[]=>J x
 |x,a::p=>(iM x a).bind (jb · p)
def De:PV->Nat×Nat->PV->PV
 | .sl Z es rows,a,y=>.sl Z es (rows.set a.1 ((rows.getD a.1 []).set a.2 y))
 | .bx row,a,y=>.bx (row.set a.2 y)
 |x,_,_=>x
def jM:PV->aC->(PV->Option PV)->Option PV
 |x,[],f=>f x
 |x,a::p,f=>(iM x a).bind λy=>(jM y p f).map (De x a)
def ke:List PV->Nat->List PV->Option (List PV)
 |cs,_,[]=>J cs
 |[],_,_::_=>ae
 |c::cs,n+1,xs=>(ke cs n xs).map (c:: ·)
 |_::cs,0,x::xs=>(ke cs 0 xs).map (x:: ·)
def i9(i j:Nat)(xs:List PV):PV->Option PV
 | .sl Z es rows=>(rows[i]?).bind λr=>(ke r j xs).map λr'=>.sl Z es (rows.set i r')
 | .bx row=>if i=0 then(ke row j xs).map .bx else ae
 |_=>ae
def lL(i:Nat):PV->Option (List PV)
 | .sl Z _ rows=>rows[i]?
 | .bx row=>if i=0 then J row else ae
 |_=>ae
variable{E:Env}{a:Nat×Nat}{i j o:Nat}{p:aC}
def Bh:∀{cs xs:List PV}{n:Nat}{r:List PV},ke cs n xs=J r->r.length=cs.length/\(xs≠[]->n+xs.length<=cs.length)/\
 ∀j,r[j]? =if n<=j/\j<n+xs.length then xs[j-n]? else cs[j]? :=by
 intro cs;induction cs with
 |nil=>
  intro xs n r h;cases xs with
  |nil=>simp[ke]at h;subst h;exact⟨rfl,λh=>absurd rfl h,λj=>by rw[aB (by intro h;simp at h;omega)]⟩
  |cons x xs=>simp[ke]at h
 |cons c cs ih=>
  intro xs n r h;cases xs with
  |nil=>simp[ke]at h;subst h;exact⟨rfl,λh=>absurd rfl h,λj=>by rw[aB (by intro h;simp at h;omega)]⟩
  |cons x xs=>
   cases n with
   |zero=>
    simp only[ke,bP]at h;obtain⟨r',h1,rfl⟩:=h;obtain⟨h2,h3,h4⟩:=ih h1;refine⟨by simp[h2],λ_=>?_,λj=>?_⟩
    ·by_cases e:xs=[]
     ·subst e;simp
     ·have:=h3 e;simp at this⊢;omega
    ·cases j with
     |zero=>simp
     |succ j=>
      simp only[a5t,h4 j];by_cases hj:j<xs.length
      ·rw[aD ⟨L3 _,by omega⟩,aD ⟨L3 _,by simp;omega⟩];simp
      ·rw[aB (by omega),aB (by simp;omega)]
   |succ n=>
    simp only[ke,bP]at h;obtain⟨r',h1,rfl⟩:=h;obtain⟨h2,h3,h4⟩:=ih h1;refine⟨by simp[h2],λ_=>?_,λj=>?_⟩
    ·have:=h3 (by simp);simp at this⊢;omega
    ·cases j with
     |zero=>rw[aB (by omega)];simp
     |succ j=>
      simp only[a5t,h4 j];by_cases hj:n<=j/\j<n+(x::xs).length
      ·rw[aD hj,aD (by omega)];congr 1;omega
      ·rw[aB hj,aB (by omega)]
inductive Hd (E:Env) (l:Nat×aC):Value->Nat->Nat->Nat->Prop where
 |sl {id off es n c:Nat}(how:E.ow id=J l) (hG:¬E.G id) {i j:Nat}(hi:i<n):Hd E l (.slice (J ⟨id,off,J es⟩) n c) i id (off+i*es)
 |bx {id:Nat}(how:E.ow id=J l) (hG:¬E.G id):Hd E l (.pointer (J ⟨id,0,ae⟩)) 0 id 0
def Wv(E:Env):Nat×aC->Value->aC->Value->Prop
 |_,v,[],v0=>v0=v
 |l,v,(i,j)::p,v0=>∃id o k y,Hd E l v i id o/\(∀es,(∃off n c,v=.slice (J ⟨id,off,J es⟩) n c)->j<es)/\E.H.b id=J k/\k.cells[o+j]? =J y/\Wv E (cS l i j) y p v0
def Hd.same{l:Nat×aC}{v:Value}{id Eh o':Nat}(h:Hd E l v i id o)(h':Hd E l v i Eh o'):id=Eh/\o=o':=by
 cases h<;>cases h'<;>exact⟨rfl,rfl⟩
def Wv.same :∀{p:aC}{l:Nat×aC}{v a b:Value},Wv E l v p a->Wv E l v p b->a=b:=by
 intro p;induction p with
 |nil=>intro l v a b h h';exact h.trans h'.symm
 |cons s p ih=>
  obtain⟨i,j⟩:=s;intro l v a b h h';obtain⟨id,o,k,y,h1,h2,h3,h4,h5⟩:=h;obtain⟨Eh,o',k',y',ki,Np,h3',h4',yj⟩:=h';obtain⟨rfl,rfl⟩:=h1.same ki;rw[h3]at h3';cases h3';rw[h4]at h4';cases h4';exact ih h5 yj
def zo(l:Nat×aC)(i j:Nat)(r:aC):((cS l i j).1,(cS l i j).2++r)=(l.1,l.2++(i,j)::r):=by simp[cS]
def Gh(l:Nat×aC):(l.1,l.2++[])=l:=by simp
def PR.get :∀{p:aC}{l:Nat×aC}{x x0:PV}{v:Value},PR E (J l) x v->jb x p=J x0->∃v0,Wv E l v p v0/\PR E (J (l.1,l.2++p)) x0 v0:=by
 intro p;induction p with
 |nil=>intro l x x0 v h hg;simp only[jb,aT]at hg;subst hg;exact⟨v,rfl,by rw[Gh];exact h⟩
 |cons s p ih=>
  obtain⟨i,j⟩:=s;intro l x x0 v h hg;simp only[jb,bW]at hg;obtain⟨y,h1,h2⟩:=hg;cases h with
  |fK how hG hb bc hn hc hm hr hl hh=>
   simp only[iM,bW]at h1;obtain⟨r,a1,a2⟩:=h1;rename_i id off es n c k rows;have hi:i<n:=by have:=(cY.1 a1).1;omega
   have hj:j<es:=by have:=(cY.1 a2).1;have:=hr r (eA a1);omega
   have hlt:off+i*es+j<k.cells.length:=by
    have h1:(i+1)*es<=c*es:=gO _ (by omega);rw[km]at h1;omega
   obtain⟨v0,w1,w2⟩:=ih (hh i r j y _ a1 a2 (cJ hlt)) h2;rw[zo]at w2;refine⟨v0,⟨id,off+i*es,k,_,.sl (j:=j) how hG hi,?_,hb,cJ hlt,w1⟩,w2⟩;rintro bA ⟨_,_,_,e⟩;cases e;exact hj
  |bx how hG hb bc hl hh=>
   simp only[iM]at h1;split at h1
   ·rename_i e;have e:i=0:=e;subst e;have hj:j<_:=BW (cY.1 h1).1 hl;obtain⟨v0,w1,w2⟩:=ih (hh j y _ h1 (cJ hj)) h2;rw[zo]at w2;refine⟨v0,⟨_,0,_,_,.bx how hG,?_,hb,by rw[gE];exact cJ hj,w1⟩,w2⟩;rintro bA ⟨_,_,_,e⟩;cases e
   ·cases h1
  |sl0 o es=>
   cases o<;>simp[iM]at h1
  |_=>simp[iM]at h1
def tV(p:aC)(i j m:Nat)(r:aC):Prop:=∀j' r',r=p++(i,j')::r'->¬(j<=j'/\j'<j+m)
def tV.tail{m:Nat}{r:aC}(h:tV p i j m r):tV (a::p) i j m (a::r):=λj' r' e=>h j' r' (by simpa using e)
def Xi{b:Nat×Nat}(h:a≠b){m:Nat}{r:aC}:tV (a::p) i j m (b::r):=λj' r' e=>by
 simp only[uJ,V3]at e;exact absurd e.1.symm h
structure La (E E':Env) (l:Nat×aC) (p:aC) (i j:Nat) (xs:List PV) (dS o:Nat):Prop where
 g:GK E E'
 eb:∀id r,E.ow id=J (l.1,l.2++r)->¬E.G id->tV p i j xs.length r->E'.ow id=J (l.1,l.2++r)/\¬E'.G id/\(id≠dS->E'.H.b id=E.H.b id)
 bu:∀k,E.H.b dS=J k->∃k',E'.H.b dS=J k'/\k'.rw=k.rw/\k'.cells.length=k.cells.length/\(∀q,¬(o+j<=q/\q<o+j+xs.length)->k'.cells[q]? =k.cells[q]?)/\
  ∀t x y,xs[t]? =J x->k'.cells[o+j+t]? =J y->PR E' (J (l.1,l.2++p++[(i,j+t)])) x y
def La.ch{E':Env}{l:Nat×aC}{xs:List PV}{dS:Nat}(h:La E E' l (a::p) i j xs dS o):La E E' (cS l a.1 a.2) p i j xs dS o:=by
 refine⟨h.g,λid r h1 h2 h3=>?_,λk hk=>?_⟩
 ·rw[zo]at h1⊢;exact h.eb id _ h1 h2 h3.tail
 ·obtain⟨k',h1,h2,h3,h4,h5⟩:=h.bu k hk;refine⟨k',h1,h2,h3,h4,λt x y a1 a2=>?_⟩;have:=h5 t x y a1 a2;simpa[cS]using this
def PR.bY{E':Env}{dS:Nat}{xs:List PV}:∀{p:aC}{l:Nat×aC}{x x':PV}{v v0:Value},PR E (J l) x v->jM x p (i9 i j xs)=J x'->Wv E l v p v0->
 Hd E (l.1,l.2++p) v0 i dS o->La E E' l p i j xs dS o->PR E' (J l) x' v:=by
 intro p;induction p with
 |nil=>
  intro l x x' v v0 h hm hw hd hc;have hw:v0=v:=hw;subst hw;rw[Gh]at hd;simp only[jM]at hm
  have stay:∀(i' j':Nat) (z:PV) (y:Value),PR E (J (cS l i' j')) z y->¬(i'=i/\j<=j'/\j'<j+xs.length)->(∀id,E.ow id=J (cS l i' j')\/True->True)->dS=dS->
   (∀id r,E.ow id=J ((cS l i' j').1,(cS l i' j').2++r)->¬E.G id->id≠dS)->PR E' (J (cS l i' j')) z y:=by
   intro i' j' z y hz hn _ _ hne;refine hz.move hc.g λid r h1 h2=>?_
   have b9:=hne id r h1 h2;rw[zo]at h1⊢
   have:=hc.eb id _ h1 h2 (by
    intro j2 r' e ⟨e1,e2⟩;simp only[na,V3,cg]at e;obtain⟨⟨rfl,rfl⟩,_⟩:=e
    exact hn ⟨rfl,e1,e2⟩)
   exact⟨this.1,this.2.1,this.2.2 b9⟩
  have Vt:E.ow dS=J l->∀(i' j':Nat) id r,E.ow id=J ((cS l i' j').1,(cS l i' j').2++r)->¬E.G id->id≠dS:=by
   intro h0 i' j' id r h1 _ e;subst e;rw[h0]at h1;have:=gF (λz=>(z.getD l).2.length) h1;simp[cS]at this
  cases h with
  |fK how hG hb bc hn rC gY hr hl hh=>
   simp only[i9,bW,bP]at hm;obtain⟨r0,si,r1,hp,rfl⟩:=hm;rename_i id off es n c k rows;cases hd with
   |sl Ka Kp hi=>
   obtain⟨a1,a2,a3⟩:=Bh hp;obtain⟨k',b1,b2,b3,b4,b5⟩:=hc.bu _ hb;have hr0l:=hr r0 (eA si);have kk:=hc.eb _ [] (by simpa using how) hG (by intro j' r' e;simp at e);refine .fK (by simpa using kk.1) kk.2.1 b1 (by rw[b2];exact bc) (by simpa using hn) rC gY (λr im=>?_) (by rw[b3];exact hl) λi' r j' z y g1 g2 g3=>?_
   ·rcases a1l im with h|rfl
    ·exact hr r h
    ·rw[a1];exact hr0l
   ·rw[Es]at g1;have hlen:(i':Nat)*es+j'=i'*es+j':=rfl;by_cases e:i=i'
    ·subst e;rw[aD rfl]at g1;split at g1
     ·cases g1;rw[a3 j']at g2;split at g2
      ·rename_i hO;have:=b5 (j'-j) z y g2 (by rw[show off+i*es+j+(j'-j)=off+i*es+j' by omega];exact g3);rw[show j+(j'-j)=j' by omega]at this;simpa[cS]using this
      ·rename_i hO;rw[b4 _ (by omega)]at g3;exact stay i j' z y (hh i r0 j' z y si g2 g3) (by omega) (λ_ _=>True.intro) rfl (Vt how i j')
     ·cases g1
    ·rw[aB e]at g1;have fF:=hr r (eA g1);have EN:j'<es:=by have:=(cY.1 g2).1;omega
     have MX:xs≠[]->j+xs.length<=es:=λhx=>by have:=a2 hx;omega
     rw[b4 _ (by
      rintro⟨q1,q2⟩;have hx:xs≠[]:=by intro h;subst h;simp at q2;omega
      have:=MX hx;rcases Nat.lt_or_gt_of_ne e with h|h
      ·have:(i+1)*es<=i'*es:=gO _ h;rw[km]at this;omega
      ·have:(i'+1)*es<=i*es:=gO _ h
       rw[km]at this;omega)]at g3
     exact stay i' j' z y (hh i' r j' z y g1 g2 g3) (λh=>e h.1.symm) (λ_ _=>True.intro) rfl (Vt how i' j')
  |bx how hG hb bc hl hh=>
   simp only[i9]at hm;split at hm
   ·rename_i Co;subst Co;simp only[bP]at hm;obtain⟨r1,hp,rfl⟩:=hm;cases hd with
    |bx Ka Kp=>
    obtain⟨a1,a2,a3⟩:=Bh hp;obtain⟨k',b1,b2,b3,b4,b5⟩:=hc.bu _ hb;have kk:=hc.eb _ [] (by simpa using how) hG (by intro j' r' e;simp at e);refine .bx (by simpa using kk.1) kk.2.1 b1 (by rw[b2];exact bc) (by rw[a1,b3];exact hl) λj' z y g2 g3=>?_
    rw[a3 j']at g2;split at g2
    ·rename_i hO;have:=b5 (j'-j) z y g2 (by rw[show 0+j+(j'-j)=j' by omega];exact g3);rw[show j+(j'-j)=j' by omega]at this;simpa[cS]using this
    ·rename_i hO;rw[b4 _ (by omega)]at g3;exact stay 0 j' z y (hh j' z y g2 g3) (by omega) (λ_ _=>True.intro) rfl (Vt how 0 j')
   ·cases hm
  |sl0 ob es=>
   cases hd
  |_=>simp[i9]at hm
 |cons s p ih=>
  obtain⟨i1,j1⟩:=s;intro l x x' v v0 h hm hw hd hc;simp only[jM,bW,bP]at hm;obtain⟨z0,hs,z1,hm,rfl⟩:=hm;obtain⟨idw,ow,kw,yw,w1,w2,w3,w4,w5⟩:=hw;have iw:Hd E ((cS l i1 j1).1,(cS l i1 j1).2++p) v0 i dS o:=by rw[zo];exact hd
  have Ve:E.ow dS=J (l.1,l.2++(i1,j1)::p):=by cases hd<;>assumption
  have stay:∀(i' j':Nat) (z:PV) (y:Value),PR E (J (cS l i' j')) z y->(i',j')≠(i1,j1)->PR E' (J (cS l i' j')) z y:=by
   intro i' j' z y hz hne;refine hz.move hc.g λid r h1 h2=>?_
   rw[zo]at h1⊢;have:=hc.eb id _ h1 h2 (Xi (λe=>hne e.symm));refine⟨this.1,this.2.1,this.2.2 λe=>?_⟩;subst e;rw[Ve]at h1;simp only[aT,cg,List.append_cancel_left_eq,V3,pM]at h1;exact hne (by rw[cg];exact⟨h1.1.1.symm,h1.1.2.symm⟩)
  have X1:tV ((i1,j1)::p) i j xs.length []:=by intro j' r' e;simp at e
  have ne1:∀id,E.ow id=J l->id≠dS:=by
   intro id h e;subst e;rw[h]at Ve;have:=gF (λz=>(z.getD l).2.length) Ve;simp at this
  cases h with
  |fK how hG hb bc hn rC gY hr hl hh=>
   simp only[iM,bW]at hs;obtain⟨r0,si,DN⟩:=hs;rename_i id off es n c k rows;cases w1 with
   |sl Ka Kp hi=>
   rw[hb]at w3;cases w3;have kk:=hc.eb _ [] (by simpa using how) hG X1;have hY:=(kk.2.2 (ne1 _ how)).trans hb;have hr0l:=hr r0 (eA si);have Cr:=ih (hh i1 r0 j1 z0 yw si DN w4) hm w5 iw hc.ch;simp only[De];have Kc:rows.getD i1 []=r0:=by simp[List.getD,si]
   rw[Kc];refine .fK (by simpa using kk.1) kk.2.1 hY bc (by simpa using hn) rC gY (λr im=>?_) hl λi' r j' z y g1 g2 g3=>?_
   ·rcases a1l im with h|rfl
    ·exact hr r h
    ·simpa using hr0l
   ·rw[Es]at g1;by_cases e:i1=i'
    ·subst e;rw[aD rfl]at g1;split at g1
     ·cases g1;rw[Es]at g2;by_cases e2:j1=j'
      ·subst e2;rw[aD rfl]at g2;split at g2
       ·cases g2;rw[w4]at g3;cases g3;exact Cr
       ·cases g2
      ·rw[aB e2]at g2;exact stay i1 j' z y (hh i1 r0 j' z y si g2 g3) (by simp;exact λe=>e2 e.symm)
     ·cases g1
    ·rw[aB e]at g1;exact stay i' j' z y (hh i' r j' z y g1 g2 g3) (by simp;exact λe'=>absurd e'.symm e)
  |bx how hG hb bc hl hh=>
   simp only[iM]at hs;split at hs
   ·rename_i Co;have Co:i1=0:=Co;subst Co;have hs:_=J z0:=hs;cases w1 with
    |bx Ka Kp=>
    rw[hb]at w3;cases w3;rw[gE]at w4;have kk:=hc.eb _ [] (by simpa using how) hG X1;have hY:=(kk.2.2 (ne1 _ how)).trans hb;have Cr:=ih (hh j1 z0 yw hs w4) hm w5 iw hc.ch;simp only[De];refine .bx (by simpa using kk.1) kk.2.1 hY bc (by simpa using hl) λj' z y g2 g3=>?_
    rw[Es]at g2;by_cases e2:j1=j'
    ·subst e2;rw[aD rfl]at g2;split at g2
     ·cases g2;rw[w4]at g3;cases g3;exact Cr
     ·cases g2
    ·rw[aB e2]at g2;exact stay 0 j' z y (hh j' z y g2 g3) (by simp;exact λe=>e2 e.symm)
   ·cases hs
  |sl0 ob es=>cases ob<;>simp[iM]at hs
  |_=>simp[iM]at hs
end Go.Pm
