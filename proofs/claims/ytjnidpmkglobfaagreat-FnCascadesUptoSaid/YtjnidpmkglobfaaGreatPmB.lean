import Derived.Test.YtjnidpmkglobfaaGreatPmA
open Option renaming none→aa,some→J
open Bool renaming true→O
set_option linter.defProp false
namespace Go.Pm
open Go.Am
def iB:=@congrArg
def kf:=@Nat.succ_mul
def pR:=@true_and
def Mk:=@Nat.zero_le
def Wl:=@List.cons.injEq
def a1D:=@List.mem_or_eq_of_mem_set
def a5L:=@List.getElem?_cons_succ
def iK:PV->Nat×Nat->Option PV
 | .sl O _ c,a=>(c[a.1]?).bind (·[a.2]?)
 | .bx b,a=>if a.1=0 then b[a.2]? else aa
 |_,_=>aa
def iV:PV->aB->Option PV
 |x,[]=>J x
 |x,a::p=>(iK x a).bind (iV · p)
def DP:PV->Nat×Nat->PV->PV
 | .sl O c b,a,y=>.sl O c (b.set a.1 ((b.getD a.1 []).set a.2 y))
 | .bx d,a,y=>.bx (d.set a.2 y)
 |x,_,_=>x
def jK:PV->aB->(PV->Option PV)->Option PV
 |x,[],f=>f x
 |x,a::p,f=>(iK x a).bind λy=>(jK y p f).map (DP x a)
def jV:List PV->Nat->List PV->Option (List PV)
 |cs,_,[]=>J cs
 |[],_,_::_=>aa
 |c::cs,n+1,b=>(jV cs n b).map (c:: ·)
 |_::cs,0,x::b=>(jV cs 0 b).map (x:: ·)
def iU(i j:Nat)(c:List PV):PV->Option PV
 | .sl O d b=>(b[i]?).bind λr=>(jV r j c).map λe=>.sl O d (b.set i e)
 | .bx f=>if i=0 then(jV f j c).map .bx else aa
 |_=>aa
def mp(i:Nat):PV->Option (List PV)
 | .sl O _ c=>c[i]?
 | .bx b=>if i=0 then J b else aa
 |_=>aa
variable{E:Env}{a:Nat×Nat}{i j o:Nat}{p:aB}
def AY:∀{cs b:List PV}{n:Nat}{r:List PV},jV cs n b=J r->r.length=cs.length/\(b≠[]->n+b.length<=cs.length)/\
 ∀j,r[j]? =if n<=j/\j<n+b.length then b[j-n]? else cs[j]? :=by
 intro cs;induction cs with
 |nil=>
  intro b n r h;cases b with
  |nil=>simp[jV]at h;subst h;exact⟨rfl,λh=>absurd rfl h,λj=>by rw[aA (by intro h;simp at h;omega)]⟩
  |cons x b=>simp[jV]at h
 |cons c cs ih=>
  intro b n r h;cases b with
  |nil=>simp[jV]at h;subst h;exact⟨rfl,λh=>absurd rfl h,λj=>by rw[aA (by intro h;simp at h;omega)]⟩
  |cons x b=>
   cases n with
   |zero=>
    simp only[jV,bL]at h;obtain⟨m,d,rfl⟩:=h;obtain⟨f,g,k⟩:=ih d;refine⟨by simp[f],λ_=>?_,λj=>?_⟩
    ·by_cases e:b=[]
     ·subst e;simp
     ·have:=g e;simp at this⊢;omega
    ·cases j with
     |zero=>simp
     |succ j=>
      simp only[a5L,k j];by_cases l:j<b.length
      ·rw[aE ⟨Mk _,by omega⟩,aE ⟨Mk _,by simp;omega⟩];simp
      ·rw[aA (by omega),aA (by simp;omega)]
   |succ n=>
    simp only[jV,bL]at h;obtain⟨m,d,rfl⟩:=h;obtain⟨f,g,k⟩:=ih d;refine⟨by simp[f],λ_=>?_,λj=>?_⟩
    ·have:=g (by simp);simp at this⊢;omega
    ·cases j with
     |zero=>rw[aA (by omega)];simp
     |succ j=>
      simp only[a5L,k j];by_cases l:n<=j/\j<n+(x::b).length
      ·rw[aE l,aE (by omega)];congr 1;omega
      ·rw[aA l,aA (by omega)]
inductive Hd (E:Env) (l:Nat×aB):Value->Nat->Nat->Nat->Prop where
 |sl {id off es n c:Nat}(how:E.ow id=J l) (hG:¬E.G id) {i j:Nat}(hi:i<n):Hd E l (.slice (J ⟨id,off,J es⟩) n c) i id (off+i*es)
 |bx {id:Nat}(how:E.ow id=J l) (hG:¬E.G id):Hd E l (.pointer (J ⟨id,0,aa⟩)) 0 id 0
def Wv(E:Env):Nat×aB->Value->aB->Value->Prop
 |_,v,[],b=>b=v
 |l,v,(i,j)::p,b=>∃id o k y,Hd E l v i id o/\(∀d,(∃off n c,v=.slice (J ⟨id,off,J d⟩) n c)->j<d)/\E.H.b id=J k/\k.cells[o+j]? =J y/\Wv E (cS l i j) y p b
def Hd.same{l:Nat×aB}{v:Value}{id b c:Nat}(h:Hd E l v i id o)(d:Hd E l v i b c):id=b/\o=c:=by
 cases h<;>cases d<;>exact⟨rfl,rfl⟩
def Wv.same :∀{p:aB}{l:Nat×aB}{v a b:Value},Wv E l v p a->Wv E l v p b->a=b:=by
 intro p;induction p with
 |nil=>intro l v a b h c;exact h.trans c.symm
 |cons s p ih=>
  obtain⟨i,j⟩:=s;intro l v a b h c;obtain⟨id,o,k,y,g,w,m,n,q⟩:=h;obtain⟨t,z,x,A,r,u,e,d,f⟩:=c;obtain⟨rfl,rfl⟩:=g.same r;rw[m]at e;cases e;rw[n]at d;cases d;exact ih q f
def ze(l:Nat×aB)(i j:Nat)(r:aB):((cS l i j).1,(cS l i j).2++r)=(l.1,l.2++(i,j)::r):=by simp[cS]
def EZ(l:Nat×aB):(l.1,l.2++[])=l:=by simp
def PR.get :∀{p:aB}{l:Nat×aB}{x x0:PV}{v:Value},PR E (J l) x v->iV x p=J x0->∃f,Wv E l v p f/\PR E (J (l.1,l.2++p)) x0 f:=by
 intro p;induction p with
 |nil=>intro l x x0 v h g;simp only[iV,aS]at g;subst g;exact⟨v,rfl,by rw[EZ];exact h⟩
 |cons s p ih=>
  obtain⟨i,j⟩:=s;intro l x x0 v h g;simp only[iV,bT]at g;obtain⟨y,b,D⟩:=g;cases h with
  |fN A u w H P M N L F z=>
   simp only[iK,bT]at b;obtain⟨r,t,C⟩:=b;rename_i id off d n c k Q;have K:i<n:=by have:=(cY.1 t).1;omega
   have q:j<d:=by have:=(cY.1 C).1;have:=L r (eD t);omega
   have G:off+i*d+j<k.cells.length:=by
    have b:(i+1)*d<=c*d:=gN _ (by omega);rw[kf]at b;omega
   obtain⟨f,B,m⟩:=ih (z i r j y _ t C (cI G)) D;rw[ze]at m;refine⟨f,⟨id,off+i*d,k,_,.sl (j:=j) A u K,?_,w,cI G,B⟩,m⟩;rintro I ⟨_,_,_,e⟩;cases e;exact q
  |bx A u w H F z=>
   simp only[iK]at b;split at b
   ·rename_i e;have e:i=0:=e;subst e;have q:j<_:=BS (cY.1 b).1 F;obtain⟨f,B,m⟩:=ih (z j y _ b (cI q)) D;rw[ze]at m;refine⟨f,⟨_,0,_,_,.bx A u,?_,w,by rw[gD];exact cI q,B⟩,m⟩;rintro I ⟨_,_,_,e⟩;cases e
   ·cases b
  |sl0 o d=>
   cases o<;>simp[iK]at b
  |_=>simp[iK]at b
def tQ(p:aB)(i j m:Nat)(r:aB):Prop:=∀b c,r=p++(i,b)::c->¬(j<=b/\b<j+m)
def tQ.tail{m:Nat}{r:aB}(h:tQ p i j m r):tQ (a::p) i j m (a::r):=λb c e=>h b c (by simpa using e)
def zq0{b:Nat×Nat}(h:a≠b){m:Nat}{r:aB}:tQ (a::p) i j m (b::r):=λc d e=>by
 simp only[tJ,Wl]at e;exact absurd e.1.symm h
structure LH (E E':Env) (l:Nat×aB) (p:aB) (i j:Nat) (xs:List PV) (dZ o:Nat):Prop where
 g:GK E E'
 ej:∀id r,E.ow id=J (l.1,l.2++r)->¬E.G id->tQ p i j xs.length r->E'.ow id=J (l.1,l.2++r)/\¬E'.G id/\(id≠dZ->E'.H.b id=E.H.b id)
 bn:∀k,E.H.b dZ=J k->∃k',E'.H.b dZ=J k'/\k'.rw=k.rw/\k'.cells.length=k.cells.length/\(∀q,¬(o+j<=q/\q<o+j+xs.length)->k'.cells[q]? =k.cells[q]?)/\
  ∀t x y,xs[t]? =J x->k'.cells[o+j+t]? =J y->PR E' (J (l.1,l.2++p++[(i,j+t)])) x y
def LH.ch{e:Env}{l:Nat×aB}{g:List PV}{f:Nat}(h:LH E e l (a::p) i j g f o):LH E e (cS l a.1 a.2) p i j g f o:=by
 refine⟨h.g,λid r b c d=>?_,λk u=>?_⟩
 ·rw[ze]at b⊢;exact h.ej id _ b c d.tail
 ·obtain⟨v,b,c,d,q,s⟩:=h.bn k u;refine⟨v,b,c,d,q,λt x y m n=>?_⟩;have:=s t x y m n;simpa[cS]using this
def PR.bV{Y:Env}{C:Nat}{Q:List PV}:∀{p:aB}{l:Nat×aB}{x x':PV}{v S:Value},PR E (J l) x v->jK x p (iU i j Q)=J x'->Wv E l v p S->
 Hd E (l.1,l.2++p) S i C o->LH E Y l p i j Q C o->PR Y (J l) x' v:=by
 intro p;induction p with
 |nil=>
  intro l x x' v S h m W hd t;have W:S=v:=W;subst W;rw[EZ]at hd;simp only[jK]at m
  have P:∀(c b:Nat) (z:PV) (y:Value),PR E (J (cS l c b)) z y->¬(c=i/\j<=b/\b<j+Q.length)->(∀id,E.ow id=J (cS l c b)\/True->True)->C=C->
   (∀id r,E.ow id=J ((cS l c b).1,(cS l c b).2++r)->¬E.G id->id≠C)->PR Y (J (cS l c b)) z y:=by
   intro c b z y hz U _ _ hne;refine hz.move t.g λid r q h2=>?_
   have b7:=hne id r q h2;rw[ze]at q⊢
   have:=t.ej id _ q h2 (by
    intro j2 r' e ⟨e1,F⟩;simp only[nb,Wl,b9]at e;obtain⟨⟨rfl,rfl⟩,_⟩:=e
    exact U ⟨rfl,e1,F⟩)
   exact⟨this.1,this.2.1,this.2.2 b7⟩
  have VE:E.ow C=J l->∀(c b:Nat) id r,E.ow id=J ((cS l c b).1,(cS l c b).2++r)->¬E.G id->id≠C:=by
   intro h0 c b id r q _ e;subst e;rw[h0]at q;have:=iB (λz=>(z.getD l).2.length) q;simp[cS]at this
  cases h with
  |fN w K G I U rW gZ R L A=>
   simp only[iU,bT,bL]at m;obtain⟨M,N,r1,hp,rfl⟩:=m;rename_i id off n nx cx1 k rows;cases hd with
   |sl J8 Ig hi=>
   obtain⟨a1,a2,a3⟩:=AY hp;obtain⟨k',b1,b2,b3,b4,b5⟩:=t.bn _ G;have hr0l:=R M (eD N);have u:=t.ej _ [] (by simpa using w) K (by intro b r' e;simp at e);refine .fN (by simpa using u.1) u.2.1 b1 (by rw[b2];exact I) (by simpa using U) rW gZ (λr iu=>?_) (by rw[b3];exact L) λc r b z y g d f=>?_
   ·rcases a1D iu with h|rfl
    ·exact R r h
    ·rw[a1];exact hr0l
   ·rw[Et]at g;have hlen:(c:Nat)*n+b=c*n+b:=rfl;by_cases e:i=c
    ·subst e;rw[aE rfl]at g;split at g
     ·cases g;rw[a3 b]at d;split at d
      ·rename_i gT;have:=b5 (b-j) z y d (by rw[show off+i*n+j+(b-j)=off+i*n+b by omega];exact f);rw[show j+(b-j)=b by omega]at this;simpa[cS]using this
      ·rename_i gT;rw[b4 _ (by omega)]at f;exact P i b z y (A i M b z y N d f) (by omega) (λ_ _=>True.intro) rfl (VE w i b)
     ·cases g
    ·rw[aA e]at g;have fJ:=R r (eD g);have GC:b<n:=by have:=(cY.1 d).1;omega
     have Ob:Q≠[]->j+Q.length<=n:=λhx=>by have:=a2 hx;omega
     rw[b4 _ (by
      rintro⟨q1,q2⟩;have hx:Q≠[]:=by intro h;subst h;simp at q2;omega
      have:=Ob hx;rcases Nat.lt_or_gt_of_ne e with h|h
      ·have:(i+1)*n<=c*n:=gN _ h;rw[kf]at this;omega
      ·have:(c+1)*n<=i*n:=gN _ h
       rw[kf]at this;omega)]at f
     exact P c b z y (A c r b z y g d f) (λh=>e h.1.symm) (λ_ _=>True.intro) rfl (VE w c b)
  |bx w K G I L A=>
   simp only[iU]at m;split at m
   ·rename_i T;subst T;simp only[bL]at m;obtain⟨r1,hp,rfl⟩:=m;cases hd with
    |bx J8 Ig=>
    obtain⟨a1,a2,a3⟩:=AY hp;obtain⟨k',b1,b2,b3,b4,b5⟩:=t.bn _ G;have u:=t.ej _ [] (by simpa using w) K (by intro b r' e;simp at e);refine .bx (by simpa using u.1) u.2.1 b1 (by rw[b2];exact I) (by rw[a1,b3];exact L) λb z y d f=>?_
    rw[a3 b]at d;split at d
    ·rename_i gT;have:=b5 (b-j) z y d (by rw[show 0+j+(b-j)=b by omega];exact f);rw[show j+(b-j)=b by omega]at this;simpa[cS]using this
    ·rename_i gT;rw[b4 _ (by omega)]at f;exact P 0 b z y (A b z y d f) (by omega) (λ_ _=>True.intro) rfl (VE w 0 b)
   ·cases m
  |sl0 ob n=>
   cases hd
  |_=>simp[iU]at m
 |cons s p ih=>
  obtain⟨B,H⟩:=s;intro l x x' v S h m W hd t;simp only[jK,bT,bL]at m;obtain⟨z0,D,z1,m,rfl⟩:=m;obtain⟨idw,ow,kw,yw,w1,w2,w3,X,w5⟩:=W;have il:Hd E ((cS l B H).1,(cS l B H).2++p) S i C o:=by rw[ze];exact hd
  have Tc:E.ow C=J (l.1,l.2++(B,H)::p):=by cases hd<;>assumption
  have P:∀(c b:Nat) (z:PV) (y:Value),PR E (J (cS l c b)) z y->(c,b)≠(B,H)->PR Y (J (cS l c b)) z y:=by
   intro c b z y hz hne;refine hz.move t.g λid r q h2=>?_
   rw[ze]at q⊢;have:=t.ej id _ q h2 (zq0 (λe=>hne e.symm));refine⟨this.1,this.2.1,this.2.2 λe=>?_⟩;subst e;rw[Tc]at q;simp only[aS,b9,List.append_cancel_left_eq,Wl,pR]at q;exact hne (by rw[b9];exact⟨q.1.1.symm,q.1.2.symm⟩)
  have a0O:tQ ((B,H)::p) i j Q.length []:=by intro b r' e;simp at e
  have ne1:∀id,E.ow id=J l->id≠C:=by
   intro id h e;subst e;rw[h]at Tc;have:=iB (λz=>(z.getD l).2.length) Tc;simp at this
  cases h with
  |fN w K G I U rW gZ R L A=>
   simp only[iK,bT]at D;obtain⟨M,N,Dt⟩:=D;rename_i id off n nx cx1 k rows;cases w1 with
   |sl J8 Ig hi=>
   rw[G]at w3;cases w3;have u:=t.ej _ [] (by simpa using w) K a0O;have gY:=(u.2.2 (ne1 _ w)).trans G;have hr0l:=R M (eD N);have Dd:=ih (A B M H z0 yw N Dt X) m w5 il t.ch;simp only[DP];have Ma:rows.getD B []=M:=by simp[List.getD,N]
   rw[Ma];refine .fN (by simpa using u.1) u.2.1 gY I (by simpa using U) rW gZ (λr iu=>?_) L λc r b z y g d f=>?_
   ·rcases a1D iu with h|rfl
    ·exact R r h
    ·simpa using hr0l
   ·rw[Et]at g;by_cases e:B=c
    ·subst e;rw[aE rfl]at g;split at g
     ·cases g;rw[Et]at d;by_cases F:H=b
      ·subst F;rw[aE rfl]at d;split at d
       ·cases d;rw[X]at f;cases f;exact Dd
       ·cases d
      ·rw[aA F]at d;exact P B b z y (A B M b z y N d f) (by simp;exact λe=>F e.symm)
     ·cases g
    ·rw[aA e]at g;exact P c b z y (A c r b z y g d f) (by simp;exact λe'=>absurd e'.symm e)
  |bx w K G I L A=>
   simp only[iK]at D;split at D
   ·rename_i T;have T:B=0:=T;subst T;have D:_=J z0:=D;cases w1 with
    |bx J8 Ig=>
    rw[G]at w3;cases w3;rw[gD]at X;have u:=t.ej _ [] (by simpa using w) K a0O;have gY:=(u.2.2 (ne1 _ w)).trans G;have Dd:=ih (A H z0 yw D X) m w5 il t.ch;simp only[DP];refine .bx (by simpa using u.1) u.2.1 gY I (by simpa using L) λb z y d f=>?_
    rw[Et]at d;by_cases F:H=b
    ·subst F;rw[aE rfl]at d;split at d
     ·cases d;rw[X]at f;cases f;exact Dd
     ·cases d
    ·rw[aA F]at d;exact P 0 b z y (A b z y d f) (by simp;exact λe=>F e.symm)
   ·cases D
  |sl0 ob n=>cases ob<;>simp[iK]at D
  |_=>simp[iK]at D
end Go.Pm
