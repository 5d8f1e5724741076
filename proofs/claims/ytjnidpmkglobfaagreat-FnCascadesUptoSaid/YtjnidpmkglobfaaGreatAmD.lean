import Derived.Test.YtjnidpmkglobfaaGreatAmC
open Option renaming none→aa,some→J
open Bool renaming true→O
set_option linter.defProp false
namespace Go.Am
def aS:=@Option.some.injEq
def bc:=@List.all_eq_true
def bL:=@Option.map_eq_some_iff
def b9:=@Prod.mk.injEq
def eD:=@List.mem_of_getElem?
def gD:=@Nat.zero_add
def i9:=@Nat.add_assoc
def ja:=@if_false
def lL:=@Bool.false_eq_true
def sk:=@Nat.add_zero
def Eu:=@Nat.le_succ
def Qs:=@Nat.add_comm
def a5G:=@List.drop_succ_cons
section
variable {c:rV}{m:Mu}{Y:FR}{H:AH}{a:Act}{w:World}{P:Program}
variable{b o t:Nat}{cells:List Value}{v:Value}{x:Operand}
def PK(h:cD v=O):V m v v:=by
 cases v with
 |bool b=>exact .bool b
 |int k n=>exact .int k n
 |string s=>exact .str s
 |nilFunc=>exact .fX
 |nilIface=>exact .gU
 |pointer p=>cases p with
  |none=>exact .gy
  |some p=>simp[cD]at h
 |slice p n k=>
  cases p with
  |some p=>simp[cD]at h
  |none=>
   cases n with
   |succ n=>simp[cD]at h
   |zero=>
    cases k with
    |succ k=>simp[cD]at h
    |zero=>exact .mV aa
 |agg cs=>
  refine .agg rfl λi x y d e=>?_
  rw[d]at e;cases e;simp only[cD,bc]at h;have:=h x (eD d);cases x with
  |bool b=>exact .bool b
  |int k n=>exact .int k n
  |string s=>exact .str s
  |nilFunc=>exact .fX
  |nilIface=>exact .gU
  |pointer p=>cases p with
   |none=>exact .gy
   |some p=>simp at this
  |slice p n k=>
   cases p with
   |some p=>simp at this
   |none=>
    cases n with
    |succ n=>simp at this
    |zero=>
     cases k with
     |succ k=>simp at this
     |zero=>exact .mV aa
  |_=>simp at this
 |_=>simp[cD]at h
def gz(r:aT c m Y H a w)(h:aZ Y x=J v):V m v (a.eval x):=by
 cases x with
 |tmp t=>
  simp only[aZ]at h;split at h
  ·rename_i y l;cases h;have d:=r.f t;unfold RF at d;rw[l]at d;exact d
  ·cases h
 |const k=>
  simp only[aZ]at h;split at h
  ·rename_i j;cases h;exact PK j
  ·cases h
 |func f=>
  simp only[aZ,aS]at h;subst h;exact .func _ rfl (λi x y e=>by simp at e) rfl (λi x y e=>by simp at e)
 |global g=>simp[aZ]at h
def VA(m:Mu)(Y:FR)(d:Array Value):FV->Value->Prop
 | .v x,y=>V m x y
 | .lp s off,y=>∃cells b,Y s=.loc cells/\d.getD s undef=.pointer (J ⟨b,0,aa⟩)/\y=.pointer (J ⟨b,off,aa⟩)
 |_,_=>False
def tE(r:aT c m Y H a w){v:FV}(h:bO Y x=J v):VA m Y a.tmps v (a.eval x):=by
 cases x with
 |tmp t=>
  simp only[bO]at h;have d:=r.f t;unfold RF at d;split at h
  ·rename_i y j;cases h;rw[j]at d;exact d
  ·rename_i y j;cases h;rw[j]at d;obtain⟨b,cs,e,i,_⟩:=d;exact⟨_,b,j,i,i⟩
  ·rename_i s o j;split at h
   ·rename_i cells l;cases h;rw[j]at d;obtain⟨b,k1,k2⟩:=d cells l;exact⟨cells,b,l,k1,k2⟩
   ·cases h
  ·cases h
 |const k=>
  simp only[bO,bL]at h;obtain⟨y,i,rfl⟩:=h;exact gz r i
 |func f=>
  simp only[bO,bL]at h;obtain⟨y,i,rfl⟩:=h;exact gz r i
 |global g=>simp[bO,aZ]at h
def Mu.push(m:Mu)(l:Loc):Mu:=⟨m.n+1,λi=>if i=m.n then l else m.f i⟩
def Mu.N6(m:Mu)(l:Loc):m.le (m.push l):=⟨Eu _,λi d=>by simp[Mu.push,tF d]⟩
def Mu.zQ(m:Mu)(l:Loc):(m.push l).f m.n=l:=by simp[Mu.push]
def gf.push(r:gf m H w){l:Loc}{k:mP}{cs:Array Value}{e:TypeId}{fz:Nat×Nat}(K:w.heap[l.bn]? =J (.cells cs e fz))(L:l.base+l.size<=cs.size)
(M:k.cells.length<=l.size)(N:k.rw=O->fz=(0,0))(Q:∀(i:Nat) (v:Value),k.cells[i]? =J v->∃c,cs[l.base+i]? =J c/\V m v c)
(B:∀id d,H.b id=J d->(k.rw=O\/d.rw=O)->(m.f id).bn≠l.bn):gf (m.push l) (H.push k) w:=by
 have y:=m.N6 l;have q:∀id d,H.b id=J d->(m.push l).f id=m.f id:=λid d h=>y.2 id (by rw[r.n];exact r.lt id d h)
 have p:∀id d,(H.push k).b id=J d->(id=H.n/\d=k)\/(id<H.n/\H.b id=J d):=by
  intro id d h;simp only[AH.push]at h;split at h
  ·cases h;exact .inl ⟨‹_›,rfl⟩
  ·exact .inr ⟨r.lt id d h,h⟩
 have z:(m.push l).f H.n=l:=by rw[<-r.n];exact m.zQ l
 refine⟨by simp[Mu.push,AH.push,r.n],λid d h=>?_,λid d h=>?_,λi j n g R f C u=>?_⟩
 ·rcases p id d h with⟨rfl,_⟩|⟨h,_⟩<;>simp[AH.push]<;>omega
 ·rcases p id d h with⟨rfl,rfl⟩|⟨_,h⟩
  ·rw[z];exact⟨cs,e,fz,K,L,M,N,λi v A=>let⟨c,a,b⟩:=Q i v A;⟨c,a,b.mono y⟩⟩
  ·rw[q id d h];obtain⟨cs,e,fz,D,E,F,G,I⟩:=r.cells id d h;exact⟨cs,e,fz,D,E,F,G,λi v A=>let⟨c,a,b⟩:=I i v A;⟨c,a,b.mono y⟩⟩
 ·rcases p i n R with⟨rfl,rfl⟩|⟨_,s⟩
  ·rcases p j g f with⟨rfl,_⟩|⟨_,f⟩
   ·exact absurd rfl C
   ·rw[z,q j g f];exact λe=>B j g f (.inl u) e.symm
  ·rcases p j g f with⟨rfl,rfl⟩|⟨_,f⟩
   ·rw[z,q i n s];exact B i n s (.inr u)
   ·rw[q i n s,q j g f];exact r.apart i j n g s f C u
def RF.mono{j:Mu}(i:m.le j){k:Array Value}(h:RF m w Y k t):RF j w Y k t:=by
 unfold RF at h⊢;split at h
 ·exact h.mono i
 ·exact h
 ·obtain⟨b,cs,e,d,f,g⟩:=h;exact⟨b,cs,e,d,f,g.mono i⟩
 ·obtain⟨b,cs,e,d,f,g,l⟩:=h;exact⟨b,cs,e,d,f,g.mono i,l⟩
 ·exact h
def YL(r:aT c m Y H a w){f es:Nat}(K:Y t=.ls f es cells):
 ∃C,m.le C/\aT c C (Y.put t (.v (.slice (J ⟨H.n,0,J es⟩) f f))) (H.push ⟨O,cells⟩) a w/\V C (.slice (J ⟨H.n,0,J es⟩) f f) (a.tmps.getD t undef):=by
 have B:=r.f t;unfold RF at B;rw[K]at B;obtain⟨b,cs,e,F,R,G,h4⟩:=B;have A:cP Y a.tmps t=J b:=by simp[cP,K,F]
 have l:=m.N6 ⟨b,0,cs.size⟩;have j:=m.zQ ⟨b,0,cs.size⟩;rw[r.h.n]at j;have T:cells.length=cs.size:=by have:=G.1;simpa using this
 have S:gf (m.push ⟨b,0,cs.size⟩) (H.push ⟨O,cells⟩) w:=
  r.h.push (cs:=cs) (e:=e) (fz:=(0,0)) R (by simp) (by simp[T]) (λ_=>rfl)
   (λix1 v W=>by
     obtain⟨yx1,X,y⟩:=G.get W
     exact⟨yx1,by simpa using X,y⟩)
   (λid k d _=>r.apart t b id k A d)
 have y:V (m.push ⟨b,0,cs.size⟩) (.slice (J ⟨H.n,0,J es⟩) f f) (a.tmps.getD t undef):=by
  rw[F]
  have:=V.slice (m:=m.push ⟨b,0,cs.size⟩) (id:=H.n) (off:=0) (es:=es) (n:=f) (c:=f) (o:=0) (cap:=f) (by simp[Mu.push,r.h.n]) (cq _) (cq _)
   (λ_=>by rw[j]) (by rw[j];simp;omega)
  rw[j]at this;exact this
 have q:∀s g,cP (Y.put t (.v (.slice (J ⟨H.n,0,J es⟩) f f))) a.tmps s=J g->s≠t/\cP Y a.tmps s=J g:=by
  intro s g h;by_cases es:s=t
  ·subst es;simp[cP,j6]at h
  ·refine⟨es,?_⟩;simpa[cP,pO Y _ es]using h
 refine⟨_,l,⟨S,λs=>?_,r.d,r.sz,λs D g h Q=>r.own s D g (q _ _ h).2 (q _ _ Q).2,λs g id k h d=>?_,λs g h=>r.lR s g (q _ _ h).2,λid k d M=>?_,r.ej,r.grow,r.m9,λid k d=>?_,r.mD,Mu.le_trans r.le l,r.io⟩,y⟩
 ·by_cases E:s=t
  ·subst E;unfold RF;simp only[j6];exact y
  ·have i:=(r.f s).mono l;unfold RF at i⊢;rw[pO Y _ E];split at i
   ·exact i
   ·exact i
   ·exact i
   ·exact i
   ·rename_i D o _;intro N z;by_cases u:D=t
    ·subst u;rw[j6]at z;cases z
    ·rw[pO Y _ u]at z;exact i N z
 ·obtain⟨U,I⟩:=q _ _ h;simp only[AH.push]at d;split at d
  ·rename_i p;subst p;rw[j];intro u;have L:b=g:=u;subst L;exact U (r.own s t _ I A)
  ·rw[l.2 id (by rw[r.h.n];exact r.h.lt id k d)];exact r.apart s g id k I d
 ·simp only[AH.push]at d;split at d
  ·rename_i p;subst p;rw[j];exact r.m9 _ (r.lR t b A)
  ·rw[l.2 id (by rw[r.h.n];exact r.h.lt id k d)];exact r.jB id k d M
 ·simp only[AH.push]at d;split at d
  ·rename_i p;subst p;rw[j];exact r.mD _ (r.lR t b A)
  ·rw[l.2 id (by rw[r.h.n];exact r.h.lt id k d)];exact r.mU id k d
def zuA(r:aT c m Y H a w)(K:Y t=.loc cells):
 ∃C,m.le C/\aT c C (Y.put t (.v (.pointer (J ⟨H.n,0,aa⟩)))) (H.push ⟨O,cells⟩) a w/\V C (.pointer (J ⟨H.n,0,aa⟩)) (a.tmps.getD t undef):=by
 have B:=r.f t;unfold RF at B;rw[K]at B;obtain⟨b,cs,e,F,R,G⟩:=B;have z:cP Y a.tmps t=J b:=by simp[cP,K,F]
 have i:=m.N6 ⟨b,0,cs.size⟩;have l:=m.zQ ⟨b,0,cs.size⟩;rw[r.h.n]at l;have T:cells.length=cs.size:=by have:=G.1;simpa using this
 have S:gf (m.push ⟨b,0,cs.size⟩) (H.push ⟨O,cells⟩) w:=
  r.h.push (cs:=cs) (e:=e) (fz:=(0,0)) R (by simp) (by simp[T]) (λ_=>rfl)
   (λix1 v W=>by
     obtain⟨y,X,q⟩:=G.get W
     exact⟨y,by simpa using X,q⟩)
   (λid k d _=>r.apart t b id k z d)
 have q:V (m.push ⟨b,0,cs.size⟩) (.pointer (J ⟨H.n,0,aa⟩)) (a.tmps.getD t undef):=by
  rw[F];have:=V.ptr (m:=m.push ⟨b,0,cs.size⟩) (id:=H.n) (off:=0) (by simp[Mu.push,r.h.n]);rw[l]at this;exact this
 have n:∀s f,cP (Y.put t (.v (.pointer (J ⟨H.n,0,aa⟩)))) a.tmps s=J f->s≠t/\cP Y a.tmps s=J f:=by
  intro s f h;by_cases A:s=t
  ·subst A;simp[cP,j6]at h
  ·refine⟨A,?_⟩;simpa[cP,pO Y _ A]using h
 refine⟨_,i,⟨S,λs=>?_,r.d,r.sz,λs D f h Q=>r.own s D f (n _ _ h).2 (n _ _ Q).2,λs f id k h d=>?_,λs f h=>r.lR s f (n _ _ h).2,λid k d M=>?_,r.ej,r.grow,r.m9,λid k d=>?_,r.mD,Mu.le_trans r.le i,r.io⟩,q⟩
 ·by_cases E:s=t
  ·subst E;unfold RF;simp only[j6];exact q
  ·have g:=(r.f s).mono i;unfold RF at g⊢;rw[pO Y _ E];split at g
   ·exact g
   ·exact g
   ·exact g
   ·exact g
   ·rename_i D o _;intro N u;by_cases p:D=t
    ·subst p;rw[j6]at u;cases u
    ·rw[pO Y _ p]at u;exact g N u
 ·obtain⟨U,I⟩:=n _ _ h;simp only[AH.push]at d;split at d
  ·rename_i j;subst j;rw[l];intro p;have L:b=f:=p;subst L;exact U (r.own s t _ I z)
  ·rw[i.2 id (by rw[r.h.n];exact r.h.lt id k d)];exact r.apart s f id k I d
 ·simp only[AH.push]at d;split at d
  ·rename_i j;subst j;rw[l];exact r.m9 _ (r.lR t b z)
  ·rw[i.2 id (by rw[r.h.n];exact r.h.lt id k d)];exact r.jB id k d M
 ·simp only[AH.push]at d;split at d
  ·rename_i j;subst j;rw[l];exact r.mD _ (r.lR t b z)
  ·rw[i.2 id (by rw[r.h.n];exact r.h.lt id k d)];exact r.mU id k d
def zvF:∀{f:List Nat}{m:Mu}{Y:FR}{H:AH}{e:FR}{d:AH},aT c m Y H a w->pd f Y H=J (e,d)->∃g,aT c g e d a w:=by
 intro f;induction f with
 |nil=>intro m Y H e d r h;simp only[pd,aS,b9]at h;obtain⟨rfl,rfl⟩:=h;exact⟨m,r⟩
 |cons t f ih=>
  intro m Y H e d r h;simp only[pd]at h;split at h
  ·rename_i cells i;obtain⟨g,_,j,_⟩:=zuA r i;exact ih j h
  ·cases h
def U7(r:aT c m Y H a w){l:FR}{j:AH}(h:bm Y H x=J (v,l,j)):
 ∃i,m.le i/\aT c i l j a w/\V i v (a.eval x):=by
 cases x with
 |tmp t=>
  simp only[bm]at h;split at h
  ·rename_i y e;cases h;exact⟨m,m.le_refl,r,gz r (x:=.tmp t) (by simp[aZ,e])⟩
  ·rename_i p n cells e;cases h;exact YL r e
  ·cases h
 |const k=>
  simp only[bm,bL,b9]at h;obtain⟨y,d,rfl,rfl,rfl⟩:=h;exact⟨m,m.le_refl,r,gz r d⟩
 |func f=>
  simp only[bm,bL,b9]at h;obtain⟨y,d,rfl,rfl,rfl⟩:=h;exact⟨m,m.le_refl,r,gz r d⟩
 |global g=>simp[bm,aZ]at h
def VT{g:List Operand}:∀{m:Mu}{Y:FR}{H:AH},aT c m Y H a w->∀{f:List Value}{e:FR}{d:AH},cz Y H g=J (f,e,d)->
 ∃i,m.le i/\aT c i e d a w/\Vl i f (g.map a.eval):=by
 induction g with
 |nil=>
  intro m Y H r f e d h;simp only[cz,aS,b9]at h;obtain⟨rfl,rfl,rfl⟩:=h;exact⟨m,m.le_refl,r,.nil m⟩
 |cons x g ih=>
  intro m Y H r f e d h;simp only[cz]at h;split at h
  ·rename_i v C z l;split at h
   ·rename_i E j n;obtain⟨B,A⟩:=j;cases h;obtain⟨D,p,j,q⟩:=U7 r l;obtain⟨u,k,y,s⟩:=ih j n;exact⟨u,Mu.le_trans p k,y,.cons (q.mono k) s⟩
   ·cases h
  ·cases h
def jx{t:TypeId}{g:Bool}{f j:Nat}{z:List Value}(h:cE P t=J (g,f,j,z)):
 ∃i e,P.info? t=J i/\i.zero=J e/\e.cells.toList=z/\i.size=f/\i.bytes=j/\(isAgg t).run P w=.ok g w/\(sizeOf t).run P w=.ok f w:=by
 unfold cE at h;split at h
 ·rename_i i d l hd;simp only[bL,b9]at h;obtain⟨e,r,n,k,p,q⟩:=h;refine⟨i,e,l,r,q,k,p,?_,?_⟩
  ·subst n;simp only[isAgg,underlying,Sem.run_bind,run_program,Result.andThen_ok,hd,Sem.run_pure];split<;>simp_all
  ·simp[sizeOf,typeInfo,l,k]
 ·cases h
def Sj:∀{n:Nat}{d l:List Value},uw n d=J l->l=d.take n/\n<=d.length:=by
 intro n;induction n with
 |zero=>intro d l h;simp[uw]at h;simp[h]
 |succ n ih=>
  intro d l h;cases d with
  |nil=>simp[uw]at h
  |cons x d=>
   simp only[uw,bL]at h;obtain⟨g,e,rfl⟩:=h;obtain⟨rfl,f⟩:=ih e;simp;omega
def LU:∀{cs d:List Value}{n:Nat}{r:List Value},gk cs n d=J r->d=[]/\r=cs\/n+d.length<=cs.length/\r=cs.take n++d++cs.drop (n+d.length):=by
 intro cs;induction cs with
 |nil=>
  intro d n r h;cases d with
  |nil=>simp[gk]at h;exact .inl ⟨rfl,h⟩
  |cons x d=>simp[gk]at h
 |cons c cs ih=>
  intro d n r h;cases d with
  |nil=>simp[gk]at h;exact .inl ⟨rfl,h.symm⟩
  |cons x d=>
   cases n with
   |zero=>
    simp only[gk,bL]at h;obtain⟨i,g,rfl⟩:=h;rcases ih g with⟨rfl,rfl⟩|⟨f,rfl⟩
    ·right;simp
    ·right;refine⟨by simp at f⊢;omega,?_⟩;simp
   |succ n=>
    simp only[gk,bL]at h;obtain⟨i,g,rfl⟩:=h;rcases ih g with⟨f,_⟩|⟨f,rfl⟩
    ·cases f
    ·right;refine⟨by simp at f⊢;omega,?_⟩;have e:n+1+(x::d).length=(n+(x::d).length)+1:=by omega
     rw[e,a5G];simp
def tr(m:Mu)(w:World)(cells:List Value)(b o:Nat):Prop:=∀(i:Nat) (v:Value),cells[i]? =J v->∃y,w.cell? ⟨b,o+i,aa⟩=J y/\V m v y
def xh(b o i:Nat):(⟨b,o,aa⟩:Addr).add i=⟨b,o+i,aa⟩:=by unfold Addr.add;split<;>simp_all
def tr.list(h:tr m w cells b o):∃d,Vl m cells d/\∀(j:Nat) (v:Value),d[j]? =J v->w.cell? ((⟨b,o,aa⟩:Addr).add j)=J v:=by
 induction cells generalizing o with
 |nil=>exact⟨[],.nil m,λj v h=>by simp at h⟩
 |cons x p ih=>
  obtain⟨y,n,l⟩:=h 0 x rfl
  obtain⟨d,f,g⟩:=ih (o:=o+1) (λi v k=>by
   have:=h (i+1) v (by simpa using k)
   simpa[i9,Qs 1 i]using this)
  refine⟨y::d,.cons l f,λj v e=>?_⟩;cases j with
  |zero=>simp at e;subst e;rw[xh];simpa using n
  |succ j=>have:=g j v (by simpa using e);rw[xh]at this⊢;simpa[i9,Qs 1 j]using this
def tr.take(h:tr m w cells b o)(n:Nat):tr m w (cells.take n) b o:=λi v d=>by
 rw[my]at d;split at d
 ·exact h i v d
 ·cases d
def tr.drop(h:tr m w cells b o)(n:Nat):tr m w (cells.drop n) b (o+n):=λi v d=>by
 rw[jq]at d;have:=h _ v d;simpa[i9]using this
def gf.row(r:gf m H w){id:Nat}{k:mP}(h:H.b id=J k):tr m w k.cells (m.f id).bn (m.f id).base:=λi v g=>by
 obtain⟨cs,e,n,d,_,_,_,f⟩:=r.cells id k h;obtain⟨y,l,j⟩:=f i v g;exact⟨y,by simp[World.cell?,d,l],j⟩
def RI{cs:Array Value}{e:TypeId}{d:Nat×Nat}(h:w.heap[b]? =J (.cells cs e d))(j:Vl m cells cs.toList):tr m w cells b 0:=λi v g=>by
 obtain⟨y,k,f⟩:=j.get g;exact⟨y,by simp[World.cell?,h];simpa using k,f⟩
def zsM{t:TypeId}(d:nv P t (J cells)=J v)(r:tr m w cells b o):
 ∃y,(loadVar t ⟨b,o,aa⟩).run P w=.ok y w/\V m v y:=by
 unfold nv at d;split at d
 ·rename_i n g cs k j;obtain⟨u,z⟩:=g;cases j;simp only[bL]at d;obtain⟨l,A,rfl⟩:=d;obtain⟨rfl,E⟩:=Sj A;obtain⟨i,D,B,_,_,_,_,h,s⟩:=jx (w:=w) k;obtain⟨p,e,f⟩:=(r.take n).list;have C:p.length=n:=by rw[<-e.1];simp;omega
  have q:=run_loadCells_list (P:=P) w ⟨b,o,aa⟩ p f;rw[C]at q;refine⟨.agg p.toArray,?_,.agg (by simpa using e.1) (by simpa using e.2)⟩;simp only[loadVar,Sem.run_bind,h,Result.andThen_ok,e7,s,q,Sem.run_pure]
 ·rename_i n g x F k j;obtain⟨u,z⟩:=g;cases j;cases d;obtain⟨i,D,B,_,_,_,_,h,s⟩:=jx (w:=w) k;obtain⟨y,f,e⟩:=r 0 v rfl;refine⟨y,?_,e⟩;simp only[sk]at f;simp only[loadVar,Sem.run_bind,h,Result.andThen_ok,lL,ja,run_load,f]
 ·cases d
def zqc(r:aT c m Y H a w)(h:mI Y H x=J cells):
 ∃b o,a.eval x=.pointer (J ⟨b,o,aa⟩)/\tr m w cells b o:=by
 unfold mI at h;split at h
 ·rename_i s off f;split at h
  ·rename_i cs n;cases h;obtain⟨A,b,B,i,j⟩:=tE r f;have d:=r.f s;unfold RF at d;rw[n]at d;obtain⟨q,z,e,k1,k2,k3⟩:=d;rw[i]at k1;cases k1;have:=(RI k2 k3).drop off;simp only[gD]at this;exact⟨b,off,j,this⟩
  ·cases h
 ·rename_i id off f;have p:=tE r f;have g:V m (.pointer (J ⟨id,off,aa⟩)) (a.eval x):=p;simp only[AH.load,bL]at h;obtain⟨k,l,rfl⟩:=h;generalize a.eval x=y at g⊢;cases g with
  |ptr u=>exact⟨_,_,rfl,(r.h.row l).drop off⟩
 ·cases h
end
end Go.Am
