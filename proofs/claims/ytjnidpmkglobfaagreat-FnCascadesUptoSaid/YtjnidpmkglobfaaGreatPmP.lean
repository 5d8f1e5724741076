import Derived.Test.YtjnidpmkglobfaaGreatPmO
open Bool renaming false→Z,true→O
open Option renaming none→aa,some→J
set_option linter.defProp false
namespace Go.Pm
def Wn:=@Nat.le_of_not_lt
def Wo:=@List.length_drop
def a1K:=@List.any_eq_true
set_option linter.unusedVariables false
set_option linter.unusedSimpArgs false
open Go.Am
section
variable {W:Nat}{R:List (Nat×Value)}{N E X:Env}{S:ae}{Y U:FR}{c:aW}{P:Program}
def MF(t:Nat)(y:PF):Nat:=(bA y).getD t
def QU(E X:Env)(s:Nat):Prop:=∀id p,E.ow id=J (s,p)->¬E.G id->X.G id/\∀k,E.H.b id=J k->∃a,X.H.b id=J a/\a=k
variable{K:ae->Prop}{K':FR->AH->Prop}{args:Array Operand}{f:Operand}{l:List (Md×Nat×Operand)}{T:Nat}{o:Oper}{L:Nat->Prop}{ts:Array TypeId}{v:Value}{xs:List Operand}
def QU.ok{s:Nat}{p:aB}(h:QU E X s):yK E X (J (s,p)):=λid r g i=>by
 obtain⟨a,b⟩:=h id (p++r) g i;exact⟨a,λk j=>by obtain⟨m,d,e⟩:=b k j;exact⟨m,d,by rw[e]⟩⟩
def PR.MS{l:Nat×aB}{x:PV}(h:PR E (J l) x v)(a:GK E X)(d:bI x=O->yK E X (J l)):PR X aa (drop x) v:=by
 by_cases b:bI x=O
 ·exact h.freeze a (d b)
 ·exact(h.free (by simpa using b)).freeze a True.intro
def zxN(r:au W R N E S Y){t:Nat}{y:PV}(d:d5 S (S t)=J y)(M:y≠.az)(A:Y t=.v v)(D:GK E X)(e:bI y=O->QU E X (MF t (S t))):PR X aa (drop y) v:=by
 have k:=r.f t;cases z:S t with
 |v x=>
  rw[z]at d k e;simp only[d5,aS]at d;subst d;obtain⟨w,g,u⟩:=gu k M;rw[A]at g;cases g;exact u.MS D λh=>(e h).ok
 |rf s p=>
  rw[z]at d k e;simp only[d5]at d;obtain⟨w,g,u⟩:=k;rw[A]at g;cases g;obtain⟨v',H,F⟩:=r.at d M (jb r u d);have:=H.same u;subst this;exact F.MS D λh=>(e h).ok
 |rv s p lo hi=>
  rw[z]at d k e;obtain⟨zx1,Q,m⟩:=bT.1 d;unfold Fx at m;split at m
  ·rename_i o es rows;split at m
   ·rename_i hb;simp only[aS]at m;subst m;rw[zkl]at e;rw[zi9,List.map_drop,List.map_take];rcases k with⟨G,C,rfl,rfl⟩|⟨id,off,es2,nx,cc,G,C,h3,I⟩
    ·rw[A]at C;cases C;simpa using PR.sl0 (E:=X) (l:=aa) Z es
    ·rw[A]at I;cases I;obtain⟨v',H,F⟩:=r.at Q (by simp) (jb r G Q);have:=H.same G;subst this;have ee:=Af F;subst ee;have hd:=F.MS D λh=>(e (by rw[zkl]at h;exact h)).ok
     rw[zi9]at hd;obtain⟨_,_,_,e3⟩:=hd.cut C h3;exact e3
   ·cases m
  ·cases m
 |ra s p i j nx=>
  rw[z]at d k e;obtain⟨row,ey,B⟩:=bT.1 d;unfold yu at B;split at B
  ·rename_i da;simp only[aS]at B;subst B;obtain⟨vs,g,⟨u,g3⟩,g4⟩:=k;rw[A]at g;cases g;rw[zo5];refine .agg (by simp;simp at u;omega) λq x w a b=>?_
   obtain⟨x0,n,rfl⟩:=mM a;have hq:=n;rw[my]at n;split at n
   ·rw[jq]at n;have fm:=SW r (s:=s) (p:=p) (i:=i) (q:=j+q) ey n (g4 q w b);refine fm.MS D λh=>(e ?_).ok
    rw[zio,a1K];exact⟨x0,eD hq,h⟩
   ·cases n
  ·cases B
 |_=>rw[z]at d;simp[d5]at d
def K3(l:List (Md×Nat×Operand))(k:Nat):Bool:=
 match l[k]? with
 |some (.mv,_)|some (.io,_)=>O
 |_=>Z
def Oh(W T:Nat)(l:List (Md×Nat×Operand))(x:Nat×aB):Option (Nat×aB):=
 if x.1=W then match x.2 with
  |(i,k)::r=>if i=0/\K3 l k=O then J (T+k,r)else aa
  |[]=>aa
 else aa
def Env.callee(E:Env)(W T:Nat)(l:List (Md×Nat×Operand))(L:Nat->Prop):Env:=
 ⟨E.H,λid=>E.G id\/∃s p,E.ow id=J (s,p)/\L s,λid=>(E.ow id).bind (Oh W T l)⟩
def La(W T n M:Nat)(x:Nat×aB):Nat×aB:=if x.1=n then(W,(0,M)::x.2)else(W,(0,x.1-T)::x.2)
def Env.back(E b a:Env)(W T n M:Nat):Env:=
 ⟨a.H,λid=>E.G id\/(a.G id/\¬b.G id),λid=>if((b.ow id).isNone&&decide (id<E.H.n))=O then E.ow id else(a.ow id).map (La W T n M)⟩
def zx5(d:ew E) :ew (E.callee W T l L):=⟨d.wf,λid e=>by
 obtain⟨b,g⟩:=d.fresh id e;refine⟨by simp[Env.callee,b],?_⟩;rintro(a|⟨s,p,a,_⟩)
 ·exact g a
 ·rw[b]at a;cases a⟩
def zwT :GK E (E.callee W T l L):=λ_ h=>⟨.inl h,λk a=>⟨k,a,rfl⟩⟩
def zwc(rx1:au W R N E S Y){n M:Nat}(Rb:∀s,L s->s<W){r:Env}(Q:ew r)(t:gi (E.callee W T l L) r):
 let m:=E.back (E.callee W T l L) r W T n M
 ew m/\gi E m/\(∀s,s<W->dC E m (J (s,[])) (J (s,[])))/\
  (∀a b:Nat×aB,(∀q,La W T n M (a.1,a.2++q)=(b.1,b.2++q))->dC r m (J a) (J b))/\((∀s,¬L s)->GK r m):=by
 intro m;have I:=rx1.ok
 have hH:∀id,E.G id->r.H.b id=E.H.b id\/E.H.b id=aa:=λid h=>by
  cases hb:E.H.b id with
  |none=>exact .inr rfl
  |some k=>
   obtain⟨H,w,z⟩:=(t.g id (.inl h)).2 k hb;rw[z]at w;exact .inl w
 have zT:∀id a,r.ow id=J a->¬(((E.callee W T l L).ow id).isNone&&decide (id<E.H.n))=O:=λid a h B=>by
  simp only[bC,Option.isNone_iff_eq_none,eE]at B;have:=(t.own id B.2 B.1).1;rw[this]at h;cases h
 have G:∀id,id<E.H.n->(∀p,E.ow id≠J (W,p))->m.ow id=E.ow id/\r.ow id=aa/\r.H.b id=E.H.b id/\(r.G id->(E.callee W T l L).G id):=λid g j=>by
  have F:(E.callee W T l L).ow id=aa:=by
   simp only[Env.callee];cases ho:E.ow id with
   |none=>rfl
   |some x=>
    obtain⟨s,p⟩:=x;have:s≠W:=λe=>j p (by rw[ho,e])
    simp[Oh,this]
  obtain⟨a,b,u⟩:=t.own id g F;refine⟨?_,a,b,u⟩;simp only[m,Env.back,F];rw[aE (by simp[g])]
 refine⟨⟨Q.wf,λid D=>?_⟩,⟨t.n,λid y=>⟨.inl y,λk C=>?_⟩,λid g j=>?_⟩,λs mC id p g j=>?_,λa b nZ id q g j=>?_,λqU id y=>?_⟩
 ·obtain⟨g,j⟩:=Q.fresh id D;have Y8:E.H.n<=id:=ii t.n D;refine⟨?_,?_⟩
  ·simp only[m,Env.back];rw[aA (by simp;intro _;omega),g];rfl
  ·rintro(i|⟨i,_⟩)
   ·exact(I.fresh id Y8).2 i
   ·exact j i
 ·obtain⟨H,w,z⟩:=(t.g id (.inl y)).2 k C;exact⟨H,w,z⟩
 ·obtain⟨a,b,u,d⟩:=G id g (λp h=>by rw[j]at h;cases h);refine⟨a.trans j,u,?_⟩;rintro(i|⟨i,A⟩)
  ·exact i
  ·exact absurd (d i) A
 ·have g:E.ow id=J (s,p):=by simpa using g
  have hlt:=I.lt g;obtain⟨a,b,u,d⟩:=G id hlt (λp' h=>by rw[g,aS,b9]at h;omega);refine⟨by simpa using a.trans g,?_,u⟩;rintro(i|⟨i,A⟩)
  ·exact j i
  ·exact A (d i)
 ·refine⟨?_,?_,rfl⟩
  ·simp only[m,Env.back];rw[aA (zT id _ g),g];simp[nZ]
  ·rintro(i|⟨i,_⟩)
   ·exact j (t.g id (.inl i)).1
   ·exact j i
 ·refine⟨?_,λk C=>⟨k,C,rfl⟩⟩;by_cases h:(E.callee W T l L).G id
  ·rcases h with h|⟨s,p,_,h⟩
   ·exact .inl h
   ·exact absurd h (qU s)
  ·exact .inr ⟨y,h⟩
def zuf(r:au W R N E S Y){a:Md×Nat×Operand}{y:PV}{k:Nat}{d:ae}(M:PR E (J (W,[(0,k)])) y v)(H:∀t,a.2.2=.tmp t->Y t=.v v)(h:xP W S a y=J d):
 ∃X,X.H=E.H/\au W R N X d Y/\(∀b z w,b≠k->PR E (J (W,[(0,b)])) z w->PR X (J (W,[(0,b)])) z w):=by
 have u:∀{s:Nat}{p:aB},s<W->Wk E Y s p v->rK S s p y=J d->∃X,X.H=E.H/\au W R N X d Y/\(∀b z w,b≠k->PR E (J (W,[(0,b)])) z w->PR X (J (W,[(0,b)])) z w):=by
  intro s p G I g;obtain⟨bU,g,q2⟩:=UX r g;refine⟨E.rl (fD (W,[(0,k)]) (s,p)),rfl,?_,λb z w F Q=>Q.move d7 (jd λq=>?_)⟩
  ·refine q2 d7 ?_;refine r.setAt G I g rfl oi d7 (λt n _=>jd λq=>lF (by show t≠W;omega)) r.ok.rl.fresh (λid q C D _=>⟨?_,D⟩) (M.move d7 (mi λq=>zgn _ _ q));have:fD (W,[(0,k)]) (s,p) (s,q)=aa:=lF (by show s≠W;omega);simp[Env.rl,C,this]
  ·simp[fD,Ne.symm F]
 obtain⟨md,e,x⟩:=a;cases md with
 |io=>
  cases x with
  |tmp t=>
   simp only[xP]at h;have A:=H t rfl;have m:=r.f t;unfold Fy at h;split at h
   ·rename_i s p i;rw[i]at m;obtain⟨w,j,B⟩:=m;rw[A]at j;cases j;exact u (r.rt t s (by rw[i];rfl)) B h
   ·split at h
    ·rename_i n;exact u (p:=[]) n (.inl ⟨v,A,rfl⟩) h
    ·cases h
  |_=>simp only[xP,aS]at h;subst h;exact⟨E,rfl,r,λ_ _ _ _ h=>h⟩
 |_=>simp only[xP,aS]at h;subst h;exact⟨E,rfl,r,λ_ _ _ _ h=>h⟩
def zt8:∀{l:List (Md×Nat×Operand)}{d:List PV}{b:List Value}{k0:Nat}{E:Env}{S e:ae},au W R N E S Y->l.length<=d.length->b.length=l.length->
 (∀(k:Nat) (y:PV) (v:Value),d[k]? =J y->b[k]? =J v->PR E (J (W,[(0,k0+k)])) y v)->(∀(k:Nat) (a:Md×Nat×Operand) (t:Nat) (v:Value),l[k]? =J a->a.2.2=.tmp t->b[k]? =J v->Y t=.v v)->
 back W S l d=J e->∀{z:PV}{w:Value}{kz:Nat},(∀k,k<l.length->kz≠k0+k)->PR E (J (W,[(0,kz)])) z w->
 ∃X,X.H=E.H/\au W R N X e Y/\PR X (J (W,[(0,kz)])) z w:=by
 intro l;induction l with
 |nil=>
  intro d b k0 E S e r _ _ _ _ h z w kz _ j;simp only[back,aS]at h;subst h;exact⟨E,rfl,r,j⟩
 |cons a l ih=>
  intro d b k0 E S e r n p q s h z w kz u j;cases d with
  |nil=>simp at n
  |cons y ys=>
   cases b with
   |nil=>simp at p
   |cons v b=>
    simp only[back,bT]at h;obtain⟨aR,D,F⟩:=h;obtain⟨E1,G,Q,x⟩:=zuf r (k:=k0) (by simpa using q 0 y v rfl rfl) (λt I=>s 0 a t v rfl I rfl) D
    have:=ih (k0:=k0+1) Q (by simpa using n) (by simpa using p) (λk y' m g i=>x _ _ _ (by omega) (by
     have:=q (k+1) y' m (by simpa using g) (by simpa using i)
     rwa [show k0+(k+1)=k0+1+k by omega]at this)) (λk B t m g i C=>s (k+1) B t m (by simpa using g) i (by simpa using C)) F (z:=z) (w:=w) (kz:=kz)
     (λk hk'=>by have:=u (k+1) (by simp;omega);omega) (x _ _ _ (by have:=u 0 (by simp);omega) j)
    obtain⟨A,H,r2,M⟩:=this;exact⟨A,H.trans G,r2,M⟩
def zw4(r:au W R N E S Y){g:FuncId}{xs a:List PV}(h:p9 S f=J (g,xs,a)):∃d b,aZ Y f=J (.func (.func g) d b)/\xs.length=d.toList.length/\a.length=b.toList.length/\
 (∀(i:Nat) (x:PV) (y:Value),xs[i]? =J x->d.toList[i]? =J y->PR E aa x y)/\(∀(i:Nat) (x:PV) (y:Value),a[i]? =J x->b.toList[i]? =J y->PR E aa x y):=by
 cases f with
 |func k=>
  simp only[p9,aS,b9]at h;obtain⟨rfl,rfl,rfl⟩:=h;exact⟨#[],#[],rfl,rfl,rfl,λi x y h=>by simp at h,λi x y h=>by simp at h⟩
 |tmp t=>
  simp only[p9]at h;unfold PM at h;split at h
  ·rename_i k A z j;simp only[aS,b9]at h;obtain⟨rfl,rfl,rfl⟩:=h;have e:=r.f t;rw[j]at e;obtain⟨v,m,n⟩:=gu e (by simp);cases n with
   |func w s u p q=>exact⟨_,_,by simp only[aZ,m],s,u,p,q⟩
  ·cases h
 |_=>simp[p9]at h
def zxR:∀{l:List (Md×Nat×Operand)}{d:List PV}{e:List (Md×PV)},eY S l d=J e->e.length=l.length/\d.length=l.length/\
 ∀(k:Nat) (b:Md×PV),e[k]? =J b->∃a y,l[k]? =J a/\d[k]? =J y/\yq S a y=J b:=by
 intro l;induction l with
 |nil=>
  intro d e h;cases d with
  |nil=>simp only[eY,aS]at h;subst h;exact⟨rfl,rfl,λk b h=>by simp at h⟩
  |cons y d=>simp[eY]at h
 |cons a l ih=>
  intro d e h;cases d with
  |nil=>simp[eY]at h
  |cons y d=>
   simp only[eY,bT,bL]at h;obtain⟨b,j,r,m,rfl⟩:=h;obtain⟨p,q,n⟩:=ih m;refine⟨by simp[p],by simp[q],λk i g=>?_⟩;cases k with
   |zero=>simp at g;subst g;exact⟨a,y,rfl,rfl,j⟩
   |succ k=>simpa using n k i (by simpa using g)
def Yx:∀{xs:List Operand}{Y U:FR}{H d:AH}{b:List Value}{k:Nat}{x:Operand}{v:Value},cz Y H xs=J (b,U,d)->xs[k]? =J x->(∀Y H,bm Y H x=J (v,Y,H))->b[k]? =J v:=by
 intro xs;induction xs with
 |nil=>intro Y U H d b k x v _ h;simp at h
 |cons a xs ih=>
  intro Y U H d b k x v h e i;simp only[cz]at h;split at h
  ·rename_i w p m g;split at h
   ·rename_i q n j;cases h;cases k with
    |zero=>simp at e;subst e;rw[i]at g;cases g;rfl
    |succ k=>simpa using ih j (by simpa using e) i
   ·cases h
  ·cases h
def zqT:∀{xs:List Operand}{ts:List TypeId},(iM P xs ts).map (·.2)=xs:=by
 intro xs;induction xs with
 |nil=>intro ts;rfl
 |cons x xs ih=>intro ts;cases ts<;>simp[iM,ih]
def zA7{x:Operand}{H d:AH}(b:mF H)(h:bm Y H x=J (v,U,d)):fL H d/\mF d:=by
 cases x with
 |tmp t=>
  simp only[bm]at h;split at h
  ·simp only[aS,b9]at h;obtain⟨_,_,rfl⟩:=h;exact⟨.refl H,b⟩
  ·simp only[aS,b9]at h;obtain⟨_,_,rfl⟩:=h;refine⟨⟨Eu _,λid k a=>?_⟩,λid k a=>?_⟩
   ·have:=b id k a;simp only[AH.push];rw[aA (by omega)];exact a
   ·simp only[AH.push]at a⊢;split at a
    ·omega
    ·have:=b id k a;omega
  ·cases h
 |const k=>simp only[bm,bL,b9]at h;obtain⟨y,e,rfl,rfl,rfl⟩:=h;exact⟨.refl H,b⟩
 |func k=>simp only[bm,bL,b9]at h;obtain⟨y,e,rfl,rfl,rfl⟩:=h;exact⟨.refl H,b⟩
 |global k=>simp only[bm,bL,b9]at h;obtain⟨y,e,rfl,rfl,rfl⟩:=h;exact⟨.refl H,b⟩
def zxo:∀{xs:List Operand}{Y U:FR}{H d:AH}{g:List Value},mF H->cz Y H xs=J (g,U,d)->fL H d/\mF d:=by
 intro xs;induction xs with
 |nil=>intro Y U H d g e h;simp only[cz,aS,b9]at h;obtain⟨_,_,rfl⟩:=h;exact⟨.refl H,e⟩
 |cons x xs ih=>
  intro Y U H d g e h;simp only[cz]at h;split at h
  ·rename_i v q n k;split at h
   ·rename_i r p m;cases h;obtain⟨a,b⟩:=zA7 e k;obtain⟨i,j⟩:=ih b m;exact⟨a.trans i,j⟩
   ·cases h
  ·cases h
def Re{Y U:FR}{H a:AH}{d:List Value}(b:mF H)(h:cz Y H xs=J (d,U,a)):fL H a:=(zxo b h).1
def Yh(rx1:au c.nt R N E S Y)(hp:eK c R){dx1:Option Tmp}{xl:List Operand}(Yr:l.map (·.2.2)=xl)
{ys:List PV}{D:ae}{as:List (Md×PV)}{g:FuncId}{xs us:List PV}(Lj:oR S l=J (ys,D))(J1:eY D l ys=J as)(h:Uj P c dx1 K D l g xs us as){Q:FR->Array Value->Array Value->Prop}
(hQ:∀j A,au c.nt R N j D A->∃first u,Q A first u/\xs.length=first.toList.length/\us.length=u.toList.length/\
   (∀(ix1:Nat) (x:PV) (y:Value),xs[ix1]? =J x->first.toList[ix1]? =J y->PR j aa x y)/\(∀(ix1:Nat) (x:PV) (y:Value),us[ix1]? =J x->u.toList[ix1]? =J y->PR j aa x y))
(hk:∀pf' U X,K pf'->au c.nt R N X pf' U->((∀a,a∈l->a.1=.sh)->fL E.H X.H)->K' U X.H):
 ∃r A H1 first u,cz Y E.H xl=J (r,A,H1)/\Q A first u/\r.length=l.length/\qH P g (first.toList++r++u.toList) H1 λrv H'=>bu c.nt K' dx1 (.v rv) A H':=by
 obtain⟨r,A,j,m1,F,l1,l2,f1,t1,_⟩:=zwH rx1 (fl:=[]) (λk x v h=>by simp at h) Lj;simp only[nb]at f1;rw[Yr]at m1;obtain⟨first,u,ki,lf,lc,pf_,pc_⟩:=hQ j A F;obtain⟨la,_,hca⟩:=zxR J1;refine⟨r,A,j.H,first,u,m1,ki,l1,?_⟩
 let T:=xs.length
 let n:=T+l.length+us.length
 let L:Nat->Prop:=λs=>∃a t,a∈l/\a.1=.sh/\a.2.2=.tmp t/\(d5 D (D t)).any bI=O/\s=MF t (D t)
 have Rb:∀s,L s->s<c.nt:=by
  rintro s ⟨a,t,_,_,_,d,rfl⟩;cases i:bA (D t)with
  |some s=>simp only[MF,i,xH];exact F.rt t s i
  |none=>
   simp only[MF,i,a1s];exact NA F (by intro e;rw[e]at d;simp[d5,jP,bI]at d)
 let m:=j.callee c.nt T l L
 have okc:ew m:=zx5 F.ok;have rP:GK j m:=zwT;unfold Uj at h;have a2u:∀(k:Nat) (y:PV) (v:Value),ys[k]? =J y->r[k]? =J v->PR j (J (c.nt,[(0,k)])) y v:=λk y v a b=>f1 k y v (by rw[HN];exact⟨a,b⟩)
 have a2D:∀(k:Nat) (b:Md×PV) (v:Value),as[k]? =J b->r[k]? =J v->KY m (T+k) b v:=by
  intro k b v hb p;obtain⟨a,y,i,hy,nZ⟩:=hca k b hb
  have own:∀mx1,a.1=mx1->mx1≠.sh->b=(mx1,y)->KY m (T+k) b v:=by
   intro mx1 hm PN hbm;subst hbm
   have dk:K3 l k=O:=by
    obtain⟨md,e,x⟩:=a;simp only at hm;subst hm;unfold K3;rw[i];cases md<;>first|rfl|exact absurd rfl PN
   have fm:PR m (J (T+k,[])) y v:=(a2u k y v hy p).move rP λid q d C=>by
    have d:j.ow id=J (c.nt,(0,k)::q):=by simpa using d
    refine⟨by simp[m,Env.callee,d,Oh,dk],?_,rfl⟩;rintro(G|⟨s,px1,G,h4⟩)
    ·exact C G
    ·rw[d]at G;cases G;exact absurd (Rb _ h4) (zq _)
   cases mx1 with
   |sh=>exact absurd rfl PN
   |mv=>exact fm
   |io=>exact fm
  obtain⟨md,e,x⟩:=a;cases md with
  |mv=>simp only[yq,aS]at nZ;exact own .mv rfl (by simp) nZ.symm
  |io=>simp only[yq,aS]at nZ;exact own .io rfl (by simp) nZ.symm
  |sh=>
   simp only[yq,bL]at nZ;obtain⟨z,I,rfl⟩:=nZ;show PR m aa z v;unfold JY at I;obtain⟨y',B,I⟩:=bT.1 I;split at I
   ·cases I
   ·rename_i hj;simp only[aS]at I;subst I;have hj:=oY (x:=y') (by simpa using hj);have YD:cz Y E.H xl=J (r,A,j.H):=m1;have Xw:xl[k]? =J x:=by rw[<-Yr,Ex,i];rfl
    cases x with
    |tmp t=>
     simp only[wP]at B;refine zxN F B hj (t1 k _ t v i rfl p) rP λho=>λid px1 d C=>?_
     refine⟨.inr ⟨_,px1,d,⟨_,t,eD i,rfl,rfl,by rw[B];simpa using ho,rfl⟩⟩,λk hk=>⟨k,hk,rfl⟩⟩
    |const kk=>
     simp only[wP]at B;split at B
     ·rename_i hc;simp only[aS]at B;subst B
      have:v=kk:=by
       have:=Yx (v:=kk) YD Xw (λY Hx1=>by simp[bm,aZ,hc]);rw[p]at this;exact zt this
      subst this;exact(JS (E:=m) hc aa).freeze (GK.refl _) True.intro
     ·cases B
    |func ff=>
     simp only[wP,aS]at B;subst B
     have:v=.func (.func ff) #[] #[]:=by
      have:=Yx (v:=.func (.func ff) #[] #[]) YD Xw (λY Hx1=>by simp[bm,aZ]);rw[p]at this;exact zt this
     subst this;simp only[drop];exact .func _ rfl rfl (λix1 x y h=>by simp at h) (λix1 x y h=>by simp at h)
    |global gg=>simp[wP]at B
 have hlen:(xs.map (λx=>((Md.sh,x):Md×PV))++as++us.map (λx=>(Md.sh,x))).length=n:=by rw[cy,cy,HL,HL,la]
 have Gy:(first.toList++r++u.toList).length=n:=by rw[cy,cy,<-lf,<-lc,l1]
 have qp:∀(k:Nat) (a:Md×PV) (v:Value),(xs.map (λx=>((Md.sh,x):Md×PV))++as++us.map (λx=>(Md.sh,x)))[k]? =J a->(first.toList++r++u.toList)[k]? =J v->KY m k a v:=by
  intro k a v i p;have q1:(xs.map λx=>((Md.sh,x):Md×PV)).length=T:=by rw[HL]
  have q2:first.toList.length=T:=lf.symm
  have q3:(xs.map (λx=>((Md.sh,x):Md×PV))++as).length=T+l.length:=by rw[cy,q1,la]
  have q4:(first.toList++r).length=T+l.length:=by rw[cy,q2,l1]
  by_cases d:k<T
  ·rw[fE (by rw[q3];omega),fE (by rw[q1];exact d)]at i;rw[fE (by rw[q4];omega),fE (by rw[q2];exact d)]at p;obtain⟨x,H,rfl⟩:=mM i;exact(pf_ k x v H p).mono rP
  ·by_cases C:k<T+l.length
   ·rw[fE (by rw[q3];exact C),f9 (by rw[q1];exact Wn d),q1]at i;rw[fE (by rw[q4];exact C),f9 (by rw[q2];exact Wn d),q2]at p;have:=a2D (k-T) a v i p
    rwa [show T+(k-T)=k by omega]at this
   ·rw[f9 (by rw[q3];exact Wn C),q3]at i;rw[f9 (by rw[q4];exact Wn C),q4]at p;obtain⟨x,H,rfl⟩:=mM i;exact(pc_ _ x v H p).mono rP
 have Jg:=h.2 m (first.toList++r++u.toList) okc (by rw[hlen,Gy]) qp;refine Jg.mono λrv H' ⟨rr,outs,lm,⟨yB,Pl⟩,eH,post⟩=>?_
 subst eH;rw[hlen]at post;obtain⟨b1,b2,b3,b4,b5⟩:=zwc (n:=n) (M:=l.length) F Rb post.ok post.since;have r2:=F.env b1 b2 b3
 have rI:∀(a b:Nat×aB) (x:PV) (v:Value),(x=rr\/x∈outs)->PR lm (J a) x v->(∀q,La c.nt T n l.length (a.1,a.2++q)=(b.1,b.2++q))->PR (j.back m lm c.nt T n l.length) (J b) x v:=by
  intro a b x v H fm hq;rcases yB with qU|ie
  ·refine fm.move (b5 ?_) (b4 a b hq);rintro s ⟨a',t,d,C,G,h4,_⟩;have:=Mj.1 qU a' d;obtain⟨md,e,x'⟩:=a';simp only at C G;subst C;subst G;exact this (by simpa[te]using h4)
  ·simp only[bC,bc]at ie;rcases H with rfl|H
   ·exact fm.a0r ie.1 (b4 a b hq)
   ·exact fm.a0r (ie.2 x H) (b4 a b hq)
 have G7:=rI (n,[]) (c.nt,[(0,l.length)]) rr rv (.inl rfl) post.r λq=>by simp[La]
 have a3y:∀(k:Nat) (y:PV) (v:Value),(outs.drop T)[k]? =J y->r[k]? =J v->PR (j.back m lm c.nt T n l.length) (J (c.nt,[(0,0+k)])) y v:=by
  intro k y v hy p;rw[jq]at hy;have OR:k<l.length:=by have:=(cY.1 p).1;omega
  have hV:(first.toList++r++u.toList)[T+k]? =J v:=by
   rw[fE (by rw[cy,<-lf,l1];exact Nat.add_lt_add_left OR _),f9 (by rw[<-lf];exact Nat.le_add_right _ _),<-lf];rw[show T+k-xs.length=k by simp only[T];omega];exact p
  refine rI (T+k,[]) (c.nt,[(0,0+k)]) y v (.inr (eD hy)) (post.o _ y v hy hV) λq=>?_
  have hne:T+k≠n:=by simp only[n];omega
  simp only[La];rw[aA hne];simp
 unfold LI at Pl;split at Pl
 ·rename_i bU a4B;have hol:l.length<=(outs.drop T).length:=by rw[Wo,post.len];simp only[n];omega
  obtain⟨E3,e3,r3,p3⟩:=zt8 r2 hol l1 a3y t1 a4B (z:=rr) (w:=rv) (kz:=l.length) (λk hk'=>by omega) G7;have r4:au c.nt R N (E3.rl (fD (c.nt,[(0,l.length)]) (c.nt,[(0,0)]))) bU A:=r3.env r3.ok.rl oi λs hs=>jd λq=>lF (by show s≠c.nt;omega)
  have a2a:(∀a,a∈l->a.1=.sh)->fL E.H lm.H:=by
   intro hsh;refine(Re rx1.wf m1).trans ⟨post.since.n,λid k hb=>?_⟩
   have qU:∀k,K3 l k=Z:=by
    intro k;unfold K3;cases hlk:l[k]? with
    |none=>rfl
    |some a=>
     obtain⟨md,y⟩:=a;rw[show md=.sh from hsh _ (eD hlk)]
   have how:m.ow id=aa:=by
    simp only[m,Env.callee];cases ho':j.ow id with
    |none=>rfl
    |some x=>
     simp only[aP,Oh];split
     ·split
      ·rw[aA (by simp[qU])]
      ·rfl
     ·rfl
   have:=(post.since.own id (F.wf id k hb) how).2.1;rw[this];exact hb
  have:=zq9 (K':=K') r4 hp (p3.move d7 (mi λq=>zgn _ _ q)) Pl (λpf' U X a b e=>hk pf' U X a b λhs=>by
   have e2:X.H=lm.H:=e.trans e3
   rw[e2];exact a2a hs)
  rw[show(E3.rl (fD (c.nt,[(0,l.length)]) (c.nt,[(0,0)]))).H=E3.H from rfl,e3]at this;exact this
 ·cases Pl
def zyd{ts:List TypeId}:(iM P xs ts).length=xs.length:=by
 have:=iB List.length (zqT (P:=P) (xs:=xs) (ts:=ts));simpa using this
def zuO{a:List Md}{ts:List TypeId}(h:a.length=xs.length):(a.zip (iM P xs ts)).map (·.2.2)=xs:=by
 have e:(a.zip (iM P xs ts)).map (·.2.2)=((a.zip (iM P xs ts)).map Prod.snd).map (·.2):=by rw[uU];rfl
 rw[e,List.map_snd_zip (by rw[zyd];omega)];exact zqT
def zmV(r:au c.nt R N E S Y)(u:eK c R)(t:o.op=.call ⟨.value f,args,ts⟩)
{j:List Md}(h:Kz P c f args.toList ts.toList o.dst K S j)(s:∀d U X,K d->au c.nt R N X d U->((∀m,m∈j->m=.sh)->fL E.H X.H)->K' U X.H):aN P c.nt o K' Y E.H:=by
 obtain⟨A,h⟩:=h;unfold Ut at h;split at h
 ·rename_i ys H p;unfold zB at h;split at h
  ·rename_i g xs us I n k
   obtain⟨vs,i,G,first,M,B,z,_,q⟩:=Yh (K':=K') r u (zuO A) p k h (Q:=λi a b=>aZ i f=J (.func (.func g) a b)) (λF i D=>zw4 D n) (λd U X a b e=>s d U X a b λw=>e λx y=>by
    obtain⟨C,yx1⟩:=x
    exact w C (List.of_mem_zip y).1)
   unfold aN;rw[t];simp only[B,z];exact q
  ·cases h
 ·cases h
def zyb:∀{xs:List Operand}{Y U:FR}{H a:AH}{b:List Value},cz Y H xs=J (b,U,a)->∀s u,Y s=.v u->U s=.v u:=by
 intro xs;induction xs with
 |nil=>intro Y U H a b h;simp only[cz,aS,b9]at h;obtain⟨_,rfl,_⟩:=h;exact λs u h=>h
 |cons x xs ih=>
  intro Y U H a b h;simp only[cz]at h;split at h
  ·rename_i v k i d;split at h
   ·rename_i m j e;cases h;exact λs u g=>ih e s u ((ztr d).2 s u g)
   ·cases h
  ·cases h
def zxa:∀{xs:List Operand}{x:Operand}{Y U:FR}{H b:AH}{g:List Value},cz Y H (xs++[x])=J (g,U,b)->∃j w e d,cz Y H xs=J (j,e,d)/\bm e d x=J (w,U,b)/\g=j++[w]:=by
 intro xs;induction xs with
 |nil=>
  intro x Y U H b g h;simp only[nb,cz]at h;split at h
  ·rename_i v e d i;cases h;exact⟨[],v,Y,H,rfl,i,rfl⟩
  ·cases h
 |cons a xs ih=>
  intro x Y U H b g h;simp only[tJ,cz]at h;split at h
  ·rename_i v e d i;split at h
   ·rename_i j s q;cases h;obtain⟨r,u,m,k,n,p,rfl⟩:=ih q;exact⟨v::r,u,m,k,by simp[cz,i,n],p,rfl⟩
   ·cases h
  ·cases h
def zq8(r:au W R N E S Y){x:Nat×FuncId×List PV}(h:wA S f=J x):∃(v:Value) (a:List Value),aZ Y f=J (.func (.func x.2.1) #[] (v::a).toArray)/\Y x.1=.v v/\x.2.2.length=a.length/\
 ∀(i:Nat) (y:PV) (w:Value),x.2.2[i]? =J y->a[i]? =J w->PR E aa y w:=by
 cases f with
 |tmp t=>
  simp only[wA]at h;unfold Ng at h;split at h
  ·rename_i s g n d;cases h;have b:=r.f t;rw[d]at b;obtain⟨v,a,e,j,k,m⟩:=b;exact⟨v,a,by simp only[aZ,e],FY j,k,m⟩
  ·cases h
 |_=>simp[wA]at h
def zs1(r:au c.nt R N E S Y)(B:eK c R)(A:o.op=.call ⟨.value f,args,ts⟩)
(h:zx9 P c f args.toList ts.toList o.dst K S)(z:∀e U X,K e->au c.nt R N X e U->K' U X.H):aN P c.nt o K' Y E.H:=by
 obtain⟨ms,x,D,I,h⟩:=h;obtain⟨v0,_,_,H,_⟩:=zq8 r D;unfold Lc at h;split at h
 ·rename_i ys aR q;obtain⟨F,h⟩:=h;unfold zB at h;split at h
  ·rename_i gx1 xs us as p n;cases p
   obtain⟨m,d,H1,first,kj,M,⟨rfl,v,G,k⟩,_,y⟩:=Yh (K':=K') r B (xl:=args.toList++[.tmp x.1]) (by rw[lN,zuO I];rfl) q n h
    (Q:=λd a b=>a= #[]/\∃v,aZ d f=J (.func (.func x.2.1) #[] (v::b.toList).toArray)/\d x.1=.v v) (λE1 d r1=>by
      obtain⟨v,m,s,t,u,w⟩:=zq8 r1 F
      exact⟨#[],m.toArray,⟨rfl,v,by simpa using s,t⟩,rfl,by simpa using u,λix1 x yx1 h=>by simp at h,by simpa using w⟩) (λe U X a b _=>z e U X a b)
   obtain⟨ws,wx1,dQ,H2,i,j,rfl⟩:=zxa M;have g:=zyb i _ _ H;simp only[bm,g,aS,b9]at j;obtain⟨rfl,rfl,rfl⟩:=j;have C:v0=v:=by rw[g]at k;cases k;rfl
   subst C;unfold aN;rw[A];simp only[i,G];simpa using y
  ·cases h
 ·cases h
def zt4(r:au c.nt R N E S Y)(p:eK c R)(Q:o.op=.call ⟨.value f,args,ts⟩)
(h:Y3 P c f args.toList o.dst K S)(m:∀q U X,K q->au c.nt R N X q U->K' U X.H):aN P c.nt o K' Y E.H:=by
 obtain⟨gx1,x,tx1,n,zx1,rfl,D,G,M,hz,⟨z,A,B⟩,k⟩:=h;obtain⟨e,y,a,t,zc,d,ht,g,i,C,rfl⟩:=Ep hz;have F:aZ Y (.const (.slice aa 0 0))=J (.slice aa 0 0):=by simp[aZ,cD]
 have I:cz Y E.H args.toList=J ([.slice aa 0 0,.int .i64 n],Y,E.H):=by
  rw[D];simp[cz,Oe (H:=E.H) F,Oe (H:=E.H) (ql r M)]
 unfold aN;rw[Q];simp only[I,aZ,nb,sn];refine(G n E.H e y a t zc d ht z A B g i C).mono λv H' hv=>?_
 rcases hv with⟨rfl,rfl,rfl⟩|⟨qY,rfl,rfl⟩
 ·exact hY r p (.sl0 _ _) k m
 ·have b:=r.ok;have rk:∀e,e∈List.replicate n.toNat zc->e.length=a:=λe d=>by rw[(nS.1 d).2];exact g
  have u:PR (E.push ⟨O,(List.replicate n.toNat zc).flatten⟩ (c.nt,[(0,0)]) λ_=>aa) (J (c.nt,[(0,0)])) (.sl O a []) (.slice (J ⟨E.H.n,0,J a⟩) 0 n.toNat):=by
   refine .fN zhu b.y9 yP rfl (by simp) (by omega) (by unfold kA;omega) (λrw hr=>by simp at hr) ⟨⟨i,rfl⟩,?_⟩ λix1 rw j x yx1 w g2 g3=>by simp at w
   rw[FD rk];simp
  have:=hY (K':=K') (r.env b.push b.uW λs _=>b.nu λ_=>rfl) p u k m;exact this
def zt0(r:au c.nt R N E S Y)(i:eK c R)(g:o.op=.call ⟨.value f,args,ts⟩)
(h:ZN P c f args.toList ts.toList o.dst K S)(e:∀d U X,K d->au c.nt R N X d U->K' U X.H):aN P c.nt o K' Y E.H:=by
 rcases h with⟨j,h⟩|h|h
 ·exact zmV r i g h λd U X a b _=>e d U X a b
 ·exact zt4 r i g h e
 ·exact zs1 r i g h e
end
end Go.Pm
