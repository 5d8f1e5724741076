import Derived.Test.YtjnidpmkglobfaaGreatPmK
open Bool renaming false→Z,true→O
open Option renaming none→aa,some→J
set_option linter.defProp false
namespace Go.Pm
open Go.Am
def eM(P:Program)(t:TypeId)(i:Nat):Nat:=
 match P.underlying t with
 |some (.struct a)=>match a[i]? with
  |some f=>dj P f.type
  |none=>0
 |some (.array _ e)|some (.slice e)=>dj P e
 |_=>0
def nV(P:Program)(t:TypeId):Option ((Nat->Option (Nat×Nat))×List PV):=
 match P.underlying t with
 |some (.struct b)=>match cE P t with
  |some (_,_,_,z)=>if(z.all cD&&b.toList.all (λf=>(P.info? f.type).isSome))=O then J (dR P t,zz P t z)else aa
  |none=>aa
 |some (.array _ e)=>match cE P t with
  |some (_,_,_,z)=>match cE P e with
   |some (_,a,_)=>if z.all cD=O then J ((λi=>J (i*a,a)),zz P t z)else aa
   |none=>aa
  |none=>aa
 |_=>aa
def CT(a:Nat)(x:PV):Bool:=jT x&&decide ((cR x).length=a)&&decide (a≠0)
def vn(a:Nat->Option (Nat×Nat)):List (Nat×PV)->List PV->Option (List PV)
 |[],cs=>J cs
 |(i,x)::r,cs=>(a i).bind λo=>if CT o.2 x=O then(jV cs o.1 (cR x)).bind (vn a r)else aa
def Q1(c:aW)(d:Option Tmp)(K:ae->Prop)(Y:ae):Option (List PV)->Prop
 |some a=>dI c K d (.v (.agg a)) Y
 |none=>False
def HC(P:Program)(c:aW)(t:TypeId)(a:List (Nat×Operand))(d:Option Tmp)(K:ae->Prop)(Y:ae):Prop:=
 match nV P t,qJ Y (a.map λp=>(eM P t p.1,p.2))with
 |some b,J (f,e)=>Q1 c d K e (vn b.1 ((a.map (·.1)).zip f) b.2)
 |_,_=>False
def sw(b:Nat):List (Nat×PV)->List (List PV)->Option (List (List PV))
 |[],a=>J a
 |(i,x)::r,a=>if CT b x=O/\i<a.length then sw b r (a.set i (cR x))else aa
def OC(c:aW)(a:Nat)(d:Nat)(K:ae->Prop)(Y:ae):Option (List (List PV))->Prop
 |some b=>ia c d .skip=O/\K (Y.put d (.ls a b))
 |none=>False
def ML:Option PV->Bool
 |some (.sl ..)=>O
 |_=>Z
def zf(Y:ae)(s:Nat)(p:aB)(i j:Nat):Nat->List (Nat×Operand)->Bool
 |_,[]=>O
 |q,(a,.tmp t)::r=>if a=q/\Dh (Y t)=J (s,p++[(i,j+q)])/\ML (cj Y s (p++[(i,j+q)]))=O then zf Y s p i j (q+1) r else Z
 |_,_=>Z
def Fr(Y:ae):List (Nat×Operand)->Option (Nat×aB×Nat×Nat)
 |(_,.tmp t)::_=>(Dh (Y t)).bind λx=>(pD x.2).map λy=>(x.1,y)
 |_=>aa
def KD(P:Program)(t:TypeId)(b:Nat)(d:List (Nat×Operand))(Y:ae):Option PF:=
 (ez P t).bind λz=>(Fr Y d).bind λa=>if z.1=1/\b<=2^24/\d.length=b/\zf Y a.1 a.2.1 a.2.2.1 a.2.2.2 0 d=O then J (.as Z a.1 a.2.1 a.2.2.1 a.2.2.2 b)else aa
def In(P:Program)(c:aW)(t:TypeId)(a:Nat)(b:List (Nat×Operand))(d:Nat)(K:ae->Prop)(Y:ae):Prop:=
 match KD P t a b Y with
 |some y=>dI c K (J d) y Y
 |none=>False
def RU(c:aW):Option Tmp->Bool
 |some d=>Bz c d
 |none=>Z
def v7(c:aW)(d:Nat)(a:List PV):List PV:=if c.fz.contains (d+3*c.nt)=O then a.map drop else a
def E5(P:Program)(c:aW)(t:TypeId)(a:Nat)(b:List (Nat×Operand))(d:Option Tmp)(K:ae->Prop)(Y:ae):Prop:=
 if RU c d=O then In P c t a b (d.getD 0) K Y else
 match ez P t,qJ Y (b.map λp=>(eM P t p.1,p.2)),d with
 |some z,J (f,e),J d=>a*z.1<=2^24/\OC c z.1 d K e (sw z.1 ((b.map (·.1)).zip (v7 c d f)) (List.replicate a z.2.2))
 |_,_,_=>False
def yh(Y:ae)(s:Nat)(p:aB)(x:PV):Option (PV×ae):=if dv x=O then aa else if bI x=O then(iL Y s p (drop x)).map λa=>(drop x,a)else J (x,Y)
def xY(b:Bool)(Y:ae)(t:Nat):PF->Option (PV×ae)
 | .v x=>yh Y t [] x
 | .rf s p=>(cj Y s p).bind (yh Y s p)
 | .bl a=>if b=O then J (.fp (a.map drop),(Y.bV t (.v (.fp (a.map drop)))).kill t 0)else aa
 |_=>aa
def t9(a:Bool)(Y:ae):Operand->Option (PV×ae)
 | .tmp t=>xY a Y t (Y t)
 | .const c=>if cD c=O then J (drop (nz 0 c),Y)else aa
 | .func f=>J (.func (.func f) [] [],Y)
 | .global _=>aa
def s9(d:Bool)(Y:ae):List Operand->Option (List PV×ae)
 |[]=>J ([],Y)
 |x::e=>(t9 d Y x).bind λa=>(s9 d a.2 e).map λb=>(a.1::b.1,b.2)
def QR(c:aW):Option Tmp->Bool
 |some d=>c.fz.contains (d+4*c.nt)
 |none=>Z
def J4(Y:ae):Fn->List Operand->List Operand->Option (FuncId×Nat×List Operand)
 | .func g,[],.tmp s::a=>match Y s with
  | .v (.bx _)=>J (g,s,a)
  |_=>aa
 |_,_,_=>aa
def K1(c:aW)(Y:ae)(x:FuncId×Nat×List Operand):Option (PF×ae):=(s9 (!c.hp.isEmpty) Y x.2.2).map λy=>(.cl x.2.1 x.1 y.1,y.2)
def Fv(c:aW)(e:Fn)(a g:List Operand)(d:Option Tmp)(K:ae->Prop)(Y:ae):Prop:=
 if QR c d=O then match(J4 Y e a g).bind (K1 c Y)with
  |some (y,b)=>dI c K d y b
  |none=>False
 else
 match s9 (!c.hp.isEmpty) Y (a++g)with
 |some (f,b)=>dI c K d (.v (.func e (f.take a.length) (f.drop a.length))) b
 |none=>False
section
variable {W:Nat}{U:List (Nat×Value)}{T E R:Env}{Y:ae}{X S:FR}{c:aW}{P:Program}
def tU(r:au W U T E Y X){x:Option Operand}{b:Option Nat}(h:pm Y x=J b):
 (x=aa/\b=aa)\/∃d q n,x=J d/\aZ X d=J (.int q n)/\0<=n/\b=J n.toNat:=by
 cases x with
 |none=>simp only[pm,aS]at h;exact .inl ⟨rfl,h.symm⟩
 |some d=>
  simp only[pm,bT]at h;obtain⟨v,e,a⟩:=h;split at a
  ·rename_i q n;split at a
   ·rename_i f;simp only[aS]at a;exact .inr ⟨d,q,n,rfl,ql r e,f,a.symm⟩
   ·cases a
  ·cases a
def zqQ(r:au W U T E Y X){t D l:Nat}{h:Option Nat}{y:PF}(d:nD D l h Y t (Y t)=J y):
 ∃a n g,X t=.v (.slice a n g)/\n<=g/\l<=h.getD n/\h.getD n<=n/\(∀b,a=J b->b=⟨b.block,b.off,J D⟩)/\(a=aa->n=0/\g=0)/\
  ∀v,(a=aa/\v=.slice aa 0 0\/∃b,a=J b/\v=.slice (J ⟨b.block,b.off+l*D,J D⟩) (h.getD n-l) (g-l))->
   ((∃s,bA y=J s/\s<W/\Cd E X y (.v v))\/∃x,y=.v x/\PR E aa x v):=by
 have G:=r.f t
 have ht:t<W:=by
  rcases dS t W with i|i
  ·exact i
  ·rw[r.hi t i]at d;simp[nD,jP,ui]at d
 have key:∀{s:Nat}{p:aB}{x:PV}{v0:Value}{f:Nat->Nat->PF},s<W->(∀a bx1,f a bx1=.rv s p a bx1)->Wk E X s p v0->PR E (J (s,p)) x v0->X t=.v v0->ui D l h f x=J y->
  ∃a n g,X t=.v (.slice a n g)/\n<=g/\l<=h.getD n/\h.getD n<=n/\(∀b,a=J b->b=⟨b.block,b.off,J D⟩)/\(a=aa->n=0/\g=0)/\
  ∀v,(a=aa/\v=.slice aa 0 0\/∃b,a=J b/\v=.slice (J ⟨b.block,b.off+l*D,J D⟩) (h.getD n-l) (g-l))->
   ((∃s,bA y=J s/\s<W/\Cd E X y (.v v))\/∃x,y=.v x/\PR E aa x v):=by
  intro s p x v0 f M hff hw A nQ z;unfold ui at z;split at z
  ·rename_i o B;split at z
   ·rename_i u;obtain⟨rfl,m,q⟩:=u;simp only[aS]at z;subst z;rw[hff];cases A with
    |sl0 _ _=>
     have q:h.getD 0<=0:=q;have m:l<=h.getD 0:=m;refine⟨aa,0,0,nQ,cq _,m,q,(λb e=>by cases e),λ_=>⟨rfl,rfl⟩,λv j=>?_⟩;rcases j with⟨_,rfl⟩|⟨b,e,_⟩
     ·exact .inl ⟨s,rfl,M,.inl ⟨hw,rfl,by omega,by show h.getD 0=0;omega⟩⟩
     ·cases e
    | @fN _ id off o n g k B how hG u aY L K hm hr hl hh=>
     subst L;refine⟨J ⟨id,off,J o⟩,B.length,g,nQ,K,m,q,(λb e=>by cases e;rfl),(λe=>by cases e),λv j=>?_⟩;rcases j with⟨e,_⟩|⟨b,e,rfl⟩
     ·cases e
     ·cases e;exact .inl ⟨s,rfl,M,.inr ⟨id,off,o,B.length,g,hw,m,q,rfl⟩⟩
   ·cases z
  ·rename_i o B;split at z
   ·rename_i u;obtain⟨rfl,m,q⟩:=u;simp only[aS]at z;subst z;have l7:=A.free (by simp[bI]);cases l7 with
    |sl0 _ _=>
     have q:h.getD 0<=0:=q;have m:l<=h.getD 0:=m;refine⟨aa,0,0,nQ,cq _,m,q,(λb e=>by cases e),λ_=>⟨rfl,rfl⟩,λv j=>?_⟩;rcases j with⟨_,rfl⟩|⟨b,e,_⟩
     ·exact .inr ⟨_,rfl,by simpa using PR.sl0 (E:=E) (l:=aa) Z o⟩
     ·cases e
    | @jX _ id off o n g k B hG u L K hm hr hl hh=>
     have fm:PR E aa (.sl Z o B) (.slice (J ⟨id,off,J o⟩) n g):=.jX hG u L K hm hr hl hh;subst L;refine⟨J ⟨id,off,J o⟩,B.length,g,nQ,K,m,q,(λb e=>by cases e;rfl),(λe=>by cases e),λv j=>?_⟩;rcases j with⟨e,_⟩|⟨b,e,rfl⟩
     ·cases e
     ·cases e;obtain⟨_,_,_,Q⟩:=fm.cut m q;exact .inr ⟨_,rfl,Q⟩
   ·cases z
  ·cases z
 cases I:Y t with
 |v x=>
  rw[I]at d G;simp only[nD]at d;obtain⟨v,i,w⟩:=gu G (by rintro rfl;simp[ui]at d);exact key (p:=[]) ht (λ_ _=>rfl) (.inl ⟨v,i,rfl⟩) w i d
 |rf s p=>
  rw[I]at d G;simp only[nD,bT]at d;obtain⟨x,A,d⟩:=d;obtain⟨v,i,w⟩:=G;obtain⟨v',N,F⟩:=r.at A (by rintro rfl;simp[ui]at d) (jb r w A);have:=N.same w;subst this;exact key (r.rt t s (by rw[I];rfl)) (λ_ _=>rfl) w F i d
 |rv s p lo hi=>
  rw[I]at d G;simp only[nD,bT]at d;obtain⟨x,A,d⟩:=d;have M:=r.rt t s (by rw[I];rfl);unfold IC at d;split at d
  ·rename_i o B;split at d
   ·rename_i u;obtain⟨⟨rfl,m,q⟩,H,C⟩:=u;simp only[aS]at d;subst d;rcases G with⟨i,w,rfl,rfl⟩|⟨id,off,br,n,g,i,w,h3,h4⟩
    ·refine⟨aa,0,0,w,cq _,H,C,(λb e=>by cases e),λ_=>⟨rfl,rfl⟩,λv j=>?_⟩;rcases j with⟨_,rfl⟩|⟨b,e,_⟩
     ·have C:h.getD 0<=0:=C;have H:l<=h.getD 0:=H;exact .inl ⟨s,rfl,M,.inl ⟨i,rfl,by omega,by show 0+h.getD 0=0;omega⟩⟩
     ·cases e
    ·obtain⟨v',N,F⟩:=r.at A (by simp) (jb r i A);have:=N.same i;subst this;have ee:=Af F;subst ee;refine⟨_,hi-lo,g-lo,h4,?_,H,C,(λb e=>by cases e;rfl),(λe=>by cases e),λv j=>?_⟩
     ·cases F with
      |fN how hG u aY L K hm hr hl hh=>omega
     ·rcases j with⟨e,_⟩|⟨b,e,rfl⟩
      ·cases e
      ·cases e;refine .inl ⟨s,rfl,M,.inr ⟨id,off,o,n,g,i,by omega,by omega,?_⟩⟩;have e1:lo+h.getD (hi-lo)-(lo+l)=h.getD (hi-lo)-l:=by omega
       have e2:g-(lo+l)=g-lo-l:=by omega
       rw[e1,e2,oF,i9]
   ·cases d
  ·rename_i o B;split at d
   ·rename_i u;obtain⟨⟨rfl,m,q⟩,H,C⟩:=u;simp only[aS]at d;subst d;rcases G with⟨i,w,rfl,rfl⟩|⟨id,off,br,n,g,i,w,h3,h4⟩
    ·refine⟨aa,0,0,w,cq _,H,C,(λb e=>by cases e),λ_=>⟨rfl,rfl⟩,λv j=>?_⟩;rcases j with⟨_,rfl⟩|⟨b,e,_⟩
     ·have C:h.getD 0<=0:=C;have e0:h.getD (0-0)=0:=by show h.getD 0=0;omega
      rw[e0];exact .inr ⟨_,rfl,by simpa using PR.sl0 (E:=E) (l:=aa) Z o⟩
     ·cases e
    ·obtain⟨v',N,F⟩:=r.at A (by simp) (jb r i A);have:=N.same i;subst this;have ee:=Af F;subst ee;refine⟨_,hi-lo,g-lo,h4,?_,H,C,(λb e=>by cases e;rfl),(λe=>by cases e),λv j=>?_⟩
     ·cases F with
      |jX hG u L K hm hr hl hh=>omega
     ·rcases j with⟨e,_⟩|⟨b,e,rfl⟩
      ·cases e
      ·cases e;have w2':=F.free (by simp[bI]);obtain⟨_,_,_,Q⟩:=w2'.cut (lo:=lo+l) (hi:=lo+h.getD (hi-lo)) (by omega) (by omega);have e1:lo+h.getD (hi-lo)-(lo+l)=h.getD (hi-lo)-l:=by omega
       have e2:g-(lo+l)=g-lo-l:=by omega
       rw[e1,e2,oF,<-i9]at Q;exact .inr ⟨_,rfl,Q⟩
   ·cases d
  ·cases d
 |_=>rw[I]at d;simp[nD]at d
def F9{x:Option Operand}{b:Option Nat}{a:Option Value}{dflt:Nat}(h:(x=aa/\b=aa)\/∃e q n,x=J e/\aZ X e=J (.int q n)/\0<=n/\b=J n.toNat)
(d:a=x.bind (aZ X)):BD dflt a=J (b.getD dflt)/\Dv a=J b/\(a.isSome=b.isSome):=by
 rcases h with⟨rfl,rfl⟩|⟨e,q,n,rfl,g,f,rfl⟩
 ·subst d;exact⟨rfl,rfl,rfl⟩
 ·simp only[aP,g]at d;subst d;exact⟨by simp[BD,f],by simp[Dv,f],rfl⟩
def zoj{u:TypeId}{a:Option Addr}{n j i:Nat}{l h:Option Value}{m:Option Value}{f k:Nat}{p:Option Nat}(x:mH P u=J i)(v:∀d,a=J d->d=⟨d.block,d.off,J i⟩)(w:a=aa->n=0/\j=0)
(s:rm l h m n j=J (f,k,p)):
 qI P u (.slice a n j) l h m=(match a with
  |none=>J (.slice aa 0 0)
  |some d=>match p with
   |none=>J (.slice (J ⟨d.block,d.off+f*i,J i⟩) (k-f) (j-f))
   |some t=>if t-f=0 then J (.slice aa 0 0)else J (.slice (J ⟨d.block,d.off+f*i,J i⟩) (k-f) (t-f))):=by
 obtain⟨e,g,y,q,r⟩:=SM x;cases a with
 |none=>
  obtain⟨rfl,rfl⟩:=w rfl;simp[qI,q,r,s]
 |some d=>
  have:=v d rfl;obtain⟨b,o,z⟩:=d;simp only at this;cases this;simp only[qI,q,r,s,ne_eq,not_true_eq_false,ja];cases p<;>rfl
def zrW(r:au c.nt U T E Y X)(z:eK c U){o:Oper}{A:TypeId}{x:Operand}{l h m:Option Operand}{Kx1:ae->Prop}{j:FR->AH->Prop}(ho:o.op=.slice A x l h m)(b:GP P c A x l h m o.dst Kx1 Y)
(w:∀pf' S R,Kx1 pf'->au c.nt U T R pf' S->j S R.H):aN P c.nt o j X E.H:=by
 obtain⟨d,D,OO,ps,af,gx1⟩:=o;simp only at ho b;subst ho;refine(show dK P c.nt ⟨d,.slice A x l h m,OO,ps,af,gx1⟩ j X E.H from ?_);unfold GP at b;split at b
 ·rename_i tx1 es hes
  have F:∀{t p:Option Nat}{C:Option Nat}{v wx1:Value},pm Y l=J t->pm Y h=J p->pm Y m=J C->X tx1=.v v->
   (qI P A v (l.bind (aZ X)) (h.bind (aZ X)) (m.bind (aZ X))=J wx1)->(m.isSome=O->h.isSome=O)->
   bu c.nt j d (.v wx1) X E.H->dK P c.nt ⟨d,.slice A (.tmp tx1) l h m,OO,ps,af,gx1⟩ j X E.H:=by
   intro t p C v wx1 g e f hv hw FP dA;have q1:=tU r g;have q2:=tU r e;have q3:=tU r f;simp only[dK,iA];have YK:∀D u,aZ X D=J u->bm X E.H D=J (u,X,E.H):=λD u hu=>Oe hu
   rcases q1 with⟨rfl,rfl⟩|⟨o1,k1,n1,rfl,a1,a2,rfl⟩<;>rcases q2 with⟨rfl,rfl⟩|⟨o2,k2,n2,rfl,b1,b2,rfl⟩<;>rcases q3 with⟨rfl,rfl⟩|⟨o3,k3,n3,rfl,c1,c2,rfl⟩<;>
    simp_all [cz,bm,fk]
  unfold Ha at b;split at b
  ·rename_i t p g e f;split at b
   ·rename_i yx1 Q;obtain⟨a,n,H,k,g2,g3,g4,L,M,N⟩:=zqQ r Q;have I:=F9 (dflt:=0) (tU r g) rfl;have B:=F9 (dflt:=n) (tU r e) rfl;have K:=F9 (dflt:=0) (tU r f) rfl
    have G:rm (l.bind (aZ X)) (h.bind (aZ X)) (m.bind (aZ X)) n H=J (t.getD 0,p.getD n,aa):=by
     simp only[rm,I.1,B.1,K.2.1];rw[aE ⟨g3,by omega⟩]
    have i:=zoj hes L M G;have y:m=aa:=by rcases tU r f with⟨q,_⟩|⟨_,_,_,_,_,_,q⟩;exact q;cases q
    cases a with
    |none=>
     refine F g e f k i (by simp[y]) ?_;rcases N _ (.inl ⟨rfl,rfl⟩)with⟨s,q1,q2,q3⟩|⟨x,rfl,q1⟩
     ·exact jC r z q1 q2 q3 b w
     ·exact hY r z q1.up b w
    |some ad=>
     refine F g e f k i (by simp[y]) ?_;rcases N _ (.inr ⟨ad,rfl,rfl⟩)with⟨s,q1,q2,q3⟩|⟨x,rfl,q1⟩
     ·exact jC r z q1 q2 q3 b w
     ·exact hY r z q1.up b w
   ·cases b
  ·rename_i t p C g e f;split at b
   ·rename_i rows a36;obtain⟨⟨k1,k2,k3⟩,⟨yx1,Q⟩,dA⟩:=b;obtain⟨a,n,H,k,g2,g3,g4,L,M,N⟩:=zqQ r Q;obtain⟨a',cc',w1,w2⟩:=SL r a36;rw[k]at w1;simp only[FV.v.injEq,Value.slice.injEq]at w1;obtain⟨rfl,rfl,rfl⟩:=w1;have I:=F9 (dflt:=0) (tU r g) rfl;have B:=F9 (dflt:=rows.length) (tU r e) rfl;have K:=F9 (dflt:=0) (tU r f) rfl
    have G:rm (l.bind (aZ X)) (h.bind (aZ X)) (m.bind (aZ X)) rows.length H=J (t.getD 0,p,J C):=by
     simp only[rm,I.1,B.1,K.2.1,xH];rw[aE ⟨by omega,by omega,by omega,by rw[B.2.2];rfl⟩]
    have i:=zoj hes L M G;have y:h.isSome=O:=by rcases tU r e with⟨_,q⟩|⟨_,_,_,q,_⟩;cases q;rw[q];rfl
    have D3:bu c.nt j d (.v (.slice aa 0 0)) X E.H:=hY r z (.sl0 O es) dA w;cases a with
    |none=>exact F g e f k i (λ_=>y) D3
    |some ad=>
     simp only at i;rw[aE (by omega)]at i;exact F g e f k i (λ_=>y) D3
   ·cases b
  ·cases b
 ·cases b
end
end Go.Pm
