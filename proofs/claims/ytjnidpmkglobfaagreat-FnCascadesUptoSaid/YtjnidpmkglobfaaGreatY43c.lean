/-
  FnCascades: plain laws.
  No condition.
-/
import Derived.Test.YtjnidpmkglobfaaGreatY43b
open Bool renaming false→Z,true→O
open Option renaming some→J
set_option linter.defProp false
namespace Go.Pm
open Go.Am IntKind
set_option linter.unusedVariables false
set_option linter.unusedSimpArgs false
variable{L:List bZ}{W key n U:Int}{c0 Y:List Int}{gr:am}{i:Nat}{l:List ao}{s:bZ}
def iq.up{n m:Nat}(h:n<=m)(x:iq n s):iq m s:=
 ⟨ii x.la h,ii x.lb h,⟨ii x.lc.1 h,ii x.lc.2.1 h,ii x.lc.2.2 h⟩,ii x.ld h,ii x.le h,ii x.lf h,⟨ii x.lg.1 h,ii x.lg.2.1 h,ii x.lg.2.2 h⟩⟩
def zyi(c:Bt Y)(h:Cu Y n (c0,W,U))(C:n<=2000000000000000)(p:Gw gr)(q:iq 1000 s)(D:s.Out.length<=13):Rn (Il c0 W U gr s) (λz=>iq 1001 z.1/\Cu Y (n+60) z.2):=by
 have b:iq 1001 s:=q.up (by omega);unfold Il;refine aJ (by omega) (ax (hJ (m:=9) c h (by omega)) λB ⟨_,_,_,_,e⟩=>?_);refine ax (ψ:=λx=>iq 1001 (bZ.mk x.2.1 x.2.2.1 (cO.mk x.2.2.2.1 x.2.2.2.2.1 (cQ.mk x.2.2.2.2.2.1 x.2.2.2.2.2.2.1 x.2.2.2.2.2.2.2.1)) (cu.mk x.2.2.2.2.2.2.2.2.1 x.2.2.2.2.2.2.2.2.2.1 x.2.2.2.2.2.2.2.2.2.2.1 (cQ.mk x.2.2.2.2.2.2.2.2.2.2.2.1 x.2.2.2.2.2.2.2.2.2.2.2.2.1 x.2.2.2.2.2.2.2.2.2.2.2.2.2)))/\Cu Y (n+60) x.1) ?_ λx v=>ak v
 have j:Cu Y (n+60) B.2:=e.mono (by omega);have d:∀(o:List ao) (a:Int),iq 1001 ⟨a,o,⟨s.be.cC,s.be.aH,⟨s.be.Pi.aF,s.be.Pi.aX,s.be.Pi.aG⟩⟩,⟨s.Poly.bX,s.Poly.bN,s.Poly.aH,⟨s.Poly.Pi.aF,s.Poly.Pi.aX,s.Poly.Pi.aG⟩⟩⟩:=λo a=>⟨b.la,b.lb,b.lc,b.ld,b.le,b.lf,b.lg⟩
 refine aU (λ_=>aU (λg=>?_) λ_=>ak ⟨d _ _,j⟩) λ_=>aU (λ_=>?_) λ_=>aU (λ_=>?_) λ_=>aU (λ_=>?_) λ_=>aU (λ_=>aU (λg=>?_) λ_=>ak ⟨d _ _,j⟩) λ_=>ak ⟨d _ _,j⟩
 ·have g:0<(s.Out.length:Int):=by simpa using g
  refine ax (Tk c e (by omega) (by omega)) λw ⟨⟨i,u,t⟩,f⟩=>ax (zmN c f (by omega) p) λ_ ⟨_,_,y⟩=>?_
  rw[u];exact bB t (ak ⟨d _ _,y.mono (by omega)⟩)
 ·exact ax (zqU c e (by omega) p q.lc) λw ⟨r,f⟩=>ak ⟨⟨b.la,b.lb,r,b.ld,b.le,b.lf,b.lg⟩,f.mono (by omega)⟩
 ·exact ax (zqU c e (by omega) p q.lg) λw ⟨r,f⟩=>ak ⟨⟨b.la,b.lb,b.lc,b.ld,b.le,b.lf,r⟩,f.mono (by omega)⟩
 ·exact ax (hJ (m:=4) c e (by omega)) λw ⟨_,_,_,_,A⟩=>ak ⟨d _ _,A.mono (by omega)⟩
 have g:1<(s.Out.length:Int):=by simpa using g
 exact bB (k:=0) (by omega) (bB (k:=1) (by omega) (bB (k:=1) (by rw[zu];omega) (ak ⟨d _ _,j⟩)))
def Pb{a g h:Type}{b1:Int->a->Option (fi a g)}{b2:Int->a->Option (fi a h)}{e1:a->g}{e2:a->h}{m:Nat}{s0:a}(I:Nat->a->Prop)(R:g->h->Prop)(p:I 0 s0)
(u:∀k s,k<m->I k s->(∃b,b1 (k:Int) s=J (.go b)/\b2 (k:Int) s=J (.go b)/\I (k+1) b)\/∃x y,b1 (k:Int) s=J (.out x)/\b2 (k:Int) s=J (.out y)/\R x y)
(r:∀s,I m s->R (e1 s) (e2 s)):∃x y,aO b1 e1 m 0 s0=J x/\aO b2 e2 m 0 s0=J y/\R x y:=by
 have key:∀n k s,k+n=m->I k s->∃x y,aO b1 e1 n (k:Int) s=J x/\aO b2 e2 n (k:Int) s=J y/\R x y:=by
  intro n;induction n with
  |zero=>
   intro k s t f;have:k=m:=by omega
   subst this;exact⟨_,_,rfl,rfl,r s f⟩
  |succ n ih=>
   intro k s t f;rcases u k s (by omega) f with⟨b,c,d,e⟩|⟨x,y,c,d,e⟩
   ·obtain⟨x,y,j,o,q⟩:=ih (k+1) b (by omega) e;rw[show((k+1:Nat):Int)=(k:Int)+1 by omega]at j o;exact⟨x,y,by simp only[aO,c,aP];exact j,by simp only[aO,d,aP];exact o,q⟩
   ·exact⟨x,y,by simp only[aO,c,aP],by simp only[aO,d,aP],e⟩
 exact key m 0 s0 (by omega) p
def SE(gr:am)(key:Int)(a:ap gr->qw gr l.length)(b:l.length<=13):∃t,(∃B,qq gr key l=J (B,t))/\(∃C,qu gr key l=J (C,t))/\nr gr key l=J t/\(t=O↔ap gr/\dm gr key l=O):=by
 by_cases k:ap gr
 ·obtain⟨C,_,_,_,d⟩:=K8 k key (a k) b;obtain⟨B,e,f,h⟩:=Im k (a k) b;have g:=uE k key l f;have c:=uT k key l;rw[show(aL gr key&&(di 1 12 l.length&&l.all (b8 gr)))=dm gr key l from rfl]at c;refine⟨dm gr key l,?_,?_,?_,by simp[k]⟩
  ·rw[g];cases dm gr key l<;>exact⟨_,rfl⟩
  ·rw[d];cases dm gr key l<;>exact⟨_,rfl⟩
  unfold nr;rw[c];cases dm gr key l with
  |false=>rfl
  |true=>rw[aP,aA (by simp),e];rfl
 refine⟨Z,⟨_,Lg k key l⟩,⟨_,MI k key l⟩,?_,by simp[k]⟩;unfold nr;rw[D1 k];rfl
def zDQ(gr:am)(b:Dg gr)(key:Int)(a:l.length<=13):∃t,(∃B,qq gr key l=J (B,t))/\(∃C,qu gr key l=J (C,t))/\nr gr key l=J t/\(t=O↔ap gr/\dm gr key l=O):=SE gr key (λk=>CB k (b k) a) a
def zxO(h:dm gr key l=O):l.length<=12:=by
 unfold dm at h;simp only[bC]at h;have:=KQ.1 h.2.1;omega
def Xy(f:ap gr->qw gr 12)(k:ap gr)(b:dm gr key l=O){x:bZ}(q:iq 1048576 x):∃v,mS gr key l x=J (v,O)/\DI gr key l x=J v/\(v=O->dm gr key x.Out=O):=by
 have g:=zxO b;obtain⟨v,t,a,h⟩:=zEw gr key (l:=l) (λk=>(f k).le g) (by omega) q;obtain⟨u,_,⟨C,m⟩,o,d⟩:=SE gr key (l:=l) (λk=>(f k).le g) (by omega);have d:u=O:=d.2 ⟨k,b⟩;subst d;have c:=h;unfold Fg at c;rw[o]at c;simp only[aP,oI,lL,ja,bT,aS,b9]at c;obtain⟨w,j,rfl,rfl⟩:=c;refine⟨w,a,j,λp=>?_⟩;subst p;unfold mS at a;rw[m,xu k,show(di 1 12 x.Out.length&&x.Out.all (b8 gr))=tS gr x.Out from rfl]at a;cases e:tS gr x.Out with
 |false=>rw[e]at a;simp at a
 |true=>
  unfold dm at b⊢;rw[bC]at b⊢;exact⟨b.1,e⟩
def ry(l:List ao)(L:List bZ)(i:Nat):List ao:=(l::L.map bZ.Out).getD i []
def V3(h:i<L.length):ry l L (i+1)=L[i].Out:=by simp[ry,List.getD,h]
def zCw{x:bZ}(h:i<=L.length):ry l (L++[x]) i=ry l L i:=by
 unfold ry;rw[lN,<-tJ,mA,fE (by simp;omega),<-mA]
structure zl (gr:am) (key:Int) (l:List ao) (L:List bZ):Prop where
 x:∀i (h:i<L.length),∃arg,LB gr key (ry l L i) arg L[i]
def zl.snoc{arg:Int}(h:zl gr key l L)(b:LB gr key (ry l L L.length) arg s):zl gr key l (L++[s]):=⟨λi a=>by
 rw[cy,List.length_singleton]at a;rw[zCw (by omega)];by_cases e:i=L.length
 ·subst e;exact⟨arg,by simpa using b⟩
 ·rw[List.getElem_append_left (by omega)]
  exact h.x i (by omega)⟩
def Xa(gr:am)(G:Dg gr)(key:Int)(H:l.length<=13)(args:List Int)(b d:List (List Int)):∃L t,KJ gr key l args b d=J (L,t)/\EQ gr key l args b d=J (L,t)/\(t=Z->L=[])/\(t=O->ap gr/\dm gr key l=O/\L.length=args.length)/\L.length<=6/\zl gr key l L:=by
 obtain⟨u,⟨B,M⟩,_,Q,R⟩:=zDQ gr G key H;have p:zl gr key l []:=⟨λi h=>by simp at h⟩
 have w:∃c,((if decide (6<(args.length:Int))=O then J O else if((b.length:Int) !=(args.length:Int))=O then J O else J ((d.length:Int) !=(args.length:Int))):Option Bool)=J c/\(c=Z->args.length<=6/\b.length=args.length/\d.length=args.length):=by
  by_cases F:6<args.length
  ·exact⟨O,by rw[aE (by simp;omega)],by simp⟩
  ·rw[aA (by simp;omega)];by_cases o:b.length=args.length
   ·rw[aA (by simp[o])];refine⟨_,rfl,λh=>⟨by omega,o,?_⟩⟩;simp at h;omega
   ·rw[aE (by simp;omega)];exact⟨O,rfl,by simp⟩
 obtain⟨c,w,S⟩:=w;unfold KJ EQ;rw[M,Q];cases u with
 |false=>exact⟨[],Z,rfl,rfl,by simp,by simp,by simp,p⟩
 |true=>
  simp only[aP,oI,lL,ja,w];cases c with
  |true=>exact⟨[],Z,rfl,rfl,by simp,by simp,by simp,p⟩
  |false=>
   obtain⟨h6,hp,hq⟩:=S rfl;obtain⟨k,P⟩:=R.1 rfl;simp only[lL,ja]
   obtain⟨x,y,F,o,rfl,v⟩:=Pb (λj (s:List ao×List bZ)=>s.2.length=j/\s.1=ry l s.2 j/\s.1.length<=13/\zl gr key l s.2) (λ(x y:(List bZ) ⊕ (List bZ×Bool))=>x=y/\((∃L,x=.inl L/\L.length=args.length/\zl gr key l L)\/x=.inr ([],Z))) (m:=args.length) (s0:=(l,[]))
    (b1:=λf a=>
      (ix args f).bind λq=>
      (ix b f).bind λr=>
      (ix d f).bind λz=>
      (tD gr key a.1 q r z).bind λe=>
      if(!e.2)=O then(
      J (.out (.inr ([],Z))))else(
      gd ((a.2.length+1)*296<=140737488355328/\a.2.length+1<=4611686018427387904)<|
      J (.go (e.1.Out,a.2++[e.1]))))
    (b2:=λf a=>
      (ix args f).bind λq=>
      (ix b f).bind λr=>
      (ix d f).bind λz=>
      (uh gr key a.1 q r z).bind λe=>
      if(!e.2)=O then(
      J (.out (.inr ([],Z))))else(
      gd ((a.2.length+1)*296<=140737488355328/\a.2.length+1<=4611686018427387904)<|
      J (.go (e.1.Out,a.2++[e.1]))))
    (e1:=λa=>.inl a.2) (e2:=λa=>.inl a.2)
    ⟨rfl,rfl,H,p⟩
    (by
      rintro j ⟨li,A⟩ N ⟨g,C,D,E⟩;dsimp only at g C D E⊢;rw[hZ N,hZ (show j<b.length by omega),hZ (show j<d.length by omega)];simp only[aP];obtain⟨s,t,e1,e2,e3,I⟩:=zD7 gr G key D args[j] b[j] d[j];rw[e1,e2];simp only[aP];cases t with
      |false=>exact .inr ⟨_,_,rfl,rfl,rfl,.inr rfl⟩
      |true=>
       have X:=I rfl;have T:A.length<=6:=by omega
       simp only[oI,lL,ja];rw[d6 (by omega)];refine .inl ⟨_,rfl,rfl,by simp[g],?_,(zuC X).2,?_⟩
       ·show s.Out=ry l (A++[s]) (j+1);rw[V3 (by simp;omega)];simp[<-g]
       ·show zl gr key l (A++[s]);generalize args[j]=wx1 at X;rw[C,<-g]at X
        exact E.snoc X)
    (λs h=>⟨rfl,.inl ⟨s.2,rfl,h.1,h.2.2.2⟩⟩)
   rw[F,o];rcases v with⟨L,rfl,v,K⟩|rfl
   ·exact⟨L,O,rfl,rfl,by simp,λ_=>⟨k,P,v⟩,by omega,K⟩
   ·exact⟨[],Z,rfl,rfl,by simp,by simp,by simp,p⟩
def yz(gr:am)(key:Int)(l:List ao)(L:List bZ)(k:Nat):Prop:=∀i (h:i<L.length),i<k->mS gr key (ry l L i) L[i]=J (O,O)
def Vn{k:Nat}(h:k<L.length):yz gr key l L (k+1)↔yz gr key l L k/\mS gr key (ry l L k) L[k]=J (O,O):=by
 constructor
 ·exact λa=>⟨λi c d=>a i c (by omega),a k h (by omega)⟩
 rintro⟨a,b⟩ i c d;by_cases e:i=k
 ·subst e;exact b
 exact a i c (by omega)
def zCT(gr:am)(N:ap gr->qw gr 12)(key:Int)(hg0:ap gr->qw gr l.length)(hl:l.length<=13)(M:∀x∈L,iq 1048576 x):∃f a c t,Hm gr key l L=J (f,t)/\KE gr key l L=J (a,c,t)/\JV gr key l L=J (a,c,t)/\(t=O->f=(L.length:Int)->a.length=L.length)/\(ap gr->dm gr key l=O->L.length<=6->yz gr key l L L.length->t=O/\f=(L.length:Int))/\c.length<=12/\(ap gr->dm gr key l=O->L.length<=6->t=O):=by
 obtain⟨ux1,_,⟨C,T⟩,hr,H⟩:=SE gr key hg0 hl;unfold Hm KE JV;rw[T,hr];cases ux1 with
 |false=>exact⟨0,[],[],Z,rfl,rfl,rfl,by simp,λk o=>by simpa using H.2 ⟨k,o⟩,by simp,λk o=>by simpa using H.2 ⟨k,o⟩⟩
 |true=>
  obtain⟨k,o⟩:=H.1 rfl;simp only[aP,oI,lL,ja];by_cases K:6<(L.length:Int)
  ·rw[xN K];exact⟨0,[],[],Z,rfl,rfl,rfl,by simp,λ_ _ h=>by omega,by simp,λ_ _ h=>by omega⟩
  ·rw[Mo K];simp only[lL,ja]
   have X:∃f:Int,((aO (σ:=(List ao)) (λfH b=>
    (ix L fH).bind λp=>
    (mS gr key b p).bind λr=>
    if(!r.2)=O then(
    J (.out (.inr ((0:Int),Z))))else(
    if(!r.1)=O then(
    J (.out (.inr (fH,O))))else(
    J (.go p.Out)))) (λb=>.inl ()) (L.length) 0 l:Option (Unit ⊕ (Int×Bool))).bind (Sum.elim (λx9=>
    J ((L.length:Int),O)) J))=J (f,O)/\(f=(L.length:Int)↔yz gr key l L L.length):=by
    obtain⟨v,G,g⟩:Rn (aO (σ:=(List ao)) (λfH b=>
     (ix L fH).bind λp=>
     (mS gr key b p).bind λr=>
     if(!r.2)=O then(
     J (.out (.inr ((0:Int),Z))))else(
     if(!r.1)=O then(
     J (.out (.inr (fH,O))))else(
     J (.go p.Out)))) (λb=>.inl ()) (L.length) 0 l) (λ(v:Unit ⊕ (Int×Bool))=>(v=.inl ()/\yz gr key l L L.length)\/∃j:Nat,v=.inr ((j:Int),O)/\j<L.length/\¬yz gr key l L L.length):=by
     refine eI (λj s=>s=ry l L j/\dm gr key s=O/\yz gr key l L j) ⟨rfl,o,λi _ h=>by omega⟩ ?_ (λs h=>.inl ⟨rfl,h.2.2⟩);rintro j s d ⟨rfl,F,z⟩;obtain⟨v,e1,_,D⟩:=Xy N k F (M _ (eL d));refine bB d (ag e1 (bQ rfl ?_));cases v with
     |false=>
      refine iS rfl (ak (.inr ⟨j,rfl,d,λh=>?_⟩));have:=h j d d;rw[e1]at this;simp at this
     |true=>exact bQ rfl (ak ⟨(V3 d).symm,D rfl,(Vn d).2 ⟨z,e1⟩⟩)
    rw[G];rcases g with⟨rfl,g⟩|⟨j,rfl,g,Q⟩
    ·exact⟨_,rfl,by simp[g]⟩
    ·exact⟨_,rfl,λe=>by omega,λe=>absurd e Q⟩
   obtain⟨f,P,I⟩:=X
   obtain⟨x,y,G,g,a,c,rfl,rfl,R,S⟩:=Pb (λj (s:List ao×List Int)=>dm gr key s.1=O/\s.2.length<=j/\(yz gr key l L j->s.2.length=j/\s.1=ry l L j)) (λ(x:(List ao×List Int) ⊕ (List Int×List ao×Bool)) (y:(List ao)×List Int)=>∃a c,x=.inl (c,a)/\y=(c,a)/\c.length<=12/\(yz gr key l L L.length->a.length=L.length)) (m:=L.length) (s0:=(l,[]))
    (b1:=λfH b=>
      (((ix L fH).bind λw=>
      (mS gr key b.1 w).bind λB=>
      if(!B.2)=O then(
      J (.inr (.out (.inr ([],[],Z)))))else(
      if B.1=O then(
      gd ((b.2.length+1)*8<=140737488355328/\b.2.length+1<=4611686018427387904)<|
      J (.inl (w.Out,b.2++[fH])))else(
      J (.inl (b.1,b.2)))):Option ((List ao×List Int) ⊕ (fi (List ao×List Int) ((List ao×List Int) ⊕ (List Int×List ao×Bool))))).bind (Sum.elim (λu=>
      J (.go (u.1,u.2))) J)))
    (b2:=λfH b=>
      (((ix L fH).bind λw=>
      (DI gr key b.1 w).bind λB=>
      if B=O then(
      gd ((b.2.length+1)*8<=140737488355328/\b.2.length+1<=4611686018427387904)<|
      J (w.Out,b.2++[fH]))else(
      J (b.1,b.2)):Option ((List ao×List Int))).bind λu=>
      J (.go (u.1,u.2))))
    (e1:=λb=>.inl (b.1,b.2)) (e2:=λb=>(b.1,b.2))
    ⟨o,by simp,λ_=>⟨rfl,rfl⟩⟩
    (by
      rintro j ⟨li,A⟩ d ⟨E,F,z⟩;dsimp only at E F z⊢;obtain⟨v,e1,e2,D⟩:=Xy N k E (M _ (eL d));rw[hZ d];simp only[aP];rw[e1,e2];simp only[aP,oI,lL,ja];cases v with
      |false=>
       refine .inl ⟨(li,A),rfl,rfl,E,by dsimp only;omega,λh=>?_⟩;obtain⟨q1,q2⟩:=(Vn d).1 h;rw[(z q1).2,q2]at e1;simp at e1
      |true=>
       simp only[e7];rw[d6 (show(A.length+1)*8<=140737488355328/\A.length+1<=4611686018427387904 by omega),d6 (show(A.length+1)*8<=140737488355328/\A.length+1<=4611686018427387904 by omega)];refine .inl ⟨_,rfl,rfl,D rfl,by simp;omega,λh=>?_⟩;obtain⟨q1,q2⟩:=(Vn d).1 h
       exact⟨by simp[(z q1).1],(V3 d).symm⟩)
    (λs h=>⟨s.2,s.1,rfl,rfl,zxO h.1,λq=>(h.2.2 q).1⟩)
   rw[P,G,g];refine⟨f,a,c,O,rfl,?_,?_,λ_ e=>S (I.1 e),λ_ _ _ q=>⟨rfl,I.2 q⟩,R,λ_ _ _=>rfl⟩
   ·simp only[aP,Sum.elim_inl];unfold Hu;rw[d6 (by omega)];rfl
   ·simp only[aP];rw[d6 (by omega)]
def zBh{s x:List Int}(d:dc s=O)(c:dc x=O)(t:s.length=x.length):dc (gB s x)=O/\(gB s x).length=x.length:=by
 have h:=d;have u:=c;have g:(gB s x).length=x.length:=by simp[gB]
 simp only[dc,bC,oe,eE,bc,KQ]at d c⊢;refine⟨⟨λy p=>?_,?_⟩,g⟩
 ·rw[g];obtain⟨j,m,rfl⟩:=jr.1 p;have f:=c.1 j m;rw[bS (show j.toNat<s.length by omega)];have:=d.1 _ (eL (show j.toNat<s.length by omega));omega
 unfold gB;rw[List.Nodup,QH];refine c.2.imp_of_mem λ{a b} k f o e=>o ?_
 have q:=c.1 a k;have r:=c.1 b f;have:=Ta h (show a.toNat<s.length by omega) (show b.toNat<s.length by omega) e;omega
def zyM{s x:List Int}(d:∀y∈x,0<=y/\y<s.length)(g:x.length<=1000):GA x s=J (gB s x):=by
 unfold GA;rw[d6 (by omega),aP];refine bW (ax (eI (φ:=λz=>z=gB s x) (λj r=>r=(gB s x).take j++List.replicate (x.length-j) 0/\j<=x.length) ⟨by simp,by omega⟩ ?_ ?_) λz f=>ak f)
 ·rintro j r b ⟨rfl,_⟩;have e:=iP d b;have a:(gB s x).length=x.length:=by simp[gB]
  obtain⟨q,c⟩:=fF e.1;refine bB b ?_;rw[c];refine bB (show q<s.length by omega) (bB (show j<_ by simp[a];omega) (ak ⟨?_,by omega⟩));show((gB s x).take j++List.replicate (x.length-j) 0).set ((j:Int)).toNat s[q]=_;rw[dT,List.set_append_right _ _ (by simp;omega),show j-((gB s x).take j).length=0 by simp[a];omega,show x.length-j=(x.length-(j+1))+1 by omega,a1I,List.set_cons_zero,nT (by omega),gO]
  have:(gB s x)[j]'(by omega)=s[q]:=by
   simp only[gB,a1x,c,dT];rw[bS (by omega)]
  rw[this];rfl
 rintro r ⟨rfl,_⟩;have a:(gB s x).length=x.length:=by simp[gB]
 simp[<-a]
def zNb(P:List (List Int)):∃p t,Ky P=J (p,t)/\Iy P=J (p,t)/\(t=O->xU p=J O):=by
 unfold Ky Iy;rw[vi,qs];cases T:(decide (1<=(P.length:Int))&&decide ((P.length:Int)<=6))with
 |false=>exact⟨[],Z,rfl,rfl,by simp⟩
 |true=>
  simp only[bC,eE]at T;have C:0<P.length:=by omega
  simp only[aP,oI,lL,ja];have B:ix P 0=J P[0]:=hZ (k:=0) C
  obtain⟨x,y,R,S,rfl,d⟩:=Pb (λj (_:Unit)=>∀i (h:i<P.length),i<j->P[i].length<=24/\dc P[i]=O/\P[i].length=P[0].length) (λ(x y:Unit ⊕ (List Int×Bool))=>x=y/\((x=.inl ()/\∀i (h:i<P.length),P[i].length<=24/\dc P[i]=O/\P[i].length=P[0].length)\/x=.inr ([],Z))) (m:=P.length) (s0:=())
   (b1:=λv A=>
     (ix P v).bind λc=>
     (((xU c).bind λM=>
     if(!M)=O then(
     J O)else(
     (ix P 0).bind λG=>
     J ((c.length:Int) !=(G.length:Int))):Option Bool).bind λr=>
     if r=O then(
     J (.out (.inr ([],Z))))else(
     J (.go ()))))
   (b2:=λv A=>
     (ix P v).bind λc=>
     (((ix P 0).bind λF=>
     if((c.length:Int) !=(F.length:Int))=O then(
     J O)else(
     (Cz c).bind λwO=>
     J (!wO)):Option Bool).bind λr=>
     if r=O then(
     J (.out (.inr ([],Z))))else(
     J (.go ()))))
   (e1:=λA=>.inl ()) (e2:=λA=>.inl ())
   (λi _ h=>by omega)
   (by
     rintro j ⟨⟩ f g;rw[hZ f];simp only[aP];rw[TX,YM,B];simp only[aP];by_cases e:P[j].length=P[0].length
     ·have e1:((P[j].length:Int) !=(P[0].length:Int))=Z:=by simp[e]
      rw[e1];cases u:(decide (P[j].length<=24)&&dc P[j])with
      |false=>exact .inr ⟨_,_,rfl,rfl,rfl,.inr rfl⟩
      |true=>
       simp only[bC,eE]at u;refine .inl ⟨(),rfl,rfl,λi b hk=>?_⟩;by_cases e2:i=j
       ·subst e2;exact⟨u.1,u.2,e⟩
       ·exact g i b (by omega)
     ·have e1:((P[j].length:Int) !=(P[0].length:Int))=O:=by simp;omega
      rw[e1];refine .inr ⟨_,_,?_,rfl,rfl,.inr rfl⟩
      cases (decide (P[j].length<=24)&&dc P[j])<;>rfl)
   (λs h=>⟨rfl,.inl ⟨rfl,λi b=>h i b b⟩⟩)
  rw[R,S];rcases d with⟨rfl,d⟩|rfl
  ·obtain⟨l0,p0,_⟩:=d 0 C;simp only[aP,Sum.elim_inl];rw[B];simp only[aP];rw[zBg (by omega),IW (by omega)];simp only[aP];rw[d6 (by omega),d6 (by omega)]
   have D:∀x∈(P.take P.length).drop 1,x.length<=24/\dc x=O/\x.length=P[0].length:=λx o=>by
    have o:=HM o;rw[jQ]at o;obtain⟨i,b,rfl⟩:=BW.1 o;exact d i b
   generalize (P.take P.length).drop 1=Q at D
   obtain⟨x,y,H,I,rfl,f3,K⟩:=Pb (λ_ (s:List Int)=>s.length=P[0].length/\dc s=O) (λ(x y:List Int)=>x=y/\x.length=P[0].length/\dc x=O) (m:=Q.length) (s0:=P[0])
    (b1:=λz a=>
      (ix Q z).bind λq=>
      (BO a q).bind λw=>
      J (.go w))
    (b2:=λz a=>
      (ix Q z).bind λq=>
      (GA q a).bind λw=>
      J (.go w))
    (e1:=λa=>a) (e2:=λa=>a)
    ⟨rfl,p0⟩
    (by
      rintro j s f ⟨g1,N⟩;obtain⟨q1,q2,q3⟩:=D _ (eL f)
      have E:∀y∈Q[j],0<=y/\y<s.length:=λy X=>by
       have q4:=q2;simp only[dc,bC,bc,KQ]at q4;have:=q4.1 y X;omega
      obtain⟨o1,o2⟩:=zBh N q2 (by omega);rw[hZ f];simp only[aP];rw[Z0 E (by omega),zyM E (by omega)]
      exact .inl ⟨_,rfl,rfl,by omega,o1⟩)
    (λs h=>⟨rfl,h⟩)
   rw[H,I];refine⟨x,O,rfl,rfl,λ_=>?_⟩;rw[TX,K,xN (by omega)];rfl
  ·exact⟨[],Z,rfl,rfl,by simp⟩
def zGK{n:Nat}{l:List Int}(B:n<=1000):Rn (Ju (n:Int) l) (λ_=>True):=by
 unfold Ju;refine ax (ψ:=λb=>b=Z->n<=24/\1<=n/\l.length=n-1) (ag (qs _ _ _) (aU (λh=>ak (by simp)) λh=>ak λe=>?_)) λb d=>aU (λ_=>ak trivial) λf=>?_
 ·simp at h;have e:((l.length:Int) !=i64.wrap ((n:Int)-1))=Z:=e;rw[aK (by omega) (by omega)]at e;simp at e;omega
 obtain⟨x,y,z⟩:=d f;refine ax (ψ:=λs=>s.length=n) (kZ n (λj s=>s.1.length=j/\s.2=(j:Int)) ⟨rfl,rfl⟩ ?_ ?_) λC r=>?_
 ·rintro j ⟨s,i⟩ A ⟨q1,q2⟩;have q1:s.length=j:=q1;have q2:i=(j:Int):=q2;refine iS (by simp;omega) (aJ (by dsimp only;omega) (ak ⟨by simp[q1],?_⟩));show i64.wrap (i+1)=_;rw[aK (by omega) (by omega)];push_cast;omega
 ·rintro⟨s,i⟩ ⟨q1,q2⟩;have q2:i=(n:Int):=q2;exact bQ (by simp;omega) (ak q1)
 refine ax (ψ:=λ_=>True) (eI (λ_ s=>s.length=n) r ?_ λ_ _=>trivial) λv _=>by cases v<;>exact ak trivial
 intro k s m p;refine bB m (aU (λ_=>ak trivial) λg=>?_);have g:0<=l[k]:=by simpa using g
 have a:i64.wrap (i64.wrap ((n:Int)-1)-(k:Int))=((n-1-k:Nat):Int):=by
  rw[aK (n:=(n:Int)-1) (by omega) (by omega),aK (by omega) (by omega)];omega
 have c:i64.wrap (((n-1-k:Nat):Int)+1)=((n-k:Nat):Int):=by
  rw[aK (by omega) (by omega)];omega
 rw[a,c]
 obtain⟨q,o,w⟩:∃q:Nat,l[k].tmod ((n-k:Nat):Int)=(q:Int)/\q<n-k:=by
  have t:=Int.tmod_nonneg ((n-k:Nat):Int) g;have u:=QD l[k] (show(0:Int)<((n-k:Nat):Int)by omega);exact⟨(l[k].tmod ((n-k:Nat):Int)).toNat,by omega,by omega⟩
 rw[o];exact aJ (by omega) (bB (k:=n-1-k) (by omega) (bB (k:=q) (by omega) (bB (k:=q) (by rw[zu];omega) (ak (by show((s.set _ _).set _ _).length=n;rw[zu,zu];exact p)))))
def Pk{k:Nat}(a:Bt Y)(h:Cu Y n (c0,W,U))(g:n<=4000000000000000)(b:k<=1000):Rn (zC c0 W U (k:Int)) (λz=>Cu Y (n+2*k+2) z.2):=by
 unfold zC;refine ax (ψ:=λs=>Cu Y (n+2*k+2) s.1) (kZ (k-1) (λj s=>s.2.2=1+(j:Int)/\s.2.1.length=j/\Cu Y (n+2*j) s.1) ⟨rfl,rfl,by simpa using h⟩ ?_ ?_) λs d=>ax (zGK b) λ_ _=>ak d
 ·rintro j ⟨c,l,i⟩ f ⟨q1,q2,q3⟩;have q1:i=1+(j:Int):=q1;have q2:l.length=j:=q2;refine iS (by simp;omega) (ax (hJ a q3 (by omega)) λw ⟨_,_,_,_,e⟩=>aJ (by dsimp only;omega) (ak ⟨?_,by simp[q2],e.mono (by push_cast;omega)⟩));show i64.wrap (i+1)=_;rw[aK (by omega) (by omega)];push_cast;omega
 rintro⟨c,l,i⟩ ⟨q1,q2,q3⟩;have q1:i=1+((k-1:Nat):Int):=q1;exact bQ (by simp;omega) (ak (q3.mono (by omega)))
def zv0(a:Bt Y)(h:Cu Y n (c0,W,U))(F:n<=3000000000000000):Rn (Jf c0 W U) (λz=>Cu Y (n+100) z.2):=by
 unfold Jf;refine ax (hJ a h (by omega)) λC ⟨E,_,d,_,j⟩=>ax (xW a j (by omega)) λz2 b=>?_
 have d:=d (by omega);refine ax (ψ:=λx=>(∃m:Nat,x.2=(m:Int)/\m<=25)/\Cu Y (n+8) x.1) (aU (λ_=>ax (qc a b (by omega) (by simp)) λy ⟨A,B⟩=>ak ⟨?_,B.mono (by omega)⟩) λ_=>ak ⟨⟨C.1.toNat,by dsimp only;omega,by omega⟩,b.mono (by omega)⟩) λx ⟨⟨m,q,G⟩,v⟩=>?_
 ·simp only[gp,kg,kh]at A;exact⟨y.1.toNat,by dsimp only;omega,by omega⟩
 rw[q];refine ax (Pk a v (by omega) (by omega)) λD f=>?_
 refine ax (ψ:=λx=>(x.2=O->0<D.1.length)/\Cu Y (n+70) x.1) (aU (λg=>ax (xW a f (by omega)) λy c=>ak ⟨λ_=>by simpa using g,c.mono (by omega)⟩) λ_=>ak ⟨by simp,f.mono (by omega)⟩) λx ⟨o,e⟩=>?_
 refine ax (ψ:=λx=>Cu Y (n+100) x.1) (aU (λg=>?_) λ_=>ak (e.mono (by omega))) λy c=>ak c
 refine ax (Tk a e (by omega) (o g)) λw ⟨⟨i,p,k⟩,t⟩=>ax (hJ a t (by omega)) λu ⟨_,_,_,_,r⟩=>?_
 rw[p];exact bB k (ak (r.mono (by omega)))
def zAK(a:Bt Y):Rn (Kr Y) (λ_=>True):=by
 unfold Kr;refine ax (hJ a (cu0 Y) (by omega)) λT ⟨r,_,d,_,t⟩=>ax (hJ a t (by omega)) λz2 ⟨z,_,e,_,A⟩=>?_
 have d:=d (by omega);have e:=e (by omega);obtain⟨m,F⟩:=fF r;obtain⟨K,D⟩:=fF z;rw[F,D];refine ax (ψ:=λs=>s.2.length<=4/\Cu Y 200 s.1) (kZ K (λj s=>s.2.2=(K:Int)-j/\s.2.1.length=j/\Cu Y (4+20*j) s.1) ⟨by simp,rfl,A.mono (by omega)⟩ ?_ ?_) λx ⟨p,q⟩=>?_
 ·rintro j ⟨c,l,i⟩ R ⟨q1,q2,q3⟩;have q1:i=(K:Int)-j:=q1;have q2:l.length=j:=q2;refine iS (by simp;omega) (ax (Pk a q3 (by omega) (by omega)) λw k=>aJ (by dsimp only;omega) (ak ⟨?_,by simp[q2],k.mono (by push_cast;omega)⟩));show i64.wrap (i-1)=_;rw[aK (by omega) (by omega)];push_cast;omega
 ·rintro⟨c,l,i⟩ ⟨q1,q2,q3⟩;have q1:i=(K:Int)-(K:Nat):=q1;have q2:l.length=K:=q2;exact bQ (by simp;omega) (ak ⟨by dsimp only;omega,q3.mono (by omega)⟩)
 refine ax (ψ:=λy=>(y.2=O->0<x.2.length)/\Cu Y 300 y.1) (aU (λg=>ax (xW a q (by omega)) λy G=>ak ⟨λ_=>by simpa using g,G.mono (by omega)⟩) λ_=>ak ⟨by simp,q.mono (by omega)⟩) λy ⟨C,f⟩=>?_
 refine ax (ψ:=λy=>y.2.length<=4/\Cu Y 500 y.1) (aU (λg=>?_) λ_=>ak ⟨p,f.mono (by omega)⟩) λy ⟨S,Q⟩=>?_
 ·refine ax (Tk a f (by omega) (C g)) λw ⟨⟨i,E,B⟩,N⟩=>ax (zv0 a N (by omega)) λu I=>?_
  rw[E];exact bB B (ak ⟨by show(List.set _ _ _).length<=4;rw[zu];exact p,I.mono (by omega)⟩)
 refine ax (xW a Q (by omega)) λu H=>ax (ψ:=λ_=>True) (aU (λ_=>?_) λ_=>ak trivial) λ_ _=>ak trivial
 refine ax (hJ a H (by omega)) λw ⟨k,_,o,_,P⟩=>?_
 have o:=o (by omega);refine tZ (λs=>s.2.length<=8/\Cu Y (600+20*s.2.length) s.1) (λs=>8-s.2.length) ⟨by dsimp only;omega,P.mono (by dsimp only;omega)⟩ ?_;rintro⟨c,l⟩ ⟨h,b⟩;have h:l.length<=8:=h;have b:Cu Y (600+20*l.length) c:=b;dsimp only;rw[aK (n:=6+w.1) (by omega) (by omega)];refine aU (λg=>?_) λ_=>ak trivial
 have g:(l.length:Int)<6+w.1:=by simpa using g
 exact ax (Pk a b (by omega) (by omega)) λv M=>aJ (by omega) (ak ⟨⟨by simp;omega,M.mono (by simp;omega)⟩,by simp;omega⟩)
def Z3(b:Bt Y):Rn (FJ Y) (λz=>(Gw z.1/\Dg z.1)/\z.2.2.1.length<=13):=by
 unfold FJ Ms;refine ax (ψ:=λz=>(Gw z.1/\Dg z.1)/\z.2.2.1.length<=13) ?_ λz h=>ak h
 refine ax (Vp (T0 b (cu0 Y) (by omega)) (zsZ b (cu0 Y) (by omega))) λz ⟨⟨z1,z2⟩,z3⟩=>ax (xW b z2 (by omega)) λy A=>?_
 refine ax (ψ:=λx=>(Gw (am.mk x.2.1 x.2.2.1 x.2.2.2)/\Dg (am.mk x.2.1 x.2.2.1 x.2.2.2))/\Cu Y 30 x.1) (aU (λ_=>ax (Vp (zwI b A (by omega)) (zuj b A (by omega))) λw ⟨⟨u,w2⟩,w3⟩=>ak ⟨⟨u,w3⟩,w2.mono (by omega)⟩) λ_=>ak ⟨⟨z1.w,KP z3 (by simp[Ct])⟩,A.mono (by omega)⟩) λx ⟨⟨o,x0⟩,x2⟩=>?_
 refine ax (hJ b x2 (by omega)) λpx1 ⟨T,_,G,_,X⟩=>?_
 have G:=G (by omega);obtain⟨K,N⟩:=fF T;rw[N,aK (n:=1+(K:Int)) (by omega) (by omega)];refine ax (ψ:=λr=>r.2.length=K+1/\Cu Y 80 r.1) (kZ (K+1) (λj s=>s.2.2=(K:Int)+1-j/\s.2.1.length=j/\Cu Y (32+8*j) s.1) ⟨by dsimp only;omega,rfl,X.mono (by omega)⟩ ?_ ?_) λr ⟨r1,r2⟩=>?_
 ·rintro j ⟨c,l,i⟩ Q ⟨d,f,m⟩;have d:i=(K:Int)+1-j:=d;have f:l.length=j:=f;refine iS (by simp;omega) (ax (zzs b m (by omega) o) λw u=>aJ (by dsimp only;omega) (ak ⟨?_,by simp[f],u.mono (by push_cast;omega)⟩));show i64.wrap (i-1)=_;rw[aK (by omega) (by omega)];push_cast;omega
 ·rintro⟨c,l,i⟩ ⟨d,f,m⟩;have d:i=(K:Int)+1-((K+1:Nat):Int):=d;exact bQ (by simp;omega) (ak ⟨f,m.mono (by omega)⟩)
 refine ax (hJ b r2 (by omega)) λqx1 ⟨q1,_,q3,_,q5⟩=>?_
 have q3:=q3 (by omega);obtain⟨M,P⟩:=fF q1;rw[P];refine ax (ψ:=λs=>(∀v∈s.2.2.2,v.length<=1000)/\Cu Y 90000 s.1) (kZ M (λj s=>s.2.2.2.2=(M:Int)-j/\(s.2.1.length=j/\s.2.2.1.length=j/\s.2.2.2.1.length=j)/\(∀v∈s.2.2.2.1,v.length<=1000)/\Cu Y (100+6000*j) s.1) ⟨by simp,⟨rfl,rfl,rfl⟩,by simp,q5.mono (by omega)⟩ ?_ ?_) λs ⟨H,I⟩=>?_
 ·rintro j ⟨c,D,E,F,i⟩ Q ⟨d,⟨f,m,p⟩,q,t⟩;have d:i=(M:Int)-j:=d;have f:D.length=j:=f;have m:E.length=j:=m;have p:F.length=j:=p;refine iS (by simp;omega) (ax (hJ b t (by omega)) λw ⟨_,_,_,_,w5⟩=>ag (UR _ (n:=r.2.length) (by omega)) (aJ (by dsimp only;omega) (ax (Pk b w5 (by omega) (by omega)) λux1 u1=>aJ (by dsimp only;omega) ?_)));generalize i64.wrap (1+w.1)=a
  obtain⟨k,R,Fp⟩:∃k:Nat,(if(di 1 12 (r.2.length:Int)&&sA a)=O then(((mT a r.2.length:Nat):Int),O)else((0:Int),Z)).1=(k:Int)/\k<=1000:=by
   split
   ·exact⟨_,rfl,by unfold mT;split<;>omega⟩
   ·exact⟨0,rfl,by omega⟩
  rw[R];refine ax (zuM b u1 (by omega) o (by omega)) λv ⟨v1,_,v3⟩=>aJ (by dsimp only;omega) (ak ⟨?_,⟨by simp[f],by simp[m],by simp[p]⟩,?_,v3.mono (by push_cast;omega)⟩)
  ·show i64.wrap (i-1)=_;rw[aK (by omega) (by omega)];push_cast;omega
  intro e he;rcases ke.1 he with he|he
  ·exact q e he
  rw[gE.1 he];omega
 ·rintro⟨c,D,E,F,i⟩ ⟨d,_,q,t⟩;have d:i=(M:Int)-(M:Nat):=d;exact bQ (by simp;omega) (ak ⟨q,t.mono (by omega)⟩)
 refine ax (ψ:=λy=>(y.2=O->0<s.2.2.2.length)/\Cu Y 90010 y.1) (aU (λg=>ax (xW b I (by omega)) λy S=>ak ⟨λ_=>by simpa using g,S.mono (by omega)⟩) λ_=>ak ⟨by simp,I.mono (by omega)⟩) λy ⟨B,C⟩=>?_
 refine ax (ψ:=λy=>Cu Y 99000 y.1) (aU (λg=>bB (k:=0) (B g) (ax (zwp b C (by omega) o (H _ (eL _))) λv ⟨_,v2⟩=>ak (v2.mono ?_))) λ_=>ak (C.mono (by omega))) λy y2=>?_
 ·have:=H _ (eL (B g));omega
 exact ax (Qf b y2 (by omega) o) λtx1 _=>ak ⟨⟨o,x0⟩,by dsimp only;omega⟩
def VH(h:zl gr key l L)(a:i<L.length):iq 1000 L[i]/\L[i].Out.length<=13:=by
 obtain⟨arg,x⟩:=h.x i a;exact zuC x
def zCK(j:Bt Y):Rn (I4 Y) (λz=>Dg z.1/\z.2.2.1.length<=13/\∀x∈z.2.2.2,iq 1001 x):=by
 unfold I4 NV;refine ax (ψ:=λz=>Dg z.1/\z.2.2.1.length<=13/\∀x∈z.2.2.2,iq 1001 x) ?_ λz h=>ak h
 refine ax (Z3 j) λz ⟨⟨S,z2⟩,E⟩=>?_
 obtain⟨L,t,_,H,_,_,I,r⟩:=Xa z.1 z2 z.2.1 E z.2.2.2.1 z.2.2.2.2.1 z.2.2.2.2.2;refine ag H ?_;dsimp only;have B:∀a,iq 1001 ⟨a,[],⟨[],[],⟨[],[],[]⟩⟩,⟨[],[],[],⟨[],[],[]⟩⟩⟩:=λa=>⟨by simp,by simp,⟨by simp,by simp,by simp⟩,by simp,by simp,by simp,⟨by simp,by simp,by simp⟩⟩
 have T:L.length<=6:=I;refine ax (ψ:=λx=>x.2.length<=6/\(∀s∈x.2,iq 1001 s)/\Cu Y 1000 x.1) (eI (λk s=>s.2.length=L.length/\(∀i (h:i<s.2.length),iq 1001 s.2[i]/\(k<=i->iq 1000 s.2[i]/\s.2[i].Out.length<=13))/\Cu Y (100*k) s.1) ⟨rfl,λi h=>⟨(VH r h).1.up (by omega),λ_=>VH r h⟩,by simpa using cu0 Y⟩ ?_ ?_) λx ⟨x1,m,R⟩=>?_
 ·rintro k ⟨c,s⟩ A ⟨d,f,q⟩;have d:s.length=L.length:=d;refine ax (ψ:=λ(x:(List Int×Int×Int)×List bZ)=>x.2.length=L.length/\(∀i (h:i<x.2.length),iq 1001 x.2[i]/\(k+1<=i->iq 1000 x.2[i]/\x.2[i].Out.length<=13))/\Cu Y (100*(k+1:Nat)) x.1) (ax (xW j q (by omega)) λy o=>aU (λ_=>bB (show k<s.length by omega) ?_) λ_=>ak ⟨d,λi h=>⟨(f i h).1,λA=>(f i h).2 (by omega)⟩,o.mono (by push_cast;omega)⟩) λx N=>ak N
  obtain⟨F,G⟩:=(f k (by dsimp only;omega)).2 (cq k);refine ax (zyi j o (by omega) S F G) λw ⟨C,Q⟩=>ak ⟨by show(List.set _ _ _).length=_;rw[zu];exact d,λi h=>?_,Q.mono (by push_cast;omega)⟩
  have h:i<(s.set (k:Int).toNat w.1).length:=h;rw[zu]at h;show iq 1001 (s.set (k:Int).toNat w.1)[i]/\(k+1<=i->iq 1000 (s.set (k:Int).toNat w.1)[i]/\(s.set (k:Int).toNat w.1)[i].Out.length<=13);simp only[List.getElem_set,dT];by_cases e:k=i
  ·subst e;simp only[e7];exact⟨C,λh=>by omega⟩
  simp only[aA e];exact⟨(f i h).1,λA=>(f i h).2 (by omega)⟩
 ·rintro⟨c,s⟩ ⟨d,f,q⟩;have d:s.length=L.length:=d;refine⟨by dsimp only;omega,λv M=>?_,q.mono (by omega)⟩;obtain⟨i,K,rfl⟩:=BW.1 M;exact(f i K).1
 refine ax (hJ j R (by omega)) λp ⟨_,_,_,_,P⟩=>?_
 refine ax (ψ:=λy=>∀s∈y,iq 1001 s) (aU (λ_=>aJ (by omega) (ak λs b=>?_)) λ_=>aU (λ_=>aU (λg=>?_) λ_=>ak m) λ_=>aU (λ_=>?_) λ_=>ak m) λy o=>ak ⟨z2,E,o⟩
 ·rcases ke.1 b with b|b
  ·exact m s b
  rw[gE.1 b];exact B _
 ·have g:1<(x.2.length:Int):=by simpa using g
  exact aJ (by omega) (ak λs b=>m s (Ez (HM b)))
 refine ax (hJ j P (by omega)) λw ⟨C,_,D,_,w5⟩=>?_
 have D:=D (by omega);refine tZ (λs=>s.length<=8/\∀v∈s,iq 1001 v) (λs=>8-s.length) ⟨by omega,m⟩ ?_;rintro l ⟨X,u⟩;rw[aK (n:=6+w.1) (by omega) (by omega)];refine aU (λg=>?_) λ_=>ak u
 have g:(l.length:Int)<6+w.1:=by simpa using g
 refine aJ (by omega) (ak ⟨⟨by simp;omega,λs b=>?_⟩,by simp;omega⟩);rcases ke.1 b with b|b
 ·exact u s b
 rw[gE.1 b];exact B _
def zFt(a b:List Int)(G:∀x∈a,0<=x/\x<=255)(H:∀x∈b,0<=x/\x<=255)(zN:a.length<=1048576)(Bu:b.length<=1048576):Kn a b=J O:=by
 have j:Bt a:=⟨G,by omega⟩
 have r:Bt b:=⟨H,by omega⟩
 unfold Kn Nx;refine bW (ax (ψ:=λ_=>True) (ax (ψ:=λ_=>True) (aU (λ_=>ak trivial) λ_=>ak trivial) λ_ _=>ak trivial) λ_ _=>aU (λ_=>ak rfl) λ_=>?_);refine ax (Z3 j) λz ⟨⟨z1,z2⟩,h⟩=>?_
 obtain⟨L,t,v,w,e3,A,B,m⟩:=Xa z.1 z2 z.2.1 h z.2.2.2.1 z.2.2.2.2.1 z.2.2.2.2.2;refine ag v (ag w (ax (ψ:=(· =Z)) (bQ (by simp) (ak (by simp))) ?_));rintro _ rfl;refine bQ rfl (ax (ψ:=(· =.inl ())) (aU (λg=>?_) λ_=>ak rfl) ?_)
 ·have g:t=O:=g;subst g;obtain⟨k,M,I⟩:=A rfl
  obtain⟨f,x,y,u,c,_,_,_,F⟩:=zCT z.1 (λk=>CB k (z2 k) (by omega)) z.2.1 (λk=>CB k (z2 k) h) h (L:=L) λs e=>by
   obtain⟨i,d,rfl⟩:=BW.1 e;exact(VH m d).1.up (by omega)
  obtain⟨rfl,rfl⟩:=F.1 k M B λi d _=>by
   obtain⟨arg,X⟩:=m.x i d;exact zGD z2 X
  refine ag c (ax (ψ:=(· =Z)) (bQ rfl (ak (by simp[I]))) ?_);rintro _ rfl;exact bQ rfl (ak rfl)
 rintro _ rfl;refine ax (zCK r) λy ⟨p,q,T⟩=>?_
 obtain⟨f,cx1,dx1,u,c,C,D,E,_⟩:=zCT y.1 (λk=>CB k (p k) (by omega)) y.2.1 (λk=>CB k (p k) q) q (L:=y.2.2.2) λs e=>(T s e).up (by omega)
 refine ag C (ag D (ax (ψ:=(· =Z)) (bQ (by simp) (ag zuV (bQ rfl (ag (zG1 _) (ak rfl))))) ?_));rintro _ rfl;refine bQ rfl (ag c (ax (ψ:=(· =Z)) (aU (λo=>bQ (by simp[show u=O from o]) (aU (λK=>ak ?_) λ_=>ak rfl)) λ_=>ak rfl) ?_))
 ·have:=E o (by simpa using K);simp[this]
 rintro _ rfl;refine bQ rfl (ax (zAK j) λP _=>?_);obtain⟨px1,vx1,Q,R,S⟩:=zNb P;refine ag Q (ag R (ax (ψ:=(· =O)) (iS (by simp) (ag zuV (iS rfl (aU (λ_=>ak rfl) λN=>ag (S (by simpa using N)) (ak rfl))))) ?_));rintro _ rfl;exact ak rfl
end Go.Pm
