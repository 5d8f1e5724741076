import Derived.Test.YtnojafnlicbhpaaGreatPmO
open Bool renaming false→aa,true→Z
open Option renaming none→ae,some→J
set_option linter.defProp false
namespace Go.Pm
def OJ:=@List.length_drop
def Uo:=@Nat.le_of_not_lt
def a0A:=@List.any_eq_true
set_option linter.unusedVariables false
set_option linter.unusedSimpArgs false
open Go.Am
section
variable {nt:Nat}{pin:List (Nat×Value)}{E0 E E':Env}{pf:ah}{fr ai:FR}{c:aY}{P:Program}
def Mv(t:Nat)(y:PF):Nat:=(bC y).getD t
def Qw(E E':Env)(s:Nat):Prop:=∀id p,E.ow id=J (s,p)->¬E.G id->E'.G id/\∀k,E.H.b id=J k->∃k',E'.H.b id=J k'/\k'=k
variable{K:ah->Prop}{K':FR->AH->Prop}{args:Array Operand}{f:Operand}{l:List (Md×Nat×Operand)}{nf:Nat}{o:Oper}{roots:Nat->Prop}{ts:Array TypeId}{v:Value}{xs:List Operand}
def Qw.ok{s:Nat}{p:aA}(h:Qw E E' s):yv E E' (J (s,p)):=λid r h1 h2=>by
 obtain⟨a,b⟩:=h id (p++r) h1 h2;exact⟨a,λk hk=>by obtain⟨k',e1,e2⟩:=b k hk;exact⟨k',e1,by rw[e2]⟩⟩
def PR.LA{l:Nat×aA}{x:PV}(h:PR E (J l) x v)(hg:GK E E')(hf:bK x=Z->yv E E' (J l)):PR E' ae (drop x) v:=by
 by_cases ho:bK x=Z
 ·exact h.freeze hg (hf ho)
 ·exact(h.free (by simpa using ho)).freeze hg True.intro
def zyx(r:aq nt pin E0 E pf fr){t:Nat}{y:PV}(hy:dR pf (pf t)=J y)(hj:y≠.au)(hv:fr t=.v v)(hg:GK E E')(hf:bK y=Z->Qw E E' (Mv t (pf t))):PR E' ae (drop y) v:=by
 have nx:=r.f t;cases aE:pf t with
 |v x=>
  rw[aE]at hy nx hf;simp only[dR,aT]at hy;subst hy;obtain⟨w,g1,g2⟩:=gi nx hj;rw[hv]at g1;cases g1;exact g2.LA hg λho=>(hf ho).ok
 |rf s p=>
  rw[aE]at hy nx hf;simp only[dR]at hy;obtain⟨w,g1,g2⟩:=nx;rw[hv]at g1;cases g1;obtain⟨v',w1,w2⟩:=r.at hy hj (iQ r g2 hy);have:=w1.same g2;subst this;exact w2.LA hg λho=>(hf ho).ok
 |rv s p lo hi=>
  rw[aE]at hy nx hf;obtain⟨z,hz,gu⟩:=bR.1 hy;unfold FF at gu;split at gu
  ·rename_i o es rows;split at gu
   ·rename_i hb;simp only[aT]at gu;subst gu;rw[zkK]at hf;rw[zjE,List.map_drop,List.map_take];rcases nx with⟨h1,h2,rfl,rfl⟩|⟨id,off,es2,n,cc,h1,h2,h3,h4⟩
    ·rw[hv]at h2;cases h2;simpa using PR.sl0 (E:=E') (l:=ae) aa es
    ·rw[hv]at h4;cases h4;obtain⟨v',w1,w2⟩:=r.at hz (by simp) (iQ r h1 hz);have:=w1.same h1;subst this;have ee:=zO w2;subst ee;have hd:=w2.LA hg λho=>(hf (by rw[zkK]at ho;exact ho)).ok
     rw[zjE]at hd;obtain⟨_,_,_,e3⟩:=hd.cut h2 h3;exact e3
   ·cases gu
  ·cases gu
 |ra s p i j n=>
  rw[aE]at hy nx hf;obtain⟨row,ej,nj⟩:=bR.1 hy;unfold yb at nj;split at nj
  ·rename_i cV;simp only[aT]at nj;subst nj;obtain⟨vs,g1,⟨g2,g3⟩,g4⟩:=nx;rw[hv]at g1;cases g1;rw[zoZ];refine .agg (by simp;simp at g2;omega) λq x w a b=>?_
   obtain⟨x0,dy,rfl⟩:=mc a;have hq:=dy;rw[l6]at dy;split at dy
   ·rw[jd]at dy;have eV:=T8 r (s:=s) (p:=p) (i:=i) (q:=j+q) ej dy (g4 q w b);refine eV.LA hg λho=>(hf ?_).ok
    rw[ziJ,a0A];exact⟨x0,eo hq,ho⟩
   ·cases dy
  ·cases nj
 |_=>rw[aE]at hy;simp[dR]at hy
def HE(l:List (Md×Nat×Operand))(k:Nat):Bool:=
 match l[k]? with
 |some (.mv,_)|some (.io,_)=>Z
 |_=>aa
def MF(nt nf:Nat)(l:List (Md×Nat×Operand))(x:Nat×aA):Option (Nat×aA):=
 if x.1=nt then match x.2 with
  |(i,k)::r=>if i=0/\HE l k=Z then J (nf+k,r)else ae
  |[]=>ae
 else ae
def Env.callee(E:Env)(nt nf:Nat)(l:List (Md×Nat×Operand))(roots:Nat->Prop):Env:=
 ⟨E.H,λid=>E.G id\/∃s p,E.ow id=J (s,p)/\roots s,λid=>(E.ow id).bind (MF nt nf l)⟩
def J4(nt nf n M:Nat)(x:Nat×aA):Nat×aA:=if x.1=n then(nt,(0,M)::x.2)else(nt,(0,x.1-nf)::x.2)
def Env.back(E Ec kC:Env)(nt nf n M:Nat):Env:=
 ⟨kC.H,λid=>E.G id\/(kC.G id/\¬Ec.G id),λid=>if((Ec.ow id).isNone&&decide (id<E.H.n))=Z then E.ow id else(kC.ow id).map (J4 nt nf n M)⟩
def zyq(ok:d7 E) :d7 (E.callee nt nf l roots):=⟨ok.wf,λid bY=>by
 obtain⟨h1,h2⟩:=ok.fresh id bY;refine⟨by simp[Env.callee,h1],?_⟩;rintro(h3|⟨s,p,h3,_⟩)
 ·exact h2 h3
 ·rw[h1]at h3;cases h3⟩
def zx5 :GK E (E.callee nt nf l roots):=λ_ h=>⟨.inl h,λk hk=>⟨k,hk,rfl⟩⟩
def zwe(r:aq nt pin E0 E pf fr){n M:Nat}(Pw:∀s,roots s->s<nt){kC:Env}(ZB:d7 kC)(hs:fU (E.callee nt nf l roots) kC):
 let E2:=E.back (E.callee nt nf l roots) kC nt nf n M
 d7 E2/\fU E E2/\(∀s,s<nt->du E E2 (J (s,[])) (J (s,[])))/\
  (∀a b:Nat×aA,(∀q,J4 nt nf n M (a.1,a.2++q)=(b.1,b.2++q))->du kC E2 (J a) (J b))/\((∀s,¬roots s)->GK kC E2):=by
 intro E2;have ok:=r.ok
 have hH:∀id,E.G id->kC.H.b id=E.H.b id\/E.H.b id=ae:=λid h=>by
  cases hb:E.H.b id with
  |none=>exact .inr rfl
  |some k=>
   obtain⟨k',e1,e2⟩:=(hs.g id (.inl h)).2 k hb;rw[e2]at e1;exact .inl e1
 have yT:∀id a,kC.ow id=J a->¬(((E.callee nt nf l roots).ow id).isNone&&decide (id<E.H.n))=Z:=λid a h hc=>by
  simp only[bI,Option.isNone_iff_eq_none,eC]at hc;have:=(hs.own id hc.2 hc.1).1;rw[this]at h;cases h
 have hold:∀id,id<E.H.n->(∀p,E.ow id≠J (nt,p))->E2.ow id=E.ow id/\kC.ow id=ae/\kC.H.b id=E.H.b id/\(kC.G id->(E.callee nt nf l roots).G id):=λid h1 h2=>by
  have hn:(E.callee nt nf l roots).ow id=ae:=by
   simp only[Env.callee];cases ho:E.ow id with
   |none=>rfl
   |some x=>
    obtain⟨s,p⟩:=x;have:s≠nt:=λe=>h2 p (by rw[ho,e])
    simp[MF,this]
  obtain⟨a,b,cc⟩:=hs.own id h1 hn;refine⟨?_,a,b,cc⟩;simp only[E2,Env.back,hn];rw[aB (by simp[h1])]
 refine⟨⟨ZB.wf,λid bY=>?_⟩,⟨hs.n,λid hG=>⟨.inl hG,λk hk=>?_⟩,λid h1 h2=>?_⟩,λs mu id p h1 h2=>?_,λa b nR id q h1 h2=>?_,λqP id hG=>?_⟩
 ·obtain⟨h1,h2⟩:=ZB.fresh id bY;have Y7:E.H.n<=id:=gj hs.n bY;refine⟨?_,?_⟩
  ·simp only[E2,Env.back];rw[az (by simp;intro _;omega),h1];rfl
  ·rintro(h3|⟨h3,_⟩)
   ·exact(ok.fresh id Y7).2 h3
   ·exact h2 h3
 ·obtain⟨k',e1,e2⟩:=(hs.g id (.inl hG)).2 k hk;exact⟨k',e1,e2⟩
 ·obtain⟨a,b,cc,d⟩:=hold id h1 (λp h=>by rw[h2]at h;cases h);refine⟨a.trans h2,cc,?_⟩;rintro(h3|⟨h3,h4⟩)
  ·exact h3
  ·exact absurd (d h3) h4
 ·have h1:E.ow id=J (s,p):=by simpa using h1
  have hlt:=ok.lt h1;obtain⟨a,b,cc,d⟩:=hold id hlt (λp' h=>by rw[h1,aT,b9]at h;omega);refine⟨by simpa using a.trans h1,?_,cc⟩;rintro(h3|⟨h3,h4⟩)
  ·exact h2 h3
  ·exact h4 (d h3)
 ·refine⟨?_,?_,rfl⟩
  ·simp only[E2,Env.back];rw[az (yT id _ h1),h1];simp[nR]
  ·rintro(h3|⟨h3,_⟩)
   ·exact h2 (hs.g id (.inl h3)).1
   ·exact h2 h3
 ·refine⟨?_,λk hk=>⟨k,hk,rfl⟩⟩;by_cases h:(E.callee nt nf l roots).G id
  ·rcases h with h|⟨s,p,_,h⟩
   ·exact .inl h
   ·exact absurd h (qP s)
  ·exact .inr ⟨hG,h⟩
def zua(r:aq nt pin E0 E pf fr){a:Md×Nat×Operand}{y:PV}{k:Nat}{pf':ah}(hy:PR E (J (nt,[(0,k)])) y v)(hv:∀t,a.2.2=.tmp t->fr t=.v v)(h:xh nt pf a y=J pf'):
 ∃E',E'.H=E.H/\aq nt pin E0 E' pf' fr/\(∀k' z w,k'≠k->PR E (J (nt,[(0,k')])) z w->PR E' (J (nt,[(0,k')])) z w):=by
 have key:∀{s:Nat}{p:aA},s<nt->Wk E fr s p v->q7 pf s p y=J pf'->∃E',E'.H=E.H/\aq nt pin E0 E' pf' fr/\(∀k' z w,k'≠k->PR E (J (nt,[(0,k')])) z w->PR E' (J (nt,[(0,k')])) z w):=by
  intro s p hs hw hj;obtain⟨bV,hj,q2⟩:=RV r hj;refine⟨E.rl (fg (nt,[(0,k)]) (s,p)),rfl,?_,λk' z w hk hz=>hz.move dO (iZ λq=>?_)⟩
  ·refine q2 dO ?_;refine r.setAt hs hw hj rfl nS dO (λt ht _=>iZ λq=>kB (by show t≠nt;omega)) r.ok.rl.fresh (λid q h1 h2 _=>⟨?_,h2⟩) (hy.move dO (k8 λq=>zgw _ _ q));have:fg (nt,[(0,k)]) (s,p) (s,q)=ae:=kB (by show s≠nt;omega);simp[Env.rl,h1,this]
  ·simp[fg,Ne.symm hk]
 obtain⟨md,e,x⟩:=a;cases md with
 |io=>
  cases x with
  |tmp t=>
   simp only[xh]at h;have nx:=hv t rfl;have hf:=r.f t;unfold Dz at h;split at h
   ·rename_i s p aE;rw[aE]at hf;obtain⟨w,g1,g2⟩:=hf;rw[nx]at g1;cases g1;exact key (r.rt t s (by rw[aE];rfl)) g2 h
   ·split at h
    ·rename_i ht;exact key (p:=[]) ht (.inl ⟨v,nx,rfl⟩) h
    ·cases h
  |_=>simp only[xh,aT]at h;subst h;exact⟨E,rfl,r,λ_ _ _ _ h=>h⟩
 |_=>simp only[xh,aT]at h;subst h;exact⟨E,rfl,r,λ_ _ _ _ h=>h⟩
def zum:∀{l:List (Md×Nat×Operand)}{outs:List PV}{vs:List Value}{k0:Nat}{E:Env}{pf pf':ah},aq nt pin E0 E pf fr->l.length<=outs.length->vs.length=l.length->
 (∀(k:Nat) (y:PV) (v:Value),outs[k]? =J y->vs[k]? =J v->PR E (J (nt,[(0,k0+k)])) y v)->(∀(k:Nat) (a:Md×Nat×Operand) (t:Nat) (v:Value),l[k]? =J a->a.2.2=.tmp t->vs[k]? =J v->fr t=.v v)->
 back nt pf l outs=J pf'->∀{z:PV}{w:Value}{kz:Nat},(∀k,k<l.length->kz≠k0+k)->PR E (J (nt,[(0,kz)])) z w->
 ∃E',E'.H=E.H/\aq nt pin E0 E' pf' fr/\PR E' (J (nt,[(0,kz)])) z w:=by
 intro l;induction l with
 |nil=>
  intro outs vs k0 E pf pf' r _ _ _ _ h z w kz _ hz;simp only[back,aT]at h;subst h;exact⟨E,rfl,r,hz⟩
 |cons a l ih=>
  intro outs vs k0 E pf pf' r h1 h2 h3 h4 h z w kz hk hz;cases outs with
  |nil=>simp at h1
  |cons y ys=>
   cases vs with
   |nil=>simp at h2
   |cons v vs=>
    simp only[back,bR]at h;obtain⟨aQ,b1,b2⟩:=h;obtain⟨E1,e1,r1,p1⟩:=zua r (k:=k0) (by simpa using h3 0 y v rfl rfl) (λt ht=>h4 0 a t v rfl ht rfl) b1
    have:=ih (k0:=k0+1) r1 (by simpa using h1) (by simpa using h2) (λk y' v' a1 a2=>p1 _ _ _ (by omega) (by
     have:=h3 (k+1) y' v' (by simpa using a1) (by simpa using a2)
     rwa [show k0+(k+1)=k0+1+k by omega]at this)) (λk a' t v' a1 a2 a3=>h4 (k+1) a' t v' (by simpa using a1) a2 (by simpa using a3)) b2 (z:=z) (w:=w) (kz:=kz)
     (λk hk'=>by have:=hk (k+1) (by simp;omega);omega) (p1 _ _ _ (by have:=hk 0 (by simp);omega) hz)
    obtain⟨E2,e2,r2,p2⟩:=this;exact⟨E2,e2.trans e1,r2,p2⟩
def zxJ(r:aq nt pin E0 E pf fr){g:FuncId}{xs us:List PV}(h:pU pf f=J (g,xs,us)):∃ys vs,be fr f=J (.func (.func g) ys vs)/\xs.length=ys.toList.length/\us.length=vs.toList.length/\
 (∀(i:Nat) (x:PV) (y:Value),xs[i]? =J x->ys.toList[i]? =J y->PR E ae x y)/\(∀(i:Nat) (x:PV) (y:Value),us[i]? =J x->vs.toList[i]? =J y->PR E ae x y):=by
 cases f with
 |func g'=>
  simp only[pU,aT,b9]at h;obtain⟨rfl,rfl,rfl⟩:=h;exact⟨#[],#[],rfl,rfl,rfl,λi x y h=>by simp at h,λi x y h=>by simp at h⟩
 |tmp t=>
  simp only[pU]at h;unfold MT at h;split at h
  ·rename_i g' vi us' aE;simp only[aT,b9]at h;obtain⟨rfl,rfl,rfl⟩:=h;have hf:=r.f t;rw[aE]at hf;obtain⟨v,g1,g2⟩:=gi hf (by simp);cases g2 with
   |func fn hl kl h1 h2=>exact⟨_,_,by simp only[be,g1],hl,kl,h1,h2⟩
  ·cases h
 |_=>simp[pU]at h
def zyw:∀{l:List (Md×Nat×Operand)}{ys:List PV}{as:List (Md×PV)},eG pf l ys=J as->as.length=l.length/\ys.length=l.length/\
 ∀(k:Nat) (b:Md×PV),as[k]? =J b->∃a y,l[k]? =J a/\ys[k]? =J y/\yh pf a y=J b:=by
 intro l;induction l with
 |nil=>
  intro ys as h;cases ys with
  |nil=>simp only[eG,aT]at h;subst h;exact⟨rfl,rfl,λk b h=>by simp at h⟩
  |cons y ys=>simp[eG]at h
 |cons a l ih=>
  intro ys as h;cases ys with
  |nil=>simp[eG]at h
  |cons y ys=>
   simp only[eG,bR,bN]at h;obtain⟨b,h1,bs,h2,rfl⟩:=h;obtain⟨l1,l2,h3⟩:=ih h2;refine⟨by simp[l1],by simp[l2],λk b' hb=>?_⟩;cases k with
   |zero=>simp at hb;subst hb;exact⟨a,y,rfl,rfl,h1⟩
   |succ k=>simpa using h3 k b' (by simpa using hb)
def VC:∀{xs:List Operand}{fr ai:FR}{H H':AH}{vs:List Value}{k:Nat}{x:Operand}{v:Value},cn fr H xs=J (vs,ai,H')->xs[k]? =J x->(∀fr H,bh fr H x=J (v,fr,H))->vs[k]? =J v:=by
 intro xs;induction xs with
 |nil=>intro fr ai H H' vs k x v _ h;simp at h
 |cons a xs ih=>
  intro fr ai H H' vs k x v h hx hm;simp only[cn]at h;split at h
  ·rename_i w fr1 H1 h1;split at h
   ·rename_i ws dF h2;cases h;cases k with
    |zero=>simp at hx;subst hx;rw[hm]at h1;cases h1;rfl
    |succ k=>simpa using ih h2 (by simpa using hx) hm
   ·cases h
  ·cases h
def Wp:∀{xs:List Operand}{ts:List TypeId},(ij P xs ts).map (·.2)=xs:=by
 intro xs;induction xs with
 |nil=>intro ts;rfl
 |cons x xs ih=>intro ts;cases ts<;>simp[ij,ih]
def zAR{x:Operand}{H H':AH}(hw:mJ H)(h:bh fr H x=J (v,ai,H')):ft H H'/\mJ H':=by
 cases x with
 |tmp t=>
  simp only[bh]at h;split at h
  ·simp only[aT,b9]at h;obtain⟨_,_,rfl⟩:=h;exact⟨.refl H,hw⟩
  ·simp only[aT,b9]at h;obtain⟨_,_,rfl⟩:=h;refine⟨⟨C8 _,λid k hk=>?_⟩,λid k hk=>?_⟩
   ·have:=hw id k hk;simp only[AH.push];rw[az (by omega)];exact hk
   ·simp only[AH.push]at hk⊢;split at hk
    ·omega
    ·have:=hw id k hk;omega
  ·cases h
 |const k=>simp only[bh,bN,b9]at h;obtain⟨y,h1,rfl,rfl,rfl⟩:=h;exact⟨.refl H,hw⟩
 |func k=>simp only[bh,bN,b9]at h;obtain⟨y,h1,rfl,rfl,rfl⟩:=h;exact⟨.refl H,hw⟩
 |global k=>simp only[bh,bN,b9]at h;obtain⟨y,h1,rfl,rfl,rfl⟩:=h;exact⟨.refl H,hw⟩
def zyz:∀{xs:List Operand}{fr ai:FR}{H H':AH}{vs:List Value},mJ H->cn fr H xs=J (vs,ai,H')->ft H H'/\mJ H':=by
 intro xs;induction xs with
 |nil=>intro fr ai H H' vs hw h;simp only[cn,aT,b9]at h;obtain⟨_,_,rfl⟩:=h;exact⟨.refl H,hw⟩
 |cons x xs ih=>
  intro fr ai H H' vs hw h;simp only[cn]at h;split at h
  ·rename_i v fr1 H1 h1;split at h
   ·rename_i ws dF h2;cases h;obtain⟨a,b⟩:=zAR hw h1;obtain⟨a',b'⟩:=ih b h2;exact⟨a.trans a',b'⟩
   ·cases h
  ·cases h
def S9{fr ai:FR}{H H':AH}{vs:List Value}(hw:mJ H)(h:cn fr H xs=J (vs,ai,H')):ft H H':=(zyz hw h).1
def Zh(r:aq c.nt pin E0 E pf fr)(hp:ep c pin){d:Option Tmp}{xl:List Operand}(WY:l.map (·.2.2)=xl)
{ys:List PV}{aQ:ah}{as:List (Md×PV)}{g:FuncId}{xs us:List PV}(Jw:oe pf l=J (ys,aQ))(GL:eG aQ l ys=J as)(h:Sk P c d K aQ l g xs us as){Q:FR->Array Value->Array Value->Prop}
(hQ:∀E1 fr1,aq c.nt pin E0 E1 aQ fr1->∃first kf,Q fr1 first kf/\xs.length=first.toList.length/\us.length=kf.toList.length/\
   (∀(i:Nat) (x:PV) (y:Value),xs[i]? =J x->first.toList[i]? =J y->PR E1 ae x y)/\(∀(i:Nat) (x:PV) (y:Value),us[i]? =J x->kf.toList[i]? =J y->PR E1 ae x y))
(hk:∀pf' ai E',K pf'->aq c.nt pin E0 E' pf' ai->((∀a,a∈l->a.1=.sh)->ft E.H E'.H)->K' ai E'.H):
 ∃vs fr1 H1 first kf,cn fr E.H xl=J (vs,fr1,H1)/\Q fr1 first kf/\vs.length=l.length/\pZ P g (first.toList++vs++kf.toList) H1 λrv H'=>bB c.nt K' d (.v rv) fr1 H':=by
 obtain⟨vs,fr1,E1,m1,r1,l1,l2,f1,t1,_⟩:=zwc r (fl:=[]) (λk x v h=>by simp at h) Jw;simp only[mM]at f1;rw[WY]at m1;obtain⟨first,kf,j9,lf,lc,pf_,pc_⟩:=hQ E1 fr1 r1;obtain⟨la,_,hca⟩:=zyw GL;refine⟨vs,fr1,E1.H,first,kf,m1,j9,l1,?_⟩
 let nf:=xs.length
 let n:=nf+l.length+us.length
 let roots:Nat->Prop:=λs=>∃a t,a∈l/\a.1=.sh/\a.2.2=.tmp t/\(dR aQ (aQ t)).any bK=Z/\s=Mv t (aQ t)
 have Pw:∀s,roots s->s<c.nt:=by
  rintro s ⟨a,t,_,_,_,h1,rfl⟩;cases ha:bC (aQ t)with
  |some s=>simp only[Mv,ha,v9];exact r1.rt t s ha
  |none=>
   simp only[Mv,ha,a0n];exact Mq r1 (by intro e;rw[e]at h1;simp[dR,jP,bK]at h1)
 let Ec:=E1.callee c.nt nf l roots
 have okc:d7 Ec:=zyq r1.ok;have qG:GK E1 Ec:=zx5;unfold Sk at h;have a1A:∀(k:Nat) (y:PV) (v:Value),ys[k]? =J y->vs[k]? =J v->PR E1 (J (c.nt,[(0,k)])) y v:=λk y v a b=>f1 k y v (by rw[Gz];exact⟨a,b⟩)
 have a1l:∀(k:Nat) (b:Md×PV) (v:Value),as[k]? =J b->vs[k]? =J v->Iw Ec (nf+k) b v:=by
  intro k b v hb hv;obtain⟨a,y,ha,hy,nR⟩:=hca k b hb
  have own:∀m,a.1=m->m≠.sh->b=(m,y)->Iw Ec (nf+k) b v:=by
   intro m hm Lm hbm;subst hbm
   have df:HE l k=Z:=by
    obtain⟨md,e,x⟩:=a;simp only at hm;subst hm;unfold HE;rw[ha];cases md<;>first|rfl|exact absurd rfl Lm
   have eV:PR Ec (J (nf+k,[])) y v:=(a1A k y v hy hv).move qG λid q h1 h2=>by
    have h1:E1.ow id=J (c.nt,(0,k)::q):=by simpa using h1
    refine⟨by simp[Ec,Env.callee,h1,MF,df],?_,rfl⟩;rintro(h3|⟨s,p,h3,h4⟩)
    ·exact h2 h3
    ·rw[h1]at h3;cases h3;exact absurd (Pw _ h4) (yA _)
   cases m with
   |sh=>exact absurd rfl Lm
   |mv=>exact eV
   |io=>exact eV
  obtain⟨md,e,x⟩:=a;cases md with
  |mv=>simp only[yh,aT]at nR;exact own .mv rfl (by simp) nR.symm
  |io=>simp only[yh,aT]at nR;exact own .io rfl (by simp) nR.symm
  |sh=>
   simp only[yh,bN]at nR;obtain⟨z,hz,rfl⟩:=nR;show PR Ec ae z v;unfold J9 at hz;obtain⟨y',ie,hz⟩:=bR.1 hz;split at hz
   ·cases hz
   ·rename_i hj;simp only[aT]at hz;subst hz;have hj:=n5 (x:=y') (by simpa using hj);have Z1:cn fr E.H xl=J (vs,fr1,E1.H):=m1;have Ym:xl[k]? =J x:=by rw[<-WY,Db,ha];rfl
    cases x with
    |tmp t=>
     simp only[u7]at ie;refine zyx r1 ie hj (t1 k _ t v ha rfl hv) qG λho=>λid p h1 h2=>?_
     refine⟨.inr ⟨_,p,h1,⟨_,t,eo ha,rfl,rfl,by rw[ie];simpa using ho,rfl⟩⟩,λk hk=>⟨k,hk,rfl⟩⟩
    |const kk=>
     simp only[u7]at ie;split at ie
     ·rename_i hc;simp only[aT]at ie;subst ie
      have:v=kk:=by
       have:=VC (v:=kk) Z1 Ym (λfr H=>by simp[bh,be,hc]);rw[hv]at this;exact yB this
      subst this;exact(IP (E:=Ec) hc ae).freeze (GK.refl _) True.intro
     ·cases ie
    |func ff=>
     simp only[u7,aT]at ie;subst ie
     have:v=.func (.func ff) #[] #[]:=by
      have:=VC (v:=.func (.func ff) #[] #[]) Z1 Ym (λfr H=>by simp[bh,be]);rw[hv]at this;exact yB this
     subst this;simp only[drop];exact .func _ rfl rfl (λi x y h=>by simp at h) (λi x y h=>by simp at h)
    |global gg=>simp[u7]at ie
 have hlen:(xs.map (λx=>((Md.sh,x):Md×PV))++as++us.map (λx=>(Md.sh,x))).length=n:=by rw[bP,bP,Gx,Gx,la]
 have DS:(first.toList++vs++kf.toList).length=n:=by rw[bP,bP,<-lf,<-lc,l1]
 have ph:∀(k:Nat) (a:Md×PV) (v:Value),(xs.map (λx=>((Md.sh,x):Md×PV))++as++us.map (λx=>(Md.sh,x)))[k]? =J a->(first.toList++vs++kf.toList)[k]? =J v->Iw Ec k a v:=by
  intro k a v ha hv;have q1:(xs.map λx=>((Md.sh,x):Md×PV)).length=nf:=by rw[Gx]
  have q2:first.toList.length=nf:=lf.symm
  have q3:(xs.map (λx=>((Md.sh,x):Md×PV))++as).length=nf+l.length:=by rw[bP,q1,la]
  have q4:(first.toList++vs).length=nf+l.length:=by rw[bP,q2,l1]
  by_cases h1:k<nf
  ·rw[fw (by rw[q3];omega),fw (by rw[q1];exact h1)]at ha;rw[fw (by rw[q4];omega),fw (by rw[q2];exact h1)]at hv;obtain⟨x,hx,rfl⟩:=mc ha;exact(pf_ k x v hx hv).mono qG
  ·by_cases h2:k<nf+l.length
   ·rw[fw (by rw[q3];exact h2),fT (by rw[q1];exact Uo h1),q1]at ha;rw[fw (by rw[q4];exact h2),fT (by rw[q2];exact Uo h1),q2]at hv;have:=a1l (k-nf) a v ha hv
    rwa [show nf+(k-nf)=k by omega]at this
   ·rw[fT (by rw[q3];exact Uo h2),q3]at ha;rw[fT (by rw[q4];exact Uo h2),q4]at hv;obtain⟨x,hx,rfl⟩:=mc ha;exact(pc_ _ x v hx hv).mono qG
 have Jz:=h.2 Ec (first.toList++vs++kf.toList) okc (by rw[hlen,DS]) ph;refine Jz.mono λrv H' ⟨rr,outs,kC,⟨xO,MN⟩,eH,post⟩=>?_
 subst eH;rw[hlen]at post;obtain⟨b1,b2,b3,b4,b5⟩:=zwe (n:=n) (M:=l.length) r1 Pw post.ok post.since;have r2:=r1.env b1 b2 b3
 have qT:∀(a b:Nat×aA) (x:PV) (v:Value),(x=rr\/x∈outs)->PR kC (J a) x v->(∀q,J4 c.nt nf n l.length (a.1,a.2++q)=(b.1,b.2++q))->PR (E1.back Ec kC c.nt nf n l.length) (J b) x v:=by
  intro a b x v hx eV hq;rcases xO with qP|gQ
  ·refine eV.move (b5 ?_) (b4 a b hq);rintro s ⟨a',t,h1,h2,h3,h4,_⟩;have:=KA.1 qP a' h1;obtain⟨md,e,x'⟩:=a';simp only at h2 h3;subst h2;subst h3;exact this (by simpa[sj]using h4)
  ·simp only[bI,bm]at gQ;rcases hx with rfl|hx
   ·exact eV.YT gQ.1 (b4 a b hq)
   ·exact eV.YT (gQ.2 x hx) (b4 a b hq)
 have FC:=qT (n,[]) (c.nt,[(0,l.length)]) rr rv (.inl rfl) post.r λq=>by simp[J4]
 have a0Q:∀(k:Nat) (y:PV) (v:Value),(outs.drop nf)[k]? =J y->vs[k]? =J v->PR (E1.back Ec kC c.nt nf n l.length) (J (c.nt,[(0,0+k)])) y v:=by
  intro k y v hy hv;rw[jd]at hy;have Lu:k<l.length:=by have:=(cT.1 hv).1;omega
  have hV:(first.toList++vs++kf.toList)[nf+k]? =J v:=by
   rw[fw (by rw[bP,<-lf,l1];exact Nat.add_lt_add_left Lu _),fT (by rw[<-lf];exact Nat.le_add_right _ _),<-lf];rw[show nf+k-xs.length=k by simp only[nf];omega];exact hv
  refine qT (nf+k,[]) (c.nt,[(0,0+k)]) y v (.inr (eo hy)) (post.o _ y v hy hV) λq=>?_
  have hne:nf+k≠n:=by simp only[n];omega
  simp only[J4];rw[az hne];simp
 unfold GO at MN;split at MN
 ·rename_i bV a1O;have hol:l.length<=(outs.drop nf).length:=by rw[OJ,post.len];simp only[n];omega
  obtain⟨E3,e3,r3,p3⟩:=zum r2 hol l1 a0Q t1 a1O (z:=rr) (w:=rv) (kz:=l.length) (λk hk'=>by omega) FC;have r4:aq c.nt pin E0 (E3.rl (fg (c.nt,[(0,l.length)]) (c.nt,[(0,0)]))) bV fr1:=r3.env r3.ok.rl nS λs hs=>iZ λq=>kB (by show s≠c.nt;omega)
  have a1C:(∀a,a∈l->a.1=.sh)->ft E.H kC.H:=by
   intro hsh;refine(S9 r.wf m1).trans ⟨post.since.n,λid k hb=>?_⟩
   have qP:∀k,HE l k=aa:=by
    intro k;unfold HE;cases hlk:l[k]? with
    |none=>rfl
    |some a=>
     obtain⟨md,y⟩:=a;rw[show md=.sh from hsh _ (eo hlk)]
   have how:Ec.ow id=ae:=by
    simp only[Ec,Env.callee];cases ho':E1.ow id with
    |none=>rfl
    |some x=>
     simp only[aR,MF];split
     ·split
      ·rw[az (by simp[qP])]
      ·rfl
     ·rfl
   have:=(post.since.own id (r1.wf id k hb) how).2.1;rw[this];exact hb
  have:=zri (K':=K') r4 hp (p3.move dO (k8 λq=>zgw _ _ q)) MN (λpf' ai E' a b e=>hk pf' ai E' a b λhs=>by
   have e2:E'.H=kC.H:=e.trans e3
   rw[e2];exact a1C hs)
  rw[show(E3.rl (fg (c.nt,[(0,l.length)]) (c.nt,[(0,0)]))).H=E3.H from rfl,e3]at this;exact this
 ·cases MN
def zyE{ts:List TypeId}:(ij P xs ts).length=xs.length:=by
 have:=gn List.length (Wp (P:=P) (xs:=xs) (ts:=ts));simpa using this
def Xc{ms:List Md}{ts:List TypeId}(h:ms.length=xs.length):(ms.zip (ij P xs ts)).map (·.2.2)=xs:=by
 have e:(ms.zip (ij P xs ts)).map (·.2.2)=((ms.zip (ij P xs ts)).map Prod.snd).map (·.2):=by rw[sG];rfl
 rw[e,List.map_snd_zip (by rw[zyE];omega)];exact Wp
def zny(r:aq c.nt pin E0 E pf fr)(hp:ep c pin)(ho:o.op=.call ⟨.value f,args,ts⟩)
{ms:List Md}(h:IB P c f args.toList ts.toList o.dst K pf ms)(hk:∀pf' ai E',K pf'->aq c.nt pin E0 E' pf' ai->((∀m,m∈ms->m=.sh)->ft E.H E'.H)->K' ai E'.H):aM P c.nt o K' fr E.H:=by
 obtain⟨kA,h⟩:=h;unfold Rc at h;split at h
 ·rename_i ys aQ Jw;unfold zJ at h;split at h
  ·rename_i g xs us as Ho GL
   obtain⟨vs,fr1,H1,first,kf,m1,j9,_,hc⟩:=Zh (K':=K') r hp (Xc kA) Jw GL h (Q:=λfr1 a b=>be fr1 f=J (.func (.func g) a b)) (λE1 fr1 r1=>zxJ r1 Ho) (λpf' ai E' a b e=>hk pf' ai E' a b λhs=>e λx hx=>by
    obtain⟨md,y⟩:=x
    exact hs md (List.of_mem_zip hx).1)
   unfold aM;rw[ho];simp only[m1,j9];exact hc
  ·cases h
 ·cases h
def zyk:∀{xs:List Operand}{fr ai:FR}{H H':AH}{vs:List Value},cn fr H xs=J (vs,ai,H')->∀s u,fr s=.v u->ai s=.v u:=by
 intro xs;induction xs with
 |nil=>intro fr ai H H' vs h;simp only[cn,aT,b9]at h;obtain⟨_,rfl,_⟩:=h;exact λs u h=>h
 |cons x xs ih=>
  intro fr ai H H' vs h;simp only[cn]at h;split at h
  ·rename_i v fr1 H1 h1;split at h
   ·rename_i ws dF h2;cases h;exact λs u hs=>ih h2 s u ((UW h1).2 s u hs)
   ·cases h
  ·cases h
def zxG:∀{xs:List Operand}{x:Operand}{fr ai:FR}{H H':AH}{vs:List Value},cn fr H (xs++[x])=J (vs,ai,H')->∃ws w fr1 H1,cn fr H xs=J (ws,fr1,H1)/\bh fr1 H1 x=J (w,ai,H')/\vs=ws++[w]:=by
 intro xs;induction xs with
 |nil=>
  intro x fr ai H H' vs h;simp only[mM,cn]at h;split at h
  ·rename_i v fr1 H1 h1;cases h;exact⟨[],v,fr,H,rfl,h1,rfl⟩
  ·cases h
 |cons a xs ih=>
  intro x fr ai H H' vs h;simp only[t5,cn]at h;split at h
  ·rename_i v fr1 H1 h1;split at h
   ·rename_i ws dF h2;cases h;obtain⟨us,u,dI,H2,g1,g2,rfl⟩:=ih h2;exact⟨v::us,u,dI,H2,by simp[cn,h1,g1],g2,rfl⟩
   ·cases h
  ·cases h
def zrw(r:aq nt pin E0 E pf fr){x:Nat×FuncId×List PV}(h:t8 pf f=J x):∃(v:Value) (vs:List Value),be fr f=J (.func (.func x.2.1) #[] (v::vs).toArray)/\fr x.1=.v v/\x.2.2.length=vs.length/\
 ∀(i:Nat) (y:PV) (w:Value),x.2.2[i]? =J y->vs[i]? =J w->PR E ae y w:=by
 cases f with
 |tmp t=>
  simp only[t8]at h;unfold MD at h;split at h
  ·rename_i s g us aE;cases h;have hf:=r.f t;rw[aE]at hf;obtain⟨v,vs,h1,h2,h3,h4⟩:=hf;exact⟨v,vs,by simp only[be,h1],Di h2,h3,h4⟩
  ·cases h
 |_=>simp[t8]at h
def ztc(r:aq c.nt pin E0 E pf fr)(hp:ep c pin)(ho:o.op=.call ⟨.value f,args,ts⟩)
(h:WU P c f args.toList ts.toList o.dst K pf)(hk:∀pf' ai E',K pf'->aq c.nt pin E0 E' pf' ai->K' ai E'.H):aM P c.nt o K' fr E.H:=by
 obtain⟨ms,x,hx,kA,h⟩:=h;obtain⟨v0,_,_,lD,_⟩:=zrw r hx;unfold IL at h;split at h
 ·rename_i ys aQ Jw;obtain⟨hx1,h⟩:=h;unfold zJ at h;split at h
  ·rename_i g xs us as Ho GL;cases Ho
   obtain⟨vs,fr1,H1,first,kf,m1,⟨rfl,v,j9,jH⟩,_,hc⟩:=Zh (K':=K') r hp (xl:=args.toList++[.tmp x.1]) (by rw[l8,Xc kA];rfl) Jw GL h
    (Q:=λfr1 a b=>a= #[]/\∃v,be fr1 f=J (.func (.func x.2.1) #[] (v::b.toList).toArray)/\fr1 x.1=.v v) (λE1 fr1 r1=>by
      obtain⟨v,vs,h1,h2,h3,h4⟩:=zrw r1 hx1
      exact⟨#[],vs.toArray,⟨rfl,v,by simpa using h1,h2⟩,rfl,by simpa using h3,λi x y h=>by simp at h,by simpa using h4⟩) (λpf' ai E' a b _=>hk pf' ai E' a b)
   obtain⟨ws,w,dI,H2,g1,g2,rfl⟩:=zxG m1;have fQ:=zyk g1 _ _ lD;simp only[bh,fQ,aT,b9]at g2;obtain⟨rfl,rfl,rfl⟩:=g2;have hv:v0=v:=by rw[fQ]at jH;cases jH;rfl
   subst hv;unfold aM;rw[ho];simp only[g1,j9];simpa using hc
  ·cases h
 ·cases h
def zuz(r:aq c.nt pin E0 E pf fr)(hp:ep c pin)(ho:o.op=.call ⟨.value f,args,ts⟩)
(h:XX P c f args.toList o.dst K pf)(hk:∀pf' ai E',K pf'->aq c.nt pin E0 E' pf' ai->K' ai E'.H):aM P c.nt o K' fr E.H:=by
 obtain⟨g,x,t,n,z,rfl,ha,hg,hn,hz,⟨h0,h1,h2⟩,h8⟩:=h;obtain⟨e,gb,es,cB,zc,he,ht,h5,h6,h7,rfl⟩:=CN hz;have hc:be fr (.const (.slice ae 0 0))=J (.slice ae 0 0):=by simp[be,ct]
 have hm:cn fr E.H args.toList=J ([.slice ae 0 0,.int .i64 n],fr,E.H):=by
  rw[ha];simp[cn,Oc (H:=E.H) hc,Oc (H:=E.H) (pA r hn)]
 unfold aM;rw[ho];simp only[hm,be,mM,ri];refine(hg n E.H e gb es cB zc he ht h0 h1 h2 h5 h6 h7).mono λv H' hv=>?_
 rcases hv with⟨rfl,rfl,rfl⟩|⟨qD,rfl,rfl⟩
 ·exact gC r hp (.sl0 _ _) h8 hk
 ·have ok:=r.ok;have qY:∀e,e∈List.replicate n.toNat zc->e.length=es:=λe he=>by rw[(nu.1 he).2];exact h5
  have eV:PR (E.push ⟨Z,(List.replicate n.toNat zc).flatten⟩ (c.nt,[(0,0)]) λ_=>ae) (J (c.nt,[(0,0)])) (.sl Z es []) (.slice (J ⟨E.H.n,0,J es⟩) 0 n.toNat):=by
   refine .fk zhw ok.xJ yr rfl (by simp) (by omega) (by unfold km;omega) (λrw hr=>by simp at hr) ⟨⟨h6,rfl⟩,?_⟩ λi rw j x y g1 g2 g3=>by simp at g1
   rw[Ev qY];simp
  have:=gC (K':=K') (r.env ok.push ok.uZ λs _=>ok.mW λ_=>rfl) hp eV h8 hk;exact this
def zt8(r:aq c.nt pin E0 E pf fr)(hp:ep c pin)(ho:o.op=.call ⟨.value f,args,ts⟩)
(h:Zn P c f args.toList ts.toList o.dst K pf)(hk:∀pf' ai E',K pf'->aq c.nt pin E0 E' pf' ai->K' ai E'.H):aM P c.nt o K' fr E.H:=by
 rcases h with⟨ms,h⟩|h|h
 ·exact zny r hp ho h λpf' ai E' a b _=>hk pf' ai E' a b
 ·exact zuz r hp ho h hk
 ·exact ztc r hp ho h hk
end
end Go.Pm
