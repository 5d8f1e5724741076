import Derived.Test.YtnojafnlicbhpaaGreatPmO
open Bool renaming false→aa,true→Z
open Option renaming none→ae,some→J
set_option linter.defProp false
namespace Go.Pm
def OC:=@List.length_drop
def Uh:=@Nat.le_of_not_lt
def Aax:=@List.any_eq_true
set_option linter.unusedVariables false
set_option linter.unusedSimpArgs false
open Go.Am
section
variable {nt:Nat}{pin:List (Nat×Value)}{E0 E E':Env}{pf:ah}{fr ai:FR}{c:aY}{P:Program}
def K9(t:Nat)(y:PF):Nat:=(bC y).getD t
def RK(E E':Env)(s:Nat):Prop:=∀id p,E.ow id=J (s,p)->¬E.G id->E'.G id/\∀k,E.H.b id=J k->∃k',E'.H.b id=J k'/\k'=k
variable{K:ah->Prop}{K':FR->AH->Prop}{args:Array Operand}{f:Operand}{l:List (Md×Nat×Operand)}{nf:Nat}{o:Oper}{roots:Nat->Prop}{ts:Array TypeId}{v:Value}{xs:List Operand}
def RK.ok{s:Nat}{p:aA}(h:RK E E' s):yg E E' (J (s,p)):=λid r h1 h2=>by
 obtain⟨a,b⟩:=h id (p++r) h1 h2;exact⟨a,λk hk=>by obtain⟨k',e1,e2⟩:=b k hk;exact⟨k',e1,by rw[e2]⟩⟩
def PR.LD{l:Nat×aA}{x:PV}(h:PR E (J l) x v)(hg:GK E E')(hf:bL x=Z->yg E E' (J l)):PR E' ae (drop x) v:=by
 by_cases ho:bL x=Z
 ·exact h.freeze hg (hf ho)
 ·exact(h.free (by simpa using ho)).freeze hg True.intro
def zya(r:aq nt pin E0 E pf fr){t:Nat}{y:PV}(hy:dM pf (pf t)=J y)(hj:y≠.au)(hv:fr t=.v v)(hg:GK E E')(hf:bL y=Z->RK E E' (K9 t (pf t))):PR E' ae (drop y) v:=by
 have nI:=r.f t;cases aD:pf t with
 |v x=>
  rw[aD]at hy nI hf;simp only[dM,aT]at hy;subst hy;obtain⟨w,g1,g2⟩:=ga nI hj;rw[hv]at g1;cases g1;exact g2.LD hg λho=>(hf ho).ok
 |rf s p=>
  rw[aD]at hy nI hf;simp only[dM]at hy;obtain⟨w,g1,g2⟩:=nI;rw[hv]at g1;cases g1;obtain⟨v',w1,w2⟩:=r.at hy hj (jc r g2 hy);have:=w1.same g2;subst this;exact w2.LD hg λho=>(hf ho).ok
 |rv s p lo hi=>
  rw[aD]at hy nI hf;obtain⟨z,hz,gv⟩:=bR.1 hy;unfold Fa at gv;split at gv
  ·rename_i o es rows;split at gv
   ·rename_i hb;simp only[aT]at gv;subst gv;rw[zkE]at hf;rw[zjB,List.map_drop,List.map_take];rcases nI with⟨h1,h2,rfl,rfl⟩|⟨id,off,es2,n,cc,h1,h2,h3,h4⟩
    ·rw[hv]at h2;cases h2;simpa using PR.sl0 (E:=E') (l:=ae) aa es
    ·rw[hv]at h4;cases h4;obtain⟨v',w1,w2⟩:=r.at hz (by simp) (jc r h1 hz);have:=w1.same h1;subst this;have ee:=zR w2;subst ee;have hd:=w2.LD hg λho=>(hf (by rw[zkE]at ho;exact ho)).ok
     rw[zjB]at hd;obtain⟨_,_,_,e3⟩:=hd.cut h2 h3;exact e3
   ·cases gv
  ·cases gv
 |ra s p i j n=>
  rw[aD]at hy nI hf;obtain⟨row,d7,nj⟩:=bR.1 hy;unfold wU at nj;split at nj
  ·rename_i cV;simp only[aT]at nj;subst nj;obtain⟨vs,g1,⟨g2,g3⟩,g4⟩:=nI;rw[hv]at g1;cases g1;rw[zpl];refine .agg (by simp;simp at g2;omega) λq x w a b=>?_
   obtain⟨x0,dA,rfl⟩:=mt a;have hq:=dA;rw[l6]at dA;split at dA
   ·rw[jd]at dA;have eV:=Rv r (s:=s) (p:=p) (i:=i) (q:=j+q) d7 dA (g4 q w b);refine eV.LD hg λho=>(hf ?_).ok
    rw[ziA,Aax];exact⟨x0,eo hq,ho⟩
   ·cases dA
  ·cases nj
 |_=>rw[aD]at hy;simp[dM]at hy
def GR(l:List (Md×Nat×Operand))(k:Nat):Bool:=
 match l[k]? with
 |some (.mv,_)|some (.io,_)=>Z
 |_=>aa
def LG(nt nf:Nat)(l:List (Md×Nat×Operand))(x:Nat×aA):Option (Nat×aA):=
 if x.1=nt then match x.2 with
  |(i,k)::r=>if i=0/\GR l k=Z then J (nf+k,r)else ae
  |[]=>ae
 else ae
def Env.callee(E:Env)(nt nf:Nat)(l:List (Md×Nat×Operand))(roots:Nat->Prop):Env:=
 ⟨E.H,λid=>E.G id\/∃s p,E.ow id=J (s,p)/\roots s,λid=>(E.ow id).bind (LG nt nf l)⟩
def IF(nt nf n M:Nat)(x:Nat×aA):Nat×aA:=if x.1=n then(nt,(0,M)::x.2)else(nt,(0,x.1-nf)::x.2)
def Env.back(E Ec kQ:Env)(nt nf n M:Nat):Env:=
 ⟨kQ.H,λid=>E.G id\/(kQ.G id/\¬Ec.G id),λid=>if((Ec.ow id).isNone&&decide (id<E.H.n))=Z then E.ow id else(kQ.ow id).map (IF nt nf n M)⟩
def zyx(ok:ej E) :ej (E.callee nt nf l roots):=⟨ok.wf,λid bY=>by
 obtain⟨h1,h2⟩:=ok.fresh id bY;refine⟨by simp[Env.callee,h1],?_⟩;rintro(h3|⟨s,p,h3,_⟩)
 ·exact h2 h3
 ·rw[h1]at h3;cases h3⟩
def zyd :GK E (E.callee nt nf l roots):=λ_ h=>⟨.inl h,λk hk=>⟨k,hk,rfl⟩⟩
def zwo(r:aq nt pin E0 E pf fr){n M:Nat}(TE:∀s,roots s->s<nt){kQ:Env}(ok':ej kQ)(hs:fZ (E.callee nt nf l roots) kQ):
 let E2:=E.back (E.callee nt nf l roots) kQ nt nf n M
 ej E2/\fZ E E2/\(∀s,s<nt->dr E E2 (J (s,[])) (J (s,[])))/\
  (∀a b:Nat×aA,(∀q,IF nt nf n M (a.1,a.2++q)=(b.1,b.2++q))->dr kQ E2 (J a) (J b))/\((∀s,¬roots s)->GK kQ E2):=by
 intro E2;have ok:=r.ok
 have hH:∀id,E.G id->kQ.H.b id=E.H.b id\/E.H.b id=ae:=λid h=>by
  cases hb:E.H.b id with
  |none=>exact .inr rfl
  |some k=>
   obtain⟨k',e1,e2⟩:=(hs.g id (.inl h)).2 k hb;rw[e2]at e1;exact .inl e1
 have AC:∀id a,kQ.ow id=J a->¬(((E.callee nt nf l roots).ow id).isNone&&decide (id<E.H.n))=Z:=λid a h hc=>by
  simp only[bI,Option.isNone_iff_eq_none,eC]at hc;have:=(hs.own id hc.2 hc.1).1;rw[this]at h;cases h
 have hold:∀id,id<E.H.n->(∀p,E.ow id≠J (nt,p))->E2.ow id=E.ow id/\kQ.ow id=ae/\kQ.H.b id=E.H.b id/\(kQ.G id->(E.callee nt nf l roots).G id):=λid h1 h2=>by
  have hn:(E.callee nt nf l roots).ow id=ae:=by
   simp only[Env.callee];cases ho:E.ow id with
   |none=>rfl
   |some x=>
    obtain⟨s,p⟩:=x;have:s≠nt:=λe=>h2 p (by rw[ho,e])
    simp[LG,this]
  obtain⟨a,b,cc⟩:=hs.own id h1 hn;refine⟨?_,a,b,cc⟩;simp only[E2,Env.back,hn];rw[aB (by simp[h1])]
 refine⟨⟨ok'.wf,λid bY=>?_⟩,⟨hs.n,λid hG=>⟨.inl hG,λk hk=>?_⟩,λid h1 h2=>?_⟩,λs mB id p h1 h2=>?_,λa b nP id q h1 h2=>?_,λqh id hG=>?_⟩
 ·obtain⟨h1,h2⟩:=ok'.fresh id bY;have Xb:E.H.n<=id:=gj hs.n bY;refine⟨?_,?_⟩
  ·simp only[E2,Env.back];rw[az (by simp;intro _;omega),h1];rfl
  ·rintro(h3|⟨h3,_⟩)
   ·exact(ok.fresh id Xb).2 h3
   ·exact h2 h3
 ·obtain⟨k',e1,e2⟩:=(hs.g id (.inl hG)).2 k hk;exact⟨k',e1,e2⟩
 ·obtain⟨a,b,cc,d⟩:=hold id h1 (λp h=>by rw[h2]at h;cases h);refine⟨a.trans h2,cc,?_⟩;rintro(h3|⟨h3,h4⟩)
  ·exact h3
  ·exact absurd (d h3) h4
 ·have h1:E.ow id=J (s,p):=by simpa using h1
  have hlt:=ok.lt h1;obtain⟨a,b,cc,d⟩:=hold id hlt (λp' h=>by rw[h1,aT,b9]at h;omega);refine⟨by simpa using a.trans h1,?_,cc⟩;rintro(h3|⟨h3,h4⟩)
  ·exact h2 h3
  ·exact h4 (d h3)
 ·refine⟨?_,?_,rfl⟩
  ·simp only[E2,Env.back];rw[az (AC id _ h1),h1];simp[nP]
  ·rintro(h3|⟨h3,_⟩)
   ·exact h2 (hs.g id (.inl h3)).1
   ·exact h2 h3
 ·refine⟨?_,λk hk=>⟨k,hk,rfl⟩⟩;by_cases h:(E.callee nt nf l roots).G id
  ·rcases h with h|⟨s,p,_,h⟩
   ·exact .inl h
   ·exact absurd h (qh s)
  ·exact .inr ⟨hG,h⟩
def zuf(r:aq nt pin E0 E pf fr){a:Md×Nat×Operand}{y:PV}{k:Nat}{pf':ah}(hy:PR E (J (nt,[(0,k)])) y v)(hv:∀t,a.2.2=.tmp t->fr t=.v v)(h:xK nt pf a y=J pf'):
 ∃E',E'.H=E.H/\aq nt pin E0 E' pf' fr/\(∀k' z w,k'≠k->PR E (J (nt,[(0,k')])) z w->PR E' (J (nt,[(0,k')])) z w):=by
 have key:∀{s:Nat}{p:aA},s<nt->Wk E fr s p v->ql pf s p y=J pf'->∃E',E'.H=E.H/\aq nt pin E0 E' pf' fr/\(∀k' z w,k'≠k->PR E (J (nt,[(0,k')])) z w->PR E' (J (nt,[(0,k')])) z w):=by
  intro s p hs hw hj;obtain⟨bW,hj,q2⟩:=O0 r hj;refine⟨E.rl (fa (nt,[(0,k)]) (s,p)),rfl,?_,λk' z w hk hz=>hz.move dO (iR λq=>?_)⟩
  ·refine q2 dO ?_;refine r.setAt hs hw hj rfl nD dO (λt ht _=>iR λq=>kF (by show t≠nt;omega)) r.ok.rl.fresh (λid q h1 h2 _=>⟨?_,h2⟩) (hy.move dO (lq λq=>zgr _ _ q));have:fa (nt,[(0,k)]) (s,p) (s,q)=ae:=kF (by show s≠nt;omega);simp[Env.rl,h1,this]
  ·simp[fa,Ne.symm hk]
 obtain⟨md,e,x⟩:=a;cases md with
 |io=>
  cases x with
  |tmp t=>
   simp only[xK]at h;have nI:=hv t rfl;have hf:=r.f t;unfold DD at h;split at h
   ·rename_i s p aD;rw[aD]at hf;obtain⟨w,g1,g2⟩:=hf;rw[nI]at g1;cases g1;exact key (r.rt t s (by rw[aD];rfl)) g2 h
   ·split at h
    ·rename_i ht;exact key (p:=[]) ht (.inl ⟨v,nI,rfl⟩) h
    ·cases h
  |_=>simp only[xK,aT]at h;subst h;exact⟨E,rfl,r,λ_ _ _ _ h=>h⟩
 |_=>simp only[xK,aT]at h;subst h;exact⟨E,rfl,r,λ_ _ _ _ h=>h⟩
def zuD:∀{l:List (Md×Nat×Operand)}{outs:List PV}{vs:List Value}{k0:Nat}{E:Env}{pf pf':ah},aq nt pin E0 E pf fr->l.length<=outs.length->vs.length=l.length->
 (∀(k:Nat) (y:PV) (v:Value),outs[k]? =J y->vs[k]? =J v->PR E (J (nt,[(0,k0+k)])) y v)->(∀(k:Nat) (a:Md×Nat×Operand) (t:Nat) (v:Value),l[k]? =J a->a.2.2=.tmp t->vs[k]? =J v->fr t=.v v)->
 back nt pf l outs=J pf'->∀{z:PV}{w:Value}{kz:Nat},(∀k,k<l.length->kz≠k0+k)->PR E (J (nt,[(0,kz)])) z w->
 ∃E',E'.H=E.H/\aq nt pin E0 E' pf' fr/\PR E' (J (nt,[(0,kz)])) z w:=by
 intro l;induction l with
 |nil=>
  intro outs vs k0 E pf pf' r _ _ _ _ h z w kz _ hz;simp only[back,aT]at h;subst h;exact⟨E,rfl,r,hz⟩
 |cons a l ih=>
  intro outs vs k0 E pf pf' r h1 h2 h3 h4 h z w kz hk hz;cases outs with
  |nil=>simp at h1
  |cons y ys=>
   cases vs with
   |nil=>simp at h2
   |cons v vs=>
    simp only[back,bR]at h;obtain⟨aQ,b1,b2⟩:=h;obtain⟨E1,e1,r1,p1⟩:=zuf r (k:=k0) (by simpa using h3 0 y v rfl rfl) (λt ht=>h4 0 a t v rfl ht rfl) b1
    have:=ih (k0:=k0+1) r1 (by simpa using h1) (by simpa using h2) (λk y' v' a1 a2=>p1 _ _ _ (by omega) (by
     have:=h3 (k+1) y' v' (by simpa using a1) (by simpa using a2)
     rwa [show k0+(k+1)=k0+1+k by omega]at this)) (λk a' t v' a1 a2 a3=>h4 (k+1) a' t v' (by simpa using a1) a2 (by simpa using a3)) b2 (z:=z) (w:=w) (kz:=kz)
     (λk hk'=>by have:=hk (k+1) (by simp;omega);omega) (p1 _ _ _ (by have:=hk 0 (by simp);omega) hz)
    obtain⟨E2,e2,r2,p2⟩:=this;exact⟨E2,e2.trans e1,r2,p2⟩
def zx8(r:aq nt pin E0 E pf fr){g:FuncId}{xs us:List PV}(h:pZ pf f=J (g,xs,us)):∃ys vs,be fr f=J (.func (.func g) ys vs)/\xs.length=ys.toList.length/\us.length=vs.toList.length/\
 (∀(i:Nat) (x:PV) (y:Value),xs[i]? =J x->ys.toList[i]? =J y->PR E ae x y)/\(∀(i:Nat) (x:PV) (y:Value),us[i]? =J x->vs.toList[i]? =J y->PR E ae x y):=by
 cases f with
 |func g'=>
  simp only[pZ,aT,b9]at h;obtain⟨rfl,rfl,rfl⟩:=h;exact⟨#[],#[],rfl,rfl,rfl,λi x y h=>by simp at h,λi x y h=>by simp at h⟩
 |tmp t=>
  simp only[pZ]at h;unfold KR at h;split at h
  ·rename_i g' uf us' aD;simp only[aT,b9]at h;obtain⟨rfl,rfl,rfl⟩:=h;have hf:=r.f t;rw[aD]at hf;obtain⟨v,g1,g2⟩:=ga hf (by simp);cases g2 with
   |func fn hl kl h1 h2=>exact⟨_,_,by simp only[be,g1],hl,kl,h1,h2⟩
  ·cases h
 |_=>simp[pZ]at h
def zx7:∀{l:List (Md×Nat×Operand)}{ys:List PV}{as:List (Md×PV)},eJ pf l ys=J as->as.length=l.length/\ys.length=l.length/\
 ∀(k:Nat) (b:Md×PV),as[k]? =J b->∃a y,l[k]? =J a/\ys[k]? =J y/\yj pf a y=J b:=by
 intro l;induction l with
 |nil=>
  intro ys as h;cases ys with
  |nil=>simp only[eJ,aT]at h;subst h;exact⟨rfl,rfl,λk b h=>by simp at h⟩
  |cons y ys=>simp[eJ]at h
 |cons a l ih=>
  intro ys as h;cases ys with
  |nil=>simp[eJ]at h
  |cons y ys=>
   simp only[eJ,bR,bN]at h;obtain⟨b,h1,bs,h2,rfl⟩:=h;obtain⟨l1,l2,h3⟩:=ih h2;refine⟨by simp[l1],by simp[l2],λk b' hb=>?_⟩;cases k with
   |zero=>simp at hb;subst hb;exact⟨a,y,rfl,rfl,h1⟩
   |succ k=>simpa using h3 k b' (by simpa using hb)
def UE:∀{xs:List Operand}{fr ai:FR}{H H':AH}{vs:List Value}{k:Nat}{x:Operand}{v:Value},ck fr H xs=J (vs,ai,H')->xs[k]? =J x->(∀fr H,bh fr H x=J (v,fr,H))->vs[k]? =J v:=by
 intro xs;induction xs with
 |nil=>intro fr ai H H' vs k x v _ h;simp at h
 |cons a xs ih=>
  intro fr ai H H' vs k x v h hx hm;simp only[ck]at h;split at h
  ·rename_i w fr1 H1 h1;split at h
   ·rename_i ws dD h2;cases h;cases k with
    |zero=>simp at hx;subst hx;rw[hm]at h1;cases h1;rfl
    |succ k=>simpa using ih h2 (by simpa using hx) hm
   ·cases h
  ·cases h
def W0:∀{xs:List Operand}{ts:List TypeId},(ic P xs ts).map (·.2)=xs:=by
 intro xs;induction xs with
 |nil=>intro ts;rfl
 |cons x xs ih=>intro ts;cases ts<;>simp[ic,ih]
def zAT{x:Operand}{H H':AH}(hw:my H)(h:bh fr H x=J (v,ai,H')):fu H H'/\my H':=by
 cases x with
 |tmp t=>
  simp only[bh]at h;split at h
  ·simp only[aT,b9]at h;obtain⟨_,_,rfl⟩:=h;exact⟨.refl H,hw⟩
  ·simp only[aT,b9]at h;obtain⟨_,_,rfl⟩:=h;refine⟨⟨C7 _,λid k hk=>?_⟩,λid k hk=>?_⟩
   ·have:=hw id k hk;simp only[AH.push];rw[az (by omega)];exact hk
   ·simp only[AH.push]at hk⊢;split at hk
    ·omega
    ·have:=hw id k hk;omega
  ·cases h
 |const k=>simp only[bh,bN,b9]at h;obtain⟨y,h1,rfl,rfl,rfl⟩:=h;exact⟨.refl H,hw⟩
 |func k=>simp only[bh,bN,b9]at h;obtain⟨y,h1,rfl,rfl,rfl⟩:=h;exact⟨.refl H,hw⟩
 |global k=>simp only[bh,bN,b9]at h;obtain⟨y,h1,rfl,rfl,rfl⟩:=h;exact⟨.refl H,hw⟩
def zxV:∀{xs:List Operand}{fr ai:FR}{H H':AH}{vs:List Value},my H->ck fr H xs=J (vs,ai,H')->fu H H'/\my H':=by
 intro xs;induction xs with
 |nil=>intro fr ai H H' vs hw h;simp only[ck,aT,b9]at h;obtain⟨_,_,rfl⟩:=h;exact⟨.refl H,hw⟩
 |cons x xs ih=>
  intro fr ai H H' vs hw h;simp only[ck]at h;split at h
  ·rename_i v fr1 H1 h1;split at h
   ·rename_i ws dD h2;cases h;obtain⟨a,b⟩:=zAT hw h1;obtain⟨a',b'⟩:=ih b h2;exact⟨a.trans a',b'⟩
   ·cases h
  ·cases h
def PL{fr ai:FR}{H H':AH}{vs:List Value}(hw:my H)(h:ck fr H xs=J (vs,ai,H')):fu H H':=(zxV hw h).1
def Zt(r:aq c.nt pin E0 E pf fr)(hp:er c pin){d:Option Tmp}{xl:List Operand}(Vs:l.map (·.2.2)=xl)
{ys:List PV}{aQ:ah}{as:List (Md×PV)}{g:FuncId}{xs us:List PV}(JQ:oG pf l=J (ys,aQ))(Jh:eJ aQ l ys=J as)(h:QF P c d K aQ l g xs us as){Q:FR->Array Value->Array Value->Prop}
(hQ:∀E1 fr1,aq c.nt pin E0 E1 aQ fr1->∃first kc,Q fr1 first kc/\xs.length=first.toList.length/\us.length=kc.toList.length/\
   (∀(i:Nat) (x:PV) (y:Value),xs[i]? =J x->first.toList[i]? =J y->PR E1 ae x y)/\(∀(i:Nat) (x:PV) (y:Value),us[i]? =J x->kc.toList[i]? =J y->PR E1 ae x y))
(hk:∀pf' ai E',K pf'->aq c.nt pin E0 E' pf' ai->((∀a,a∈l->a.1=.sh)->fu E.H E'.H)->K' ai E'.H):
 ∃vs fr1 H1 first kc,ck fr E.H xl=J (vs,fr1,H1)/\Q fr1 first kc/\vs.length=l.length/\p6 P g (first.toList++vs++kc.toList) H1 λrv H'=>bB c.nt K' d (.v rv) fr1 H':=by
 obtain⟨vs,fr1,E1,m1,r1,l1,l2,f1,t1,_⟩:=zvS r (fl:=[]) (λk x v h=>by simp at h) JQ;simp only[mL]at f1;rw[Vs]at m1;obtain⟨first,kc,j9,lf,lc,pf_,pc_⟩:=hQ E1 fr1 r1;obtain⟨la,_,hca⟩:=zx7 Jh;refine⟨vs,fr1,E1.H,first,kc,m1,j9,l1,?_⟩
 let nf:=xs.length
 let n:=nf+l.length+us.length
 let roots:Nat->Prop:=λs=>∃a t,a∈l/\a.1=.sh/\a.2.2=.tmp t/\(dM aQ (aQ t)).any bL=Z/\s=K9 t (aQ t)
 have TE:∀s,roots s->s<c.nt:=by
  rintro s ⟨a,t,_,_,_,h1,rfl⟩;cases ha:bC (aQ t)with
  |some s=>simp only[K9,ha,v8];exact r1.rt t s ha
  |none=>
   simp only[K9,ha,Aak];exact K3 r1 (by intro e;rw[e]at h1;simp[dM,jP,bL]at h1)
 let Ec:=E1.callee c.nt nf l roots
 have okc:ej Ec:=zyx r1.ok;have q9:GK E1 Ec:=zyd;unfold QF at h;have Abo:∀(k:Nat) (y:PV) (v:Value),ys[k]? =J y->vs[k]? =J v->PR E1 (J (c.nt,[(0,k)])) y v:=λk y v a b=>f1 k y v (by rw[Gx];exact⟨a,b⟩)
 have AbZ:∀(k:Nat) (b:Md×PV) (v:Value),as[k]? =J b->vs[k]? =J v->HS Ec (nf+k) b v:=by
  intro k b v hb hv;obtain⟨a,y,ha,hy,nP⟩:=hca k b hb
  have own:∀m,a.1=m->m≠.sh->b=(m,y)->HS Ec (nf+k) b v:=by
   intro m hm MV hbm;subst hbm
   have cY:GR l k=Z:=by
    obtain⟨md,e,x⟩:=a;simp only at hm;subst hm;unfold GR;rw[ha];cases md<;>first|rfl|exact absurd rfl MV
   have eV:PR Ec (J (nf+k,[])) y v:=(Abo k y v hy hv).move q9 λid q h1 h2=>by
    have h1:E1.ow id=J (c.nt,(0,k)::q):=by simpa using h1
    refine⟨by simp[Ec,Env.callee,h1,LG,cY],?_,rfl⟩;rintro(h3|⟨s,p,h3,h4⟩)
    ·exact h2 h3
    ·rw[h1]at h3;cases h3;exact absurd (TE _ h4) (yz _)
   cases m with
   |sh=>exact absurd rfl MV
   |mv=>exact eV
   |io=>exact eV
  obtain⟨md,e,x⟩:=a;cases md with
  |mv=>simp only[yj,aT]at nP;exact own .mv rfl (by simp) nP.symm
  |io=>simp only[yj,aT]at nP;exact own .io rfl (by simp) nP.symm
  |sh=>
   simp only[yj,bN]at nP;obtain⟨z,hz,rfl⟩:=nP;show PR Ec ae z v;unfold J8 at hz;obtain⟨y',iA,hz⟩:=bR.1 hz;split at hz
   ·cases hz
   ·rename_i hj;simp only[aT]at hz;subst hz;have hj:=nX (x:=y') (by simpa using hj);have hvx:ck fr E.H xl=J (vs,fr1,E1.H):=m1;have VL:xl[k]? =J x:=by rw[<-Vs,Da,ha];rfl
    cases x with
    |tmp t=>
     simp only[vx]at iA;refine zya r1 iA hj (t1 k _ t v ha rfl hv) q9 λho=>λid p h1 h2=>?_
     refine⟨.inr ⟨_,p,h1,⟨_,t,eo ha,rfl,rfl,by rw[iA];simpa using ho,rfl⟩⟩,λk hk=>⟨k,hk,rfl⟩⟩
    |const kk=>
     simp only[vx]at iA;split at iA
     ·rename_i hc;simp only[aT]at iA;subst iA
      have:v=kk:=by
       have:=UE (v:=kk) hvx VL (λfr H=>by simp[bh,be,hc]);rw[hv]at this;exact yA this
      subst this;exact(Hr (E:=Ec) hc ae).freeze (GK.refl _) True.intro
     ·cases iA
    |func ff=>
     simp only[vx,aT]at iA;subst iA
     have:v=.func (.func ff) #[] #[]:=by
      have:=UE (v:=.func (.func ff) #[] #[]) hvx VL (λfr H=>by simp[bh,be]);rw[hv]at this;exact yA this
     subst this;simp only[drop];exact .func _ rfl rfl (λi x y h=>by simp at h) (λi x y h=>by simp at h)
    |global gg=>simp[vx]at iA
 have hlen:(xs.map (λx=>((Md.sh,x):Md×PV))++as++us.map (λx=>(Md.sh,x))).length=n:=by rw[bP,bP,Gu,Gu,la]
 have Ex:(first.toList++vs++kc.toList).length=n:=by rw[bP,bP,<-lf,<-lc,l1]
 have pY:∀(k:Nat) (a:Md×PV) (v:Value),(xs.map (λx=>((Md.sh,x):Md×PV))++as++us.map (λx=>(Md.sh,x)))[k]? =J a->(first.toList++vs++kc.toList)[k]? =J v->HS Ec k a v:=by
  intro k a v ha hv;have q1:(xs.map λx=>((Md.sh,x):Md×PV)).length=nf:=by rw[Gu]
  have q2:first.toList.length=nf:=lf.symm
  have q3:(xs.map (λx=>((Md.sh,x):Md×PV))++as).length=nf+l.length:=by rw[bP,q1,la]
  have q4:(first.toList++vs).length=nf+l.length:=by rw[bP,q2,l1]
  by_cases h1:k<nf
  ·rw[fw (by rw[q3];omega),fw (by rw[q1];exact h1)]at ha;rw[fw (by rw[q4];omega),fw (by rw[q2];exact h1)]at hv;obtain⟨x,hx,rfl⟩:=mt ha;exact(pf_ k x v hx hv).mono q9
  ·by_cases h2:k<nf+l.length
   ·rw[fw (by rw[q3];exact h2),fT (by rw[q1];exact Uh h1),q1]at ha;rw[fw (by rw[q4];exact h2),fT (by rw[q2];exact Uh h1),q2]at hv;have:=AbZ (k-nf) a v ha hv
    rwa [show nf+(k-nf)=k by omega]at this
   ·rw[fT (by rw[q3];exact Uh h2),q3]at ha;rw[fT (by rw[q4];exact Uh h2),q4]at hv;obtain⟨x,hx,rfl⟩:=mt ha;exact(pc_ _ x v hx hv).mono q9
 have Jm:=h.2 Ec (first.toList++vs++kc.toList) okc (by rw[hlen,Ex]) pY;refine Jm.mono λrv H' ⟨rr,outs,kQ,⟨ye,L7⟩,eH,post⟩=>?_
 subst eH;rw[hlen]at post;obtain⟨b1,b2,b3,b4,b5⟩:=zwo (n:=n) (M:=l.length) r1 TE post.ok post.since;have r2:=r1.env b1 b2 b3
 have qt:∀(a b:Nat×aA) (x:PV) (v:Value),(x=rr\/x∈outs)->PR kQ (J a) x v->(∀q,IF c.nt nf n l.length (a.1,a.2++q)=(b.1,b.2++q))->PR (E1.back Ec kQ c.nt nf n l.length) (J b) x v:=by
  intro a b x v hx eV hq;rcases ye with qh|gR
  ·refine eV.move (b5 ?_) (b4 a b hq);rintro s ⟨a',t,h1,h2,h3,h4,_⟩;have:=Kx.1 qh a' h1;obtain⟨md,e,x'⟩:=a';simp only at h2 h3;subst h2;subst h3;exact this (by simpa[rk]using h4)
  ·simp only[bI,bm]at gR;rcases hx with rfl|hx
   ·exact eV.Zx gR.1 (b4 a b hq)
   ·exact eV.Zx (gR.2 x hx) (b4 a b hq)
 have Fs:=qt (n,[]) (c.nt,[(0,l.length)]) rr rv (.inl rfl) post.r λq=>by simp[IF]
 have Abh:∀(k:Nat) (y:PV) (v:Value),(outs.drop nf)[k]? =J y->vs[k]? =J v->PR (E1.back Ec kQ c.nt nf n l.length) (J (c.nt,[(0,0+k)])) y v:=by
  intro k y v hy hv;rw[jd]at hy;have Ll:k<l.length:=by have:=(cT.1 hv).1;omega
  have hV:(first.toList++vs++kc.toList)[nf+k]? =J v:=by
   rw[fw (by rw[bP,<-lf,l1];exact Nat.add_lt_add_left Ll _),fT (by rw[<-lf];exact Nat.le_add_right _ _),<-lf];rw[show nf+k-xs.length=k by simp only[nf];omega];exact hv
  refine qt (nf+k,[]) (c.nt,[(0,0+k)]) y v (.inr (eo hy)) (post.o _ y v hy hV) λq=>?_
  have hne:nf+k≠n:=by simp only[n];omega
  simp only[IF];rw[az hne];simp
 unfold HQ at L7;split at L7
 ·rename_i bW AaU;have hol:l.length<=(outs.drop nf).length:=by rw[OC,post.len];simp only[n];omega
  obtain⟨E3,e3,r3,p3⟩:=zuD r2 hol l1 Abh t1 AaU (z:=rr) (w:=rv) (kz:=l.length) (λk hk'=>by omega) Fs;have r4:aq c.nt pin E0 (E3.rl (fa (c.nt,[(0,l.length)]) (c.nt,[(0,0)]))) bW fr1:=r3.env r3.ok.rl nD λs hs=>iR λq=>kF (by show s≠c.nt;omega)
  have AbK:(∀a,a∈l->a.1=.sh)->fu E.H kQ.H:=by
   intro hsh;refine(PL r.wf m1).trans ⟨post.since.n,λid k hb=>?_⟩
   have qh:∀k,GR l k=aa:=by
    intro k;unfold GR;cases hlk:l[k]? with
    |none=>rfl
    |some a=>
     obtain⟨md,y⟩:=a;rw[show md=.sh from hsh _ (eo hlk)]
   have how:Ec.ow id=ae:=by
    simp only[Ec,Env.callee];cases ho':E1.ow id with
    |none=>rfl
    |some x=>
     simp only[aR,LG];split
     ·split
      ·rw[az (by simp[qh])]
      ·rfl
     ·rfl
   have:=(post.since.own id (r1.wf id k hb) how).2.1;rw[this];exact hb
  have:=XY (K':=K') r4 hp (p3.move dO (lq λq=>zgr _ _ q)) L7 (λpf' ai E' a b e=>hk pf' ai E' a b λhs=>by
   have e2:E'.H=kQ.H:=e.trans e3
   rw[e2];exact AbK hs)
  rw[show(E3.rl (fa (c.nt,[(0,l.length)]) (c.nt,[(0,0)]))).H=E3.H from rfl,e3]at this;exact this
 ·cases L7
def zxe{ts:List TypeId}:(ic P xs ts).length=xs.length:=by
 have:=gn List.length (W0 (P:=P) (xs:=xs) (ts:=ts));simpa using this
def Yo{ms:List Md}{ts:List TypeId}(h:ms.length=xs.length):(ms.zip (ic P xs ts)).map (·.2.2)=xs:=by
 have e:(ms.zip (ic P xs ts)).map (·.2.2)=((ms.zip (ic P xs ts)).map Prod.snd).map (·.2):=by rw[sF];rfl
 rw[e,List.map_snd_zip (by rw[zxe];omega)];exact W0
def Zq(r:aq c.nt pin E0 E pf fr)(hp:er c pin)(ho:o.op=.call ⟨.value f,args,ts⟩)
{ms:List Md}(h:GJ P c f args.toList ts.toList o.dst K pf ms)(hk:∀pf' ai E',K pf'->aq c.nt pin E0 E' pf' ai->((∀m,m∈ms->m=.sh)->fu E.H E'.H)->K' ai E'.H):aM P c.nt o K' fr E.H:=by
 obtain⟨kM,h⟩:=h;unfold TK at h;split at h
 ·rename_i ys aQ JQ;unfold Al at h;split at h
  ·rename_i g xs us as Ii Jh
   obtain⟨vs,fr1,H1,first,kc,m1,j9,_,hc⟩:=Zt (K':=K') r hp (Yo kM) JQ Jh h (Q:=λfr1 a b=>be fr1 f=J (.func (.func g) a b)) (λE1 fr1 r1=>zx8 r1 Ii) (λpf' ai E' a b e=>hk pf' ai E' a b λhs=>e λx hx=>by
    obtain⟨md,y⟩:=x
    exact hs md (List.of_mem_zip hx).1)
   unfold aM;rw[ho];simp only[m1,j9];exact hc
  ·cases h
 ·cases h
def zxu:∀{xs:List Operand}{fr ai:FR}{H H':AH}{vs:List Value},ck fr H xs=J (vs,ai,H')->∀s u,fr s=.v u->ai s=.v u:=by
 intro xs;induction xs with
 |nil=>intro fr ai H H' vs h;simp only[ck,aT,b9]at h;obtain⟨_,rfl,_⟩:=h;exact λs u h=>h
 |cons x xs ih=>
  intro fr ai H H' vs h;simp only[ck]at h;split at h
  ·rename_i v fr1 H1 h1;split at h
   ·rename_i ws dD h2;cases h;exact λs u hs=>ih h2 s u ((Vz h1).2 s u hs)
   ·cases h
  ·cases h
def zxI:∀{xs:List Operand}{x:Operand}{fr ai:FR}{H H':AH}{vs:List Value},ck fr H (xs++[x])=J (vs,ai,H')->∃ws w fr1 H1,ck fr H xs=J (ws,fr1,H1)/\bh fr1 H1 x=J (w,ai,H')/\vs=ws++[w]:=by
 intro xs;induction xs with
 |nil=>
  intro x fr ai H H' vs h;simp only[mL,ck]at h;split at h
  ·rename_i v fr1 H1 h1;cases h;exact⟨[],v,fr,H,rfl,h1,rfl⟩
  ·cases h
 |cons a xs ih=>
  intro x fr ai H H' vs h;simp only[tZ,ck]at h;split at h
  ·rename_i v fr1 H1 h1;split at h
   ·rename_i ws dD h2;cases h;obtain⟨us,u,dJ,H2,g1,g2,rfl⟩:=ih h2;exact⟨v::us,u,dJ,H2,by simp[ck,h1,g1],g2,rfl⟩
   ·cases h
  ·cases h
def Xu(r:aq nt pin E0 E pf fr){x:Nat×FuncId×List PV}(h:vk pf f=J x):∃(v:Value) (vs:List Value),be fr f=J (.func (.func x.2.1) #[] (v::vs).toArray)/\fr x.1=.v v/\x.2.2.length=vs.length/\
 ∀(i:Nat) (y:PV) (w:Value),x.2.2[i]? =J y->vs[i]? =J w->PR E ae y w:=by
 cases f with
 |tmp t=>
  simp only[vk]at h;unfold La at h;split at h
  ·rename_i s g us aD;cases h;have hf:=r.f t;rw[aD]at hf;obtain⟨v,vs,h1,h2,h3,h4⟩:=hf;exact⟨v,vs,by simp only[be,h1],Fg h2,h3,h4⟩
  ·cases h
 |_=>simp[vk]at h
def zsL(r:aq c.nt pin E0 E pf fr)(hp:er c pin)(ho:o.op=.call ⟨.value f,args,ts⟩)
(h:zxO P c f args.toList ts.toList o.dst K pf)(hk:∀pf' ai E',K pf'->aq c.nt pin E0 E' pf' ai->K' ai E'.H):aM P c.nt o K' fr E.H:=by
 obtain⟨ms,x,hx,kM,h⟩:=h;obtain⟨v0,_,_,kY,_⟩:=Xu r hx;unfold G1 at h;split at h
 ·rename_i ys aQ JQ;obtain⟨hx1,h⟩:=h;unfold Al at h;split at h
  ·rename_i g xs us as Ii Jh;cases Ii
   obtain⟨vs,fr1,H1,first,kc,m1,⟨rfl,v,j9,jF⟩,_,hc⟩:=Zt (K':=K') r hp (xl:=args.toList++[.tmp x.1]) (by rw[l8,Yo kM];rfl) JQ Jh h
    (Q:=λfr1 a b=>a= #[]/\∃v,be fr1 f=J (.func (.func x.2.1) #[] (v::b.toList).toArray)/\fr1 x.1=.v v) (λE1 fr1 r1=>by
      obtain⟨v,vs,h1,h2,h3,h4⟩:=Xu r1 hx1
      exact⟨#[],vs.toArray,⟨rfl,v,by simpa using h1,h2⟩,rfl,by simpa using h3,λi x y h=>by simp at h,by simpa using h4⟩) (λpf' ai E' a b _=>hk pf' ai E' a b)
   obtain⟨ws,w,dJ,H2,g1,g2,rfl⟩:=zxI m1;have fL:=zxu g1 _ _ kY;simp only[bh,fL,aT,b9]at g2;obtain⟨rfl,rfl,rfl⟩:=g2;have hv:v0=v:=by rw[fL]at jF;cases jF;rfl
   subst hv;unfold aM;rw[ho];simp only[g1,j9];simpa using hc
  ·cases h
 ·cases h
def zuK(r:aq c.nt pin E0 E pf fr)(hp:er c pin)(ho:o.op=.call ⟨.value f,args,ts⟩)
(h:Xe P c f args.toList o.dst K pf)(hk:∀pf' ai E',K pf'->aq c.nt pin E0 E' pf' ai->K' ai E'.H):aM P c.nt o K' fr E.H:=by
 obtain⟨g,x,t,n,z,rfl,ha,hg,hn,hz,⟨h0,h1,h2⟩,h8⟩:=h;obtain⟨e,gb,es,cz,zc,he,ht,h5,h6,h7,rfl⟩:=Cn hz;have hc:be fr (.const (.slice ae 0 0))=J (.slice ae 0 0):=by simp[be,cr]
 have hm:ck fr E.H args.toList=J ([.slice ae 0 0,.int .i64 n],fr,E.H):=by
  rw[ha];simp[ck,L8 (H:=E.H) hc,L8 (H:=E.H) (pV r hn)]
 unfold aM;rw[ho];simp only[hm,be,mL,rc];refine(hg n E.H e gb es cz zc he ht h0 h1 h2 h5 h6 h7).mono λv H' hv=>?_
 rcases hv with⟨rfl,rfl,rfl⟩|⟨qD,rfl,rfl⟩
 ·exact gP r hp (.sl0 _ _) h8 hk
 ·have ok:=r.ok;have qX:∀e,e∈List.replicate n.toNat zc->e.length=es:=λe he=>by rw[(nr.1 he).2];exact h5
  have eV:PR (E.push ⟨Z,(List.replicate n.toNat zc).flatten⟩ (c.nt,[(0,0)]) λ_=>ae) (J (c.nt,[(0,0)])) (.sl Z es []) (.slice (J ⟨E.H.n,0,J es⟩) 0 n.toNat):=by
   refine .fk zhw ok.xN yl rfl (by simp) (by omega) (by unfold j3;omega) (λrw hr=>by simp at hr) ⟨⟨h6,rfl⟩,?_⟩ λi rw j x y g1 g2 g3=>by simp at g1
   rw[EH qX];simp
  have:=gP (K':=K') (r.env ok.push ok.uL λs _=>ok.m8 λ_=>rfl) hp eV h8 hk;exact this
def zt8(r:aq c.nt pin E0 E pf fr)(hp:er c pin)(ho:o.op=.call ⟨.value f,args,ts⟩)
(h:Z5 P c f args.toList ts.toList o.dst K pf)(hk:∀pf' ai E',K pf'->aq c.nt pin E0 E' pf' ai->K' ai E'.H):aM P c.nt o K' fr E.H:=by
 rcases h with⟨ms,h⟩|h|h
 ·exact Zq r hp ho h λpf' ai E' a b _=>hk pf' ai E' a b
 ·exact zuK r hp ho h hk
 ·exact zsL r hp ho h hk
end
end Go.Pm
