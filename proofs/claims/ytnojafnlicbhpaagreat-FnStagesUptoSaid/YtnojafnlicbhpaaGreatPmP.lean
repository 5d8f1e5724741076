import Derived.Test.YtnojafnlicbhpaaGreatPmO
namespace Go.Pm
set_option linter.defProp false
open Bool renaming false→aa,true→Z
open Option renaming none→ae,some→J
def OC:=@List.length_drop
def Ul:=@Nat.le_of_not_lt
def Aay:=@List.any_eq_true
set_option linter.unusedVariables false
set_option linter.unusedSimpArgs false
open Go.Am
section
variable {nt:Nat}{pin:List (Nat×Value)}{E0 E E':Env}{pf:ah}{fr ai:FR}{c:aY}{P:Program}
def Ob(t:Nat)(y:PF):Nat:=(bC y).getD t
def TI(E E':Env)(s:Nat):Prop:=∀id p,E.ow id=J (s,p)->¬E.G id->E'.G id/\∀k,E.H.b id=J k->∃k',E'.H.b id=J k'/\k'=k
variable{K:ah->Prop}{K':FR->AH->Prop}{args:Array Operand}{f:Operand}{l:List (Md×Nat×Operand)}{nf:Nat}{o:Oper}{roots:Nat->Prop}{ts:Array TypeId}{v:Value}{xs:List Operand}
def TI.ok{s:Nat}{p:aA}(h:TI E E' s):xM E E' (J (s,p)):=λid r h1 h2=>by
 obtain⟨a,b⟩:=h id (p++r) h1 h2;exact⟨a,λk hk=>by obtain⟨k',e1,e2⟩:=b k hk;exact⟨k',e1,by rw[e2]⟩⟩
def PR.M3{l:Nat×aA}{x:PV}(h:PR E (J l) x v)(hg:GK E E')(hf:bK x=Z->xM E E' (J l)):PR E' ae (drop x) v:=by
 by_cases ho:bK x=Z
 ·exact h.freeze hg (hf ho)
 ·exact(h.free (by simpa using ho)).freeze hg True.intro
def zxN(r:aq nt pin E0 E pf fr){t:Nat}{y:PV}(hy:dQ pf (pf t)=J y)(hj:y≠.au)(hv:fr t=.v v)(hg:GK E E')(hf:bK y=Z->TI E E' (Ob t (pf t))):PR E' ae (drop y) v:=by
 have nz:=r.f t;cases aE:pf t with
 |v x=>
  rw[aE]at hy nz hf;simp only[dQ,aT]at hy;subst hy;obtain⟨w,g1,g2⟩:=gi nz hj;rw[hv]at g1;cases g1;exact g2.M3 hg λho=>(hf ho).ok
 |rf s p=>
  rw[aE]at hy nz hf;simp only[dQ]at hy;obtain⟨w,g1,g2⟩:=nz;rw[hv]at g1;cases g1;obtain⟨v',w1,w2⟩:=r.at hy hj (iP r g2 hy);have:=w1.same g2;subst this;exact w2.M3 hg λho=>(hf ho).ok
 |rv s p lo hi=>
  rw[aE]at hy nz hf;obtain⟨z,hz,gx⟩:=bR.1 hy;unfold Gj at gx;split at gx
  ·rename_i o es rows;split at gx
   ·rename_i hb;simp only[aT]at gx;subst gx;rw[zkH]at hf;rw[zjF,List.map_drop,List.map_take];rcases nz with⟨h1,h2,rfl,rfl⟩|⟨id,off,es2,n,cc,h1,h2,h3,h4⟩
    ·rw[hv]at h2;cases h2;simpa using PR.sl0 (E:=E') (l:=ae) aa es
    ·rw[hv]at h4;cases h4;obtain⟨v',w1,w2⟩:=r.at hz (by simp) (iP r h1 hz);have:=w1.same h1;subst this;have ee:=zO w2;subst ee;have hd:=w2.M3 hg λho=>(hf (by rw[zkH]at ho;exact ho)).ok
     rw[zjF]at hd;obtain⟨_,_,_,e3⟩:=hd.cut h2 h3;exact e3
   ·cases gx
  ·cases gx
 |ra s p i j n=>
  rw[aE]at hy nz hf;obtain⟨row,d8,ng⟩:=bR.1 hy;unfold wh at ng;split at ng
  ·rename_i cU;simp only[aT]at ng;subst ng;obtain⟨vs,g1,⟨g2,g3⟩,g4⟩:=nz;rw[hv]at g1;cases g1;rw[zpg];refine .agg (by simp;simp at g2;omega) λq x w a b=>?_
   obtain⟨x0,dy,rfl⟩:=my a;have hq:=dy;rw[l6]at dy;split at dy
   ·rw[jd]at dy;have eS:=Pg r (s:=s) (p:=p) (i:=i) (q:=j+q) d8 dy (g4 q w b);refine eS.M3 hg λho=>(hf ?_).ok
    rw[ziK,Aay];exact⟨x0,eo hq,ho⟩
   ·cases dy
  ·cases ng
 |_=>rw[aE]at hy;simp[dQ]at hy
def JA(l:List (Md×Nat×Operand))(k:Nat):Bool:=
 match l[k]? with
 |some (.mv,_)|some (.io,_)=>Z
 |_=>aa
def MJ(nt nf:Nat)(l:List (Md×Nat×Operand))(x:Nat×aA):Option (Nat×aA):=
 if x.1=nt then match x.2 with
  |(i,k)::r=>if i=0/\JA l k=Z then J (nf+k,r)else ae
  |[]=>ae
 else ae
def Env.callee(E:Env)(nt nf:Nat)(l:List (Md×Nat×Operand))(roots:Nat->Prop):Env:=
 ⟨E.H,λid=>E.G id\/∃s p,E.ow id=J (s,p)/\roots s,λid=>(E.ow id).bind (MJ nt nf l)⟩
def Kg(nt nf n M:Nat)(x:Nat×aA):Nat×aA:=if x.1=n then(nt,(0,M)::x.2)else(nt,(0,x.1-nf)::x.2)
def Env.back(E Ec ku:Env)(nt nf n M:Nat):Env:=
 ⟨ku.H,λid=>E.G id\/(ku.G id/\¬Ec.G id),λid=>if((Ec.ow id).isNone&&decide (id<E.H.n))=Z then E.ow id else(ku.ow id).map (Kg nt nf n M)⟩
def zx0(ok:en E) :en (E.callee nt nf l roots):=⟨ok.wf,λid bY=>by
 obtain⟨h1,h2⟩:=ok.fresh id bY;refine⟨by simp[Env.callee,h1],?_⟩;rintro(h3|⟨s,p,h3,_⟩)
 ·exact h2 h3
 ·rw[h1]at h3;cases h3⟩
def zyp :GK E (E.callee nt nf l roots):=λ_ h=>⟨.inl h,λk hk=>⟨k,hk,rfl⟩⟩
def zwK(r:aq nt pin E0 E pf fr){n M:Nat}(Po:∀s,roots s->s<nt){ku:Env}(YD:en ku)(hs:fY (E.callee nt nf l roots) ku):
 let E2:=E.back (E.callee nt nf l roots) ku nt nf n M
 en E2/\fY E E2/\(∀s,s<nt->dt E E2 (J (s,[])) (J (s,[])))/\
  (∀a b:Nat×aA,(∀q,Kg nt nf n M (a.1,a.2++q)=(b.1,b.2++q))->dt ku E2 (J a) (J b))/\((∀s,¬roots s)->GK ku E2):=by
 intro E2;have ok:=r.ok
 have hH:∀id,E.G id->ku.H.b id=E.H.b id\/E.H.b id=ae:=λid h=>by
  cases hb:E.H.b id with
  |none=>exact .inr rfl
  |some k=>
   obtain⟨k',e1,e2⟩:=(hs.g id (.inl h)).2 k hb;rw[e2]at e1;exact .inl e1
 have zx:∀id a,ku.ow id=J a->¬(((E.callee nt nf l roots).ow id).isNone&&decide (id<E.H.n))=Z:=λid a h hc=>by
  simp only[bI,Option.isNone_iff_eq_none,eC]at hc;have:=(hs.own id hc.2 hc.1).1;rw[this]at h;cases h
 have hold:∀id,id<E.H.n->(∀p,E.ow id≠J (nt,p))->E2.ow id=E.ow id/\ku.ow id=ae/\ku.H.b id=E.H.b id/\(ku.G id->(E.callee nt nf l roots).G id):=λid h1 h2=>by
  have hn:(E.callee nt nf l roots).ow id=ae:=by
   simp only[Env.callee];cases ho:E.ow id with
   |none=>rfl
   |some x=>
    obtain⟨s,p⟩:=x;have:s≠nt:=λe=>h2 p (by rw[ho,e])
    simp[MJ,this]
  obtain⟨a,b,cc⟩:=hs.own id h1 hn;refine⟨?_,a,b,cc⟩;simp only[E2,Env.back,hn];rw[aB (by simp[h1])]
 refine⟨⟨YD.wf,λid bY=>?_⟩,⟨hs.n,λid hG=>⟨.inl hG,λk hk=>?_⟩,λid h1 h2=>?_⟩,λs mB id p h1 h2=>?_,λa b nI id q h1 h2=>?_,λqA id hG=>?_⟩
 ·obtain⟨h1,h2⟩:=YD.fresh id bY;have YX:E.H.n<=id:=gj hs.n bY;refine⟨?_,?_⟩
  ·simp only[E2,Env.back];rw[az (by simp;intro _;omega),h1];rfl
  ·rintro(h3|⟨h3,_⟩)
   ·exact(ok.fresh id YX).2 h3
   ·exact h2 h3
 ·obtain⟨k',e1,e2⟩:=(hs.g id (.inl hG)).2 k hk;exact⟨k',e1,e2⟩
 ·obtain⟨a,b,cc,d⟩:=hold id h1 (λp h=>by rw[h2]at h;cases h);refine⟨a.trans h2,cc,?_⟩;rintro(h3|⟨h3,h4⟩)
  ·exact h3
  ·exact absurd (d h3) h4
 ·have h1:E.ow id=J (s,p):=by simpa using h1
  have hlt:=ok.lt h1;obtain⟨a,b,cc,d⟩:=hold id hlt (λp' h=>by rw[h1,aT,b9]at h;omega);refine⟨by simpa using a.trans h1,?_,cc⟩;rintro(h3|⟨h3,h4⟩)
  ·exact h2 h3
  ·exact h4 (d h3)
 ·refine⟨?_,?_,rfl⟩
  ·simp only[E2,Env.back];rw[az (zx id _ h1),h1];simp[nI]
  ·rintro(h3|⟨h3,_⟩)
   ·exact h2 (hs.g id (.inl h3)).1
   ·exact h2 h3
 ·refine⟨?_,λk hk=>⟨k,hk,rfl⟩⟩;by_cases h:(E.callee nt nf l roots).G id
  ·rcases h with h|⟨s,p,_,h⟩
   ·exact .inl h
   ·exact absurd h (qA s)
  ·exact .inr ⟨hG,h⟩
def zuN(r:aq nt pin E0 E pf fr){a:Md×Nat×Operand}{y:PV}{k:Nat}{pf':ah}(hy:PR E (J (nt,[(0,k)])) y v)(hv:∀t,a.2.2=.tmp t->fr t=.v v)(h:yq nt pf a y=J pf'):
 ∃E',E'.H=E.H/\aq nt pin E0 E' pf' fr/\(∀k' z w,k'≠k->PR E (J (nt,[(0,k')])) z w->PR E' (J (nt,[(0,k')])) z w):=by
 have key:∀{s:Nat}{p:aA},s<nt->Wk E fr s p v->ql pf s p y=J pf'->∃E',E'.H=E.H/\aq nt pin E0 E' pf' fr/\(∀k' z w,k'≠k->PR E (J (nt,[(0,k')])) z w->PR E' (J (nt,[(0,k')])) z w):=by
  intro s p hs hw hj;obtain⟨bW,hj,q2⟩:=QD r hj;refine⟨E.rl (fg (nt,[(0,k)]) (s,p)),rfl,?_,λk' z w hk hz=>hz.move dO (iZ λq=>?_)⟩
  ·refine q2 dO ?_;refine r.setAt hs hw hj rfl nF dO (λt ht _=>iZ λq=>kO (by show t≠nt;omega)) r.ok.rl.fresh (λid q h1 h2 _=>⟨?_,h2⟩) (hy.move dO (lG λq=>zgp _ _ q));have:fg (nt,[(0,k)]) (s,p) (s,q)=ae:=kO (by show s≠nt;omega);simp[Env.rl,h1,this]
  ·simp[fg,Ne.symm hk]
 obtain⟨md,e,x⟩:=a;cases md with
 |io=>
  cases x with
  |tmp t=>
   simp only[yq]at h;have nz:=hv t rfl;have hf:=r.f t;unfold Di at h;split at h
   ·rename_i s p aE;rw[aE]at hf;obtain⟨w,g1,g2⟩:=hf;rw[nz]at g1;cases g1;exact key (r.rt t s (by rw[aE];rfl)) g2 h
   ·split at h
    ·rename_i ht;exact key (p:=[]) ht (.inl ⟨v,nz,rfl⟩) h
    ·cases h
  |_=>simp only[yq,aT]at h;subst h;exact⟨E,rfl,r,λ_ _ _ _ h=>h⟩
 |_=>simp only[yq,aT]at h;subst h;exact⟨E,rfl,r,λ_ _ _ _ h=>h⟩
def zut:∀{l:List (Md×Nat×Operand)}{outs:List PV}{vs:List Value}{k0:Nat}{E:Env}{pf pf':ah},aq nt pin E0 E pf fr->l.length<=outs.length->vs.length=l.length->
 (∀(k:Nat) (y:PV) (v:Value),outs[k]? =J y->vs[k]? =J v->PR E (J (nt,[(0,k0+k)])) y v)->(∀(k:Nat) (a:Md×Nat×Operand) (t:Nat) (v:Value),l[k]? =J a->a.2.2=.tmp t->vs[k]? =J v->fr t=.v v)->
 back nt pf l outs=J pf'->∀{z:PV}{w:Value}{kz:Nat},(∀k,k<l.length->kz≠k0+k)->PR E (J (nt,[(0,kz)])) z w->
 ∃E',E'.H=E.H/\aq nt pin E0 E' pf' fr/\PR E' (J (nt,[(0,kz)])) z w:=by
 intro l;induction l with
 |nil=>
  intro outs vs k0 E pf pf' r _ _ _ _ h z w kz _ hz;simp only[back,aT]at h;subst h;exact⟨E,rfl,r,hz⟩
 |cons a l ih=>
  intro outs vs k0 E pf pf' r h1 h2 h3 h4 h z w kz hk hz;cases outs with
  |nil=>simp at h1
  |cons y ys=>
   cases vs with
   |nil=>simp at h2
   |cons v vs=>
    simp only[back,bR]at h;obtain⟨aQ,b1,b2⟩:=h;obtain⟨E1,e1,r1,p1⟩:=zuN r (k:=k0) (by simpa using h3 0 y v rfl rfl) (λt ht=>h4 0 a t v rfl ht rfl) b1
    have:=ih (k0:=k0+1) r1 (by simpa using h1) (by simpa using h2) (λk y' v' a1 a2=>p1 _ _ _ (by omega) (by
     have:=h3 (k+1) y' v' (by simpa using a1) (by simpa using a2)
     rwa [show k0+(k+1)=k0+1+k by omega]at this)) (λk a' t v' a1 a2 a3=>h4 (k+1) a' t v' (by simpa using a1) a2 (by simpa using a3)) b2 (z:=z) (w:=w) (kz:=kz)
     (λk hk'=>by have:=hk (k+1) (by simp;omega);omega) (p1 _ _ _ (by have:=hk 0 (by simp);omega) hz)
    obtain⟨E2,e2,r2,p2⟩:=this;exact⟨E2,e2.trans e1,r2,p2⟩
def zxt(r:aq nt pin E0 E pf fr){g:FuncId}{xs us:List PV}(h:pI pf f=J (g,xs,us)):∃ys vs,be fr f=J (.func (.func g) ys vs)/\xs.length=ys.toList.length/\us.length=vs.toList.length/\
 (∀(i:Nat) (x:PV) (y:Value),xs[i]? =J x->ys.toList[i]? =J y->PR E ae x y)/\(∀(i:Nat) (x:PV) (y:Value),us[i]? =J x->vs.toList[i]? =J y->PR E ae x y):=by
 cases f with
 |func g'=>
  simp only[pI,aT,b9]at h;obtain⟨rfl,rfl,rfl⟩:=h;exact⟨#[],#[],rfl,rfl,rfl,λi x y h=>by simp at h,λi x y h=>by simp at h⟩
 |tmp t=>
  simp only[pI]at h;unfold M4 at h;split at h
  ·rename_i g' uv us' aE;simp only[aT,b9]at h;obtain⟨rfl,rfl,rfl⟩:=h;have hf:=r.f t;rw[aE]at hf;obtain⟨v,g1,g2⟩:=gi hf (by simp);cases g2 with
   |func fn hl kl h1 h2=>exact⟨_,_,by simp only[be,g1],hl,kl,h1,h2⟩
  ·cases h
 |_=>simp[pI]at h
def zyI:∀{l:List (Md×Nat×Operand)}{ys:List PV}{as:List (Md×PV)},eL pf l ys=J as->as.length=l.length/\ys.length=l.length/\
 ∀(k:Nat) (b:Md×PV),as[k]? =J b->∃a y,l[k]? =J a/\ys[k]? =J y/\yn pf a y=J b:=by
 intro l;induction l with
 |nil=>
  intro ys as h;cases ys with
  |nil=>simp only[eL,aT]at h;subst h;exact⟨rfl,rfl,λk b h=>by simp at h⟩
  |cons y ys=>simp[eL]at h
 |cons a l ih=>
  intro ys as h;cases ys with
  |nil=>simp[eL]at h
  |cons y ys=>
   simp only[eL,bR,bN]at h;obtain⟨b,h1,bs,h2,rfl⟩:=h;obtain⟨l1,l2,h3⟩:=ih h2;refine⟨by simp[l1],by simp[l2],λk b' hb=>?_⟩;cases k with
   |zero=>simp at hb;subst hb;exact⟨a,y,rfl,rfl,h1⟩
   |succ k=>simpa using h3 k b' (by simpa using hb)
def Zl:∀{xs:List Operand}{fr ai:FR}{H H':AH}{vs:List Value}{k:Nat}{x:Operand}{v:Value},ck fr H xs=J (vs,ai,H')->xs[k]? =J x->(∀fr H,bh fr H x=J (v,fr,H))->vs[k]? =J v:=by
 intro xs;induction xs with
 |nil=>intro fr ai H H' vs k x v _ h;simp at h
 |cons a xs ih=>
  intro fr ai H H' vs k x v h hx hm;simp only[ck]at h;split at h
  ·rename_i w fr1 H1 h1;split at h
   ·rename_i ws dE h2;cases h;cases k with
    |zero=>simp at hx;subst hx;rw[hm]at h1;cases h1;rfl
    |succ k=>simpa using ih h2 (by simpa using hx) hm
   ·cases h
  ·cases h
def ZV:∀{xs:List Operand}{ts:List TypeId},(ii P xs ts).map (·.2)=xs:=by
 intro xs;induction xs with
 |nil=>intro ts;rfl
 |cons x xs ih=>intro ts;cases ts<;>simp[ii,ih]
def zBq{x:Operand}{H H':AH}(hw:mj H)(h:bh fr H x=J (v,ai,H')):fj H H'/\mj H':=by
 cases x with
 |tmp t=>
  simp only[bh]at h;split at h
  ·simp only[aT,b9]at h;obtain⟨_,_,rfl⟩:=h;exact⟨.refl H,hw⟩
  ·simp only[aT,b9]at h;obtain⟨_,_,rfl⟩:=h;refine⟨⟨C7 _,λid k hk=>?_⟩,λid k hk=>?_⟩
   ·have:=hw id k hk;simp only[AH.push];rw[az (by omega)];exact hk
   ·simp only[AH.push]at hk⊢;split at hk
    ·omega
    ·have:=hw id k hk;omega
  ·cases h
 |const k=>simp only[bh,bN,b9]at h;obtain⟨y,h1,rfl,rfl,rfl⟩:=h;exact⟨.refl H,hw⟩
 |func k=>simp only[bh,bN,b9]at h;obtain⟨y,h1,rfl,rfl,rfl⟩:=h;exact⟨.refl H,hw⟩
 |global k=>simp only[bh,bN,b9]at h;obtain⟨y,h1,rfl,rfl,rfl⟩:=h;exact⟨.refl H,hw⟩
def zyv:∀{xs:List Operand}{fr ai:FR}{H H':AH}{vs:List Value},mj H->ck fr H xs=J (vs,ai,H')->fj H H'/\mj H':=by
 intro xs;induction xs with
 |nil=>intro fr ai H H' vs hw h;simp only[ck,aT,b9]at h;obtain⟨_,_,rfl⟩:=h;exact⟨.refl H,hw⟩
 |cons x xs ih=>
  intro fr ai H H' vs hw h;simp only[ck]at h;split at h
  ·rename_i v fr1 H1 h1;split at h
   ·rename_i ws dE h2;cases h;obtain⟨a,b⟩:=zBq hw h1;obtain⟨a',b'⟩:=ih b h2;exact⟨a.trans a',b'⟩
   ·cases h
  ·cases h
def Tq{fr ai:FR}{H H':AH}{vs:List Value}(hw:mj H)(h:ck fr H xs=J (vs,ai,H')):fj H H':=(zyv hw h).1
def zpU(r:aq c.nt pin E0 E pf fr)(hp:ew c pin){d:Option Tmp}{xl:List Operand}(hlx:l.map (·.2.2)=xl)
{ys:List PV}{aQ:ah}{as:List (Md×PV)}{g:FuncId}{xs us:List PV}(Io:o4 pf l=J (ys,aQ))(GE:eL aQ l ys=J as)(h:SY P c d K aQ l g xs us as){Q:FR->Array Value->Array Value->Prop}
(hQ:∀E1 fr1,aq c.nt pin E0 E1 aQ fr1->∃first km,Q fr1 first km/\xs.length=first.toList.length/\us.length=km.toList.length/\
   (∀(i:Nat) (x:PV) (y:Value),xs[i]? =J x->first.toList[i]? =J y->PR E1 ae x y)/\(∀(i:Nat) (x:PV) (y:Value),us[i]? =J x->km.toList[i]? =J y->PR E1 ae x y))
(hk:∀pf' ai E',K pf'->aq c.nt pin E0 E' pf' ai->((∀a,a∈l->a.1=.sh)->fj E.H E'.H)->K' ai E'.H):
 ∃vs fr1 H1 first km,ck fr E.H xl=J (vs,fr1,H1)/\Q fr1 first km/\vs.length=l.length/\pH P g (first.toList++vs++km.toList) H1 λrv H'=>bB c.nt K' d (.v rv) fr1 H':=by
 obtain⟨vs,fr1,E1,m1,r1,l1,l2,f1,t1,_⟩:=zwg r (fl:=[]) (λk x v h=>by simp at h) Io;simp only[mL]at f1;rw[hlx]at m1;obtain⟨first,km,j9,lf,lc,pf_,pc_⟩:=hQ E1 fr1 r1;obtain⟨la,_,hca⟩:=zyI GE;refine⟨vs,fr1,E1.H,first,km,m1,j9,l1,?_⟩
 let nf:=xs.length
 let n:=nf+l.length+us.length
 let roots:Nat->Prop:=λs=>∃a t,a∈l/\a.1=.sh/\a.2.2=.tmp t/\(dQ aQ (aQ t)).any bK=Z/\s=Ob t (aQ t)
 have Po:∀s,roots s->s<c.nt:=by
  rintro s ⟨a,t,_,_,_,h1,rfl⟩;cases ha:bC (aQ t)with
  |some s=>simp only[Ob,ha,v8];exact r1.rt t s ha
  |none=>
   simp only[Ob,ha,Aal];exact NU r1 (by intro e;rw[e]at h1;simp[dQ,jP,bK]at h1)
 let Ec:=E1.callee c.nt nf l roots
 have okc:en Ec:=zx0 r1.ok;have qn:GK E1 Ec:=zyp;unfold SY at h;have Aa6:∀(k:Nat) (y:PV) (v:Value),ys[k]? =J y->vs[k]? =J v->PR E1 (J (c.nt,[(0,k)])) y v:=λk y v a b=>f1 k y v (by rw[Gx];exact⟨a,b⟩)
 have AbJ:∀(k:Nat) (b:Md×PV) (v:Value),as[k]? =J b->vs[k]? =J v->H8 Ec (nf+k) b v:=by
  intro k b v hb hv;obtain⟨a,y,ha,hy,nI⟩:=hca k b hb
  have own:∀m,a.1=m->m≠.sh->b=(m,y)->H8 Ec (nf+k) b v:=by
   intro m hm NO hbm;subst hbm
   have cY:JA l k=Z:=by
    obtain⟨md,e,x⟩:=a;simp only at hm;subst hm;unfold JA;rw[ha];cases md<;>first|rfl|exact absurd rfl NO
   have eS:PR Ec (J (nf+k,[])) y v:=(Aa6 k y v hy hv).move qn λid q h1 h2=>by
    have h1:E1.ow id=J (c.nt,(0,k)::q):=by simpa using h1
    refine⟨by simp[Ec,Env.callee,h1,MJ,cY],?_,rfl⟩;rintro(h3|⟨s,p,h3,h4⟩)
    ·exact h2 h3
    ·rw[h1]at h3;cases h3;exact absurd (Po _ h4) (yz _)
   cases m with
   |sh=>exact absurd rfl NO
   |mv=>exact eS
   |io=>exact eS
  obtain⟨md,e,x⟩:=a;cases md with
  |mv=>simp only[yn,aT]at nI;exact own .mv rfl (by simp) nI.symm
  |io=>simp only[yn,aT]at nI;exact own .io rfl (by simp) nI.symm
  |sh=>
   simp only[yn,bN]at nI;obtain⟨z,hz,rfl⟩:=nI;show PR Ec ae z v;unfold GU at hz;obtain⟨y',im,hz⟩:=bR.1 hz;split at hz
   ·cases hz
   ·rename_i hj;simp only[aT]at hz;subst hz;have hj:=oN (x:=y') (by simpa using hj);have hvx:ck fr E.H xl=J (vs,fr1,E1.H):=m1;have hax:xl[k]? =J x:=by rw[<-hlx,Da,ha];rfl
    cases x with
    |tmp t=>
     simp only[u7]at im;refine zxN r1 im hj (t1 k _ t v ha rfl hv) qn λho=>λid p h1 h2=>?_
     refine⟨.inr ⟨_,p,h1,⟨_,t,eo ha,rfl,rfl,by rw[im];simpa using ho,rfl⟩⟩,λk hk=>⟨k,hk,rfl⟩⟩
    |const kk=>
     simp only[u7]at im;split at im
     ·rename_i hc;simp only[aT]at im;subst im
      have:v=kk:=by
       have:=Zl (v:=kk) hvx hax (λfr H=>by simp[bh,be,hc]);rw[hv]at this;exact yA this
      subst this;exact(JK (E:=Ec) hc ae).freeze (GK.refl _) True.intro
     ·cases im
    |func ff=>
     simp only[u7,aT]at im;subst im
     have:v=.func (.func ff) #[] #[]:=by
      have:=Zl (v:=.func (.func ff) #[] #[]) hvx hax (λfr H=>by simp[bh,be]);rw[hv]at this;exact yA this
     subst this;simp only[drop];exact .func _ rfl rfl (λi x y h=>by simp at h) (λi x y h=>by simp at h)
    |global gg=>simp[u7]at im
 have hlen:(xs.map (λx=>((Md.sh,x):Md×PV))++as++us.map (λx=>(Md.sh,x))).length=n:=by rw[bP,bP,Gu,Gu,la]
 have Gh:(first.toList++vs++km.toList).length=n:=by rw[bP,bP,<-lf,<-lc,l1]
 have pN:∀(k:Nat) (a:Md×PV) (v:Value),(xs.map (λx=>((Md.sh,x):Md×PV))++as++us.map (λx=>(Md.sh,x)))[k]? =J a->(first.toList++vs++km.toList)[k]? =J v->H8 Ec k a v:=by
  intro k a v ha hv;have q1:(xs.map λx=>((Md.sh,x):Md×PV)).length=nf:=by rw[Gu]
  have q2:first.toList.length=nf:=lf.symm
  have q3:(xs.map (λx=>((Md.sh,x):Md×PV))++as).length=nf+l.length:=by rw[bP,q1,la]
  have q4:(first.toList++vs).length=nf+l.length:=by rw[bP,q2,l1]
  by_cases h1:k<nf
  ·rw[fw (by rw[q3];omega),fw (by rw[q1];exact h1)]at ha;rw[fw (by rw[q4];omega),fw (by rw[q2];exact h1)]at hv;obtain⟨x,hx,rfl⟩:=my ha;exact(pf_ k x v hx hv).mono qn
  ·by_cases h2:k<nf+l.length
   ·rw[fw (by rw[q3];exact h2),fT (by rw[q1];exact Ul h1),q1]at ha;rw[fw (by rw[q4];exact h2),fT (by rw[q2];exact Ul h1),q2]at hv;have:=AbJ (k-nf) a v ha hv
    rwa [show nf+(k-nf)=k by omega]at this
   ·rw[fT (by rw[q3];exact Ul h2),q3]at ha;rw[fT (by rw[q4];exact Ul h2),q4]at hv;obtain⟨x,hx,rfl⟩:=my ha;exact(pc_ _ x v hx hv).mono qn
 have JB:=h.2 Ec (first.toList++vs++km.toList) okc (by rw[hlen,Gh]) pN;refine JB.mono λrv H' ⟨rr,outs,ku,⟨xQ,NG⟩,eH,post⟩=>?_
 subst eH;rw[hlen]at post;obtain⟨b1,b2,b3,b4,b5⟩:=zwK (n:=n) (M:=l.length) r1 Po post.ok post.since;have r2:=r1.env b1 b2 b3
 have qQ:∀(a b:Nat×aA) (x:PV) (v:Value),(x=rr\/x∈outs)->PR ku (J a) x v->(∀q,Kg c.nt nf n l.length (a.1,a.2++q)=(b.1,b.2++q))->PR (E1.back Ec ku c.nt nf n l.length) (J b) x v:=by
  intro a b x v hx eS hq;rcases xQ with qA|gP
  ·refine eS.move (b5 ?_) (b4 a b hq);rintro s ⟨a',t,h1,h2,h3,h4,_⟩;have:=Kx.1 qA a' h1;obtain⟨md,e,x'⟩:=a';simp only at h2 h3;subst h2;subst h3;exact this (by simpa[rT]using h4)
  ·simp only[bI,bm]at gP;rcases hx with rfl|hx
   ·exact eS.Aaf gP.1 (b4 a b hq)
   ·exact eS.Aaf (gP.2 x hx) (b4 a b hq)
 have DG:=qQ (n,[]) (c.nt,[(0,l.length)]) rr rv (.inl rfl) post.r λq=>by simp[Kg]
 have Abx:∀(k:Nat) (y:PV) (v:Value),(outs.drop nf)[k]? =J y->vs[k]? =J v->PR (E1.back Ec ku c.nt nf n l.length) (J (c.nt,[(0,0+k)])) y v:=by
  intro k y v hy hv;rw[jd]at hy;have MT:k<l.length:=by have:=(cT.1 hv).1;omega
  have hV:(first.toList++vs++km.toList)[nf+k]? =J v:=by
   rw[fw (by rw[bP,<-lf,l1];exact Nat.add_lt_add_left MT _),fT (by rw[<-lf];exact Nat.le_add_right _ _),<-lf];rw[show nf+k-xs.length=k by simp only[nf];omega];exact hv
  refine qQ (nf+k,[]) (c.nt,[(0,0+k)]) y v (.inr (eo hy)) (post.o _ y v hy hV) λq=>?_
  have hne:nf+k≠n:=by simp only[n];omega
  simp only[Kg];rw[az hne];simp
 unfold J6 at NG;split at NG
 ·rename_i bW AbE;have hol:l.length<=(outs.drop nf).length:=by rw[OC,post.len];simp only[n];omega
  obtain⟨E3,e3,r3,p3⟩:=zut r2 hol l1 Abx t1 AbE (z:=rr) (w:=rv) (kz:=l.length) (λk hk'=>by omega) DG;have r4:aq c.nt pin E0 (E3.rl (fg (c.nt,[(0,l.length)]) (c.nt,[(0,0)]))) bW fr1:=r3.env r3.ok.rl nF λs hs=>iZ λq=>kO (by show s≠c.nt;omega)
  have Ab5:(∀a,a∈l->a.1=.sh)->fj E.H ku.H:=by
   intro hsh;refine(Tq r.wf m1).trans ⟨post.since.n,λid k hb=>?_⟩
   have qA:∀k,JA l k=aa:=by
    intro k;unfold JA;cases hlk:l[k]? with
    |none=>rfl
    |some a=>
     obtain⟨md,y⟩:=a;rw[show md=.sh from hsh _ (eo hlk)]
   have how:Ec.ow id=ae:=by
    simp only[Ec,Env.callee];cases ho':E1.ow id with
    |none=>rfl
    |some x=>
     simp only[aR,MJ];split
     ·split
      ·rw[az (by simp[qA])]
      ·rfl
     ·rfl
   have:=(post.since.own id (r1.wf id k hb) how).2.1;rw[this];exact hb
  have:=Z6 (K':=K') r4 hp (p3.move dO (lG λq=>zgp _ _ q)) NG (λpf' ai E' a b e=>hk pf' ai E' a b λhs=>by
   have e2:E'.H=ku.H:=e.trans e3
   rw[e2];exact Ab5 hs)
  rw[show(E3.rl (fg (c.nt,[(0,l.length)]) (c.nt,[(0,0)]))).H=E3.H from rfl,e3]at this;exact this
 ·cases NG
def zxn{ts:List TypeId}:(ii P xs ts).length=xs.length:=by
 have:=gn List.length (ZV (P:=P) (xs:=xs) (ts:=ts));simpa using this
def zvl{ms:List Md}{ts:List TypeId}(h:ms.length=xs.length):(ms.zip (ii P xs ts)).map (·.2.2)=xs:=by
 have e:(ms.zip (ii P xs ts)).map (·.2.2)=((ms.zip (ii P xs ts)).map Prod.snd).map (·.2):=by rw[sF];rfl
 rw[e,List.map_snd_zip (by rw[zxn];omega)];exact ZV
def XE(r:aq c.nt pin E0 E pf fr)(hp:ew c pin)(ho:o.op=.call ⟨.value f,args,ts⟩)
{ms:List Md}(h:I3 P c f args.toList ts.toList o.dst K pf ms)(hk:∀pf' ai E',K pf'->aq c.nt pin E0 E' pf' ai->((∀m,m∈ms->m=.sh)->fj E.H E'.H)->K' ai E'.H):aM P c.nt o K' fr E.H:=by
 obtain⟨kA,h⟩:=h;unfold Si at h;split at h
 ·rename_i ys aQ Io;unfold y9 at h;split at h
  ·rename_i g xs us as Hl GE
   obtain⟨vs,fr1,H1,first,km,m1,j9,_,hc⟩:=zpU (K':=K') r hp (zvl kA) Io GE h (Q:=λfr1 a b=>be fr1 f=J (.func (.func g) a b)) (λE1 fr1 r1=>zxt r1 Hl) (λpf' ai E' a b e=>hk pf' ai E' a b λhs=>e λx hx=>by
    obtain⟨md,y⟩:=x
    exact hs md (List.of_mem_zip hx).1)
   unfold aM;rw[ho];simp only[m1,j9];exact hc
  ·cases h
 ·cases h
def zw4:∀{xs:List Operand}{fr ai:FR}{H H':AH}{vs:List Value},ck fr H xs=J (vs,ai,H')->∀s u,fr s=.v u->ai s=.v u:=by
 intro xs;induction xs with
 |nil=>intro fr ai H H' vs h;simp only[ck,aT,b9]at h;obtain⟨_,rfl,_⟩:=h;exact λs u h=>h
 |cons x xs ih=>
  intro fr ai H H' vs h;simp only[ck]at h;split at h
  ·rename_i v fr1 H1 h1;split at h
   ·rename_i ws dE h2;cases h;exact λs u hs=>ih h2 s u ((UI h1).2 s u hs)
   ·cases h
  ·cases h
def zyc:∀{xs:List Operand}{x:Operand}{fr ai:FR}{H H':AH}{vs:List Value},ck fr H (xs++[x])=J (vs,ai,H')->∃ws w fr1 H1,ck fr H xs=J (ws,fr1,H1)/\bh fr1 H1 x=J (w,ai,H')/\vs=ws++[w]:=by
 intro xs;induction xs with
 |nil=>
  intro x fr ai H H' vs h;simp only[mL,ck]at h;split at h
  ·rename_i v fr1 H1 h1;cases h;exact⟨[],v,fr,H,rfl,h1,rfl⟩
  ·cases h
 |cons a xs ih=>
  intro x fr ai H H' vs h;simp only[tZ,ck]at h;split at h
  ·rename_i v fr1 H1 h1;split at h
   ·rename_i ws dE h2;cases h;obtain⟨us,u,dH,H2,g1,g2,rfl⟩:=ih h2;exact⟨v::us,u,dH,H2,by simp[ck,h1,g1],g2,rfl⟩
   ·cases h
  ·cases h
def Z0(r:aq nt pin E0 E pf fr){x:Nat×FuncId×List PV}(h:uy pf f=J x):∃(v:Value) (vs:List Value),be fr f=J (.func (.func x.2.1) #[] (v::vs).toArray)/\fr x.1=.v v/\x.2.2.length=vs.length/\
 ∀(i:Nat) (y:PV) (w:Value),x.2.2[i]? =J y->vs[i]? =J w->PR E ae y w:=by
 cases f with
 |tmp t=>
  simp only[uy]at h;unfold LX at h;split at h
  ·rename_i s g us aE;cases h;have hf:=r.f t;rw[aE]at hf;obtain⟨v,vs,h1,h2,h3,h4⟩:=hf;exact⟨v,vs,by simp only[be,h1],Gl h2,h3,h4⟩
  ·cases h
 |_=>simp[uy]at h
def zs8(r:aq c.nt pin E0 E pf fr)(hp:ew c pin)(ho:o.op=.call ⟨.value f,args,ts⟩)
(h:UL P c f args.toList ts.toList o.dst K pf)(hk:∀pf' ai E',K pf'->aq c.nt pin E0 E' pf' ai->K' ai E'.H):aM P c.nt o K' fr E.H:=by
 obtain⟨ms,x,hx,kA,h⟩:=h;obtain⟨v0,_,_,lw,_⟩:=Z0 r hx;unfold J4 at h;split at h
 ·rename_i ys aQ Io;obtain⟨hx1,h⟩:=h;unfold y9 at h;split at h
  ·rename_i g xs us as Hl GE;cases Hl
   obtain⟨vs,fr1,H1,first,km,m1,⟨rfl,v,j9,jR⟩,_,hc⟩:=zpU (K':=K') r hp (xl:=args.toList++[.tmp x.1]) (by rw[l8,zvl kA];rfl) Io GE h
    (Q:=λfr1 a b=>a= #[]/\∃v,be fr1 f=J (.func (.func x.2.1) #[] (v::b.toList).toArray)/\fr1 x.1=.v v) (λE1 fr1 r1=>by
      obtain⟨v,vs,h1,h2,h3,h4⟩:=Z0 r1 hx1
      exact⟨#[],vs.toArray,⟨rfl,v,by simpa using h1,h2⟩,rfl,by simpa using h3,λi x y h=>by simp at h,by simpa using h4⟩) (λpf' ai E' a b _=>hk pf' ai E' a b)
   obtain⟨ws,w,dH,H2,g1,g2,rfl⟩:=zyc m1;have fL:=zw4 g1 _ _ lw;simp only[bh,fL,aT,b9]at g2;obtain⟨rfl,rfl,rfl⟩:=g2;have hv:v0=v:=by rw[fL]at jR;cases jR;rfl
   subst hv;unfold aM;rw[ho];simp only[g1,j9];simpa using hc
  ·cases h
 ·cases h
def zuG(r:aq c.nt pin E0 E pf fr)(hp:ew c pin)(ho:o.op=.call ⟨.value f,args,ts⟩)
(h:Wq P c f args.toList o.dst K pf)(hk:∀pf' ai E',K pf'->aq c.nt pin E0 E' pf' ai->K' ai E'.H):aM P c.nt o K' fr E.H:=by
 obtain⟨g,x,t,n,z,rfl,ha,hg,hn,hz,⟨h0,h1,h2⟩,h8⟩:=h;obtain⟨e,gb,es,cz,zc,he,ht,h5,h6,h7,rfl⟩:=CX hz;have hc:be fr (.const (.slice ae 0 0))=J (.slice ae 0 0):=by simp[be,cq]
 have hm:ck fr E.H args.toList=J ([.slice ae 0 0,.int .i64 n],fr,E.H):=by
  rw[ha];simp[ck,Mc (H:=E.H) hc,Mc (H:=E.H) (pX r hn)]
 unfold aM;rw[ho];simp only[hm,be,mL,rc];refine(hg n E.H e gb es cz zc he ht h0 h1 h2 h5 h6 h7).mono λv H' hv=>?_
 rcases hv with⟨rfl,rfl,rfl⟩|⟨qR,rfl,rfl⟩
 ·exact gO r hp (.sl0 _ _) h8 hk
 ·have ok:=r.ok;have qI:∀e,e∈List.replicate n.toNat zc->e.length=es:=λe he=>by rw[(nr.1 he).2];exact h5
  have eS:PR (E.push ⟨Z,(List.replicate n.toNat zc).flatten⟩ (c.nt,[(0,0)]) λ_=>ae) (J (c.nt,[(0,0)])) (.sl Z es []) (.slice (J ⟨E.H.n,0,J es⟩) 0 n.toNat):=by
   refine .fu zhy ok.yx xR rfl (by simp) (by omega) (by unfold kj;omega) (λrw hr=>by simp at hr) ⟨⟨h6,rfl⟩,?_⟩ λi rw j x y g1 g2 g3=>by simp at g1
   rw[FK qI];simp
  have:=gO (K':=K') (r.env ok.push ok.uX λs _=>ok.m9 λ_=>rfl) hp eS h8 hk;exact this
def zuu(r:aq c.nt pin E0 E pf fr)(hp:ew c pin)(ho:o.op=.call ⟨.value f,args,ts⟩)
(h:Yu P c f args.toList ts.toList o.dst K pf)(hk:∀pf' ai E',K pf'->aq c.nt pin E0 E' pf' ai->K' ai E'.H):aM P c.nt o K' fr E.H:=by
 rcases h with⟨ms,h⟩|h|h
 ·exact XE r hp ho h λpf' ai E' a b _=>hk pf' ai E' a b
 ·exact zuG r hp ho h hk
 ·exact zs8 r hp ho h hk
end
end Go.Pm
