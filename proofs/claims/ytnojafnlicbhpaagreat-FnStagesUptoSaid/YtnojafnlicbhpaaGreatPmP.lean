import Derived.Test.YtnojafnlicbhpaaGreatPmO
open Bool renaming false→aa,true→Z
open Option renaming none→ae,some→J
set_option linter.defProp false
namespace Go.Pm
def Qm:=@List.length_drop
def V5:=@Nat.le_of_not_lt
def a1p:=@List.any_eq_true
set_option linter.unusedVariables false
set_option linter.unusedSimpArgs false
open Go.Am
section
variable {nt:Nat}{pin:List (Nat×Value)}{E0 E E':Env}{pf:ah}{fr ak:FR}{c:aY}{P:Program}
def Ox(t:Nat)(y:PF):Nat:=(bE y).getD t
def QE(E E':Env)(s:Nat):Prop:=∀id p,E.ow id=J (s,p)->¬E.G id->E'.G id/\∀k,E.H.b id=J k->∃k',E'.H.b id=J k'/\k'=k
variable{K:ah->Prop}{K':FR->AH->Prop}{args:Array Operand}{f:Operand}{l:List (Md×Nat×Operand)}{nf:Nat}{o:Oper}{roots:Nat->Prop}{ts:Array TypeId}{v:Value}{xs:List Operand}
def QE.ok{s:Nat}{p:aC}(h:QE E E' s):zg E E' (J (s,p)):=λid r h1 h2=>by
 obtain⟨a,b⟩:=h id (p++r) h1 h2;exact⟨a,λk hk=>by obtain⟨k',e1,e2⟩:=b k hk;exact⟨k',e1,by rw[e2]⟩⟩
def PR.O5{l:Nat×aC}{x:PV}(h:PR E (J l) x v)(hg:GK E E')(hf:bN x=Z->zg E E' (J l)):PR E' ae (drop x) v:=by
 by_cases ho:bN x=Z
 ·exact h.freeze hg (hf ho)
 ·exact(h.free (by simpa using ho)).freeze hg True.intro
def zxh(r:av nt pin E0 E pf fr){t:Nat}{y:PV}(hy:dW pf (pf t)=J y)(hj:y≠.ax)(hv:fr t=.v v)(hg:GK E E')(hf:bN y=Z->QE E E' (Ox t (pf t))):PR E' ae (drop y) v:=by
 have ot:=r.f t;cases aF:pf t with
 |v x=>
  rw[aF]at hy ot hf;simp only[dW,aT]at hy;subst hy;obtain⟨w,g1,g2⟩:=gA ot hj;rw[hv]at g1;cases g1;exact g2.O5 hg λho=>(hf ho).ok
 |rf s p=>
  rw[aF]at hy ot hf;simp only[dW]at hy;obtain⟨w,g1,g2⟩:=ot;rw[hv]at g1;cases g1;obtain⟨v',w1,w2⟩:=r.at hy hj (jn r g2 hy);have:=w1.same g2;subst this;exact w2.O5 hg λho=>(hf ho).ok
 |rv s p lo hi=>
  rw[aF]at hy ot hf;obtain⟨z,hz,gM⟩:=bW.1 hy;unfold Fe at gM;split at gM
  ·rename_i o es rows;split at gM
   ·rename_i hb;simp only[aT]at gM;subst gM;rw[zkB]at hf;rw[zjJ,List.map_drop,List.map_take];rcases ot with⟨h1,h2,rfl,rfl⟩|⟨id,off,es2,n,cc,h1,h2,h3,h4⟩
    ·rw[hv]at h2;cases h2;simpa using PR.sl0 (E:=E') (l:=ae) aa es
    ·rw[hv]at h4;cases h4;obtain⟨v',w1,w2⟩:=r.at hz (by simp) (jn r h1 hz);have:=w1.same h1;subst this;have ee:=AW w2;subst ee;have hd:=w2.O5 hg λho=>(hf (by rw[zkB]at ho;exact ho)).ok
     rw[zjJ]at hd;obtain⟨_,_,_,e3⟩:=hd.cut h2 h3;exact e3
   ·cases gM
  ·cases gM
 |ra s p i j n=>
  rw[aF]at hy ot hf;obtain⟨row,en,ny⟩:=bW.1 hy;unfold zk at ny;split at ny
  ·rename_i da;simp only[aT]at ny;subst ny;obtain⟨vs,g1,⟨g2,g3⟩,g4⟩:=ot;rw[hv]at g1;cases g1;rw[zpj];refine .agg (by simp;simp at g2;omega) λq x w a b=>?_
   obtain⟨x0,dD,rfl⟩:=mC a;have hq:=dD;rw[mu]at dD;split at dD
   ·rw[jw]at dD;have fg:=Tt r (s:=s) (p:=p) (i:=i) (q:=j+q) en dD (g4 q w b);refine fg.O5 hg λho=>(hf ?_).ok
    rw[ziI,a1p];exact⟨x0,eA hq,ho⟩
   ·cases dD
  ·cases ny
 |_=>rw[aF]at hy;simp[dW]at hy
def Iq(l:List (Md×Nat×Operand))(k:Nat):Bool:=
 match l[k]? with
 |some (.mv,_)|some (.io,_)=>Z
 |_=>aa
def MT(nt nf:Nat)(l:List (Md×Nat×Operand))(x:Nat×aC):Option (Nat×aC):=
 if x.1=nt then match x.2 with
  |(i,k)::r=>if i=0/\Iq l k=Z then J (nf+k,r)else ae
  |[]=>ae
 else ae
def Env.callee(E:Env)(nt nf:Nat)(l:List (Md×Nat×Operand))(roots:Nat->Prop):Env:=
 ⟨E.H,λid=>E.G id\/∃s p,E.ow id=J (s,p)/\roots s,λid=>(E.ow id).bind (MT nt nf l)⟩
def Jc(nt nf n M:Nat)(x:Nat×aC):Nat×aC:=if x.1=n then(nt,(0,M)::x.2)else(nt,(0,x.1-nf)::x.2)
def Env.back(E Ec lm:Env)(nt nf n M:Nat):Env:=
 ⟨lm.H,λid=>E.G id\/(lm.G id/\¬Ec.G id),λid=>if((Ec.ow id).isNone&&decide (id<E.H.n))=Z then E.ow id else(lm.ow id).map (Jc nt nf n M)⟩
def zw5(ok:ey E) :ey (E.callee nt nf l roots):=⟨ok.wf,λid b9=>by
 obtain⟨h1,h2⟩:=ok.fresh id b9;refine⟨by simp[Env.callee,h1],?_⟩;rintro(h3|⟨s,p,h3,_⟩)
 ·exact h2 h3
 ·rw[h1]at h3;cases h3⟩
def zyd :GK E (E.callee nt nf l roots):=λ_ h=>⟨.inl h,λk hk=>⟨k,hk,rfl⟩⟩
def zw3(r:av nt pin E0 E pf fr){n M:Nat}(Um:∀s,roots s->s<nt){lm:Env}(ok':ey lm)(hs:gn (E.callee nt nf l roots) lm):
 let E2:=E.back (E.callee nt nf l roots) lm nt nf n M
 ey E2/\gn E E2/\(∀s,s<nt->dC E E2 (J (s,[])) (J (s,[])))/\
  (∀a b:Nat×aC,(∀q,Jc nt nf n M (a.1,a.2++q)=(b.1,b.2++q))->dC lm E2 (J a) (J b))/\((∀s,¬roots s)->GK lm E2):=by
 intro E2;have ok:=r.ok
 have hH:∀id,E.G id->lm.H.b id=E.H.b id\/E.H.b id=ae:=λid h=>by
  cases hb:E.H.b id with
  |none=>exact .inr rfl
  |some k=>
   obtain⟨k',e1,e2⟩:=(hs.g id (.inl h)).2 k hb;rw[e2]at e1;exact .inl e1
 have zP:∀id a,lm.ow id=J a->¬(((E.callee nt nf l roots).ow id).isNone&&decide (id<E.H.n))=Z:=λid a h hc=>by
  simp only[bK,Option.isNone_iff_eq_none,eO]at hc;have:=(hs.own id hc.2 hc.1).1;rw[this]at h;cases h
 have hold:∀id,id<E.H.n->(∀p,E.ow id≠J (nt,p))->E2.ow id=E.ow id/\lm.ow id=ae/\lm.H.b id=E.H.b id/\(lm.G id->(E.callee nt nf l roots).G id):=λid h1 h2=>by
  have hn:(E.callee nt nf l roots).ow id=ae:=by
   simp only[Env.callee];cases ho:E.ow id with
   |none=>rfl
   |some x=>
    obtain⟨s,p⟩:=x;have:s≠nt:=λe=>h2 p (by rw[ho,e])
    simp[MT,this]
  obtain⟨a,b,cc⟩:=hs.own id h1 hn;refine⟨?_,a,b,cc⟩;simp only[E2,Env.back,hn];rw[aD (by simp[h1])]
 refine⟨⟨ok'.wf,λid b9=>?_⟩,⟨hs.n,λid hG=>⟨.inl hG,λk hk=>?_⟩,λid h1 h2=>?_⟩,λs mW id p h1 h2=>?_,λa b oa id q h1 h2=>?_,λqP id hG=>?_⟩
 ·obtain⟨h1,h2⟩:=ok'.fresh id b9;have hge:E.H.n<=id:=gD hs.n b9;refine⟨?_,?_⟩
  ·simp only[E2,Env.back];rw[aB (by simp;intro _;omega),h1];rfl
  ·rintro(h3|⟨h3,_⟩)
   ·exact(ok.fresh id hge).2 h3
   ·exact h2 h3
 ·obtain⟨k',e1,e2⟩:=(hs.g id (.inl hG)).2 k hk;exact⟨k',e1,e2⟩
 ·obtain⟨a,b,cc,d⟩:=hold id h1 (λp h=>by rw[h2]at h;cases h);refine⟨a.trans h2,cc,?_⟩;rintro(h3|⟨h3,h4⟩)
  ·exact h3
  ·exact absurd (d h3) h4
 ·have h1:E.ow id=J (s,p):=by simpa using h1
  have hlt:=ok.lt h1;obtain⟨a,b,cc,d⟩:=hold id hlt (λp' h=>by rw[h1,aT,cg]at h;omega);refine⟨by simpa using a.trans h1,?_,cc⟩;rintro(h3|⟨h3,h4⟩)
  ·exact h2 h3
  ·exact h4 (d h3)
 ·refine⟨?_,?_,rfl⟩
  ·simp only[E2,Env.back];rw[aB (zP id _ h1),h1];simp[oa]
  ·rintro(h3|⟨h3,_⟩)
   ·exact h2 (hs.g id (.inl h3)).1
   ·exact h2 h3
 ·refine⟨?_,λk hk=>⟨k,hk,rfl⟩⟩;by_cases h:(E.callee nt nf l roots).G id
  ·rcases h with h|⟨s,p,_,h⟩
   ·exact .inl h
   ·exact absurd h (qP s)
  ·exact .inr ⟨hG,h⟩
def zuG(r:av nt pin E0 E pf fr){a:Md×Nat×Operand}{y:PV}{k:Nat}{pf':ah}(hy:PR E (J (nt,[(0,k)])) y v)(hv:∀t,a.2.2=.tmp t->fr t=.v v)(h:xP nt pf a y=J pf'):
 ∃E',E'.H=E.H/\av nt pin E0 E' pf' fr/\(∀k' z w,k'≠k->PR E (J (nt,[(0,k')])) z w->PR E' (J (nt,[(0,k')])) z w):=by
 have key:∀{s:Nat}{p:aC},s<nt->Wk E fr s p v->rP pf s p y=J pf'->∃E',E'.H=E.H/\av nt pin E0 E' pf' fr/\(∀k' z w,k'≠k->PR E (J (nt,[(0,k')])) z w->PR E' (J (nt,[(0,k')])) z w):=by
  intro s p hs hw hj;obtain⟨b7,hj,q2⟩:=RP r hj;refine⟨E.rl (fq (nt,[(0,k)]) (s,p)),rfl,?_,λk' z w hk hz=>hz.move dU (jh λq=>?_)⟩
  ·refine q2 dU ?_;refine r.setAt hs hw hj rfl oi dU (λt ht _=>jh λq=>lq (by show t≠nt;omega)) r.ok.rl.fresh (λid q h1 h2 _=>⟨?_,h2⟩) (hy.move dU (lF λq=>zgu _ _ q));have:fq (nt,[(0,k)]) (s,p) (s,q)=ae:=lq (by show s≠nt;omega);simp[Env.rl,h1,this]
  ·simp[fq,Ne.symm hk]
 obtain⟨md,e,x⟩:=a;cases md with
 |io=>
  cases x with
  |tmp t=>
   simp only[xP]at h;have ot:=hv t rfl;have hf:=r.f t;unfold HD at h;split at h
   ·rename_i s p aF;rw[aF]at hf;obtain⟨w,g1,g2⟩:=hf;rw[ot]at g1;cases g1;exact key (r.rt t s (by rw[aF];rfl)) g2 h
   ·split at h
    ·rename_i ht;exact key (p:=[]) ht (.inl ⟨v,ot,rfl⟩) h
    ·cases h
  |_=>simp only[xP,aT]at h;subst h;exact⟨E,rfl,r,λ_ _ _ _ h=>h⟩
 |_=>simp only[xP,aT]at h;subst h;exact⟨E,rfl,r,λ_ _ _ _ h=>h⟩
def zuz:∀{l:List (Md×Nat×Operand)}{outs:List PV}{vs:List Value}{k0:Nat}{E:Env}{pf pf':ah},av nt pin E0 E pf fr->l.length<=outs.length->vs.length=l.length->
 (∀(k:Nat) (y:PV) (v:Value),outs[k]? =J y->vs[k]? =J v->PR E (J (nt,[(0,k0+k)])) y v)->(∀(k:Nat) (a:Md×Nat×Operand) (t:Nat) (v:Value),l[k]? =J a->a.2.2=.tmp t->vs[k]? =J v->fr t=.v v)->
 back nt pf l outs=J pf'->∀{z:PV}{w:Value}{kz:Nat},(∀k,k<l.length->kz≠k0+k)->PR E (J (nt,[(0,kz)])) z w->
 ∃E',E'.H=E.H/\av nt pin E0 E' pf' fr/\PR E' (J (nt,[(0,kz)])) z w:=by
 intro l;induction l with
 |nil=>
  intro outs vs k0 E pf pf' r _ _ _ _ h z w kz _ hz;simp only[back,aT]at h;subst h;exact⟨E,rfl,r,hz⟩
 |cons a l ih=>
  intro outs vs k0 E pf pf' r h1 h2 h3 h4 h z w kz hk hz;cases outs with
  |nil=>simp at h1
  |cons y ys=>
   cases vs with
   |nil=>simp at h2
   |cons v vs=>
    simp only[back,bW]at h;obtain⟨aR,b1,b2⟩:=h;obtain⟨E1,e1,r1,p1⟩:=zuG r (k:=k0) (by simpa using h3 0 y v rfl rfl) (λt ht=>h4 0 a t v rfl ht rfl) b1
    have:=ih (k0:=k0+1) r1 (by simpa using h1) (by simpa using h2) (λk y' v' a1 a2=>p1 _ _ _ (by omega) (by
     have:=h3 (k+1) y' v' (by simpa using a1) (by simpa using a2)
     rwa [show k0+(k+1)=k0+1+k by omega]at this)) (λk a' t v' a1 a2 a3=>h4 (k+1) a' t v' (by simpa using a1) a2 (by simpa using a3)) b2 (z:=z) (w:=w) (kz:=kz)
     (λk hk'=>by have:=hk (k+1) (by simp;omega);omega) (p1 _ _ _ (by have:=hk 0 (by simp);omega) hz)
    obtain⟨E2,e2,r2,p2⟩:=this;exact⟨E2,e2.trans e1,r2,p2⟩
def zyw(r:av nt pin E0 E pf fr){g:FuncId}{xs us:List PV}(h:pU pf f=J (g,xs,us)):∃ys vs,be fr f=J (.func (.func g) ys vs)/\xs.length=ys.toList.length/\us.length=vs.toList.length/\
 (∀(i:Nat) (x:PV) (y:Value),xs[i]? =J x->ys.toList[i]? =J y->PR E ae x y)/\(∀(i:Nat) (x:PV) (y:Value),us[i]? =J x->vs.toList[i]? =J y->PR E ae x y):=by
 cases f with
 |func g'=>
  simp only[pU,aT,cg]at h;obtain⟨rfl,rfl,rfl⟩:=h;exact⟨#[],#[],rfl,rfl,rfl,λi x y h=>by simp at h,λi x y h=>by simp at h⟩
 |tmp t=>
  simp only[pU]at h;unfold P7 at h;split at h
  ·rename_i g' xh us' aF;simp only[aT,cg]at h;obtain⟨rfl,rfl,rfl⟩:=h;have hf:=r.f t;rw[aF]at hf;obtain⟨v,g1,g2⟩:=gA hf (by simp);cases g2 with
   |func fn hl kl h1 h2=>exact⟨_,_,by simp only[be,g1],hl,kl,h1,h2⟩
  ·cases h
 |_=>simp[pU]at h
def zx6:∀{l:List (Md×Nat×Operand)}{ys:List PV}{as:List (Md×PV)},eT pf l ys=J as->as.length=l.length/\ys.length=l.length/\
 ∀(k:Nat) (b:Md×PV),as[k]? =J b->∃a y,l[k]? =J a/\ys[k]? =J y/\yU pf a y=J b:=by
 intro l;induction l with
 |nil=>
  intro ys as h;cases ys with
  |nil=>simp only[eT,aT]at h;subst h;exact⟨rfl,rfl,λk b h=>by simp at h⟩
  |cons y ys=>simp[eT]at h
 |cons a l ih=>
  intro ys as h;cases ys with
  |nil=>simp[eT]at h
  |cons y ys=>
   simp only[eT,bW,bP]at h;obtain⟨b,h1,bs,h2,rfl⟩:=h;obtain⟨l1,l2,h3⟩:=ih h2;refine⟨by simp[l1],by simp[l2],λk b' hb=>?_⟩;cases k with
   |zero=>simp at hb;subst hb;exact⟨a,y,rfl,rfl,h1⟩
   |succ k=>simpa using h3 k b' (by simpa using hb)
def zpy:∀{xs:List Operand}{fr ak:FR}{H H':AH}{vs:List Value}{k:Nat}{x:Operand}{v:Value},cr fr H xs=J (vs,ak,H')->xs[k]? =J x->(∀fr H,bg fr H x=J (v,fr,H))->vs[k]? =J v:=by
 intro xs;induction xs with
 |nil=>intro fr ak H H' vs k x v _ h;simp at h
 |cons a xs ih=>
  intro fr ak H H' vs k x v h hx hm;simp only[cr]at h;split at h
  ·rename_i w fr1 H1 h1;split at h
   ·rename_i ws dH h2;cases h;cases k with
    |zero=>simp at hx;subst hx;rw[hm]at h1;cases h1;rfl
    |succ k=>simpa using ih h2 (by simpa using hx) hm
   ·cases h
  ·cases h
def zrC:∀{xs:List Operand}{ts:List TypeId},(iQ P xs ts).map (·.2)=xs:=by
 intro xs;induction xs with
 |nil=>intro ts;rfl
 |cons x xs ih=>intro ts;cases ts<;>simp[iQ,ih]
def zBh{x:Operand}{H H':AH}(hw:mJ H)(h:bg fr H x=J (v,ak,H')):fJ H H'/\mJ H':=by
 cases x with
 |tmp t=>
  simp only[bg]at h;split at h
  ·simp only[aT,cg]at h;obtain⟨_,_,rfl⟩:=h;exact⟨.refl H,hw⟩
  ·simp only[aT,cg]at h;obtain⟨_,_,rfl⟩:=h;refine⟨⟨Et _,λid k hk=>?_⟩,λid k hk=>?_⟩
   ·have:=hw id k hk;simp only[AH.push];rw[aB (by omega)];exact hk
   ·simp only[AH.push]at hk⊢;split at hk
    ·omega
    ·have:=hw id k hk;omega
  ·cases h
 |const k=>simp only[bg,bP,cg]at h;obtain⟨y,h1,rfl,rfl,rfl⟩:=h;exact⟨.refl H,hw⟩
 |func k=>simp only[bg,bP,cg]at h;obtain⟨y,h1,rfl,rfl,rfl⟩:=h;exact⟨.refl H,hw⟩
 |global k=>simp only[bg,bP,cg]at h;obtain⟨y,h1,rfl,rfl,rfl⟩:=h;exact⟨.refl H,hw⟩
def zx2:∀{xs:List Operand}{fr ak:FR}{H H':AH}{vs:List Value},mJ H->cr fr H xs=J (vs,ak,H')->fJ H H'/\mJ H':=by
 intro xs;induction xs with
 |nil=>intro fr ak H H' vs hw h;simp only[cr,aT,cg]at h;obtain⟨_,_,rfl⟩:=h;exact⟨.refl H,hw⟩
 |cons x xs ih=>
  intro fr ak H H' vs hw h;simp only[cr]at h;split at h
  ·rename_i v fr1 H1 h1;split at h
   ·rename_i ws dH h2;cases h;obtain⟨a,b⟩:=zBh hw h1;obtain⟨a',b'⟩:=ih b h2;exact⟨a.trans a',b'⟩
   ·cases h
  ·cases h
def Vn{fr ak:FR}{H H':AH}{vs:List Value}(hw:mJ H)(h:cr fr H xs=J (vs,ak,H')):fJ H H':=(zx2 hw h).1
def zp5(r:av c.nt pin E0 E pf fr)(hp:eG c pin){d:Option Tmp}{xl:List Operand}(hlx:l.map (·.2.2)=xl)
{ys:List PV}{aR:ah}{as:List (Md×PV)}{g:FuncId}{xs us:List PV}(JD:pd pf l=J (ys,aR))(Ke:eT aR l ys=J as)(h:TJ P c d K aR l g xs us as){Q:FR->Array Value->Array Value->Prop}
(hQ:∀E1 fr1,av c.nt pin E0 E1 aR fr1->∃first kv,Q fr1 first kv/\xs.length=first.toList.length/\us.length=kv.toList.length/\
   (∀(i:Nat) (x:PV) (y:Value),xs[i]? =J x->first.toList[i]? =J y->PR E1 ae x y)/\(∀(i:Nat) (x:PV) (y:Value),us[i]? =J x->kv.toList[i]? =J y->PR E1 ae x y))
(hk:∀pf' ak E',K pf'->av c.nt pin E0 E' pf' ak->((∀a,a∈l->a.1=.sh)->fJ E.H E'.H)->K' ak E'.H):
 ∃vs fr1 H1 first kv,cr fr E.H xl=J (vs,fr1,H1)/\Q fr1 first kv/\vs.length=l.length/\qj P g (first.toList++vs++kv.toList) H1 λrv H'=>bC c.nt K' d (.v rv) fr1 H':=by
 obtain⟨vs,fr1,E1,m1,r1,l1,l2,f1,t1,_⟩:=zwm r (fl:=[]) (λk x v h=>by simp at h) JD;simp only[na]at f1;rw[hlx]at m1;obtain⟨first,kv,kL,lf,lc,pf_,pc_⟩:=hQ E1 fr1 r1;obtain⟨la,_,hca⟩:=zx6 Ke;refine⟨vs,fr1,E1.H,first,kv,m1,kL,l1,?_⟩
 let nf:=xs.length
 let n:=nf+l.length+us.length
 let roots:Nat->Prop:=λs=>∃a t,a∈l/\a.1=.sh/\a.2.2=.tmp t/\(dW aR (aR t)).any bN=Z/\s=Ox t (aR t)
 have Um:∀s,roots s->s<c.nt:=by
  rintro s ⟨a,t,_,_,_,h1,rfl⟩;cases ha:bE (aR t)with
  |some s=>simp only[Ox,ha,xG];exact r1.rt t s ha
  |none=>
   simp only[Ox,ha,a1c];exact NO r1 (by intro e;rw[e]at h1;simp[dW,jP,bN]at h1)
 let Ec:=E1.callee c.nt nf l roots
 have okc:ey Ec:=zw5 r1.ok;have qS:GK E1 Ec:=zyd;unfold TJ at h;have a4l:∀(k:Nat) (y:PV) (v:Value),ys[k]? =J y->vs[k]? =J v->PR E1 (J (c.nt,[(0,k)])) y v:=λk y v a b=>f1 k y v (by rw[HL];exact⟨a,b⟩)
 have a3L:∀(k:Nat) (b:Md×PV) (v:Value),as[k]? =J b->vs[k]? =J v->LJ Ec (nf+k) b v:=by
  intro k b v hb hv;obtain⟨a,y,ha,hy,oa⟩:=hca k b hb
  have own:∀m,a.1=m->m≠.sh->b=(m,y)->LJ Ec (nf+k) b v:=by
   intro m hm OG hbm;subst hbm
   have dk:Iq l k=Z:=by
    obtain⟨md,e,x⟩:=a;simp only at hm;subst hm;unfold Iq;rw[ha];cases md<;>first|rfl|exact absurd rfl OG
   have fg:PR Ec (J (nf+k,[])) y v:=(a4l k y v hy hv).move qS λid q h1 h2=>by
    have h1:E1.ow id=J (c.nt,(0,k)::q):=by simpa using h1
    refine⟨by simp[Ec,Env.callee,h1,MT,dk],?_,rfl⟩;rintro(h3|⟨s,p,h3,h4⟩)
    ·exact h2 h3
    ·rw[h1]at h3;cases h3;exact absurd (Um _ h4) (zB _)
   cases m with
   |sh=>exact absurd rfl OG
   |mv=>exact fg
   |io=>exact fg
  obtain⟨md,e,x⟩:=a;cases md with
  |mv=>simp only[yU,aT]at oa;exact own .mv rfl (by simp) oa.symm
  |io=>simp only[yU,aT]at oa;exact own .io rfl (by simp) oa.symm
  |sh=>
   simp only[yU,bP]at oa;obtain⟨z,hz,rfl⟩:=oa;show PR Ec ae z v;unfold JC at hz;obtain⟨y',iL,hz⟩:=bW.1 hz;split at hz
   ·cases hz
   ·rename_i hj;simp only[aT]at hz;subst hz;have hj:=oT (x:=y') (by simpa using hj);have ZZ:cr fr E.H xl=J (vs,fr1,E1.H):=m1;have hax:xl[k]? =J x:=by rw[<-hlx,Ew,ha];rfl
    cases x with
    |tmp t=>
     simp only[xf]at iL;refine zxh r1 iL hj (t1 k _ t v ha rfl hv) qS λho=>λid p h1 h2=>?_
     refine⟨.inr ⟨_,p,h1,⟨_,t,eA ha,rfl,rfl,by rw[iL];simpa using ho,rfl⟩⟩,λk hk=>⟨k,hk,rfl⟩⟩
    |const kk=>
     simp only[xf]at iL;split at iL
     ·rename_i hc;simp only[aT]at iL;subst iL
      have:v=kk:=by
       have:=zpy (v:=kk) ZZ hax (λfr H=>by simp[bg,be,hc]);rw[hv]at this;exact zC this
      subst this;exact(H3 (E:=Ec) hc ae).freeze (GK.refl _) True.intro
     ·cases iL
    |func ff=>
     simp only[xf,aT]at iL;subst iL
     have:v=.func (.func ff) #[] #[]:=by
      have:=zpy (v:=.func (.func ff) #[] #[]) ZZ hax (λfr H=>by simp[bg,be]);rw[hv]at this;exact zC this
     subst this;simp only[drop];exact .func _ rfl rfl (λi x y h=>by simp at h) (λi x y h=>by simp at h)
    |global gg=>simp[xf]at iL
 have hlen:(xs.map (λx=>((Md.sh,x):Md×PV))++as++us.map (λx=>(Md.sh,x))).length=n:=by rw[bT,bT,HJ,HJ,la]
 have GX:(first.toList++vs++kv.toList).length=n:=by rw[bT,bT,<-lf,<-lc,l1]
 have qp:∀(k:Nat) (a:Md×PV) (v:Value),(xs.map (λx=>((Md.sh,x):Md×PV))++as++us.map (λx=>(Md.sh,x)))[k]? =J a->(first.toList++vs++kv.toList)[k]? =J v->LJ Ec k a v:=by
  intro k a v ha hv;have q1:(xs.map λx=>((Md.sh,x):Md×PV)).length=nf:=by rw[HJ]
  have q2:first.toList.length=nf:=lf.symm
  have q3:(xs.map (λx=>((Md.sh,x):Md×PV))++as).length=nf+l.length:=by rw[bT,q1,la]
  have q4:(first.toList++vs).length=nf+l.length:=by rw[bT,q2,l1]
  by_cases h1:k<nf
  ·rw[fM (by rw[q3];omega),fM (by rw[q1];exact h1)]at ha;rw[fM (by rw[q4];omega),fM (by rw[q2];exact h1)]at hv;obtain⟨x,hx,rfl⟩:=mC ha;exact(pf_ k x v hx hv).mono qS
  ·by_cases h2:k<nf+l.length
   ·rw[fM (by rw[q3];exact h2),gj (by rw[q1];exact V5 h1),q1]at ha;rw[fM (by rw[q4];exact h2),gj (by rw[q2];exact V5 h1),q2]at hv;have:=a3L (k-nf) a v ha hv
    rwa [show nf+(k-nf)=k by omega]at this
   ·rw[gj (by rw[q3];exact V5 h2),q3]at ha;rw[gj (by rw[q4];exact V5 h2),q4]at hv;obtain⟨x,hx,rfl⟩:=mC ha;exact(pc_ _ x v hx hv).mono qS
 have Lf:=h.2 Ec (first.toList++vs++kv.toList) okc (by rw[hlen,GX]) qp;refine Lf.mono λrv H' ⟨rr,outs,lm,⟨zi,PM⟩,eH,post⟩=>?_
 subst eH;rw[hlen]at post;obtain⟨b1,b2,b3,b4,b5⟩:=zw3 (n:=n) (M:=l.length) r1 Um post.ok post.since;have r2:=r1.env b1 b2 b3
 have qN:∀(a b:Nat×aC) (x:PV) (v:Value),(x=rr\/x∈outs)->PR lm (J a) x v->(∀q,Jc c.nt nf n l.length (a.1,a.2++q)=(b.1,b.2++q))->PR (E1.back Ec lm c.nt nf n l.length) (J b) x v:=by
  intro a b x v hx fg hq;rcases zi with qP|gX
  ·refine fg.move (b5 ?_) (b4 a b hq);rintro s ⟨a',t,h1,h2,h3,h4,_⟩;have:=L2.1 qP a' h1;obtain⟨md,e,x'⟩:=a';simp only at h2 h3;subst h2;subst h3;exact this (by simpa[rX]using h4)
  ·simp only[bK,bm]at gX;rcases hx with rfl|hx
   ·exact fg.a06 gX.1 (b4 a b hq)
   ·exact fg.a06 (gX.2 x hx) (b4 a b hq)
 have FD:=qN (n,[]) (c.nt,[(0,l.length)]) rr rv (.inl rfl) post.r λq=>by simp[Jc]
 have a2a:∀(k:Nat) (y:PV) (v:Value),(outs.drop nf)[k]? =J y->vs[k]? =J v->PR (E1.back Ec lm c.nt nf n l.length) (J (c.nt,[(0,0+k)])) y v:=by
  intro k y v hy hv;rw[jw]at hy;have MY:k<l.length:=by have:=(cY.1 hv).1;omega
  have hV:(first.toList++vs++kv.toList)[nf+k]? =J v:=by
   rw[fM (by rw[bT,<-lf,l1];exact Nat.add_lt_add_left MY _),gj (by rw[<-lf];exact Nat.le_add_right _ _),<-lf];rw[show nf+k-xs.length=k by simp only[nf];omega];exact hv
  refine qN (nf+k,[]) (c.nt,[(0,0+k)]) y v (.inr (eA hy)) (post.o _ y v hy hV) λq=>?_
  have hne:nf+k≠n:=by simp only[n];omega
  simp only[Jc];rw[aB hne];simp
 unfold Lr at PM;split at PM
 ·rename_i b7 a2G;have hol:l.length<=(outs.drop nf).length:=by rw[Qm,post.len];simp only[n];omega
  obtain⟨E3,e3,r3,p3⟩:=zuz r2 hol l1 a2a t1 a2G (z:=rr) (w:=rv) (kz:=l.length) (λk hk'=>by omega) FD;have r4:av c.nt pin E0 (E3.rl (fq (c.nt,[(0,l.length)]) (c.nt,[(0,0)]))) b7 fr1:=r3.env r3.ok.rl oi λs hs=>jh λq=>lq (by show s≠c.nt;omega)
  have a4m:(∀a,a∈l->a.1=.sh)->fJ E.H lm.H:=by
   intro hsh;refine(Vn r.wf m1).trans ⟨post.since.n,λid k hb=>?_⟩
   have qP:∀k,Iq l k=aa:=by
    intro k;unfold Iq;cases hlk:l[k]? with
    |none=>rfl
    |some a=>
     obtain⟨md,y⟩:=a;rw[show md=.sh from hsh _ (eA hlk)]
   have how:Ec.ow id=ae:=by
    simp only[Ec,Env.callee];cases ho':E1.ow id with
    |none=>rfl
    |some x=>
     simp only[aS,MT];split
     ·split
      ·rw[aB (by simp[qP])]
      ·rfl
     ·rfl
   have:=(post.since.own id (r1.wf id k hb) how).2.1;rw[this];exact hb
  have:=ZO (K':=K') r4 hp (p3.move dU (lF λq=>zgu _ _ q)) PM (λpf' ak E' a b e=>hk pf' ak E' a b λhs=>by
   have e2:E'.H=lm.H:=e.trans e3
   rw[e2];exact a4m hs)
  rw[show(E3.rl (fq (c.nt,[(0,l.length)]) (c.nt,[(0,0)]))).H=E3.H from rfl,e3]at this;exact this
 ·cases PM
def zyE{ts:List TypeId}:(iQ P xs ts).length=xs.length:=by
 have:=gF List.length (zrC (P:=P) (xs:=xs) (ts:=ts));simpa using this
def zvn{ms:List Md}{ts:List TypeId}(h:ms.length=xs.length):(ms.zip (iQ P xs ts)).map (·.2.2)=xs:=by
 have e:(ms.zip (iQ P xs ts)).map (·.2.2)=((ms.zip (iQ P xs ts)).map Prod.snd).map (·.2):=by rw[tf];rfl
 rw[e,List.map_snd_zip (by rw[zyE];omega)];exact zrC
def znc(r:av c.nt pin E0 E pf fr)(hp:eG c pin)(ho:o.op=.call ⟨.value f,args,ts⟩)
{ms:List Md}(h:HZ P c f args.toList ts.toList o.dst K pf ms)(hk:∀pf' ak E',K pf'->av c.nt pin E0 E' pf' ak->((∀m,m∈ms->m=.sh)->fJ E.H E'.H)->K' ak E'.H):aP P c.nt o K' fr E.H:=by
 obtain⟨kR,h⟩:=h;unfold UB at h;split at h
 ·rename_i ys aR JD;unfold Aj at h;split at h
  ·rename_i g xs us as Lj Ke
   obtain⟨vs,fr1,H1,first,kv,m1,kL,_,hc⟩:=zp5 (K':=K') r hp (zvn kR) JD Ke h (Q:=λfr1 a b=>be fr1 f=J (.func (.func g) a b)) (λE1 fr1 r1=>zyw r1 Lj) (λpf' ak E' a b e=>hk pf' ak E' a b λhs=>e λx hx=>by
    obtain⟨md,y⟩:=x
    exact hs md (List.of_mem_zip hx).1)
   unfold aP;rw[ho];simp only[m1,kL];exact hc
  ·cases h
 ·cases h
def zxS:∀{xs:List Operand}{fr ak:FR}{H H':AH}{vs:List Value},cr fr H xs=J (vs,ak,H')->∀s u,fr s=.v u->ak s=.v u:=by
 intro xs;induction xs with
 |nil=>intro fr ak H H' vs h;simp only[cr,aT,cg]at h;obtain⟨_,rfl,_⟩:=h;exact λs u h=>h
 |cons x xs ih=>
  intro fr ak H H' vs h;simp only[cr]at h;split at h
  ·rename_i v fr1 H1 h1;split at h
   ·rename_i ws dH h2;cases h;exact λs u hs=>ih h2 s u ((ztZ h1).2 s u hs)
   ·cases h
  ·cases h
def zyn:∀{xs:List Operand}{x:Operand}{fr ak:FR}{H H':AH}{vs:List Value},cr fr H (xs++[x])=J (vs,ak,H')->∃ws w fr1 H1,cr fr H xs=J (ws,fr1,H1)/\bg fr1 H1 x=J (w,ak,H')/\vs=ws++[w]:=by
 intro xs;induction xs with
 |nil=>
  intro x fr ak H H' vs h;simp only[na,cr]at h;split at h
  ·rename_i v fr1 H1 h1;cases h;exact⟨[],v,fr,H,rfl,h1,rfl⟩
  ·cases h
 |cons a xs ih=>
  intro x fr ak H H' vs h;simp only[uJ,cr]at h;split at h
  ·rename_i v fr1 H1 h1;split at h
   ·rename_i ws dH h2;cases h;obtain⟨us,u,dN,H2,g1,g2,rfl⟩:=ih h2;exact⟨v::us,u,dN,H2,by simp[cr,h1,g1],g2,rfl⟩
   ·cases h
  ·cases h
def zrg(r:av nt pin E0 E pf fr){x:Nat×FuncId×List PV}(h:uZ pf f=J x):∃(v:Value) (vs:List Value),be fr f=J (.func (.func x.2.1) #[] (v::vs).toArray)/\fr x.1=.v v/\x.2.2.length=vs.length/\
 ∀(i:Nat) (y:PV) (w:Value),x.2.2[i]? =J y->vs[i]? =J w->PR E ae y w:=by
 cases f with
 |tmp t=>
  simp only[uZ]at h;unfold MR at h;split at h
  ·rename_i s g us aF;cases h;have hf:=r.f t;rw[aF]at hf;obtain⟨v,vs,h1,h2,h3,h4⟩:=hf;exact⟨v,vs,by simp only[be,h1],Hn h2,h3,h4⟩
  ·cases h
 |_=>simp[uZ]at h
def ztE(r:av c.nt pin E0 E pf fr)(hp:eG c pin)(ho:o.op=.call ⟨.value f,args,ts⟩)
(h:zyH P c f args.toList ts.toList o.dst K pf)(hk:∀pf' ak E',K pf'->av c.nt pin E0 E' pf' ak->K' ak E'.H):aP P c.nt o K' fr E.H:=by
 obtain⟨ms,x,hx,kR,h⟩:=h;obtain⟨v0,_,_,mc,_⟩:=zrg r hx;unfold IQ at h;split at h
 ·rename_i ys aR JD;obtain⟨hx1,h⟩:=h;unfold Aj at h;split at h
  ·rename_i g xs us as Lj Ke;cases Lj
   obtain⟨vs,fr1,H1,first,kv,m1,⟨rfl,v,kL,j6⟩,_,hc⟩:=zp5 (K':=K') r hp (xl:=args.toList++[.tmp x.1]) (by rw[mz,zvn kR];rfl) JD Ke h
    (Q:=λfr1 a b=>a= #[]/\∃v,be fr1 f=J (.func (.func x.2.1) #[] (v::b.toList).toArray)/\fr1 x.1=.v v) (λE1 fr1 r1=>by
      obtain⟨v,vs,h1,h2,h3,h4⟩:=zrg r1 hx1
      exact⟨#[],vs.toArray,⟨rfl,v,by simpa using h1,h2⟩,rfl,by simpa using h3,λi x y h=>by simp at h,by simpa using h4⟩) (λpf' ak E' a b _=>hk pf' ak E' a b)
   obtain⟨ws,w,dN,H2,g1,g2,rfl⟩:=zyn m1;have f9:=zxS g1 _ _ mc;simp only[bg,f9,aT,cg]at g2;obtain⟨rfl,rfl,rfl⟩:=g2;have hv:v0=v:=by rw[f9]at j6;cases j6;rfl
   subst hv;unfold aP;rw[ho];simp only[g1,kL];simpa using hc
  ·cases h
 ·cases h
def zuf(r:av c.nt pin E0 E pf fr)(hp:eG c pin)(ho:o.op=.call ⟨.value f,args,ts⟩)
(h:W5 P c f args.toList o.dst K pf)(hk:∀pf' ak E',K pf'->av c.nt pin E0 E' pf' ak->K' ak E'.H):aP P c.nt o K' fr E.H:=by
 obtain⟨g,x,t,n,z,rfl,ha,hg,hn,hz,⟨h0,h1,h2⟩,h8⟩:=h;obtain⟨e,gb,es,cG,zc,he,ht,h5,h6,h7,rfl⟩:=D3 hz;have hc:be fr (.const (.slice ae 0 0))=J (.slice ae 0 0):=by simp[be,cz]
 have hm:cr fr E.H args.toList=J ([.slice ae 0 0,.int .i64 n],fr,E.H):=by
  rw[ha];simp[cr,O8 (H:=E.H) hc,O8 (H:=E.H) (qk r hn)]
 unfold aP;rw[ho];simp only[hm,be,na,rR];refine(hg n E.H e gb es cG zc he ht h0 h1 h2 h5 h6 h7).mono λv H' hv=>?_
 rcases hv with⟨rfl,rfl,rfl⟩|⟨rn,rfl,rfl⟩
 ·exact g8 r hp (.sl0 _ _) h8 hk
 ·have ok:=r.ok;have rN:∀e,e∈List.replicate n.toNat zc->e.length=es:=λe he=>by rw[(nN.1 he).2];exact h5
  have fg:PR (E.push ⟨Z,(List.replicate n.toNat zc).flatten⟩ (c.nt,[(0,0)]) λ_=>ae) (J (c.nt,[(0,0)])) (.sl Z es []) (.slice (J ⟨E.H.n,0,J es⟩) 0 n.toNat):=by
   refine .fK zhD ok.xR xV rfl (by simp) (by omega) (by unfold kK;omega) (λrw hr=>by simp at hr) ⟨⟨h6,rfl⟩,?_⟩ λi rw j x y g1 g2 g3=>by simp at g1
   rw[EB rN];simp
  have:=g8 (K':=K') (r.env ok.push ok.wM λs _=>ok.nL λ_=>rfl) hp fg h8 hk;exact this
def zuv(r:av c.nt pin E0 E pf fr)(hp:eG c pin)(ho:o.op=.call ⟨.value f,args,ts⟩)
(h:X8 P c f args.toList ts.toList o.dst K pf)(hk:∀pf' ak E',K pf'->av c.nt pin E0 E' pf' ak->K' ak E'.H):aP P c.nt o K' fr E.H:=by
 rcases h with⟨ms,h⟩|h|h
 ·exact znc r hp ho h λpf' ak E' a b _=>hk pf' ak E' a b
 ·exact zuf r hp ho h hk
 ·exact ztE r hp ho h hk
end
end Go.Pm
