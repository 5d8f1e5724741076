import Derived.Test.YtplemekcclpaoaaGreatDoorPmO
namespace Go.Pm
set_option linter.unusedVariables false
set_option linter.unusedSimpArgs false
open Go.Am
section
variable {nt:Nat}{pin:List (Nat×Value)}{E0 E E':Env}{pf:PFr}{fr fr':FR}{c:Cfg}{P:Program}
def zqW(t:Nat)(y:PF):Nat:=(zam y).getD t
def FzR(E E':Env)(s:Nat):Prop:=∀id p,E.ow id=some (s,p)→¬E.G id→E'.G id∧∀k,E.H.b id=some k→∃k',E'.H.b id=some k'∧k'=k
variable{K:PFr→Prop}{K':FR→AH→Prop}{args:Array Operand}{f:Operand}{l:List (Md×Nat×Operand)}{nf:Nat}{o:Oper}{roots:Nat→Prop}{ts:Array TypeId}{v:Value}{xs:List Operand}
theorem FzR.ok{s:Nat}{p:zad}(h:FzR E E' s):FzOK E E' (some (s,p)):=fun id r h1 h2=>by
 obtain⟨a,b⟩:=h id (p++r) h1 h2;exact⟨a,fun k hk=>by obtain⟨k',e1,e2⟩:=b k hk;exact⟨k',e1,by rw[e2]⟩⟩
theorem PR.fzh{l:Nat×zad}{x:PV}(h:PR E (some l) x v)(hg:GK E E')(hf:zaC x=true→FzOK E E' (some l)):PR E' none (drop x) v:=by
 by_cases ho:zaC x=true
 ·exact h.freeze hg (hf ho)
 ·exact(h.free (by simpa using ho)).freeze hg True.intro
theorem zvV(r:RelP nt pin E0 E pf fr){t:Nat}{y:PV}(hy:za9 pf (pf t)=some y)(hj:y≠.junk)(hv:fr t=.v v)(hg:GK E E')(hf:zaC y=true→FzR E E' (zqW t (pf t))):PR E' none (drop y) v:=by
 have hft:=r.f t;cases hpt:pf t with
 |v x=>
  rw[hpt]at hy hft hf;simp only[za9,Option.some.injEq]at hy;subst hy;obtain⟨w,g1,g2⟩:=zcl hft hj;rw[hv]at g1;cases g1;exact g2.fzh hg fun ho=>(hf ho).ok
 |rf s p=>
  rw[hpt]at hy hft hf;simp only[za9]at hy;obtain⟨w,g1,g2⟩:=hft;rw[hv]at g1;cases g1;obtain⟨v',w1,w2⟩:=r.at hy hj (zbc r g2 hy);have:=w1.same g2;subst this;exact w2.fzh hg fun ho=>(hf ho).ok
 |rv s p lo hi=>
  rw[hpt]at hy hft hf;obtain⟨z,hz,hcut⟩:=Option.bind_eq_some_iff.1 hy;unfold zmU at hcut;split at hcut
  ·rename_i o es rows;split at hcut
   ·rename_i hb;simp only[Option.some.injEq]at hcut;subst hcut;rw[zjk]at hf;rw[ziv,List.map_drop,List.map_take];rcases hft with⟨h1,h2,rfl,rfl⟩|⟨id,off,es2,n,cc,h1,h2,h3,h4⟩
    ·rw[hv]at h2;cases h2;simpa using PR.sl0 (E:=E') (l:=none) false es
    ·rw[hv]at h4;cases h4;obtain⟨v',w1,w2⟩:=r.at hz (by simp) (zbc r h1 hz);have:=w1.same h1;subst this;have ee:=zj3 w2;subst ee;have hd:=w2.fzh hg fun ho=>(hf (by rw[zjk]at ho;exact ho)).ok
     rw[ziv]at hd;obtain⟨_,_,_,e3⟩:=hd.cut h2 h3;exact e3
   ·cases hcut
  ·cases hcut
 |ra s p i j n=>
  rw[hpt]at hy hft hf;obtain⟨row,hrow,hra⟩:=Option.bind_eq_some_iff.1 hy;unfold zi7 at hra;split at hra
  ·rename_i hle;simp only[Option.some.injEq]at hra;subst hra;obtain⟨vs,g1,⟨g2,g3⟩,g4⟩:=hft;rw[hv]at g1;cases g1;rw[zn4];refine .agg (by simp;simp at g2;omega) fun q x w a b=>?_
   obtain⟨x0,hx0,rfl⟩:=zdZ a;have hq:=hx0;rw[List.getElem?_take]at hx0;split at hx0
   ·rw[List.getElem?_drop]at hx0;have hpr:=znW r (s:=s) (p:=p) (i:=i) (q:=j+q) hrow hx0 (g4 q w b);refine hpr.fzh hg fun ho=>(hf ?_).ok
    rw[zhx,List.any_eq_true];exact⟨x0,List.mem_of_getElem? hq,ho⟩
   ·cases hx0
  ·cases hra
 |_=>rw[hpt]at hy;simp[za9]at hy
def zoz(l:List (Md×Nat×Operand))(k:Nat):Bool:=
 match l[k]? with
 |some (.mv,_)|some (.io,_)=>true
 |_=>false
def toC(nt nf:Nat)(l:List (Md×Nat×Operand))(x:Nat×zad):Option (Nat×zad):=
 if x.1=nt then match x.2 with
  |(i,k)::r=>if i=0∧zoz l k=true then some (nf+k,r)else none
  |[]=>none
 else none
def Env.callee(E:Env)(nt nf:Nat)(l:List (Md×Nat×Operand))(roots:Nat→Prop):Env:=
 ⟨E.H,fun id=>E.G id∨∃s p,E.ow id=some (s,p)∧roots s,fun id=>(E.ow id).bind (toC nt nf l)⟩
def zn6(nt nf n M:Nat)(x:Nat×zad):Nat×zad:=if x.1=n then(nt,(0,M)::x.2)else(nt,(0,x.1-nf)::x.2)
def Env.back(E Ec Ec':Env)(nt nf n M:Nat):Env:=
 ⟨Ec'.H,fun id=>E.G id∨(Ec'.G id∧¬Ec.G id),fun id=>if((Ec.ow id).isNone&&decide (id<E.H.n))=true then E.ow id else(Ec'.ow id).map (zn6 nt nf n M)⟩
theorem zwo(ok:EnvOK E) :EnvOK (E.callee nt nf l roots):=⟨ok.wf,fun id hid=>by
 obtain⟨h1,h2⟩:=ok.fresh id hid;refine⟨by simp[Env.callee,h1],?_⟩;rintro(h3|⟨s,p,h3,_⟩)
 ·exact h2 h3
 ·rw[h1]at h3;cases h3⟩
theorem zxd :GK E (E.callee nt nf l roots):=fun _ h=>⟨.inl h,fun k hk=>⟨k,hk,rfl⟩⟩
theorem zvd(r:RelP nt pin E0 E pf fr){n M:Nat}(hroots:∀s,roots s→s<nt){Ec':Env}(ok':EnvOK Ec')(hs:Since (E.callee nt nf l roots) Ec'):
 let E2:=E.back (E.callee nt nf l roots) Ec' nt nf n M
 EnvOK E2∧Since E E2∧(∀s,s<nt→MoveOK E E2 (some (s,[])) (some (s,[])))∧
  (∀a b:Nat×zad,(∀q,zn6 nt nf n M (a.1,a.2++q)=(b.1,b.2++q))→MoveOK Ec' E2 (some a) (some b))∧((∀s,¬roots s)→GK Ec' E2):=by
 intro E2;have ok:=r.ok
 have hH:∀id,E.G id→Ec'.H.b id=E.H.b id∨E.H.b id=none:=fun id h=>by
  cases hb:E.H.b id with
  |none=>exact .inr rfl
  |some k=>
   obtain⟨k',e1,e2⟩:=(hs.g id (.inl h)).2 k hb;rw[e2]at e1;exact .inl e1
 have hnew:∀id a,Ec'.ow id=some a→¬(((E.callee nt nf l roots).ow id).isNone&&decide (id<E.H.n))=true:=fun id a h hc=>by
  simp only[Bool.and_eq_true,Option.isNone_iff_eq_none,decide_eq_true_eq]at hc;have:=(hs.own id hc.2 hc.1).1;rw[this]at h;cases h
 have hold:∀id,id<E.H.n→(∀p,E.ow id≠some (nt,p))→E2.ow id=E.ow id∧Ec'.ow id=none∧Ec'.H.b id=E.H.b id∧(Ec'.G id→(E.callee nt nf l roots).G id):=fun id h1 h2=>by
  have hn:(E.callee nt nf l roots).ow id=none:=by
   simp only[Env.callee];cases ho:E.ow id with
   |none=>rfl
   |some x=>
    obtain⟨s,p⟩:=x;have:s≠nt:=fun e=>h2 p (by rw[ho,e])
    simp[toC,this]
  obtain⟨a,b,cc⟩:=hs.own id h1 hn;refine⟨?_,a,b,cc⟩;simp only[E2,Env.back,hn];rw[if_pos (by simp[h1])]
 refine⟨⟨ok'.wf,fun id hid=>?_⟩,⟨hs.n,fun id hG=>⟨.inl hG,fun k hk=>?_⟩,fun id h1 h2=>?_⟩,fun s hs' id p h1 h2=>?_,fun a b hab id q h1 h2=>?_,fun hno id hG=>?_⟩
 ·obtain⟨h1,h2⟩:=ok'.fresh id hid;have hge:E.H.n≤id:=Nat.le_trans hs.n hid;refine⟨?_,?_⟩
  ·simp only[E2,Env.back];rw[if_neg (by simp;intro _;omega),h1];rfl
  ·rintro(h3|⟨h3,_⟩)
   ·exact(ok.fresh id hge).2 h3
   ·exact h2 h3
 ·obtain⟨k',e1,e2⟩:=(hs.g id (.inl hG)).2 k hk;exact⟨k',e1,e2⟩
 ·obtain⟨a,b,cc,d⟩:=hold id h1 (fun p h=>by rw[h2]at h;cases h);refine⟨a.trans h2,cc,?_⟩;rintro(h3|⟨h3,h4⟩)
  ·exact h3
  ·exact absurd (d h3) h4
 ·have h1:E.ow id=some (s,p):=by simpa using h1
  have hlt:=ok.lt h1;obtain⟨a,b,cc,d⟩:=hold id hlt (fun p' h=>by rw[h1,Option.some.injEq,Prod.mk.injEq]at h;omega);refine⟨by simpa using a.trans h1,?_,cc⟩;rintro(h3|⟨h3,h4⟩)
  ·exact h2 h3
  ·exact h4 (d h3)
 ·refine⟨?_,?_,rfl⟩
  ·simp only[E2,Env.back];rw[if_neg (hnew id _ h1),h1];simp[hab]
  ·rintro(h3|⟨h3,_⟩)
   ·exact h2 (hs.g id (.inl h3)).1
   ·exact h2 h3
 ·refine⟨?_,fun k hk=>⟨k,hk,rfl⟩⟩;by_cases h:(E.callee nt nf l roots).G id
  ·rcases h with h|⟨s,p,_,h⟩
   ·exact .inl h
   ·exact absurd h (hno s)
  ·exact .inr ⟨hG,h⟩
theorem ztf(r:RelP nt pin E0 E pf fr){a:Md×Nat×Operand}{y:PV}{k:Nat}{pf':PFr}(hy:PR E (some (nt,[(0,k)])) y v)(hv:∀t,a.2.2=.tmp t→fr t=.v v)(h:zjf nt pf a y=some pf'):
 ∃E',E'.H=E.H∧RelP nt pin E0 E' pf' fr∧(∀k' z w,k'≠k→PR E (some (nt,[(0,k')])) z w→PR E' (some (nt,[(0,k')])) z w):=by
 have key:∀{s:Nat}{p:zad},s<nt→Wk E fr s p v→zfK pf s p y=some pf'→∃E',E'.H=E.H∧RelP nt pin E0 E' pf' fr∧(∀k' z w,k'≠k→PR E (some (nt,[(0,k')])) z w→PR E' (some (nt,[(0,k')])) z w):=by
  intro s p hs hw hj;obtain⟨pf2,hj,q2⟩:=zkg r hj;refine⟨E.rl (rlW (nt,[(0,k)]) (s,p)),rfl,?_,fun k' z w hk hz=>hz.move zba (zbN fun q=>?_)⟩
  ·refine q2 zba ?_;refine r.setAt hs hw hj rfl zcM zba (fun t ht _=>zbN fun q=>zdq (by show t≠nt;omega)) r.ok.rl.fresh (fun id q h1 h2 _=>⟨?_,h2⟩) (hy.move zba (zcJ fun q=>zfq _ _ q));have:rlW (nt,[(0,k)]) (s,p) (s,q)=none:=zdq (by show s≠nt;omega);simp[Env.rl,h1,this]
  ·simp[rlW,Ne.symm hk]
 obtain⟨md,e,x⟩:=a;cases md with
 |io=>
  cases x with
  |tmp t=>
   simp only[zjf]at h;have hft:=hv t rfl;have hf:=r.f t;unfold zmY at h;split at h
   ·rename_i s p hpt;rw[hpt]at hf;obtain⟨w,g1,g2⟩:=hf;rw[hft]at g1;cases g1;exact key (r.rt t s (by rw[hpt];rfl)) g2 h
   ·split at h
    ·rename_i ht;exact key (p:=[]) ht (.inl ⟨v,hft,rfl⟩) h
    ·cases h
  |_=>simp only[zjf,Option.some.injEq]at h;subst h;exact⟨E,rfl,r,fun _ _ _ _ h=>h⟩
 |_=>simp only[zjf,Option.some.injEq]at h;subst h;exact⟨E,rfl,r,fun _ _ _ _ h=>h⟩
theorem zsQ:∀{l:List (Md×Nat×Operand)}{outs:List PV}{vs:List Value}{k0:Nat}{E:Env}{pf pf':PFr},RelP nt pin E0 E pf fr→l.length≤outs.length→vs.length=l.length→
 (∀(k:Nat) (y:PV) (v:Value),outs[k]? =some y→vs[k]? =some v→PR E (some (nt,[(0,k0+k)])) y v)→(∀(k:Nat) (a:Md×Nat×Operand) (t:Nat) (v:Value),l[k]? =some a→a.2.2=.tmp t→vs[k]? =some v→fr t=.v v)→
 back nt pf l outs=some pf'→∀{z:PV}{w:Value}{kz:Nat},(∀k,k<l.length→kz≠k0+k)→PR E (some (nt,[(0,kz)])) z w→
 ∃E',E'.H=E.H∧RelP nt pin E0 E' pf' fr∧PR E' (some (nt,[(0,kz)])) z w:=by
 intro l;induction l with
 |nil=>
  intro outs vs k0 E pf pf' r _ _ _ _ h z w kz _ hz;simp only[back,Option.some.injEq]at h;subst h;exact⟨E,rfl,r,hz⟩
 |cons a l ih=>
  intro outs vs k0 E pf pf' r h1 h2 h3 h4 h z w kz hk hz;cases outs with
  |nil=>simp at h1
  |cons y ys=>
   cases vs with
   |nil=>simp at h2
   |cons v vs=>
    simp only[back,Option.bind_eq_some_iff]at h;obtain⟨pf1,b1,b2⟩:=h;obtain⟨E1,e1,r1,p1⟩:=ztf r (k:=k0) (by simpa using h3 0 y v rfl rfl) (fun t ht=>h4 0 a t v rfl ht rfl) b1
    have:=ih (k0:=k0+1) r1 (by simpa using h1) (by simpa using h2) (fun k y' v' a1 a2=>p1 _ _ _ (by omega) (by
     have:=h3 (k+1) y' v' (by simpa using a1) (by simpa using a2)
     rwa [show k0+(k+1)=k0+1+k by omega]at this)) (fun k a' t v' a1 a2 a3=>h4 (k+1) a' t v' (by simpa using a1) a2 (by simpa using a3)) b2 (z:=z) (w:=w) (kz:=kz)
     (fun k hk'=>by have:=hk (k+1) (by simp;omega);omega) (p1 _ _ _ (by have:=hk 0 (by simp);omega) hz)
    obtain⟨E2,e2,r2,p2⟩:=this;exact⟨E2,e2.trans e1,r2,p2⟩
theorem zwV(r:RelP nt pin E0 E pf fr){g:FuncId}{xs us:List PV}(h:fnO pf f=some (g,xs,us)):∃ys vs,rdv fr f=some (.func (.func g) ys vs)∧xs.length=ys.toList.length∧us.length=vs.toList.length∧
 (∀(i:Nat) (x:PV) (y:Value),xs[i]? =some x→ys.toList[i]? =some y→PR E none x y)∧(∀(i:Nat) (x:PV) (y:Value),us[i]? =some x→vs.toList[i]? =some y→PR E none x y):=by
 cases f with
 |func g'=>
  simp only[fnO,Option.some.injEq,Prod.mk.injEq]at h;obtain⟨rfl,rfl,rfl⟩:=h;exact⟨#[],#[],rfl,rfl,rfl,fun i x y h=>by simp at h,fun i x y h=>by simp at h⟩
 |tmp t=>
  simp only[fnO]at h;unfold fnF at h;split at h
  ·rename_i g' xs' us' hpt;simp only[Option.some.injEq,Prod.mk.injEq]at h;obtain⟨rfl,rfl,rfl⟩:=h;have hf:=r.f t;rw[hpt]at hf;obtain⟨v,g1,g2⟩:=zcl hf (by simp);cases g2 with
   |func fn hl kl h1 h2=>exact⟨_,_,by simp only[rdv,g1],hl,kl,h1,h2⟩
  ·cases h
 |_=>simp[fnO]at h
theorem zwO:∀{l:List (Md×Nat×Operand)}{ys:List PV}{as:List (Md×PV)},cargs pf l ys=some as→as.length=l.length∧ys.length=l.length∧
 ∀(k:Nat) (b:Md×PV),as[k]? =some b→∃a y,l[k]? =some a∧ys[k]? =some y∧zln pf a y=some b:=by
 intro l;induction l with
 |nil=>
  intro ys as h;cases ys with
  |nil=>simp only[cargs,Option.some.injEq]at h;subst h;exact⟨rfl,rfl,fun k b h=>by simp at h⟩
  |cons y ys=>simp[cargs]at h
 |cons a l ih=>
  intro ys as h;cases ys with
  |nil=>simp[cargs]at h
  |cons y ys=>
   simp only[cargs,Option.bind_eq_some_iff,Option.map_eq_some_iff]at h;obtain⟨b,h1,bs,h2,rfl⟩:=h;obtain⟨l1,l2,h3⟩:=ih h2;refine⟨by simp[l1],by simp[l2],fun k b' hb=>?_⟩;cases k with
   |zero=>simp at hb;subst hb;exact⟨a,y,rfl,rfl,h1⟩
   |succ k=>simpa using h3 k b' (by simpa using hb)
theorem zon:∀{xs:List Operand}{fr fr':FR}{H H':AH}{vs:List Value}{k:Nat}{x:Operand}{v:Value},zaG fr H xs=some (vs,fr',H')→xs[k]? =some x→(∀fr H,mat fr H x=some (v,fr,H))→vs[k]? =some v:=by
 intro xs;induction xs with
 |nil=>intro fr fr' H H' vs k x v _ h;simp at h
 |cons a xs ih=>
  intro fr fr' H H' vs k x v h hx hm;simp only[zaG]at h;split at h
  ·rename_i w fr1 H1 h1;split at h
   ·rename_i ws rest h2;cases h;cases k with
    |zero=>simp at hx;subst hx;rw[hm]at h1;cases h1;rfl
    |succ k=>simpa using ih h2 (by simpa using hx) hm
   ·cases h
  ·cases h
theorem zqh:∀{xs:List Operand}{ts:List TypeId},(zdt P xs ts).map (·.2)=xs:=by
 intro xs;induction xs with
 |nil=>intro ts;rfl
 |cons x xs ih=>intro ts;cases ts<;>simp[zdt,ih]
theorem zAl{x:Operand}{H H':AH}(hw:WFH H)(h:mat fr H x=some (v,fr',H')):Ext H H'∧WFH H':=by
 cases x with
 |tmp t=>
  simp only[mat]at h;split at h
  ·simp only[Option.some.injEq,Prod.mk.injEq]at h;obtain⟨_,_,rfl⟩:=h;exact⟨.refl H,hw⟩
  ·simp only[Option.some.injEq,Prod.mk.injEq]at h;obtain⟨_,_,rfl⟩:=h;refine⟨⟨Nat.le_succ _,fun id k hk=>?_⟩,fun id k hk=>?_⟩
   ·have:=hw id k hk;simp only[AH.push];rw[if_neg (by omega)];exact hk
   ·simp only[AH.push]at hk⊢;split at hk
    ·omega
    ·have:=hw id k hk;omega
  ·cases h
 |const k=>simp only[mat,Option.map_eq_some_iff,Prod.mk.injEq]at h;obtain⟨y,h1,rfl,rfl,rfl⟩:=h;exact⟨.refl H,hw⟩
 |func k=>simp only[mat,Option.map_eq_some_iff,Prod.mk.injEq]at h;obtain⟨y,h1,rfl,rfl,rfl⟩:=h;exact⟨.refl H,hw⟩
 |global k=>simp only[mat,Option.map_eq_some_iff,Prod.mk.injEq]at h;obtain⟨y,h1,rfl,rfl,rfl⟩:=h;exact⟨.refl H,hw⟩
theorem zvG:∀{xs:List Operand}{fr fr':FR}{H H':AH}{vs:List Value},WFH H→zaG fr H xs=some (vs,fr',H')→Ext H H'∧WFH H':=by
 intro xs;induction xs with
 |nil=>intro fr fr' H H' vs hw h;simp only[zaG,Option.some.injEq,Prod.mk.injEq]at h;obtain⟨_,_,rfl⟩:=h;exact⟨.refl H,hw⟩
 |cons x xs ih=>
  intro fr fr' H H' vs hw h;simp only[zaG]at h;split at h
  ·rename_i v fr1 H1 h1;split at h
   ·rename_i ws rest h2;cases h;obtain⟨a,b⟩:=zAl hw h1;obtain⟨a',b'⟩:=ih b h2;exact⟨a.trans a',b'⟩
   ·cases h
  ·cases h
theorem znQ{fr fr':FR}{H H':AH}{vs:List Value}(hw:WFH H)(h:zaG fr H xs=some (vs,fr',H')):Ext H H':=(zvG hw h).1
theorem zoO(r:RelP c.nt pin E0 E pf fr)(hp:PinOK c pin){d:Option Tmp}{xl:List Operand}(hlx:l.map (·.2.2)=xl)
{ys:List PV}{pf1:PFr}{as:List (Md×PV)}{g:FuncId}{xs us:List PV}(hargl:zic pf l=some (ys,pf1))(hcargs:cargs pf1 l ys=some as)(h:zsk P c d K pf1 l g xs us as){Q:FR→Array Value→Array Value→Prop}
(hQ:∀E1 fr1,RelP c.nt pin E0 E1 pf1 fr1→∃first captured,Q fr1 first captured∧xs.length=first.toList.length∧us.length=captured.toList.length∧
   (∀(i:Nat) (x:PV) (y:Value),xs[i]? =some x→first.toList[i]? =some y→PR E1 none x y)∧(∀(i:Nat) (x:PV) (y:Value),us[i]? =some x→captured.toList[i]? =some y→PR E1 none x y))
(hk:∀pf' fr' E',K pf'→RelP c.nt pin E0 E' pf' fr'→((∀a,a∈l→a.1=.sh)→Ext E.H E'.H)→K' fr' E'.H):
 ∃vs fr1 H1 first captured,zaG fr E.H xl=some (vs,fr1,H1)∧Q fr1 first captured∧vs.length=l.length∧ACalls P g (first.toList++vs++captured.toList) H1 fun rv H'=>zar c.nt K' d (.v rv) fr1 H':=by
 obtain⟨vs,fr1,E1,m1,r1,l1,l2,f1,t1,_⟩:=zul r (fl:=[]) (fun k x v h=>by simp at h) hargl;simp only[List.nil_append]at f1;rw[hlx]at m1;obtain⟨first,captured,hrd,lf,lc,pf_,pc_⟩:=hQ E1 fr1 r1;obtain⟨la,_,hca⟩:=zwO hcargs;refine⟨vs,fr1,E1.H,first,captured,m1,hrd,l1,?_⟩
 let nf:=xs.length
 let n:=nf+l.length+us.length
 let roots:Nat→Prop:=fun s=>∃a t,a∈l∧a.1=.sh∧a.2.2=.tmp t∧(za9 pf1 (pf1 t)).any zaC=true∧s=zqW t (pf1 t)
 have hroots:∀s,roots s→s<c.nt:=by
  rintro s ⟨a,t,_,_,_,h1,rfl⟩;cases ha:zam (pf1 t)with
  |some s=>simp only[zqW,ha,Option.getD_some];exact r1.rt t s ha
  |none=>
   simp only[zqW,ha,Option.getD_none];exact zqR r1 (by intro e;rw[e]at h1;simp[za9,jP,zaC]at h1)
 let Ec:=E1.callee c.nt nf l roots
 have okc:EnvOK Ec:=zwo r1.ok;have hgc:GK E1 Ec:=zxd;unfold zsk at h;have hflat:∀(k:Nat) (y:PV) (v:Value),ys[k]? =some y→vs[k]? =some v→PR E1 (some (c.nt,[(0,k)])) y v:=fun k y v a b=>f1 k y v (by rw[List.getElem?_zip_eq_some];exact⟨a,b⟩)
 have harg:∀(k:Nat) (b:Md×PV) (v:Value),as[k]? =some b→vs[k]? =some v→zmP Ec (nf+k) b v:=by
  intro k b v hb hv;obtain⟨a,y,ha,hy,hab⟩:=hca k b hb
  have own:∀m,a.1=m→m≠.sh→b=(m,y)→zmP Ec (nf+k) b v:=by
   intro m hm hms hbm;subst hbm
   have hown:zoz l k=true:=by
    obtain⟨md,e,x⟩:=a;simp only at hm;subst hm;unfold zoz;rw[ha];cases md<;>first|rfl|exact absurd rfl hms
   have hpr:PR Ec (some (nf+k,[])) y v:=(hflat k y v hy hv).move hgc fun id q h1 h2=>by
    have h1:E1.ow id=some (c.nt,(0,k)::q):=by simpa using h1
    refine⟨by simp[Ec,Env.callee,h1,toC,hown],?_,rfl⟩;rintro(h3|⟨s,p,h3,h4⟩)
    ·exact h2 h3
    ·rw[h1]at h3;cases h3;exact absurd (hroots _ h4) (Nat.lt_irrefl _)
   cases m with
   |sh=>exact absurd rfl hms
   |mv=>exact hpr
   |io=>exact hpr
  obtain⟨md,e,x⟩:=a;cases md with
  |mv=>simp only[zln,Option.some.injEq]at hab;exact own .mv rfl (by simp) hab.symm
  |io=>simp only[zln,Option.some.injEq]at hab;exact own .io rfl (by simp) hab.symm
  |sh=>
   simp only[zln,Option.map_eq_some_iff]at hab;obtain⟨z,hz,rfl⟩:=hab;show PR Ec none z v;unfold shC at hz;obtain⟨y',hy',hz⟩:=Option.bind_eq_some_iff.1 hz;split at hz
   ·cases hz
   ·rename_i hj;simp only[Option.some.injEq]at hz;subst hz;have hj:=ze5 (x:=y') (by simpa using hj);have hvx:zaG fr E.H xl=some (vs,fr1,E1.H):=m1;have hax:xl[k]? =some x:=by rw[←hlx,List.getElem?_map,ha];rfl
    cases x with
    |tmp t=>
     simp only[shV]at hy';refine zvV r1 hy' hj (t1 k _ t v ha rfl hv) hgc fun ho=>fun id p h1 h2=>?_
     refine⟨.inr ⟨_,p,h1,⟨_,t,List.mem_of_getElem? ha,rfl,rfl,by rw[hy'];simpa using ho,rfl⟩⟩,fun k hk=>⟨k,hk,rfl⟩⟩
    |const kk=>
     simp only[shV]at hy';split at hy'
     ·rename_i hc;simp only[Option.some.injEq]at hy';subst hy'
      have:v=kk:=by
       have:=zon (v:=kk) hvx hax (fun fr H=>by simp[mat,rdv,hc]);rw[hv]at this;exact Option.some.inj this
      subst this;exact(zkH (E:=Ec) hc none).freeze (GK.refl _) True.intro
     ·cases hy'
    |func ff=>
     simp only[shV,Option.some.injEq]at hy';subst hy'
     have:v=.func (.func ff) #[] #[]:=by
      have:=zon (v:=.func (.func ff) #[] #[]) hvx hax (fun fr H=>by simp[mat,rdv]);rw[hv]at this;exact Option.some.inj this
     subst this;simp only[drop];exact .func _ rfl rfl (fun i x y h=>by simp at h) (fun i x y h=>by simp at h)
    |global gg=>simp[shV]at hy'
 have hlen:(xs.map (fun x=>((Md.sh,x):Md×PV))++as++us.map (fun x=>(Md.sh,x))).length=n:=by rw[List.length_append,List.length_append,List.length_map,List.length_map,la]
 have hvl:(first.toList++vs++captured.toList).length=n:=by rw[List.length_append,List.length_append,←lf,←lc,l1]
 have hall:∀(k:Nat) (a:Md×PV) (v:Value),(xs.map (fun x=>((Md.sh,x):Md×PV))++as++us.map (fun x=>(Md.sh,x)))[k]? =some a→(first.toList++vs++captured.toList)[k]? =some v→zmP Ec k a v:=by
  intro k a v ha hv;have q1:(xs.map fun x=>((Md.sh,x):Md×PV)).length=nf:=by rw[List.length_map]
  have q2:first.toList.length=nf:=lf.symm
  have q3:(xs.map (fun x=>((Md.sh,x):Md×PV))++as).length=nf+l.length:=by rw[List.length_append,q1,la]
  have q4:(first.toList++vs).length=nf+l.length:=by rw[List.length_append,q2,l1]
  by_cases h1:k<nf
  ·rw[List.getElem?_append_left (by rw[q3];omega),List.getElem?_append_left (by rw[q1];exact h1)]at ha;rw[List.getElem?_append_left (by rw[q4];omega),List.getElem?_append_left (by rw[q2];exact h1)]at hv;obtain⟨x,hx,rfl⟩:=zdZ ha;exact(pf_ k x v hx hv).mono hgc
  ·by_cases h2:k<nf+l.length
   ·rw[List.getElem?_append_left (by rw[q3];exact h2),List.getElem?_append_right (by rw[q1];exact Nat.le_of_not_lt h1),q1]at ha;rw[List.getElem?_append_left (by rw[q4];exact h2),List.getElem?_append_right (by rw[q2];exact Nat.le_of_not_lt h1),q2]at hv;have:=harg (k-nf) a v ha hv
    rwa [show nf+(k-nf)=k by omega]at this
   ·rw[List.getElem?_append_right (by rw[q3];exact Nat.le_of_not_lt h2),q3]at ha;rw[List.getElem?_append_right (by rw[q4];exact Nat.le_of_not_lt h2),q4]at hv;obtain⟨x,hx,rfl⟩:=zdZ ha;exact(pc_ _ x v hx hv).mono hgc
 have hcall:=h.2 Ec (first.toList++vs++captured.toList) okc (by rw[hlen,hvl]) hall;refine hcall.mono fun rv H' ⟨rr,outs,Ec',⟨hcond,hret⟩,eH,post⟩=>?_
 subst eH;rw[hlen]at post;obtain⟨b1,b2,b3,b4,b5⟩:=zvd (n:=n) (M:=l.length) r1 hroots post.ok post.since;have r2:=r1.env b1 b2 b3
 have hmv:∀(a b:Nat×zad) (x:PV) (v:Value),(x=rr∨x∈outs)→PR Ec' (some a) x v→(∀q,zn6 c.nt nf n l.length (a.1,a.2++q)=(b.1,b.2++q))→PR (E1.back Ec Ec' c.nt nf n l.length) (some b) x v:=by
  intro a b x v hx hpr hq;rcases hcond with hno|hcl
  ·refine hpr.move (b5 ?_) (b4 a b hq);rintro s ⟨a',t,h1,h2,h3,h4,_⟩;have:=List.any_eq_false.1 hno a' h1;obtain⟨md,e,x'⟩:=a';simp only at h2 h3;subst h2;subst h3;exact this (by simpa[zii]using h4)
  ·simp only[Bool.and_eq_true,List.all_eq_true]at hcl;rcases hx with rfl|hx
   ·exact hpr.moveC hcl.1 (b4 a b hq)
   ·exact hpr.moveC (hcl.2 x hx) (b4 a b hq)
 have hres:=hmv (n,[]) (c.nt,[(0,l.length)]) rr rv (.inl rfl) post.r fun q=>by simp[zn6]
 have houts:∀(k:Nat) (y:PV) (v:Value),(outs.drop nf)[k]? =some y→vs[k]? =some v→PR (E1.back Ec Ec' c.nt nf n l.length) (some (c.nt,[(0,0+k)])) y v:=by
  intro k y v hy hv;rw[List.getElem?_drop]at hy;have hkl:k<l.length:=by have:=(List.getElem?_eq_some_iff.1 hv).1;omega
  have hV:(first.toList++vs++captured.toList)[nf+k]? =some v:=by
   rw[List.getElem?_append_left (by rw[List.length_append,←lf,l1];exact Nat.add_lt_add_left hkl _),List.getElem?_append_right (by rw[←lf];exact Nat.le_add_right _ _),←lf];rw[show nf+k-xs.length=k by simp only[nf];omega];exact hv
  refine hmv (nf+k,[]) (c.nt,[(0,0+k)]) y v (.inr (List.mem_of_getElem? hy)) (post.o _ y v hy hV) fun q=>?_
  have hne:nf+k≠n:=by simp only[n];omega
  simp only[zn6];rw[if_neg hne];simp
 unfold zvi at hret;split at hret
 ·rename_i pf2 hback;have hol:l.length≤(outs.drop nf).length:=by rw[List.length_drop,post.len];simp only[n];omega
  obtain⟨E3,e3,r3,p3⟩:=zsQ r2 hol l1 houts t1 hback (z:=rr) (w:=rv) (kz:=l.length) (fun k hk'=>by omega) hres;have r4:RelP c.nt pin E0 (E3.rl (rlW (c.nt,[(0,l.length)]) (c.nt,[(0,0)]))) pf2 fr1:=r3.env r3.ok.rl zcM fun s hs=>zbN fun q=>zdq (by show s≠c.nt;omega)
  have hext:(∀a,a∈l→a.1=.sh)→Ext E.H Ec'.H:=by
   intro hsh;refine(znQ r.wf m1).trans ⟨post.since.n,fun id k hb=>?_⟩
   have hno:∀k,zoz l k=false:=by
    intro k;unfold zoz;cases hlk:l[k]? with
    |none=>rfl
    |some a=>
     obtain⟨md,y⟩:=a;rw[show md=.sh from hsh _ (List.mem_of_getElem? hlk)]
   have how:Ec.ow id=none:=by
    simp only[Ec,Env.callee];cases ho':E1.ow id with
    |none=>rfl
    |some x=>
     simp only[Option.bind_some,toC];split
     ·split
      ·rw[if_neg (by simp[hno])]
      ·rfl
     ·rfl
   have:=(post.since.own id (r1.wf id k hb) how).2.1;rw[this];exact hb
  have:=zqf (K':=K') r4 hp (p3.move zba (zcJ fun q=>zfq _ _ q)) hret (fun pf' fr' E' a b e=>hk pf' fr' E' a b fun hs=>by
   have e2:E'.H=Ec'.H:=e.trans e3
   rw[e2];exact hext hs)
  rw[show(E3.rl (rlW (c.nt,[(0,l.length)]) (c.nt,[(0,0)]))).H=E3.H from rfl,e3]at this;exact this
 ·cases hret
theorem zv0{ts:List TypeId}:(zdt P xs ts).length=xs.length:=by
 have:=congrArg List.length (zqh (P:=P) (xs:=xs) (ts:=ts));simpa using this
theorem ztX{ms:List Md}{ts:List TypeId}(h:ms.length=xs.length):(ms.zip (zdt P xs ts)).map (·.2.2)=xs:=by
 have e:(ms.zip (zdt P xs ts)).map (·.2.2)=((ms.zip (zdt P xs ts)).map Prod.snd).map (·.2):=by rw[List.map_map];rfl
 rw[e,List.map_snd_zip (by rw[zv0];omega)];exact zqh
theorem zmi(r:RelP c.nt pin E0 E pf fr)(hp:PinOK c pin)(ho:o.op=.call ⟨.value f,args,ts⟩)
{ms:List Md}(h:zmy P c f args.toList ts.toList o.dst K pf ms)(hk:∀pf' fr' E',K pf'→RelP c.nt pin E0 E' pf' fr'→((∀m,m∈ms→m=.sh)→Ext E.H E'.H)→K' fr' E'.H):aop P c.nt o K' fr E.H:=by
 obtain⟨hml,h⟩:=h;unfold zrt at h;split at h
 ·rename_i ys pf1 hargl;unfold ziQ at h;split at h
  ·rename_i g xs us as hfn hcargs
   obtain⟨vs,fr1,H1,first,captured,m1,hrd,_,hc⟩:=zoO (K':=K') r hp (ztX hml) hargl hcargs h (Q:=fun fr1 a b=>rdv fr1 f=some (.func (.func g) a b)) (fun E1 fr1 r1=>zwV r1 hfn) (fun pf' fr' E' a b e=>hk pf' fr' E' a b fun hs=>e fun x hx=>by
    obtain⟨md,y⟩:=x
    exact hs md (List.of_mem_zip hx).1)
   unfold aop;rw[ho];simp only[m1,hrd];exact hc
  ·cases h
 ·cases h
theorem zwx:∀{xs:List Operand}{fr fr':FR}{H H':AH}{vs:List Value},zaG fr H xs=some (vs,fr',H')→∀s u,fr s=.v u→fr' s=.v u:=by
 intro xs;induction xs with
 |nil=>intro fr fr' H H' vs h;simp only[zaG,Option.some.injEq,Prod.mk.injEq]at h;obtain⟨_,rfl,_⟩:=h;exact fun s u h=>h
 |cons x xs ih=>
  intro fr fr' H H' vs h;simp only[zaG]at h;split at h
  ·rename_i v fr1 H1 h1;split at h
   ·rename_i ws rest h2;cases h;exact fun s u hs=>ih h2 s u ((zsq h1).2 s u hs)
   ·cases h
  ·cases h
theorem zvH:∀{xs:List Operand}{x:Operand}{fr fr':FR}{H H':AH}{vs:List Value},zaG fr H (xs++[x])=some (vs,fr',H')→∃ws w fr1 H1,zaG fr H xs=some (ws,fr1,H1)∧mat fr1 H1 x=some (w,fr',H')∧vs=ws++[w]:=by
 intro xs;induction xs with
 |nil=>
  intro x fr fr' H H' vs h;simp only[List.nil_append,zaG]at h;split at h
  ·rename_i v fr1 H1 h1;cases h;exact⟨[],v,fr,H,rfl,h1,rfl⟩
  ·cases h
 |cons a xs ih=>
  intro x fr fr' H H' vs h;simp only[List.cons_append,zaG]at h;split at h
  ·rename_i v fr1 H1 h1;split at h
   ·rename_i ws rest h2;cases h;obtain⟨us,u,fr2,H2,g1,g2,rfl⟩:=ih h2;exact⟨v::us,u,fr2,H2,by simp[zaG,h1,g1],g2,rfl⟩
   ·cases h
  ·cases h
theorem zpW(r:RelP nt pin E0 E pf fr){x:Nat×FuncId×List PV}(h:clO pf f=some x):∃(v:Value) (vs:List Value),rdv fr f=some (.func (.func x.2.1) #[] (v::vs).toArray)∧fr x.1=.v v∧x.2.2.length=vs.length∧
 ∀(i:Nat) (y:PV) (w:Value),x.2.2[i]? =some y→vs[i]? =some w→PR E none y w:=by
 cases f with
 |tmp t=>
  simp only[clO]at h;unfold clF at h;split at h
  ·rename_i s g us hpt;cases h;have hf:=r.f t;rw[hpt]at hf;obtain⟨v,vs,h1,h2,h3,h4⟩:=hf;exact⟨v,vs,by simp only[rdv,h1],zjm h2,h3,h4⟩
  ·cases h
 |_=>simp[clO]at h
theorem zsD(r:RelP c.nt pin E0 E pf fr)(hp:PinOK c pin)(ho:o.op=.call ⟨.value f,args,ts⟩)
(h:zvW P c f args.toList ts.toList o.dst K pf)(hk:∀pf' fr' E',K pf'→RelP c.nt pin E0 E' pf' fr'→K' fr' E'.H):aop P c.nt o K' fr E.H:=by
 obtain⟨ms,x,hx,hml,h⟩:=h;obtain⟨v0,_,_,hs0,_⟩:=zpW r hx;unfold zmf at h;split at h
 ·rename_i ys pf1 hargl;obtain⟨hx1,h⟩:=h;unfold ziQ at h;split at h
  ·rename_i g xs us as hfn hcargs;cases hfn
   obtain⟨vs,fr1,H1,first,captured,m1,⟨rfl,v,hrd,hsv⟩,_,hc⟩:=zoO (K':=K') r hp (xl:=args.toList++[.tmp x.1]) (by rw[List.map_append,ztX hml];rfl) hargl hcargs h
    (Q:=fun fr1 a b=>a= #[]∧∃v,rdv fr1 f=some (.func (.func x.2.1) #[] (v::b.toList).toArray)∧fr1 x.1=.v v) (fun E1 fr1 r1=>by
      obtain⟨v,vs,h1,h2,h3,h4⟩:=zpW r1 hx1
      exact⟨#[],vs.toArray,⟨rfl,v,by simpa using h1,h2⟩,rfl,by simpa using h3,fun i x y h=>by simp at h,by simpa using h4⟩) (fun pf' fr' E' a b _=>hk pf' fr' E' a b)
   obtain⟨ws,w,fr2,H2,g1,g2,rfl⟩:=zvH m1;have hs2:=zwx g1 _ _ hs0;simp only[mat,hs2,Option.some.injEq,Prod.mk.injEq]at g2;obtain⟨rfl,rfl,rfl⟩:=g2;have hv:v0=v:=by rw[hs2]at hsv;cases hsv;rfl
   subst hv;unfold aop;rw[ho];simp only[g1,hrd];simpa using hc
  ·cases h
 ·cases h
theorem zsN(r:RelP c.nt pin E0 E pf fr)(hp:PinOK c pin)(ho:o.op=.call ⟨.value f,args,ts⟩)
(h:zy3 P c f args.toList o.dst K pf)(hk:∀pf' fr' E',K pf'→RelP c.nt pin E0 E' pf' fr'→K' fr' E'.H):aop P c.nt o K' fr E.H:=by
 obtain⟨g,x,t,n,z,rfl,ha,hg,hn,hz,⟨h0,h1,h2⟩,h8⟩:=h;obtain⟨e,gb,es,by_,zc,he,ht,h5,h6,h7,rfl⟩:=ziw hz;have hc:rdv fr (.const (.slice none 0 0))=some (.slice none 0 0):=by simp[rdv,zai]
 have hm:zaG fr E.H args.toList=some ([.slice none 0 0,.int .i64 n],fr,E.H):=by
  rw[ha];simp[zaG,zjd (H:=E.H) hc,zjd (H:=E.H) (zcS r hn)]
 unfold aop;rw[ho];simp only[hm,rdv,List.nil_append,List.append_nil];refine(hg n E.H e gb es by_ zc he ht h0 h1 h2 h5 h6 h7).mono fun v H' hv=>?_
 rcases hv with⟨rfl,rfl,rfl⟩|⟨hpos,rfl,rfl⟩
 ·exact za6 r hp (.sl0 _ _) h8 hk
 ·have ok:=r.ok;have hrep:∀e,e∈List.replicate n.toNat zc→e.length=es:=fun e he=>by rw[(List.mem_replicate.1 he).2];exact h5
  have hpr:PR (E.push ⟨true,(List.replicate n.toNat zc).flatten⟩ (c.nt,[(0,0)]) fun _=>none) (some (c.nt,[(0,0)])) (.sl true es []) (.slice (some ⟨E.H.n,0,some es⟩) 0 n.toNat):=by
   refine .slO zge ok.newG zfX rfl (by simp) (by omega) (by unfold zcx;omega) (fun rw hr=>by simp at hr) ⟨⟨h6,rfl⟩,?_⟩ fun i rw j x y g1 g2 g3=>by simp at g1
   rw[ziB hrep];simp
  have:=za6 (K':=K') (r.env ok.push ok.since_push fun s _=>ok.stay_push fun _=>rfl) hp hpr h8 hk;exact this
theorem zs1(r:RelP c.nt pin E0 E pf fr)(hp:PinOK c pin)(ho:o.op=.call ⟨.value f,args,ts⟩)
(h:zyY P c f args.toList ts.toList o.dst K pf)(hk:∀pf' fr' E',K pf'→RelP c.nt pin E0 E' pf' fr'→K' fr' E'.H):aop P c.nt o K' fr E.H:=by
 rcases h with⟨ms,h⟩|h|h
 ·exact zmi r hp ho h fun pf' fr' E' a b _=>hk pf' fr' E' a b
 ·exact zsN r hp ho h hk
 ·exact zsD r hp ho h hk
end
end Go.Pm
