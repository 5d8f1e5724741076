import Derived.Test.YtjnidpmkglobfaaGreatPmG
open Bool renaming false→Z,true→O
open Option renaming none→aa,some→J
set_option linter.defProp false
namespace Go.Pm
open Go.Am
def eE:=@decide_eq_true_eq
def xL:=@decide_eq_false_iff_not
structure aW where
 nt:Nat
 io:List Nat
 fz:List Nat
 hp:List Nat
def JT(Y:ae)(s:Nat)(p:aB)(i j:Nat):Option PV->Option (PF×ae)
 |some (.agg a)=>if bI (.agg a)=O then(mK Y s p i j (a.map drop)).map λb=>(.v (.agg (a.map drop)),b)else J (.v (.agg a),Y)
 |_=>aa
def KO(Y:ae)(s:Nat)(p:aB):Option PV->Option (PF×ae)
 |some x=>if dv x=O then aa else(iL Y s p (drop x)).map λa=>(.v (drop x),a)
 |none=>aa
def xt(Y:ae):PF->Option (PF×ae)
 | .v x=>J (.v (drop x),Y)
 | .rf s p=>KO Y s p (cj Y s p)
 | .ra s p i j n=>JT Y s p i j (d5 Y (.ra s p i j n))
 |y=>J (y,Y)
def Kf(K:ae->Prop)(d:Nat):Option (PF×ae)->Prop
 |some r=>K (r.2.put d r.1)
 |none=>False
def ia(c:aW)(d:Nat)(y:PF):Bool:=decide (d<c.nt)&& !c.io.contains d&& !(bA y==J d)
def dI(c:aW)(K:ae->Prop)(d:Option Tmp)(y:PF)(Y:ae):Prop:=
 match d with
 |none=>K Y
 |some d=>ia c d y=O/\if c.fz.contains d=O then Kf K d (xt Y y)else K (Y.put d y)
def yv:List PV->Option (List Value)
 |[]=>J []
 | .int k n::r=>(yv r).map λl=>.int k n::l
 |_=>aa
def uM:PV->Option Value
 | .agg a=>(yv a).map λl=>.agg l.toArray
 | .bool b=>J (.bool b)
 | .int k n=>J (.int k n)
 | .str s=>J (.string s)
 |_=>aa
def lY:Value->Option PV
 | .bool b=>J (.bool b)
 | .int k n=>J (.int k n)
 | .string s=>J (.str s)
 |_=>aa
def Hk:PF->Option Value
 | .v x=>uM x
 |_=>aa
def cr(Y:ae):Operand->Option Value
 | .tmp t=>Hk (Y t)
 | .const k=>if cD k=O then uM (nz 0 k)else aa
 |_=>aa
def qg(Y:ae):List Operand->Option (List Value)
 |[]=>J []
 |x::b=>(cr Y x).bind λv=>(qg Y b).map λa=>v::a
def lO(P:Program)(c:aW)(o:Oper)(K:ae->Prop)(Y:ae):Prop:=
 match(iA o.op).bind (qg Y)with
 |some a=>match(fk P o.op a).bind lY with
  |some y=>dI c K o.dst (.v y) Y
  |none=>False
 |none=>False
inductive AD where
 |pl (s:Nat) (p:aB) (i j:Nat)
 |fz (row:List PV)
def zm(t:Nat):PV->Option AD
 | .bx _=>J (.pl t [] 0 0)
 | .fp row=>J (.fz row)
 |_=>aa
def BJ(s:Nat)(p:aB):PV->Option AD
 | .bx _=>J (.pl s p 0 0)
 | .fp row=>J (.fz row)
 |_=>aa
def rT(Y:ae)(t:Nat):PF->Option AD
 | .bl _=>J (.pl t [] 0 0)
 | .v x=>zm t x
 | .pt s p i j=>J (.pl s p i j)
 | .rf s p=>(cj Y s p).bind (BJ s p)
 |_=>aa
def nK(Y:ae):Operand->Option AD
 | .tmp t=>rT Y t (Y t)
 |_=>aa
def xv:AD->PF
 | .pl s p i j=>.pt s p i j
 | .fz row=>.v (.fp row)
def yS(o:Nat):AD->Option AD
 | .pl s p i j=>J (.pl s p i (j+o))
 | .fz row=>if o<=row.length then J (.fz (row.drop o))else aa
def Lr(Y:ae)(s:Nat)(p:aB)(i:Nat):Option (List PV):=(cj Y s p).bind (mp i)
def Cx(b:Bool×Nat)(s:Nat)(p:aB)(i j:Nat)(row:List PV):Option PF:=
 match b with
 |(O,a)=>if j+a<=row.length then J (if((row.drop j).take a).any bI=O then .ra s p i j a else .v (.agg ((row.drop j).take a)))else aa
 |(Z,_)=>match row.drop j with
  |x::_=>J (if bI x=O then .rf s (p++[(i,j)])else .v x)
  |[]=>aa
def Gm(b:Bool×Nat)(row:List PV):Option PF:=
 match b with
 |(O,a)=>if a<=row.length then J (.v (.agg (row.take a)))else aa
 |(Z,_)=>match row with
  |x::_=>J (.v x)
  |[]=>aa
def Dq(a:Bool×Nat)(Y:ae):AD->Option PF
 | .pl s p i j=>(Lr Y s p i).bind (Cx a s p i j)
 | .fz row=>Gm a row
section
variable {nt:Nat}{pin:List (Nat×Value)}{U E W:Env}{Y:ae}{X T:FR}{c:aW}{P:Program}
structure eK (c:aW) (pin:List (Nat×Value)):Prop where
 h:∀k v,(k,v)∈pin->k∈c.io
variable{K:ae->Prop}{K':FR->AH->Prop}{ad:AD}{d s:Nat}{fv:FV}{l:Lo}{p:aB}{row:List PV}{v:Value}{x:PV}{y:PF}
def Qe(h:ia c d y=O):d<c.nt/\d∉c.io/\bA y≠J d:=by
 simp only[ia,bC,eE,sr,List.contains_eq_mem,xL,beq_eq_false_iff_ne,ne_eq]at h;exact⟨h.1.1,h.1.2,h.2⟩
def Xu{x:Option (PF×ae)}(h:Kf K d x):∃r,x=J r/\K (r.2.put d r.1):=by
 cases x with
 |none=>cases h
 |some r=>exact⟨r,rfl,h⟩
def ew.rl(h:ew E){f:Nat×aB->Option (Nat×aB)}:ew (E.rl f):=⟨h.wf,λid a=>by
 obtain⟨b,e⟩:=h.fresh id a
 exact⟨by simp[Env.rl,b],e⟩⟩
def ew.fz(h:ew E){a:Nat×aB}:ew (E.fz a):=⟨h.wf,λid f=>by
 obtain⟨e,g⟩:=h.fresh id f;refine⟨e,?_⟩;rintro(b|⟨r,b⟩)
 ·exact g b
 ·rw[e]at b;cases b⟩
def au.env(r:au nt pin U E Y X)(b:ew W)(f:gi E W)(e:∀s,s<nt->dC E W (J (s,[])) (J (s,[]))):au nt pin U W Y X:=by
 refine⟨r.since.trans f,b.wf,b.fresh,λt=>?_,r.hi,r.rt,r.pin⟩;rcases dS t nt with a|a
 ·exact(r.f t).stay f.g (e t a) rfl λs g=>⟨rfl,KL.J0 (e s (r.rt t s g))⟩
 ·rw[r.hi t a];exact ym
def zq9(r:au c.nt pin U E Y X)(n:eK c pin)(g:PR E (J (c.nt,[(0,0)])) x v){d:Option Tmp}(h:dI c K d (.v x) Y)
(f:∀j T W,K j->au c.nt pin U W j T->W.H=E.H->K' T W.H):bu c.nt K' d (.v v) X E.H:=by
 cases d with
 |none=>exact f Y X E h r rfl
 |some d=>
  obtain⟨m,a⟩:=h;obtain⟨e,k,t⟩:=Qe m;simp only[bu,aE e];have i:∀w,(d,w)∉pin:=λw o=>k (n.h d w o)
  split at a
  ·
   have a:K (Y.put d (.v (drop x))):=a;have hd:PR (E.fz (c.nt,[(0,0)])) aa (drop x) v:=g.freeze qD OW;refine f _ _ (E.fz (c.nt,[(0,0)])) a ?_ rfl;exact r.set e i qD (λs b _=>zD (by show s≠c.nt;omega)) EP r.ok.fz.wf r.ok.fz.fresh (pu (by simp[FR.put]) hd.up) (λs b=>by cases b)
  ·refine f _ _ (E.rl (fD (c.nt,[(0,0)]) (d,[]))) a ?_ rfl;exact r.set e i d7 (λs b _=>jd λq=>lF (by show s≠c.nt;omega)) oi r.ok.rl.wf r.ok.rl.fresh (pu (by simp[FR.put]) (g.move d7 (mi λq=>zgn _ _ q))) (λs b=>by cases b)
def hY(r:au c.nt pin U E Y X)(g:eK c pin)(i:PR E (J (c.nt,[(0,0)])) x v){d:Option Tmp}(h:dI c K d (.v x) Y)
(f:∀e T W,K e->au c.nt pin U W e T->K' T W.H):bu c.nt K' d (.v v) X E.H:=zq9 r g i h λe T W a b _=>f e T W a b
def Wk.frame(h:Wk E X s p v)(hd:s≠d):Wk E (X.put d fv) s p v:=by
 have e:(X.put d fv) s=X s:=by simp[FR.put,hd]
 rcases h with⟨r,a,b⟩|⟨f,j,g,y,a,b⟩
 ·exact .inl ⟨r,e.trans a,b⟩
 ·exact .inr ⟨f,j,g,y,e.trans a,b⟩
def Cd(E:Env)(X:FR)(y:PF)(fv:FV):Prop:=
 match y with
 | .pt s p i j=>L5 E X s p i j fv
 | .rf s p=>∃v,fv=.v v/\Wk E X s p v
 | .rv s p b e=>(Wk E X s p (.slice aa 0 0)/\fv=.v (.slice aa 0 0)/\b=0/\e=0)\/
  ∃id off f n c,Wk E X s p (.slice (J ⟨id,off,J f⟩) n c)/\b<=e/\e<=n/\fv=.v (.slice (J ⟨id,off+b*f,J f⟩) (e-b) (c-b))
 | .ra s p i j n=>∃a,fv=.v (.agg a)/\(a.toList.length=n/\n≠0)/\∀q y,a.toList[q]? =J y->Wk E X s (p++[(i,j+q)]) y
 | .as Z s p i j n=>∃a:List Value,fv=.ls n 1 a/\(a.length=n/\n≠0)/\∀q y,a[q]? =J y->Wk E X s (p++[(i,j+q)]) y
 | .as O s p i j _=>∃id off k v,fv=.v (.pointer (J ⟨id,off,aa⟩))/\E.G id/\E.H.b id=J k/\k.cells[off]? =J v/\Wk E X s (p++[(i,j)]) v
 | .cl s g h=>Xt E X s g h fv
 |_=>False
def zBP{t:Nat}(a:bA y≠aa):pe E y X t↔Cd E X y (X t):=by
 cases y with
 |v x=>simp[bA]at a
 |skip=>simp[bA]at a
 |ls _ _=>simp[bA]at a
 |bl _=>simp[bA]at a
 |pt s p i j=>exact Ey
 |rf s p=>exact Ey
 |rv s p f e=>exact Ey
 |ra s p i j n=>exact Ey
 |as b s p i j n=>cases b<;>exact Ey
 |cl s g h=>exact Ey
def Cd.frame{fx:FV}(h:Cd E X y fv)(hd:bA y≠J d):Cd E (X.put d fx) y fv:=by
 have m:∀{s:Nat}{p:aB}{v:Value},bA y=J s->Wk E X s p v->Wk E (X.put d fx) s p v:=λF w=>w.frame λe=>hd (by rw[F,e])
 cases y with
 |pt s p i j=>
  rcases h with⟨z,a,f⟩|⟨G,id,o,a,f⟩
  ·have:s≠d:=λe=>hd (by rw[e];rfl)
   exact .inl ⟨z,by simp[FR.put,this,a],f⟩
  ·exact .inr ⟨G,id,o,m rfl a,f⟩
 |rf s p=>obtain⟨v,a,f⟩:=h;exact⟨v,a,m rfl f⟩
 |rv s p I H=>
  rcases h with⟨a,f⟩|⟨id,off,A,n,c,a,f⟩
  ·exact .inl ⟨m rfl a,f⟩
  ·exact .inr ⟨id,off,A,n,c,m rfl a,f⟩
 |ra s p i j n=>obtain⟨t,a,f,r⟩:=h;exact⟨t,a,f,λq y u=>m rfl (r q y u)⟩
 |as b s p i j n=>
  cases b with
  |false=>obtain⟨t,a,f,r⟩:=h;exact⟨t,a,f,λq y u=>m rfl (r q y u)⟩
  |true=>obtain⟨id,off,k,v,a,B,C,D,w⟩:=h;exact⟨id,off,k,v,a,B,C,D,m rfl w⟩
 |cl s g L=>obtain⟨v,t,a,f,r⟩:=h;exact⟨v,t,a,m rfl f,r⟩
 |_=>exact h
def zvD(r:au nt pin U E Y X){i j n:Nat}{y':PF}{pf':ae}{o:Array Value}(hs:s<nt)(N:o.toList.length=n)(R:∀q y,o.toList[q]? =J y->Wk E X s (p++[(i,j+q)]) y)
(g:JT Y s p i j (d5 Y (.ra s p i j n))=J (y',pf')):∃W x,y'=.v x/\W.H=E.H/\ew W/\au nt pin U W pf' X/\PR W aa x (.agg o):=by
 unfold JT at g;split at g
 ·rename_i ox1 u M;simp only[d5]at M;obtain⟨row,VS,m⟩:=bT.1 M;unfold yu at m;split at m
  ·rename_i da;simp only[aS,PV.agg.injEq]at m;have iy:u.length=n:=by rw[<-m];simp;omega
   have iD:∀q x,u[q]? =J x->cj Y s (p++[(i,j+q)])=J x:=by
    intro q x b;rw[R0 VS];rw[<-m,my]at b;split at b
    ·rw[jq]at b;exact b
    ·cases b
   have L:∀q x v,u[q]? =J x->o.toList[q]? =J v->PR E (J (s,p++[(i,j+q)])) x v:=by
    intro q x v b e;by_cases S:x=.az
    ·subst S;exact .az v
    ·obtain⟨v',w1,w2⟩:=r.at (iD q x b) S (.inl Nw);rw[w1.same (R q v e)]at w2;exact w2
   split at g
   ·rename_i F;simp only[bL,b9]at g;obtain⟨aR,f,rfl,rfl⟩:=g;have hne:u≠[]:=by rintro rfl;simp[zio]at F
    let Sx1:Nat×aB->Prop:=λx=>∃q r,q<n/\x=(s,p++(i,j+q)::r)
    let w:Env:={E with G:=λid=>E.G id\/∃x,E.ow id=J x/\Sx1 x}
    have C:GK E w:=λ_ h=>⟨.inl h,λk D=>⟨k,D,rfl⟩⟩
    have jg:gi E w:=⟨cq _,C,λid _ h=>⟨h,rfl,by
     rintro(a|⟨x,a,_⟩)
     ·exact a
     ·rw[h]at a;cases a⟩⟩
    have I:ew w:=⟨r.wf,λid b7=>by
     obtain⟨f,B⟩:=r.fresh id b7;refine⟨f,?_⟩;rintro(a|⟨x,a,_⟩)
     ·exact B a
     ·rw[f]at a;cases a⟩
    have H:∀q x v,u[q]? =J x->o.toList[q]? =J v->PR w aa (drop x) v:=λq x v b e=>by
     have Kg:q<n:=by have:=(cY.1 b).1;omega
     refine(L q x v b e).freeze C λid r f _=>⟨.inr ⟨_,f,q,r,Kg,by simp⟩,λk D=>⟨k,D,rfl⟩⟩
    refine⟨w,_,rfl,rfl,I,?_,.agg (by simp;rw[iy];simpa using N.symm) λq x v b e=>?_⟩
    ·refine r.Rc hs (by simpa using hne) f rfl jg C (λt _ uO id q f B=>⟨f,?_,rfl⟩) I.fresh (λid q z A g3=>⟨z,?_⟩) λt zx1 v z A=>?_
     ·rintro(a|⟨x,a,q',r',hq',rfl⟩)
      ·exact B a
      ·rw[f,aS,b9]at a;exact uO a.1
     ·rintro(a|⟨x,a,q',r',hq',rfl⟩)
      ·exact A a
      ·rw[z,aS,b9]at a;refine g3 (j+q') r' a.2 ⟨by omega,?_⟩;simp;omega
     ·obtain⟨x,b,rfl⟩:=mM z;have nL:t<o.toList.length:=by have:=(cY.1 b).1;omega
      have e:=cI nL;have:=(R t _ e).same A;rw[this]at e;exact(H t x v b e).up
    ·obtain⟨x0,dG,rfl⟩:=mM b;exact H q x0 v dG e
   ·rename_i F;cases g;have Q:bI (.agg u)=Z:=by simpa using F
    rw[zio,Mj]at Q;refine⟨E,_,rfl,rfl,r.ok,r,.agg (by rw[iy,N]) λq x v b e=>(L q x v b e).free (by simpa using Q x (eD b))⟩
  ·cases m
 ·cases g
def jC(r:au c.nt pin U E Y X)(hp:eK c pin){D:Nat}(f:bA y=J D)(e:D<c.nt)(t:Cd E X y fv){d:Option Tmp}(h:dI c K d y Y)
(n:∀C T W,K C->au c.nt pin U W C T->K' T W.H):bu c.nt K' d fv X E.H:=by
 cases d with
 |none=>exact n Y X E h r
 |some d=>
  obtain⟨R,a⟩:=h;obtain⟨m,M,N⟩:=Qe R;simp only[bu,aE m];have u:∀w,(d,w)∉pin:=λw hw=>M (hp.h d w hw)
  have k:K (Y.put d y)->K' (X.put d fv) E.H:=λa=>by
   refine n _ _ E a (r.set m u (GK.refl E) (λs _ _=>.refl _) (gi.refl E) r.wf r.fresh ?_ (λs B=>by rw[f]at B;cases B;exact e));rw[zBP (by rw[f];simp)];have:=t.frame (fx:=fv) N;simpa[FR.put]using this
  split at a
  ·cases y with
   |rf s p=>
    obtain⟨v,rfl,w⟩:=t;obtain⟨qx1,b,q⟩:=Xu a;simp only[xt,KO]at b;split at b
    ·rename_i x A;split at b
     ·cases b
     ·rename_i S;simp only[bL]at b;obtain⟨L,k1,rfl⟩:=b;simp only[bA,aS]at f;subst f;obtain⟨v',H,o,I⟩:=r.Fi e A (oY (by simpa using S)) (jb r w A) k1;have:=H.same w;subst this;exact n _ _ (E.fz (s,p)) q (o.set m u (GK.refl _) (λs _ _=>.refl _) (gi.refl _) o.wf o.fresh (pu (by simp[FR.put]) I.up) (λs e=>by cases e))
    ·cases b
   |ra s p i j nx=>
    obtain⟨F,rfl,w1,w2⟩:=t;obtain⟨⟨y',L⟩,b,q⟩:=Xu a;simp only[bA,aS]at f;subst f;obtain⟨G,x,rfl,Q,ok1,z,zi⟩:=zvD r e w1.1 w2 b;have:=n _ (X.put d (.v (.agg F))) G q (z.set m u (GK.refl _) (λs _ _=>.refl _) (gi.refl _) z.wf z.fresh (pu (v:=.agg F) (by simp[FR.put]) zi.up) (λs e=>by cases e));rw[Q]at this;exact this
   |pt s p i j=>exact k a
   |rv s p lo hi=>exact k a
   |as bx1 s p i j nx=>exact k a
   |cl s g us=>exact k a
   |_=>simp[bA]at f
  ·exact k a
def zy1{l:Nat->Lo}:∀{e:List PV}{g b:List Value},yv e=J g->e.length=b.length->(∀(j:Nat) (x:PV) (y:Value),e[j]? =J x->b[j]? =J y->PR E (l j) x y)->b=g:=by
 intro e;induction e generalizing l with
 |nil=>intro g b a f _;simp only[yv]at a;cases a;exact na f.symm
 |cons x e ih=>
  intro g b a f h;cases b with
  |nil=>simp at f
  |cons w b=>
   cases x<;>simp only[yv]at a<;>try cases a
   simp only[bL]at a;obtain⟨o,k,rfl⟩:=a;have i:=h 0 _ w rfl rfl;generalize l 0=q at i;cases i;exact iB _ (ih (l:=λj=>l (j+1)) k (by simpa using f) λj x y m n=>h (j+1) x y (by simpa using m) (by simpa using n))
def zuR{w:Value}(h:uM x=J v)(a:PR E l x w):w=v:=by
 cases x with
 |agg i=>
  simp only[uM,bL]at h;obtain⟨g,b,rfl⟩:=h;cases a with
  |agg f e=>
   have:=zy1 b f e;rw[<-this]
 |_=>simp[uM]at h<;>subst h<;>cases a<;>rfl
def Rw(h:lY v=J x):PR E l x v:=by
 cases v<;>simp[lY]at h<;>subst h
 ·exact .bool _
 ·exact .int _ _
 ·exact .str _
def ql(r:au nt pin U E Y X){x:Operand}(h:cr Y x=J v):aZ X x=J v:=by
 cases x with
 |tmp t=>
  simp only[cr]at h;have b:=r.f t;cases a:Y t with
  |v x=>
   rw[a]at h b;simp only[Hk]at h;obtain⟨w,i,j⟩:=gu b (by rintro rfl;simp[uM]at h);have:=zuR h j;subst this;simp[aZ,i]
  |_=>rw[a]at h;simp[Hk]at h
 |const k=>
  simp only[cr]at h;split at h
  ·rename_i e;have:=zuR h (JS (E:=E) e aa);subst this;simp[aZ,e]
  ·cases h
 |func f=>simp[cr]at h
 |global g=>simp[cr]at h
def Oe{H:AH}{x:Operand}(h:aZ X x=J v):bm X H x=J (v,X,H):=by
 cases x with
 |tmp t=>simp only[aZ]at h;split at h<;>simp_all [bm]
 |const c=>simp[bm,h]
 |func f=>simp[bm,h]
 |global g=>simp[aZ]at h
def zvE(r:au nt pin U E Y X):∀{a:List Operand}{b:List Value},qg Y a=J b->∀H,cz X H a=J (b,X,H):=by
 intro a;induction a with
 |nil=>intro b h H;simp[qg]at h;simp[cz,h]
 |cons x a ih=>
  intro b h H;simp only[qg,bT,bL]at h;obtain⟨v,e,g,f,rfl⟩:=h;simp[cz,Oe (H:=H) (ql r e),ih f H]
def yl(r:au c.nt pin U E Y X)(m:eK c pin){o:Oper}(h:lO P c o K Y)
(k:∀e T W,K e->au c.nt pin U W e T->K' T W.H):dK P c.nt o K' X E.H:=by
 unfold lO at h;split at h
 ·rename_i n b;split at h
  ·rename_i y a;simp only[bT]at b a;obtain⟨q,f,g⟩:=b;obtain⟨v,i,j⟩:=a;simp only[dK,f,zvE r g,i];exact hY r m (Rw j) h k
  ·cases h
 ·cases h
def Fc(nt:Nat)(E:Env)(X:FR)(fv:FV):AD->Prop
 | .pl s p i j=>s<nt/\L5 E X s p i j fv
 | .fz row=>∃v,fv=.v v/\PR E aa (.fp row) v
def WL(e:Wk E X s p v)(h:PR E (J (s,p)) (.bx row) v):L5 E X s p 0 0 (.v v):=by
 cases h with
 |bx b a g f j i=>exact .inr ⟨_,_,0,e,.bx b a,rfl⟩
def Jz(r:au nt pin U E Y X){a:Operand}(h:nK Y a=J ad):∃fv,bO X a=J fv/\Fc nt E X fv ad:=by
 cases a with
 |tmp t=>
  simp only[nK]at h;have f:=r.f t
  have w:t<nt:=by
   rcases dS t nt with b|b
   ·exact b
   ·rw[r.hi t b]at h;simp[rT,jP,zm]at h
  cases g:Y t with
  |bl row=>
   rw[g]at h f;simp only[rT,aS]at h;subst h;obtain⟨k,q,_⟩:=f;exact⟨.lp t 0,by simp[bO,q],w,.inl ⟨k,q,rfl,rfl,rfl⟩⟩
  |v x=>
   rw[g]at h f;simp only[rT]at h;obtain⟨v,b,e⟩:=gu f (by rintro rfl;simp[zm]at h);cases x with
   |bx row=>
    simp only[zm,aS]at h;subst h;exact⟨.v v,by simp[bO,b],w,WL (.inl ⟨v,b,rfl⟩) e⟩
   |fp row=>
    simp only[zm,aS]at h;subst h;exact⟨.v v,by simp[bO,b],v,rfl,e.free (by simp[bI])⟩
   |_=>simp[zm]at h
  |pt s p i j=>
   rw[g]at h f;simp only[rT,aS]at h;subst h;have u:=r.rt t s (by rw[g];rfl);rcases f with⟨k,b,e,m,B⟩|⟨C,id,o,b,e,m⟩
   ·exact⟨.lp s j,by simp[bO,B,b],u,.inl ⟨k,b,e,m,rfl⟩⟩
   ·exact⟨_,by simp[bO,m],u,.inr ⟨C,id,o,b,e,rfl⟩⟩
  |rf s p=>
   rw[g]at h f;simp only[rT,bT]at h;obtain⟨x,z,h⟩:=h;obtain⟨v,b,e⟩:=f;obtain⟨n,D,A⟩:=r.at z (by rintro rfl;simp[BJ]at h) (jb r e z);have:=D.same e;subst this;cases x with
   |bx row=>
    simp only[BJ,aS]at h;subst h;exact⟨.v n,by simp[bO,b],r.rt t s (by rw[g];rfl),WL e A⟩
   |fp row=>
    simp only[BJ,aS]at h;subst h;exact⟨.v n,by simp[bO,b],n,rfl,A.free (by simp[bI])⟩
   |_=>simp[BJ]at h
  |_=>rw[g]at h;simp[rT]at h
 |_=>simp[nK]at h
def A0(r:au c.nt pin U E Y X)(e:eK c pin)(a:Fc c.nt E X fv ad){d:Option Tmp}(h:dI c K d (xv ad) Y)
(b:∀f T W,K f->au c.nt pin U W f T->K' T W.H):bu c.nt K' d fv X E.H:=by
 cases ad with
 |pl s p i j=>exact jC r e (y:=.pt s p i j) rfl a.1 a.2 h b
 |fz row=>
  obtain⟨v,rfl,g⟩:=a;exact hY r e g.up h b
def zAi{id off o:Nat}(h:PR E l (.fp row) (.pointer (J ⟨id,off,aa⟩)))(k:o<=row.length):PR E l (.fp (row.drop o)) (.pointer (J ⟨id,off+o,aa⟩)):=by
 cases h with
 |fp e f i g=>
  refine .fp e f (by simp;omega) λj x y a b=>?_
  rw[jq]at a;exact g (o+j) x y a (by rw[<-i9];exact b)
def XE(h:PR E l (.fp row) v):∃id off,v=.pointer (J ⟨id,off,aa⟩):=by
 cases h;exact⟨_,_,rfl⟩
def ZQ{b:AD}{o:Nat}(h:Fc nt E X fv ad)(a:yS o ad=J b):
 (∃t off,fv=.lp t off/\Fc nt E X (.lp t (off+o)) b)\/∃id off,fv=.v (.pointer (J ⟨id,off,aa⟩))/\Fc nt E X (.v (.pointer (J ⟨id,off+o,aa⟩))) b:=by
 cases ad with
 |pl s p i j=>
  simp only[yS,aS]at a;subst a;obtain⟨g,h⟩:=h;rcases h with⟨n,e,f,r,rfl⟩|⟨u,id,m,e,f,rfl⟩
  ·exact .inl ⟨s,j,rfl,g,.inl ⟨n,e,f,r,rfl⟩⟩
  ·exact .inr ⟨id,m+j,rfl,g,.inr ⟨u,id,m,e,f,by rw[i9]⟩⟩
 |fz row=>
  simp only[yS]at a;split at a
  ·rename_i q;simp only[aS]at a;subst a;obtain⟨v,rfl,k⟩:=h;obtain⟨id,off,rfl⟩:=XE k;exact .inr ⟨id,off,rfl,_,rfl,zAi k q⟩
  ·cases a
end
end Go.Pm
