import Derived.Test.YtjnidpmkglobfaaGreatPmX
import Derived.ChangeSame
import Derived.WideKeyArgs
import Derived.OpenShut
import Derived.WideShapes
open Bool renaming false→Z,true→O
open Option renaming none→aa,some→J
set_option linter.defProp false
namespace Go.Pm
open Go.Am Go.ChangeShapes Go.WideShapes
def xN:=@decide_eq_true
section
variable {P:Program}{X:Type}{enc:TypeId×Value->X}{W:World}{U β:Type}{Y:DataW X->Nat}
def Tx(g:Bool)(cs:List PV):PV:=if g=O then .agg cs else cs.headD .az
def RL(X:Type)(enc:TypeId×Value->X)(P:Program)(W:World)(t:TypeId)(U:Type)(g:Bool)(s:eC U)(Y:DataW X->Nat):Prop:=
 ∀{m:Mu}{H:AH}{base:Nat}{v:Value}{d:DataW X}{e:List MemPlace},gf m H W->RO H->Value.okWide P W .any base t v->DataW.Trod enc P W 0 (λ_=>O) O t v d e->
  ∃c b y a,gf c b W/\RO b/\m.le c/\fL H b/\V c y v/\(s.bk a<=4611686018427387904->PR (nY b) aa (Tx g (s.pc a)) y)/\s.ok a/\s.bk a<=Y d
variable{t:TypeId}
def zCt{s:eC U}(o:∀{base:Nat}{v:Value},Value.okWide P W .any base t v->v.cells.toList=[v])(p:∀a,(s.pc a).length=1)(h:B8 X enc P W t U (CR s Y)):RL X enc P W t U Z s Y:=by
 intro m H base v d D r u l b;obtain⟨C,b⟩:=b;rw[o l]at b;obtain⟨g,j,e,a,z,w,A,k,i,c⟩:=h r u b
 obtain⟨y,rfl⟩:∃y,e=[y]:=by
  have:=i.1
  match e,this with
  |[y],_=>exact⟨y,rfl⟩
 have q:V g y _:=i.2 0 y _ rfl rfl;refine⟨g,j,y,a,z,w,A,k,q,λn=>?_,c.2.1,c.2.2⟩
 obtain⟨x,f⟩:∃x,s.pc a=[x]:=by
  have:=p a
  match B:s.pc a,this with
  |[x],_=>exact⟨x,rfl⟩
 have:=c.1.2 n 0 x y (by rw[f];rfl) rfl;simpa[Tx,f]using this
def XD{e:TypeId}{b:Nat}{s:eC U}(d:P.underlying t=J (.slice e))(h:B8 X enc P W t (List U) (CR (eC.sl b s) Y)):RL X enc P W t (List U) Z (eC.sl b s) Y:=
 zCt (λh=>by obtain⟨a,l,c,rfl⟩:=okWide_slice d h;rfl) (λ_=>rfl) h
structure SA (β:Type) where
 HA:β->List PV
 bk:β->Nat
 ok:β->Prop
def SA.nil:SA Unit:=⟨λ_=>[],λ_=>0,λ_=>True⟩
def SA.cons(g:Bool)(s:eC U)(b:SA β):SA (U×β):=⟨λx=>Tx g (s.pc x.1)::b.HA x.2,λx=>s.bk x.1+b.bk x.2,λx=>s.ok x.1/\b.ok x.2⟩
def K6(X:Type)(enc:TypeId×Value->X)(P:Program)(W:World)(h:List TypeId)(β:Type)(a:SA β)(Y:DataW X->Nat):Prop:=
 ∀{m:Mu}{H:AH}{base:Nat}{e:List Value}{g:List (DataW X)}{i:List MemPlace},gf m H W->RO H->(∀(j:Nat) (t:TypeId) (v:Value),h[j]? =J t->e[j]? =J v->Value.okWide P W .any base t v)->
  DataW.TrodAll enc P W 0 (λ_=>O) O h e g i->
  ∃d c f b,gf d c W/\RO c/\m.le d/\fL H c/\Vl d f e/\(a.bk b<=4611686018427387904->f.length=(a.HA b).length/\∀(j:Nat) (x:PV) (y:Value),(a.HA b)[j]? =J x->f[j]? =J y->PR (nY c) aa x y)/\a.ok b/\a.bk b<=jR (g.map Y)
def zCg:K6 X enc P W [] Unit SA.nil Y:=by
 intro m H base f c e r b d h;obtain⟨rfl,rfl,rfl⟩:=trodAll_nil h;exact⟨m,H,[],(),r,b,m.le_refl,.refl H,.nil m,λ_=>⟨rfl,λj x y a=>by simp[SA.nil]at a⟩,True.intro,cq _⟩
def W1{l:List TypeId}{g:Bool}{s:eC U}{k:SA β}(A:RL X enc P W t U g s Y)(B:K6 X enc P W l β k Y):K6 X enc P W (t::l) (U×β) (SA.cons g s k) Y:=by
 intro mx1 Hx1 base vs ds ps r H i h;obtain⟨v,Ip,dx1,ds',px1,qx1,rfl,rfl,rfl,E,Q⟩:=trodAll_cons h;obtain⟨m1,H1,y,a,M,L,za,w,R,o,I,b1⟩:=A r H (i 0 t v rfl rfl) E;obtain⟨G,m,T,b,N,n,e,f,S,p,K,b2⟩:=B M L (λj t v D F=>i (j+1) t v (by simpa using D) (by simpa using F)) Q;refine⟨G,m,y::T,(a,b),N,n,Mu.le_trans za e,w.trans f,.cons (R.mono e) S,λC=>?_,⟨I,K⟩,?_⟩
 ·simp only[SA.cons]at C;obtain⟨q,u⟩:=p (by omega);refine⟨by simp[SA.cons,q],λj x z c d=>?_⟩;cases j with
  |zero=>
   simp only[SA.cons,a5N,aS]at c d;subst c;subst d;exact zsh f (o (by omega))
  |succ j=>exact u j x z (by simpa[SA.cons]using c) (by simpa using d)
 ·simp only[SA.cons,jO,jR];omega
def zqM(r:laidOutB P=O):∀{c:List TypeId}{i:List Value}{g:List (DataW X)}{b:List MemPlace}{f:World}{e:Nat->Bool},(∀t,t∈c->P.readableRec t=O/\t<P.types.size)->
 DataW.TrodAll enc P W 0 (λ_=>O) O c i g b->(∀p∈b,W.sameAt f p)->(∀p∈b,e p.block=O)->DataW.TrodAll enc P f 0 e O c i g b:=by
 intro c;induction c with
 |nil=>
  intro i g b f e _ h _ _;obtain⟨rfl,rfl,rfl⟩:=trodAll_nil h;exact trodAll_mk0
 |cons t c ih=>
  intro i g b f e m h l k;obtain⟨v,s,d,u,p,q,rfl,rfl,rfl,n,o⟩:=trodAll_cons h;have j:=m t (qQ ..)
  exact trodAll_cons_mk (Go.WideElems.Trod_stays r j.1 j.2 n (λx a=>l x (tI _ a)) λx a=>k x (tI _ a))
   (ih (λt h=>m t (oH _ h)) o (λx a=>l x (zp _ a)) λx a=>k x (zp _ a))
def zyZ{X:Type}{enc:TypeId×Value->X}{f:Func}{s:ChangeSpec}{n z w u:Bool}{c:World}{args:Array Value}{v:Value}{e g:List (DataW X)}{h pa pv:List MemPlace}
(i:DataW.Whole enc P f.params.toList s.vars n W args.toList e g h)
(k:∀(b:Nat) (a:Nat->Bool) (hd:Bool),DataW.TrodAll enc P c b a hd f.resultTypes.toList (v.resultList f.resultTypes.size) (s.fn X (e++g)).results [])
(o:∀a:Nat->Bool,(∀p∈h,a p.block=O)->DataW.TrodAll enc P c 0 a O f.params.toList args.toList (s.fn X (e++g)).args pa)
(m:∀a:Nat->Bool,(∀p∈h,a p.block=O)->DataW.TrodVars enc P c a s.vars (s.fn X (e++g)).vars pv)
(y:h=pa++pv)(B:W.keptBut c (λ_=>False))(D:∀b,b<W.heap.size->c.heap[b]? =W.heap[b]?)
(x:∀(j:Nat) (t:TypeId) (r:Value),f.resultTypes[j]? =J t->(v.resultList f.resultTypes.size)[j]? =J r->Value.okWide P c .any 0 t r):
 s.post enc P f n z w u W args v c:=by
 subst y;have q:∀p∈pa++pv,(λb=>decide (b<W.heap.size)) p.block=O:=λp d=>xN (i.lt p d)
 have l:∀p∈pa++pv,(λ_:Nat=>O) p.block=O:=λ_ _=>rfl
 have F:=i.lt;refine⟨e,g,pa++pv,[],pa,pv,i,k _ _ _,o _ q,m _ q,World.keptBut_mono (λp f=>f.elim) B,λ_=>?_⟩;obtain⟨_,_,_,_,_,E,C⟩:=i;refine⟨x,_,_,pa++pv,⟨pa,pv,Go.ChangeShapes.trodAll_append (o _ l) (k _ _ _),m _ l,rfl,λb off d=>?_,C⟩,λp d _=>d⟩;have A:b<W.heap.size:=F _ d;have:=E b off d;simp only[World.frozen?]at this⊢;rw[D _ A];exact this
def zwU{f:FuncId}{n:List TypeId}{c:SA β}{d:Nat}(L:K6 X enc P W n β c Y)(hbd:d<=4611686018427387904)
(C:∀b,c.ok b->c.bk b<=d->∃w,aq P f ((c.HA b).map λx=>(Md.sh,x)) (λr o=>r=.bool O/\o=w))
{base:Nat}{args:Array Value}{s:List (DataW X)}{ps:List MemPlace}(G:∀(j:Nat) (t:TypeId) (v:Value),n[j]? =J t->args.toList[j]? =J v->Value.okWide P W .any base t v)
(T:DataW.TrodAll enc P W 0 (λ_=>O) O n args.toList s ps)(u:jR (s.map Y)<=d)(A:∀g,KW=J g->∃e I,W.heap[g]? =J (Obj.cells OT e I)):
 Calls P f args W λe h=>e=.returned (.bool O)/\W.keptBut h (λ_=>False)/\∀b,b<W.heap.size->h.heap[b]? =W.heap[b]? :=by
 obtain⟨m,H,ys,b,y,l,_,_,v1,D,o1,b1⟩:=L zy0 zAk G T;obtain⟨E,F⟩:=D (by omega);obtain⟨w,R⟩:=C b o1 (by omega)
 have z:=R.2 (nY H) ys (zCs y.lt) (by simpa using E) (λk ax1 v a K=>by
  rw[Ex]at a;cases i:(c.HA b)[k]? with
  |none=>rw[i]at a;cases a
  |some x=>
   rw[i]at a;simp only[mz,aS]at a;subst a
   exact F k x v i K)
 refine(z.2 m W args y v1 λg Q=>⟨A g Q,λid k u q=>by rw[l id k u]at q;cases q⟩).mono ?_;rintro e h ⟨cv,v,H',m',N,⟨r,outs,E',⟨a,_⟩,_,B⟩,M,_,_,p,_⟩;have S:=B.r;subst a;cases S;have:=KV M;subst this;exact⟨N,zri l p,zmE l p⟩
end
end Go.Pm
