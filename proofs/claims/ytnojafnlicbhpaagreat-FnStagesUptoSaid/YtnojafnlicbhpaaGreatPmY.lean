import Derived.Test.YtnojafnlicbhpaaGreatPmX
import Derived.ChangeSame
import Derived.WideKeyArgs
import Derived.OpenShut
import Derived.WideShapes
open Bool renaming false→aa,true→Z
open Option renaming none→ae,some→J
set_option linter.defProp false
namespace Go.Pm
open Go.Am Go.ChangeShapes Go.WideShapes
def uK:=@decide_eq_true
section
variable {P:Program}{X:Type}{enc:TypeId×Value->X}{W:World}{α β:Type}{ub:DataW X->Nat}
def TS(g:Bool)(cs:List PV):PV:=if g=Z then .agg cs else cs.headD .ax
def T3(X:Type)(enc:TypeId×Value->X)(P:Program)(W:World)(t:TypeId)(α:Type)(g:Bool)(s:eu α)(ub:DataW X->Nat):Prop:=
 ∀{m:Mu}{H:AH}{base:Nat}{v:Value}{d:DataW X}{ps:List MemPlace},gp m H W->RO H->Value.okWide P W .any base t v->DataW.Trod enc P W 0 (λ_=>Z) Z t v d ps->
  ∃m' H' y a,gp m' H' W/\RO H'/\m.le m'/\fJ H H'/\V m' y v/\(s.bk a<=4611686018427387904->PR (nX H') ae (TS g (s.pc a)) y)/\s.ok a/\s.bk a<=ub d
variable{t:TypeId}
def zDv{s:eu α}(hc:∀{base:Nat}{v:Value},Value.okWide P W .any base t v->v.cells.toList=[v])(hs:∀a,(s.pc a).length=1)(h:DH X enc P W t α (CR s ub)):T3 X enc P W t α aa s ub:=by
 intro m H base v d ps r mi d7 ht;obtain⟨iJ,ht⟩:=ht;rw[hc d7]at ht;obtain⟨m1,H1,as,a,r1,qo,yi,e1,v1,c1⟩:=h r mi ht
 obtain⟨y,rfl⟩:∃y,as=[y]:=by
  have:=v1.1
  match as,this with
  |[y],_=>exact⟨y,rfl⟩
 have hy:V m1 y _:=v1.2 0 y _ rfl rfl;refine⟨m1,H1,y,a,r1,qo,yi,e1,hy,λhb=>?_,c1.2.1,c1.2.2⟩
 obtain⟨x,hx⟩:∃x,s.pc a=[x]:=by
  have:=hs a
  match hq:s.pc a,this with
  |[x],_=>exact⟨x,rfl⟩
 have:=c1.1.2 hb 0 x y (by rw[hx];rfl) rfl;simpa[TS,hx]using this
def XO{e:TypeId}{es:Nat}{s:eu α}(ht:P.underlying t=J (.slice e))(h:DH X enc P W t (List α) (CR (eu.sl es s) ub)):T3 X enc P W t (List α) aa (eu.sl es s) ub:=
 zDv (λh=>by obtain⟨a,l,c,rfl⟩:=okWide_slice ht h;rfl) (λ_=>rfl) h
structure SA (β:Type) where
 FO:β->List PV
 bk:β->Nat
 ok:β->Prop
def SA.nil:SA Unit:=⟨λ_=>[],λ_=>0,λ_=>True⟩
def SA.cons(g:Bool)(s:eu α)(b:SA β):SA (α×β):=⟨λx=>TS g (s.pc x.1)::b.FO x.2,λx=>s.bk x.1+b.bk x.2,λx=>s.ok x.1/\b.ok x.2⟩
def Iv(X:Type)(enc:TypeId×Value->X)(P:Program)(W:World)(ts:List TypeId)(β:Type)(sa:SA β)(ub:DataW X->Nat):Prop:=
 ∀{m:Mu}{H:AH}{base:Nat}{vs:List Value}{ds:List (DataW X)}{ps:List MemPlace},gp m H W->RO H->(∀(j:Nat) (t:TypeId) (v:Value),ts[j]? =J t->vs[j]? =J v->Value.okWide P W .any base t v)->
  DataW.TrodAll enc P W 0 (λ_=>Z) Z ts vs ds ps->
  ∃m' H' ys b,gp m' H' W/\RO H'/\m.le m'/\fJ H H'/\Vl m' ys vs/\(sa.bk b<=4611686018427387904->ys.length=(sa.FO b).length/\∀(j:Nat) (x:PV) (y:Value),(sa.FO b)[j]? =J x->ys[j]? =J y->PR (nX H') ae x y)/\sa.ok b/\sa.bk b<=ka (ds.map ub)
def zDm:Iv X enc P W [] Unit SA.nil ub:=by
 intro m H base vs ds ps r mi d7 h;obtain⟨rfl,rfl,rfl⟩:=trodAll_nil h;exact⟨m,H,[],(),r,mi,m.le_refl,.refl H,.nil m,λ_=>⟨rfl,λj x y h1=>by simp[SA.nil]at h1⟩,True.intro,cB _⟩
def Zy{ts:List TypeId}{g:Bool}{s:eu α}{sa:SA β}(h1:T3 X enc P W t α g s ub)(h2:Iv X enc P W ts β sa ub):Iv X enc P W (t::ts) (α×β) (SA.cons g s sa) ub:=by
 intro m H base vs ds ps r mi d7 h;obtain⟨v,IW,d,ds',p,q,rfl,rfl,rfl,ht,tM⟩:=trodAll_cons h;obtain⟨m1,H1,y,a,r1,qo,yi,e1,v1,c1,o1,b1⟩:=h1 r mi (d7 0 t v rfl rfl) ht;obtain⟨m2,H2,ys,b,r2,UU,IL,e2,v2,c2,o2,b2⟩:=h2 r1 qo (λj t v hj hv=>d7 (j+1) t v (by simpa using hj) (by simpa using hv)) tM;refine⟨m2,H2,y::ys,(a,b),r2,UU,Mu.le_trans yi IL,e1.trans e2,.cons (v1.mono IL) v2,λhb=>?_,⟨o1,o2⟩,?_⟩
 ·simp only[SA.cons]at hb;obtain⟨c3,c4⟩:=c2 (by omega);refine⟨by simp[SA.cons,c3],λj x z g1 g2=>?_⟩;cases j with
  |zero=>
   simp only[SA.cons,a5w,aT]at g1 g2;subst g1;subst g2;exact zs8 e2 (c1 (by omega))
  |succ j=>exact c4 j x z (by simpa[SA.cons]using g1) (by simpa using g2)
 ·simp only[SA.cons,jT,ka];omega
def zqJ(hl:laidOutB P=Z):∀{ts:List TypeId}{vs:List Value}{ds:List (DataW X)}{ps:List MemPlace}{W':World}{Nu:Nat->Bool},(∀t,t∈ts->P.readableRec t=Z/\t<P.types.size)->
 DataW.TrodAll enc P W 0 (λ_=>Z) Z ts vs ds ps->(∀p∈ps,W.sameAt W' p)->(∀p∈ps,Nu p.block=Z)->DataW.TrodAll enc P W' 0 Nu Z ts vs ds ps:=by
 intro ts;induction ts with
 |nil=>
  intro vs ds ps W' Nu _ h _ _;obtain⟨rfl,rfl,rfl⟩:=trodAll_nil h;exact trodAll_mk0
 |cons t ts ih=>
  intro vs ds ps W' Nu ht h hs hp;obtain⟨v,IW,d,ds',p,q,rfl,rfl,rfl,h1,h2⟩:=trodAll_cons h;have hT:=ht t (qJ ..)
  exact trodAll_cons_mk (Go.WideElems.Trod_stays hl hT.1 hT.2 h1 (λx hx=>hs x (th _ hx)) λx hx=>hp x (th _ hx))
   (ih (λt h=>ht t (oB _ h)) h2 (λx hx=>hs x (zA _ hx)) λx hx=>hp x (zA _ hx))
def zzm{X:Type}{enc:TypeId×Value->X}{f:Func}{s:ChangeSpec}{apart fresh a4Y a39:Bool}{w':World}{args:Array Value}{v:Value}{ds gs:List (DataW X)}{BP pa pv:List MemPlace}
(hW:DataW.Whole enc P f.params.toList s.vars apart W args.toList ds gs BP)
(FD:∀(b:Nat) (sp:Nat->Bool) (hd:Bool),DataW.TrodAll enc P w' b sp hd f.resultTypes.toList (v.resultList f.resultTypes.size) (s.fn X (ds++gs)).results [])
(hargs:∀sp:Nat->Bool,(∀p∈BP,sp p.block=Z)->DataW.TrodAll enc P w' 0 sp Z f.params.toList args.toList (s.fn X (ds++gs)).args pa)
(a0U:∀sp:Nat->Bool,(∀p∈BP,sp p.block=Z)->DataW.TrodVars enc P w' sp s.vars (s.fn X (ds++gs)).vars pv)
(fW:BP=pa++pv)(hk:W.keptBut w' (λ_=>False))(hs:∀b,b<W.heap.size->w'.heap[b]? =W.heap[b]?)
(d7:∀(j:Nat) (t:TypeId) (r:Value),f.resultTypes[j]? =J t->(v.resultList f.resultTypes.size)[j]? =J r->Value.okWide P w' .any 0 t r):
 s.post enc P f apart fresh a4Y a39 W args v w':=by
 subst fW;have in0:∀p∈pa++pv,(λb=>decide (b<W.heap.size)) p.block=Z:=λp hp=>uK (hW.lt p hp)
 have WN:∀p∈pa++pv,(λ_:Nat=>Z) p.block=Z:=λ_ _=>rfl
 have lt0:=hW.lt;refine⟨ds,gs,pa++pv,[],pa,pv,hW,FD _ _ _,hargs _ in0,a0U _ in0,World.keptBut_mono (λp f=>f.elim) hk,λ_=>?_⟩;obtain⟨_,_,_,_,_,hz,hn⟩:=hW;refine⟨d7,_,_,pa++pv,⟨pa,pv,Go.ChangeShapes.trodAll_append (hargs _ WN) (FD _ _ _),a0U _ WN,rfl,λb off hp=>?_,hn⟩,λp hp _=>hp⟩;have hb:b<W.heap.size:=lt0 _ hp;have:=hz b off hp;simp only[World.frozen?]at this⊢;rw[hs _ hb];exact this
def zxz{f:FuncId}{ts:List TypeId}{sa:SA β}{TG:Nat}(hA:Iv X enc P W ts β sa ub)(hbd:TG<=4611686018427387904)
(a3X:∀b,sa.ok b->sa.bk b<=TG->∃os,au P f ((sa.FO b).map λx=>(Md.sh,x)) (λr o=>r=.bool Z/\o=os))
{base:Nat}{args:Array Value}{ds:List (DataW X)}{ps:List MemPlace}(d7:∀(j:Nat) (t:TypeId) (v:Value),ts[j]? =J t->args.toList[j]? =J v->Value.okWide P W .any base t v)
(ht:DataW.TrodAll enc P W 0 (λ_=>Z) Z ts args.toList ds ps)(hk:ka (ds.map ub)<=TG)(a2J:∀g,IR=J g->∃e fz,W.heap[g]? =J (Obj.cells PN e fz)):
 Calls P f args W λe W'=>e=.returned (.bool Z)/\W.keptBut W' (λ_=>False)/\∀b,b<W.heap.size->W'.heap[b]? =W.heap[b]? :=by
 obtain⟨m,H,ys,b,r1,qo,_,_,v1,c1,o1,b1⟩:=hA zzp zB5 d7 ht;obtain⟨c2,c3⟩:=c1 (by omega);obtain⟨os,hp⟩:=a3X b o1 (by omega)
 have Lf:=hp.2 (nX H) ys (zDj r1.lt) (by simpa using c2) (λk a v h1 h2=>by
  rw[Ew]at h1;cases hx:(sa.FO b)[k]? with
  |none=>rw[hx]at h1;cases h1
  |some x=>
   rw[hx]at h1;simp only[mA,aT]at h1;subst h1
   exact c3 k x v hx h2)
 refine(Lf.2 m W args r1 v1 λg hg=>⟨a2J g hg,λid k hk bc=>by rw[qo id k hk]at bc;cases bc⟩).mono ?_;rintro e W' ⟨cv,v,H',m',he,⟨r,outs,E',⟨h1,_⟩,_,a2u⟩,hV,_,_,Hf,_⟩;have hr:=a2u.r;subst h1;cases hr;have:=LM hV;subst this;exact⟨he,zrG qo Hf,zm2 qo Hf⟩
end
end Go.Pm
