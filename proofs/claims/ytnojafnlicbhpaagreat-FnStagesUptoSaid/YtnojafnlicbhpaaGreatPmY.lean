import Derived.Test.YtnojafnlicbhpaaGreatPmX
import Derived.ChangeSame
import Derived.WideKeyArgs
import Derived.OpenShut
import Derived.WideShapes
open Bool renaming false→aa,true→Z
open Option renaming none→ae,some→J
set_option linter.defProp false
namespace Go.Pm
open Go.Am Go.ChangeShapes Go.WideShapes
def t5:=@decide_eq_true
section
variable {P:Program}{X:Type}{enc:TypeId×Value->X}{W:World}{α β:Type}{ub:DataW X->Nat}
def TO(g:Bool)(cs:List PV):PV:=if g=Z then .agg cs else cs.headD .au
def Pv(X:Type)(enc:TypeId×Value->X)(P:Program)(W:World)(t:TypeId)(α:Type)(g:Bool)(s:ec α)(ub:DataW X->Nat):Prop:=
 ∀{m:Mu}{H:AH}{base:Nat}{v:Value}{d:DataW X}{ps:List MemPlace},fU m H W->RO H->Value.okWide P W .any base t v->DataW.Trod enc P W 0 (λ_=>Z) Z t v d ps->
  ∃m' H' y a,fU m' H' W/\RO H'/\m.le m'/\fu H H'/\V m' y v/\(s.bk a<=4611686018427387904->PR (nK H') ae (TO g (s.pc a)) y)/\s.ok a/\s.bk a<=ub d
variable{t:TypeId}
def zCE{s:ec α}(hc:∀{base:Nat}{v:Value},Value.okWide P W .any base t v->v.cells.toList=[v])(hs:∀a,(s.pc a).length=1)(h:Bo X enc P W t α (CR s ub)):Pv X enc P W t α aa s ub:=by
 intro m H base v d ps r lI dZ ht;obtain⟨ip,ht⟩:=ht;rw[hc dZ]at ht;obtain⟨m1,H1,as,a,r1,pC,xX,e1,v1,c1⟩:=h r lI ht
 obtain⟨y,rfl⟩:∃y,as=[y]:=by
  have:=v1.1
  match as,this with
  |[y],_=>exact⟨y,rfl⟩
 have hy:V m1 y _:=v1.2 0 y _ rfl rfl;refine⟨m1,H1,y,a,r1,pC,xX,e1,hy,λhb=>?_,c1.2.1,c1.2.2⟩
 obtain⟨x,hx⟩:∃x,s.pc a=[x]:=by
  have:=hs a
  match hq:s.pc a,this with
  |[x],_=>exact⟨x,rfl⟩
 have:=c1.1.2 hb 0 x y (by rw[hx];rfl) rfl;simpa[TO,hx]using this
def zAi{e:TypeId}{es:Nat}{s:ec α}(ht:P.underlying t=J (.slice e))(h:Bo X enc P W t (List α) (CR (ec.sl es s) ub)):Pv X enc P W t (List α) aa (ec.sl es s) ub:=
 zCE (λh=>by obtain⟨a,l,c,rfl⟩:=okWide_slice ht h;rfl) (λ_=>rfl) h
structure SA (β:Type) where
 EC:β->List PV
 bk:β->Nat
 ok:β->Prop
def SA.nil:SA Unit:=⟨λ_=>[],λ_=>0,λ_=>True⟩
def SA.cons(g:Bool)(s:ec α)(b:SA β):SA (α×β):=⟨λx=>TO g (s.pc x.1)::b.EC x.2,λx=>s.bk x.1+b.bk x.2,λx=>s.ok x.1/\b.ok x.2⟩
def IQ(X:Type)(enc:TypeId×Value->X)(P:Program)(W:World)(ts:List TypeId)(β:Type)(sa:SA β)(ub:DataW X->Nat):Prop:=
 ∀{m:Mu}{H:AH}{base:Nat}{vs:List Value}{ds:List (DataW X)}{ps:List MemPlace},fU m H W->RO H->(∀(j:Nat) (t:TypeId) (v:Value),ts[j]? =J t->vs[j]? =J v->Value.okWide P W .any base t v)->
  DataW.TrodAll enc P W 0 (λ_=>Z) Z ts vs ds ps->
  ∃m' H' ys b,fU m' H' W/\RO H'/\m.le m'/\fu H H'/\Vl m' ys vs/\(sa.bk b<=4611686018427387904->ys.length=(sa.EC b).length/\∀(j:Nat) (x:PV) (y:Value),(sa.EC b)[j]? =J x->ys[j]? =J y->PR (nK H') ae x y)/\sa.ok b/\sa.bk b<=jO (ds.map ub)
def zDm:IQ X enc P W [] Unit SA.nil ub:=by
 intro m H base vs ds ps r lI dZ h;obtain⟨rfl,rfl,rfl⟩:=trodAll_nil h;exact⟨m,H,[],(),r,lI,m.le_refl,.refl H,.nil m,λ_=>⟨rfl,λj x y h1=>by simp[SA.nil]at h1⟩,True.intro,cy _⟩
def We{ts:List TypeId}{g:Bool}{s:ec α}{sa:SA β}(h1:Pv X enc P W t α g s ub)(h2:IQ X enc P W ts β sa ub):IQ X enc P W (t::ts) (α×β) (SA.cons g s sa) ub:=by
 intro m H base vs ds ps r lI dZ h;obtain⟨v,HA,d,ds',p,q,rfl,rfl,rfl,ht,te⟩:=trodAll_cons h;obtain⟨m1,H1,y,a,r1,pC,xX,e1,v1,c1,o1,b1⟩:=h1 r lI (dZ 0 t v rfl rfl) ht;obtain⟨m2,H2,ys,b,r2,S9,Ig,e2,v2,c2,o2,b2⟩:=h2 r1 pC (λj t v hj hv=>dZ (j+1) t v (by simpa using hj) (by simpa using hv)) te;refine⟨m2,H2,y::ys,(a,b),r2,S9,Mu.le_trans xX Ig,e1.trans e2,.cons (v1.mono Ig) v2,λhb=>?_,⟨o1,o2⟩,?_⟩
 ·simp only[SA.cons]at hb;obtain⟨c3,c4⟩:=c2 (by omega);refine⟨by simp[SA.cons,c3],λj x z g1 g2=>?_⟩;cases j with
  |zero=>
   simp only[SA.cons,Acc,aT]at g1 g2;subst g1;subst g2;exact Wd e2 (c1 (by omega))
  |succ j=>exact c4 j x z (by simpa[SA.cons]using g1) (by simpa using g2)
 ·simp only[SA.cons,jD,jO];omega
def zqu(hl:laidOutB P=Z):∀{ts:List TypeId}{vs:List Value}{ds:List (DataW X)}{ps:List MemPlace}{W':World}{KS:Nat->Bool},(∀t,t∈ts->P.readableRec t=Z/\t<P.types.size)->
 DataW.TrodAll enc P W 0 (λ_=>Z) Z ts vs ds ps->(∀p∈ps,W.sameAt W' p)->(∀p∈ps,KS p.block=Z)->DataW.TrodAll enc P W' 0 KS Z ts vs ds ps:=by
 intro ts;induction ts with
 |nil=>
  intro vs ds ps W' KS _ h _ _;obtain⟨rfl,rfl,rfl⟩:=trodAll_nil h;exact trodAll_mk0
 |cons t ts ih=>
  intro vs ds ps W' KS ht h hs hp;obtain⟨v,HA,d,ds',p,q,rfl,rfl,rfl,h1,h2⟩:=trodAll_cons h;have hT:=ht t (p9 ..)
  exact trodAll_cons_mk (Go.WideElems.Trod_stays hl hT.1 hT.2 h1 (λx hx=>hs x (sG _ hx)) λx hx=>hp x (sG _ hx))
   (ih (λt h=>ht t (nU _ h)) h2 (λx hx=>hs x (yy _ hx)) λx hx=>hp x (yy _ hx))
def zzD{X:Type}{enc:TypeId×Value->X}{f:Func}{s:ChangeSpec}{apart fresh Abz Abm:Bool}{w':World}{args:Array Value}{v:Value}{ds gs:List (DataW X)}{yE pa pv:List MemPlace}
(hW:DataW.Whole enc P f.params.toList s.vars apart W args.toList ds gs yE)
(Fs:∀(b:Nat) (sp:Nat->Bool) (hd:Bool),DataW.TrodAll enc P w' b sp hd f.resultTypes.toList (v.resultList f.resultTypes.size) (s.fn X (ds++gs)).results [])
(hargs:∀sp:Nat->Bool,(∀p∈yE,sp p.block=Z)->DataW.TrodAll enc P w' 0 sp Z f.params.toList args.toList (s.fn X (ds++gs)).args pa)
(Aah:∀sp:Nat->Bool,(∀p∈yE,sp p.block=Z)->DataW.TrodVars enc P w' sp s.vars (s.fn X (ds++gs)).vars pv)
(fI:yE=pa++pv)(hk:W.keptBut w' (λ_=>False))(hs:∀b,b<W.heap.size->w'.heap[b]? =W.heap[b]?)
(dZ:∀(j:Nat) (t:TypeId) (r:Value),f.resultTypes[j]? =J t->(v.resultList f.resultTypes.size)[j]? =J r->Value.okWide P w' .any 0 t r):
 s.post enc P f apart fresh Abz Abm W args v w':=by
 subst fI;have YQ:∀p∈pa++pv,(λb=>decide (b<W.heap.size)) p.block=Z:=λp hp=>t5 (hW.lt p hp)
 have Wg:∀p∈pa++pv,(λ_:Nat=>Z) p.block=Z:=λ_ _=>rfl
 have lt0:=hW.lt;refine⟨ds,gs,pa++pv,[],pa,pv,hW,Fs _ _ _,hargs _ YQ,Aah _ YQ,World.keptBut_mono (λp f=>f.elim) hk,λ_=>?_⟩;obtain⟨_,_,_,_,_,hz,hn⟩:=hW;refine⟨dZ,_,_,pa++pv,⟨pa,pv,Go.ChangeShapes.trodAll_append (hargs _ Wg) (Fs _ _ _),Aah _ Wg,rfl,λb off hp=>?_,hn⟩,λp hp _=>hp⟩;have hb:b<W.heap.size:=lt0 _ hp;have:=hz b off hp;simp only[World.frozen?]at this⊢;rw[hs _ hb];exact this
def zyD{f:FuncId}{ts:List TypeId}{sa:SA β}{Pg:Nat}(hA:IQ X enc P W ts β sa ub)(hbd:Pg<=4611686018427387904)
(Abv:∀b,sa.ok b->sa.bk b<=Pg->∃os,ap P f ((sa.EC b).map λx=>(Md.sh,x)) (λr o=>r=.bool Z/\o=os))
{base:Nat}{args:Array Value}{ds:List (DataW X)}{ps:List MemPlace}(dZ:∀(j:Nat) (t:TypeId) (v:Value),ts[j]? =J t->args.toList[j]? =J v->Value.okWide P W .any base t v)
(ht:DataW.TrodAll enc P W 0 (λ_=>Z) Z ts args.toList ds ps)(hk:jO (ds.map ub)<=Pg)(Abx:∀g,Jq=J g->∃e fz,W.heap[g]? =J (Obj.cells N3 e fz)):
 Calls P f args W λe W'=>e=.returned (.bool Z)/\W.keptBut W' (λ_=>False)/\∀b,b<W.heap.size->W'.heap[b]? =W.heap[b]? :=by
 obtain⟨m,H,ys,b,r1,pC,_,_,v1,c1,o1,b1⟩:=hA zzB zAK dZ ht;obtain⟨c2,c3⟩:=c1 (by omega);obtain⟨os,hp⟩:=Abv b o1 (by omega)
 have Jm:=hp.2 (nK H) ys (zDo r1.lt) (by simpa using c2) (λk a v h1 h2=>by
  rw[Da]at h1;cases hx:(sa.EC b)[k]? with
  |none=>rw[hx]at h1;cases h1
  |some x=>
   rw[hx]at h1;simp only[l9,aT]at h1;subst h1
   exact c3 k x v hx h2)
 refine(Jm.2 m W args r1 v1 λg hg=>⟨Abx g hg,λid k hk bc=>by rw[pC id k hk]at bc;cases bc⟩).mono ?_;rintro e W' ⟨cv,v,H',m',he,⟨r,outs,E',⟨h1,_⟩,_,AaY⟩,hV,_,_,D3,_⟩;have hr:=AaY.r;subst h1;cases hr;have:=Kg hV;subst this;exact⟨he,zrB pC D3,X6 pC D3⟩
end
end Go.Pm
