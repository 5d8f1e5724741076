import Derived.Test.YtplemekcclpaoaaGreatDoorPmX
import Derived.ChangeSame
import Derived.WideKeyArgs
import Derived.OpenShut
import Derived.WideShapes
namespace Go.Pm
open Go.Am Go.ChangeShapes Go.WideShapes
section
variable {P:Program}{X:Type}{enc:TypeId×Value→X}{W:World}{α β:Type}{ub:DataW X→Nat}
def zBH(g:Bool)(cs:List PV):PV:=if g=true then .agg cs else cs.headD .junk
def zwq(X:Type)(enc:TypeId×Value→X)(P:Program)(W:World)(t:TypeId)(α:Type)(g:Bool)(s:Shp α)(ub:DataW X→Nat):Prop:=
 ∀{m:Mu}{H:AH}{base:Nat}{v:Value}{d:DataW X}{ps:List MemPlace},RelH m H W→RO H→Value.okWide P W .any base t v→DataW.Trod enc P W 0 (fun _=>true) true t v d ps→
  ∃m' H' y a,RelH m' H' W∧RO H'∧m.le m'∧Ext H H'∧V m' y v∧(s.bk a≤4611686018427387904→PR (frz H') none (zBH g (s.pc a)) y)∧s.ok a∧s.bk a≤ub d
theorem zyZ{t:TypeId}{fs:Array Field}{s:Shp α}(ht:P.underlying t=some (.struct fs))(h:zgY X enc P W t α (CR s ub)):zwq X enc P W t α true s ub:=by
 intro m H base v d ps r hro hok hd;obtain⟨cs,rfl,_⟩:=okWide_struct ht hok;obtain⟨fuel,hd⟩:=hd;obtain⟨m1,H1,as,a,r1,ro1,le1,e1,v1,c1⟩:=h r hro hd;have hv:Vl m1 as cs.toList:=v1;refine⟨m1,H1,.agg as.toArray,a,r1,ro1,le1,e1,.agg (by simpa using hv.1) (fun i x y h1 h2=>hv.2 i x y (by simpa using h1) h2),fun hb=>?_,c1.2.1,c1.2.2⟩;show PR _ none (.agg (s.pc a)) _;exact .agg (by simpa using c1.1.1.symm) fun j x y h1 h2=>c1.1.2 hb j x y h1 (by simpa using h2)
structure SA (β:Type) where
 pvs:β→List PV
 bk:β→Nat
 ok:β→Prop
def SA.nil:SA Unit:=⟨fun _=>[],fun _=>0,fun _=>True⟩
def SA.cons(g:Bool)(s:Shp α)(b:SA β):SA (α×β):=⟨fun x=>zBH g (s.pc x.1)::b.pvs x.2,fun x=>s.bk x.1+b.bk x.2,fun x=>s.ok x.1∧b.ok x.2⟩
def zot(X:Type)(enc:TypeId×Value→X)(P:Program)(W:World)(ts:List TypeId)(β:Type)(sa:SA β)(ub:DataW X→Nat):Prop:=
 ∀{m:Mu}{H:AH}{base:Nat}{vs:List Value}{ds:List (DataW X)}{ps:List MemPlace},RelH m H W→RO H→(∀(j:Nat) (t:TypeId) (v:Value),ts[j]? =some t→vs[j]? =some v→Value.okWide P W .any base t v)→
  DataW.TrodAll enc P W 0 (fun _=>true) true ts vs ds ps→
  ∃m' H' ys b,RelH m' H' W∧RO H'∧m.le m'∧Ext H H'∧Vl m' ys vs∧(sa.bk b≤4611686018427387904→ys.length=(sa.pvs b).length∧∀(j:Nat) (x:PV) (y:Value),(sa.pvs b)[j]? =some x→ys[j]? =some y→PR (frz H') none x y)∧sa.ok b∧sa.bk b≤zdR (ds.map ub)
theorem zAG:zot X enc P W [] Unit SA.nil ub:=by
 intro m H base vs ds ps r hro hok h;obtain⟨rfl,rfl,rfl⟩:=trodAll_nil h;exact⟨m,H,[],(),r,hro,m.le_refl,.refl H,.nil m,fun _=>⟨rfl,fun j x y h1=>by simp[SA.nil]at h1⟩,True.intro,Nat.le_refl _⟩
theorem zt1{t:TypeId}{ts:List TypeId}{g:Bool}{s:Shp α}{sa:SA β}(h1:zwq X enc P W t α g s ub)(h2:zot X enc P W ts β sa ub):zot X enc P W (t::ts) (α×β) (SA.cons g s sa) ub:=by
 intro m H base vs ds ps r hro hok h;obtain⟨v,vs',d,ds',p,q,rfl,rfl,rfl,ht,hts⟩:=trodAll_cons h;obtain⟨m1,H1,y,a,r1,ro1,le1,e1,v1,c1,o1,b1⟩:=h1 r hro (hok 0 t v rfl rfl) ht;obtain⟨m2,H2,ys,b,r2,ro2,le2,e2,v2,c2,o2,b2⟩:=h2 r1 ro1 (fun j t v hj hv=>hok (j+1) t v (by simpa using hj) (by simpa using hv)) hts;refine⟨m2,H2,y::ys,(a,b),r2,ro2,Mu.le_trans le1 le2,e1.trans e2,.cons (v1.mono le2) v2,fun hb=>?_,⟨o1,o2⟩,?_⟩
 ·simp only[SA.cons]at hb;obtain⟨c3,c4⟩:=c2 (by omega);refine⟨by simp[SA.cons,c3],fun j x z g1 g2=>?_⟩;cases j with
  |zero=>
   simp only[SA.cons,List.getElem?_cons_zero,Option.some.injEq]at g1 g2;subst g1;subst g2;exact znP e2 (c1 (by omega))
  |succ j=>exact c4 j x z (by simpa[SA.cons]using g1) (by simpa using g2)
 ·simp only[SA.cons,List.map_cons,zdR];omega
theorem zpi(hl:laidOutB P=true):∀{ts:List TypeId}{vs:List Value}{ds:List (DataW X)}{ps:List MemPlace}{W':World}{sp':Nat→Bool},(∀t,t∈ts→P.readableRec t=true∧t<P.types.size)→
 DataW.TrodAll enc P W 0 (fun _=>true) true ts vs ds ps→(∀p∈ps,W.sameAt W' p)→(∀p∈ps,sp' p.block=true)→DataW.TrodAll enc P W' 0 sp' true ts vs ds ps:=by
 intro ts;induction ts with
 |nil=>
  intro vs ds ps W' sp' _ h _ _;obtain⟨rfl,rfl,rfl⟩:=trodAll_nil h;exact trodAll_mk0
 |cons t ts ih=>
  intro vs ds ps W' sp' ht h hs hp;obtain⟨v,vs',d,ds',p,q,rfl,rfl,rfl,h1,h2⟩:=trodAll_cons h;have hT:=ht t (List.mem_cons_self ..)
  exact trodAll_cons_mk (Go.WideElems.Trod_stays hl hT.1 hT.2 h1 (fun x hx=>hs x (List.mem_append_left _ hx)) fun x hx=>hp x (List.mem_append_left _ hx))
   (ih (fun t h=>ht t (List.mem_cons_of_mem _ h)) h2 (fun x hx=>hs x (List.mem_append_right _ hx)) fun x hx=>hp x (List.mem_append_right _ hx))
theorem zxI{X:Type}{enc:TypeId×Value→X}{f:Func}{s:ChangeSpec}{apart fresh handsOn again:Bool}{w':World}{args:Array Value}{v:Value}{ds gs:List (DataW X)}{before pa pv:List MemPlace}
(hW:DataW.Whole enc P f.params.toList s.vars apart W args.toList ds gs before)
(hres:∀(b:Nat) (sp:Nat→Bool) (hd:Bool),DataW.TrodAll enc P w' b sp hd f.resultTypes.toList (v.resultList f.resultTypes.size) (s.fn X (ds++gs)).results [])
(hargs:∀sp:Nat→Bool,(∀p∈before,sp p.block=true)→DataW.TrodAll enc P w' 0 sp true f.params.toList args.toList (s.fn X (ds++gs)).args pa)
(hvars:∀sp:Nat→Bool,(∀p∈before,sp p.block=true)→DataW.TrodVars enc P w' sp s.vars (s.fn X (ds++gs)).vars pv)
(hps:before=pa++pv)(hk:W.keptBut w' (fun _=>False))(hs:∀b,b<W.heap.size→w'.heap[b]? =W.heap[b]?)
(hok:∀(j:Nat) (t:TypeId) (r:Value),f.resultTypes[j]? =some t→(v.resultList f.resultTypes.size)[j]? =some r→Value.okWide P w' .any 0 t r):
 s.post enc P f apart fresh handsOn again W args v w':=by
 subst hps;have in0:∀p∈pa++pv,(fun b=>decide (b<W.heap.size)) p.block=true:=fun p hp=>decide_eq_true (hW.lt p hp)
 have all0:∀p∈pa++pv,(fun _:Nat=>true) p.block=true:=fun _ _=>rfl
 have lt0:=hW.lt;refine⟨ds,gs,pa++pv,[],pa,pv,hW,hres _ _ _,hargs _ in0,hvars _ in0,World.keptBut_mono (fun p f=>f.elim) hk,fun _=>?_⟩;obtain⟨_,_,_,_,_,hz,hn⟩:=hW;refine⟨hok,_,_,pa++pv,⟨pa,pv,Go.ChangeShapes.trodAll_append (hargs _ all0) (hres _ _ _),hvars _ all0,rfl,fun b off hp=>?_,hn⟩,fun p hp _=>hp⟩;have hb:b<W.heap.size:=lt0 _ hp;have:=hz b off hp;simp only[World.frozen?]at this⊢;rw[hs _ hb];exact this
theorem zvw{f:FuncId}{ts:List TypeId}{sa:SA β}{bound:Nat}(hA:zot X enc P W ts β sa ub)(hbd:bound≤4611686018427387904)
(hlaw:∀b,sa.ok b→sa.bk b≤bound→∃os,PCalls P f ((sa.pvs b).map fun x=>(Md.sh,x)) (fun r o=>r=.bool true∧o=os))
{base:Nat}{args:Array Value}{ds:List (DataW X)}{ps:List MemPlace}(hok:∀(j:Nat) (t:TypeId) (v:Value),ts[j]? =some t→args.toList[j]? =some v→Value.okWide P W .any base t v)
(ht:DataW.TrodAll enc P W 0 (fun _=>true) true ts args.toList ds ps)(hk:zdR (ds.map ub)≤bound)(htab:∀g,zlX=some g→∃e fz,W.heap[g]? =some (Obj.cells zmm e fz)):
 Calls P f args W fun e W'=>e=.returned (.bool true)∧W.keptBut W' (fun _=>False)∧∀b,b<W.heap.size→W'.heap[b]? =W.heap[b]? :=by
 obtain⟨m,H,ys,b,r1,ro1,_,_,v1,c1,o1,b1⟩:=hA zyv zz3 hok ht;obtain⟨c2,c3⟩:=c1 (by omega);obtain⟨os,hp⟩:=hlaw b o1 (by omega)
 have hcall:=hp.2 (frz H) ys (zAB r1.lt) (by simpa using c2) (fun k a v h1 h2=>by
  rw[List.getElem?_map]at h1;cases hx:(sa.pvs b)[k]? with
  |none=>rw[hx]at h1;cases h1
  |some x=>
   rw[hx]at h1;simp only[Option.map_some,Option.some.injEq]at h1;subst h1
   exact c3 k x v hx h2)
 refine(hcall.2 m W args r1 v1 fun g hg=>⟨htab g hg,fun id k hk hrw=>by rw[ro1 id k hk]at hrw;cases hrw⟩).mono ?_;rintro e W' ⟨cv,v,H',m',he,⟨r,outs,E',⟨h1,_⟩,_,hpost⟩,hV,_,_,hkeep,_⟩;have hr:=hpost.r;subst h1;cases hr;have:=zju hV;subst this;exact⟨he,zqp ro1 hkeep,zlE ro1 hkeep⟩
end
end Go.Pm
