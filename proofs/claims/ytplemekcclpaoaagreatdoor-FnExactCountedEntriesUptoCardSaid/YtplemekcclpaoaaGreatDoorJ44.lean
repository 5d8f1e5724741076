/-
  THE LAW 'FnExactCountedEntries', of the second form: the contract of the law's function turned into the row's statement.
-/
import Derived.Test.YtplemekcclpaoaaGreatDoorY44b
import Derived.Test.YtplemekcclpaoaaGreatDoorPmY
import Derived.Test.YtplemekcclpaoaaGreatDoorCards
import Derived.Test.YtplemekcclpaoaaGreatDoorTie
import Derived.WalkKit
import Derived.ProofKit
import Derived.OpenShut
import Derived.JoinedCond
import Derived.Deep.DeepHandedRow
import Derived.Lib.LaidTab
namespace Go.Proofs.YtplemekcclpaoaaGreatDoor.l44
open Go.ChangeShapes Go.WideShapes Go.ChangeAt Go.RowKit Go.Am Go.Pm
set_option linter.unusedVariables false
set_option linter.unusedSimpArgs false
set_option maxRecDepth 100000
variable{W:World}{cs:List Value}{fuel:Nat}
theorem one_le{H:Type}(d:DataW H):1≤Rows.uptoBulk d:=by
 cases d with
 |lit l=>cases l<;>simp[Rows.uptoBulk]
 |nil=>simp[Rows.uptoBulk]
 |ptr d=>simp[Rows.uptoBulk]
 |slice elems spare=>simp[Rows.uptoBulk]
 |agg zhY=>simp[Rows.uptoBulk]
 |iface t d=>simp[Rows.uptoBulk]
 |map entries=>simp[Rows.uptoBulk]
 |held h=>simp[Rows.uptoBulk]
theorem all_eq{H:Type}(l:List (DataW H)):Rows.uptoBulkAll l=zdR (l.map Rows.uptoBulk):=by
 induction l with
 |nil=>rfl
 |cons x r ih=>simp only[Rows.uptoBulkAll,List.map_cons,zdR,ih]
theorem hu{H:Type}:Ub (X:=H) Rows.uptoBulk:=by
 refine⟨one_le,fun D sp=>?_,fun D=>?_,fun s=>?_⟩
 ·simp only[Rows.uptoBulk,all_eq];omega
 ·simp only[Rows.uptoBulk,all_eq];omega
 ·simp only[Rows.uptoBulk];omega
def shp23:Shp Group:=Shp.st (Shp.cons (Shp.int .i64) (Shp.cons (Shp.int .i64) (Shp.cons (Shp.int .i64) Shp.nil))) (fun x=>(x.P,x.Q,x.G,()))
theorem fl23{X:Type}{enc:TypeId×Value→X}{x:DataW X×List MemPlace}(h:DataW.trod enc Tryz.prog W 0 (fun _=>true) true fuel 23 cs=some x):
 ∃(fuel':Nat) (xs:List (DataW X×List MemPlace)),x.1=.agg (xs.map (·.1))∧znE X enc Tryz.prog W fuel' [(3,1),(3,1),(3,1)] cs xs:=by
 obtain⟨xs,n,rfl,rfl,hl,hxs,hf⟩:=DataW.trod_struct Tryz.underlying23 h;have hc:Tryz.prog.cellsOf 23=3:=by kernel_rfl
 have hc0:Tryz.prog.cellsOf 3=1:=by kernel_rfl
 have hc1:Tryz.prog.cellsOf 3=1:=by kernel_rfl
 have hc2:Tryz.prog.cellsOf 3=1:=by kernel_rfl
 rw[hc]at hl;have hxs:xs.length=3:=hxs
 match cs,hl,xs,hxs with
 |[c0,c1,c2],_,[x0,x1,x2],_=>
  have h0:=hf 0 _ rfl;have h1:=hf 1 _ rfl;have h2:=hf 2 _ rfl;simp only[hc0,hc1,hc2,List.drop_zero,List.drop_succ_cons,List.take_succ_cons,List.take_zero,List.getElem?_cons_zero,List.getElem?_cons_succ]at h0 h1 h2;exact⟨n,_,rfl,x0,_,rfl,rfl,h0,x1,_,rfl,rfl,h1,x2,_,rfl,rfl,h2,rfl,rfl⟩
theorem rd23{X:Type}{enc:TypeId×Value→X}{ub:DataW X→Nat}(hu:Ub ub):zgY X enc Tryz.prog W 23 Group (CR shp23 ub):=
 zqS (fun p=>Group.mk p.1 p.2.1 p.2.2.1) (fun _=>rfl) hu (zfh (zkp hu Tryz.underlying3) (zfh (zkp hu Tryz.underlying3) (zfh (zkp hu Tryz.underlying3) zoo))) fl23
theorem rd28{X:Type}{enc:TypeId×Value→X}{ub:DataW X→Nat}(hu:Ub ub):zgY X enc Tryz.prog W 28 (List Int) (CR (Shp.sl 1 (Shp.int .i64)) ub):=
 zy1 hu Tryz.underlying28 (show Tryz.prog.cellsOf 3=1 by kernel_rfl) (by decide) (fun _=>rfl) (fun _=>Nat.le_refl 1) (zkp hu Tryz.underlying3)
def shp75:Shp Proof:=Shp.st (Shp.cons (Shp.sl 1 (Shp.int .i64)) (Shp.cons (Shp.sl 1 (Shp.int .i64)) (Shp.cons (Shp.sl 1 (Shp.int .i64)) Shp.nil))) (fun x=>(x.Commits,x.Challenges,x.Responses,()))
theorem fl75{X:Type}{enc:TypeId×Value→X}{x:DataW X×List MemPlace}(h:DataW.trod enc Tryz.prog W 0 (fun _=>true) true fuel 75 cs=some x):
 ∃(fuel':Nat) (xs:List (DataW X×List MemPlace)),x.1=.agg (xs.map (·.1))∧znE X enc Tryz.prog W fuel' [(28,1),(28,1),(28,1)] cs xs:=by
 obtain⟨xs,n,rfl,rfl,hl,hxs,hf⟩:=DataW.trod_struct Tryz.underlying75 h;have hc:Tryz.prog.cellsOf 75=3:=by kernel_rfl
 have hc0:Tryz.prog.cellsOf 28=1:=by kernel_rfl
 have hc1:Tryz.prog.cellsOf 28=1:=by kernel_rfl
 have hc2:Tryz.prog.cellsOf 28=1:=by kernel_rfl
 rw[hc]at hl;have hxs:xs.length=3:=hxs
 match cs,hl,xs,hxs with
 |[c0,c1,c2],_,[x0,x1,x2],_=>
  have h0:=hf 0 _ rfl;have h1:=hf 1 _ rfl;have h2:=hf 2 _ rfl;simp only[hc0,hc1,hc2,List.drop_zero,List.drop_succ_cons,List.take_succ_cons,List.take_zero,List.getElem?_cons_zero,List.getElem?_cons_succ]at h0 h1 h2;exact⟨n,_,rfl,x0,_,rfl,rfl,h0,x1,_,rfl,rfl,h1,x2,_,rfl,rfl,h2,rfl,rfl⟩
theorem rd75{X:Type}{enc:TypeId×Value→X}{ub:DataW X→Nat}(hu:Ub ub):zgY X enc Tryz.prog W 75 Proof (CR shp75 ub):=
 zqS (fun p=>Proof.mk p.1 p.2.1 p.2.2.1) (fun _=>rfl) hu (zfh (rd28 hu) (zfh (rd28 hu) (zfh (rd28 hu) zoo))) fl75
def shp77:Shp Entry:=Shp.st (Shp.cons (Shp.int .i64) (Shp.cons (Shp.int .i64) (Shp.cons (Shp.sl 1 (Shp.int .i64)) (Shp.cons shp75 Shp.nil)))) (fun x=>(x.Kind,x.Author,x.Data,x.Sign,()))
theorem fl77{X:Type}{enc:TypeId×Value→X}{x:DataW X×List MemPlace}(h:DataW.trod enc Tryz.prog W 0 (fun _=>true) true fuel 77 cs=some x):
 ∃(fuel':Nat) (xs:List (DataW X×List MemPlace)),x.1=.agg (xs.map (·.1))∧znE X enc Tryz.prog W fuel' [(3,1),(3,1),(28,1),(75,3)] cs xs:=by
 obtain⟨xs,n,rfl,rfl,hl,hxs,hf⟩:=DataW.trod_struct Tryz.underlying77 h;have hc:Tryz.prog.cellsOf 77=6:=by kernel_rfl
 have hc0:Tryz.prog.cellsOf 3=1:=by kernel_rfl
 have hc1:Tryz.prog.cellsOf 3=1:=by kernel_rfl
 have hc2:Tryz.prog.cellsOf 28=1:=by kernel_rfl
 have hc3:Tryz.prog.cellsOf 75=3:=by kernel_rfl
 rw[hc]at hl;have hxs:xs.length=4:=hxs
 match cs,hl,xs,hxs with
 |[c0,c1,c2,c3,c4,c5],_,[x0,x1,x2,x3],_=>
  have h0:=hf 0 _ rfl;have h1:=hf 1 _ rfl;have h2:=hf 2 _ rfl;have h3:=hf 3 _ rfl;simp only[hc0,hc1,hc2,hc3,List.drop_zero,List.drop_succ_cons,List.take_succ_cons,List.take_zero,List.getElem?_cons_zero,List.getElem?_cons_succ]at h0 h1 h2 h3;exact⟨n,_,rfl,x0,_,rfl,rfl,h0,x1,_,rfl,rfl,h1,x2,_,rfl,rfl,h2,x3,_,rfl,rfl,h3,rfl,rfl⟩
theorem rd77{X:Type}{enc:TypeId×Value→X}{ub:DataW X→Nat}(hu:Ub ub):zgY X enc Tryz.prog W 77 Entry (CR shp77 ub):=
 zqS (fun p=>Entry.mk p.1 p.2.1 p.2.2.1 p.2.2.2.1) (fun _=>rfl) hu (zfh (zkp hu Tryz.underlying3) (zfh (zkp hu Tryz.underlying3) (zfh (rd28 hu) (zfh (rd75 hu) zoo)))) fl77
theorem rd29{X:Type}{enc:TypeId×Value→X}{ub:DataW X→Nat}(hu:Ub ub):zgY X enc Tryz.prog W 29 (List Entry) (CR (Shp.sl 6 shp77) ub):=
 zy1 hu Tryz.underlying29 (show Tryz.prog.cellsOf 77=6 by kernel_rfl) (by decide) (fun _=>rfl) (fun _=>by show 1≤1+_;omega) (rd77 hu)
def shp31:Shp Board:=Shp.st (Shp.cons (Shp.sl 1 (Shp.int .i64)) (Shp.cons (Shp.sl 6 shp77) Shp.nil)) (fun x=>(x.Keys,x.Entries,()))
theorem fl31{X:Type}{enc:TypeId×Value→X}{x:DataW X×List MemPlace}(h:DataW.trod enc Tryz.prog W 0 (fun _=>true) true fuel 31 cs=some x):
 ∃(fuel':Nat) (xs:List (DataW X×List MemPlace)),x.1=.agg (xs.map (·.1))∧znE X enc Tryz.prog W fuel' [(28,1),(29,1)] cs xs:=by
 obtain⟨xs,n,rfl,rfl,hl,hxs,hf⟩:=DataW.trod_struct Tryz.underlying31 h;have hc:Tryz.prog.cellsOf 31=2:=by kernel_rfl
 have hc0:Tryz.prog.cellsOf 28=1:=by kernel_rfl
 have hc1:Tryz.prog.cellsOf 29=1:=by kernel_rfl
 rw[hc]at hl;have hxs:xs.length=2:=hxs
 match cs,hl,xs,hxs with
 |[c0,c1],_,[x0,x1],_=>
  have h0:=hf 0 _ rfl;have h1:=hf 1 _ rfl;simp only[hc0,hc1,List.drop_zero,List.drop_succ_cons,List.take_succ_cons,List.take_zero,List.getElem?_cons_zero,List.getElem?_cons_succ]at h0 h1;exact⟨n,_,rfl,x0,_,rfl,rfl,h0,x1,_,rfl,rfl,h1,rfl,rfl⟩
theorem rd31{X:Type}{enc:TypeId×Value→X}{ub:DataW X→Nat}(hu:Ub ub):zgY X enc Tryz.prog W 31 Board (CR shp31 ub):=
 zqS (fun p=>Board.mk p.1 p.2.1) (fun _=>rfl) hu (zfh (rd28 hu) (zfh (rd29 hu) zoo)) fl31
def sa:SA (Group×Board×Unit):=(SA.cons true shp23 (SA.cons true shp31 SA.nil))
theorem argsR{X:Type}{enc:TypeId×Value→X}{ub:DataW X→Nat}(hu:Ub ub):zot X enc Tryz.prog W [23,31] (Group×Board×Unit) sa ub:=(zt1 (zyZ Tryz.underlying23 (rd23 hu)) (zt1 (zyZ Tryz.underlying31 (rd31 hu)) zAG))
theorem own:ownKnob Tryz.prog.godebug=none:=by kernel_rfl
theorem laid:laidOutB Tryz.prog=true:=by kernel_rfl
theorem plain0(b:Group×Board×Unit)(ho:sa.ok b)(hb:sa.bk b≤1048576):zb2 (b.1) (b.2.1)=some true:=by
 obtain⟨x,y,u⟩:=b;have hb:_+(shp31.bk y+_)≤1048576:=hb
 have li:∀l:List Int,l.length≤1+zdR (l.map fun _=>1):=fun l=>by
  have:=zpw (f:=fun _:Int=>1) (fun _=>Nat.le_refl 1) l;omega
 have hp:∀p:Proof,p.Commits.length≤shp75.bk p∧p.Challenges.length≤shp75.bk p∧p.Responses.length≤shp75.bk p:=fun p=>by
  have h1:=li p.Commits;have h2:=li p.Challenges;have h3:=li p.Responses;have e:shp75.bk p=1+((1+zdR (p.Commits.map fun _=>1))+((1+zdR (p.Challenges.map fun _=>1))+((1+zdR (p.Responses.map fun _=>1))+0))):=rfl;omega
 have he:∀e:Entry,1≤shp77.bk e∧e.Data.length≤shp77.bk e∧shp75.bk e.Sign≤shp77.bk e:=fun e=>by
  have h1:=li e.Data;have e:shp77.bk e=1+(1+(1+((1+zdR (e.Data.map fun _=>1))+(shp75.bk e.Sign+0)))):=rfl;omega
 have hbo:∀b:Board,shp31.bk b≤1048576→zgN b:=fun b hb=>by
  have h1:=li b.Keys;have e:shp31.bk b=1+((1+zdR (b.Keys.map fun _=>1))+((1+zdR (b.Entries.map shp77.bk))+0)):=rfl;have h2:=zpw (fun z=>(he z).1) b.Entries;refine⟨by omega,by omega,fun z hz=>?_⟩;have h3:=ztm (f:=shp77.bk) hz;have h4:=he z;have h5:=hp z.Sign;exact⟨by omega,by omega,by omega,by omega⟩
 exact zCg x y (hbo y (by omega))
theorem plain(b:Group×Board×Unit)(ho:sa.ok b)(hb:sa.bk b≤1048576):∃os,PCalls Tryz.prog 4 ((sa.pvs b).map fun x=>(Md.sh,x)) (fun r o=>r=.bool true∧o=os):=
 ⟨_,zir (plain0 b ho hb)⟩
theorem gTab:Tryz.prog.globalNamed "internal/strconv.uint64pow10" =some 0:=by kernel_rfl
theorem gTy:(Tryz.prog.globals[0]?).map (·.type)=some 235:=by kernel_rfl
theorem gU:Tryz.prog.underlying 235=some (.array 20 173):=by kernel_rfl
theorem gE:Tryz.prog.underlying 173=some (.int .u64):=by kernel_rfl
theorem gC:Tryz.prog.cellsOf 235=20:=by kernel_rfl
theorem gD:Tryz.prog.cellsOf 173=1:=by kernel_rfl
def zs:List Int:=[1,10,100,1000,10000,100000,1000000,10000000,100000000,1000000000,10000000000,100000000000,1000000000000,10000000000000,100000000000000,1000000000000000,10000000000000000,100000000000000000,1000000000000000000,10000000000000000000]
theorem zsA:(zs.map fun z=>Value.int .u64 z).toArray=zmm:=by kernel_rfl
theorem tab(h:laidMetH Tryz.prog Rows.fnExactCountedEntriesUptoRow.laid W):∀g,zlX=some g→∃e fz,W.heap[g]? =some (Obj.cells zmm e fz):=by
 intro g hg;unfold zlX at hg;obtain rfl:=Option.some.inj hg;have h:laidMet Tryz.prog [("math/bits.deBruijn32tab",Rows.laid_math_bits_deBruijn32tab),("math/bits.deBruijn64tab",Rows.laid_math_bits_deBruijn64tab),("internal/strconv.uint64pow10",Lib.tabData .u64 zs)] W:=h;obtain⟨ps,⟨_,_,_,_,_,_,_,_,_,_,⟨_,_,_,_,_,_,_,_,_,_,⟨g',t',cs,fuel,p,q,hg',ht',hvar,hd,_⟩,_⟩,_⟩,_⟩:=h;obtain rfl:=Option.some.inj (gTab.symm.trans hg');obtain rfl:=Option.some.inj (gTy.symm.trans ht')
 have hT:Lib.TabIs Tryz.prog W "internal/strconv.uint64pow10" .u64 zs:=by
  unfold Lib.TabIs;rw[hvar,←Lib.cells_of_tab gU gE gD gC hd]
 unfold Lib.TabIs World.var? at hT;rw[gTab,Option.bind_some]at hT;split at hT
 ·rename_i cs e fz hx;rw[zsA]at hT;obtain rfl:=Option.some.inj hT;exact⟨e,fz,hx⟩
 ·cases hT
noncomputable def laidWorld(os:Os):World:=
 {World.holding Tryz.prog os ⟨#[],#[],[]⟩with heap:=((((World.holding Tryz.prog os ⟨#[],#[],[]⟩).heap.modify 0 fun
  | .cells _ t frozen=>.cells #[.int .u64 1,.int .u64 10,.int .u64 100,.int .u64 1000,.int .u64 10000,.int .u64 100000,.int .u64 1000000,.int .u64 10000000,.int .u64 100000000,.int .u64 1000000000,.int .u64 10000000000,.int .u64 100000000000,.int .u64 1000000000000,.int .u64 10000000000000,.int .u64 100000000000000,.int .u64 1000000000000000,.int .u64 10000000000000000,.int .u64 100000000000000000,.int .u64 1000000000000000000,.int .u64 10000000000000000000] t frozen
  |o=>o).modify 1 fun
  | .cells _ t frozen=>.cells #[.int .u8 0,.int .u8 1,.int .u8 28,.int .u8 2,.int .u8 29,.int .u8 14,.int .u8 24,.int .u8 3,.int .u8 30,.int .u8 22,.int .u8 20,.int .u8 15,.int .u8 25,.int .u8 17,.int .u8 4,.int .u8 8,.int .u8 31,.int .u8 27,.int .u8 13,.int .u8 23,.int .u8 21,.int .u8 19,.int .u8 16,.int .u8 7,.int .u8 26,.int .u8 12,.int .u8 18,.int .u8 6,.int .u8 11,.int .u8 5,.int .u8 10,.int .u8 9] t frozen
  |o=>o).modify 2 fun
  | .cells _ t frozen=>.cells #[.int .u8 0,.int .u8 1,.int .u8 56,.int .u8 2,.int .u8 57,.int .u8 49,.int .u8 28,.int .u8 3,.int .u8 61,.int .u8 58,.int .u8 42,.int .u8 50,.int .u8 38,.int .u8 29,.int .u8 17,.int .u8 4,.int .u8 62,.int .u8 47,.int .u8 59,.int .u8 36,.int .u8 45,.int .u8 43,.int .u8 51,.int .u8 22,.int .u8 53,.int .u8 39,.int .u8 33,.int .u8 30,.int .u8 24,.int .u8 18,.int .u8 12,.int .u8 5,.int .u8 63,.int .u8 55,.int .u8 48,.int .u8 27,.int .u8 60,.int .u8 41,.int .u8 37,.int .u8 16,.int .u8 46,.int .u8 35,.int .u8 44,.int .u8 21,.int .u8 52,.int .u8 32,.int .u8 23,.int .u8 11,.int .u8 54,.int .u8 26,.int .u8 40,.int .u8 15,.int .u8 34,.int .u8 20,.int .u8 31,.int .u8 10,.int .u8 25,.int .u8 14,.int .u8 19,.int .u8 9,.int .u8 13,.int .u8 8,.int .u8 7,.int .u8 6] t frozen
  |o=>o)}
theorem contract(H:Type)(enc:TypeId×Value→H)(W:World)(base:Nat)(args:Array Value)(ds gs:List (DataW H))(before:List MemPlace)
(hval:∀(j:Nat) t v,Tryz.f4.params[j]? =some t→args[j]? =some v→Value.okWide Tryz.prog W .any base t v)
(hW:DataW.Whole enc Tryz.prog Tryz.f4.params.toList Rows.fnExactCountedEntriesSpec.vars false W args.toList ds gs before)(hk:Rows.uptoSmall H (ds++gs)=true)(htab:∀g,zlX=some g→∃e fz,W.heap[g]? =some (Obj.cells zmm e fz)):
 Calls Tryz.prog 4 args W fun e W'=>∃v,e=.returned v∧Rows.fnExactCountedEntriesSpec.post enc Tryz.prog Tryz.f4 false true false false W args v W':=by
 have hW':=hW;obtain⟨p,q,hA0,hV,rfl,hfz,hnd⟩:=hW;have hA:DataW.TrodAll enc Tryz.prog W 0 (fun _=>true) true Tryz.f4.params.toList args.toList ds p:=hA0;rw[Tryz.params4]at hA hval;obtain⟨rfl,rfl⟩:=trodVars_none hV
 have hbulk:zdR (ds.map Rows.uptoBulk)≤1048576:=by
  have:Rows.uptoBulkAll (ds++[])≤1048576:=by simpa[Rows.uptoSmall]using hk
  rwa [List.append_nil,all_eq]at this
 have hcall:=zvw (P:=Tryz.prog) (f:=4) (argsR hu) (by decide) plain (base:=base) (args:=args) (fun j t v h1 h2=>hval j t v (by simpa using h1) (by simpa using h2)) hA hbulk htab;have hlt:∀x∈p,x.block<W.heap.size:=fun x hx=>by simpa using hW'.lt x (by simpa using hx)
 simp only[List.append_nil]at hW';refine hcall.mono fun e W' ⟨he,hg,hsame⟩=>?_
 subst he;have hA1:=hA;obtain⟨v0,w0,d0,e0,p0,q0,hv0,hd0,hp0,t0,hA1⟩:=trodAll_cons hA1;obtain⟨v1,w1,d1,e1,p1,q1,hv1,hd1,hp1,t1,hA1⟩:=trodAll_cons hA1;obtain⟨rw,rd,rp⟩:=trodAll_nil hA1;subst rd;subst hd1;subst hd0
 exact⟨_,rfl,zxI (pa:=p) (pv:=[]) hW' (fun _ _ _=>(trodAll_cons_mk (shut_bool Tryz.underlying4 _) trodAll_mk0))
  (fun sp hsp=>zpi laid (by
    intro t ht;rw[Tryz.params4]at ht;simp only[List.mem_cons,List.not_mem_nil,or_false]at ht;rcases ht with rfl|rfl
    all_goals exact⟨by kernel_rfl,of_decide_eq_true (by kernel_rfl)⟩) (show DataW.TrodAll enc Tryz.prog W 0 (fun _=>true) true Tryz.f4.params.toList args.toList _ p by rw[Tryz.params4];exact hA) (fun x hx=>by
    have:=hsame _ (hlt x hx);cases x with
    |cell b off=>simp only[World.sameAt,World.cell?];rw[show W'.heap[b]? =W.heap[b]? from this]
    |map b=>exact this) (fun x hx=>hsp x hx)) (fun _ _=>rfl) (by simp)
  hg hsame (ok_one (by kernel_rfl) rfl (okWide_bool_mk Tryz.underlying4 _))⟩
theorem laid_met(os:Os):laidMet Tryz.prog Rows.fnExactCountedEntriesUptoRow.laid ((laidWorld os).forCall (fun _ _=>0) ⟨#[],#[.agg #[.int .i64 0,.int .i64 0,.int .i64 0],.agg #[.slice none 0 0,.slice none 0 0]],[]⟩).memory:=
 laidMet_of_run' 8 (by kernel_rfl) (by kernel_rfl)
theorem reads(os:Os){H:Type}(enc:TypeId×Value→H):∃places,DataW.whole enc Tryz.prog ((laidWorld os).forCall (fun _ _=>0) ⟨#[],#[.agg #[.int .i64 0,.int .i64 0,.int .i64 0],.agg #[.slice none 0 0,.slice none 0 0]],[]⟩).memory Tryz.f4.params.toList Rows.fnExactCountedEntriesSpec.vars false (#[.agg #[.int .i64 0,.int .i64 0,.int .i64 0],.agg #[.slice none 0 0,.slice none 0 0]]:Array Value).toList 8=some ([.agg [.lit (.int .i64 0),.lit (.int .i64 0),.lit (.int .i64 0)],.agg [.nil,.nil]],[],places):=
 ⟨[],by kernel_rfl⟩
theorem lifted(os:Os)(started:os.Started)(H:Type)(enc:TypeId×Value→H)(F:Stop.Interp):
 ReturnsInHanded {} Tryz.checked os 4 .any ((Rows.OpenSpec.upto Rows.fnExactCountedEntriesSpec).preRow enc Tryz.prog Tryz.f4 Rows.fnExactCountedEntriesUptoRow.domain false Rows.fnExactCountedEntriesUptoRow.laid) (((Rows.OpenSpec.upto Rows.fnExactCountedEntriesSpec).at F).post enc Tryz.prog Tryz.f4 false true false false):=by
 obtain⟨places,hx⟩:=reads os enc
 refine returnsInHanded_of_row (C:=Tryz.checked) (s:=Rows.OpenSpec.upto Rows.fnExactCountedEntriesSpec) own started (by kernel_rfl) Tryz.func4
  (witness_row_at (enc:=enc) (C:=Tryz.checked) false (laidWorld os) #[.agg #[.int .i64 0,.int .i64 0,.int .i64 0],.agg #[.slice none 0 0,.slice none 0 0]] rfl (by kernel_rfl) (by kernel_rfl) (by kernel_rfl)
    (OpenSpec.preRow_of_cond 8 hx (by kernel_rfl) (fun k hk=>by cases hk;kernel_rfl) (by kernel_rfl) (laid_met os))) ?_
 intro W base args ds gs before hval hW _ hk _ hL _ _;exact contract H enc W base args ds gs before hval hW (hk _ rfl) (tab hL)
set_option maxHeartbeats 4000000 in
theorem closed:joinedFacts Tryz.pinned.checked.prog 4 Tryz.f4 (Rows.OpenSpec.upto Rows.fnExactCountedEntriesSpec).bare Rows.fnExactCountedEntriesUptoRow=true:=by
 simp only[joinedFacts,Bool.and_eq_true]
 and_intros
 all_goals as_aux_lemma=>kernel_rfl
theorem over:Rows.fnExactCountedEntriesUptoRow.holds Tryz.pinned (Rows.OpenSpec.upto Rows.fnExactCountedEntriesSpec):=
 OpenClaim.holds_of_cond 4 Tryz.f4 rfl rfl rfl rfl rfl rfl rfl ⟨rfl,rfl,rfl,rfl,rfl⟩ rfl rfl rfl rfl rfl (by kernel_rfl) Tryz.func4 closed
  (of_decide_eq_true (by kernel_rfl)) (by unfold Func.isWrapper;first|(rw[if_pos (by decide+kernel)];kernel_rfl)|(rw[if_neg (by decide+kernel)];exact⟨rfl,rfl⟩))
  (fun os started H enc _ F=>by rw[OpenClaim.pre_eq_preRow];exact lifted os started H enc F)
theorem standIn (f:FuncId) (fn:Func) (hf:Tryz.pinned.checked.prog.funcNamed "loop.example/g00878/laws.FnExactCountedEntries" =some f) (hfn:Tryz.pinned.checked.prog.funcs[f]? =some fn):
 false=Tryz.pinned.checked.prog.looks []∧∀(j:Nat) t,fn.params[j]? =some t→Tryz.pinned.checked.prog.wantsStandIn t=false:=by
 obtain rfl:f=4:=Option.some.inj ((show Tryz.prog.funcNamed "loop.example/g00878/laws.FnExactCountedEntries" =some 4 by kernel_rfl).symm.trans hf)|>.symm;obtain rfl:fn=Tryz.f4:=(Option.some.inj (Tryz.func4.symm.trans hfn)).symm;refine⟨by kernel_rfl,fun j t ht=>?_⟩;rw[Tryz.params4]at ht;have ht:=Array.mem_of_getElem? ht;simp only[List.mem_toArray,List.mem_cons,List.not_mem_nil,or_false]at ht;rcases ht with rfl|rfl
 ·exact(show Tryz.prog.wantsStandIn 23=false by kernel_rfl)
 ·exact(show Tryz.prog.wantsStandIn 31=false by kernel_rfl)
theorem proved:Rows.FnExactCountedEntriesUptoCardSaid:=
 Claim7.holds_tied_plain_at .later [] _ _ _ _ over (fun _ h=>by cases h) (by kernel_rfl) (fun _ h=>by cases h) fnExactCountedEntriesUpto_row_tie rfl ⟨rfl,rfl⟩ (by kernel_rfl) rfl standIn (by kernel_rfl)
end Go.Proofs.YtplemekcclpaoaaGreatDoor.l44
