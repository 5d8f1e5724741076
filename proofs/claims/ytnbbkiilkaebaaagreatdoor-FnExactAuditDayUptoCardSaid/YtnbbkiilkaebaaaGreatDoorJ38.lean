/-
  THE LAW 'FnExactAuditDay', of the second form: the contract of the law's function turned into the row's statement.
-/
import Derived.Test.YtnbbkiilkaebaaaGreatDoorY38b
import Derived.Test.YtnbbkiilkaebaaaGreatDoorPmY
import Derived.Test.YtnbbkiilkaebaaaGreatDoorCards
import Derived.Test.YtnbbkiilkaebaaaGreatDoorTie
import Derived.WalkKit
import Derived.ProofKit
import Derived.OpenShut
import Derived.JoinedCond
import Derived.Deep.DeepHandedRow
import Derived.Lib.LaidTab
namespace Go.Proofs.YtnbbkiilkaebaaaGreatDoor.l38
open Go.ChangeShapes Go.WideShapes Go.ChangeAt Go.RowKit Go.Am Go.Pm
set_option linter.unusedVariables false
set_option linter.unusedSimpArgs false
set_option maxRecDepth 100000
theorem one_le {H:Type}(d:DataW H):1≤Rows.uptoBulk d:=by
 cases d with
 |lit l=>cases l<;>simp[Rows.uptoBulk]
 |nil=>simp[Rows.uptoBulk]
 |ptr d=>simp[Rows.uptoBulk]
 |slice elems spare=>simp[Rows.uptoBulk]
 |agg zA2=>simp[Rows.uptoBulk]
 |iface t d=>simp[Rows.uptoBulk]
 |map entries=>simp[Rows.uptoBulk]
 |held h=>simp[Rows.uptoBulk]
theorem all_eq {H:Type}(l:List (DataW H)):Rows.uptoBulkAll l=zd4 (l.map Rows.uptoBulk):=by
 induction l with
 |nil=>rfl
 |cons x r ih=>simp only[Rows.uptoBulkAll,List.map_cons,zd4,ih]
theorem hu {H:Type}:Ub (X:=H) Rows.uptoBulk:=by
 refine⟨one_le,fun D sp=>?_,fun D=>?_,fun s=>?_⟩
 ·simp only[Rows.uptoBulk,all_eq];omega
 ·simp only[Rows.uptoBulk,all_eq];omega
 ·simp only[Rows.uptoBulk];omega
def shp23:Shp Group:=Shp.st (Shp.cons (Shp.int .i64) (Shp.cons (Shp.int .i64) (Shp.cons (Shp.int .i64) Shp.nil))) (fun x=>(x.P,x.Q,x.G,()))
theorem fl23 {X:Type}{enc:TypeId×Value→X}{W:World}{fuel:Nat}{cs:List Value}{x:DataW X×List MemPlace}(h:DataW.trod enc Tryz.prog W 0 (fun _=>true) true fuel 23 cs=some x):
 ∃(fuel':Nat) (xs:List (DataW X×List MemPlace)),x.1=.agg (xs.map (·.1))∧zoy X enc Tryz.prog W fuel' [(3,1),(3,1),(3,1)] cs xs:=by
 obtain⟨xs,n,rfl,rfl,hl,hxs,hf⟩:=DataW.trod_struct Tryz.underlying23 h
 have hc:Tryz.prog.cellsOf 23=3:=by kernel_rfl
 have hc0:Tryz.prog.cellsOf 3=1:=by kernel_rfl
 have hc1:Tryz.prog.cellsOf 3=1:=by kernel_rfl
 have hc2:Tryz.prog.cellsOf 3=1:=by kernel_rfl
 rw[hc]at hl
 have hxs:xs.length=3:=hxs
 match cs,hl,xs,hxs with
 |[c0,c1,c2],_,[x0,x1,x2],_=>
  have h0:=hf 0 _ rfl
  have h1:=hf 1 _ rfl
  have h2:=hf 2 _ rfl
  simp only[hc0,hc1,hc2,List.drop_zero,List.drop_succ_cons,List.take_succ_cons,List.take_zero,List.getElem?_cons_zero,List.getElem?_cons_succ]at h0 h1 h2
  exact⟨n,_,rfl,x0,_,rfl,rfl,h0,x1,_,rfl,rfl,h1,x2,_,rfl,rfl,h2,rfl,rfl⟩
theorem rd23 {X:Type}{enc:TypeId×Value→X}{W:World}{ub:DataW X→Nat}(hu:Ub ub):zfv X enc Tryz.prog W 23 Group (CR shp23 ub):=
 zsQ (fun p=>Group.mk p.1 p.2.1 p.2.2.1) (fun _=>rfl) hu (zep (zfQ hu Tryz.underlying3) (zep (zfQ hu Tryz.underlying3) (zep (zfQ hu Tryz.underlying3) zpT))) fl23
def shp25:Shp Contest:=Shp.st (Shp.cons (Shp.int .i64) (Shp.cons (Shp.int .i64) (Shp.cons (Shp.int .i64) (Shp.cons (Shp.int .i64) (Shp.cons (Shp.int .i64) Shp.nil))))) (fun x=>(x.Kind,x.Options,x.Least,x.Most,x.Points,()))
theorem fl25 {X:Type}{enc:TypeId×Value→X}{W:World}{fuel:Nat}{cs:List Value}{x:DataW X×List MemPlace}(h:DataW.trod enc Tryz.prog W 0 (fun _=>true) true fuel 25 cs=some x):
 ∃(fuel':Nat) (xs:List (DataW X×List MemPlace)),x.1=.agg (xs.map (·.1))∧zoy X enc Tryz.prog W fuel' [(3,1),(3,1),(3,1),(3,1),(3,1)] cs xs:=by
 obtain⟨xs,n,rfl,rfl,hl,hxs,hf⟩:=DataW.trod_struct Tryz.underlying25 h
 have hc:Tryz.prog.cellsOf 25=5:=by kernel_rfl
 have hc0:Tryz.prog.cellsOf 3=1:=by kernel_rfl
 have hc1:Tryz.prog.cellsOf 3=1:=by kernel_rfl
 have hc2:Tryz.prog.cellsOf 3=1:=by kernel_rfl
 have hc3:Tryz.prog.cellsOf 3=1:=by kernel_rfl
 have hc4:Tryz.prog.cellsOf 3=1:=by kernel_rfl
 rw[hc]at hl
 have hxs:xs.length=5:=hxs
 match cs,hl,xs,hxs with
 |[c0,c1,c2,c3,c4],_,[x0,x1,x2,x3,x4],_=>
  have h0:=hf 0 _ rfl
  have h1:=hf 1 _ rfl
  have h2:=hf 2 _ rfl
  have h3:=hf 3 _ rfl
  have h4:=hf 4 _ rfl
  simp only[hc0,hc1,hc2,hc3,hc4,List.drop_zero,List.drop_succ_cons,List.take_succ_cons,List.take_zero,List.getElem?_cons_zero,List.getElem?_cons_succ]at h0 h1 h2 h3 h4
  exact⟨n,_,rfl,x0,_,rfl,rfl,h0,x1,_,rfl,rfl,h1,x2,_,rfl,rfl,h2,x3,_,rfl,rfl,h3,x4,_,rfl,rfl,h4,rfl,rfl⟩
theorem rd25 {X:Type}{enc:TypeId×Value→X}{W:World}{ub:DataW X→Nat}(hu:Ub ub):zfv X enc Tryz.prog W 25 Contest (CR shp25 ub):=
 zsQ (fun p=>Contest.mk p.1 p.2.1 p.2.2.1 p.2.2.2.1 p.2.2.2.2.1) (fun _=>rfl) hu (zep (zfQ hu Tryz.underlying3) (zep (zfQ hu Tryz.underlying3) (zep (zfQ hu Tryz.underlying3) (zep (zfQ hu Tryz.underlying3) (zep (zfQ hu Tryz.underlying3) zpT))))) fl25
theorem rd26 {X:Type}{enc:TypeId×Value→X}{W:World}{ub:DataW X→Nat}(hu:Ub ub):zfv X enc Tryz.prog W 26 (List Int) (CR (Shp.sl 1 (Shp.int .i64)) ub):=
 zxm hu Tryz.underlying26 (show Tryz.prog.cellsOf 3=1 by kernel_rfl) (by decide) (fun _=>rfl) (fun _=>Nat.le_refl 1) (zfQ hu Tryz.underlying3)
def shp48:Shp Session:=Shp.st (Shp.cons (Shp.int .i64) (Shp.cons (Shp.sl 1 (Shp.int .i64)) (Shp.cons (Shp.sl 1 (Shp.int .i64)) (Shp.cons (Shp.int .i64) (Shp.cons (Shp.bool) Shp.nil))))) (fun x=>(x.Voter,x.Vote,x.Coins,x.Receipt,x.Cast,()))
theorem fl48 {X:Type}{enc:TypeId×Value→X}{W:World}{fuel:Nat}{cs:List Value}{x:DataW X×List MemPlace}(h:DataW.trod enc Tryz.prog W 0 (fun _=>true) true fuel 48 cs=some x):
 ∃(fuel':Nat) (xs:List (DataW X×List MemPlace)),x.1=.agg (xs.map (·.1))∧zoy X enc Tryz.prog W fuel' [(3,1),(26,1),(26,1),(3,1),(4,1)] cs xs:=by
 obtain⟨xs,n,rfl,rfl,hl,hxs,hf⟩:=DataW.trod_struct Tryz.underlying48 h
 have hc:Tryz.prog.cellsOf 48=5:=by kernel_rfl
 have hc0:Tryz.prog.cellsOf 3=1:=by kernel_rfl
 have hc1:Tryz.prog.cellsOf 26=1:=by kernel_rfl
 have hc2:Tryz.prog.cellsOf 26=1:=by kernel_rfl
 have hc3:Tryz.prog.cellsOf 3=1:=by kernel_rfl
 have hc4:Tryz.prog.cellsOf 4=1:=by kernel_rfl
 rw[hc]at hl
 have hxs:xs.length=5:=hxs
 match cs,hl,xs,hxs with
 |[c0,c1,c2,c3,c4],_,[x0,x1,x2,x3,x4],_=>
  have h0:=hf 0 _ rfl
  have h1:=hf 1 _ rfl
  have h2:=hf 2 _ rfl
  have h3:=hf 3 _ rfl
  have h4:=hf 4 _ rfl
  simp only[hc0,hc1,hc2,hc3,hc4,List.drop_zero,List.drop_succ_cons,List.take_succ_cons,List.take_zero,List.getElem?_cons_zero,List.getElem?_cons_succ]at h0 h1 h2 h3 h4
  exact⟨n,_,rfl,x0,_,rfl,rfl,h0,x1,_,rfl,rfl,h1,x2,_,rfl,rfl,h2,x3,_,rfl,rfl,h3,x4,_,rfl,rfl,h4,rfl,rfl⟩
theorem rd48 {X:Type}{enc:TypeId×Value→X}{W:World}{ub:DataW X→Nat}(hu:Ub ub):zfv X enc Tryz.prog W 48 Session (CR shp48 ub):=
 zsQ (fun p=>Session.mk p.1 p.2.1 p.2.2.1 p.2.2.2.1 p.2.2.2.2.1) (fun _=>rfl) hu (zep (zfQ hu Tryz.underlying3) (zep (rd26 hu) (zep (rd26 hu) (zep (zfQ hu Tryz.underlying3) (zep (zxB hu Tryz.underlying4) zpT))))) fl48
theorem rd56 {X:Type}{enc:TypeId×Value→X}{W:World}{ub:DataW X→Nat}(hu:Ub ub):zfv X enc Tryz.prog W 56 (List Session) (CR (Shp.sl 5 shp48) ub):=
 zxm hu Tryz.underlying56 (show Tryz.prog.cellsOf 48=5 by kernel_rfl) (by decide) (fun _=>rfl) (fun _=>by show 1≤1+_;omega) (rd48 hu)
def sa:SA (Group×Int×Contest×(List Session)×Unit):=(SA.cons true shp23 (SA.cons false (Shp.int .i64) (SA.cons true shp25 (SA.cons false (Shp.sl 5 shp48) SA.nil))))
theorem argsR {X:Type}{enc:TypeId×Value→X}{W:World}{ub:DataW X→Nat}(hu:Ub ub):znD X enc Tryz.prog W [23,3,25,56] (Group×Int×Contest×(List Session)×Unit) sa ub:=(zma (zxn Tryz.underlying23 (rd23 hu)) (zma (zAe hu Tryz.underlying3) (zma (zxn Tryz.underlying25 (rd25 hu)) (zma (zCp Tryz.underlying56 (rd56 hu)) zzV))))
theorem own:ownKnob Tryz.prog.godebug=none:=by kernel_rfl
theorem laid:laidOutB Tryz.prog=true:=by kernel_rfl
theorem plain0 (b:Group×Int×Contest×(List Session)×Unit) (ho:sa.ok b) (hb:sa.bk b≤1048576):zcJ (b.1) (b.2.1) (b.2.2.1) (b.2.2.2.1)=some true:=by
 obtain⟨g,key,ct,l,u⟩:=b
 have hb:_+(_+(_+((1+zd4 (l.map shp48.bk))+_)))≤1048576:=hb
 have li:∀l:List Int,l.length≤1+zd4 (l.map fun _=>1):=fun l=>by
  have:=zoE (f:=fun _:Int=>1) (fun _=>Nat.le_refl 1) l
  omega
 have he:∀s:Session,1≤shp48.bk s∧s.Vote.length≤shp48.bk s∧s.Coins.length≤shp48.bk s:=fun s=>by
  have e:shp48.bk s=1+(1+((1+zd4 (s.Vote.map fun _=>1))+((1+zd4 (s.Coins.map fun _=>1))+(1+(1+0))))):=rfl
  have h1:=li s.Vote
  have h2:=li s.Coins
  omega
 have hl:=zoE (fun z=>(he z).1) l
 exact zBO g key ct l (by omega) fun s hs=>by
  have h3:=zse (f:=shp48.bk) hs
  have h4:=he s
  exact⟨by omega,by omega⟩
theorem plain (b:Group×Int×Contest×(List Session)×Unit) (ho:sa.ok b) (hb:sa.bk b≤1048576):∃os,PCalls Tryz.prog 6 ((sa.pvs b).map fun x=>(Md.sh,x)) (fun r o=>r=.bool true∧o=os):=
 ⟨_,zjy (plain0 b ho hb)⟩
theorem gTab:Tryz.prog.globalNamed "internal/strconv.uint64pow10" =some 0:=by kernel_rfl
theorem gTy:(Tryz.prog.globals[0]?).map (·.type)=some 173:=by kernel_rfl
theorem gU:Tryz.prog.underlying 173=some (.array 20 165):=by kernel_rfl
theorem gE:Tryz.prog.underlying 165=some (.int .u64):=by kernel_rfl
theorem gC:Tryz.prog.cellsOf 173=20:=by kernel_rfl
theorem gD:Tryz.prog.cellsOf 165=1:=by kernel_rfl
def zs:List Int:=[1,10,100,1000,10000,100000,1000000,10000000,100000000,1000000000,10000000000,100000000000,1000000000000,10000000000000,100000000000000,1000000000000000,10000000000000000,100000000000000000,1000000000000000000,10000000000000000000]
theorem zsA:(zs.map fun z=>Value.int .u64 z).toArray=zlJ:=by kernel_rfl
theorem tab {W:World}(h:laidMetH Tryz.prog Rows.fnExactAuditDayUptoRow.laid W):∀g,zlK=some g→∃e fz,W.heap[g]? =some (Obj.cells zlJ e fz):=by
 intro g hg
 unfold zlK at hg
 obtain rfl:=Option.some.inj hg
 have h:laidMet Tryz.prog [("math/bits.deBruijn32tab",Rows.laid_math_bits_deBruijn32tab),("math/bits.deBruijn64tab",Rows.laid_math_bits_deBruijn64tab),("internal/strconv.uint64pow10",Lib.tabData .u64 zs)] W:=h
 obtain⟨ps,⟨_,_,_,_,_,_,_,_,_,_,⟨_,_,_,_,_,_,_,_,_,_,⟨g',t',cs,fuel,p,q,hg',ht',hvar,hd,_⟩,_⟩,_⟩,_⟩:=h
 obtain rfl:=Option.some.inj (gTab.symm.trans hg')
 obtain rfl:=Option.some.inj (gTy.symm.trans ht')
 have hT:Lib.TabIs Tryz.prog W "internal/strconv.uint64pow10" .u64 zs:=by
  unfold Lib.TabIs
  rw[hvar,←Lib.cells_of_tab gU gE gD gC hd]
 unfold Lib.TabIs World.var? at hT
 rw[gTab,Option.bind_some]at hT
 split at hT
 ·rename_i cs e fz hx
  rw[zsA]at hT
  obtain rfl:=Option.some.inj hT
  exact⟨e,fz,hx⟩
 ·cases hT
noncomputable def laidWorld (os:Os):World:=
 {World.holding Tryz.prog os ⟨#[],#[],[]⟩with heap:=((((World.holding Tryz.prog os ⟨#[],#[],[]⟩).heap.modify 0 fun
  | .cells _ t frozen=>.cells #[.int .u64 1,.int .u64 10,.int .u64 100,.int .u64 1000,.int .u64 10000,.int .u64 100000,.int .u64 1000000,.int .u64 10000000,.int .u64 100000000,.int .u64 1000000000,.int .u64 10000000000,.int .u64 100000000000,.int .u64 1000000000000,.int .u64 10000000000000,.int .u64 100000000000000,.int .u64 1000000000000000,.int .u64 10000000000000000,.int .u64 100000000000000000,.int .u64 1000000000000000000,.int .u64 10000000000000000000] t frozen
  |o=>o).modify 1 fun
  | .cells _ t frozen=>.cells #[.int .u8 0,.int .u8 1,.int .u8 28,.int .u8 2,.int .u8 29,.int .u8 14,.int .u8 24,.int .u8 3,.int .u8 30,.int .u8 22,.int .u8 20,.int .u8 15,.int .u8 25,.int .u8 17,.int .u8 4,.int .u8 8,.int .u8 31,.int .u8 27,.int .u8 13,.int .u8 23,.int .u8 21,.int .u8 19,.int .u8 16,.int .u8 7,.int .u8 26,.int .u8 12,.int .u8 18,.int .u8 6,.int .u8 11,.int .u8 5,.int .u8 10,.int .u8 9] t frozen
  |o=>o).modify 2 fun
  | .cells _ t frozen=>.cells #[.int .u8 0,.int .u8 1,.int .u8 56,.int .u8 2,.int .u8 57,.int .u8 49,.int .u8 28,.int .u8 3,.int .u8 61,.int .u8 58,.int .u8 42,.int .u8 50,.int .u8 38,.int .u8 29,.int .u8 17,.int .u8 4,.int .u8 62,.int .u8 47,.int .u8 59,.int .u8 36,.int .u8 45,.int .u8 43,.int .u8 51,.int .u8 22,.int .u8 53,.int .u8 39,.int .u8 33,.int .u8 30,.int .u8 24,.int .u8 18,.int .u8 12,.int .u8 5,.int .u8 63,.int .u8 55,.int .u8 48,.int .u8 27,.int .u8 60,.int .u8 41,.int .u8 37,.int .u8 16,.int .u8 46,.int .u8 35,.int .u8 44,.int .u8 21,.int .u8 52,.int .u8 32,.int .u8 23,.int .u8 11,.int .u8 54,.int .u8 26,.int .u8 40,.int .u8 15,.int .u8 34,.int .u8 20,.int .u8 31,.int .u8 10,.int .u8 25,.int .u8 14,.int .u8 19,.int .u8 9,.int .u8 13,.int .u8 8,.int .u8 7,.int .u8 6] t frozen
  |o=>o)}
theorem contract (H:Type) (enc:TypeId×Value→H) (W:World) (base:Nat) (args:Array Value) (ds gs:List (DataW H)) (before:List MemPlace)
 (hval:∀(j:Nat) t v,Tryz.f6.params[j]? =some t→args[j]? =some v→Value.okWide Tryz.prog W .any base t v)
 (hW:DataW.Whole enc Tryz.prog Tryz.f6.params.toList Rows.fnExactAuditDaySpec.vars false W args.toList ds gs before) (hk:Rows.uptoSmall H (ds++gs)=true) (htab:∀g,zlK=some g→∃e fz,W.heap[g]? =some (Obj.cells zlJ e fz)):
 Calls Tryz.prog 6 args W fun e W'=>∃v,e=.returned v∧Rows.fnExactAuditDaySpec.post enc Tryz.prog Tryz.f6 false true false false W args v W':=by
 have hW':=hW
 obtain⟨p,q,hA0,hV,rfl,hfz,hnd⟩:=hW
 have hA:DataW.TrodAll enc Tryz.prog W 0 (fun _=>true) true Tryz.f6.params.toList args.toList ds p:=hA0
 rw[Tryz.params6]at hA hval
 obtain⟨rfl,rfl⟩:=trodVars_none hV
 have hbulk:zd4 (ds.map Rows.uptoBulk)≤1048576:=by
  have:Rows.uptoBulkAll (ds++[])≤1048576:=by simpa[Rows.uptoSmall]using hk
  rwa [List.append_nil,all_eq]at this
 have hcall:=zuq (P:=Tryz.prog) (f:=6) (argsR hu) (by decide) plain (base:=base) (args:=args) (fun j t v h1 h2=>hval j t v (by simpa using h1) (by simpa using h2)) hA hbulk htab
 have hlt:∀x∈p,x.block<W.heap.size:=fun x hx=>by simpa using hW'.lt x (by simpa using hx)
 simp only[List.append_nil]at hW'
 refine hcall.mono fun e W' ⟨he,hg,hsame⟩=>?_
 subst he
 have hA1:=hA
 obtain⟨v0,w0,d0,e0,p0,q0,hv0,hd0,hp0,t0,hA1⟩:=trodAll_cons hA1
 obtain⟨v1,w1,d1,e1,p1,q1,hv1,hd1,hp1,t1,hA1⟩:=trodAll_cons hA1
 obtain⟨v2,w2,d2,e2,p2,q2,hv2,hd2,hp2,t2,hA1⟩:=trodAll_cons hA1
 obtain⟨v3,w3,d3,e3,p3,q3,hv3,hd3,hp3,t3,hA1⟩:=trodAll_cons hA1
 obtain⟨rw,rd,rp⟩:=trodAll_nil hA1
 subst rd
 subst hd3
 subst hd2
 subst hd1
 subst hd0
 exact⟨_,rfl,zwz (pa:=p) (pv:=[]) hW' (fun _ _ _=>(trodAll_cons_mk (shut_bool Tryz.underlying4 _) trodAll_mk0))
  (fun sp hsp=>zof laid (by
    intro t ht
    rw[Tryz.params6]at ht
    simp only[List.mem_cons,List.not_mem_nil,or_false]at ht
    rcases ht with rfl|rfl|rfl|rfl
    all_goals exact⟨by kernel_rfl,of_decide_eq_true (by kernel_rfl)⟩) (show DataW.TrodAll enc Tryz.prog W 0 (fun _=>true) true Tryz.f6.params.toList args.toList _ p by rw[Tryz.params6];exact hA) (fun x hx=>by
    have:=hsame _ (hlt x hx)
    cases x with
    |cell b off=>simp only[World.sameAt,World.cell?];rw[show W'.heap[b]? =W.heap[b]? from this]
    |map b=>exact this) (fun x hx=>hsp x hx)) (fun _ _=>rfl) (by simp)
  hg hsame (ok_one (by kernel_rfl) rfl (okWide_bool_mk Tryz.underlying4 _))⟩
theorem laid_met (os:Os):laidMet Tryz.prog Rows.fnExactAuditDayUptoRow.laid ((laidWorld os).forCall (fun _ _=>0) ⟨#[],#[.agg #[.int .i64 0,.int .i64 0,.int .i64 0],.int .i64 0,.agg #[.int .i64 0,.int .i64 0,.int .i64 0,.int .i64 0,.int .i64 0],.slice none 0 0],[]⟩).memory:=
 laidMet_of_run' 8 (by kernel_rfl) (by kernel_rfl)
theorem reads (os:Os) {H:Type}(enc:TypeId×Value→H):∃places,DataW.whole enc Tryz.prog ((laidWorld os).forCall (fun _ _=>0) ⟨#[],#[.agg #[.int .i64 0,.int .i64 0,.int .i64 0],.int .i64 0,.agg #[.int .i64 0,.int .i64 0,.int .i64 0,.int .i64 0,.int .i64 0],.slice none 0 0],[]⟩).memory Tryz.f6.params.toList Rows.fnExactAuditDaySpec.vars false (#[.agg #[.int .i64 0,.int .i64 0,.int .i64 0],.int .i64 0,.agg #[.int .i64 0,.int .i64 0,.int .i64 0,.int .i64 0,.int .i64 0],.slice none 0 0]:Array Value).toList 8=some ([.agg [.lit (.int .i64 0),.lit (.int .i64 0),.lit (.int .i64 0)],.lit (.int .i64 0),.agg [.lit (.int .i64 0),.lit (.int .i64 0),.lit (.int .i64 0),.lit (.int .i64 0),.lit (.int .i64 0)],.nil],[],places):=
 ⟨[],by kernel_rfl⟩
theorem lifted (os:Os) (started:os.Started) (H:Type) (enc:TypeId×Value→H) (F:Stop.Interp):
 ReturnsInHanded {} Tryz.checked os 6 .any ((Rows.OpenSpec.upto Rows.fnExactAuditDaySpec).preRow enc Tryz.prog Tryz.f6 Rows.fnExactAuditDayUptoRow.domain false Rows.fnExactAuditDayUptoRow.laid) (((Rows.OpenSpec.upto Rows.fnExactAuditDaySpec).at F).post enc Tryz.prog Tryz.f6 false true false false):=by
 obtain⟨places,hx⟩:=reads os enc
 refine returnsInHanded_of_row (C:=Tryz.checked) (s:=Rows.OpenSpec.upto Rows.fnExactAuditDaySpec) own started (by kernel_rfl) Tryz.func6
  (witness_row_at (enc:=enc) (C:=Tryz.checked) false (laidWorld os) #[.agg #[.int .i64 0,.int .i64 0,.int .i64 0],.int .i64 0,.agg #[.int .i64 0,.int .i64 0,.int .i64 0,.int .i64 0,.int .i64 0],.slice none 0 0] rfl (by kernel_rfl) (by kernel_rfl) (by kernel_rfl)
    (OpenSpec.preRow_of_cond 8 hx (by kernel_rfl) (fun k hk=>by cases hk;kernel_rfl) (by kernel_rfl) (laid_met os))) ?_
 intro W base args ds gs before hval hW _ hk _ hL _ _
 exact contract H enc W base args ds gs before hval hW (hk _ rfl) (tab hL)
set_option maxHeartbeats 4000000 in
theorem closed:joinedFacts Tryz.pinned.checked.prog 6 Tryz.f6 (Rows.OpenSpec.upto Rows.fnExactAuditDaySpec).bare Rows.fnExactAuditDayUptoRow=true:=by
 simp only[joinedFacts,Bool.and_eq_true]
 and_intros
 all_goals as_aux_lemma=>kernel_rfl
theorem over:Rows.fnExactAuditDayUptoRow.holds Tryz.pinned (Rows.OpenSpec.upto Rows.fnExactAuditDaySpec):=
 OpenClaim.holds_of_cond 6 Tryz.f6 rfl rfl rfl rfl rfl rfl rfl ⟨rfl,rfl,rfl,rfl,rfl⟩ rfl rfl rfl rfl rfl (by kernel_rfl) Tryz.func6 closed
  (of_decide_eq_true (by kernel_rfl)) (by unfold Func.isWrapper;first|(rw[if_pos (by decide+kernel)];kernel_rfl)|(rw[if_neg (by decide+kernel)];exact⟨rfl,rfl⟩))
  (fun os started H enc _ F=>by rw[OpenClaim.pre_eq_preRow];exact lifted os started H enc F)
theorem standIn (f:FuncId) (fn:Func) (hf:Tryz.pinned.checked.prog.funcNamed "loop.example/g00878/laws.FnExactAuditDay" =some f) (hfn:Tryz.pinned.checked.prog.funcs[f]? =some fn):
 false=Tryz.pinned.checked.prog.looks []∧∀(j:Nat) t,fn.params[j]? =some t→Tryz.pinned.checked.prog.wantsStandIn t=false:=by
 obtain rfl:f=6:=Option.some.inj ((show Tryz.prog.funcNamed "loop.example/g00878/laws.FnExactAuditDay" =some 6 by kernel_rfl).symm.trans hf)|>.symm
 obtain rfl:fn=Tryz.f6:=(Option.some.inj (Tryz.func6.symm.trans hfn)).symm
 refine⟨by kernel_rfl,fun j t ht=>?_⟩
 rw[Tryz.params6]at ht
 have ht:=Array.mem_of_getElem? ht
 simp only[List.mem_toArray,List.mem_cons,List.not_mem_nil,or_false]at ht
 rcases ht with rfl|rfl|rfl|rfl
 ·exact(show Tryz.prog.wantsStandIn 23=false by kernel_rfl)
 ·exact(show Tryz.prog.wantsStandIn 3=false by kernel_rfl)
 ·exact(show Tryz.prog.wantsStandIn 25=false by kernel_rfl)
 ·exact(show Tryz.prog.wantsStandIn 56=false by kernel_rfl)
theorem proved:Rows.FnExactAuditDayUptoCardSaid:=
 Claim7.holds_tied_plain_at .later [] _ _ _ _ over (fun _ h=>by cases h) (by kernel_rfl) (fun _ h=>by cases h) fnExactAuditDayUpto_row_tie rfl ⟨rfl,rfl⟩ (by kernel_rfl) rfl standIn (by kernel_rfl)
end Go.Proofs.YtnbbkiilkaebaaaGreatDoor.l38
