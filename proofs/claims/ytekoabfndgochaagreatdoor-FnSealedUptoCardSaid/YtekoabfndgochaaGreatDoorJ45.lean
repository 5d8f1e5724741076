/-
  THE LAW 'FnSealed', of the second form: the contract of the law's function turned into the row's statement.
-/
import Derived.Test.YtekoabfndgochaaGreatDoorY45b
import Derived.Test.YtekoabfndgochaaGreatDoorPmY
import Derived.Test.YtekoabfndgochaaGreatDoorCards
import Derived.Test.YtekoabfndgochaaGreatDoorTie
import Derived.WalkKit
import Derived.ProofKit
import Derived.OpenShut
import Derived.JoinedCond
import Derived.Deep.DeepHandedRow
import Derived.Lib.LaidTab
namespace Go.Proofs.YtekoabfndgochaaGreatDoor.l45
open Go.ChangeShapes Go.WideShapes Go.ChangeAt Go.RowKit Go.Am Go.Pm
set_option linter.unusedVariables false
set_option linter.unusedSimpArgs false
set_option maxRecDepth 100000
variable{W:World}
theorem one_le{H:Type}(d:DataW H):1≤Rows.uptoBulk d:=by
 cases d with
 |lit l=>cases l<;>simp[Rows.uptoBulk]
 |nil=>simp[Rows.uptoBulk]
 |ptr d=>simp[Rows.uptoBulk]
 |slice elems spare=>simp[Rows.uptoBulk]
 |agg zE0=>simp[Rows.uptoBulk]
 |iface t d=>simp[Rows.uptoBulk]
 |map entries=>simp[Rows.uptoBulk]
 |held h=>simp[Rows.uptoBulk]
theorem all_eq{H:Type}(l:List (DataW H)):Rows.uptoBulkAll l=zgs (l.map Rows.uptoBulk):=by
 induction l with
 |nil=>rfl
 |cons x r ih=>simp only[Rows.uptoBulkAll,List.map_cons,zgs,ih]
theorem hu{H:Type}:Ub (X:=H) Rows.uptoBulk:=by
 refine⟨one_le,fun D sp=>?_,fun D=>?_,fun s=>?_⟩
 ·simp only[Rows.uptoBulk,all_eq];omega
 ·simp only[Rows.uptoBulk,all_eq];omega
 ·simp only[Rows.uptoBulk];omega
theorem rd22{X:Type}{enc:TypeId×Value→X}{ub:DataW X→Nat}(hu:Ub ub):zl9 X enc Tryz.prog W 22 (List Int) (CR (Shp.sl 1 (Shp.int .u8)) ub):=
 zEW hu Tryz.underlying22 (show Tryz.prog.cellsOf 5=1 by kernel_rfl) (by decide) (fun _=>rfl) (fun _=>Nat.le_refl 1) (zCK hu Tryz.underlying5)
def sa:SA ((List Int)×(List Int)×Unit):=(SA.cons false (Shp.sl 1 (Shp.int .u8)) (SA.cons false (Shp.sl 1 (Shp.int .u8)) SA.nil))
theorem argsR{X:Type}{enc:TypeId×Value→X}{ub:DataW X→Nat}(hu:Ub ub):zpv X enc Tryz.prog W [22,22] ((List Int)×(List Int)×Unit) sa ub:=(zuP (zzO Tryz.underlying22 (rd22 hu)) (zuP (zzO Tryz.underlying22 (rd22 hu)) zCB))
theorem own:ownKnob Tryz.prog.godebug=none:=by kernel_rfl
theorem laid:laidOutB Tryz.prog=true:=by kernel_rfl
theorem plain0(b:(List Int)×(List Int)×Unit)(ho:sa.ok b)(hb:sa.bk b≤1048576):zgk (b.1) (b.2.1)=some true:=by
 obtain⟨x,y,u⟩:=b;have hb:(1+zgs (x.map fun _=>1))+((1+zgs (y.map fun _=>1))+_)≤1048576:=hb;have lx:=zp5 (f:=fun _:Int=>1) (fun _=>Nat.le_refl 1) x;have ly:=zp5 (f:=fun _:Int=>1) (fun _=>Nat.le_refl 1) y;have ho:(∀z,z∈x→(Lit.int .u8 z).wf=true)∧(∀z,z∈y→(Lit.int .u8 z).wf=true)∧_:=ho
 have hw:∀z:Int,(Lit.int .u8 z).wf=true→0≤z∧z≤255:=fun z h=>by
  simp only[Lit.wf,Bool.and_eq_true,decide_eq_true_eq]at h;exact h
 exact zHq x y (fun z hz=>hw z (ho.1 z hz)) (fun z hz=>hw z (ho.2.1 z hz)) (by omega) (by omega)
theorem plain(b:(List Int)×(List Int)×Unit)(ho:sa.ok b)(hb:sa.bk b≤1048576):∃os,PCalls Tryz.prog 4 ((sa.pvs b).map fun x=>(Md.sh,x)) (fun r o=>r=.bool true∧o=os):=
 ⟨_,zpy (plain0 b ho hb)⟩
theorem gTab:Tryz.prog.globalNamed "internal/strconv.uint64pow10" =some 0:=by kernel_rfl
theorem gTy:(Tryz.prog.globals[0]?).map (·.type)=some 206:=by kernel_rfl
theorem gU:Tryz.prog.underlying 206=some (.array 20 63):=by kernel_rfl
theorem gE:Tryz.prog.underlying 63=some (.int .u64):=by kernel_rfl
theorem gC:Tryz.prog.cellsOf 206=20:=by kernel_rfl
theorem gD:Tryz.prog.cellsOf 63=1:=by kernel_rfl
def zs:List Int:=[1,10,100,1000,10000,100000,1000000,10000000,100000000,1000000000,10000000000,100000000000,1000000000000,10000000000000,100000000000000,1000000000000000,10000000000000000,100000000000000000,1000000000000000000,10000000000000000000]
theorem zsA:(zs.map fun z=>Value.int .u64 z).toArray=zm2:=by kernel_rfl
theorem tab(h:laidMetH Tryz.prog Rows.fnSealedUptoRow.laid W):∀g,zm1=some g→∃e fz,W.heap[g]? =some (Obj.cells zm2 e fz):=by
 intro g hg;unfold zm1 at hg;obtain rfl:=Option.some.inj hg;have h:laidMet Tryz.prog [("math/bits.deBruijn32tab",Rows.laid_math_bits_deBruijn32tab),("math/bits.deBruijn64tab",Rows.laid_math_bits_deBruijn64tab),("internal/strconv.uint64pow10",Lib.tabData .u64 zs)] W:=h;obtain⟨ps,⟨_,_,_,_,_,_,_,_,_,_,⟨_,_,_,_,_,_,_,_,_,_,⟨g',t',cs,fuel,p,q,hg',ht',hvar,hd,_⟩,_⟩,_⟩,_⟩:=h;obtain rfl:=Option.some.inj (gTab.symm.trans hg');obtain rfl:=Option.some.inj (gTy.symm.trans ht')
 have hT:Lib.TabIs Tryz.prog W "internal/strconv.uint64pow10" .u64 zs:=by
  unfold Lib.TabIs;rw[hvar,←Lib.cells_of_tab gU gE gD gC hd]
 unfold Lib.TabIs World.var? at hT;rw[gTab,Option.bind_some]at hT;split at hT
 ·rename_i cs e fz hx;rw[zsA]at hT;obtain rfl:=Option.some.inj hT;exact⟨e,fz,hx⟩
 ·cases hT
noncomputable def laidWorld(os:Os):World:=
 {World.holding Tryz.prog os ⟨#[],#[],[]⟩with heap:=((((World.holding Tryz.prog os ⟨#[],#[],[]⟩).heap.modify 0 fun
  | .cells _ t frozen=>.cells #[.int .u64 1,.int .u64 10,.int .u64 100,.int .u64 1000,.int .u64 10000,.int .u64 100000,.int .u64 1000000,.int .u64 10000000,.int .u64 100000000,.int .u64 1000000000,.int .u64 10000000000,.int .u64 100000000000,.int .u64 1000000000000,.int .u64 10000000000000,.int .u64 100000000000000,.int .u64 1000000000000000,.int .u64 10000000000000000,.int .u64 100000000000000000,.int .u64 1000000000000000000,.int .u64 10000000000000000000] t frozen
  |o=>o).modify 1 fun
  | .cells _ t frozen=>.cells #[.int .u8 0,.int .u8 1,.int .u8 28,.int .u8 2,.int .u8 29,.int .u8 14,.int .u8 24,.int .u8 3,.int .u8 30,.int .u8 22,.int .u8 20,.int .u8 15,.int .u8 25,.int .u8 17,.int .u8 4,.int .u8 8,.int .u8 31,.int .u8 27,.int .u8 13,.int .u8 23,.int .u8 21,.int .u8 19,.int .u8 16,.int .u8 7,.int .u8 26,.int .u8 12,.int .u8 18,.int .u8 6,.int .u8 11,.int .u8 5,.int .u8 10,.int .u8 9] t frozen
  |o=>o).modify 2 fun
  | .cells _ t frozen=>.cells #[.int .u8 0,.int .u8 1,.int .u8 56,.int .u8 2,.int .u8 57,.int .u8 49,.int .u8 28,.int .u8 3,.int .u8 61,.int .u8 58,.int .u8 42,.int .u8 50,.int .u8 38,.int .u8 29,.int .u8 17,.int .u8 4,.int .u8 62,.int .u8 47,.int .u8 59,.int .u8 36,.int .u8 45,.int .u8 43,.int .u8 51,.int .u8 22,.int .u8 53,.int .u8 39,.int .u8 33,.int .u8 30,.int .u8 24,.int .u8 18,.int .u8 12,.int .u8 5,.int .u8 63,.int .u8 55,.int .u8 48,.int .u8 27,.int .u8 60,.int .u8 41,.int .u8 37,.int .u8 16,.int .u8 46,.int .u8 35,.int .u8 44,.int .u8 21,.int .u8 52,.int .u8 32,.int .u8 23,.int .u8 11,.int .u8 54,.int .u8 26,.int .u8 40,.int .u8 15,.int .u8 34,.int .u8 20,.int .u8 31,.int .u8 10,.int .u8 25,.int .u8 14,.int .u8 19,.int .u8 9,.int .u8 13,.int .u8 8,.int .u8 7,.int .u8 6] t frozen
  |o=>o)}
theorem contract(H:Type)(enc:TypeId×Value→H)(W:World)(base:Nat)(args:Array Value)(ds gs:List (DataW H))(before:List MemPlace)
(hval:∀(j:Nat) t v,Tryz.f4.params[j]? =some t→args[j]? =some v→Value.okWide Tryz.prog W .any base t v)
(hW:DataW.Whole enc Tryz.prog Tryz.f4.params.toList Rows.fnSealedSpec.vars false W args.toList ds gs before)(hk:Rows.uptoSmall H (ds++gs)=true)(htab:∀g,zm1=some g→∃e fz,W.heap[g]? =some (Obj.cells zm2 e fz)):
 Calls Tryz.prog 4 args W fun e W'=>∃v,e=.returned v∧Rows.fnSealedSpec.post enc Tryz.prog Tryz.f4 false true false false W args v W':=by
 have hW':=hW;obtain⟨p,q,hA0,hV,rfl,hfz,hnd⟩:=hW;have hA:DataW.TrodAll enc Tryz.prog W 0 (fun _=>true) true Tryz.f4.params.toList args.toList ds p:=hA0;rw[Tryz.params4]at hA hval;obtain⟨rfl,rfl⟩:=trodVars_none hV
 have hbulk:zgs (ds.map Rows.uptoBulk)≤1048576:=by
  have:Rows.uptoBulkAll (ds++[])≤1048576:=by simpa[Rows.uptoSmall]using hk
  rwa [List.append_nil,all_eq]at this
 have hcall:=zwA (P:=Tryz.prog) (f:=4) (argsR hu) (by decide) plain (base:=base) (args:=args) (fun j t v h1 h2=>hval j t v (by simpa using h1) (by simpa using h2)) hA hbulk htab;have hlt:∀x∈p,x.block<W.heap.size:=fun x hx=>by simpa using hW'.lt x (by simpa using hx)
 simp only[List.append_nil]at hW';refine hcall.mono fun e W' ⟨he,hg,hsame⟩=>?_
 subst he;have hA1:=hA;obtain⟨v0,w0,d0,e0,p0,q0,hv0,hd0,hp0,t0,hA1⟩:=trodAll_cons hA1;obtain⟨v1,w1,d1,e1,p1,q1,hv1,hd1,hp1,t1,hA1⟩:=trodAll_cons hA1;obtain⟨rw,rd,rp⟩:=trodAll_nil hA1;subst rd;subst hd1;subst hd0
 exact⟨_,rfl,zyE (pa:=p) (pv:=[]) hW' (fun _ _ _=>(trodAll_cons_mk (shut_bool Tryz.underlying4 _) trodAll_mk0))
  (fun sp hsp=>zqv laid (by
    intro t ht;rw[Tryz.params4]at ht;simp only[List.mem_cons,List.not_mem_nil,or_false]at ht;rcases ht with rfl|rfl
    all_goals exact⟨by kernel_rfl,of_decide_eq_true (by kernel_rfl)⟩) (show DataW.TrodAll enc Tryz.prog W 0 (fun _=>true) true Tryz.f4.params.toList args.toList _ p by rw[Tryz.params4];exact hA) (fun x hx=>by
    have:=hsame _ (hlt x hx);cases x with
    |cell b off=>simp only[World.sameAt,World.cell?];rw[show W'.heap[b]? =W.heap[b]? from this]
    |map b=>exact this) (fun x hx=>hsp x hx)) (fun _ _=>rfl) (by simp)
  hg hsame (ok_one (by kernel_rfl) rfl (okWide_bool_mk Tryz.underlying4 _))⟩
theorem laid_met(os:Os):laidMet Tryz.prog Rows.fnSealedUptoRow.laid ((laidWorld os).forCall (fun _ _=>0) ⟨#[],#[.slice none 0 0,.slice none 0 0],[]⟩).memory:=
 laidMet_of_run' 8 (by kernel_rfl) (by kernel_rfl)
theorem reads(os:Os){H:Type}(enc:TypeId×Value→H):∃places,DataW.whole enc Tryz.prog ((laidWorld os).forCall (fun _ _=>0) ⟨#[],#[.slice none 0 0,.slice none 0 0],[]⟩).memory Tryz.f4.params.toList Rows.fnSealedSpec.vars false (#[.slice none 0 0,.slice none 0 0]:Array Value).toList 8=some ([.nil,.nil],[],places):=
 ⟨[],by kernel_rfl⟩
theorem lifted(os:Os)(started:os.Started)(H:Type)(enc:TypeId×Value→H)(F:Stop.Interp):
 ReturnsInHanded {} Tryz.checked os 4 .any ((Rows.OpenSpec.upto Rows.fnSealedSpec).preRow enc Tryz.prog Tryz.f4 Rows.fnSealedUptoRow.domain false Rows.fnSealedUptoRow.laid) (((Rows.OpenSpec.upto Rows.fnSealedSpec).at F).post enc Tryz.prog Tryz.f4 false true false false):=by
 obtain⟨places,hx⟩:=reads os enc
 refine returnsInHanded_of_row (C:=Tryz.checked) (s:=Rows.OpenSpec.upto Rows.fnSealedSpec) own started (by kernel_rfl) Tryz.func4
  (witness_row_at (enc:=enc) (C:=Tryz.checked) false (laidWorld os) #[.slice none 0 0,.slice none 0 0] rfl (by kernel_rfl) (by kernel_rfl) (by kernel_rfl)
    (OpenSpec.preRow_of_cond 8 hx (by kernel_rfl) (fun k hk=>by cases hk;kernel_rfl) (by kernel_rfl) (laid_met os))) ?_
 intro W base args ds gs before hval hW _ hk _ hL _ _;exact contract H enc W base args ds gs before hval hW (hk _ rfl) (tab hL)
set_option maxHeartbeats 4000000 in
theorem closed:joinedFacts Tryz.pinned.checked.prog 4 Tryz.f4 (Rows.OpenSpec.upto Rows.fnSealedSpec).bare Rows.fnSealedUptoRow=true:=by
 simp only[joinedFacts,Bool.and_eq_true]
 and_intros
 all_goals as_aux_lemma=>kernel_rfl
theorem over:Rows.fnSealedUptoRow.holds Tryz.pinned (Rows.OpenSpec.upto Rows.fnSealedSpec):=
 OpenClaim.holds_of_cond 4 Tryz.f4 rfl rfl rfl rfl rfl rfl rfl ⟨rfl,rfl,rfl,rfl,rfl⟩ rfl rfl rfl rfl rfl (by kernel_rfl) Tryz.func4 closed
  (of_decide_eq_true (by kernel_rfl)) (by unfold Func.isWrapper;first|(rw[if_pos (by decide+kernel)];kernel_rfl)|(rw[if_neg (by decide+kernel)];exact⟨rfl,rfl⟩))
  (fun os started H enc _ F=>by rw[OpenClaim.pre_eq_preRow];exact lifted os started H enc F)
theorem standIn (f:FuncId) (fn:Func) (hf:Tryz.pinned.checked.prog.funcNamed "loop.example/g00878/laws.FnSealed" =some f) (hfn:Tryz.pinned.checked.prog.funcs[f]? =some fn):
 false=Tryz.pinned.checked.prog.looks []∧∀(j:Nat) t,fn.params[j]? =some t→Tryz.pinned.checked.prog.wantsStandIn t=false:=by
 obtain rfl:f=4:=Option.some.inj ((show Tryz.prog.funcNamed "loop.example/g00878/laws.FnSealed" =some 4 by kernel_rfl).symm.trans hf)|>.symm;obtain rfl:fn=Tryz.f4:=(Option.some.inj (Tryz.func4.symm.trans hfn)).symm;refine⟨by kernel_rfl,fun j t ht=>?_⟩;rw[Tryz.params4]at ht;have ht:=Array.mem_of_getElem? ht;simp only[List.mem_toArray,List.mem_cons,List.not_mem_nil,or_false]at ht;rcases ht with rfl|rfl
 ·exact(show Tryz.prog.wantsStandIn 22=false by kernel_rfl)
 ·exact(show Tryz.prog.wantsStandIn 22=false by kernel_rfl)
theorem proved:Rows.FnSealedUptoCardSaid:=
 Claim7.holds_tied_plain_at .later [] _ _ _ _ over (fun _ h=>by cases h) (by kernel_rfl) (fun _ h=>by cases h) fnSealedUpto_row_tie rfl ⟨rfl,rfl⟩ (by kernel_rfl) rfl standIn (by kernel_rfl)
end Go.Proofs.YtekoabfndgochaaGreatDoor.l45
