/-
  THE LAW 'FnShuffles', of the second form: the contract of the law's function turned into the row's statement.
-/
import Derived.Test.YthafgjhkjgcdeaaGreatY37b
import Derived.Test.YthafgjhkjgcdeaaGreatPmY
import Derived.Test.YthafgjhkjgcdeaaGreatRows
import Derived.WalkKit
import Derived.ProofKit
import Derived.OpenShut
import Derived.JoinedCond
namespace Go.Proofs.YthafgjhkjgcdeaaGreat.l37
open Go.ChangeShapes Go.WideShapes Go.ChangeAt Go.RowKit Go.Am Go.Pm
set_option linter.unusedVariables false
set_option linter.unusedSimpArgs false
set_option maxRecDepth 100000
theorem one_le {H:Type}(d:DataW H):1≤Rows.uptoBulk d:=by
 cases d with
 |lit l=>cases l<;>simp[Rows.uptoBulk]
 |nil=>simp[Rows.uptoBulk]
 |ptr d=>simp[Rows.uptoBulk]
 |slice elems spare=>simp[Rows.uptoBulk]
 |agg zBl=>simp[Rows.uptoBulk]
 |iface t d=>simp[Rows.uptoBulk]
 |map entries=>simp[Rows.uptoBulk]
 |held h=>simp[Rows.uptoBulk]
theorem all_eq {H:Type}(l:List (DataW H)):Rows.uptoBulkAll l=zeZ (l.map Rows.uptoBulk):=by
 induction l with
 |nil=>rfl
 |cons x r ih=>simp only[Rows.uptoBulkAll,List.map_cons,zeZ,ih]
theorem hu {H:Type}:Ub (X:=H) Rows.uptoBulk:=by
 refine⟨one_le,fun D sp=>?_,fun D=>?_,fun s=>?_⟩
 ·simp only[Rows.uptoBulk,all_eq];omega
 ·simp only[Rows.uptoBulk,all_eq];omega
 ·simp only[Rows.uptoBulk];omega
theorem rd22 {X:Type}{enc:TypeId×Value→X}{W:World}{ub:DataW X→Nat}(hu:Ub ub):zkE X enc Tryz.prog W 22 (List Int) (CR (Shp.sl 1 (Shp.int .u8)) ub):=
 zEw hu Tryz.underlying22 (show Tryz.prog.cellsOf 5=1 by kernel_rfl) (by decide) (fun _=>rfl) (fun _=>Nat.le_refl 1) (zzV hu Tryz.underlying5)
def sa:SA ((List Int)×(List Int)×Unit):=(SA.cons false (Shp.sl 1 (Shp.int .u8)) (SA.cons false (Shp.sl 1 (Shp.int .u8)) SA.nil))
theorem argsR {X:Type}{enc:TypeId×Value→X}{W:World}{ub:DataW X→Nat}(hu:Ub ub):znn X enc Tryz.prog W [22,22] ((List Int)×(List Int)×Unit) sa ub:=(zr2 (zwA Tryz.underlying22 (rd22 hu)) (zr2 (zwA Tryz.underlying22 (rd22 hu)) zAg))
theorem own:ownKnob Tryz.prog.godebug=none:=by kernel_rfl
theorem laid:laidOutB Tryz.prog=true:=by kernel_rfl
theorem plain0 (b:(List Int)×(List Int)×Unit) (ho:sa.ok b) (hb:sa.bk b≤1048576):zev (b.1) (b.2.1)=some true:=by
 obtain⟨x,y,u⟩:=b
 have hb:(1+zeZ (x.map fun _=>1))+((1+zeZ (y.map fun _=>1))+_)≤1048576:=hb
 have lx:=zof (f:=fun _:Int=>1) (fun _=>Nat.le_refl 1) x
 have ly:=zof (f:=fun _:Int=>1) (fun _=>Nat.le_refl 1) y
 have ho:(∀z,z∈x→(Lit.int .u8 z).wf=true)∧(∀z,z∈y→(Lit.int .u8 z).wf=true)∧_:=ho
 have hw:∀z:Int,(Lit.int .u8 z).wf=true→0≤z∧z≤255:=fun z h=>by
  simp only[Lit.wf,Bool.and_eq_true,decide_eq_true_eq]at h
  exact h
 exact zEh x y (fun z hz=>hw z (ho.1 z hz)) (fun z hz=>hw z (ho.2.1 z hz)) (by omega) (by omega)
theorem plain (b:(List Int)×(List Int)×Unit) (ho:sa.ok b) (hb:sa.bk b≤1048576):∃os,PCalls Tryz.prog 4 ((sa.pvs b).map fun x=>(Md.sh,x)) (fun r o=>r=.bool true∧o=os):=
 ⟨_,zmd (plain0 b ho hb)⟩
theorem contract (H:Type) (enc:TypeId×Value→H) (W:World) (base:Nat) (args:Array Value) (ds gs:List (DataW H)) (before:List MemPlace)
 (hval:∀(j:Nat) t v,Tryz.f4.params[j]? =some t→args[j]? =some v→Value.okWide Tryz.prog W .any base t v)
 (hW:DataW.Whole enc Tryz.prog Tryz.f4.params.toList Rows.fnShufflesSpec.vars false W args.toList ds gs before) (hk:Rows.uptoSmall H (ds++gs)=true):
 Calls Tryz.prog 4 args W fun e W'=>∃v,e=.returned v∧Rows.fnShufflesSpec.post enc Tryz.prog Tryz.f4 false true false false W args v W':=by
 have hW':=hW
 obtain⟨p,q,hA0,hV,rfl,hfz,hnd⟩:=hW
 have hA:DataW.TrodAll enc Tryz.prog W 0 (fun _=>true) true Tryz.f4.params.toList args.toList ds p:=hA0
 rw[Tryz.params4]at hA hval
 obtain⟨rfl,rfl⟩:=trodVars_none hV
 have hbulk:zeZ (ds.map Rows.uptoBulk)≤1048576:=by
  have:Rows.uptoBulkAll (ds++[])≤1048576:=by simpa[Rows.uptoSmall]using hk
  rwa [List.append_nil,all_eq]at this
 have hcall:=zvj (P:=Tryz.prog) (f:=4) (argsR hu) (by decide) plain (base:=base) (args:=args) (fun j t v h1 h2=>hval j t v (by simpa using h1) (by simpa using h2)) hA hbulk
 have hlt:∀x∈p,x.block<W.heap.size:=fun x hx=>by simpa using hW'.lt x (by simpa using hx)
 simp only[List.append_nil]at hW'
 refine hcall.mono fun e W' ⟨he,hg,hsame⟩=>?_
 subst he
 have hA1:=hA
 obtain⟨v0,w0,d0,e0,p0,q0,hv0,hd0,hp0,t0,hA1⟩:=trodAll_cons hA1
 obtain⟨v1,w1,d1,e1,p1,q1,hv1,hd1,hp1,t1,hA1⟩:=trodAll_cons hA1
 obtain⟨rw,rd,rp⟩:=trodAll_nil hA1
 subst rd
 subst hd1
 subst hd0
 exact⟨_,rfl,zwa (pa:=p) (pv:=[]) hW' (fun _ _ _=>(trodAll_cons_mk (shut_bool Tryz.underlying4 _) trodAll_mk0))
  (fun sp hsp=>znY laid (by
    intro t ht
    rw[Tryz.params4]at ht
    simp only[List.mem_cons,List.not_mem_nil,or_false]at ht
    rcases ht with rfl|rfl
    all_goals exact⟨by kernel_rfl,of_decide_eq_true (by kernel_rfl)⟩) (show DataW.TrodAll enc Tryz.prog W 0 (fun _=>true) true Tryz.f4.params.toList args.toList _ p by rw[Tryz.params4];exact hA) (fun x hx=>by
    have:=hsame _ (hlt x hx)
    cases x with
    |cell b off=>simp only[World.sameAt,World.cell?];rw[show W'.heap[b]? =W.heap[b]? from this]
    |map b=>exact this) (fun x hx=>hsp x hx)) (fun _ _=>rfl) (by simp)
  hg hsame (ok_one (by kernel_rfl) rfl (okWide_bool_mk Tryz.underlying4 _))⟩
theorem lifted (os:Os) (started:os.Started) (H:Type) (enc:TypeId×Value→H) (F:Stop.Interp):
 ReturnsInHanded {} Tryz.checked os 4 .any ((Rows.OpenSpec.upto Rows.fnShufflesSpec).pre6 enc Tryz.prog Tryz.f4 Rows.fnShufflesUptoRow.domain false) (((Rows.OpenSpec.upto Rows.fnShufflesSpec).at F).post enc Tryz.prog Tryz.f4 false true false false):=by
 refine returnsInHanded_of_cond (C:=Tryz.checked) (s:=Rows.OpenSpec.upto Rows.fnShufflesSpec) (k:=Rows.uptoSmall) rfl own started (by kernel_rfl) Tryz.func4
  (OpenSpec.witness (enc:=enc) (C:=Tryz.checked) (s:=Rows.OpenSpec.upto Rows.fnShufflesSpec) (k:=Rows.uptoSmall) rfl false ⟨#[],#[.slice none 0 0,.slice none 0 0],[]⟩ 8 (by kernel_rfl) (by kernel_rfl) (by kernel_rfl)
    (x:=([.nil,.nil],[],[])) (by kernel_rfl) rfl (by kernel_rfl)) ?_
 intro W base args ds gs before hval hW _ hk _
 exact contract H enc W base args ds gs before hval hW hk
set_option maxHeartbeats 4000000 in
theorem closed:joinedFacts Tryz.pinned.checked.prog 4 Tryz.f4 (Rows.OpenSpec.upto Rows.fnShufflesSpec).bare Rows.fnShufflesUptoRow=true:=by
 simp only[joinedFacts,Bool.and_eq_true]
 and_intros
 all_goals as_aux_lemma=>kernel_rfl
theorem over:Rows.fnShufflesUptoRow.holds Tryz.pinned (Rows.OpenSpec.upto Rows.fnShufflesSpec):=
 OpenClaim.holds_of_cond 4 Tryz.f4 rfl rfl rfl rfl rfl rfl rfl ⟨rfl,rfl,rfl,rfl,rfl⟩ rfl rfl rfl rfl rfl (by kernel_rfl) Tryz.func4 closed
  (of_decide_eq_true (by kernel_rfl)) (by unfold Func.isWrapper;first|(rw[if_pos (by decide+kernel)];kernel_rfl)|(rw[if_neg (by decide+kernel)];exact⟨rfl,rfl⟩))
  (fun os started H enc _ F=>lifted os started H enc F)
theorem proved:Rows.FnShufflesUptoSaid:=
 over
end Go.Proofs.YthafgjhkjgcdeaaGreat.l37
