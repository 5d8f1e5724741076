/-
  THE LAW 'FnCascades', of the second form: the contract of the law's function turned into the row's statement.
-/
import Derived.Test.YtjnidpmkglobfaaGreatY43c
import Derived.Test.YtjnidpmkglobfaaGreatPmY
import Derived.Test.YtjnidpmkglobfaaGreatRows
import Derived.WalkKit
import Derived.ProofKit
import Derived.OpenShut
import Derived.JoinedCond
namespace Go.Proofs.YtjnidpmkglobfaaGreat.l43
open Go.ChangeShapes Go.WideShapes Go.ChangeAt Go.RowKit Go.Am Go.Pm
set_option linter.unusedVariables false
set_option linter.unusedSimpArgs false
set_option maxRecDepth 100000
theorem one_le{H:Type}(d:DataW H):1<=Rows.uptoBulk d:=by
 cases d with
 |lit l=>cases l<;>simp[Rows.uptoBulk]
 |nil=>simp[Rows.uptoBulk]
 |ptr d=>simp[Rows.uptoBulk]
 |slice elems spare=>simp[Rows.uptoBulk]
 |agg zHj=>simp[Rows.uptoBulk]
 |iface t d=>simp[Rows.uptoBulk]
 |map entries=>simp[Rows.uptoBulk]
 |held h=>simp[Rows.uptoBulk]
theorem all_eq{H:Type}(l:List (DataW H)):Rows.uptoBulkAll l=jR (l.map Rows.uptoBulk):=by
 induction l with
 |nil=>rfl
 |cons x r ih=>simp only[Rows.uptoBulkAll,List.map_cons,jR,ih]
theorem hu{H:Type}:Ub (X:=H) Rows.uptoBulk:=by
 refine⟨one_le,λD sp=>?_,λD=>?_,λs=>?_⟩
 ·simp only[Rows.uptoBulk,all_eq];omega
 ·simp only[Rows.uptoBulk,all_eq];omega
 ·simp only[Rows.uptoBulk];omega
theorem rd22{X:Type}{enc:TypeId×Value->X}{W:World}{ub:DataW X->Nat}(hu:Ub ub):B8 X enc Tryz.prog W 22 (List Int) (CR (eC.sl 1 (eC.int .u8)) ub):=
 zGo hu Tryz.underlying22 (show Tryz.prog.cellsOf 5=1 by kernel_rfl) (by decide) (λ_=>rfl) (λ_=>Nat.le_refl 1) (zB7 hu Tryz.underlying5)
def sa:SA ((List Int)×(List Int)×Unit):=(SA.cons false (eC.sl 1 (eC.int .u8)) (SA.cons false (eC.sl 1 (eC.int .u8)) SA.nil))
theorem argsR{X:Type}{enc:TypeId×Value->X}{W:World}{ub:DataW X->Nat}(hu:Ub ub):K6 X enc Tryz.prog W [22,22] ((List Int)×(List Int)×Unit) sa ub:=(W1 (XD Tryz.underlying22 (rd22 hu)) (W1 (XD Tryz.underlying22 (rd22 hu)) zCg))
theorem own:ownKnob Tryz.prog.godebug=none:=by kernel_rfl
theorem laid:laidOutB Tryz.prog=true:=by kernel_rfl
theorem plain0(b:(List Int)×(List Int)×Unit)(ho:sa.ok b)(hb:sa.bk b<=1048576):Kn (b.1) (b.2.1)=some true:=by
 obtain⟨x,y,u⟩:=b;have hb:(1+jR (x.map λ_=>1))+((1+jR (y.map λ_=>1))+_)<=1048576:=hb;have lx:=QX (f:=λ_:Int=>1) (λ_=>Nat.le_refl 1) x;have ly:=QX (f:=λ_:Int=>1) (λ_=>Nat.le_refl 1) y;have ho:(∀z,z∈x->(Lit.int .u8 z).wf=true)/\(∀z,z∈y->(Lit.int .u8 z).wf=true)/\_:=ho
 have hw:∀z:Int,(Lit.int .u8 z).wf=true->0<=z/\z<=255:=λz h=>by
  simp only[Lit.wf,Bool.and_eq_true,decide_eq_true_eq]at h;exact h
 exact zFt x y (λz hz=>hw z (ho.1 z hz)) (λz hz=>hw z (ho.2.1 z hz)) (by omega) (by omega)
theorem uK(b:(List Int)×(List Int)×Unit)(ho:sa.ok b)(hb:sa.bk b<=1048576):∃os,aq Tryz.prog 3 ((sa.HA b).map λx=>(Md.sh,x)) (λr o=>r=.bool true/\o=os):=
 ⟨_,zod (plain0 b ho hb)⟩
theorem contract(H:Type)(enc:TypeId×Value->H)(W:World)(base:Nat)(args:Array Value)(ds gs:List (DataW H))(Bx:List MemPlace)
(D3:∀(j:Nat) t v,Tryz.f3.params[j]? =some t->args[j]? =some v->Value.okWide Tryz.prog W .any base t v)
(hW:DataW.Whole enc Tryz.prog Tryz.f3.params.toList Rows.fnCascadesSpec.vars false W args.toList ds gs Bx)(hk:Rows.uptoSmall H (ds++gs)=true):
 Calls Tryz.prog 3 args W λe W'=>∃v,e=.returned v/\Rows.fnCascadesSpec.post enc Tryz.prog Tryz.f3 false true false false W args v W':=by
 have hW':=hW;obtain⟨p,q,hA0,hV,rfl,hfz,hnd⟩:=hW;have hA:DataW.TrodAll enc Tryz.prog W 0 (λ_=>true) true Tryz.f3.params.toList args.toList ds p:=hA0;rw[Tryz.params3]at hA D3;obtain⟨rfl,rfl⟩:=trodVars_none hV
 have hbulk:jR (ds.map Rows.uptoBulk)<=1048576:=by
  have:Rows.uptoBulkAll (ds++[])<=1048576:=by simpa[Rows.uptoSmall]using hk
  rwa [List.append_nil,all_eq]at this
 have Jg:=zwU (P:=Tryz.prog) (f:=3) (argsR hu) (by decide) uK (base:=base) (args:=args) (λj t v h1 h2=>D3 j t v (by simpa using h1) (by simpa using h2)) hA hbulk (λg h=>by unfold KW at h;cases h);have hlt:∀x∈p,x.block<W.heap.size:=λx hx=>by simpa using hW'.lt x (by simpa using hx)
 simp only[List.append_nil]at hW';refine Jg.mono λe W' ⟨he,hg,Mw⟩=>?_
 subst he;have hA1:=hA;obtain⟨v0,w0,d0,e0,p0,q0,hv0,T2,Pz,t0,hA1⟩:=trodAll_cons hA1;obtain⟨v1,w1,d1,e1,p1,q1,hv1,u7,Um,t1,hA1⟩:=trodAll_cons hA1;obtain⟨rw,rd,rp⟩:=trodAll_nil hA1;subst rd;subst u7;subst T2
 exact⟨_,rfl,zyZ (pa:=p) (pv:=[]) hW' (λ_ _ _=>(trodAll_cons_mk (shut_bool Tryz.underlying4 _) trodAll_mk0))
  (λsp D8=>zqM laid (by
    intro t ht;rw[Tryz.params3]at ht;simp only[List.mem_cons,List.not_mem_nil,or_false]at ht;rcases ht with rfl|rfl
    all_goals exact⟨by kernel_rfl,of_decide_eq_true (by kernel_rfl)⟩) (show DataW.TrodAll enc Tryz.prog W 0 (λ_=>true) true Tryz.f3.params.toList args.toList _ p by rw[Tryz.params3];exact hA) (λx hx=>by
    have:=Mw _ (hlt x hx);cases x with
    |cell b off=>simp only[World.sameAt,World.cell?];rw[show W'.heap[b]? =W.heap[b]? from this]
    |map b=>exact this) (λx hx=>D8 x hx)) (λ_ _=>rfl) (by simp)
  hg Mw (ok_one (by kernel_rfl) rfl (okWide_bool_mk Tryz.underlying4 _))⟩
theorem lifted(os:Os)(started:os.Started)(H:Type)(enc:TypeId×Value->H)(F:Stop.Interp):
 ReturnsInHanded {} Tryz.checked os 3 .any ((Rows.OpenSpec.upto Rows.fnCascadesSpec).pre6 enc Tryz.prog Tryz.f3 Rows.fnCascadesUptoRow.domain false) (((Rows.OpenSpec.upto Rows.fnCascadesSpec).at F).post enc Tryz.prog Tryz.f3 false true false false):=by
 refine returnsInHanded_of_cond (C:=Tryz.checked) (s:=Rows.OpenSpec.upto Rows.fnCascadesSpec) (k:=Rows.uptoSmall) rfl own started (by kernel_rfl) Tryz.func3
  (OpenSpec.witness (enc:=enc) (C:=Tryz.checked) (s:=Rows.OpenSpec.upto Rows.fnCascadesSpec) (k:=Rows.uptoSmall) rfl false ⟨#[],#[.slice none 0 0,.slice none 0 0],[]⟩ 8 (by kernel_rfl) (by kernel_rfl) (by kernel_rfl)
    (x:=([.nil,.nil],[],[])) (by kernel_rfl) rfl (by kernel_rfl)) ?_
 intro W base args ds gs Bx D3 hW _ hk _;exact contract H enc W base args ds gs Bx D3 hW hk
set_option maxHeartbeats 4000000 in
theorem closed:joinedFacts Tryz.pinned.checked.prog 3 Tryz.f3 (Rows.OpenSpec.upto Rows.fnCascadesSpec).bare Rows.fnCascadesUptoRow=true:=by
 simp only[joinedFacts,Bool.and_eq_true]
 and_intros
 all_goals as_aux_lemma=>kernel_rfl
theorem over:Rows.fnCascadesUptoRow.holds Tryz.pinned (Rows.OpenSpec.upto Rows.fnCascadesSpec):=
 OpenClaim.holds_of_cond 3 Tryz.f3 rfl rfl rfl rfl rfl rfl rfl ⟨rfl,rfl,rfl,rfl,rfl⟩ rfl rfl rfl rfl rfl (by kernel_rfl) Tryz.func3 closed
  (of_decide_eq_true (by kernel_rfl)) (by unfold Func.isWrapper;first|(rw[if_pos (by decide+kernel)];kernel_rfl)|(rw[if_neg (by decide+kernel)];exact⟨rfl,rfl⟩))
  (λos started H enc _ F=>lifted os started H enc F)
theorem proved:Rows.FnCascadesUptoSaid:=
 over
end Go.Proofs.YtjnidpmkglobfaaGreat.l43
