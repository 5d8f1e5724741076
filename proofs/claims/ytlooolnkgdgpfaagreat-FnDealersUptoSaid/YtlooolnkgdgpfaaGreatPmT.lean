import Derived.Test.YtlooolnkgdgpfaaGreatPmS
namespace Go.Pm
open Go.Am
section
variable {P : Program} {c co : Cfg} {k : List PIt} {Q : Exit → PFr → Prop} {pf : PFr}
@[go_sem] theorem nohp_mk {a : Nat} {b f h : List Nat} : Cfg.nohp ⟨a, b, f, h⟩ = ⟨a, b, f, []⟩ := (rfl)
@[go_sem ↓] theorem pw_region {id : Nat} {ops : List Oper} : pw P c (.code (.region id ops.toArray false) :: k) Q pf = pw P c (.ops (ops.map (·.dst)) ops :: k) Q pf := by
 show pwp P c (.region id ops.toArray false) (pkont P c k Q) pf = _
 simp only [pwp, Bool.false_eq_true, if_false]
 rfl
@[go_sem ↓] theorem pw_ops_nil {pre : List (Option Tmp)} : pw P c (.ops pre [] :: k) Q pf = pw P c k Q pf := rfl
def pw1 (P : Program) (c co : Cfg) (ty : TypeId) (op : Op) (d : Option Tmp) (k : List PIt) (Q : Exit → PFr → Prop) (pf : PFr) : Prop := pop P co ⟨d, op, ty, "", #[], none⟩ (pw P c k Q) pf
theorem pop_at {o o' : Oper} {K : PFr → Prop} (h : o.op = o'.op) (hd : o.dst = o'.dst) (ht : o.type = o'.type) : pop P c o K pf = pop P c o' K pf := by
 obtain ⟨d, op, ty, ps, af, g⟩ := o
 obtain ⟨d', op', ty', ps', af', g'⟩ := o'
 simp only at h hd ht
 subst h; subst hd; subst ht
 rfl
@[go_sem ↓] theorem pw_op {pre : List (Option Tmp)} {d : Option Tmp} {op : Op} {ty : TypeId} {ps : String} {af : Array Edge} {l : List Oper} :
 pw P c (.ops pre (⟨d, op, ty, ps, af, none⟩ :: l) :: k) Q pf = pw1 P c c ty op d (.ops pre l :: k) Q pf := by
 show pgop P c pre ⟨d, op, ty, ps, af, none⟩ (pw P c (.ops pre l :: k) Q) pf = _
 simp only [pgop]
 exact pop_at rfl rfl rfl
def pwg (P : Program) (c : Cfg) (y : Option (Option Bool)) (b : Bool) (ty : TypeId) (op : Op) (d : Option Tmp) (k : List PIt) (Q : Exit → PFr → Prop) (pf : PFr) : Prop :=
 pgo c b d (pw1 P c c ty op d k Q pf) (pw P c k Q) pf y
theorem pwg_congr {y y' : Option (Option Bool)} {b : Bool} {ty : TypeId} {op : Op} {d : Option Tmp} (h : y = y') : pwg P c y b ty op d k Q pf = pwg P c y' b ty op d k Q pf := by rw [h]
@[go_sem ↓] theorem pw_gop {pre : List (Option Tmp)} {d : Option Tmp} {op : Op} {ty : TypeId} {ps : String} {af : Array Edge} {j : Nat} {b : Bool} {l : List Oper} :
 pw P c (.ops pre (⟨d, op, ty, ps, af, some (j, b)⟩ :: l) :: k) Q pf = pwg P c (ygP pf pre[j]?) b ty op d (.ops pre l :: k) Q pf := by
 show pgop P c pre ⟨d, op, ty, ps, af, some (j, b)⟩ (pw P c (.ops pre l :: k) Q) pf = _
 simp only [pgop]
 unfold pwg pw1
 rw [pop_at (o := ⟨d, op, ty, ps, af, some (j, b)⟩) (o' := ⟨d, op, ty, "", #[], none⟩) rfl rfl rfl]
@[go_sem] theorem ygP_some {d : Tmp} : ygP pf (some (some d)) = ygV (pf d) := (rfl)
@[go_sem] theorem ygV_bool {b : Bool} : ygV (.v (.bool b)) = some (some b) := (rfl)
@[go_sem] theorem ygV_skip : ygV .skip = some none := (rfl)
@[go_sem ↓] theorem pwg_tt {ty : TypeId} {op : Op} {d : Option Tmp} : pwg P c (some (some true)) true ty op d k Q pf = pw1 P c c ty op d k Q pf := by simp [pwg, pgo]
@[go_sem ↓] theorem pwg_ff {ty : TypeId} {op : Op} {d : Option Tmp} : pwg P c (some (some false)) false ty op d k Q pf = pw1 P c c ty op d k Q pf := by simp [pwg, pgo]
@[go_sem ↓] theorem pwg_tf {ty : TypeId} {op : Op} {d : Tmp} (h : ckd c d .skip = true) : pwg P c (some (some true)) false ty op (some d) k Q pf = pw P c k Q (pf.put d .skip) := by simp [pwg, pgo, pskip, h]
@[go_sem ↓] theorem pwg_ft {ty : TypeId} {op : Op} {d : Tmp} (h : ckd c d .skip = true) : pwg P c (some (some false)) true ty op (some d) k Q pf = pw P c k Q (pf.put d .skip) := by simp [pwg, pgo, pskip, h]
@[go_sem ↓] theorem pwg_n {b : Bool} {ty : TypeId} {op : Op} {d : Tmp} (h : ckd c d .skip = true) : pwg P c (some none) b ty op (some d) k Q pf = pw P c k Q (pf.put d .skip) := by simp [pwg, pgo, pskip, h]
theorem pwg_split {y b : Bool} {ty : TypeId} {op : Op} {d : Option Tmp} (h1 : y = true → pwg P c (some (some true)) b ty op d k Q pf) (h2 : y = false → pwg P c (some (some false)) b ty op d k Q pf) : pwg P c (some (some y)) b ty op d k Q pf := by
 cases y
 ·exact h2 rfl
 ·exact h1 rfl
def qv (P : Program) (c co : Cfg) (x : Option (PF × PFr)) (d : Option Tmp) (k : List PIt) (Q : Exit → PFr → Prop) : Prop :=
 match x with
 | some a => pput co (pw P c k Q) d a.1 a.2
 | none => False
def qz (P : Program) (c : Cfg) (d : Nat) (k : List PIt) (Q : Exit → PFr → Prop) (x : Option (PF × PFr)) : Prop := pfz (pw P c k Q) d x
theorem qv_congr {x x' : Option (PF × PFr)} {d : Option Tmp} (h : x = x') : qv P c co x d k Q = qv P c co x' d k Q := by rw [h]
theorem qz_congr {x x' : Option (PF × PFr)} {d : Nat} (h : x = x') : qz P c d k Q x = qz P c d k Q x' := by rw [h]
@[go_sem ↓] theorem qv_some {y : PF} {d : Tmp} (h : ckd co d y = true) (hf : co.fz.contains d = false) : qv P c co (some (y, pf)) (some d) k Q = pw P c k Q (pf.put d y) := by simp only [qv, pput, h, hf]; simp
@[go_sem ↓] theorem qv_fz {y : PF} {d : Tmp} (h : ckd co d y = true) (hf : co.fz.contains d = true) : qv P c co (some (y, pf)) (some d) k Q = qz P c d k Q (pfrz pf y) := by simp only [qv, pput, h, hf]; simp [qz]
@[go_sem ↓] theorem qv_nod {y : PF} : qv P c co (some (y, pf)) none k Q = pw P c k Q pf := rfl
@[go_sem ↓] theorem qz_some {y : PF} {d : Nat} : qz P c d k Q (some (y, pf)) = pw P c k Q (pf.put d y) := rfl
def qf (P : Program) (c : Cfg) (x : Option PFr) (k : List PIt) (Q : Exit → PFr → Prop) : Prop :=
 match x with
 | some pf => pw P c k Q pf
 | none => False
theorem qf_congr {x x' : Option PFr} (h : x = x') : qf P c x k Q = qf P c x' k Q := by rw [h]
@[go_sem ↓] theorem qf_some : qf P c (some pf) k Q = pw P c k Q pf := rfl
attribute [congr] pw_congr pwg_congr qv_congr qz_congr qf_congr
@[go_sem] theorem ckd_eq {d : Nat} {y : PF} : ckd c d y = (decide (d < c.nt) && !c.io.contains d && !(aroot y == some d)) := (rfl)
@[go_sem] theorem aroot_v {x : PV} : aroot (.v x) = none := (rfl)
@[go_sem] theorem aroot_skip : aroot .skip = none := (rfl)
@[go_sem] theorem aroot_ls {es : Nat} {r : List (List PV)} : aroot (.ls es r) = none := (rfl)
@[go_sem] theorem aroot_bl {r : List PV} : aroot (.bl r) = none := (rfl)
@[go_sem] theorem aroot_pt {s i j : Nat} {p : Path} : aroot (.pt s p i j) = some s := (rfl)
@[go_sem] theorem aroot_rf {s : Nat} {p : Path} : aroot (.rf s p) = some s := (rfl)
@[go_sem] theorem aroot_rv {s lo hi : Nat} {p : Path} : aroot (.rv s p lo hi) = some s := (rfl)
@[go_sem] theorem aroot_as {b : Bool} {s i j n : Nat} {p : Path} : aroot (.as b s p i j n) = some s := (rfl)
@[go_sem] theorem aroot_ra {s i j n : Nat} {p : Path} : aroot (.ra s p i j n) = some s := (rfl)
@[go_sem] theorem put_app {d t : Nat} {x : PF} : PFr.put pf d x t = if t = d then x else killF d (pf t) := (rfl)
@[go_sem] theorem upd_app {d t : Nat} {x : PF} : PFr.upd pf d x t = if t = d then x else pf t := (rfl)
@[go_sem] theorem kill_app {s n t : Nat} : PFr.kill pf s n t = killN s n (pf t) := (rfl)
@[go_sem] theorem killF_v {d : Nat} {x : PV} : killF d (.v x) = .v x := (rfl)
@[go_sem] theorem killF_skip {d : Nat} : killF d .skip = .skip := (rfl)
@[go_sem] theorem killF_ls {d es : Nat} {r : List (List PV)} : killF d (.ls es r) = .ls es r := (rfl)
@[go_sem] theorem killF_bl {d : Nat} {r : List PV} : killF d (.bl r) = .bl r := (rfl)
@[go_sem] theorem killF_pt {d s i j : Nat} {p : Path} : killF d (.pt s p i j) = if s = d then jP else .pt s p i j := by simp [killF, aroot]
@[go_sem] theorem killF_rf {d s : Nat} {p : Path} : killF d (.rf s p) = if s = d then jP else .rf s p := by simp [killF, aroot]
@[go_sem] theorem killF_rv {d s lo hi : Nat} {p : Path} : killF d (.rv s p lo hi) = if s = d then jP else .rv s p lo hi := by simp [killF, aroot]
@[go_sem] theorem killF_as {b : Bool} {d s i j n : Nat} {p : Path} : killF d (.as b s p i j n) = if s = d then jP else .as b s p i j n := by simp [killF, aroot]
@[go_sem] theorem killF_ra {d s i j n : Nat} {p : Path} : killF d (.ra s p i j n) = if s = d then jP else .ra s p i j n := by simp [killF, aroot]
@[go_sem] theorem killF_j {d : Nat} : killF d jP = jP := (rfl)
@[go_sem] theorem killN_v {s n : Nat} {x : PV} : killN s n (.v x) = .v x := by simp [killN, aroot]
@[go_sem] theorem killN_skip {s n : Nat} : killN s n .skip = .skip := by simp [killN, aroot]
@[go_sem] theorem killN_ls {s n es : Nat} {r : List (List PV)} : killN s n (.ls es r) = .ls es r := by simp [killN, aroot]
@[go_sem] theorem killN_bl {s n : Nat} {r : List PV} : killN s n (.bl r) = .bl r := by simp [killN, aroot]
@[go_sem] theorem killN_pt {s n s' i j : Nat} {p : Path} : killN s n (.pt s' p i j) = if s' = s ∧ n ≤ p.length then jP else .pt s' p i j := by simp [killN, aroot, alen]
@[go_sem] theorem killN_rf {s n s' : Nat} {p : Path} : killN s n (.rf s' p) = if s' = s ∧ n ≤ p.length then jP else .rf s' p := by simp [killN, aroot, alen]
@[go_sem] theorem killN_rv {s n s' lo hi : Nat} {p : Path} : killN s n (.rv s' p lo hi) = if s' = s ∧ n ≤ p.length then jP else .rv s' p lo hi := by simp [killN, aroot, alen]
@[go_sem] theorem killN_as {b : Bool} {s n s' i j m : Nat} {p : Path} : killN s n (.as b s' p i j m) = if s' = s ∧ n ≤ p.length + 1 then jP else .as b s' p i j m := by simp [killN, aroot, alen]
@[go_sem] theorem killN_ra {s n s' i j m : Nat} {p : Path} : killN s n (.ra s' p i j m) = if s' = s ∧ n ≤ p.length + 1 then jP else .ra s' p i j m := by simp [killN, aroot, alen]
@[go_sem] theorem killN_j {s n : Nat} : killN s n jP = jP := by simp [killN, aroot, jP]
@[go_sem] theorem ofL_cons {s : Nat} {x : PF} {l : List (Nat × PF)} {t : Nat} : PFr.ofL ((s, x) :: l) t = if t = s then x else PFr.ofL l t := (rfl)
@[go_sem] theorem ofL_nil {t : Nat} : PFr.ofL [] t = jP := (rfl)
@[go_sem] theorem initP_app {as : List (Md × PV)} {t : Nat} : initP as t = iniP as[t]? := (rfl)
@[go_sem] theorem iniP_some {m : Md} {x : PV} : iniP (some (m, x)) = .v x := (rfl)
@[go_sem] theorem iniP_none : iniP none = jP := (rfl)
@[go_sem] theorem isJ_j : isJ .junk = true := (rfl)
@[go_sem] theorem isJ_bool {b : Bool} : isJ (.bool b) = false := (rfl)
@[go_sem] theorem isJ_int {j : IntKind} {n : Int} : isJ (.int j n) = false := (rfl)
@[go_sem] theorem isJ_str {s : ByteArray} : isJ (.str s) = false := (rfl)
@[go_sem] theorem isJ_sl {o : Bool} {es : Nat} {r : List (List PV)} : isJ (.sl o es r) = false := (rfl)
@[go_sem] theorem isJ_fp {r : List PV} : isJ (.fp r) = false := (rfl)
@[go_sem] theorem isJ_bx {r : List PV} : isJ (.bx r) = false := (rfl)
@[go_sem] theorem isJ_func {f : Fn} {a b : List PV} : isJ (.func f a b) = false := (rfl)
@[go_sem] theorem isJ_agg {r : List PV} : isJ (.agg r) = false := (rfl)
@[go_sem] theorem isJ_tup {r : List PV} : isJ (.tup r) = false := (rfl)
@[go_sem] theorem isJ_nilf : isJ .nilf = false := (rfl)
@[go_sem] theorem isJ_nilp : isJ .nilp = false := (rfl)
@[go_sem] theorem isJ_nili : isJ .nili = false := (rfl)
@[go_sem] theorem hasO_j : hasO .junk = false := by simp [hasO]
@[go_sem] theorem hasO_bool {b : Bool} : hasO (.bool b) = false := by simp [hasO]
@[go_sem] theorem hasO_int {j : IntKind} {n : Int} : hasO (.int j n) = false := by simp [hasO]
@[go_sem] theorem hasO_str {s : ByteArray} : hasO (.str s) = false := by simp [hasO]
@[go_sem] theorem hasO_fp {r : List PV} : hasO (.fp r) = false := by simp [hasO]
@[go_sem] theorem hasO_func {f : Fn} {a b : List PV} : hasO (.func f a b) = false := by simp [hasO]
@[go_sem] theorem hasO_nilf : hasO .nilf = false := by simp [hasO]
@[go_sem] theorem hasO_nilp : hasO .nilp = false := by simp [hasO]
@[go_sem] theorem hasO_nili : hasO .nili = false := by simp [hasO]
attribute [go_sem] hasO_sl hasO_bx hasO_agg hasO_tup drop_sl drop_bx drop_agg drop_tup clean_sl clean_bx clean_agg clean_tup
@[go_sem] theorem drop_j : drop .junk = .junk := by simp [drop]
@[go_sem] theorem drop_bool {b : Bool} : drop (.bool b) = .bool b := by simp [drop]
@[go_sem] theorem drop_int {j : IntKind} {n : Int} : drop (.int j n) = .int j n := by simp [drop]
@[go_sem] theorem drop_str {s : ByteArray} : drop (.str s) = .str s := by simp [drop]
@[go_sem] theorem drop_fp {r : List PV} : drop (.fp r) = .fp r := by simp [drop]
@[go_sem] theorem drop_func {f : Fn} {a b : List PV} : drop (.func f a b) = .func f a b := by simp [drop]
@[go_sem] theorem drop_nilf : drop .nilf = .nilf := by simp [drop]
@[go_sem] theorem drop_nilp : drop .nilp = .nilp := by simp [drop]
@[go_sem] theorem drop_nili : drop .nili = .nili := by simp [drop]
@[go_sem] theorem clean_j : clean .junk = true := by simp [clean]
@[go_sem] theorem clean_bool {b : Bool} : clean (.bool b) = true := by simp [clean]
@[go_sem] theorem clean_int {j : IntKind} {n : Int} : clean (.int j n) = true := by simp [clean]
@[go_sem] theorem clean_str {s : ByteArray} : clean (.str s) = true := by simp [clean]
@[go_sem] theorem clean_fp {r : List PV} : clean (.fp r) = false := by simp [clean]
@[go_sem] theorem clean_func {f : Fn} {a b : List PV} : clean (.func f a b) = false := by simp [clean]
@[go_sem] theorem clean_nilf : clean .nilf = true := by simp [clean]
@[go_sem] theorem solidP_int {j : IntKind} {n : Int} : solidP (.int j n) = true := (rfl)
@[go_sem] theorem solidP_bool {b : Bool} : solidP (.bool b) = true := (rfl)
@[go_sem] theorem solidP_str {s : ByteArray} : solidP (.str s) = true := (rfl)
@[go_sem] theorem solidP_sl {o : Bool} {es : Nat} {r : List (List PV)} : solidP (.sl o es r) = true := (rfl)
@[go_sem] theorem solidP_bx {r : List PV} : solidP (.bx r) = true := (rfl)
@[go_sem] theorem solidP_fp {r : List PV} : solidP (.fp r) = true := (rfl)
@[go_sem] theorem solidP_func {f : Fn} {a b : List PV} : solidP (.func f a b) = true := (rfl)
@[go_sem] theorem cellish_int {j : IntKind} {n : Int} : cellish (.int j n) = true := (rfl)
@[go_sem] theorem cellish_bool {b : Bool} : cellish (.bool b) = true := (rfl)
@[go_sem] theorem cellish_str {s : ByteArray} : cellish (.str s) = true := (rfl)
@[go_sem] theorem cellish_sl {o : Bool} {es : Nat} {r : List (List PV)} : cellish (.sl o es r) = true := (rfl)
@[go_sem] theorem cellish_agg {r : List PV} : cellish (.agg r) = true := (rfl)
@[go_sem] theorem cellish_bx {r : List PV} : cellish (.bx r) = true := (rfl)
@[go_sem] theorem cellish_fp {r : List PV} : cellish (.fp r) = true := (rfl)
@[go_sem] theorem cellish_func {f : Fn} {a b : List PV} : cellish (.func f a b) = true := (rfl)
@[go_sem] theorem pcells_int {j : IntKind} {n : Int} : pcells (.int j n) = [.int j n] := (rfl)
@[go_sem] theorem pcells_bool {b : Bool} : pcells (.bool b) = [.bool b] := (rfl)
@[go_sem] theorem pcells_str {s : ByteArray} : pcells (.str s) = [.str s] := (rfl)
@[go_sem] theorem pcells_sl {o : Bool} {es : Nat} {r : List (List PV)} : pcells (.sl o es r) = [.sl o es r] := (rfl)
@[go_sem] theorem pcells_agg {r : List PV} : pcells (.agg r) = r := (rfl)
@[go_sem] theorem pcells_bx {r : List PV} : pcells (.bx r) = [.bx r] := (rfl)
@[go_sem] theorem pcells_fp {r : List PV} : pcells (.fp r) = [.fp r] := (rfl)
@[go_sem] theorem pcells_func {f : Fn} {a b : List PV} : pcells (.func f a b) = [.func f a b] := (rfl)
@[go_sem] theorem ofCe_bool {e : Nat} {b : Bool} : ofCe e (.bool b) = .bool b := (rfl)
@[go_sem] theorem ofCe_int {e : Nat} {j : IntKind} {n : Int} : ofCe e (.int j n) = .int j n := (rfl)
@[go_sem] theorem ofCe_str {e : Nat} {s : ByteArray} : ofCe e (.string s) = .str s := (rfl)
@[go_sem] theorem ofCe_nil {e : Nat} : ofCe e (.slice none 0 0) = .sl true e [] := (rfl)
@[go_sem] theorem ofCe_nilf {e : Nat} : ofCe e .nilFunc = .nilf := (rfl)
@[go_sem] theorem okc_int {j : IntKind} {n : Int} : okConst (.int j n) = true := (rfl)
@[go_sem] theorem okc_bool {b : Bool} : okConst (.bool b) = true := (rfl)
@[go_sem] theorem okc_str {b : ByteArray} : okConst (.string b) = true := (rfl)
@[go_sem] theorem okc_nil : okConst (.slice none 0 0) = true := (rfl)
@[go_sem] theorem okc_nilf : okConst .nilFunc = true := (rfl)
@[go_sem] theorem rdS_tmp {t : Tmp} : rdS pf (.tmp t) = toSF (pf t) := (rfl)
@[go_sem] theorem toSF_v {x : PV} : toSF (.v x) = toS x := (rfl)
@[go_sem] theorem toSF_skip : toSF .skip = none := (rfl)
@[go_sem] theorem toS_bool {b : Bool} : toS (.bool b) = some (.bool b) := (rfl)
@[go_sem] theorem toS_int {j : IntKind} {n : Int} : toS (.int j n) = some (.int j n) := (rfl)
@[go_sem] theorem toS_str {s : ByteArray} : toS (.str s) = some (.string s) := (rfl)
@[go_sem] theorem rdS_int {j : IntKind} {n : Int} : rdS pf (.const (.int j n)) = some (.int j n) := (rfl)
@[go_sem] theorem rdS_bool {b : Bool} : rdS pf (.const (.bool b)) = some (.bool b) := (rfl)
@[go_sem] theorem rdS_str {b : ByteArray} : rdS pf (.const (.string b)) = some (.string b) := (rfl)
@[go_sem] theorem fromS_bool {b : Bool} : fromS (.bool b) = some (.bool b) := (rfl)
@[go_sem] theorem fromS_int {j : IntKind} {n : Int} : fromS (.int j n) = some (.int j n) := (rfl)
@[go_sem] theorem fromS_str {s : ByteArray} : fromS (.string s) = some (.str s) := (rfl)
def ev1 (f : Value → Option Value) (x : Option Value) (pf : PFr) : Option (PF × PFr) := (x.bind fun a => (f a).bind fromS).map fun y => (.v y, pf)
def ev2 (f : Value → Value → Option Value) (x y : Option Value) (pf : PFr) : Option (PF × PFr) := (x.bind fun a => y.bind fun b => (f a b).bind fromS).map fun y => (.v y, pf)
def fin (x : Option Value) (pf : PFr) : Option (PF × PFr) := (x.bind fromS).map fun y => (.v y, pf)
@[go_sem] theorem ev1_some {f : Value → Option Value} {a : Value} : ev1 f (some a) pf = fin (f a) pf := (rfl)
@[go_sem] theorem ev2_some {f : Value → Value → Option Value} {a b : Value} : ev2 f (some a) (some b) pf = fin (f a b) pf := (rfl)
@[go_sem] theorem fin_bool {b : Bool} : fin (some (.bool b)) pf = some (.v (.bool b), pf) := (rfl)
@[go_sem] theorem fin_int {j : IntKind} {n : Int} : fin (some (.int j n)) pf = some (.v (.int j n), pf) := (rfl)
@[go_sem] theorem fin_str {s : ByteArray} : fin (some (.string s)) pf = some (.v (.str s), pf) := (rfl)
theorem pscal_qv {o : Oper} {x : Option (PF × PFr)} (h : (((plainOps o.op).bind (rdSl pf)).bind fun vs => (plainV P o.op vs).bind fromS).map (fun y => (PF.v y, pf)) = x) : pscal P co o (pw P c k Q) pf = qv P c co x o.dst k Q := by
 subst h
 unfold pscal
 cases (plainOps o.op).bind (rdSl pf) with
 | none => rfl
 | some vs =>
  simp only [Option.bind_some]
  cases (plainV P o.op vs).bind fromS <;> rfl
@[go_sem ↓] theorem pw1_unOp {ty t : TypeId} {op : UnOp} {x : Operand} {d : Option Tmp} : pw1 P c co ty (.unOp op t x) d k Q pf = qv P c co (ev1 (unV op) (rdS pf x) pf) d k Q := by
 refine pscal_qv (o := ⟨d, .unOp op t x, ty, "", #[], none⟩) ?_
 simp only [plainOps, rdSl, Option.bind_some]
 cases rdS pf x <;> simp [plainV, ev1]
theorem pw1_bstrC {ty s t : TypeId} {x : Operand} {d : Tmp} (ht : isStrTy P t = true) (hp : co.hp ≠ [] ∨ lsP pf x = true) : pw1 P c co ty (.convert s t x) (some d) k Q pf = qv P c co (bsE P s pf x) (some d) k Q := by
 show (if isStrTy P t = true then (co.hp ≠ [] ∨ lsP pf x = true) ∧ pbstr P co s t x (some d) (pw P c k Q) pf else _) = _
 rw [if_pos ht]
 unfold pbstr qv
 cases bsE P s pf x with
 | none => simp [hp]
 | some z => simp [hp, ht]
@[go_sem ↓] theorem pw1_bstr {ty s t : TypeId} {x : Operand} {d : Tmp} (ht : isStrTy P t = true) (hp : co.hp.isEmpty = false) : pw1 P c co ty (.convert s t x) (some d) k Q pf = qv P c co (bsE P s pf x) (some d) k Q := pw1_bstrC ht (.inl fun e => by rw [e] at hp; cases hp)
@[go_sem] theorem isLs1_ls {rows : List (List PV)} : isLs1 (.ls 1 rows) = true := (rfl)
@[go_sem ↓] theorem pw1_bstrL {ty s t : TypeId} {u : Nat} {d : Tmp} (ht : isStrTy P t = true) (hl : isLs1 (pf u) = true) : pw1 P c co ty (.convert s t (.tmp u)) (some d) k Q pf = qv P c co (bsE P s pf (.tmp u)) (some d) k Q := pw1_bstrC ht (.inr hl)
@[go_sem ↓] theorem pw1_convert {ty s t : TypeId} {x : Operand} {d : Option Tmp} (ht : isStrTy P t = false) : pw1 P c co ty (.convert s t x) d k Q pf = qv P c co (ev1 (convV P s t) (rdS pf x) pf) d k Q := by
 have e : pw1 P c co ty (.convert s t x) d k Q pf = pscal P co ⟨d, .convert s t x, ty, "", #[], none⟩ (pw P c k Q) pf := by
  show (if isStrTy P t = true then (co.hp ≠ [] ∨ lsP pf x = true) ∧ pbstr P co s t x d (pw P c k Q) pf else pscal P co ⟨d, .convert s t x, ty, "", #[], none⟩ (pw P c k Q) pf) = _
  rw [if_neg (by simp [ht])]
 rw [e]
 refine pscal_qv (o := ⟨d, .convert s t x, ty, "", #[], none⟩) ?_
 simp only [plainOps, rdSl, Option.bind_some]
 cases rdS pf x <;> simp [plainV, ev1]
@[go_sem] theorem isNilS_tmp {t : Tmp} : isNilS (.tmp t) = false := (rfl)
@[go_sem] theorem isNilS_int {j : IntKind} {n : Int} : isNilS (.const (.int j n)) = false := (rfl)
@[go_sem] theorem isNilS_bool {b : Bool} : isNilS (.const (.bool b)) = false := (rfl)
@[go_sem] theorem isNilS_str {s : ByteArray} : isNilS (.const (.string s)) = false := (rfl)
@[go_sem ↓] theorem pw1_binOp {ty t u : TypeId} {op : BinOp} {x y : Operand} {d : Option Tmp} (hy : isNilS y = false) : pw1 P c co ty (.binOp op t x y u) d k Q pf = qv P c co (ev2 (binV P op t) (rdS pf x) (rdS pf y) pf) d k Q := by
 have e : pw1 P c co ty (.binOp op t x y u) d k Q pf = pscal P co ⟨d, .binOp op t x y u, ty, "", #[], none⟩ (pw P c k Q) pf := by
  show pop P co ⟨d, .binOp op t x y u, ty, "", #[], none⟩ (pw P c k Q) pf = _
  simp only [pop, hy, Bool.false_eq_true, if_false]
 rw [e]
 refine pscal_qv (o := ⟨d, .binOp op t x y u, ty, "", #[], none⟩) ?_
 simp only [plainOps, rdSl, Option.bind_some]
 cases rdS pf x <;> cases rdS pf y <;> simp [plainV, ev2]
@[go_sem ↓] theorem pw1_index {ty t : TypeId} {x y : Operand} {d : Option Tmp} : pw1 P c co ty (.index t x y) d k Q pf = qv P c co (ev2 (indexV P t) (rdS pf x) (rdS pf y) pf) d k Q := by
 refine pscal_qv (o := ⟨d, .index t x y, ty, "", #[], none⟩) ?_
 simp only [plainOps, rdSl, Option.bind_some]
 cases rdS pf x <;> cases rdS pf y <;> simp [plainV, ev2]
@[go_sem ↓] theorem pw1_min {ty : TypeId} {x y : Operand} {ts : Array TypeId} {d : Option Tmp} : pw1 P c co ty (.call ⟨.builtin .min, #[x, y], ts⟩) d k Q pf = qv P c co (ev2 (minmaxV false) (rdS pf x) (rdS pf y) pf) d k Q := by
 refine pscal_qv (o := ⟨d, .call ⟨.builtin .min, #[x, y], ts⟩, ty, "", #[], none⟩) ?_
 simp only [plainOps, rdSl, Option.bind_some]
 cases rdS pf x <;> cases rdS pf y <;> simp [plainV, ev2]
@[go_sem ↓] theorem pw1_max {ty : TypeId} {x y : Operand} {ts : Array TypeId} {d : Option Tmp} : pw1 P c co ty (.call ⟨.builtin .max, #[x, y], ts⟩) d k Q pf = qv P c co (ev2 (minmaxV true) (rdS pf x) (rdS pf y) pf) d k Q := by
 refine pscal_qv (o := ⟨d, .call ⟨.builtin .max, #[x, y], ts⟩, ty, "", #[], none⟩) ?_
 simp only [plainOps, rdSl, Option.bind_some]
 cases rdS pf x <;> cases rdS pf y <;> simp [plainV, ev2]
@[go_sem] theorem conv_int {s d : TypeId} {i j k : IntKind} {n : Int} (hs : intTy P s = some i) (hd : intTy P d = some k) : convV P s d (.int j n) = some (.int k (k.wrap n)) := by
 unfold convV
 have : ∃ u, P.underlying s = some u := by
  unfold intTy at hs; split at hs
  ·rename_i h; exact ⟨_, h⟩
  ·cases hs
 obtain ⟨u, hu⟩ := this
 rw [hu, hd]
@[go_sem] theorem bin_add {j : IntKind} {t : TypeId} {a b : Int} : binV P .add t (.int j a) (.int j b) = some (.int j (j.wrap (a + b))) := by simp [binV, binInt]
@[go_sem] theorem bin_sub {j : IntKind} {t : TypeId} {a b : Int} : binV P .sub t (.int j a) (.int j b) = some (.int j (j.wrap (a - b))) := by simp [binV, binInt]
@[go_sem] theorem bin_mul {j : IntKind} {t : TypeId} {a b : Int} : binV P .mul t (.int j a) (.int j b) = some (.int j (j.wrap (a * b))) := by simp [binV, binInt]
def divV (b : Int) (x : Value) : Option Value := if b = 0 then none else some x
@[go_sem] theorem bin_quo {j : IntKind} {t : TypeId} {a b : Int} : binV P .quo t (.int j a) (.int j b) = divV b (.int j (j.wrap (a.tdiv b))) := by simp [binV, binInt, divV]
@[go_sem] theorem bin_rem {j : IntKind} {t : TypeId} {a b : Int} : binV P .rem t (.int j a) (.int j b) = divV b (.int j (a.tmod b)) := by simp [binV, binInt, divV]
theorem divV_ne {b : Int} {x : Value} (h : b ≠ 0) : divV b x = some x := by simp [divV, h]
@[go_sem] theorem divV_lit {x : Value} {n : Nat} : divV (OfNat.ofNat (n + 1)) x = some x := by
 refine divV_ne ?_
 show ((n + 1 : Nat) : Int) ≠ 0
 omega
@[go_sem] theorem bin_eql {j : IntKind} {t : TypeId} {a b : Int} : binV P .eql t (.int j a) (.int j b) = some (.bool (a == b)) := by simp [binV, binInt]
@[go_sem] theorem bin_neq {j : IntKind} {t : TypeId} {a b : Int} : binV P .neq t (.int j a) (.int j b) = some (.bool (a != b)) := by simp [binV, binInt]
@[go_sem] theorem bin_lss {j : IntKind} {t : TypeId} {a b : Int} : binV P .lss t (.int j a) (.int j b) = some (.bool (decide (a < b))) := by simp [binV, binInt]
@[go_sem] theorem bin_leq {j : IntKind} {t : TypeId} {a b : Int} : binV P .leq t (.int j a) (.int j b) = some (.bool (decide (a ≤ b))) := by simp [binV, binInt]
@[go_sem] theorem bin_gtr {j : IntKind} {t : TypeId} {a b : Int} : binV P .gtr t (.int j a) (.int j b) = some (.bool (decide (b < a))) := by simp [binV, binInt]
@[go_sem] theorem bin_geq {j : IntKind} {t : TypeId} {a b : Int} : binV P .geq t (.int j a) (.int j b) = some (.bool (decide (b ≤ a))) := by simp [binV, binInt]
@[go_sem] theorem bin_and {j : IntKind} {t : TypeId} {a b : Int} : binV P .and t (.int j a) (.int j b) = some (.int j (j.wrap (BitVec.ofInt j.bits a &&& BitVec.ofInt j.bits b).toNat)) := by simp [binV, binInt]
@[go_sem] theorem bin_or {j : IntKind} {t : TypeId} {a b : Int} : binV P .or t (.int j a) (.int j b) = some (.int j (j.wrap (BitVec.ofInt j.bits a ||| BitVec.ofInt j.bits b).toNat)) := by simp [binV, binInt]
@[go_sem] theorem bin_xor {j : IntKind} {t : TypeId} {a b : Int} : binV P .xor t (.int j a) (.int j b) = some (.int j (j.wrap (BitVec.ofInt j.bits a ^^^ BitVec.ofInt j.bits b).toNat)) := by simp [binV, binInt]
def shV0 (b : Int) (x : Value) : Option Value := if b < 0 then none else some x
@[go_sem] theorem bin_shl {j j' : IntKind} {t : TypeId} {a b : Int} : binV P .shl t (.int j a) (.int j' b) = shV0 b (.int j (j.wrap (a * 2 ^ min b.toNat j.bits))) := by simp [binV, shV0]
@[go_sem] theorem bin_shr {j j' : IntKind} {t : TypeId} {a b : Int} : binV P .shr t (.int j a) (.int j' b) = shV0 b (.int j (a.fdiv (2 ^ min b.toNat j.bits))) := by simp [binV, shV0]
theorem shV0_ge {b : Int} {x : Value} (h : 0 ≤ b) : shV0 b x = some x := by simp [shV0]; omega
@[go_sem] theorem bin_eqlb {t : TypeId} {a b : Bool} (h : isBoolTy P t = true) : binV P .eql t (.bool a) (.bool b) = some (.bool (a == b)) := by simp [binV, h]
@[go_sem] theorem bin_neqb {t : TypeId} {a b : Bool} (h : isBoolTy P t = true) : binV P .neq t (.bool a) (.bool b) = some (.bool (a != b)) := by simp [binV, h]
@[go_sem] theorem bin_eqls {t : TypeId} {a b : ByteArray} : binV P .eql t (.string a) (.string b) = some (.bool (a.toList == b.toList)) := (rfl)
@[go_sem] theorem bin_adds {t : TypeId} {a b : ByteArray} (h : a.size + b.size ≤ 9223372036854775807) : binV P .add t (.string a) (.string b) = some (.string (a ++ b)) := by simp [binV, h]
@[go_sem] theorem bsE_t {s : TypeId} {x : Operand} (h : isByS P s = true) : bsE P s pf x = (srO 1 pf x).bind fun z => (rowsB z.1).map fun ns => (.v (.str (bytesOf ns)), z.2) := by unfold bsE; rw [if_pos h]
@[go_sem] theorem rowsB_nil : rowsB [] = some [] := (rfl)
@[go_sem] theorem rowsB_cons {n : Int} {rs : List (List PV)} : rowsB ([.int .u8 n] :: rs) = (rowsB rs).map (n :: ·) := (rfl)
@[go_sem] theorem rowsB_map {f : Int → List PV} (h : ∀ x, f x = [.int .u8 x]) {l : List Int} : rowsB (l.map f) = some l := by
 induction l with
 | nil => rfl
 | cons x l ih => rw [List.map_cons, h, rowsB_cons, ih]; rfl
@[go_sem] theorem bin_neqs {t : TypeId} {a b : ByteArray} : binV P .neq t (.string a) (.string b) = some (.bool !(a.toList == b.toList)) := (rfl)
@[go_sem] theorem un_not {b : Bool} : unV .not (.bool b) = some (.bool !b) := (rfl)
@[go_sem] theorem un_neg {j : IntKind} {n : Int} : unV .neg (.int j n) = some (.int j (j.wrap (0 - n))) := (rfl)
@[go_sem] theorem minmax_max {j : IntKind} {a b : Int} : minmaxV true (.int j a) (.int j b) = some (.int j (if a < b then b else a)) := by simp [minmaxV]
@[go_sem] theorem minmax_min {j : IntKind} {a b : Int} : minmaxV false (.int j a) (.int j b) = some (.int j (if b < a then b else a)) := by simp [minmaxV]
end
end Go.Pm
