import Derived.Test.YtpkjdjnakplnjaaGreatPmS
namespace Go.Pm
open Go.Am
section
variable {P : Program} {c co : Cfg} {k : List PIt} {Q : Exit → PFr → Prop} {pf : PFr}
@[go_sem] theorem zLb {a : Nat} {b f h : List Nat} : Cfg.nohp ⟨a, b, f, h⟩ = ⟨a, b, f, []⟩ := (rfl)
@[go_sem ↓] theorem zD1 {id : Nat} {ops : List Oper} : pw P c (.code (.region id ops.toArray false) :: k) Q pf = pw P c (.ops (ops.map (·.dst)) ops :: k) Q pf := by
 show pwp P c (.region id ops.toArray false) (zbI P c k Q) pf = _
 simp only [pwp, Bool.false_eq_true, if_false]
 rfl
@[go_sem ↓] theorem zBe {pre : List (Option Tmp)} : pw P c (.ops pre [] :: k) Q pf = pw P c k Q pf := rfl
def pw1 (P : Program) (c co : Cfg) (ty : TypeId) (op : Op) (d : Option Tmp) (k : List PIt) (Q : Exit → PFr → Prop) (pf : PFr) : Prop := pop P co ⟨d, op, ty, "", #[], none⟩ (pw P c k Q) pf
theorem zts {o o' : Oper} {K : PFr → Prop} (h : o.op = o'.op) (hd : o.dst = o'.dst) (ht : o.type = o'.type) : pop P c o K pf = pop P c o' K pf := by
 obtain ⟨d, op, ty, ps, af, g⟩ := o
 obtain ⟨d', op', ty', ps', af', g'⟩ := o'
 simp only at h hd ht
 subst h; subst hd; subst ht
 rfl
@[go_sem ↓] theorem zPB {pre : List (Option Tmp)} {d : Option Tmp} {op : Op} {ty : TypeId} {ps : String} {af : Array Edge} {l : List Oper} :
 pw P c (.ops pre (⟨d, op, ty, ps, af, none⟩ :: l) :: k) Q pf = pw1 P c c ty op d (.ops pre l :: k) Q pf := by
 show zk8 P c pre ⟨d, op, ty, ps, af, none⟩ (pw P c (.ops pre l :: k) Q) pf = _
 simp only [zk8]
 exact zts rfl rfl rfl
def pwg (P : Program) (c : Cfg) (y : Option (Option Bool)) (b : Bool) (ty : TypeId) (op : Op) (d : Option Tmp) (k : List PIt) (Q : Exit → PFr → Prop) (pf : PFr) : Prop :=
 pgo c b d (pw1 P c c ty op d k Q pf) (pw P c k Q) pf y
theorem ztJ {y y' : Option (Option Bool)} {b : Bool} {ty : TypeId} {op : Op} {d : Option Tmp} (h : y = y') : pwg P c y b ty op d k Q pf = pwg P c y' b ty op d k Q pf := by rw [h]
@[go_sem ↓] theorem zNb {pre : List (Option Tmp)} {d : Option Tmp} {op : Op} {ty : TypeId} {ps : String} {af : Array Edge} {j : Nat} {b : Bool} {l : List Oper} :
 pw P c (.ops pre (⟨d, op, ty, ps, af, some (j, b)⟩ :: l) :: k) Q pf = pwg P c (ygP pf pre[j]?) b ty op d (.ops pre l :: k) Q pf := by
 show zk8 P c pre ⟨d, op, ty, ps, af, some (j, b)⟩ (pw P c (.ops pre l :: k) Q) pf = _
 simp only [zk8]
 unfold pwg pw1
 rw [zts (o := ⟨d, op, ty, ps, af, some (j, b)⟩) (o' := ⟨d, op, ty, "", #[], none⟩) rfl rfl rfl]
@[go_sem] theorem zGM {d : Tmp} : ygP pf (some (some d)) = ygV (pf d) := (rfl)
@[go_sem] theorem zHX {b : Bool} : ygV (.v (.bool b)) = some (some b) := (rfl)
@[go_sem] theorem zFB : ygV .skip = some none := (rfl)
@[go_sem ↓] theorem zLF {ty : TypeId} {op : Op} {d : Option Tmp} : pwg P c (some (some true)) true ty op d k Q pf = pw1 P c c ty op d k Q pf := by simp [pwg, pgo]
@[go_sem ↓] theorem zM1 {ty : TypeId} {op : Op} {d : Option Tmp} : pwg P c (some (some false)) false ty op d k Q pf = pw1 P c c ty op d k Q pf := by simp [pwg, pgo]
@[go_sem ↓] theorem zNz {ty : TypeId} {op : Op} {d : Tmp} (h : ckd c d .skip = true) : pwg P c (some (some true)) false ty op (some d) k Q pf = pw P c k Q (pf.put d .skip) := by simp [pwg, pgo, zhK, h]
@[go_sem ↓] theorem zL7 {ty : TypeId} {op : Op} {d : Tmp} (h : ckd c d .skip = true) : pwg P c (some (some false)) true ty op (some d) k Q pf = pw P c k Q (pf.put d .skip) := by simp [pwg, pgo, zhK, h]
@[go_sem ↓] theorem zPh {b : Bool} {ty : TypeId} {op : Op} {d : Tmp} (h : ckd c d .skip = true) : pwg P c (some none) b ty op (some d) k Q pf = pw P c k Q (pf.put d .skip) := by simp [pwg, pgo, zhK, h]
theorem zui {y b : Bool} {ty : TypeId} {op : Op} {d : Option Tmp} (h1 : y = true → pwg P c (some (some true)) b ty op d k Q pf) (h2 : y = false → pwg P c (some (some false)) b ty op d k Q pf) : pwg P c (some (some y)) b ty op d k Q pf := by
 cases y
 ·exact h2 rfl
 ·exact h1 rfl
def qv (P : Program) (c co : Cfg) (x : Option (PF × PFr)) (d : Option Tmp) (k : List PIt) (Q : Exit → PFr → Prop) : Prop :=
 match x with
 | some a => zbE co (pw P c k Q) d a.1 a.2
 | none => False
def qz (P : Program) (c : Cfg) (d : Nat) (k : List PIt) (Q : Exit → PFr → Prop) (x : Option (PF × PFr)) : Prop := pfz (pw P c k Q) d x
theorem zvN {x x' : Option (PF × PFr)} {d : Option Tmp} (h : x = x') : qv P c co x d k Q = qv P c co x' d k Q := by rw [h]
theorem zvx {x x' : Option (PF × PFr)} {d : Nat} (h : x = x') : qz P c d k Q x = qz P c d k Q x' := by rw [h]
@[go_sem ↓] theorem zJI {y : PF} {d : Tmp} (h : ckd co d y = true) (hf : co.fz.contains d = false) : qv P c co (some (y, pf)) (some d) k Q = pw P c k Q (pf.put d y) := by simp only [qv, zbE, h, hf]; simp
@[go_sem ↓] theorem zPG {y : PF} {d : Tmp} (h : ckd co d y = true) (hf : co.fz.contains d = true) : qv P c co (some (y, pf)) (some d) k Q = qz P c d k Q (zjX pf y) := by simp only [qv, zbE, h, hf]; simp [qz]
@[go_sem ↓] theorem zMR {y : PF} : qv P c co (some (y, pf)) none k Q = pw P c k Q pf := rfl
@[go_sem ↓] theorem zIx {y : PF} {d : Nat} : qz P c d k Q (some (y, pf)) = pw P c k Q (pf.put d y) := rfl
def qf (P : Program) (c : Cfg) (x : Option PFr) (k : List PIt) (Q : Exit → PFr → Prop) : Prop :=
 match x with
 | some pf => pw P c k Q pf
 | none => False
theorem zvG {x x' : Option PFr} (h : x = x') : qf P c x k Q = qf P c x' k Q := by rw [h]
@[go_sem ↓] theorem zIJ : qf P c (some pf) k Q = pw P c k Q pf := rfl
attribute [congr] zvO ztJ zvN zvx zvG
@[go_sem] theorem zMm {d : Nat} {y : PF} : ckd c d y = (decide (d < c.nt) && !c.io.contains d && !(zap y == some d)) := (rfl)
@[go_sem] theorem zLu {x : PV} : zap (.v x) = none := (rfl)
@[go_sem] theorem zBd : zap .skip = none := (rfl)
@[go_sem] theorem zIm {es : Nat} {r : List (List PV)} : zap (.ls es r) = none := (rfl)
@[go_sem] theorem zH3 {r : List PV} : zap (.bl r) = none := (rfl)
@[go_sem] theorem zHr {s i j : Nat} {p : zac} : zap (.pt s p i j) = some s := (rfl)
@[go_sem] theorem zEA {s : Nat} {p : zac} : zap (.rf s p) = some s := (rfl)
@[go_sem] theorem zFx {s lo hi : Nat} {p : zac} : zap (.rv s p lo hi) = some s := (rfl)
@[go_sem] theorem zGK {b : Bool} {s i j n : Nat} {p : zac} : zap (.as b s p i j n) = some s := (rfl)
@[go_sem] theorem zGT {s i j n : Nat} {p : zac} : zap (.ra s p i j n) = some s := (rfl)
@[go_sem] theorem zIR {d t : Nat} {x : PF} : PFr.put pf d x t = if t = d then x else zbY d (pf t) := (rfl)
@[go_sem] theorem zKl {d t : Nat} {x : PF} : PFr.upd pf d x t = if t = d then x else pf t := (rfl)
@[go_sem] theorem zF1 {s n t : Nat} : PFr.kill pf s n t = zaV s n (pf t) := (rfl)
@[go_sem] theorem zJi {d : Nat} {x : PV} : zbY d (.v x) = .v x := (rfl)
@[go_sem] theorem zAB {d : Nat} : zbY d .skip = .skip := (rfl)
@[go_sem] theorem zEV {d es : Nat} {r : List (List PV)} : zbY d (.ls es r) = .ls es r := (rfl)
@[go_sem] theorem zGc {d : Nat} {r : List PV} : zbY d (.bl r) = .bl r := (rfl)
@[go_sem] theorem zFL {d s i j : Nat} {p : zac} : zbY d (.pt s p i j) = if s = d then jP else .pt s p i j := by simp [zbY, zap]
@[go_sem] theorem zG5 {d s : Nat} {p : zac} : zbY d (.rf s p) = if s = d then jP else .rf s p := by simp [zbY, zap]
@[go_sem] theorem zHD {d s lo hi : Nat} {p : zac} : zbY d (.rv s p lo hi) = if s = d then jP else .rv s p lo hi := by simp [zbY, zap]
@[go_sem] theorem zFX {b : Bool} {d s i j n : Nat} {p : zac} : zbY d (.as b s p i j n) = if s = d then jP else .as b s p i j n := by simp [zbY, zap]
@[go_sem] theorem zHZ {d s i j n : Nat} {p : zac} : zbY d (.ra s p i j n) = if s = d then jP else .ra s p i j n := by simp [zbY, zap]
@[go_sem] theorem zKm {d : Nat} : zbY d jP = jP := (rfl)
@[go_sem] theorem zIV {s n : Nat} {x : PV} : zaV s n (.v x) = .v x := by simp [zaV, zap]
@[go_sem] theorem zAK {s n : Nat} : zaV s n .skip = .skip := by simp [zaV, zap]
@[go_sem] theorem zH2 {s n es : Nat} {r : List (List PV)} : zaV s n (.ls es r) = .ls es r := by simp [zaV, zap]
@[go_sem] theorem zHM {s n : Nat} {r : List PV} : zaV s n (.bl r) = .bl r := by simp [zaV, zap]
@[go_sem] theorem zE8 {s n s' i j : Nat} {p : zac} : zaV s n (.pt s' p i j) = if s' = s ∧ n ≤ p.length then jP else .pt s' p i j := by simp [zaV, zap, zfL]
@[go_sem] theorem zGf {s n s' : Nat} {p : zac} : zaV s n (.rf s' p) = if s' = s ∧ n ≤ p.length then jP else .rf s' p := by simp [zaV, zap, zfL]
@[go_sem] theorem zHd {s n s' lo hi : Nat} {p : zac} : zaV s n (.rv s' p lo hi) = if s' = s ∧ n ≤ p.length then jP else .rv s' p lo hi := by simp [zaV, zap, zfL]
@[go_sem] theorem zGp {b : Bool} {s n s' i j m : Nat} {p : zac} : zaV s n (.as b s' p i j m) = if s' = s ∧ n ≤ p.length + 1 then jP else .as b s' p i j m := by simp [zaV, zap, zfL]
@[go_sem] theorem zFj {s n s' i j m : Nat} {p : zac} : zaV s n (.ra s' p i j m) = if s' = s ∧ n ≤ p.length + 1 then jP else .ra s' p i j m := by simp [zaV, zap, zfL]
@[go_sem] theorem zKg {s n : Nat} : zaV s n jP = jP := by simp [zaV, zap, jP]
@[go_sem] theorem zGD {s : Nat} {x : PF} {l : List (Nat × PF)} {t : Nat} : PFr.ofL ((s, x) :: l) t = if t = s then x else PFr.ofL l t := (rfl)
@[go_sem] theorem zJc {t : Nat} : PFr.ofL [] t = jP := (rfl)
@[go_sem] theorem zDL {as : List (Md × PV)} {t : Nat} : zgB as t = znY as[t]? := (rfl)
@[go_sem] theorem zD4 {m : Md} {x : PV} : znY (some (m, x)) = .v x := (rfl)
@[go_sem] theorem zDq : znY none = jP := (rfl)
@[go_sem] theorem zO7 : isJ .junk = true := (rfl)
@[go_sem] theorem zFi {b : Bool} : isJ (.bool b) = false := (rfl)
@[go_sem] theorem zKJ {j : IntKind} {n : Int} : isJ (.int j n) = false := (rfl)
@[go_sem] theorem zLz {s : ByteArray} : isJ (.str s) = false := (rfl)
@[go_sem] theorem zL4 {o : Bool} {es : Nat} {r : List (List PV)} : isJ (.sl o es r) = false := (rfl)
@[go_sem] theorem zLJ {r : List PV} : isJ (.fp r) = false := (rfl)
@[go_sem] theorem zNg {r : List PV} : isJ (.bx r) = false := (rfl)
@[go_sem] theorem zEK {f : Fn} {a b : List PV} : isJ (.func f a b) = false := (rfl)
@[go_sem] theorem zI2 {r : List PV} : isJ (.agg r) = false := (rfl)
@[go_sem] theorem zKx {r : List PV} : isJ (.tup r) = false := (rfl)
@[go_sem] theorem zIi : isJ .nilf = false := (rfl)
@[go_sem] theorem zFd : isJ .nilp = false := (rfl)
@[go_sem] theorem zHh : isJ .nili = false := (rfl)
@[go_sem] theorem zMW : zaF .junk = false := by simp [zaF]
@[go_sem] theorem zC9 {b : Bool} : zaF (.bool b) = false := by simp [zaF]
@[go_sem] theorem zGH {j : IntKind} {n : Int} : zaF (.int j n) = false := by simp [zaF]
@[go_sem] theorem zEn {s : ByteArray} : zaF (.str s) = false := by simp [zaF]
@[go_sem] theorem zKd {r : List PV} : zaF (.fp r) = false := by simp [zaF]
@[go_sem] theorem zDg {f : Fn} {a b : List PV} : zaF (.func f a b) = false := by simp [zaF]
@[go_sem] theorem zC8 : zaF .nilf = false := by simp [zaF]
@[go_sem] theorem zD5 : zaF .nilp = false := by simp [zaF]
@[go_sem] theorem zCZ : zaF .nili = false := by simp [zaF]
attribute [go_sem] zis zrO zgP zqc zhw znP zmc zo8 zmb zpg zon zod
@[go_sem] theorem zL1 : drop .junk = .junk := by simp [drop]
@[go_sem] theorem zC6 {b : Bool} : drop (.bool b) = .bool b := by simp [drop]
@[go_sem] theorem zGG {j : IntKind} {n : Int} : drop (.int j n) = .int j n := by simp [drop]
@[go_sem] theorem zGx {s : ByteArray} : drop (.str s) = .str s := by simp [drop]
@[go_sem] theorem zJ0 {r : List PV} : drop (.fp r) = .fp r := by simp [drop]
@[go_sem] theorem zC2 {f : Fn} {a b : List PV} : drop (.func f a b) = .func f a b := by simp [drop]
@[go_sem] theorem zDi : drop .nilf = .nilf := by simp [drop]
@[go_sem] theorem zDe : drop .nilp = .nilp := by simp [drop]
@[go_sem] theorem zDx : drop .nili = .nili := by simp [drop]
@[go_sem] theorem zLt : zaS .junk = true := by simp [zaS]
@[go_sem] theorem zA8 {b : Bool} : zaS (.bool b) = true := by simp [zaS]
@[go_sem] theorem zDl {j : IntKind} {n : Int} : zaS (.int j n) = true := by simp [zaS]
@[go_sem] theorem zDR {s : ByteArray} : zaS (.str s) = true := by simp [zaS]
@[go_sem] theorem zE1 {r : List PV} : zaS (.fp r) = false := by simp [zaS]
@[go_sem] theorem zCz {f : Fn} {a b : List PV} : zaS (.func f a b) = false := by simp [zaS]
@[go_sem] theorem zBW : zaS .nilf = true := by simp [zaS]
@[go_sem] theorem zCA {j : IntKind} {n : Int} : ze6 (.int j n) = true := (rfl)
@[go_sem] theorem zzN {b : Bool} : ze6 (.bool b) = true := (rfl)
@[go_sem] theorem zCh {s : ByteArray} : ze6 (.str s) = true := (rfl)
@[go_sem] theorem zEj {o : Bool} {es : Nat} {r : List (List PV)} : ze6 (.sl o es r) = true := (rfl)
@[go_sem] theorem zDY {r : List PV} : ze6 (.bx r) = true := (rfl)
@[go_sem] theorem zD0 {r : List PV} : ze6 (.fp r) = true := (rfl)
@[go_sem] theorem zzO {f : Fn} {a b : List PV} : ze6 (.func f a b) = true := (rfl)
@[go_sem] theorem zzQ {j : IntKind} {n : Int} : zbV (.int j n) = true := (rfl)
@[go_sem] theorem zx9 {b : Bool} : zbV (.bool b) = true := (rfl)
@[go_sem] theorem zz7 {s : ByteArray} : zbV (.str s) = true := (rfl)
@[go_sem] theorem zAM {o : Bool} {es : Nat} {r : List (List PV)} : zbV (.sl o es r) = true := (rfl)
@[go_sem] theorem zzX {r : List PV} : zbV (.agg r) = true := (rfl)
@[go_sem] theorem zA6 {r : List PV} : zbV (.bx r) = true := (rfl)
@[go_sem] theorem zAm {r : List PV} : zbV (.fp r) = true := (rfl)
@[go_sem] theorem zyO {f : Fn} {a b : List PV} : zbV (.func f a b) = true := (rfl)
@[go_sem] theorem zAc {j : IntKind} {n : Int} : zaz (.int j n) = [.int j n] := (rfl)
@[go_sem] theorem zz8 {b : Bool} : zaz (.bool b) = [.bool b] := (rfl)
@[go_sem] theorem zA0 {s : ByteArray} : zaz (.str s) = [.str s] := (rfl)
@[go_sem] theorem zDZ {o : Bool} {es : Nat} {r : List (List PV)} : zaz (.sl o es r) = [.sl o es r] := (rfl)
@[go_sem] theorem zCP {r : List PV} : zaz (.agg r) = r := (rfl)
@[go_sem] theorem zDm {r : List PV} : zaz (.bx r) = [.bx r] := (rfl)
@[go_sem] theorem zDv {r : List PV} : zaz (.fp r) = [.fp r] := (rfl)
@[go_sem] theorem zzT {f : Fn} {a b : List PV} : zaz (.func f a b) = [.func f a b] := (rfl)
@[go_sem] theorem zD2 {e : Nat} {b : Bool} : zfW e (.bool b) = .bool b := (rfl)
@[go_sem] theorem zFq {e : Nat} {j : IntKind} {n : Int} : zfW e (.int j n) = .int j n := (rfl)
@[go_sem] theorem zFc {e : Nat} {s : ByteArray} : zfW e (.string s) = .str s := (rfl)
@[go_sem] theorem zHi {e : Nat} : zfW e (.slice none 0 0) = .sl true e [] := (rfl)
@[go_sem] theorem zD3 {e : Nat} : zfW e .nilFunc = .nilf := (rfl)
@[go_sem] theorem zKc {j : IntKind} {n : Int} : zan (.int j n) = true := (rfl)
@[go_sem] theorem zE6 {b : Bool} : zan (.bool b) = true := (rfl)
@[go_sem] theorem zK0 {b : ByteArray} : zan (.string b) = true := (rfl)
@[go_sem] theorem zKX : zan (.slice none 0 0) = true := (rfl)
@[go_sem] theorem zFE : zan .nilFunc = true := (rfl)
@[go_sem] theorem zLs {t : Tmp} : rdS pf (.tmp t) = znz (pf t) := (rfl)
@[go_sem] theorem zMY {x : PV} : znz (.v x) = toS x := (rfl)
@[go_sem] theorem zDN : znz .skip = none := (rfl)
@[go_sem] theorem zFI {b : Bool} : toS (.bool b) = some (.bool b) := (rfl)
@[go_sem] theorem zKY {j : IntKind} {n : Int} : toS (.int j n) = some (.int j n) := (rfl)
@[go_sem] theorem zLo {s : ByteArray} : toS (.str s) = some (.string s) := (rfl)
@[go_sem] theorem zLp {l : List PV} : toS (.agg l) = (zkd l).map fun l => .agg l.toArray := (rfl)
@[go_sem] theorem zGV : zkd [] = some [] := (rfl)
@[go_sem] theorem zIb {j : IntKind} {n : Int} {r : List PV} : zkd (.int j n :: r) = (zkd r).map fun l => .int j n :: l := (rfl)
@[go_sem] theorem zIM {j : IntKind} {n : Int} : rdS pf (.const (.int j n)) = some (.int j n) := (rfl)
@[go_sem] theorem zGR {b : Bool} : rdS pf (.const (.bool b)) = some (.bool b) := (rfl)
@[go_sem] theorem zIz {b : ByteArray} : rdS pf (.const (.string b)) = some (.string b) := (rfl)
@[go_sem] theorem zBm {b : Bool} : zed (.bool b) = some (.bool b) := (rfl)
@[go_sem] theorem zDX {j : IntKind} {n : Int} : zed (.int j n) = some (.int j n) := (rfl)
@[go_sem] theorem zEc {s : ByteArray} : zed (.string s) = some (.str s) := (rfl)
def ev1 (f : Value → Option Value) (x : Option Value) (pf : PFr) : Option (PF × PFr) := (x.bind fun a => (f a).bind zed).map fun y => (.v y, pf)
def ev2 (f : Value → Value → Option Value) (x y : Option Value) (pf : PFr) : Option (PF × PFr) := (x.bind fun a => y.bind fun b => (f a b).bind zed).map fun y => (.v y, pf)
def fin (x : Option Value) (pf : PFr) : Option (PF × PFr) := (x.bind zed).map fun y => (.v y, pf)
@[go_sem] theorem zIj {f : Value → Option Value} {a : Value} : ev1 f (some a) pf = fin (f a) pf := (rfl)
@[go_sem] theorem zH6 {f : Value → Value → Option Value} {a b : Value} : ev2 f (some a) (some b) pf = fin (f a b) pf := (rfl)
@[go_sem] theorem zFG {b : Bool} : fin (some (.bool b)) pf = some (.v (.bool b), pf) := (rfl)
@[go_sem] theorem zIA {j : IntKind} {n : Int} : fin (some (.int j n)) pf = some (.v (.int j n), pf) := (rfl)
@[go_sem] theorem zJB {s : ByteArray} : fin (some (.string s)) pf = some (.v (.str s), pf) := (rfl)
theorem zgL {o : Oper} {x : Option (PF × PFr)} (h : (((zaZ o.op).bind (zhm pf)).bind fun vs => (za1 P o.op vs).bind zed).map (fun y => (PF.v y, pf)) = x) : zef P co o (pw P c k Q) pf = qv P c co x o.dst k Q := by
 subst h
 unfold zef
 cases (zaZ o.op).bind (zhm pf) with
 | none => rfl
 | some vs =>
  simp only [Option.bind_some]
  cases (za1 P o.op vs).bind zed <;> rfl
@[go_sem ↓] theorem zG6 {ty t : TypeId} {op : UnOp} {x : Operand} {d : Option Tmp} : pw1 P c co ty (.unOp op t x) d k Q pf = qv P c co (ev1 (unV op) (rdS pf x) pf) d k Q := by
 refine zgL (o := ⟨d, .unOp op t x, ty, "", #[], none⟩) ?_
 simp only [zaZ, zhm, Option.bind_some]
 cases rdS pf x <;> simp [za1, ev1]
theorem zor {ty s t : TypeId} {x : Operand} {d : Tmp} (ht : zaI P t = true) (hp : co.hp ≠ [] ∨ lsP pf x = true) : pw1 P c co ty (.convert s t x) (some d) k Q pf = qv P c co (bsE P s pf x) (some d) k Q := by
 show (if zaI P t = true then (co.hp ≠ [] ∨ lsP pf x = true) ∧ zie P co s t x (some d) (pw P c k Q) pf else _) = _
 rw [if_pos ht]
 unfold zie qv
 cases bsE P s pf x with
 | none => simp [hp]
 | some z => simp [hp, ht]
@[go_sem ↓] theorem zHv {ty s t : TypeId} {x : Operand} {d : Tmp} (ht : zaI P t = true) (hp : co.hp.isEmpty = false) : pw1 P c co ty (.convert s t x) (some d) k Q pf = qv P c co (bsE P s pf x) (some d) k Q := zor ht (.inl fun e => by rw [e] at hp; cases hp)
@[go_sem] theorem zIo {rows : List (List PV)} : zm7 (.ls 1 rows) = true := (rfl)
@[go_sem ↓] theorem zDu {ty s t : TypeId} {u : Nat} {d : Tmp} (ht : zaI P t = true) (hl : zm7 (pf u) = true) : pw1 P c co ty (.convert s t (.tmp u)) (some d) k Q pf = qv P c co (bsE P s pf (.tmp u)) (some d) k Q := zor ht (.inr hl)
@[go_sem ↓] theorem zz0 {ty s t : TypeId} {x : Operand} {d : Option Tmp} (ht : zaI P t = false) : pw1 P c co ty (.convert s t x) d k Q pf = qv P c co (ev1 (zlu P s t) (rdS pf x) pf) d k Q := by
 have e : pw1 P c co ty (.convert s t x) d k Q pf = zef P co ⟨d, .convert s t x, ty, "", #[], none⟩ (pw P c k Q) pf := by
  show (if zaI P t = true then (co.hp ≠ [] ∨ lsP pf x = true) ∧ zie P co s t x d (pw P c k Q) pf else zef P co ⟨d, .convert s t x, ty, "", #[], none⟩ (pw P c k Q) pf) = _
  rw [if_neg (by simp [ht])]
 rw [e]
 refine zgL (o := ⟨d, .convert s t x, ty, "", #[], none⟩) ?_
 simp only [zaZ, zhm, Option.bind_some]
 cases rdS pf x <;> simp [za1, ev1]
@[go_sem] theorem zCg {t : Tmp} : zgt (.tmp t) = false := (rfl)
@[go_sem] theorem zBX {j : IntKind} {n : Int} : zgt (.const (.int j n)) = false := (rfl)
@[go_sem] theorem zz6 {b : Bool} : zgt (.const (.bool b)) = false := (rfl)
@[go_sem] theorem zCu {s : ByteArray} : zgt (.const (.string s)) = false := (rfl)
@[go_sem ↓] theorem zDn {ty t u : TypeId} {op : BinOp} {x y : Operand} {d : Option Tmp} (hy : zgt y = false) : pw1 P c co ty (.binOp op t x y u) d k Q pf = qv P c co (ev2 (zbf P op t) (rdS pf x) (rdS pf y) pf) d k Q := by
 have e : pw1 P c co ty (.binOp op t x y u) d k Q pf = zef P co ⟨d, .binOp op t x y u, ty, "", #[], none⟩ (pw P c k Q) pf := by
  show pop P co ⟨d, .binOp op t x y u, ty, "", #[], none⟩ (pw P c k Q) pf = _
  simp only [pop, hy, Bool.false_eq_true, if_false]
 rw [e]
 refine zgL (o := ⟨d, .binOp op t x y u, ty, "", #[], none⟩) ?_
 simp only [zaZ, zhm, Option.bind_some]
 cases rdS pf x <;> cases rdS pf y <;> simp [za1, ev2]
@[go_sem ↓] theorem zDA {ty t : TypeId} {x y : Operand} {d : Option Tmp} : pw1 P c co ty (.index t x y) d k Q pf = qv P c co (ev2 (zhj P t) (rdS pf x) (rdS pf y) pf) d k Q := by
 refine zgL (o := ⟨d, .index t x y, ty, "", #[], none⟩) ?_
 simp only [zaZ, zhm, Option.bind_some]
 cases rdS pf x <;> cases rdS pf y <;> simp [za1, ev2]
@[go_sem ↓] theorem zI4 {ty : TypeId} {x y : Operand} {ts : Array TypeId} {d : Option Tmp} : pw1 P c co ty (.call ⟨.builtin .min, #[x, y], ts⟩) d k Q pf = qv P c co (ev2 (zfC false) (rdS pf x) (rdS pf y) pf) d k Q := by
 refine zgL (o := ⟨d, .call ⟨.builtin .min, #[x, y], ts⟩, ty, "", #[], none⟩) ?_
 simp only [zaZ, zhm, Option.bind_some]
 cases rdS pf x <;> cases rdS pf y <;> simp [za1, ev2]
@[go_sem ↓] theorem zJd {ty : TypeId} {x y : Operand} {ts : Array TypeId} {d : Option Tmp} : pw1 P c co ty (.call ⟨.builtin .max, #[x, y], ts⟩) d k Q pf = qv P c co (ev2 (zfC true) (rdS pf x) (rdS pf y) pf) d k Q := by
 refine zgL (o := ⟨d, .call ⟨.builtin .max, #[x, y], ts⟩, ty, "", #[], none⟩) ?_
 simp only [zaZ, zhm, Option.bind_some]
 cases rdS pf x <;> cases rdS pf y <;> simp [za1, ev2]
@[go_sem] theorem zFz {s d : TypeId} {i j k : IntKind} {n : Int} (hs : zdI P s = some i) (hd : zdI P d = some k) : zlu P s d (.int j n) = some (.int k (k.wrap n)) := by
 unfold zlu
 have : ∃ u, P.underlying s = some u := by
  unfold zdI at hs; split at hs
  ·rename_i h; exact ⟨_, h⟩
  ·cases hs
 obtain ⟨u, hu⟩ := this
 rw [hu, hd]
@[go_sem] theorem zIO {j : IntKind} {t : TypeId} {a b : Int} : zbf P .add t (.int j a) (.int j b) = some (.int j (j.wrap (a + b))) := by simp [zbf, zcp]
@[go_sem] theorem zI6 {j : IntKind} {t : TypeId} {a b : Int} : zbf P .sub t (.int j a) (.int j b) = some (.int j (j.wrap (a - b))) := by simp [zbf, zcp]
@[go_sem] theorem zIL {j : IntKind} {t : TypeId} {a b : Int} : zbf P .mul t (.int j a) (.int j b) = some (.int j (j.wrap (a * b))) := by simp [zbf, zcp]
def zjm (b : Int) (x : Value) : Option Value := if b = 0 then none else some x
@[go_sem] theorem zKG {j : IntKind} {t : TypeId} {a b : Int} : zbf P .quo t (.int j a) (.int j b) = zjm b (.int j (j.wrap (a.tdiv b))) := by simp [zbf, zcp, zjm]
@[go_sem] theorem zK7 {j : IntKind} {t : TypeId} {a b : Int} : zbf P .rem t (.int j a) (.int j b) = zjm b (.int j (a.tmod b)) := by simp [zbf, zcp, zjm]
theorem znV {b : Int} {x : Value} (h : b ≠ 0) : zjm b x = some x := by simp [zjm, h]
@[go_sem] theorem zHt {x : Value} {n : Nat} : zjm (OfNat.ofNat (n + 1)) x = some x := by
 refine znV ?_
 show ((n + 1 : Nat) : Int) ≠ 0
 omega
@[go_sem] theorem zJJ {j : IntKind} {t : TypeId} {a b : Int} : zbf P .eql t (.int j a) (.int j b) = some (.bool (a == b)) := by simp [zbf, zcp]
@[go_sem] theorem zI9 {j : IntKind} {t : TypeId} {a b : Int} : zbf P .neq t (.int j a) (.int j b) = some (.bool (a != b)) := by simp [zbf, zcp]
@[go_sem] theorem zIW {j : IntKind} {t : TypeId} {a b : Int} : zbf P .lss t (.int j a) (.int j b) = some (.bool (decide (a < b))) := by simp [zbf, zcp]
@[go_sem] theorem zJO {j : IntKind} {t : TypeId} {a b : Int} : zbf P .leq t (.int j a) (.int j b) = some (.bool (decide (a ≤ b))) := by simp [zbf, zcp]
@[go_sem] theorem zIP {j : IntKind} {t : TypeId} {a b : Int} : zbf P .gtr t (.int j a) (.int j b) = some (.bool (decide (b < a))) := by simp [zbf, zcp]
@[go_sem] theorem zJb {j : IntKind} {t : TypeId} {a b : Int} : zbf P .geq t (.int j a) (.int j b) = some (.bool (decide (b ≤ a))) := by simp [zbf, zcp]
@[go_sem] theorem zK8 {j : IntKind} {t : TypeId} {a b : Int} : zbf P .and t (.int j a) (.int j b) = some (.int j (j.wrap (BitVec.ofInt j.bits a &&& BitVec.ofInt j.bits b).toNat)) := by simp [zbf, zcp]
@[go_sem] theorem zNy {j : IntKind} {t : TypeId} {a b : Int} : zbf P .or t (.int j a) (.int j b) = some (.int j (j.wrap (BitVec.ofInt j.bits a ||| BitVec.ofInt j.bits b).toNat)) := by simp [zbf, zcp]
@[go_sem] theorem zJu {j : IntKind} {t : TypeId} {a b : Int} : zbf P .xor t (.int j a) (.int j b) = some (.int j (j.wrap (BitVec.ofInt j.bits a ^^^ BitVec.ofInt j.bits b).toNat)) := by simp [zbf, zcp]
def zma (b : Int) (x : Value) : Option Value := if b < 0 then none else some x
@[go_sem] theorem zI1 {j j' : IntKind} {t : TypeId} {a b : Int} : zbf P .shl t (.int j a) (.int j' b) = zma b (.int j (j.wrap (a * 2 ^ min b.toNat j.bits))) := by simp [zbf, zma]
@[go_sem] theorem zI3 {j j' : IntKind} {t : TypeId} {a b : Int} : zbf P .shr t (.int j a) (.int j' b) = zma b (.int j (a.fdiv (2 ^ min b.toNat j.bits))) := by simp [zbf, zma]
theorem zxt {b : Int} {x : Value} (h : 0 ≤ b) : zma b x = some x := by simp [zma]; omega
@[go_sem] theorem zGL {t : TypeId} {a b : Bool} (h : zhJ P t = true) : zbf P .eql t (.bool a) (.bool b) = some (.bool (a == b)) := by simp [zbf, h]
@[go_sem] theorem zF2 {t : TypeId} {a b : Bool} (h : zhJ P t = true) : zbf P .neq t (.bool a) (.bool b) = some (.bool (a != b)) := by simp [zbf, h]
@[go_sem] theorem zHj {t : TypeId} {a b : List Value} {o : List Nat} (h : zlt P t = some o) : zbf P .eql t (.agg a.toArray) (.agg b.toArray) = (eqL a b o).map .bool := by simp [zbf, h]
@[go_sem] theorem zEN {t : TypeId} {a b : List Value} {o : List Nat} (h : zlt P t = some o) : zbf P .neq t (.agg a.toArray) (.agg b.toArray) = (eqL a b o).map fun r => .bool !r := by simp [zbf, h]
@[go_sem] theorem zPj {j i : IntKind} {a b x y : Int} : eqL [.int j a, .int i b] [.int j x, .int i y] [0, 1] = some (a == x && b == y) := by simp [eqL]
@[go_sem] theorem zIn {t : TypeId} {a b : ByteArray} : zbf P .eql t (.string a) (.string b) = some (.bool (a.toList == b.toList)) := (rfl)
@[go_sem] theorem zEQ {t : TypeId} {a b : ByteArray} (h : a.size + b.size ≤ 9223372036854775807) : zbf P .add t (.string a) (.string b) = some (.string (a ++ b)) := by simp [zbf, h]
@[go_sem] theorem zPI {s : TypeId} {x : Operand} (h : zha P s = true) : bsE P s pf x = (srO 1 pf x).bind fun z => (zhO z.1).map fun ns => (.v (.str (zgh ns)), z.2) := by unfold bsE; rw [if_pos h]
@[go_sem] theorem zC5 : zhO [] = some [] := (rfl)
@[go_sem] theorem zr0 {n : Int} {rs : List (List PV)} : zhO ([.int .u8 n] :: rs) = (zhO rs).map (n :: ·) := (rfl)
@[go_sem] theorem zDa {f : Int → List PV} (h : ∀ x, f x = [.int .u8 x]) {l : List Int} : zhO (l.map f) = some l := by
 induction l with
 | nil => rfl
 | cons x l ih => rw [List.map_cons, h, zr0, ih]; rfl
@[go_sem] theorem zIp {t : TypeId} {a b : ByteArray} : zbf P .neq t (.string a) (.string b) = some (.bool !(a.toList == b.toList)) := (rfl)
@[go_sem] theorem zMr {b : Bool} : unV .not (.bool b) = some (.bool !b) := (rfl)
@[go_sem] theorem zMu {j : IntKind} {n : Int} : unV .neg (.int j n) = some (.int j (j.wrap (0 - n))) := (rfl)
@[go_sem] theorem zAn {j : IntKind} {a b : Int} : zfC true (.int j a) (.int j b) = some (.int j (if a < b then b else a)) := by simp [zfC]
@[go_sem] theorem zBS {j : IntKind} {a b : Int} : zfC false (.int j a) (.int j b) = some (.int j (if b < a then b else a)) := by simp [zfC]
end
end Go.Pm
