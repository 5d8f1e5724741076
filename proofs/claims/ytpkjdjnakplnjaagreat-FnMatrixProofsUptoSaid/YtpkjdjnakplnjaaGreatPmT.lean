import Derived.Test.YtpkjdjnakplnjaaGreatPmS
namespace Go.Pm
open Go.Am
section
variable {P : Program} {c co : Cfg} {k : List PIt} {Q : Exit → PFr → Prop} {pf : PFr}
@[go_sem] theorem zKf {a : Nat} {b f h : List Nat} : Cfg.nohp ⟨a, b, f, h⟩ = ⟨a, b, f, []⟩ := (rfl)
@[go_sem ↓] theorem zCw {id : Nat} {ops : List Oper} : pw P c (.code (.region id ops.toArray false) :: k) Q pf = pw P c (.ops (ops.map (·.dst)) ops :: k) Q pf := by
 show pwp P c (.region id ops.toArray false) (zbY P c k Q) pf = _
 simp only [pwp, Bool.false_eq_true, if_false]
 rfl
@[go_sem ↓] theorem zAF {pre : List (Option Tmp)} : pw P c (.ops pre [] :: k) Q pf = pw P c k Q pf := rfl
def pw1 (P : Program) (c co : Cfg) (ty : TypeId) (op : Op) (d : Option Tmp) (k : List PIt) (Q : Exit → PFr → Prop) (pf : PFr) : Prop := pop P co ⟨d, op, ty, "", #[], none⟩ (pw P c k Q) pf
theorem zsK {o o' : Oper} {K : PFr → Prop} (h : o.op = o'.op) (hd : o.dst = o'.dst) (ht : o.type = o'.type) : pop P c o K pf = pop P c o' K pf := by
 obtain ⟨d, op, ty, ps, af, g⟩ := o
 obtain ⟨d', op', ty', ps', af', g'⟩ := o'
 simp only at h hd ht
 subst h; subst hd; subst ht
 rfl
@[go_sem ↓] theorem zMO {pre : List (Option Tmp)} {d : Option Tmp} {op : Op} {ty : TypeId} {ps : String} {af : Array Edge} {l : List Oper} :
 pw P c (.ops pre (⟨d, op, ty, ps, af, none⟩ :: l) :: k) Q pf = pw1 P c c ty op d (.ops pre l :: k) Q pf := by
 show zkC P c pre ⟨d, op, ty, ps, af, none⟩ (pw P c (.ops pre l :: k) Q) pf = _
 simp only [zkC]
 exact zsK rfl rfl rfl
def pwg (P : Program) (c : Cfg) (y : Option (Option Bool)) (b : Bool) (ty : TypeId) (op : Op) (d : Option Tmp) (k : List PIt) (Q : Exit → PFr → Prop) (pf : PFr) : Prop :=
 pgo c b d (pw1 P c c ty op d k Q pf) (pw P c k Q) pf y
theorem zsI {y y' : Option (Option Bool)} {b : Bool} {ty : TypeId} {op : Op} {d : Option Tmp} (h : y = y') : pwg P c y b ty op d k Q pf = pwg P c y' b ty op d k Q pf := by rw [h]
@[go_sem ↓] theorem zL3 {pre : List (Option Tmp)} {d : Option Tmp} {op : Op} {ty : TypeId} {ps : String} {af : Array Edge} {j : Nat} {b : Bool} {l : List Oper} :
 pw P c (.ops pre (⟨d, op, ty, ps, af, some (j, b)⟩ :: l) :: k) Q pf = pwg P c (ygP pf pre[j]?) b ty op d (.ops pre l :: k) Q pf := by
 show zkC P c pre ⟨d, op, ty, ps, af, some (j, b)⟩ (pw P c (.ops pre l :: k) Q) pf = _
 simp only [zkC]
 unfold pwg pw1
 rw [zsK (o := ⟨d, op, ty, ps, af, some (j, b)⟩) (o' := ⟨d, op, ty, "", #[], none⟩) rfl rfl rfl]
@[go_sem] theorem zD0 {d : Tmp} : ygP pf (some (some d)) = ygV (pf d) := (rfl)
@[go_sem] theorem zDw {b : Bool} : ygV (.v (.bool b)) = some (some b) := (rfl)
@[go_sem] theorem zFa : ygV .skip = some none := (rfl)
@[go_sem ↓] theorem zLC {ty : TypeId} {op : Op} {d : Option Tmp} : pwg P c (some (some true)) true ty op d k Q pf = pw1 P c c ty op d k Q pf := by simp [pwg, pgo]
@[go_sem ↓] theorem zLP {ty : TypeId} {op : Op} {d : Option Tmp} : pwg P c (some (some false)) false ty op d k Q pf = pw1 P c c ty op d k Q pf := by simp [pwg, pgo]
@[go_sem ↓] theorem zLn {ty : TypeId} {op : Op} {d : Tmp} (h : ckd c d .skip = true) : pwg P c (some (some true)) false ty op (some d) k Q pf = pw P c k Q (pf.put d .skip) := by simp [pwg, pgo, zhx, h]
@[go_sem ↓] theorem zMh {ty : TypeId} {op : Op} {d : Tmp} (h : ckd c d .skip = true) : pwg P c (some (some false)) true ty op (some d) k Q pf = pw P c k Q (pf.put d .skip) := by simp [pwg, pgo, zhx, h]
@[go_sem ↓] theorem zNo {b : Bool} {ty : TypeId} {op : Op} {d : Tmp} (h : ckd c d .skip = true) : pwg P c (some none) b ty op (some d) k Q pf = pw P c k Q (pf.put d .skip) := by simp [pwg, pgo, zhx, h]
theorem ztF {y b : Bool} {ty : TypeId} {op : Op} {d : Option Tmp} (h1 : y = true → pwg P c (some (some true)) b ty op d k Q pf) (h2 : y = false → pwg P c (some (some false)) b ty op d k Q pf) : pwg P c (some (some y)) b ty op d k Q pf := by
 cases y
 ·exact h2 rfl
 ·exact h1 rfl
def qv (P : Program) (c co : Cfg) (x : Option (PF × PFr)) (d : Option Tmp) (k : List PIt) (Q : Exit → PFr → Prop) : Prop :=
 match x with
 | some a => zbV co (pw P c k Q) d a.1 a.2
 | none => False
def qz (P : Program) (c : Cfg) (d : Nat) (k : List PIt) (Q : Exit → PFr → Prop) (x : Option (PF × PFr)) : Prop := pfz (pw P c k Q) d x
theorem zuw {x x' : Option (PF × PFr)} {d : Option Tmp} (h : x = x') : qv P c co x d k Q = qv P c co x' d k Q := by rw [h]
theorem zuB {x x' : Option (PF × PFr)} {d : Nat} (h : x = x') : qz P c d k Q x = qz P c d k Q x' := by rw [h]
@[go_sem ↓] theorem zIK {y : PF} {d : Tmp} (h : ckd co d y = true) (hf : co.fz.contains d = false) : qv P c co (some (y, pf)) (some d) k Q = pw P c k Q (pf.put d y) := by simp only [qv, zbV, h, hf]; simp
@[go_sem ↓] theorem zNz {y : PF} {d : Tmp} (h : ckd co d y = true) (hf : co.fz.contains d = true) : qv P c co (some (y, pf)) (some d) k Q = qz P c d k Q (zjR pf y) := by simp only [qv, zbV, h, hf]; simp [qz]
@[go_sem ↓] theorem zLr {y : PF} : qv P c co (some (y, pf)) none k Q = pw P c k Q pf := rfl
@[go_sem ↓] theorem zIV {y : PF} {d : Nat} : qz P c d k Q (some (y, pf)) = pw P c k Q (pf.put d y) := rfl
def qf (P : Program) (c : Cfg) (x : Option PFr) (k : List PIt) (Q : Exit → PFr → Prop) : Prop :=
 match x with
 | some pf => pw P c k Q pf
 | none => False
theorem zuN {x x' : Option PFr} (h : x = x') : qf P c x k Q = qf P c x' k Q := by rw [h]
@[go_sem ↓] theorem zIL : qf P c (some pf) k Q = pw P c k Q pf := rfl
attribute [congr] zuZ zsI zuw zuB zuN
@[go_sem] theorem zL9 {d : Nat} {y : PF} : ckd c d y = (decide (d < c.nt) && !c.io.contains d && !(zas y == some d)) := (rfl)
@[go_sem] theorem zKk {x : PV} : zas (.v x) = none := (rfl)
@[go_sem] theorem zyU : zas .skip = none := (rfl)
@[go_sem] theorem zGK {es : Nat} {r : List (List PV)} : zas (.ls es r) = none := (rfl)
@[go_sem] theorem zGd {r : List PV} : zas (.bl r) = none := (rfl)
@[go_sem] theorem zG7 {s i j : Nat} {p : zad} : zas (.pt s p i j) = some s := (rfl)
@[go_sem] theorem zDC {s : Nat} {p : zad} : zas (.rf s p) = some s := (rfl)
@[go_sem] theorem zEp {s lo hi : Nat} {p : zad} : zas (.rv s p lo hi) = some s := (rfl)
@[go_sem] theorem zEz {b : Bool} {s i j n : Nat} {p : zad} : zas (.as b s p i j n) = some s := (rfl)
@[go_sem] theorem zHb {s i j n : Nat} {p : zad} : zas (.ra s p i j n) = some s := (rfl)
@[go_sem] theorem zJo {d t : Nat} {x : PF} : PFr.put pf d x t = if t = d then x else zce d (pf t) := (rfl)
@[go_sem] theorem zJw {d t : Nat} {x : PF} : PFr.upd pf d x t = if t = d then x else pf t := (rfl)
@[go_sem] theorem zFW {s n t : Nat} : PFr.kill pf s n t = za6 s n (pf t) := (rfl)
@[go_sem] theorem zIS {d : Nat} {x : PV} : zce d (.v x) = .v x := (rfl)
@[go_sem] theorem zzR {d : Nat} : zce d .skip = .skip := (rfl)
@[go_sem] theorem zEi {d es : Nat} {r : List (List PV)} : zce d (.ls es r) = .ls es r := (rfl)
@[go_sem] theorem zGi {d : Nat} {r : List PV} : zce d (.bl r) = .bl r := (rfl)
@[go_sem] theorem zEw {d s i j : Nat} {p : zad} : zce d (.pt s p i j) = if s = d then jP else .pt s p i j := by simp [zce, zas]
@[go_sem] theorem zFu {d s : Nat} {p : zad} : zce d (.rf s p) = if s = d then jP else .rf s p := by simp [zce, zas]
@[go_sem] theorem zDf {d s lo hi : Nat} {p : zad} : zce d (.rv s p lo hi) = if s = d then jP else .rv s p lo hi := by simp [zce, zas]
@[go_sem] theorem zEo {b : Bool} {d s i j n : Nat} {p : zad} : zce d (.as b s p i j n) = if s = d then jP else .as b s p i j n := by simp [zce, zas]
@[go_sem] theorem zEl {d s i j n : Nat} {p : zad} : zce d (.ra s p i j n) = if s = d then jP else .ra s p i j n := by simp [zce, zas]
@[go_sem] theorem zJ7 {d : Nat} : zce d jP = jP := (rfl)
@[go_sem] theorem zJT {s n : Nat} {x : PV} : za6 s n (.v x) = .v x := by simp [za6, zas]
@[go_sem] theorem zA6 {s n : Nat} : za6 s n .skip = .skip := by simp [za6, zas]
@[go_sem] theorem zGF {s n es : Nat} {r : List (List PV)} : za6 s n (.ls es r) = .ls es r := by simp [za6, zas]
@[go_sem] theorem zDe {s n : Nat} {r : List PV} : za6 s n (.bl r) = .bl r := by simp [za6, zas]
@[go_sem] theorem zEN {s n s' i j : Nat} {p : zad} : za6 s n (.pt s' p i j) = if s' = s ∧ n ≤ p.length then jP else .pt s' p i j := by simp [za6, zas, zfK]
@[go_sem] theorem zEJ {s n s' : Nat} {p : zad} : za6 s n (.rf s' p) = if s' = s ∧ n ≤ p.length then jP else .rf s' p := by simp [za6, zas, zfK]
@[go_sem] theorem zD8 {s n s' lo hi : Nat} {p : zad} : za6 s n (.rv s' p lo hi) = if s' = s ∧ n ≤ p.length then jP else .rv s' p lo hi := by simp [za6, zas, zfK]
@[go_sem] theorem zFh {b : Bool} {s n s' i j m : Nat} {p : zad} : za6 s n (.as b s' p i j m) = if s' = s ∧ n ≤ p.length + 1 then jP else .as b s' p i j m := by simp [za6, zas, zfK]
@[go_sem] theorem zFA {s n s' i j m : Nat} {p : zad} : za6 s n (.ra s' p i j m) = if s' = s ∧ n ≤ p.length + 1 then jP else .ra s' p i j m := by simp [za6, zas, zfK]
@[go_sem] theorem zJB {s n : Nat} : za6 s n jP = jP := by simp [za6, zas, jP]
@[go_sem] theorem zEF {s : Nat} {x : PF} {l : List (Nat × PF)} {t : Nat} : PFr.ofL ((s, x) :: l) t = if t = s then x else PFr.ofL l t := (rfl)
@[go_sem] theorem zHT {t : Nat} : PFr.ofL [] t = jP := (rfl)
@[go_sem] theorem zCY {as : List (Md × PV)} {t : Nat} : zgw as t = zm9 as[t]? := (rfl)
@[go_sem] theorem zC5 {m : Md} {x : PV} : zm9 (some (m, x)) = .v x := (rfl)
@[go_sem] theorem zC3 : zm9 none = jP := (rfl)
@[go_sem] theorem zNQ : isJ .junk = true := (rfl)
@[go_sem] theorem zGG {b : Bool} : isJ (.bool b) = false := (rfl)
@[go_sem] theorem zJe {j : IntKind} {n : Int} : isJ (.int j n) = false := (rfl)
@[go_sem] theorem zIj {s : ByteArray} : isJ (.str s) = false := (rfl)
@[go_sem] theorem zLl {o : Bool} {es : Nat} {r : List (List PV)} : isJ (.sl o es r) = false := (rfl)
@[go_sem] theorem zLE {r : List PV} : isJ (.fp r) = false := (rfl)
@[go_sem] theorem zMi {r : List PV} : isJ (.bx r) = false := (rfl)
@[go_sem] theorem zFg {f : Fn} {a b : List PV} : isJ (.func f a b) = false := (rfl)
@[go_sem] theorem zJO {r : List PV} : isJ (.agg r) = false := (rfl)
@[go_sem] theorem zIp {r : List PV} : isJ (.tup r) = false := (rfl)
@[go_sem] theorem zFs : isJ .nilf = false := (rfl)
@[go_sem] theorem zFU : isJ .nilp = false := (rfl)
@[go_sem] theorem zG6 : isJ .nili = false := (rfl)
@[go_sem] theorem zKy : zaH .junk = false := by simp [zaH]
@[go_sem] theorem zB0 {b : Bool} : zaH (.bool b) = false := by simp [zaH]
@[go_sem] theorem zGV {j : IntKind} {n : Int} : zaH (.int j n) = false := by simp [zaH]
@[go_sem] theorem zFr {s : ByteArray} : zaH (.str s) = false := by simp [zaH]
@[go_sem] theorem zH9 {r : List PV} : zaH (.fp r) = false := by simp [zaH]
@[go_sem] theorem zCF {f : Fn} {a b : List PV} : zaH (.func f a b) = false := by simp [zaH]
@[go_sem] theorem zBY : zaH .nilf = false := by simp [zaH]
@[go_sem] theorem zB3 : zaH .nilp = false := by simp [zaH]
@[go_sem] theorem zB9 : zaH .nili = false := by simp [zaH]
attribute [go_sem] zh9 zqw zgC zpd zhj znJ zl0 zoI zl8 zpH zn2 znU
@[go_sem] theorem zKR : drop .junk = .junk := by simp [drop]
@[go_sem] theorem zCc {b : Bool} : drop (.bool b) = .bool b := by simp [drop]
@[go_sem] theorem zEL {j : IntKind} {n : Int} : drop (.int j n) = .int j n := by simp [drop]
@[go_sem] theorem zFq {s : ByteArray} : drop (.str s) = .str s := by simp [drop]
@[go_sem] theorem zJ5 {r : List PV} : drop (.fp r) = .fp r := by simp [drop]
@[go_sem] theorem zBQ {f : Fn} {a b : List PV} : drop (.func f a b) = .func f a b := by simp [drop]
@[go_sem] theorem zBU : drop .nilf = .nilf := by simp [drop]
@[go_sem] theorem zCE : drop .nilp = .nilp := by simp [drop]
@[go_sem] theorem zCO : drop .nili = .nili := by simp [drop]
@[go_sem] theorem zHZ : za3 .junk = true := by simp [za3]
@[go_sem] theorem zBM {b : Bool} : za3 (.bool b) = true := by simp [za3]
@[go_sem] theorem zCI {j : IntKind} {n : Int} : za3 (.int j n) = true := by simp [za3]
@[go_sem] theorem zCa {s : ByteArray} : za3 (.str s) = true := by simp [za3]
@[go_sem] theorem zD6 {r : List PV} : za3 (.fp r) = false := by simp [za3]
@[go_sem] theorem zzH {f : Fn} {a b : List PV} : za3 (.func f a b) = false := by simp [za3]
@[go_sem] theorem zAd : za3 .nilf = true := by simp [za3]
@[go_sem] theorem zBv {j : IntKind} {n : Int} : zfa (.int j n) = true := (rfl)
@[go_sem] theorem zyJ {b : Bool} : zfa (.bool b) = true := (rfl)
@[go_sem] theorem zA5 {s : ByteArray} : zfa (.str s) = true := (rfl)
@[go_sem] theorem zDb {o : Bool} {es : Nat} {r : List (List PV)} : zfa (.sl o es r) = true := (rfl)
@[go_sem] theorem zCq {r : List PV} : zfa (.bx r) = true := (rfl)
@[go_sem] theorem zBV {r : List PV} : zfa (.fp r) = true := (rfl)
@[go_sem] theorem zyB {f : Fn} {a b : List PV} : zfa (.func f a b) = true := (rfl)
@[go_sem] theorem zys {j : IntKind} {n : Int} : zcb (.int j n) = true := (rfl)
@[go_sem] theorem zxM {b : Bool} : zcb (.bool b) = true := (rfl)
@[go_sem] theorem zyH {s : ByteArray} : zcb (.str s) = true := (rfl)
@[go_sem] theorem zzG {o : Bool} {es : Nat} {r : List (List PV)} : zcb (.sl o es r) = true := (rfl)
@[go_sem] theorem zyG {r : List PV} : zcb (.agg r) = true := (rfl)
@[go_sem] theorem zBs {r : List PV} : zcb (.bx r) = true := (rfl)
@[go_sem] theorem zy0 {r : List PV} : zcb (.fp r) = true := (rfl)
@[go_sem] theorem zwz {f : Fn} {a b : List PV} : zcb (.func f a b) = true := (rfl)
@[go_sem] theorem zBh {j : IntKind} {n : Int} : zaD (.int j n) = [.int j n] := (rfl)
@[go_sem] theorem zyv {b : Bool} : zaD (.bool b) = [.bool b] := (rfl)
@[go_sem] theorem zzM {s : ByteArray} : zaD (.str s) = [.str s] := (rfl)
@[go_sem] theorem zCU {o : Bool} {es : Nat} {r : List (List PV)} : zaD (.sl o es r) = [.sl o es r] := (rfl)
@[go_sem] theorem zAN {r : List PV} : zaD (.agg r) = r := (rfl)
@[go_sem] theorem zBP {r : List PV} : zaD (.bx r) = [.bx r] := (rfl)
@[go_sem] theorem zCt {r : List PV} : zaD (.fp r) = [.fp r] := (rfl)
@[go_sem] theorem zyu {f : Fn} {a b : List PV} : zaD (.func f a b) = [.func f a b] := (rfl)
@[go_sem] theorem zCs {e : Nat} {b : Bool} : zf5 e (.bool b) = .bool b := (rfl)
@[go_sem] theorem zGQ {e : Nat} {j : IntKind} {n : Int} : zf5 e (.int j n) = .int j n := (rfl)
@[go_sem] theorem zFl {e : Nat} {s : ByteArray} : zf5 e (.string s) = .str s := (rfl)
@[go_sem] theorem zGv {e : Nat} : zf5 e (.slice none 0 0) = .sl true e [] := (rfl)
@[go_sem] theorem zCp {e : Nat} : zf5 e .nilFunc = .nilf := (rfl)
@[go_sem] theorem zJk {j : IntKind} {n : Int} : zap (.int j n) = true := (rfl)
@[go_sem] theorem zEc {b : Bool} : zap (.bool b) = true := (rfl)
@[go_sem] theorem zH0 {b : ByteArray} : zap (.string b) = true := (rfl)
@[go_sem] theorem zHV : zap (.slice none 0 0) = true := (rfl)
@[go_sem] theorem zDl : zap .nilFunc = true := (rfl)
@[go_sem] theorem zJ0 {t : Tmp} : rdS pf (.tmp t) = znF (pf t) := (rfl)
@[go_sem] theorem zLQ {x : PV} : znF (.v x) = toS x := (rfl)
@[go_sem] theorem zCC : znF .skip = none := (rfl)
@[go_sem] theorem zFd {b : Bool} : toS (.bool b) = some (.bool b) := (rfl)
@[go_sem] theorem zIJ {j : IntKind} {n : Int} : toS (.int j n) = some (.int j n) := (rfl)
@[go_sem] theorem zHA {s : ByteArray} : toS (.str s) = some (.string s) := (rfl)
@[go_sem] theorem zJV {j : IntKind} {n : Int} : rdS pf (.const (.int j n)) = some (.int j n) := (rfl)
@[go_sem] theorem zDZ {b : Bool} : rdS pf (.const (.bool b)) = some (.bool b) := (rfl)
@[go_sem] theorem zJx {b : ByteArray} : rdS pf (.const (.string b)) = some (.string b) := (rfl)
@[go_sem] theorem zzb {b : Bool} : zeh (.bool b) = some (.bool b) := (rfl)
@[go_sem] theorem zCL {j : IntKind} {n : Int} : zeh (.int j n) = some (.int j n) := (rfl)
@[go_sem] theorem zCh {s : ByteArray} : zeh (.string s) = some (.str s) := (rfl)
def ev1 (f : Value → Option Value) (x : Option Value) (pf : PFr) : Option (PF × PFr) := (x.bind fun a => (f a).bind zeh).map fun y => (.v y, pf)
def ev2 (f : Value → Value → Option Value) (x y : Option Value) (pf : PFr) : Option (PF × PFr) := (x.bind fun a => y.bind fun b => (f a b).bind zeh).map fun y => (.v y, pf)
def fin (x : Option Value) (pf : PFr) : Option (PF × PFr) := (x.bind zeh).map fun y => (.v y, pf)
@[go_sem] theorem zFe {f : Value → Option Value} {a : Value} : ev1 f (some a) pf = fin (f a) pf := (rfl)
@[go_sem] theorem zHf {f : Value → Value → Option Value} {a b : Value} : ev2 f (some a) (some b) pf = fin (f a b) pf := (rfl)
@[go_sem] theorem zGu {b : Bool} : fin (some (.bool b)) pf = some (.v (.bool b), pf) := (rfl)
@[go_sem] theorem zIF {j : IntKind} {n : Int} : fin (some (.int j n)) pf = some (.v (.int j n), pf) := (rfl)
@[go_sem] theorem zIw {s : ByteArray} : fin (some (.string s)) pf = some (.v (.str s), pf) := (rfl)
theorem zgE {o : Oper} {x : Option (PF × PFr)} (h : (((zbo o.op).bind (zg5 pf)).bind fun vs => (zbk P o.op vs).bind zeh).map (fun y => (PF.v y, pf)) = x) : zeg P co o (pw P c k Q) pf = qv P c co x o.dst k Q := by
 subst h
 unfold zeg
 cases (zbo o.op).bind (zg5 pf) with
 | none => rfl
 | some vs =>
  simp only [Option.bind_some]
  cases (zbk P o.op vs).bind zeh <;> rfl
@[go_sem ↓] theorem zGD {ty t : TypeId} {op : UnOp} {x : Operand} {d : Option Tmp} : pw1 P c co ty (.unOp op t x) d k Q pf = qv P c co (ev1 (unV op) (rdS pf x) pf) d k Q := by
 refine zgE (o := ⟨d, .unOp op t x, ty, "", #[], none⟩) ?_
 simp only [zbo, zg5, Option.bind_some]
 cases rdS pf x <;> simp [zbk, ev1]
theorem znW {ty s t : TypeId} {x : Operand} {d : Tmp} (ht : zaN P t = true) (hp : co.hp ≠ [] ∨ lsP pf x = true) : pw1 P c co ty (.convert s t x) (some d) k Q pf = qv P c co (bsE P s pf x) (some d) k Q := by
 show (if zaN P t = true then (co.hp ≠ [] ∨ lsP pf x = true) ∧ zh5 P co s t x (some d) (pw P c k Q) pf else _) = _
 rw [if_pos ht]
 unfold zh5 qv
 cases bsE P s pf x with
 | none => simp [hp]
 | some z => simp [hp, ht]
@[go_sem ↓] theorem zEW {ty s t : TypeId} {x : Operand} {d : Tmp} (ht : zaN P t = true) (hp : co.hp.isEmpty = false) : pw1 P c co ty (.convert s t x) (some d) k Q pf = qv P c co (bsE P s pf x) (some d) k Q := znW ht (.inl fun e => by rw [e] at hp; cases hp)
@[go_sem] theorem zDo {rows : List (List PV)} : zmP (.ls 1 rows) = true := (rfl)
@[go_sem ↓] theorem zCN {ty s t : TypeId} {u : Nat} {d : Tmp} (ht : zaN P t = true) (hl : zmP (pf u) = true) : pw1 P c co ty (.convert s t (.tmp u)) (some d) k Q pf = qv P c co (bsE P s pf (.tmp u)) (some d) k Q := znW ht (.inr hl)
@[go_sem ↓] theorem zyF {ty s t : TypeId} {x : Operand} {d : Option Tmp} (ht : zaN P t = false) : pw1 P c co ty (.convert s t x) d k Q pf = qv P c co (ev1 (zlh P s t) (rdS pf x) pf) d k Q := by
 have e : pw1 P c co ty (.convert s t x) d k Q pf = zeg P co ⟨d, .convert s t x, ty, "", #[], none⟩ (pw P c k Q) pf := by
  show (if zaN P t = true then (co.hp ≠ [] ∨ lsP pf x = true) ∧ zh5 P co s t x d (pw P c k Q) pf else zeg P co ⟨d, .convert s t x, ty, "", #[], none⟩ (pw P c k Q) pf) = _
  rw [if_neg (by simp [ht])]
 rw [e]
 refine zgE (o := ⟨d, .convert s t x, ty, "", #[], none⟩) ?_
 simp only [zbo, zg5, Option.bind_some]
 cases rdS pf x <;> simp [zbk, ev1]
@[go_sem] theorem zAb {t : Tmp} : zgp (.tmp t) = false := (rfl)
@[go_sem] theorem zAy {j : IntKind} {n : Int} : zgp (.const (.int j n)) = false := (rfl)
@[go_sem] theorem zyP {b : Bool} : zgp (.const (.bool b)) = false := (rfl)
@[go_sem] theorem zz5 {s : ByteArray} : zgp (.const (.string s)) = false := (rfl)
@[go_sem ↓] theorem zCZ {ty t u : TypeId} {op : BinOp} {x y : Operand} {d : Option Tmp} (hy : zgp y = false) : pw1 P c co ty (.binOp op t x y u) d k Q pf = qv P c co (ev2 (zbM P op t) (rdS pf x) (rdS pf y) pf) d k Q := by
 have e : pw1 P c co ty (.binOp op t x y u) d k Q pf = zeg P co ⟨d, .binOp op t x y u, ty, "", #[], none⟩ (pw P c k Q) pf := by
  show pop P co ⟨d, .binOp op t x y u, ty, "", #[], none⟩ (pw P c k Q) pf = _
  simp only [pop, hy, Bool.false_eq_true, if_false]
 rw [e]
 refine zgE (o := ⟨d, .binOp op t x y u, ty, "", #[], none⟩) ?_
 simp only [zbo, zg5, Option.bind_some]
 cases rdS pf x <;> cases rdS pf y <;> simp [zbk, ev2]
@[go_sem ↓] theorem zBS {ty t : TypeId} {x y : Operand} {d : Option Tmp} : pw1 P c co ty (.index t x y) d k Q pf = qv P c co (ev2 (zg8 P t) (rdS pf x) (rdS pf y) pf) d k Q := by
 refine zgE (o := ⟨d, .index t x y, ty, "", #[], none⟩) ?_
 simp only [zbo, zg5, Option.bind_some]
 cases rdS pf x <;> cases rdS pf y <;> simp [zbk, ev2]
@[go_sem ↓] theorem zH7 {ty : TypeId} {x y : Operand} {ts : Array TypeId} {d : Option Tmp} : pw1 P c co ty (.call ⟨.builtin .min, #[x, y], ts⟩) d k Q pf = qv P c co (ev2 (zfD false) (rdS pf x) (rdS pf y) pf) d k Q := by
 refine zgE (o := ⟨d, .call ⟨.builtin .min, #[x, y], ts⟩, ty, "", #[], none⟩) ?_
 simp only [zbo, zg5, Option.bind_some]
 cases rdS pf x <;> cases rdS pf y <;> simp [zbk, ev2]
@[go_sem ↓] theorem zHs {ty : TypeId} {x y : Operand} {ts : Array TypeId} {d : Option Tmp} : pw1 P c co ty (.call ⟨.builtin .max, #[x, y], ts⟩) d k Q pf = qv P c co (ev2 (zfD true) (rdS pf x) (rdS pf y) pf) d k Q := by
 refine zgE (o := ⟨d, .call ⟨.builtin .max, #[x, y], ts⟩, ty, "", #[], none⟩) ?_
 simp only [zbo, zg5, Option.bind_some]
 cases rdS pf x <;> cases rdS pf y <;> simp [zbk, ev2]
@[go_sem] theorem zDA {s d : TypeId} {i j k : IntKind} {n : Int} (hs : zel P s = some i) (hd : zel P d = some k) : zlh P s d (.int j n) = some (.int k (k.wrap n)) := by
 unfold zlh
 have : ∃ u, P.underlying s = some u := by
  unfold zel at hs; split at hs
  ·rename_i h; exact ⟨_, h⟩
  ·cases hs
 obtain ⟨u, hu⟩ := this
 rw [hu, hd]
@[go_sem] theorem zI5 {j : IntKind} {t : TypeId} {a b : Int} : zbM P .add t (.int j a) (.int j b) = some (.int j (j.wrap (a + b))) := by simp [zbM, zdg]
@[go_sem] theorem zH5 {j : IntKind} {t : TypeId} {a b : Int} : zbM P .sub t (.int j a) (.int j b) = some (.int j (j.wrap (a - b))) := by simp [zbM, zdg]
@[go_sem] theorem zJs {j : IntKind} {t : TypeId} {a b : Int} : zbM P .mul t (.int j a) (.int j b) = some (.int j (j.wrap (a * b))) := by simp [zbM, zdg]
def zi0 (b : Int) (x : Value) : Option Value := if b = 0 then none else some x
@[go_sem] theorem zJl {j : IntKind} {t : TypeId} {a b : Int} : zbM P .quo t (.int j a) (.int j b) = zi0 b (.int j (j.wrap (a.tdiv b))) := by simp [zbM, zdg, zi0]
@[go_sem] theorem zKc {j : IntKind} {t : TypeId} {a b : Int} : zbM P .rem t (.int j a) (.int j b) = zi0 b (.int j (a.tmod b)) := by simp [zbM, zdg, zi0]
theorem znp {b : Int} {x : Value} (h : b ≠ 0) : zi0 b x = some x := by simp [zi0, h]
@[go_sem] theorem zEn {x : Value} {n : Nat} : zi0 (OfNat.ofNat (n + 1)) x = some x := by
 refine znp ?_
 show ((n + 1 : Nat) : Int) ≠ 0
 omega
@[go_sem] theorem zH4 {j : IntKind} {t : TypeId} {a b : Int} : zbM P .eql t (.int j a) (.int j b) = some (.bool (a == b)) := by simp [zbM, zdg]
@[go_sem] theorem zHJ {j : IntKind} {t : TypeId} {a b : Int} : zbM P .neq t (.int j a) (.int j b) = some (.bool (a != b)) := by simp [zbM, zdg]
@[go_sem] theorem zJJ {j : IntKind} {t : TypeId} {a b : Int} : zbM P .lss t (.int j a) (.int j b) = some (.bool (decide (a < b))) := by simp [zbM, zdg]
@[go_sem] theorem zIs {j : IntKind} {t : TypeId} {a b : Int} : zbM P .leq t (.int j a) (.int j b) = some (.bool (decide (a ≤ b))) := by simp [zbM, zdg]
@[go_sem] theorem zJ6 {j : IntKind} {t : TypeId} {a b : Int} : zbM P .gtr t (.int j a) (.int j b) = some (.bool (decide (b < a))) := by simp [zbM, zdg]
@[go_sem] theorem zIt {j : IntKind} {t : TypeId} {a b : Int} : zbM P .geq t (.int j a) (.int j b) = some (.bool (decide (b ≤ a))) := by simp [zbM, zdg]
@[go_sem] theorem zHr {j : IntKind} {t : TypeId} {a b : Int} : zbM P .and t (.int j a) (.int j b) = some (.int j (j.wrap (BitVec.ofInt j.bits a &&& BitVec.ofInt j.bits b).toNat)) := by simp [zbM, zdg]
@[go_sem] theorem zLW {j : IntKind} {t : TypeId} {a b : Int} : zbM P .or t (.int j a) (.int j b) = some (.int j (j.wrap (BitVec.ofInt j.bits a ||| BitVec.ofInt j.bits b).toNat)) := by simp [zbM, zdg]
@[go_sem] theorem zIb {j : IntKind} {t : TypeId} {a b : Int} : zbM P .xor t (.int j a) (.int j b) = some (.int j (j.wrap (BitVec.ofInt j.bits a ^^^ BitVec.ofInt j.bits b).toNat)) := by simp [zbM, zdg]
def zmh (b : Int) (x : Value) : Option Value := if b < 0 then none else some x
@[go_sem] theorem zIi {j j' : IntKind} {t : TypeId} {a b : Int} : zbM P .shl t (.int j a) (.int j' b) = zmh b (.int j (j.wrap (a * 2 ^ min b.toNat j.bits))) := by simp [zbM, zmh]
@[go_sem] theorem zII {j j' : IntKind} {t : TypeId} {a b : Int} : zbM P .shr t (.int j a) (.int j' b) = zmh b (.int j (a.fdiv (2 ^ min b.toNat j.bits))) := by simp [zbM, zmh]
theorem zvo {b : Int} {x : Value} (h : 0 ≤ b) : zmh b x = some x := by simp [zmh]; omega
@[go_sem] theorem zGp {t : TypeId} {a b : Bool} (h : zho P t = true) : zbM P .eql t (.bool a) (.bool b) = some (.bool (a == b)) := by simp [zbM, h]
@[go_sem] theorem zDF {t : TypeId} {a b : Bool} (h : zho P t = true) : zbM P .neq t (.bool a) (.bool b) = some (.bool (a != b)) := by simp [zbM, h]
@[go_sem] theorem zEg {t : TypeId} {a b : ByteArray} : zbM P .eql t (.string a) (.string b) = some (.bool (a.toList == b.toList)) := (rfl)
@[go_sem] theorem zFD {t : TypeId} {a b : ByteArray} (h : a.size + b.size ≤ 9223372036854775807) : zbM P .add t (.string a) (.string b) = some (.string (a ++ b)) := by simp [zbM, h]
@[go_sem] theorem zNb {s : TypeId} {x : Operand} (h : zgU P s = true) : bsE P s pf x = (srO 1 pf x).bind fun z => (zhw z.1).map fun ns => (.v (.str (zge ns)), z.2) := by unfold bsE; rw [if_pos h]
@[go_sem] theorem zCA : zhw [] = some [] := (rfl)
@[go_sem] theorem zrg {n : Int} {rs : List (List PV)} : zhw ([.int .u8 n] :: rs) = (zhw rs).map (n :: ·) := (rfl)
@[go_sem] theorem zB6 {f : Int → List PV} (h : ∀ x, f x = [.int .u8 x]) {l : List Int} : zhw (l.map f) = some l := by
 induction l with
 | nil => rfl
 | cons x l ih => rw [List.map_cons, h, zrg, ih]; rfl
@[go_sem] theorem zFw {t : TypeId} {a b : ByteArray} : zbM P .neq t (.string a) (.string b) = some (.bool !(a.toList == b.toList)) := (rfl)
@[go_sem] theorem zL5 {b : Bool} : unV .not (.bool b) = some (.bool !b) := (rfl)
@[go_sem] theorem zLT {j : IntKind} {n : Int} : unV .neg (.int j n) = some (.int j (j.wrap (0 - n))) := (rfl)
@[go_sem] theorem zy8 {j : IntKind} {a b : Int} : zfD true (.int j a) (.int j b) = some (.int j (if a < b then b else a)) := by simp [zfD]
@[go_sem] theorem zBo {j : IntKind} {a b : Int} : zfD false (.int j a) (.int j b) = some (.int j (if b < a then b else a)) := by simp [zfD]
end
end Go.Pm
