import Derived.Test.YtikiohlamlipnaaGreatPmS
namespace Go.Pm
open Go.Am
section
variable {P : Program} {c co : Cfg} {k : List PIt} {Q : Exit → PFr → Prop} {pf : PFr}
@[go_sem] theorem zGV {a : Nat} {b f h : List Nat} : Cfg.nohp ⟨a, b, f, h⟩ = ⟨a, b, f, []⟩ := (rfl)
@[go_sem ↓] theorem zCs {id : Nat} {ops : List Oper} : pw P c (.code (.region id ops.toArray false) :: k) Q pf = pw P c (.ops (ops.map (·.dst)) ops :: k) Q pf := by
 show pwp P c (.region id ops.toArray false) (zbJ P c k Q) pf = _
 simp only [pwp, Bool.false_eq_true, if_false]
 rfl
@[go_sem ↓] theorem zAE {pre : List (Option Tmp)} : pw P c (.ops pre [] :: k) Q pf = pw P c k Q pf := rfl
def pw1 (P : Program) (c co : Cfg) (ty : TypeId) (op : Op) (d : Option Tmp) (k : List PIt) (Q : Exit → PFr → Prop) (pf : PFr) : Prop := pop P co ⟨d, op, ty, "", #[], none⟩ (pw P c k Q) pf
theorem ztT {o o' : Oper} {K : PFr → Prop} (h : o.op = o'.op) (hd : o.dst = o'.dst) (ht : o.type = o'.type) : pop P c o K pf = pop P c o' K pf := by
 obtain ⟨d, op, ty, ps, af, g⟩ := o
 obtain ⟨d', op', ty', ps', af', g'⟩ := o'
 simp only at h hd ht
 subst h; subst hd; subst ht
 rfl
@[go_sem ↓] theorem zKm {pre : List (Option Tmp)} {d : Option Tmp} {op : Op} {ty : TypeId} {ps : String} {af : Array Edge} {l : List Oper} :
 pw P c (.ops pre (⟨d, op, ty, ps, af, none⟩ :: l) :: k) Q pf = pw1 P c c ty op d (.ops pre l :: k) Q pf := by
 show zkm P c pre ⟨d, op, ty, ps, af, none⟩ (pw P c (.ops pre l :: k) Q) pf = _
 simp only [zkm]
 exact ztT rfl rfl rfl
def pwg (P : Program) (c : Cfg) (y : Option (Option Bool)) (b : Bool) (ty : TypeId) (op : Op) (d : Option Tmp) (k : List PIt) (Q : Exit → PFr → Prop) (pf : PFr) : Prop :=
 pgo c b d (pw1 P c c ty op d k Q pf) (pw P c k Q) pf y
theorem ztF {y y' : Option (Option Bool)} {b : Bool} {ty : TypeId} {op : Op} {d : Option Tmp} (h : y = y') : pwg P c y b ty op d k Q pf = pwg P c y' b ty op d k Q pf := by rw [h]
@[go_sem ↓] theorem zI2 {pre : List (Option Tmp)} {d : Option Tmp} {op : Op} {ty : TypeId} {ps : String} {af : Array Edge} {j : Nat} {b : Bool} {l : List Oper} :
 pw P c (.ops pre (⟨d, op, ty, ps, af, some (j, b)⟩ :: l) :: k) Q pf = pwg P c (ygP pf pre[j]?) b ty op d (.ops pre l :: k) Q pf := by
 show zkm P c pre ⟨d, op, ty, ps, af, some (j, b)⟩ (pw P c (.ops pre l :: k) Q) pf = _
 simp only [zkm]
 unfold pwg pw1
 rw [ztT (o := ⟨d, op, ty, ps, af, some (j, b)⟩) (o' := ⟨d, op, ty, "", #[], none⟩) rfl rfl rfl]
@[go_sem] theorem zFv {d : Tmp} : ygP pf (some (some d)) = ygV (pf d) := (rfl)
@[go_sem] theorem zDv {b : Bool} : ygV (.v (.bool b)) = some (some b) := (rfl)
@[go_sem] theorem zEv : ygV .skip = some none := (rfl)
@[go_sem ↓] theorem zIJ {ty : TypeId} {op : Op} {d : Option Tmp} : pwg P c (some (some true)) true ty op d k Q pf = pw1 P c c ty op d k Q pf := by simp [pwg, pgo]
@[go_sem ↓] theorem zIS {ty : TypeId} {op : Op} {d : Option Tmp} : pwg P c (some (some false)) false ty op d k Q pf = pw1 P c c ty op d k Q pf := by simp [pwg, pgo]
@[go_sem ↓] theorem zJz {ty : TypeId} {op : Op} {d : Tmp} (h : ckd c d .skip = true) : pwg P c (some (some true)) false ty op (some d) k Q pf = pw P c k Q (pf.put d .skip) := by simp [pwg, pgo, ziO, h]
@[go_sem ↓] theorem zJD {ty : TypeId} {op : Op} {d : Tmp} (h : ckd c d .skip = true) : pwg P c (some (some false)) true ty op (some d) k Q pf = pw P c k Q (pf.put d .skip) := by simp [pwg, pgo, ziO, h]
@[go_sem ↓] theorem zKp {b : Bool} {ty : TypeId} {op : Op} {d : Tmp} (h : ckd c d .skip = true) : pwg P c (some none) b ty op (some d) k Q pf = pw P c k Q (pf.put d .skip) := by simp [pwg, pgo, ziO, h]
theorem ztz {y b : Bool} {ty : TypeId} {op : Op} {d : Option Tmp} (h1 : y = true → pwg P c (some (some true)) b ty op d k Q pf) (h2 : y = false → pwg P c (some (some false)) b ty op d k Q pf) : pwg P c (some (some y)) b ty op d k Q pf := by
 cases y
 ·exact h2 rfl
 ·exact h1 rfl
def qv (P : Program) (c co : Cfg) (x : Option (PF × PFr)) (d : Option Tmp) (k : List PIt) (Q : Exit → PFr → Prop) : Prop :=
 match x with
 | some a => zbw co (pw P c k Q) d a.1 a.2
 | none => False
def qz (P : Program) (c : Cfg) (d : Nat) (k : List PIt) (Q : Exit → PFr → Prop) (x : Option (PF × PFr)) : Prop := pfz (pw P c k Q) d x
theorem zut {x x' : Option (PF × PFr)} {d : Option Tmp} (h : x = x') : qv P c co x d k Q = qv P c co x' d k Q := by rw [h]
theorem zux {x x' : Option (PF × PFr)} {d : Nat} (h : x = x') : qz P c d k Q x = qz P c d k Q x' := by rw [h]
@[go_sem ↓] theorem zHA {y : PF} {d : Tmp} (h : ckd co d y = true) (hf : co.fz.contains d = false) : qv P c co (some (y, pf)) (some d) k Q = pw P c k Q (pf.put d y) := by simp only [qv, zbw, h, hf]; simp
@[go_sem ↓] theorem zKb {y : PF} {d : Tmp} (h : ckd co d y = true) (hf : co.fz.contains d = true) : qv P c co (some (y, pf)) (some d) k Q = qz P c d k Q (znc pf y) := by simp only [qv, zbw, h, hf]; simp [qz]
@[go_sem ↓] theorem zJh {y : PF} : qv P c co (some (y, pf)) none k Q = pw P c k Q pf := rfl
@[go_sem ↓] theorem zHG {y : PF} {d : Nat} : qz P c d k Q (some (y, pf)) = pw P c k Q (pf.put d y) := rfl
def qf (P : Program) (c : Cfg) (x : Option PFr) (k : List PIt) (Q : Exit → PFr → Prop) : Prop :=
 match x with
 | some pf => pw P c k Q pf
 | none => False
theorem zuS {x x' : Option PFr} (h : x = x') : qf P c x k Q = qf P c x' k Q := by rw [h]
@[go_sem ↓] theorem zIq : qf P c (some pf) k Q = pw P c k Q pf := rfl
attribute [congr] zu3 ztF zut zux zuS
@[go_sem] theorem zIR {d : Nat} {y : PF} : ckd c d y = (decide (d < c.nt) && !c.io.contains d && !(zar y == some d)) := (rfl)
@[go_sem] theorem zIj {x : PV} : zar (.v x) = none := (rfl)
@[go_sem] theorem zzJ : zar .skip = none := (rfl)
@[go_sem] theorem zFt {s i j : Nat} {p : zad} : zar (.pt s p i j) = some s := (rfl)
@[go_sem] theorem zEM {s : Nat} {p : zad} : zar (.rf s p) = some s := (rfl)
@[go_sem] theorem zC0 {b : Bool} {s i j n : Nat} {p : zad} : zar (.as b s p i j n) = some s := (rfl)
@[go_sem] theorem zEV {s i j n : Nat} {p : zad} : zar (.ra s p i j n) = some s := (rfl)
@[go_sem] theorem zGt {d t : Nat} {x : PF} : PFr.put pf d x t = if t = d then x else zb2 d (pf t) := (rfl)
@[go_sem] theorem zGF {d t : Nat} {x : PF} : PFr.upd pf d x t = if t = d then x else pf t := (rfl)
@[go_sem] theorem zE9 {s n t : Nat} : PFr.kill pf s n t = zbl s n (pf t) := (rfl)
@[go_sem] theorem zHT {d : Nat} {x : PV} : zb2 d (.v x) = .v x := (rfl)
@[go_sem] theorem zA1 {d : Nat} : zb2 d .skip = .skip := (rfl)
@[go_sem] theorem zEn {d es : Nat} {r : List (List PV)} : zb2 d (.ls es r) = .ls es r := (rfl)
@[go_sem] theorem zFJ {d : Nat} {r : List PV} : zb2 d (.bl r) = .bl r := (rfl)
@[go_sem] theorem zFw {d s i j : Nat} {p : zad} : zb2 d (.pt s p i j) = if s = d then jP else .pt s p i j := by simp [zb2, zar]
@[go_sem] theorem zDS {d s : Nat} {p : zad} : zb2 d (.rf s p) = if s = d then jP else .rf s p := by simp [zb2, zar]
@[go_sem] theorem zDO {b : Bool} {d s i j n : Nat} {p : zad} : zb2 d (.as b s p i j n) = if s = d then jP else .as b s p i j n := by simp [zb2, zar]
@[go_sem] theorem zCW {d s i j n : Nat} {p : zad} : zb2 d (.ra s p i j n) = if s = d then jP else .ra s p i j n := by simp [zb2, zar]
@[go_sem] theorem zHq {d : Nat} : zb2 d jP = jP := (rfl)
@[go_sem] theorem zGo {s n : Nat} {x : PV} : zbl s n (.v x) = .v x := by simp [zbl, zar]
@[go_sem] theorem zDd {s n es : Nat} {r : List (List PV)} : zbl s n (.ls es r) = .ls es r := by simp [zbl, zar]
@[go_sem] theorem zFA {s n : Nat} {r : List PV} : zbl s n (.bl r) = .bl r := by simp [zbl, zar]
@[go_sem] theorem zED {s n s' i j : Nat} {p : zad} : zbl s n (.pt s' p i j) = if s' = s ∧ n ≤ p.length then jP else .pt s' p i j := by simp [zbl, zar, zfS]
@[go_sem] theorem zFE {s n s' : Nat} {p : zad} : zbl s n (.rf s' p) = if s' = s ∧ n ≤ p.length then jP else .rf s' p := by simp [zbl, zar, zfS]
@[go_sem] theorem zFL {b : Bool} {s n s' i j m : Nat} {p : zad} : zbl s n (.as b s' p i j m) = if s' = s ∧ n ≤ p.length + 1 then jP else .as b s' p i j m := by simp [zbl, zar, zfS]
@[go_sem] theorem zFW {s : Nat} {x : PF} {l : List (Nat × PF)} {t : Nat} : PFr.ofL ((s, x) :: l) t = if t = s then x else PFr.ofL l t := (rfl)
@[go_sem] theorem zIk {t : Nat} : PFr.ofL [] t = jP := (rfl)
@[go_sem] theorem zCh {as : List (Md × PV)} {t : Nat} : zgb as t = zoR as[t]? := (rfl)
@[go_sem] theorem zCg {m : Md} {x : PV} : zoR (some (m, x)) = .v x := (rfl)
@[go_sem] theorem zE0 {b : Bool} : isJ (.bool b) = false := (rfl)
@[go_sem] theorem zGU {j : IntKind} {n : Int} : isJ (.int j n) = false := (rfl)
@[go_sem] theorem zHO {s : ByteArray} : isJ (.str s) = false := (rfl)
@[go_sem] theorem zIz {o : Bool} {es : Nat} {r : List (List PV)} : isJ (.sl o es r) = false := (rfl)
@[go_sem] theorem zJJ {r : List PV} : isJ (.fp r) = false := (rfl)
@[go_sem] theorem zI9 {r : List PV} : isJ (.bx r) = false := (rfl)
@[go_sem] theorem zEe {f : Fn} {a b : List PV} : isJ (.func f a b) = false := (rfl)
@[go_sem] theorem zGW {r : List PV} : isJ (.agg r) = false := (rfl)
@[go_sem] theorem zGX {r : List PV} : isJ (.tup r) = false := (rfl)
@[go_sem] theorem zCp {b : Bool} : zaI (.bool b) = false := by simp [zaI]
@[go_sem] theorem zD9 {j : IntKind} {n : Int} : zaI (.int j n) = false := by simp [zaI]
@[go_sem] theorem zEg {s : ByteArray} : zaI (.str s) = false := by simp [zaI]
@[go_sem] theorem zBR {f : Fn} {a b : List PV} : zaI (.func f a b) = false := by simp [zaI]
attribute [go_sem] zhZ zra zgn zpu zhd zna zlI zpl zlt zpy znC znT
@[go_sem] theorem zBG {b : Bool} : drop (.bool b) = .bool b := by simp [drop]
@[go_sem] theorem zEx {j : IntKind} {n : Int} : drop (.int j n) = .int j n := by simp [drop]
@[go_sem] theorem zEK {s : ByteArray} : drop (.str s) = .str s := by simp [drop]
@[go_sem] theorem zBK {f : Fn} {a b : List PV} : drop (.func f a b) = .func f a b := by simp [drop]
@[go_sem] theorem zHL : za5 .junk = true := by simp [za5]
@[go_sem] theorem zAU {b : Bool} : za5 (.bool b) = true := by simp [za5]
@[go_sem] theorem zBX {j : IntKind} {n : Int} : za5 (.int j n) = true := by simp [za5]
@[go_sem] theorem zA2 {j : IntKind} {n : Int} : zgS (.int j n) = true := (rfl)
@[go_sem] theorem zy3 {b : Bool} : zgS (.bool b) = true := (rfl)
@[go_sem] theorem zCa {o : Bool} {es : Nat} {r : List (List PV)} : zgS (.sl o es r) = true := (rfl)
@[go_sem] theorem zyV {j : IntKind} {n : Int} : zcj (.int j n) = true := (rfl)
@[go_sem] theorem zyC {b : Bool} : zcj (.bool b) = true := (rfl)
@[go_sem] theorem zz1 {o : Bool} {es : Nat} {r : List (List PV)} : zcj (.sl o es r) = true := (rfl)
@[go_sem] theorem zzb {r : List PV} : zcj (.agg r) = true := (rfl)
@[go_sem] theorem zx0 {f : Fn} {a b : List PV} : zcj (.func f a b) = true := (rfl)
@[go_sem] theorem zA6 {j : IntKind} {n : Int} : zaz (.int j n) = [.int j n] := (rfl)
@[go_sem] theorem zyX {b : Bool} : zaz (.bool b) = [.bool b] := (rfl)
@[go_sem] theorem zBT {o : Bool} {es : Nat} {r : List (List PV)} : zaz (.sl o es r) = [.sl o es r] := (rfl)
@[go_sem] theorem zBf {r : List PV} : zaz (.agg r) = r := (rfl)
@[go_sem] theorem zyZ {f : Fn} {a b : List PV} : zaz (.func f a b) = [.func f a b] := (rfl)
@[go_sem] theorem zB8 {e : Nat} {b : Bool} : zgh e (.bool b) = .bool b := (rfl)
@[go_sem] theorem zDp {e : Nat} {j : IntKind} {n : Int} : zgh e (.int j n) = .int j n := (rfl)
@[go_sem] theorem zDj {e : Nat} {s : ByteArray} : zgh e (.string s) = .str s := (rfl)
@[go_sem] theorem zGa {e : Nat} : zgh e (.slice none 0 0) = .sl true e [] := (rfl)
@[go_sem] theorem zHv {j : IntKind} {n : Int} : zao (.int j n) = true := (rfl)
@[go_sem] theorem zFI {b : Bool} : zao (.bool b) = true := (rfl)
@[go_sem] theorem zHr {b : ByteArray} : zao (.string b) = true := (rfl)
@[go_sem] theorem zGA : zao (.slice none 0 0) = true := (rfl)
@[go_sem] theorem zGn {t : Tmp} : rdS pf (.tmp t) = znj (pf t) := (rfl)
@[go_sem] theorem zI0 {x : PV} : znj (.v x) = toS x := (rfl)
@[go_sem] theorem zB1 : znj .skip = none := (rfl)
@[go_sem] theorem zDs {b : Bool} : toS (.bool b) = some (.bool b) := (rfl)
@[go_sem] theorem zHe {j : IntKind} {n : Int} : toS (.int j n) = some (.int j n) := (rfl)
@[go_sem] theorem zHB {s : ByteArray} : toS (.str s) = some (.string s) := (rfl)
@[go_sem] theorem zHb {j : IntKind} {n : Int} : rdS pf (.const (.int j n)) = some (.int j n) := (rfl)
@[go_sem] theorem zEJ {b : Bool} : rdS pf (.const (.bool b)) = some (.bool b) := (rfl)
@[go_sem] theorem zBd {b : Bool} : zeo (.bool b) = some (.bool b) := (rfl)
def ev1 (f : Value → Option Value) (x : Option Value) (pf : PFr) : Option (PF × PFr) := (x.bind fun a => (f a).bind zeo).map fun y => (.v y, pf)
def ev2 (f : Value → Value → Option Value) (x y : Option Value) (pf : PFr) : Option (PF × PFr) := (x.bind fun a => y.bind fun b => (f a b).bind zeo).map fun y => (.v y, pf)
def fin (x : Option Value) (pf : PFr) : Option (PF × PFr) := (x.bind zeo).map fun y => (.v y, pf)
@[go_sem] theorem zFm {f : Value → Option Value} {a : Value} : ev1 f (some a) pf = fin (f a) pf := (rfl)
@[go_sem] theorem zDE {f : Value → Value → Option Value} {a b : Value} : ev2 f (some a) (some b) pf = fin (f a b) pf := (rfl)
@[go_sem] theorem zFd {b : Bool} : fin (some (.bool b)) pf = some (.v (.bool b), pf) := (rfl)
@[go_sem] theorem zGh {j : IntKind} {n : Int} : fin (some (.int j n)) pf = some (.v (.int j n), pf) := (rfl)
theorem zia {o : Oper} {x : Option (PF × PFr)} (h : (((za2 o.op).bind (zhA pf)).bind fun vs => (zaY P o.op vs).bind zeo).map (fun y => (PF.v y, pf)) = x) : zdW P co o (pw P c k Q) pf = qv P c co x o.dst k Q := by
 subst h
 unfold zdW
 cases (za2 o.op).bind (zhA pf) with
 | none => rfl
 | some vs =>
  simp only [Option.bind_some]
  cases (zaY P o.op vs).bind zeo <;> rfl
@[go_sem ↓] theorem zF1 {ty t : TypeId} {op : UnOp} {x : Operand} {d : Option Tmp} : pw1 P c co ty (.unOp op t x) d k Q pf = qv P c co (ev1 (unV op) (rdS pf x) pf) d k Q := by
 refine zia (o := ⟨d, .unOp op t x, ty, "", #[], none⟩) ?_
 simp only [za2, zhA, Option.bind_some]
 cases rdS pf x <;> simp [zaY, ev1]
@[go_sem ↓] theorem zy4 {ty s t : TypeId} {x : Operand} {d : Option Tmp} (ht : zaO P t = false) : pw1 P c co ty (.convert s t x) d k Q pf = qv P c co (ev1 (zkT P s t) (rdS pf x) pf) d k Q := by
 have e : pw1 P c co ty (.convert s t x) d k Q pf = zdW P co ⟨d, .convert s t x, ty, "", #[], none⟩ (pw P c k Q) pf := by
  show (if zaO P t = true then (co.hp ≠ [] ∨ lsP pf x = true) ∧ zjL P co s t x d (pw P c k Q) pf else zdW P co ⟨d, .convert s t x, ty, "", #[], none⟩ (pw P c k Q) pf) = _
  rw [if_neg (by simp [ht])]
 rw [e]
 refine zia (o := ⟨d, .convert s t x, ty, "", #[], none⟩) ?_
 simp only [za2, zhA, Option.bind_some]
 cases rdS pf x <;> simp [zaY, ev1]
@[go_sem] theorem zAm {t : Tmp} : zhw (.tmp t) = false := (rfl)
@[go_sem] theorem zAo {j : IntKind} {n : Int} : zhw (.const (.int j n)) = false := (rfl)
@[go_sem ↓] theorem zCw {ty t u : TypeId} {op : BinOp} {x y : Operand} {d : Option Tmp} (hy : zhw y = false) : pw1 P c co ty (.binOp op t x y u) d k Q pf = qv P c co (ev2 (zbG P op t) (rdS pf x) (rdS pf y) pf) d k Q := by
 have e : pw1 P c co ty (.binOp op t x y u) d k Q pf = zdW P co ⟨d, .binOp op t x y u, ty, "", #[], none⟩ (pw P c k Q) pf := by
  show pop P co ⟨d, .binOp op t x y u, ty, "", #[], none⟩ (pw P c k Q) pf = _
  simp only [pop, hy, Bool.false_eq_true, if_false]
 rw [e]
 refine zia (o := ⟨d, .binOp op t x y u, ty, "", #[], none⟩) ?_
 simp only [za2, zhA, Option.bind_some]
 cases rdS pf x <;> cases rdS pf y <;> simp [zaY, ev2]
@[go_sem ↓] theorem zCA {ty t : TypeId} {x y : Operand} {d : Option Tmp} : pw1 P c co ty (.index t x y) d k Q pf = qv P c co (ev2 (zgP P t) (rdS pf x) (rdS pf y) pf) d k Q := by
 refine zia (o := ⟨d, .index t x y, ty, "", #[], none⟩) ?_
 simp only [za2, zhA, Option.bind_some]
 cases rdS pf x <;> cases rdS pf y <;> simp [zaY, ev2]
@[go_sem] theorem zEI {s d : TypeId} {i j k : IntKind} {n : Int} (hs : zdI P s = some i) (hd : zdI P d = some k) : zkT P s d (.int j n) = some (.int k (k.wrap n)) := by
 unfold zkT
 have : ∃ u, P.underlying s = some u := by
  unfold zdI at hs; split at hs
  ·rename_i h; exact ⟨_, h⟩
  ·cases hs
 obtain ⟨u, hu⟩ := this
 rw [hu, hd]
@[go_sem] theorem zGk {j : IntKind} {t : TypeId} {a b : Int} : zbG P .add t (.int j a) (.int j b) = some (.int j (j.wrap (a + b))) := by simp [zbG, zcB]
@[go_sem] theorem zH4 {j : IntKind} {t : TypeId} {a b : Int} : zbG P .sub t (.int j a) (.int j b) = some (.int j (j.wrap (a - b))) := by simp [zbG, zcB]
@[go_sem] theorem zGQ {j : IntKind} {t : TypeId} {a b : Int} : zbG P .mul t (.int j a) (.int j b) = some (.int j (j.wrap (a * b))) := by simp [zbG, zcB]
def zjE (b : Int) (x : Value) : Option Value := if b = 0 then none else some x
@[go_sem] theorem zG3 {j : IntKind} {t : TypeId} {a b : Int} : zbG P .quo t (.int j a) (.int j b) = zjE b (.int j (j.wrap (a.tdiv b))) := by simp [zbG, zcB, zjE]
@[go_sem] theorem zHi {j : IntKind} {t : TypeId} {a b : Int} : zbG P .rem t (.int j a) (.int j b) = zjE b (.int j (a.tmod b)) := by simp [zbG, zcB, zjE]
theorem zrd {b : Int} {x : Value} (h : b ≠ 0) : zjE b x = some x := by simp [zjE, h]
@[go_sem] theorem zGy {j : IntKind} {t : TypeId} {a b : Int} : zbG P .eql t (.int j a) (.int j b) = some (.bool (a == b)) := by simp [zbG, zcB]
@[go_sem] theorem zGw {j : IntKind} {t : TypeId} {a b : Int} : zbG P .neq t (.int j a) (.int j b) = some (.bool (a != b)) := by simp [zbG, zcB]
@[go_sem] theorem zHN {j : IntKind} {t : TypeId} {a b : Int} : zbG P .lss t (.int j a) (.int j b) = some (.bool (decide (a < b))) := by simp [zbG, zcB]
@[go_sem] theorem zHd {j : IntKind} {t : TypeId} {a b : Int} : zbG P .leq t (.int j a) (.int j b) = some (.bool (decide (a ≤ b))) := by simp [zbG, zcB]
@[go_sem] theorem zGx {j : IntKind} {t : TypeId} {a b : Int} : zbG P .gtr t (.int j a) (.int j b) = some (.bool (decide (b < a))) := by simp [zbG, zcB]
@[go_sem] theorem zHl {j : IntKind} {t : TypeId} {a b : Int} : zbG P .geq t (.int j a) (.int j b) = some (.bool (decide (b ≤ a))) := by simp [zbG, zcB]
@[go_sem] theorem zG4 {j : IntKind} {t : TypeId} {a b : Int} : zbG P .and t (.int j a) (.int j b) = some (.int j (j.wrap (BitVec.ofInt j.bits a &&& BitVec.ofInt j.bits b).toNat)) := by simp [zbG, zcB]
def zlD (b : Int) (x : Value) : Option Value := if b < 0 then none else some x
@[go_sem] theorem zGg {j j' : IntKind} {t : TypeId} {a b : Int} : zbG P .shl t (.int j a) (.int j' b) = zlD b (.int j (j.wrap (a * 2 ^ min b.toNat j.bits))) := by simp [zbG, zlD]
@[go_sem] theorem zGP {j j' : IntKind} {t : TypeId} {a b : Int} : zbG P .shr t (.int j a) (.int j' b) = zlD b (.int j (a.fdiv (2 ^ min b.toNat j.bits))) := by simp [zbG, zlD]
theorem zwo {b : Int} {x : Value} (h : 0 ≤ b) : zlD b x = some x := by simp [zlD]; omega
@[go_sem] theorem zFf {t : TypeId} {a b : Bool} (h : zhg P t = true) : zbG P .eql t (.bool a) (.bool b) = some (.bool (a == b)) := by simp [zbG, h]
@[go_sem] theorem zDK {t : TypeId} {a b : Bool} (h : zhg P t = true) : zbG P .neq t (.bool a) (.bool b) = some (.bool (a != b)) := by simp [zbG, h]
@[go_sem] theorem zIU {b : Bool} : unV .not (.bool b) = some (.bool !b) := (rfl)
@[go_sem] theorem zJa {j : IntKind} {n : Int} : unV .neg (.int j n) = some (.int j (j.wrap (0 - n))) := (rfl)
end
end Go.Pm
