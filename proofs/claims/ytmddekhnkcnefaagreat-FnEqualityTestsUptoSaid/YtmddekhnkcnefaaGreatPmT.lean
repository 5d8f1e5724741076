import Derived.Test.YtmddekhnkcnefaaGreatPmS
namespace Go.Pm
open Go.Am
section
variable {P : Program} {c co : Cfg} {k : List PIt} {Q : Exit → PFr → Prop} {pf : PFr}
@[go_sem] theorem zIW {a : Nat} {b f h : List Nat} : Cfg.nohp ⟨a, b, f, h⟩ = ⟨a, b, f, []⟩ := (rfl)
@[go_sem ↓] theorem zC5 {id : Nat} {ops : List Oper} : pw P c (.code (.region id ops.toArray false) :: k) Q pf = pw P c (.ops (ops.map (·.dst)) ops :: k) Q pf := by
 show pwp P c (.region id ops.toArray false) (zbP P c k Q) pf = _
 simp only [pwp, Bool.false_eq_true, if_false]
 rfl
@[go_sem ↓] theorem zBE {pre : List (Option Tmp)} : pw P c (.ops pre [] :: k) Q pf = pw P c k Q pf := rfl
def pw1 (P : Program) (c co : Cfg) (ty : TypeId) (op : Op) (d : Option Tmp) (k : List PIt) (Q : Exit → PFr → Prop) (pf : PFr) : Prop := pop P co ⟨d, op, ty, "", #[], none⟩ (pw P c k Q) pf
theorem zue {o o' : Oper} {K : PFr → Prop} (h : o.op = o'.op) (hd : o.dst = o'.dst) (ht : o.type = o'.type) : pop P c o K pf = pop P c o' K pf := by
 obtain ⟨d, op, ty, ps, af, g⟩ := o
 obtain ⟨d', op', ty', ps', af', g'⟩ := o'
 simp only at h hd ht
 subst h; subst hd; subst ht
 rfl
@[go_sem ↓] theorem zMM {pre : List (Option Tmp)} {d : Option Tmp} {op : Op} {ty : TypeId} {ps : String} {af : Array Edge} {l : List Oper} :
 pw P c (.ops pre (⟨d, op, ty, ps, af, none⟩ :: l) :: k) Q pf = pw1 P c c ty op d (.ops pre l :: k) Q pf := by
 show zlD P c pre ⟨d, op, ty, ps, af, none⟩ (pw P c (.ops pre l :: k) Q) pf = _
 simp only [zlD]
 exact zue rfl rfl rfl
def pwg (P : Program) (c : Cfg) (y : Option (Option Bool)) (b : Bool) (ty : TypeId) (op : Op) (d : Option Tmp) (k : List PIt) (Q : Exit → PFr → Prop) (pf : PFr) : Prop :=
 pgo c b d (pw1 P c c ty op d k Q pf) (pw P c k Q) pf y
theorem ztv {y y' : Option (Option Bool)} {b : Bool} {ty : TypeId} {op : Op} {d : Option Tmp} (h : y = y') : pwg P c y b ty op d k Q pf = pwg P c y' b ty op d k Q pf := by rw [h]
@[go_sem ↓] theorem zJ9 {pre : List (Option Tmp)} {d : Option Tmp} {op : Op} {ty : TypeId} {ps : String} {af : Array Edge} {j : Nat} {b : Bool} {l : List Oper} :
 pw P c (.ops pre (⟨d, op, ty, ps, af, some (j, b)⟩ :: l) :: k) Q pf = pwg P c (ygP pf pre[j]?) b ty op d (.ops pre l :: k) Q pf := by
 show zlD P c pre ⟨d, op, ty, ps, af, some (j, b)⟩ (pw P c (.ops pre l :: k) Q) pf = _
 simp only [zlD]
 unfold pwg pw1
 rw [zue (o := ⟨d, op, ty, ps, af, some (j, b)⟩) (o' := ⟨d, op, ty, "", #[], none⟩) rfl rfl rfl]
@[go_sem] theorem zDV {d : Tmp} : ygP pf (some (some d)) = ygV (pf d) := (rfl)
@[go_sem] theorem zF2 {b : Bool} : ygV (.v (.bool b)) = some (some b) := (rfl)
@[go_sem] theorem zF0 : ygV .skip = some none := (rfl)
@[go_sem ↓] theorem zLo {ty : TypeId} {op : Op} {d : Option Tmp} : pwg P c (some (some true)) true ty op d k Q pf = pw1 P c c ty op d k Q pf := by simp [pwg, pgo]
@[go_sem ↓] theorem zKj {ty : TypeId} {op : Op} {d : Option Tmp} : pwg P c (some (some false)) false ty op d k Q pf = pw1 P c c ty op d k Q pf := by simp [pwg, pgo]
@[go_sem ↓] theorem zKa {ty : TypeId} {op : Op} {d : Tmp} (h : ckd c d .skip = true) : pwg P c (some (some true)) false ty op (some d) k Q pf = pw P c k Q (pf.put d .skip) := by simp [pwg, pgo, zig, h]
@[go_sem ↓] theorem zKQ {ty : TypeId} {op : Op} {d : Tmp} (h : ckd c d .skip = true) : pwg P c (some (some false)) true ty op (some d) k Q pf = pw P c k Q (pf.put d .skip) := by simp [pwg, pgo, zig, h]
@[go_sem ↓] theorem zMU {b : Bool} {ty : TypeId} {op : Op} {d : Tmp} (h : ckd c d .skip = true) : pwg P c (some none) b ty op (some d) k Q pf = pw P c k Q (pf.put d .skip) := by simp [pwg, pgo, zig, h]
theorem zuZ {y b : Bool} {ty : TypeId} {op : Op} {d : Option Tmp} (h1 : y = true → pwg P c (some (some true)) b ty op d k Q pf) (h2 : y = false → pwg P c (some (some false)) b ty op d k Q pf) : pwg P c (some (some y)) b ty op d k Q pf := by
 cases y
 ·exact h2 rfl
 ·exact h1 rfl
def qv (P : Program) (c co : Cfg) (x : Option (PF × PFr)) (d : Option Tmp) (k : List PIt) (Q : Exit → PFr → Prop) : Prop :=
 match x with
 | some a => zbE co (pw P c k Q) d a.1 a.2
 | none => False
def qz (P : Program) (c : Cfg) (d : Nat) (k : List PIt) (Q : Exit → PFr → Prop) (x : Option (PF × PFr)) : Prop := pfz (pw P c k Q) d x
theorem zvA {x x' : Option (PF × PFr)} {d : Option Tmp} (h : x = x') : qv P c co x d k Q = qv P c co x' d k Q := by rw [h]
theorem zvq {x x' : Option (PF × PFr)} {d : Nat} (h : x = x') : qz P c d k Q x = qz P c d k Q x' := by rw [h]
@[go_sem ↓] theorem zHw {y : PF} {d : Tmp} (h : ckd co d y = true) (hf : co.fz.contains d = false) : qv P c co (some (y, pf)) (some d) k Q = pw P c k Q (pf.put d y) := by simp only [qv, zbE, h, hf]; simp
@[go_sem ↓] theorem zLO {y : PF} {d : Tmp} (h : ckd co d y = true) (hf : co.fz.contains d = true) : qv P c co (some (y, pf)) (some d) k Q = qz P c d k Q (zoc pf y) := by simp only [qv, zbE, h, hf]; simp [qz]
@[go_sem ↓] theorem zKH {y : PF} : qv P c co (some (y, pf)) none k Q = pw P c k Q pf := rfl
@[go_sem ↓] theorem zI5 {y : PF} {d : Nat} : qz P c d k Q (some (y, pf)) = pw P c k Q (pf.put d y) := rfl
def qf (P : Program) (c : Cfg) (x : Option PFr) (k : List PIt) (Q : Exit → PFr → Prop) : Prop :=
 match x with
 | some pf => pw P c k Q pf
 | none => False
theorem zvB {x x' : Option PFr} (h : x = x') : qf P c x k Q = qf P c x' k Q := by rw [h]
@[go_sem ↓] theorem zIb : qf P c (some pf) k Q = pw P c k Q pf := rfl
attribute [congr] zvM ztv zvA zvq zvB
@[go_sem] theorem zKO {d : Nat} {y : PF} : ckd c d y = (decide (d < c.nt) && !c.io.contains d && !(zar y == some d)) := (rfl)
@[go_sem] theorem zIC {x : PV} : zar (.v x) = none := (rfl)
@[go_sem] theorem zAn : zar .skip = none := (rfl)
@[go_sem] theorem zGS {s i j : Nat} {p : zae} : zar (.pt s p i j) = some s := (rfl)
@[go_sem] theorem zFJ {s : Nat} {p : zae} : zar (.rf s p) = some s := (rfl)
@[go_sem] theorem zE8 {b : Bool} {s i j n : Nat} {p : zae} : zar (.as b s p i j n) = some s := (rfl)
@[go_sem] theorem zFO {s i j n : Nat} {p : zae} : zar (.ra s p i j n) = some s := (rfl)
@[go_sem] theorem zH5 {d t : Nat} {x : PF} : PFr.put pf d x t = if t = d then x else zb7 d (pf t) := (rfl)
@[go_sem] theorem zJV {d t : Nat} {x : PF} : PFr.upd pf d x t = if t = d then x else pf t := (rfl)
@[go_sem] theorem zF1 {s n t : Nat} : PFr.kill pf s n t = zbr s n (pf t) := (rfl)
@[go_sem] theorem zIN {d : Nat} {x : PV} : zb7 d (.v x) = .v x := (rfl)
@[go_sem] theorem zBk {d : Nat} : zb7 d .skip = .skip := (rfl)
@[go_sem] theorem zEW {d es : Nat} {r : List (List PV)} : zb7 d (.ls es r) = .ls es r := (rfl)
@[go_sem] theorem zEc {d : Nat} {r : List PV} : zb7 d (.bl r) = .bl r := (rfl)
@[go_sem] theorem zF5 {d s i j : Nat} {p : zae} : zb7 d (.pt s p i j) = if s = d then jP else .pt s p i j := by simp [zb7, zar]
@[go_sem] theorem zFv {d s : Nat} {p : zae} : zb7 d (.rf s p) = if s = d then jP else .rf s p := by simp [zb7, zar]
@[go_sem] theorem zEt {b : Bool} {d s i j n : Nat} {p : zae} : zb7 d (.as b s p i j n) = if s = d then jP else .as b s p i j n := by simp [zb7, zar]
@[go_sem] theorem zEf {d s i j n : Nat} {p : zae} : zb7 d (.ra s p i j n) = if s = d then jP else .ra s p i j n := by simp [zb7, zar]
@[go_sem] theorem zJJ {d : Nat} : zb7 d jP = jP := (rfl)
@[go_sem] theorem zH8 {s n : Nat} {x : PV} : zbr s n (.v x) = .v x := by simp [zbr, zar]
@[go_sem] theorem zEZ {s n es : Nat} {r : List (List PV)} : zbr s n (.ls es r) = .ls es r := by simp [zbr, zar]
@[go_sem] theorem zEk {s n : Nat} {r : List PV} : zbr s n (.bl r) = .bl r := by simp [zbr, zar]
@[go_sem] theorem zD3 {s n s' i j : Nat} {p : zae} : zbr s n (.pt s' p i j) = if s' = s ∧ n ≤ p.length then jP else .pt s' p i j := by simp [zbr, zar, zgr]
@[go_sem] theorem zEm {s n s' : Nat} {p : zae} : zbr s n (.rf s' p) = if s' = s ∧ n ≤ p.length then jP else .rf s' p := by simp [zbr, zar, zgr]
@[go_sem] theorem zFP {b : Bool} {s n s' i j m : Nat} {p : zae} : zbr s n (.as b s' p i j m) = if s' = s ∧ n ≤ p.length + 1 then jP else .as b s' p i j m := by simp [zbr, zar, zgr]
@[go_sem] theorem zGk {s : Nat} {x : PF} {l : List (Nat × PF)} {t : Nat} : PFr.ofL ((s, x) :: l) t = if t = s then x else PFr.ofL l t := (rfl)
@[go_sem] theorem zJB {t : Nat} : PFr.ofL [] t = jP := (rfl)
@[go_sem] theorem zDv {as : List (Md × PV)} {t : Nat} : zgH as t = zql as[t]? := (rfl)
@[go_sem] theorem zDk {m : Md} {x : PV} : zql (some (m, x)) = .v x := (rfl)
@[go_sem] theorem zFT {b : Bool} : isJ (.bool b) = false := (rfl)
@[go_sem] theorem zIA {j : IntKind} {n : Int} : isJ (.int j n) = false := (rfl)
@[go_sem] theorem zJG {s : ByteArray} : isJ (.str s) = false := (rfl)
@[go_sem] theorem zKe {o : Bool} {es : Nat} {r : List (List PV)} : isJ (.sl o es r) = false := (rfl)
@[go_sem] theorem zK7 {r : List PV} : isJ (.fp r) = false := (rfl)
@[go_sem] theorem zKW {r : List PV} : isJ (.bx r) = false := (rfl)
@[go_sem] theorem zD9 {f : Fn} {a b : List PV} : isJ (.func f a b) = false := (rfl)
@[go_sem] theorem zJt {r : List PV} : isJ (.agg r) = false := (rfl)
@[go_sem] theorem zHT {r : List PV} : isJ (.tup r) = false := (rfl)
@[go_sem] theorem zCO {b : Bool} : zaH (.bool b) = false := by simp [zaH]
@[go_sem] theorem zGi {j : IntKind} {n : Int} : zaH (.int j n) = false := by simp [zaH]
@[go_sem] theorem zEE {s : ByteArray} : zaH (.str s) = false := by simp [zaH]
@[go_sem] theorem zCD {f : Fn} {a b : List PV} : zaH (.func f a b) = false := by simp [zaH]
attribute [go_sem] zio zr1 zgO zpR zhG zos zms zpZ zmN zqH zoX zoT
@[go_sem] theorem zDh {b : Bool} : drop (.bool b) = .bool b := by simp [drop]
@[go_sem] theorem zDW {j : IntKind} {n : Int} : drop (.int j n) = .int j n := by simp [drop]
@[go_sem] theorem zGN {s : ByteArray} : drop (.str s) = .str s := by simp [drop]
@[go_sem] theorem zCA {f : Fn} {a b : List PV} : drop (.func f a b) = .func f a b := by simp [drop]
@[go_sem] theorem zJg : zbb .junk = true := by simp [zbb]
@[go_sem] theorem zBv {b : Bool} : zbb (.bool b) = true := by simp [zbb]
@[go_sem] theorem zC3 {j : IntKind} {n : Int} : zbb (.int j n) = true := by simp [zbb]
@[go_sem] theorem zAm {j : IntKind} {n : Int} : zhr (.int j n) = true := (rfl)
@[go_sem] theorem zzM {b : Bool} : zhr (.bool b) = true := (rfl)
@[go_sem] theorem zCE {o : Bool} {es : Nat} {r : List (List PV)} : zhr (.sl o es r) = true := (rfl)
@[go_sem] theorem zzH {j : IntKind} {n : Int} : zct (.int j n) = true := (rfl)
@[go_sem] theorem zxX {b : Bool} : zct (.bool b) = true := (rfl)
@[go_sem] theorem zAP {o : Bool} {es : Nat} {r : List (List PV)} : zct (.sl o es r) = true := (rfl)
@[go_sem] theorem zzF {r : List PV} : zct (.agg r) = true := (rfl)
@[go_sem] theorem zyp {f : Fn} {a b : List PV} : zct (.func f a b) = true := (rfl)
@[go_sem] theorem zz6 {j : IntKind} {n : Int} : zaA (.int j n) = [.int j n] := (rfl)
@[go_sem] theorem zzJ {b : Bool} : zaA (.bool b) = [.bool b] := (rfl)
@[go_sem] theorem zCK {o : Bool} {es : Nat} {r : List (List PV)} : zaA (.sl o es r) = [.sl o es r] := (rfl)
@[go_sem] theorem zBu {r : List PV} : zaA (.agg r) = r := (rfl)
@[go_sem] theorem zzK {f : Fn} {a b : List PV} : zaA (.func f a b) = [.func f a b] := (rfl)
@[go_sem] theorem zC8 {e : Nat} {b : Bool} : zgX e (.bool b) = .bool b := (rfl)
@[go_sem] theorem zGm {e : Nat} {j : IntKind} {n : Int} : zgX e (.int j n) = .int j n := (rfl)
@[go_sem] theorem zEV {e : Nat} {s : ByteArray} : zgX e (.string s) = .str s := (rfl)
@[go_sem] theorem zGl {e : Nat} : zgX e (.slice none 0 0) = .sl true e [] := (rfl)
@[go_sem] theorem zJv {j : IntKind} {n : Int} : zan (.int j n) = true := (rfl)
@[go_sem] theorem zEX {b : Bool} : zan (.bool b) = true := (rfl)
@[go_sem] theorem zHK {b : ByteArray} : zan (.string b) = true := (rfl)
@[go_sem] theorem zHt : zan (.slice none 0 0) = true := (rfl)
@[go_sem] theorem zHS {t : Tmp} : rdS pf (.tmp t) = zn3 (pf t) := (rfl)
@[go_sem] theorem zLg {x : PV} : zn3 (.v x) = toS x := (rfl)
@[go_sem] theorem zCJ : zn3 .skip = none := (rfl)
@[go_sem] theorem zGo {b : Bool} : toS (.bool b) = some (.bool b) := (rfl)
@[go_sem] theorem zIi {j : IntKind} {n : Int} : toS (.int j n) = some (.int j n) := (rfl)
@[go_sem] theorem zHW {s : ByteArray} : toS (.str s) = some (.string s) := (rfl)
@[go_sem] theorem zIV {l : List PV} : toS (.agg l) = (zkJ l).map fun l => .agg l.toArray := (rfl)
@[go_sem] theorem zHg : zkJ [] = some [] := (rfl)
@[go_sem] theorem zGt {j : IntKind} {n : Int} {r : List PV} : zkJ (.int j n :: r) = (zkJ r).map fun l => .int j n :: l := (rfl)
@[go_sem] theorem zHV {j : IntKind} {n : Int} : rdS pf (.const (.int j n)) = some (.int j n) := (rfl)
@[go_sem] theorem zDS {b : Bool} : rdS pf (.const (.bool b)) = some (.bool b) := (rfl)
@[go_sem] theorem zz7 {b : Bool} : ze3 (.bool b) = some (.bool b) := (rfl)
def ev1 (f : Value → Option Value) (x : Option Value) (pf : PFr) : Option (PF × PFr) := (x.bind fun a => (f a).bind ze3).map fun y => (.v y, pf)
def ev2 (f : Value → Value → Option Value) (x y : Option Value) (pf : PFr) : Option (PF × PFr) := (x.bind fun a => y.bind fun b => (f a b).bind ze3).map fun y => (.v y, pf)
def fin (x : Option Value) (pf : PFr) : Option (PF × PFr) := (x.bind ze3).map fun y => (.v y, pf)
@[go_sem] theorem zGr {f : Value → Option Value} {a : Value} : ev1 f (some a) pf = fin (f a) pf := (rfl)
@[go_sem] theorem zGQ {f : Value → Value → Option Value} {a b : Value} : ev2 f (some a) (some b) pf = fin (f a b) pf := (rfl)
@[go_sem] theorem zFQ {b : Bool} : fin (some (.bool b)) pf = some (.v (.bool b), pf) := (rfl)
@[go_sem] theorem zIw {j : IntKind} {n : Int} : fin (some (.int j n)) pf = some (.v (.int j n), pf) := (rfl)
theorem ziU {o : Oper} {x : Option (PF × PFr)} (h : (((za7 o.op).bind (zh8 pf)).bind fun vs => (za1 P o.op vs).bind ze3).map (fun y => (PF.v y, pf)) = x) : zer P co o (pw P c k Q) pf = qv P c co x o.dst k Q := by
 subst h
 unfold zer
 cases (za7 o.op).bind (zh8 pf) with
 | none => rfl
 | some vs =>
  simp only [Option.bind_some]
  cases (za1 P o.op vs).bind ze3 <;> rfl
@[go_sem ↓] theorem zGD {ty t : TypeId} {op : UnOp} {x : Operand} {d : Option Tmp} : pw1 P c co ty (.unOp op t x) d k Q pf = qv P c co (ev1 (unV op) (rdS pf x) pf) d k Q := by
 refine ziU (o := ⟨d, .unOp op t x, ty, "", #[], none⟩) ?_
 simp only [za7, zh8, Option.bind_some]
 cases rdS pf x <;> simp [za1, ev1]
@[go_sem ↓] theorem zzI {ty s t : TypeId} {x : Operand} {d : Option Tmp} (ht : zaO P t = false) : pw1 P c co ty (.convert s t x) d k Q pf = qv P c co (ev1 (zlO P s t) (rdS pf x) pf) d k Q := by
 have e : pw1 P c co ty (.convert s t x) d k Q pf = zer P co ⟨d, .convert s t x, ty, "", #[], none⟩ (pw P c k Q) pf := by
  show (if zaO P t = true then (co.hp ≠ [] ∨ lsP pf x = true) ∧ zkt P co s t x d (pw P c k Q) pf else zer P co ⟨d, .convert s t x, ty, "", #[], none⟩ (pw P c k Q) pf) = _
  rw [if_neg (by simp [ht])]
 rw [e]
 refine ziU (o := ⟨d, .convert s t x, ty, "", #[], none⟩) ?_
 simp only [za7, zh8, Option.bind_some]
 cases rdS pf x <;> simp [za1, ev1]
@[go_sem] theorem zB0 {t : Tmp} : zh0 (.tmp t) = false := (rfl)
@[go_sem] theorem zCn {j : IntKind} {n : Int} : zh0 (.const (.int j n)) = false := (rfl)
@[go_sem ↓] theorem zCZ {ty t u : TypeId} {op : BinOp} {x y : Operand} {d : Option Tmp} (hy : zh0 y = false) : pw1 P c co ty (.binOp op t x y u) d k Q pf = qv P c co (ev2 (zbB P op t) (rdS pf x) (rdS pf y) pf) d k Q := by
 have e : pw1 P c co ty (.binOp op t x y u) d k Q pf = zer P co ⟨d, .binOp op t x y u, ty, "", #[], none⟩ (pw P c k Q) pf := by
  show pop P co ⟨d, .binOp op t x y u, ty, "", #[], none⟩ (pw P c k Q) pf = _
  simp only [pop, hy, Bool.false_eq_true, if_false]
 rw [e]
 refine ziU (o := ⟨d, .binOp op t x y u, ty, "", #[], none⟩) ?_
 simp only [za7, zh8, Option.bind_some]
 cases rdS pf x <;> cases rdS pf y <;> simp [za1, ev2]
@[go_sem ↓] theorem zCQ {ty t : TypeId} {x y : Operand} {d : Option Tmp} : pw1 P c co ty (.index t x y) d k Q pf = qv P c co (ev2 (zhh P t) (rdS pf x) (rdS pf y) pf) d k Q := by
 refine ziU (o := ⟨d, .index t x y, ty, "", #[], none⟩) ?_
 simp only [za7, zh8, Option.bind_some]
 cases rdS pf x <;> cases rdS pf y <;> simp [za1, ev2]
@[go_sem] theorem zEz {s d : TypeId} {i j k : IntKind} {n : Int} (hs : zec P s = some i) (hd : zec P d = some k) : zlO P s d (.int j n) = some (.int k (k.wrap n)) := by
 unfold zlO
 have : ∃ u, P.underlying s = some u := by
  unfold zec at hs; split at hs
  ·rename_i h; exact ⟨_, h⟩
  ·cases hs
 obtain ⟨u, hu⟩ := this
 rw [hu, hd]
@[go_sem] theorem zJd {j : IntKind} {t : TypeId} {a b : Int} : zbB P .add t (.int j a) (.int j b) = some (.int j (j.wrap (a + b))) := by simp [zbB, zcO]
@[go_sem] theorem zJa {j : IntKind} {t : TypeId} {a b : Int} : zbB P .sub t (.int j a) (.int j b) = some (.int j (j.wrap (a - b))) := by simp [zbB, zcO]
@[go_sem] theorem zI7 {j : IntKind} {t : TypeId} {a b : Int} : zbB P .mul t (.int j a) (.int j b) = some (.int j (j.wrap (a * b))) := by simp [zbB, zcO]
def zkj (b : Int) (x : Value) : Option Value := if b = 0 then none else some x
@[go_sem] theorem zHB {j : IntKind} {t : TypeId} {a b : Int} : zbB P .quo t (.int j a) (.int j b) = zkj b (.int j (j.wrap (a.tdiv b))) := by simp [zbB, zcO, zkj]
@[go_sem] theorem zIo {j : IntKind} {t : TypeId} {a b : Int} : zbB P .rem t (.int j a) (.int j b) = zkj b (.int j (a.tmod b)) := by simp [zbB, zcO, zkj]
theorem zrH {b : Int} {x : Value} (h : b ≠ 0) : zkj b x = some x := by simp [zkj, h]
@[go_sem] theorem zJN {j : IntKind} {t : TypeId} {a b : Int} : zbB P .eql t (.int j a) (.int j b) = some (.bool (a == b)) := by simp [zbB, zcO]
@[go_sem] theorem zIf {j : IntKind} {t : TypeId} {a b : Int} : zbB P .neq t (.int j a) (.int j b) = some (.bool (a != b)) := by simp [zbB, zcO]
@[go_sem] theorem zHy {j : IntKind} {t : TypeId} {a b : Int} : zbB P .lss t (.int j a) (.int j b) = some (.bool (decide (a < b))) := by simp [zbB, zcO]
@[go_sem] theorem zIc {j : IntKind} {t : TypeId} {a b : Int} : zbB P .leq t (.int j a) (.int j b) = some (.bool (decide (a ≤ b))) := by simp [zbB, zcO]
@[go_sem] theorem zHP {j : IntKind} {t : TypeId} {a b : Int} : zbB P .gtr t (.int j a) (.int j b) = some (.bool (decide (b < a))) := by simp [zbB, zcO]
@[go_sem] theorem zIh {j : IntKind} {t : TypeId} {a b : Int} : zbB P .geq t (.int j a) (.int j b) = some (.bool (decide (b ≤ a))) := by simp [zbB, zcO]
@[go_sem] theorem zJc {j : IntKind} {t : TypeId} {a b : Int} : zbB P .and t (.int j a) (.int j b) = some (.int j (j.wrap (BitVec.ofInt j.bits a &&& BitVec.ofInt j.bits b).toNat)) := by simp [zbB, zcO]
def zmG (b : Int) (x : Value) : Option Value := if b < 0 then none else some x
@[go_sem] theorem zHQ {j j' : IntKind} {t : TypeId} {a b : Int} : zbB P .shl t (.int j a) (.int j' b) = zmG b (.int j (j.wrap (a * 2 ^ min b.toNat j.bits))) := by simp [zbB, zmG]
@[go_sem] theorem zJT {j j' : IntKind} {t : TypeId} {a b : Int} : zbB P .shr t (.int j a) (.int j' b) = zmG b (.int j (a.fdiv (2 ^ min b.toNat j.bits))) := by simp [zbB, zmG]
theorem zwG {b : Int} {x : Value} (h : 0 ≤ b) : zmG b x = some x := by simp [zmG]; omega
@[go_sem] theorem zDG {t : TypeId} {a b : Bool} (h : ziG P t = true) : zbB P .neq t (.bool a) (.bool b) = some (.bool (a != b)) := by simp [zbB, h]
@[go_sem] theorem zE0 {t : TypeId} {a b : List Value} {o : List Nat} (h : zkH P t = some o) : zbB P .eql t (.agg a.toArray) (.agg b.toArray) = (eqL a b o).map .bool := by simp [zbB, h]
@[go_sem] theorem zHe {t : TypeId} {a b : List Value} {o : List Nat} (h : zkH P t = some o) : zbB P .neq t (.agg a.toArray) (.agg b.toArray) = (eqL a b o).map fun r => .bool !r := by simp [zbB, h]
@[go_sem] theorem zLF {j i : IntKind} {a b x y : Int} : eqL [.int j a, .int i b] [.int j x, .int i y] [0, 1] = some (a == x && b == y) := by simp [eqL]
@[go_sem] theorem zKE {b : Bool} : unV .not (.bool b) = some (.bool !b) := (rfl)
@[go_sem] theorem zJ0 {j : IntKind} {n : Int} : unV .neg (.int j n) = some (.int j (j.wrap (0 - n))) := (rfl)
end
end Go.Pm
