import Derived.Test.YtikiohlamlipnaaGreatPmS
namespace Go.Pm
open Go.Am
section
variable {P : Program} {c co : Cfg} {k : List PIt} {Q : Exit → PFr → Prop} {pf : PFr}
@[go_sem] theorem zAv {a : Nat} {b f h : List Nat} : Cfg.nohp ⟨a, b, f, h⟩ = ⟨a, b, f, []⟩ := (rfl)
@[go_sem ↓] theorem zwz {id : Nat} {ops : List Oper} : pw P c (.code (.region id ops.toArray false) :: k) Q pf = pw P c (.ops (ops.map (·.dst)) ops :: k) Q pf := by
 show pwp P c (.region id ops.toArray false) (zbq P c k Q) pf = _
 simp only [pwp, Bool.false_eq_true, if_false]
 rfl
@[go_sem ↓] theorem zvF {pre : List (Option Tmp)} : pw P c (.ops pre [] :: k) Q pf = pw P c k Q pf := rfl
def pw1 (P : Program) (c co : Cfg) (ty : TypeId) (op : Op) (d : Option Tmp) (k : List PIt) (Q : Exit → PFr → Prop) (pf : PFr) : Prop := pop P co ⟨d, op, ty, "", #[], none⟩ (pw P c k Q) pf
theorem zp1 {o o' : Oper} {K : PFr → Prop} (h : o.op = o'.op) (hd : o.dst = o'.dst) (ht : o.type = o'.type) : pop P c o K pf = pop P c o' K pf := by
 obtain ⟨d, op, ty, ps, af, g⟩ := o
 obtain ⟨d', op', ty', ps', af', g'⟩ := o'
 simp only at h hd ht
 subst h; subst hd; subst ht
 rfl
@[go_sem ↓] theorem zED {pre : List (Option Tmp)} {d : Option Tmp} {op : Op} {ty : TypeId} {ps : String} {af : Array Edge} {l : List Oper} :
 pw P c (.ops pre (⟨d, op, ty, ps, af, none⟩ :: l) :: k) Q pf = pw1 P c c ty op d (.ops pre l :: k) Q pf := by
 show ziG P c pre ⟨d, op, ty, ps, af, none⟩ (pw P c (.ops pre l :: k) Q) pf = _
 simp only [ziG]
 exact zp1 rfl rfl rfl
def pwg (P : Program) (c : Cfg) (y : Option (Option Bool)) (b : Bool) (ty : TypeId) (op : Op) (d : Option Tmp) (k : List PIt) (Q : Exit → PFr → Prop) (pf : PFr) : Prop :=
 pgo c b d (pw1 P c c ty op d k Q pf) (pw P c k Q) pf y
theorem zpJ {y y' : Option (Option Bool)} {b : Bool} {ty : TypeId} {op : Op} {d : Option Tmp} (h : y = y') : pwg P c y b ty op d k Q pf = pwg P c y' b ty op d k Q pf := by rw [h]
@[go_sem ↓] theorem zCK {pre : List (Option Tmp)} {d : Option Tmp} {op : Op} {ty : TypeId} {ps : String} {af : Array Edge} {j : Nat} {b : Bool} {l : List Oper} :
 pw P c (.ops pre (⟨d, op, ty, ps, af, some (j, b)⟩ :: l) :: k) Q pf = pwg P c (ygP pf pre[j]?) b ty op d (.ops pre l :: k) Q pf := by
 show ziG P c pre ⟨d, op, ty, ps, af, some (j, b)⟩ (pw P c (.ops pre l :: k) Q) pf = _
 simp only [ziG]
 unfold pwg pw1
 rw [zp1 (o := ⟨d, op, ty, ps, af, some (j, b)⟩) (o' := ⟨d, op, ty, "", #[], none⟩) rfl rfl rfl]
@[go_sem] theorem zxw {d : Tmp} : ygP pf (some (some d)) = ygV (pf d) := (rfl)
@[go_sem] theorem zxN {b : Bool} : ygV (.v (.bool b)) = some (some b) := (rfl)
@[go_sem] theorem zzW : ygV .skip = some none := (rfl)
@[go_sem ↓] theorem zCC {ty : TypeId} {op : Op} {d : Option Tmp} : pwg P c (some (some true)) true ty op d k Q pf = pw1 P c c ty op d k Q pf := by simp [pwg, pgo]
@[go_sem ↓] theorem zDi {ty : TypeId} {op : Op} {d : Option Tmp} : pwg P c (some (some false)) false ty op d k Q pf = pw1 P c c ty op d k Q pf := by simp [pwg, pgo]
@[go_sem ↓] theorem zCU {ty : TypeId} {op : Op} {d : Tmp} (h : ckd c d .skip = true) : pwg P c (some (some true)) false ty op (some d) k Q pf = pw P c k Q (pf.put d .skip) := by simp [pwg, pgo, zf8, h]
@[go_sem ↓] theorem zDv {ty : TypeId} {op : Op} {d : Tmp} (h : ckd c d .skip = true) : pwg P c (some (some false)) true ty op (some d) k Q pf = pw P c k Q (pf.put d .skip) := by simp [pwg, pgo, zf8, h]
@[go_sem ↓] theorem zDX {b : Bool} {ty : TypeId} {op : Op} {d : Tmp} (h : ckd c d .skip = true) : pwg P c (some none) b ty op (some d) k Q pf = pw P c k Q (pf.put d .skip) := by simp [pwg, pgo, zf8, h]
theorem zpW {y b : Bool} {ty : TypeId} {op : Op} {d : Option Tmp} (h1 : y = true → pwg P c (some (some true)) b ty op d k Q pf) (h2 : y = false → pwg P c (some (some false)) b ty op d k Q pf) : pwg P c (some (some y)) b ty op d k Q pf := by
 cases y
 ·exact h2 rfl
 ·exact h1 rfl
def qv (P : Program) (c co : Cfg) (x : Option (PF × PFr)) (d : Option Tmp) (k : List PIt) (Q : Exit → PFr → Prop) : Prop :=
 match x with
 | some a => zbi co (pw P c k Q) d a.1 a.2
 | none => False
def qz (P : Program) (c : Cfg) (d : Nat) (k : List PIt) (Q : Exit → PFr → Prop) (x : Option (PF × PFr)) : Prop := pfz (pw P c k Q) d x
theorem zru {x x' : Option (PF × PFr)} {d : Option Tmp} (h : x = x') : qv P c co x d k Q = qv P c co x' d k Q := by rw [h]
theorem zrJ {x x' : Option (PF × PFr)} {d : Nat} (h : x = x') : qz P c d k Q x = qz P c d k Q x' := by rw [h]
@[go_sem ↓] theorem zBd {y : PF} {d : Tmp} (h : ckd co d y = true) (hf : co.fz.contains d = false) : qv P c co (some (y, pf)) (some d) k Q = pw P c k Q (pf.put d y) := by simp only [qv, zbi, h, hf]; simp
@[go_sem ↓] theorem zEJ {y : PF} {d : Tmp} (h : ckd co d y = true) (hf : co.fz.contains d = true) : qv P c co (some (y, pf)) (some d) k Q = qz P c d k Q (zkD pf y) := by simp only [qv, zbi, h, hf]; simp [qz]
@[go_sem ↓] theorem zDd {y : PF} : qv P c co (some (y, pf)) none k Q = pw P c k Q pf := rfl
@[go_sem ↓] theorem zAY {y : PF} {d : Nat} : qz P c d k Q (some (y, pf)) = pw P c k Q (pf.put d y) := rfl
def qf (P : Program) (c : Cfg) (x : Option PFr) (k : List PIt) (Q : Exit → PFr → Prop) : Prop :=
 match x with
 | some pf => pw P c k Q pf
 | none => False
theorem zra {x x' : Option PFr} (h : x = x') : qf P c x k Q = qf P c x' k Q := by rw [h]
@[go_sem ↓] theorem zCg : qf P c (some pf) k Q = pw P c k Q pf := rfl
attribute [congr] zq4 zpJ zru zrJ zra
@[go_sem] theorem zCD {d : Nat} {y : PF} : ckd c d y = (decide (d < c.nt) && !c.io.contains d && !(zao y == some d)) := (rfl)
@[go_sem] theorem zB0 {x : PV} : zao (.v x) = none := (rfl)
@[go_sem] theorem zvO : zao .skip = none := (rfl)
@[go_sem] theorem zzS {s i j : Nat} {p : zac} : zao (.pt s p i j) = some s := (rfl)
@[go_sem] theorem zzf {s : Nat} {p : zac} : zao (.rf s p) = some s := (rfl)
@[go_sem] theorem zzI {b : Bool} {s i j n : Nat} {p : zac} : zao (.as b s p i j n) = some s := (rfl)
@[go_sem] theorem zx6 {s i j n : Nat} {p : zac} : zao (.ra s p i j n) = some s := (rfl)
@[go_sem] theorem zCi {d t : Nat} {x : PF} : PFr.put pf d x t = if t = d then x else zbR d (pf t) := (rfl)
@[go_sem] theorem zCv {d t : Nat} {x : PF} : PFr.upd pf d x t = if t = d then x else pf t := (rfl)
@[go_sem] theorem zze {s n t : Nat} : PFr.kill pf s n t = za9 s n (pf t) := (rfl)
@[go_sem] theorem zAo {d : Nat} {x : PV} : zbR d (.v x) = .v x := (rfl)
@[go_sem] theorem zvu {d : Nat} : zbR d .skip = .skip := (rfl)
@[go_sem] theorem zyV {d es : Nat} {r : List (List PV)} : zbR d (.ls es r) = .ls es r := (rfl)
@[go_sem] theorem zAb {d : Nat} {r : List PV} : zbR d (.bl r) = .bl r := (rfl)
@[go_sem] theorem zyN {d s i j : Nat} {p : zac} : zbR d (.pt s p i j) = if s = d then jP else .pt s p i j := by simp [zbR, zao]
@[go_sem] theorem zyg {d s : Nat} {p : zac} : zbR d (.rf s p) = if s = d then jP else .rf s p := by simp [zbR, zao]
@[go_sem] theorem zz9 {b : Bool} {d s i j n : Nat} {p : zac} : zbR d (.as b s p i j n) = if s = d then jP else .as b s p i j n := by simp [zbR, zao]
@[go_sem] theorem zAG {d : Nat} : zbR d jP = jP := (rfl)
@[go_sem] theorem zAS {s n : Nat} {x : PV} : za9 s n (.v x) = .v x := by simp [za9, zao]
@[go_sem] theorem zzs {s n es : Nat} {r : List (List PV)} : za9 s n (.ls es r) = .ls es r := by simp [za9, zao]
@[go_sem] theorem zyy {s n : Nat} {r : List PV} : za9 s n (.bl r) = .bl r := by simp [za9, zao]
@[go_sem] theorem zzE {s n s' i j : Nat} {p : zac} : za9 s n (.pt s' p i j) = if s' = s ∧ n ≤ p.length then jP else .pt s' p i j := by simp [za9, zao, zeI]
@[go_sem] theorem zya {s n s' : Nat} {p : zac} : za9 s n (.rf s' p) = if s' = s ∧ n ≤ p.length then jP else .rf s' p := by simp [za9, zao, zeI]
@[go_sem] theorem zzN {b : Bool} {s n s' i j m : Nat} {p : zac} : za9 s n (.as b s' p i j m) = if s' = s ∧ n ≤ p.length + 1 then jP else .as b s' p i j m := by simp [za9, zao, zeI]
@[go_sem] theorem zzh {s : Nat} {x : PF} {l : List (Nat × PF)} {t : Nat} : PFr.ofL ((s, x) :: l) t = if t = s then x else PFr.ofL l t := (rfl)
@[go_sem] theorem zBg {t : Nat} : PFr.ofL [] t = jP := (rfl)
@[go_sem] theorem zw1 {as : List (Md × PV)} {t : Nat} : zfw as t = zmi as[t]? := (rfl)
@[go_sem] theorem zwQ {m : Md} {x : PV} : zmi (some (m, x)) = .v x := (rfl)
@[go_sem] theorem zxA {b : Bool} : isJ (.bool b) = false := (rfl)
@[go_sem] theorem zBy {j : IntKind} {n : Int} : isJ (.int j n) = false := (rfl)
@[go_sem] theorem zBY {s : ByteArray} : isJ (.str s) = false := (rfl)
@[go_sem] theorem zCA {o : Bool} {es : Nat} {r : List (List PV)} : isJ (.sl o es r) = false := (rfl)
@[go_sem] theorem zDx {r : List PV} : isJ (.fp r) = false := (rfl)
@[go_sem] theorem zCL {r : List PV} : isJ (.bx r) = false := (rfl)
@[go_sem] theorem zxS {f : Fn} {a b : List PV} : isJ (.func f a b) = false := (rfl)
@[go_sem] theorem zAm {r : List PV} : isJ (.agg r) = false := (rfl)
@[go_sem] theorem zAX {r : List PV} : isJ (.tup r) = false := (rfl)
@[go_sem] theorem zwR {b : Bool} : zaA (.bool b) = false := by simp [zaA]
@[go_sem] theorem zy0 {j : IntKind} {n : Int} : zaA (.int j n) = false := by simp [zaA]
@[go_sem] theorem zy8 {s : ByteArray} : zaA (.str s) = false := by simp [zaA]
@[go_sem] theorem zAU {r : List PV} : zaA (.fp r) = false := by simp [zaA]
@[go_sem] theorem zwH {f : Fn} {a b : List PV} : zaA (.func f a b) = false := by simp [zaA]
attribute [go_sem] zgl znV ze6 zmF zfJ zkA zjD zmJ zjQ zmN zlj zlg
@[go_sem] theorem zxH {j : IntKind} {n : Int} : drop (.int j n) = .int j n := by simp [drop]
@[go_sem] theorem zyL {s : ByteArray} : drop (.str s) = .str s := by simp [drop]
@[go_sem] theorem zwp {f : Fn} {a b : List PV} : drop (.func f a b) = .func f a b := by simp [drop]
@[go_sem] theorem zCu : zaU .junk = true := by simp [zaU]
@[go_sem] theorem zwh {b : Bool} : zaU (.bool b) = true := by simp [zaU]
@[go_sem] theorem zw3 {j : IntKind} {n : Int} : zaU (.int j n) = true := by simp [zaU]
@[go_sem] theorem zuR {j : IntKind} {n : Int} : zfY (.int j n) = true := (rfl)
@[go_sem] theorem zwl {o : Bool} {es : Nat} {r : List (List PV)} : zfY (.sl o es r) = true := (rfl)
@[go_sem] theorem zuj {j : IntKind} {n : Int} : zb6 (.int j n) = true := (rfl)
@[go_sem] theorem zvR {o : Bool} {es : Nat} {r : List (List PV)} : zb6 (.sl o es r) = true := (rfl)
@[go_sem] theorem zuk {r : List PV} : zb6 (.agg r) = true := (rfl)
@[go_sem] theorem ztR {f : Fn} {a b : List PV} : zb6 (.func f a b) = true := (rfl)
@[go_sem] theorem zu9 {j : IntKind} {n : Int} : zav (.int j n) = [.int j n] := (rfl)
@[go_sem] theorem zwY {o : Bool} {es : Nat} {r : List (List PV)} : zav (.sl o es r) = [.sl o es r] := (rfl)
@[go_sem] theorem zu4 {r : List PV} : zav (.agg r) = r := (rfl)
@[go_sem] theorem zud {f : Fn} {a b : List PV} : zav (.func f a b) = [.func f a b] := (rfl)
@[go_sem] theorem zwF {e : Nat} {b : Bool} : ze5 e (.bool b) = .bool b := (rfl)
@[go_sem] theorem zx8 {e : Nat} {j : IntKind} {n : Int} : ze5 e (.int j n) = .int j n := (rfl)
@[go_sem] theorem zy1 {e : Nat} {s : ByteArray} : ze5 e (.string s) = .str s := (rfl)
@[go_sem] theorem zxM {e : Nat} : ze5 e (.slice none 0 0) = .sl true e [] := (rfl)
@[go_sem] theorem zAJ {j : IntKind} {n : Int} : zam (.int j n) = true := (rfl)
@[go_sem] theorem zy7 {b : Bool} : zam (.bool b) = true := (rfl)
@[go_sem] theorem zAZ {b : ByteArray} : zam (.string b) = true := (rfl)
@[go_sem] theorem zCa : zam (.slice none 0 0) = true := (rfl)
@[go_sem] theorem zBp {t : Tmp} : rdS pf (.tmp t) = zk2 (pf t) := (rfl)
@[go_sem] theorem zDA {x : PV} : zk2 (.v x) = toS x := (rfl)
@[go_sem] theorem zwn : zk2 .skip = none := (rfl)
@[go_sem] theorem zyB {b : Bool} : toS (.bool b) = some (.bool b) := (rfl)
@[go_sem] theorem zBr {j : IntKind} {n : Int} : toS (.int j n) = some (.int j n) := (rfl)
@[go_sem] theorem zBq {s : ByteArray} : toS (.str s) = some (.string s) := (rfl)
@[go_sem] theorem zBG {j : IntKind} {n : Int} : rdS pf (.const (.int j n)) = some (.int j n) := (rfl)
@[go_sem] theorem zxO {b : Bool} : rdS pf (.const (.bool b)) = some (.bool b) := (rfl)
@[go_sem] theorem zuE {b : Bool} : zdF (.bool b) = some (.bool b) := (rfl)
def ev1 (f : Value → Option Value) (x : Option Value) (pf : PFr) : Option (PF × PFr) := (x.bind fun a => (f a).bind zdF).map fun y => (.v y, pf)
def ev2 (f : Value → Value → Option Value) (x y : Option Value) (pf : PFr) : Option (PF × PFr) := (x.bind fun a => y.bind fun b => (f a b).bind zdF).map fun y => (.v y, pf)
def fin (x : Option Value) (pf : PFr) : Option (PF × PFr) := (x.bind zdF).map fun y => (.v y, pf)
@[go_sem] theorem zzY {f : Value → Option Value} {a : Value} : ev1 f (some a) pf = fin (f a) pf := (rfl)
@[go_sem] theorem zy2 {f : Value → Value → Option Value} {a b : Value} : ev2 f (some a) (some b) pf = fin (f a b) pf := (rfl)
@[go_sem] theorem zxQ {b : Bool} : fin (some (.bool b)) pf = some (.v (.bool b), pf) := (rfl)
@[go_sem] theorem zA5 {j : IntKind} {n : Int} : fin (some (.int j n)) pf = some (.v (.int j n), pf) := (rfl)
theorem zgv {o : Oper} {x : Option (PF × PFr)} (h : (((zbd o.op).bind (zf2 pf)).bind fun vs => (za1 P o.op vs).bind zdF).map (fun y => (PF.v y, pf)) = x) : zde P co o (pw P c k Q) pf = qv P c co x o.dst k Q := by
 subst h
 unfold zde
 cases (zbd o.op).bind (zf2 pf) with
 | none => rfl
 | some vs =>
  simp only [Option.bind_some]
  cases (za1 P o.op vs).bind zdF <;> rfl
@[go_sem ↓] theorem zx2 {ty t : TypeId} {op : UnOp} {x : Operand} {d : Option Tmp} : pw1 P c co ty (.unOp op t x) d k Q pf = qv P c co (ev1 (unV op) (rdS pf x) pf) d k Q := by
 refine zgv (o := ⟨d, .unOp op t x, ty, "", #[], none⟩) ?_
 simp only [zbd, zf2, Option.bind_some]
 cases rdS pf x <;> simp [za1, ev1]
@[go_sem ↓] theorem zum {ty s t : TypeId} {x : Operand} {d : Option Tmp} (ht : zaM P t = false) : pw1 P c co ty (.convert s t x) d k Q pf = qv P c co (ev1 (zi4 P s t) (rdS pf x) pf) d k Q := by
 have e : pw1 P c co ty (.convert s t x) d k Q pf = zde P co ⟨d, .convert s t x, ty, "", #[], none⟩ (pw P c k Q) pf := by
  show (if zaM P t = true then (co.hp ≠ [] ∨ lsP pf x = true) ∧ zhZ P co s t x d (pw P c k Q) pf else zde P co ⟨d, .convert s t x, ty, "", #[], none⟩ (pw P c k Q) pf) = _
  rw [if_neg (by simp [ht])]
 rw [e]
 refine zgv (o := ⟨d, .convert s t x, ty, "", #[], none⟩) ?_
 simp only [zbd, zf2, Option.bind_some]
 cases rdS pf x <;> simp [za1, ev1]
@[go_sem] theorem zve {t : Tmp} : zgG (.tmp t) = false := (rfl)
@[go_sem] theorem zvz {j : IntKind} {n : Int} : zgG (.const (.int j n)) = false := (rfl)
@[go_sem ↓] theorem zwI {ty t u : TypeId} {op : BinOp} {x y : Operand} {d : Option Tmp} (hy : zgG y = false) : pw1 P c co ty (.binOp op t x y u) d k Q pf = qv P c co (ev2 (zbH P op t) (rdS pf x) (rdS pf y) pf) d k Q := by
 have e : pw1 P c co ty (.binOp op t x y u) d k Q pf = zde P co ⟨d, .binOp op t x y u, ty, "", #[], none⟩ (pw P c k Q) pf := by
  show pop P co ⟨d, .binOp op t x y u, ty, "", #[], none⟩ (pw P c k Q) pf = _
  simp only [pop, hy, Bool.false_eq_true, if_false]
 rw [e]
 refine zgv (o := ⟨d, .binOp op t x y u, ty, "", #[], none⟩) ?_
 simp only [zbd, zf2, Option.bind_some]
 cases rdS pf x <;> cases rdS pf y <;> simp [za1, ev2]
@[go_sem ↓] theorem zwJ {ty t : TypeId} {x y : Operand} {d : Option Tmp} : pw1 P c co ty (.index t x y) d k Q pf = qv P c co (ev2 (zfv P t) (rdS pf x) (rdS pf y) pf) d k Q := by
 refine zgv (o := ⟨d, .index t x y, ty, "", #[], none⟩) ?_
 simp only [zbd, zf2, Option.bind_some]
 cases rdS pf x <;> cases rdS pf y <;> simp [za1, ev2]
@[go_sem] theorem zzl {s d : TypeId} {i j k : IntKind} {n : Int} (hs : zdf P s = some i) (hd : zdf P d = some k) : zi4 P s d (.int j n) = some (.int k (k.wrap n)) := by
 unfold zi4
 have : ∃ u, P.underlying s = some u := by
  unfold zdf at hs; split at hs
  ·rename_i h; exact ⟨_, h⟩
  ·cases hs
 obtain ⟨u, hu⟩ := this
 rw [hu, hd]
@[go_sem] theorem zAM {j : IntKind} {t : TypeId} {a b : Int} : zbH P .add t (.int j a) (.int j b) = some (.int j (j.wrap (a + b))) := by simp [zbH, zc9]
@[go_sem] theorem zBb {j : IntKind} {t : TypeId} {a b : Int} : zbH P .sub t (.int j a) (.int j b) = some (.int j (j.wrap (a - b))) := by simp [zbH, zc9]
@[go_sem] theorem zAh {j : IntKind} {t : TypeId} {a b : Int} : zbH P .mul t (.int j a) (.int j b) = some (.int j (j.wrap (a * b))) := by simp [zbH, zc9]
def zh2 (b : Int) (x : Value) : Option Value := if b = 0 then none else some x
@[go_sem] theorem zCc {j : IntKind} {t : TypeId} {a b : Int} : zbH P .quo t (.int j a) (.int j b) = zh2 b (.int j (j.wrap (a.tdiv b))) := by simp [zbH, zc9, zh2]
@[go_sem] theorem zAV {j : IntKind} {t : TypeId} {a b : Int} : zbH P .rem t (.int j a) (.int j b) = zh2 b (.int j (a.tmod b)) := by simp [zbH, zc9, zh2]
theorem znZ {b : Int} {x : Value} (h : b ≠ 0) : zh2 b x = some x := by simp [zh2, h]
@[go_sem] theorem zAz {j : IntKind} {t : TypeId} {a b : Int} : zbH P .eql t (.int j a) (.int j b) = some (.bool (a == b)) := by simp [zbH, zc9]
@[go_sem] theorem zCo {j : IntKind} {t : TypeId} {a b : Int} : zbH P .neq t (.int j a) (.int j b) = some (.bool (a != b)) := by simp [zbH, zc9]
@[go_sem] theorem zBE {j : IntKind} {t : TypeId} {a b : Int} : zbH P .lss t (.int j a) (.int j b) = some (.bool (decide (a < b))) := by simp [zbH, zc9]
@[go_sem] theorem zAi {j : IntKind} {t : TypeId} {a b : Int} : zbH P .leq t (.int j a) (.int j b) = some (.bool (decide (a ≤ b))) := by simp [zbH, zc9]
@[go_sem] theorem zAl {j : IntKind} {t : TypeId} {a b : Int} : zbH P .gtr t (.int j a) (.int j b) = some (.bool (decide (b < a))) := by simp [zbH, zc9]
@[go_sem] theorem zA2 {j : IntKind} {t : TypeId} {a b : Int} : zbH P .geq t (.int j a) (.int j b) = some (.bool (decide (b ≤ a))) := by simp [zbH, zc9]
@[go_sem] theorem zBe {j : IntKind} {t : TypeId} {a b : Int} : zbH P .and t (.int j a) (.int j b) = some (.int j (j.wrap (BitVec.ofInt j.bits a &&& BitVec.ofInt j.bits b).toNat)) := by simp [zbH, zc9]
def zjt (b : Int) (x : Value) : Option Value := if b < 0 then none else some x
@[go_sem] theorem zAQ {j j' : IntKind} {t : TypeId} {a b : Int} : zbH P .shl t (.int j a) (.int j' b) = zjt b (.int j (j.wrap (a * 2 ^ min b.toNat j.bits))) := by simp [zbH, zjt]
@[go_sem] theorem zBf {j j' : IntKind} {t : TypeId} {a b : Int} : zbH P .shr t (.int j a) (.int j' b) = zjt b (.int j (a.fdiv (2 ^ min b.toNat j.bits))) := by simp [zbH, zjt]
theorem zsa {b : Int} {x : Value} (h : 0 ≤ b) : zjt b x = some x := by simp [zjt]; omega
@[go_sem] theorem zzr {t : TypeId} {a b : Bool} (h : zfG P t = true) : zbH P .eql t (.bool a) (.bool b) = some (.bool (a == b)) := by simp [zbH, h]
@[go_sem] theorem zxT {t : TypeId} {a b : Bool} (h : zfG P t = true) : zbH P .neq t (.bool a) (.bool b) = some (.bool (a != b)) := by simp [zbH, h]
@[go_sem] theorem zC0 {b : Bool} : unV .not (.bool b) = some (.bool !b) := (rfl)
end
end Go.Pm
