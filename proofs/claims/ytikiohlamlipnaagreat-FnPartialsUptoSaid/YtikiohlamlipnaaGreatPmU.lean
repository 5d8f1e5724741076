import Derived.Test.YtikiohlamlipnaaGreatPmT
namespace Go.Pm
open Go.Am
section
variable {P : Program} {c co : Cfg} {k : List PIt} {Q : Exit → PFr → Prop} {pf : PFr}
attribute [go_sem] Option.bind_some Option.bind_none Option.map_some Option.map_none Option.getD_some Option.getD_none
def orE : Option (PF × PFr) → Option (PF × PFr) → Option (PF × PFr)
 | some a, _ => some a
 | none, y => y
theorem ztp {a b c : Option (PF × PFr)} (h : a = b) : orE a c = orE b c := by rw [h]
@[go_sem ↓] theorem zEO {a : PF × PFr} {y : Option (PF × PFr)} : orE (some a) y = some a := rfl
@[go_sem ↓] theorem zF5 {y : Option (PF × PFr)} : orE none y = y := rfl
def tkA : Option PF → PFr → Option (PF × PFr) → Option (PF × PFr)
 | some y, pf, _ => some (y, pf)
 | none, _, x => x
theorem zsZ {a b : Option PF} {pf : PFr} {x : Option (PF × PFr)} (h : a = b) : tkA a pf x = tkA b pf x := by rw [h]
@[go_sem ↓] theorem zFp {y : PF} {x : Option (PF × PFr)} : tkA (some y) pf x = some (y, pf) := rfl
@[go_sem ↓] theorem zFN {x : Option (PF × PFr)} : tkA none pf x = x := rfl
attribute [congr] ztp zsZ
@[go_sem ↓] theorem zC7 {ty t : TypeId} {a : Operand} {d : Option Tmp} : pw1 P c co ty (.load t a) d k Q pf = qv P c co (orE (((tk P t).bind fun tz => (adr pf a).bind (ldA tz pf)).map fun y => (y, pf)) ((zpm P t pf a).map fun y => (y, pf))) d k Q := by
 show zkS P co t a d (pw P c k Q) pf = _
 unfold zkS
 cases (tk P t).bind fun tz => (adr pf a).bind (ldA tz pf) with
 | some y => rfl
 | none => cases zpm P t pf a <;> rfl
theorem zsQ {d : Option Tmp} {x : Option AD} : pad co (pw P c k Q) d pf x = qv P c co (x.map fun ad => (zi5 ad, pf)) d k Q := by cases x <;> rfl
@[go_sem ↓] theorem zB6 {ty s : TypeId} {x : Operand} {f : Nat} {d : Option Tmp} : pw1 P c co ty (.fieldAddr s x f) d k Q pf = qv P c co (((zaH P s f).bind fun o => (adr pf x).bind (ziB o.1)).map fun ad => (zi5 ad, pf)) d k Q := zsQ
@[go_sem ↓] theorem zxO {ty : TypeId} {x : Operand} {d : Option Tmp} : pw1 P c co ty (.nilCheck x) d k Q pf = qv P c co ((adr pf x).map fun ad => (zi5 ad, pf)) d k Q := zsQ
@[go_sem] theorem zLi {t : TypeId} {x i : Operand} {es : Nat} (h : esz P t = some es) : ixE P t x i pf = (sbO pf x).bind (ixS es (rdS pf i)) := by simp [ixE, h]
@[go_sem ↓] theorem zxb {ty t : TypeId} {x i : Operand} {d : Option Tmp} : pw1 P c co ty (.indexAddr t x i) d k Q pf = qv P c co (orE ((ixE P t x i pf).map fun ad => (zi5 ad, pf)) (zm8 P t x i pf)) d k Q := by
 show zjp P co t x i d (pw P c k Q) pf = _
 unfold zjp
 cases ixE P t x i pf with
 | some ad => rfl
 | none => cases zm8 P t x i pf <;> rfl
@[go_sem] theorem zIy {t : TypeId} {u : Nat} {i : Operand} : zm8 P t (.tmp u) i pf = zoh P t u pf (pf u) (rdS pf i) := (rfl)
@[go_sem] theorem zEZ {t : TypeId} {u s i j n : Nat} {p : zad} {kk : IntKind} {q : Int} : zoh P t u pf (.as false s p i j n) (some (.int kk q)) = if esz P t = some 1 ∧ 0 ≤ q ∧ q < n then some (.as true s p i (j + q.toNat) 1, pf.put u jP) else none := (rfl)
@[go_sem] theorem zIF {t : TypeId} {u : Nat} : zpm P t pf (.tmp u) = (tk P t).bind fun tz => if tz.1 = false then zoo (pf u) else none := (rfl)
@[go_sem] theorem zE6 {s i j n : Nat} {p : zad} : zoo (.as true s p i j n) = some (.rf s (p ++ [(i, j)])) := (rfl)
@[go_sem] theorem zJT {t : Nat} {b : Bool} {s i j n : Nat} {p : zad} : adF pf t (.as b s p i j n) = none := (rfl)
@[go_sem] theorem zJe {t : Nat} {b : Bool} {s i j n : Nat} {p : zad} : sbF pf t (.as b s p i j n) = none := (rfl)
@[go_sem] theorem zH6 {c : Cfg} {d : Nat} (h : c.fz = []) : mkd c d = false := by simp [mkd, h]
@[go_sem] theorem zLo {c : Cfg} {d : Nat} : mkd c d = c.fz.contains (d + 2 * c.nt) := (rfl)
@[go_sem] theorem zHm {s : Nat} {p : zad} : zi2 (.rf s p) = some (s, p) := (rfl)
@[go_sem] theorem zDg {o : Bool} {es : Nat} {rows : List (List PV)} : zoq (some (.sl o es rows)) = true := (rfl)
@[go_sem] theorem zDM {s i j q : Nat} {p : zad} : zjT pf s p i j q [] = true := (rfl)
@[go_sem] theorem zCj {s i j q q' : Nat} {t : Tmp} {p : zad} {r : List (Nat × Operand)} : zjT pf s p i j q ((q', .tmp t) :: r) = if q' = q ∧ zi2 (pf t) = some (s, p ++ [(i, j + q)]) ∧ zoq (zaC pf s (p ++ [(i, j + q)])) = true then zjT pf s p i j (q + 1) r else false := (rfl)
@[go_sem] theorem zAS {a : Nat × Nat} : zeO [a] = some ([], a.1, a.2) := (rfl)
@[go_sem] theorem zIA {q : Nat} {t : Tmp} {r : List (Nat × Operand)} : zni pf ((q, .tmp t) :: r) = (zi2 (pf t)).bind fun x => (zeO x.2).map fun y => (x.1, y) := (rfl)
@[go_sem] theorem zGu {t : TypeId} {len : Nat} {ps : List (Nat × Operand)} : zpH P t len ps pf = (ez P t).bind fun z => (zni pf ps).bind fun a => if z.1 = 1 ∧ len ≤ 2 ^ 24 ∧ ps.length = len ∧ zjT pf a.1 a.2.1 a.2.2.1 a.2.2.2 0 ps = true then some (.as false a.1 a.2.1 a.2.2.1 a.2.2.2 len) else none := (rfl)
def stA (pf : PFr) (cells : List PV) : AD → Option PFr
 | .pl s p i j => zdP pf s p i j cells
 | _ => none
def stE (P : Program) (t : TypeId) (a x : Operand) (pf : PFr) : Option PFr :=
 (tk P t).bind fun tz => (zbh (ezT P t) pf x).bind fun y => if zmQ tz.2 y.1 = true then (adr y.2 a).bind (stA y.2 (zaz y.1)) else none
@[go_sem] theorem zJi {t : TypeId} {a x : Operand} : stE P t a x pf = (tk P t).bind fun tz => (zbh (ezT P t) pf x).bind fun y => if zmQ tz.2 y.1 = true then (adr y.2 a).bind (stA y.2 (zaz y.1)) else none := (rfl)
@[go_sem ↓] theorem zBW {ty t : TypeId} {a x : Operand} : pw1 P c co ty (.store t a x) none k Q pf = qf P c (stE P t a x pf) k Q := by
 show zjc P co t a x none (pw P c k Q) pf = _
 unfold zjc stE
 cases tk P t with
 | none => rfl
 | some tz =>
  cases zbh (ezT P t) pf x with
  | none => rfl
  | some y =>
   obtain ⟨y, pf1⟩ := y
   obtain ⟨b, sz⟩ := tz
   simp only [Option.bind_some]
   by_cases h : zmQ sz y = true
   ·rw [if_pos h]
    cases ha : adr pf1 a with
    | none => simp [zhY, qf]
    | some ad => cases ad with
     | pl s p i j => cases hp : zdP pf1 s p i j (zaz y) <;> simp [zhY, qf, h, stA, hp]
     | fz row => simp [zhY, qf, stA]
   ·rw [if_neg h]; simp [qf, h]
def alE (P : Program) (co : Cfg) (e : TypeId) (d : Nat) (pf : PFr) : Option PFr :=
 (zr P e).bind fun z => if ckd co d .skip = true then some (if co.hp.contains d = true then pf.put d (.v (.bx z)) else pf.put d (.bl z)) else none
@[go_sem] theorem zJ9 {e : TypeId} {d : Nat} {z : List PV} (h : zr P e = some z) (h1 : ckd co d .skip = true) (h2 : co.hp.contains d = false) : alE P co e d pf = some (pf.put d (.bl z)) := by unfold alE; rw [h, Option.bind_some, if_pos h1, if_neg (by rw [h2]; simp)]
@[go_sem ↓] theorem zCb {ty e : TypeId} {d : Tmp} : pw1 P c co ty (.alloc e) (some d) k Q pf = qf P c (alE P co e d pf) k Q := by
 show zjd P co e (some d) (pw P c k Q) pf = _
 unfold zjd alE
 cases zr P e with
 | none => rfl
 | some z =>
  simp only [Option.bind_some]
  by_cases h : ckd co d .skip = true
  ·rw [if_pos h]
   by_cases h2 : co.hp.contains d = true
   ·simp only [h, h2, qf, if_true, true_and]
   ·simp only [h, h2, qf, true_and]; simp
  ·rw [if_neg h]; simp [qf, h]
def bxE (P : Program) (co : Cfg) (e : TypeId) (x : Operand) (d : Nat) (pf : PFr) : Option PFr :=
 (tk P e).bind fun _ => (zbh (ezT P e) pf x).bind fun y => if (!lsO pf x && zcj y.1 && ckd co d .skip) = true then some (if co.hp.contains d = true then (if co.fz.contains d = true then (y.2.put d (.v (.bx (zaz y.1)))).put d (.v (drop (.bx (zaz y.1)))) else y.2.put d (.v (.bx (zaz y.1)))) else y.2.put d (.bl (zaz y.1))) else none
@[go_sem] theorem zI4 {e : TypeId} {x : Operand} {d : Nat} : bxE P co e x d pf = (tk P e).bind fun _ => (zbh (ezT P e) pf x).bind fun y => if (!lsO pf x && zcj y.1 && ckd co d .skip) = true then some (if co.hp.contains d = true then (if co.fz.contains d = true then (y.2.put d (.v (.bx (zaz y.1)))).put d (.v (drop (.bx (zaz y.1)))) else y.2.put d (.v (.bx (zaz y.1)))) else y.2.put d (.bl (zaz y.1))) else none := (rfl)
@[go_sem ↓] theorem zGH {ty e : TypeId} {x : Operand} {d : Tmp} : pw1 P c co ty (.box e x) (some d) k Q pf = qf P c (bxE P co e x d pf) k Q := by
 show zm4 P co e x (some d) (pw P c k Q) pf = _
 unfold zm4 bxE
 cases tk P e with
 | none => rfl
 | some z =>
  cases zbh (ezT P e) pf x with
  | none => rfl
  | some y =>
   obtain ⟨y, pf1⟩ := y
   simp only [Option.bind_some]
   by_cases h : (!lsO pf x && zcj y && ckd co d .skip) = true
   ·rw [if_pos h]
    simp only [Bool.and_eq_true, Bool.not_eq_true'] at h
    by_cases h2 : co.hp.contains d = true
    ·by_cases h4 : co.fz.contains d = true
     ·simp only [h.1.1, h.1.2, h.2, h2, h4, qf, if_true, true_and]
     ·simp only [h.1.1, h.1.2, h.2, h2, h4, qf, if_true, true_and]; simp
    ·simp only [h.1.1, h.1.2, h.2, h2, qf, true_and]; simp
   ·rw [if_neg h]
    simp only [qf, eq_iff_iff, iff_false]
    rintro ⟨h1, h2, h3, _⟩
    exact h (by rw [h1, h2, h3]; rfl)
def zuD (P : Program) (co : Cfg) (t : TypeId) (len : Nat) (ps : List (Nat × Operand)) (d : Nat) (pf : PFr) : Option PFr :=
 (ez P t).bind fun z => (zfq pf (ps.map fun p => (zbp P t p.1, p.2))).bind fun y => if len * z.1 ≤ 2 ^ 24 ∧ ckd co d .skip = true then (zge z.1 ((ps.map (·.1)).zip (drx co d y.1)) (List.replicate len z.2.2)).map fun rows => y.2.put d (.ls z.1 rows) else none
@[go_sem] theorem zG6 {d : Nat} {xs : List PV} (h : co.fz = []) : drx co d xs = xs := by simp [drx, h]
@[go_sem] theorem zK8 {d : Nat} {xs : List PV} : drx co d xs = if co.fz.contains (d + 3 * co.nt) = true then xs.map drop else xs := (rfl)
@[go_sem] theorem zH5 {t : TypeId} {len : Nat} {ps : List (Nat × Operand)} {d : Nat} : zuD P co t len ps d pf = (ez P t).bind fun z => (zfq pf (ps.map fun p => (zbp P t p.1, p.2))).bind fun y => if len * z.1 ≤ 2 ^ 24 ∧ ckd co d .skip = true then (zge z.1 ((ps.map (·.1)).zip (drx co d y.1)) (List.replicate len z.2.2)).map fun rows => y.2.put d (.ls z.1 rows) else none := (rfl)
@[go_sem ↓] theorem zwC {ty t : TypeId} {len : Nat} {ps : Array (Nat × Operand)} {d : Tmp} : pw1 P c co ty (.buildSlice t len ps) (some d) k Q pf = if mkd co d = true then qv P c co ((zpH P t len ps.toList pf).map fun y => (y, pf)) (some d) k Q else qf P c (zuD P co t len ps.toList d pf) k Q := by
 show zmT P co t len ps.toList (some d) (pw P c k Q) pf = _
 unfold zmT zuD
 by_cases hm : mkd co d = true
 ·rw [if_pos hm, if_pos (show zu5 co (some d) = true from hm)]
  unfold zmJ
  cases zpH P t len ps.toList pf <;> rfl
 rw [if_neg hm, if_neg (show ¬ zu5 co (some d) = true from hm)]
 cases ez P t with
 | none => rfl
 | some z =>
  cases zfq pf (ps.toList.map fun p => (zbp P t p.1, p.2)) with
  | none => rfl
  | some y =>
   obtain ⟨xs, pf1⟩ := y
   simp only [Option.bind_some]
   by_cases h : len * z.1 ≤ 2 ^ 24 ∧ ckd co d .skip = true
   ·rw [if_pos h]
    cases zge z.1 ((ps.toList.map (·.1)).zip (drx co d xs)) (List.replicate len z.2.2) <;> simp only [zop, qf, h.1, h.2, true_and, and_false, Option.map_none, Option.map_some]
   ·rw [if_neg h]
    simp only [qf, eq_iff_iff, iff_false]
    rintro ⟨h1, h2⟩
    cases hf : zge z.1 ((ps.toList.map (·.1)).zip (drx co d xs)) (List.replicate len z.2.2) with
    | none => rw [hf] at h2; exact h2
    | some r => rw [hf] at h2; exact h ⟨h1, h2.1⟩
@[go_sem ↓] theorem zBH {ty t : TypeId} {ps : Array (Nat × Operand)} {d : Option Tmp} : pw1 P c co ty (.build t ps) d k Q pf =
 qv P c co ((zgO P t).bind fun b => (zfq pf (ps.toList.map fun p => (zbp P t p.1, p.2))).bind fun y => (zhm b.1 ((ps.toList.map (·.1)).zip y.1) b.2).map fun row => (.v (.agg row), y.2)) d k Q := by
 show zjb P co t ps.toList d (pw P c k Q) pf = _
 unfold zjb
 cases zgO P t with
 | none => rfl
 | some b =>
  cases zfq pf (ps.toList.map fun p => (zbp P t p.1, p.2)) with
  | none => rfl
  | some y =>
   simp only [Option.bind_some]
   cases zhm b.1 ((ps.toList.map (·.1)).zip y.1) b.2 <;> rfl
def pkV (b x y : Option Value) : Option PV :=
 match b with
 | some (.bool true) => x.bind zeo
 | some (.bool false) => y.bind zeo
 | _ => none
@[go_sem ↓] theorem zFx {ty : TypeId} {b x y : Operand} {d : Option Tmp} : pw1 P c co ty (.pick b x y) d k Q pf = qv P c co ((pkV (rdS pf b) (rdS pf x) (rdS pf y)).map fun z => (.v z, pf)) d k Q := by
 show zk6 co b x y d (pw P c k Q) pf = _
 unfold zk6 zss pkV
 cases rdS pf b with
 | none => rfl
 | some v =>
  cases v with
  | bool b =>
   cases b
   ·simp only []
    cases (rdS pf y).bind zeo <;> rfl
   ·simp only []
    cases (rdS pf x).bind zeo <;> rfl
  | _ => rfl
@[go_sem] theorem zKy {x y : Option Value} : pkV (some (.bool true)) x y = x.bind zeo := (rfl)
@[go_sem] theorem zLr {x y : Option Value} : pkV (some (.bool false)) x y = y.bind zeo := (rfl)
@[go_sem] theorem zDX {b m n : Bool} : pkV (some (.bool b)) (some (.bool m)) (some (.bool n)) = some (.bool (if b = true then m else n)) := by cases b <;> rfl
def mkV (b : Bool) (z : Nat × Nat × List PV) (pf : PFr) : Option Value → Option Value → Option (PF × PFr)
 | some (.int .i64 n), some (.int .i64 m) => if 0 ≤ n ∧ n ≤ m ∧ z.2.1 * m ≤ 140737488355328 ∧ m ≤ 4611686018427387904 then some (.v (.sl true z.1 (List.replicate n.toNat (uz b z.2.2))), pf) else none
 | _, _ => none
@[go_sem] theorem zIg {b : Bool} {z : Nat × Nat × List PV} {n m : Int} : mkV b z pf (some (.int .i64 n)) (some (.int .i64 m)) = if 0 ≤ n ∧ n ≤ m ∧ z.2.1 * m ≤ 140737488355328 ∧ m ≤ 4611686018427387904 then some (.v (.sl true z.1 (List.replicate n.toNat (uz b z.2.2))), pf) else none := (rfl)
@[go_sem] theorem zFu {d : Nat} : nzB co (some d) = co.fz.contains (d + co.nt) := (rfl)
@[go_sem] theorem zDf {z : List PV} : uz false z = z := (rfl)
@[go_sem ↓] theorem zxc {ty t : TypeId} {l cc : Operand} {d : Option Tmp} : pw1 P c co ty (.makeSlice t l cc) d k Q pf = qv P c co ((ez P t).bind fun z => mkV (nzB co d) z pf (rdS pf l) (rdS pf cc)) d k Q := by
 show zkQ P co t l cc d (pw P c k Q) pf = _
 unfold zkQ
 cases ez P t with
 | none => rfl
 | some z =>
  simp only [Option.bind_some]
  generalize rdS pf l = x1
  generalize rdS pf cc = x2
  unfold zrU mkV
  split
  ·rename_i n m
   simp only []
   by_cases h : 0 ≤ n ∧ n ≤ m ∧ z.2.1 * m ≤ 140737488355328 ∧ m ≤ 4611686018427387904
   ·rw [if_pos h]
    simp only [h, true_and]
    rfl
   ·rw [if_neg h]
    simp only [qv, eq_iff_iff, iff_false]
    rintro ⟨a1, _⟩
    exact h a1
  ·rename_i h1
   split
   ·rename_i e1; exact absurd rfl (h1 _ _ rfl)
   ·rfl
theorem zwj {ty t u : TypeId} {op : BinOp} {x y : Operand} {d : Tmp} {q : Bool} {rows : List (List PV)} (hy : zhw y = true) (hp : co.hp.isEmpty = false) (he : (zax P t).isSome = true) (hq : zoU op = some q) (hx : zu9 pf x = some rows)
 (hk : ∀ b, (rows ≠ [] → b = !q) → qv P c co (some (.v (.bool b), pf)) (some d) k Q) : pw1 P c co ty (.binOp op t x y u) (some d) k Q pf := by
 show pop P co ⟨some d, .binOp op t x y u, ty, "", #[], none⟩ (pw P c k Q) pf
 simp only [pop, hy, if_true]
 refine ⟨(by intro e; rw [e] at hp; cases hp), ?_⟩
 cases x with
 | tmp s =>
  unfold zjx
  simp only [hq, hx]
  exact ⟨he, fun b hb => hk b hb⟩
 | _ => simp [zu9] at hx
@[go_sem ↓] theorem zym {ty : TypeId} {fn : Fn} {xs ys : Array Operand} {d : Option Tmp} : pw1 P c co ty (.makeFunc fn xs ys) d k Q pf =
 qv P c co ((ziX (!co.hp.isEmpty) pf (xs.toList ++ ys.toList)).map fun vs => (.v (.func fn (vs.1.take xs.toList.length) (vs.1.drop xs.toList.length)), vs.2)) d k Q := by
 show zkZ co fn xs.toList ys.toList d (pw P c k Q) pf = _
 unfold zkZ
 cases ziX (!co.hp.isEmpty) pf (xs.toList ++ ys.toList) <;> rfl
def mvF (nt : Nat) (t : Nat) (pf : PFr) : PF → Option (PF × PFr)
 | .v x => if isJ x = true then none else some (if zaI x = true then .rf t [] else .v x, pf)
 | .ls es rows => if t < nt then some (.rf t [], (pf.upd t (.v (.sl true es rows))).kill t 0) else none
 | .bl _ => some (.pt t [] 0 0, pf)
 | .skip => none
 | .as .. => none
 | y => some (y, pf)
@[go_sem] theorem zKB {nt t : Nat} {x : PV} (h : isJ x = false) : mvF nt t pf (.v x) = some (if zaI x = true then .rf t [] else .v x, pf) := by simp [mvF, h]
@[go_sem] theorem zJI {nt t s : Nat} {p : zad} : mvF nt t pf (.rf s p) = some (.rf s p, pf) := (rfl)
@[go_sem ↓] theorem zzo {ty : TypeId} {t : Tmp} {d : Option Tmp} : pw1 P c co ty (.move (.tmp t)) d k Q pf = qv P c co (mvF co.nt t pf (pf t)) d k Q := by
 show zf3 co t d (pw P c k Q) pf (pf t) = _
 unfold zf3 mvF
 cases pf t with
 | v x =>
  cases hj : isJ x
  ·cases ho : zaI x <;> simp [hj, ho, qv]
  ·simp [hj, qv]
 | ls es rows =>
  by_cases h : t < co.nt
  ·simp [h, qv]
  ·simp [h, qv]
 | _ => rfl
def tkV (x : Option (PV × PFr)) : Option (PF × PFr) := x.map fun y => (.v y.1, y.2)
@[go_sem] theorem zFY {y : PV} : tkV (some (y, pf)) = some (.v y, pf) := (rfl)
@[go_sem ↓] theorem zzx {ty : TypeId} {k0 : Value} {d : Option Tmp} : pw1 P c co ty (.move (.const k0)) d k Q pf = qv P c co (tkV (zbh (ezT P ty) pf (.const k0))) d k Q := by
 show zhK (ezT P ty) co (.const k0) d (pw P c k Q) pf = _
 unfold zhK
 simp only []
 cases zbh (ezT P ty) pf (.const k0) <;> rfl
@[go_sem ↓] theorem zA3 {ty : TypeId} {x : Operand} {d : Option Tmp} : pw1 P c co ty (.assign x) d k Q pf = qv P c co (tkA (zmV co pf d x) pf (tkV (zbh (ezT P ty) pf x))) d k Q := by
 show zh0 (ezT P ty) co x d (pw P c k Q) pf = _
 unfold zh0
 cases zmV co pf d x with
 | some y => rfl
 | none => cases zbh (ezT P ty) pf x <;> rfl
@[go_sem] theorem zJw {d : Nat} {t : Tmp} : zmV co pf (some d) (.tmp t) = if mkd co d = true then (zi2 (pf t)).map fun x => .rf x.1 x.2 else none := (rfl)
@[go_sem] theorem zIE {d : Option Tmp} {x : Value} : zmV co pf d (.const x) = none := by cases d <;> rfl
def exV (pf : PFr) (s : Nat) (xs : List PV) (i : Nat) : Option PV → Option (PF × PFr)
 | some y => if isJ y = true then none else some (.v y, if zaI y = true then (pf.upd s (.v (.tup (xs.set i .junk)))).kill s 1 else pf)
 | none => none
@[go_sem] theorem zEW {s i : Nat} {xs : List PV} {y : PV} (h : isJ y = false) : exV pf s xs i (some y) = some (.v y, if zaI y = true then (pf.upd s (.v (.tup (xs.set i .junk)))).kill s 1 else pf) := by simp [exV, h]
@[go_sem] theorem zGs {t : Tmp} : exO pf (.tmp t) = match pf t with
 | .rf s [] => exR s (pf s)
 | y => exR t y := rfl
@[go_sem] theorem zLx {s : Nat} {xs : List PV} : exR s (.v (.tup xs)) = some (s, xs) := (rfl)
@[go_sem ↓] theorem zze {ty : TypeId} {x : Operand} {i : Nat} {d : Option Tmp} : pw1 P c co ty (.extract x i) d k Q pf = qv P c co ((exO pf x).bind fun a => if a.1 < co.nt then exV pf a.1 a.2 i a.2[i]? else none) d k Q := by
 show zg6 co x i d (pw P c k Q) pf = _
 unfold zg6
 cases exO pf x with
 | none => rfl
 | some a =>
  obtain ⟨s, xs⟩ := a
  simp only [Option.bind_some]
  by_cases h : s < co.nt
  ·rw [if_pos h]
   simp only [h, true_and]
   cases xs[i]? with
   | none => rfl
   | some y =>
    cases hj : isJ y
    ·cases ho : zaI y <;> simp [pex, exV, hj, ho, qv]
    ·simp [pex, exV, hj, qv]
  ·rw [if_neg h]; simp [h, qv]
def slE (es t : Nat) (pf : PFr) (l h m : Option (Option Nat)) : Option (PF × PFr) :=
 match l, h, m with
 | some l, some h, some none => (slF es (l.getD 0) h pf t (pf t)).map fun y => (y, pf)
 | some l, some (some h), some (some m) => ((za7 pf (pf t)).bind lenV).bind fun rows => (slF es (l.getD 0) (some h) pf t (pf t)).bind fun _ => if l.getD 0 = h ∧ h = m ∧ m ≤ rows.length then some (.v (.sl true es []), pf) else none
 | _, _, _ => none
@[go_sem] theorem zBA {es t : Nat} {l h : Option Nat} : slE es t pf (some l) (some h) (some none) = (slF es (l.getD 0) h pf t (pf t)).map fun y => (y, pf) := by cases h <;> rfl
@[go_sem] theorem zzP {es t : Nat} {l : Option Nat} {h m : Nat} : slE es t pf (some l) (some (some h)) (some (some m)) = ((za7 pf (pf t)).bind lenV).bind fun rows => (slF es (l.getD 0) (some h) pf t (pf t)).bind fun _ => if l.getD 0 = h ∧ h = m ∧ m ≤ rows.length then some (.v (.sl true es []), pf) else none := (rfl)
theorem zwV {es t : Nat} {d : Option Tmp} {l h m : Option (Option Nat)} : zm9 co es t d (pw P c k Q) pf l h m = qv P c co (slE es t pf l h m) d k Q := by
 cases l with
 | none => rfl
 | some l =>
  cases h with
  | none => rfl
  | some h =>
   cases m with
   | none => rfl
   | some m =>
    cases m with
    | none =>
     rw [zBA]
     cases h <;> simp only [zm9] <;> cases slF es (l.getD 0) _ pf t (pf t) <;> rfl
    | some m =>
     cases h with
     | none => rfl
     | some h =>
      rw [zzP]
      simp only [zm9]
      cases (za7 pf (pf t)).bind lenV with
      | none => rfl
      | some rows =>
       simp only [Option.bind_some]
       cases slF es (l.getD 0) (some h) pf t (pf t) with
       | none => simp [qv]
       | some y =>
        by_cases hh : l.getD 0 = h ∧ h = m ∧ m ≤ rows.length
        ·simp [hh, qv]
        ·simp [hh, qv]
@[go_sem ↓] theorem zBM {ty t : TypeId} {x : Tmp} {l h m : Option Operand} {d : Option Tmp} (hs : zaO P t = false) : pw1 P c co ty (.slice t (.tmp x) l h m) d k Q pf = qv P c co ((esz P t).bind fun es => slE es x pf (rdB pf l) (rdB pf h) (rdB pf m)) d k Q := by
 show (if zaO P t = true then zdW P co ⟨d, .slice t (.tmp x) l h m, ty, "", #[], none⟩ (pw P c k Q) pf else zji P co t (.tmp x) l h m d (pw P c k Q) pf) = _
 rw [if_neg (by simp [hs])]
 unfold zji
 cases esz P t with
 | none => rfl
 | some es => exact zwV
def qln (P : Program) (c co : Cfg) (x : Option (List (List PV))) (d : Option Tmp) (k : List PIt) (Q : Exit → PFr → Prop) (pf : PFr) : Prop :=
 match x with
 | some rows => rows.length ≤ zb1 → qv P c co (some (.v (.int .i64 rows.length), pf)) d k Q
 | none => False
theorem ztP {x x' : Option (List (List PV))} {d : Option Tmp} (h : x = x') : qln P c co x d k Q pf = qln P c co x' d k Q pf := by rw [h]
attribute [congr] ztP
def qlm (P : Program) (c co : Cfg) (t : TypeId) (d : Option Tmp) (k : List PIt) (Q : Exit → PFr → Prop) (pf : PFr) (x : Nat) : PF → Prop
 | .ls es rows => qln P c co ((zax P t).bind fun _ => some rows) d k Q ((pf.upd x (.v (.sl true es rows))).kill x 0)
 | y => qln P c co ((zax P t).bind fun _ => (za7 pf y).bind lenV) d k Q pf
theorem ztE {t : TypeId} {d : Option Tmp} {x : Nat} {y y' : PF} (h : y = y') : qlm P c co t d k Q pf x y = qlm P c co t d k Q pf x y' := by rw [h]
attribute [congr] ztE
@[go_sem ↓] theorem zIT {t : TypeId} {d : Option Tmp} {x es : Nat} {rows : List (List PV)} : qlm P c co t d k Q pf x (.ls es rows) = qln P c co ((zax P t).bind fun _ => some rows) d k Q ((pf.upd x (.v (.sl true es rows))).kill x 0) := rfl
@[go_sem ↓] theorem zK1 {t : TypeId} {d : Option Tmp} {x : Nat} {y : PV} : qlm P c co t d k Q pf x (.v y) = qln P c co ((zax P t).bind fun _ => lenV y) d k Q pf := rfl
@[go_sem ↓] theorem zJK {t : TypeId} {d : Option Tmp} {x s : Nat} {p : zad} : qlm P c co t d k Q pf x (.rf s p) = qln P c co ((zax P t).bind fun _ => (za7 pf (.rf s p)).bind lenV) d k Q pf := rfl
@[go_sem ↓] theorem zIv {t : TypeId} {d : Option Tmp} {x s lo hi : Nat} {p : zad} : qlm P c co t d k Q pf x (.rv s p lo hi) = qln P c co ((zax P t).bind fun _ => (za7 pf (.rv s p lo hi)).bind lenV) d k Q pf := rfl
@[go_sem ↓] theorem zHQ {ty t : TypeId} {x : Tmp} {d : Option Tmp} (hs : zaO P t = false) : pw1 P c co ty (.call ⟨.builtin .len, #[.tmp x], #[t]⟩) d k Q pf = qlm P c co t d k Q pf x (pf x) := by
 show (if zaO P t = true then zdW P co ⟨d, .call ⟨.builtin .len, #[.tmp x], #[t]⟩, ty, "", #[], none⟩ (pw P c k Q) pf else zlV P co t (.tmp x) d (pw P c k Q) pf) = _
 rw [if_neg (by simp [hs])]
 unfold zlV qlm
 cases hpt : pf x with
 | ls es rows =>
  have : ((pf.upd x (.v (.sl true es rows))).kill x 0) x = .v (.sl true es rows) := by simp [PFr.kill, PFr.upd, zbl, zar]
  simp only [lsM, hpt, this, za7, lenV, Option.bind_some, qln, qv]
  cases zax P t <;> rfl
 | _ =>
  simp only [lsM, hpt, qln, qv]
  generalize (zax P t).bind (fun _ => (za7 pf _).bind lenV) = o
  cases o <;> rfl
@[go_sem] theorem zIh {t : TypeId} {x : Operand} {s : ByteArray} (hs : zaO P t = true) : zaY P (.call ⟨.builtin .len, #[x], #[t]⟩) [.string s] = some (.int .i64 s.size) := by simp [zaY, Am.lenV, hs]
@[go_sem ↓] theorem zDi {ty t : TypeId} {x : Operand} {d : Option Tmp} (hs : zaO P t = true) : pw1 P c co ty (.call ⟨.builtin .len, #[x], #[t]⟩) d k Q pf = qv P c co (ev1 (fun v => zaY P (.call ⟨.builtin .len, #[x], #[t]⟩) [v]) (rdS pf x) pf) d k Q := by
 show (if zaO P t = true then zdW P co ⟨d, .call ⟨.builtin .len, #[x], #[t]⟩, ty, "", #[], none⟩ (pw P c k Q) pf else zlV P co t x d (pw P c k Q) pf) = _
 rw [if_pos hs]
 refine zia (o := ⟨d, .call ⟨.builtin .len, #[x], #[t]⟩, ty, "", #[], none⟩) ?_
 simp only [za2, zhA, Option.bind_some]
 cases rdS pf x <;> simp [ev1]
def apE (P : Program) (t : TypeId) (s x : Operand) (pf : PFr) : Option (PF × PFr) :=
 (ez P t).bind fun z => (zbh z.1 pf s).bind fun b => (bsR z.1 b.1).bind fun rows => (srO z.1 b.2 x).bind fun r =>
   if zdT r.1 = true ∧ (rows.length + r.1.length) * z.2.1 ≤ 140737488355328 ∧ rows.length + r.1.length ≤ 4611686018427387904 then some (.v (.sl true z.1 (rows ++ r.1)), r.2) else none
@[go_sem] theorem zIH {t : TypeId} {s x : Operand} : apE P t s x pf = (ez P t).bind fun z => (zbh z.1 pf s).bind fun b => (bsR z.1 b.1).bind fun rows => (srO z.1 b.2 x).bind fun r =>
 if zdT r.1 = true ∧ (rows.length + r.1.length) * z.2.1 ≤ 140737488355328 ∧ rows.length + r.1.length ≤ 4611686018427387904 then some (.v (.sl true z.1 (rows ++ r.1)), r.2) else none := rfl
@[go_sem ↓] theorem zzz {ty t : TypeId} {s x : Operand} {d : Option Tmp} : pw1 P c co ty (.call ⟨.builtin .append, #[s, x], #[t, t]⟩) d k Q pf = qv P c co (apE P t s x pf) d k Q := by
 show (if t = t then znk P co t s x d (pw P c k Q) pf else zmG P co t t s x d (pw P c k Q) pf) = _
 rw [if_pos rfl]
 unfold znk apE
 cases ez P t with
 | none => rfl
 | some z =>
  simp only [Option.bind_some]
  cases zbh z.1 pf s with
  | none => rfl
  | some b =>
   obtain ⟨b, pf1⟩ := b
   simp only [Option.bind_some, zoj]
   cases bsR z.1 b with
   | none => rfl
   | some rows =>
    simp only [Option.bind_some]
    cases srO z.1 pf1 x with
    | none => rfl
    | some r =>
     obtain ⟨rows2, pf2⟩ := r
     simp only [Option.bind_some, zou]
     by_cases h : zdT rows2 = true ∧ (rows.length + rows2.length) * z.2.1 ≤ 140737488355328 ∧ rows.length + rows2.length ≤ 4611686018427387904
     ·rw [if_pos h]
      simp only [h.1, h.2.1, h.2.2, true_and, qv]
     ·rw [if_neg h]
      simp only [qv, eq_iff_iff, iff_false]
      rintro ⟨a1, a2, _⟩
      exact h ⟨a1, a2⟩
theorem zwq {ty t : TypeId} {g : FuncId} {x : Operand} {ts : Array TypeId} {d : Option Tmp} {n : Int} {z : Nat × Nat × List PV} (h : zrO P g t) (hz : ez P t = some z) (hn : rdS pf x = some (.int .i64 n)) (hb : 0 ≤ n ∧ z.2.1 * n ≤ 140737488355328 ∧ n ≤ 4611686018427387904)
 (hk : qv P c co (some (.v (.sl true z.1 []), pf)) d k Q) : pw1 P c co ty (.call ⟨.value (.func g), #[.const (.slice none 0 0), x], ts⟩) d k Q pf := .inr ⟨g, x, t, n, z, rfl, rfl, h, hn, hz, hb, hk⟩
theorem zwH {ty : TypeId} {f : Operand} {args : Array Operand} {ts : Array TypeId} {d : Option Tmp} (ms : List Md) {l : List (Md × Nat × Operand)} {ys : List PV} {pf1 : PFr} {g : FuncId} {xs us : List PV} {as as' : List (Md × PV)}
 {R : PV → List PV → Prop} (hm : ms.length = args.toList.length) (hl : ms.zip (zdX P args.toList ts.toList) = l) (ha : zh4 pf l = some (ys, pf1)) (hf : fnO pf1 f = some (g, xs, us)) (hc : cargs pf1 l ys = some as)
 (has : xs.map (fun x => (Md.sh, x)) ++ as ++ us.map (fun x => (Md.sh, x)) = as') (h : PCalls P g as' R)
 (hk : ∀ r outs, R r outs → (l.any (zhp pf1) = false ∨ (za5 r && outs.all za5) = true) ∧ qv P c co ((back co.nt pf1 l (outs.drop xs.length)).map fun p => (.v r, p)) d k Q) : pw1 P c co ty (.call ⟨.value f, args, ts⟩) d k Q pf := by
 refine .inl ⟨ms, hm, ?_⟩
 rw [hl, ha]
 show zkd P co d (pw P c k Q) pf1 l (fnO pf1 f) (cargs pf1 l ys)
 rw [hf, hc]
 show PCalls P g _ _
 rw [has]
 refine h.mono fun r outs hr => ?_
 obtain ⟨h1, h2⟩ := hk r outs hr
 refine ⟨h1, ?_⟩
 cases hb : back co.nt pf1 l (outs.drop xs.length) with
 | none => rw [hb] at h2; exact h2
 | some p => rw [hb] at h2; exact h2
theorem zwk {id : Nat} {ops : Array Oper} (D : List DE) {L : List (DE × Oper)} (h1 : P.follows .mixedOrders = true) (h2 : zfU D ops.toList = true) (hL : D.map (fun x => (x, ops.toList.getD x.i default)) = L)
 (h : pw P c (.dops (ops.toList.map (·.dst)) L :: k) Q pf) : pw P c (.code (.region id ops true) :: k) Q pf := by
 subst hL
 exact ⟨h1, 0, D, h2, h⟩
theorem zpW {id : Nat} {ops : Array Oper} (a b : Nat) (D D' : List DE) {L L' : List (DE × Oper)} (h1 : P.follows .mixedOrders = true) (hab : a ≠ b) (h2 : zfU D ops.toList [(a, b)] = true) (h2' : zfU D' ops.toList [(b, a)] = true) (hL : D.map (fun x => (x, ops.toList.getD x.i default)) = L) (hL' : D'.map (fun x => (x, ops.toList.getD x.i default)) = L')
 (h : pw P c (.dops (ops.toList.map (·.dst)) L :: k) Q pf) (h' : pw P c (.dops (ops.toList.map (·.dst)) L' :: k) Q pf) : pw P c (.code (.region id ops true) :: k) Q pf := by
 subst hL
 subst hL'
 exact ⟨h1, 1, a, b, hab, ⟨D, h2, h⟩, ⟨D', h2', h'⟩⟩
theorem zlP {id : Nat} {ops : Array Oper} (a b x y u v : Nat) (D D' D2 : List DE) {L L' L2 : List (DE × Oper)} (h1 : P.follows .mixedOrders = true) (hab : a ≠ b ∧ x ≠ y ∧ u ≠ v) (h2 : zfU D ops.toList [(u, v), (a, b)] = true) (h3 : zfU D ops.toList [(v, u), (a, b)] = true)
 (h4 : zfU D' ops.toList [(x, y), (b, a)] = true) (h5 : zfU D2 ops.toList [(y, x), (b, a)] = true) (hL : D.map (fun x => (x, ops.toList.getD x.i default)) = L) (hL' : D'.map (fun x => (x, ops.toList.getD x.i default)) = L') (hL2 : D2.map (fun x => (x, ops.toList.getD x.i default)) = L2)
 (h : pw P c (.dops (ops.toList.map (·.dst)) L :: k) Q pf) (h' : pw P c (.dops (ops.toList.map (·.dst)) L' :: k) Q pf) (h'' : pw P c (.dops (ops.toList.map (·.dst)) L2 :: k) Q pf) : pw P c (.code (.region id ops true) :: k) Q pf := by
 subst hL
 subst hL'
 subst hL2
 exact ⟨h1, 2, a, b, hab.1, ⟨u, v, hab.2.2, ⟨D, h2, h⟩, ⟨D, h3, h⟩⟩, ⟨x, y, hab.2.1, ⟨D', h4, h'⟩, ⟨D2, h5, h''⟩⟩⟩
@[go_sem ↓] theorem zy2 {pre : List (Option Tmp)} : pw P c (.dops pre [] :: k) Q pf = pw P c k Q pf := rfl
def zci : Op → Bool
 | .call ⟨.value _, _, _⟩ => true
 | _ => false
def pwd (P : Program) (c : Cfg) (ext : Bool) (ty : TypeId) (op : Op) (d : Option Tmp) (k : List PIt) (Q : Exit → PFr → Prop) (pf : PFr) : Prop := zhG P c ext ⟨d, op, ty, "", #[], none⟩ (pw P c k Q) pf
theorem zqG {o o' : Oper} {ext : Bool} {K : PFr → Prop} (h : o.op = o'.op) (hd : o.dst = o'.dst) (ht : o.type = o'.type) : zhG P c ext o K pf = zhG P c ext o' K pf := by
 obtain ⟨d, op, ty, ps, af, g⟩ := o
 obtain ⟨d', op', ty', ps', af', g'⟩ := o'
 simp only at h hd ht
 subst h; subst hd; subst ht
 rfl
@[go_sem ↓] theorem zJN {pre : List (Option Tmp)} {e : DE} {d : Option Tmp} {op : Op} {ty : TypeId} {ps : String} {af : Array Edge} {l : List (DE × Oper)} (h : (zjB pf e.rg e.ls e.sl && zlv pf e.mr) = true) :
 pw P c (.dops pre ((e, ⟨d, op, ty, ps, af, none⟩) :: l) :: k) Q pf = pwd P c e.ex ty op d (.dops pre l :: k) Q pf := by
 show znp P c pre e ⟨d, op, ty, ps, af, none⟩ (pw P c (.dops pre l :: k) Q) pf = _
 simp only [znp, h, true_and, zmy]
 exact zqG rfl rfl rfl
def zfC (P : Program) (c : Cfg) (y : Option (Option Bool)) (b : Bool) (ext : Bool) (ty : TypeId) (op : Op) (d : Option Tmp) (k : List PIt) (Q : Exit → PFr → Prop) (pf : PFr) : Prop :=
 pgo c b d (pwd P c ext ty op d k Q pf) (pw P c k Q) pf y
theorem zrq {y y' : Option (Option Bool)} {b ext : Bool} {ty : TypeId} {op : Op} {d : Option Tmp} (h : y = y') : zfC P c y b ext ty op d k Q pf = zfC P c y' b ext ty op d k Q pf := by rw [h]
attribute [congr] zrq
@[go_sem ↓] theorem zGi {pre : List (Option Tmp)} {e : DE} {d : Option Tmp} {op : Op} {ty : TypeId} {ps : String} {af : Array Edge} {j : Nat} {b : Bool} {l : List (DE × Oper)} (h : (zjB pf e.rg e.ls e.sl && zlv pf e.mr) = true) :
 pw P c (.dops pre ((e, ⟨d, op, ty, ps, af, some (j, b)⟩) :: l) :: k) Q pf = zfC P c (ygP pf pre[j]?) b e.ex ty op d (.dops pre l :: k) Q pf := by
 show znp P c pre e ⟨d, op, ty, ps, af, some (j, b)⟩ (pw P c (.dops pre l :: k) Q) pf = _
 simp only [znp, h, true_and, zmy]
 unfold zfC pwd
 rw [zqG (o := ⟨d, op, ty, ps, af, some (j, b)⟩) (o' := ⟨d, op, ty, "", #[], none⟩) rfl rfl rfl]
@[go_sem ↓] theorem zHC {ext : Bool} {ty : TypeId} {op : Op} {d : Option Tmp} : zfC P c (some (some false)) false ext ty op d k Q pf = pwd P c ext ty op d k Q pf := by simp [zfC, pgo]
@[go_sem ↓] theorem zHa {ext : Bool} {ty : TypeId} {op : Op} {d : Tmp} (h : ckd c d .skip = true) : zfC P c (some (some true)) false ext ty op (some d) k Q pf = pw P c k Q (pf.put d .skip) := by simp [zfC, pgo, ziO, h]
theorem zrZ {y b ext : Bool} {ty : TypeId} {op : Op} {d : Option Tmp} (h1 : y = true → zfC P c (some (some true)) b ext ty op d k Q pf) (h2 : y = false → zfC P c (some (some false)) b ext ty op d k Q pf) : zfC P c (some (some y)) b ext ty op d k Q pf := by
 cases y
 ·exact h2 rfl
 ·exact h1 rfl
@[go_sem ↓] theorem zIQ {ext : Bool} {ty : TypeId} {op : Op} {d : Option Tmp} (hc : zci op = false) (he : (!ext || zdx op) = true) : pwd P c ext ty op d k Q pf = pw1 P c c.nohp ty op d k Q pf := by
 have he' : ext = true → zdx op = true := by intro h; subst h; simpa using he
 unfold pwd zhG pw1
 split
 ·simp_all [zci]
 ·simp only [eq_iff_iff]
  exact ⟨fun h => h.2, fun h => ⟨he', h⟩⟩
@[go_sem] theorem zKh {i : Nat} {sl rg : List Nat} {mr : Option Nat} {ls a b : Bool} : DE.ex ⟨i, sl, rg, mr, ls, a, b⟩ = (a && !b) := (rfl)
@[go_sem ↓] theorem zII {ty : TypeId} {f : Operand} {args : Array Operand} {ts : Array TypeId} {d : Option Tmp} : pwd P c false ty (.call ⟨.value f, args, ts⟩) d k Q pf = pw1 P c c.nohp ty (.call ⟨.value f, args, ts⟩) d k Q pf := by
 unfold pwd zhG pw1
 simp
theorem zuy {ty : TypeId} {f : Operand} {args : Array Operand} {ts : Array TypeId} {d : Option Tmp} {l : List (Md × Nat × Operand)} {ys : List PV} {pf1 : PFr} {g : FuncId} {xs us : List PV} {as as' : List (Md × PV)}
 {R : PV → List PV → Prop} (hl : (List.replicate args.toList.length Md.sh).zip (zdX P args.toList ts.toList) = l) (ha : zh4 pf l = some (ys, pf1)) (hf : fnO pf1 f = some (g, xs, us)) (hc : cargs pf1 l ys = some as)
 (has : xs.map (fun x => (Md.sh, x)) ++ as ++ us.map (fun x => (Md.sh, x)) = as') (h : PCalls P g as' R)
 (hk : ∀ r outs, R r outs → (l.any (zhp pf1) = false ∨ (za5 r && outs.all za5) = true) ∧ qv P c c ((back c.nt pf1 l (outs.drop xs.length)).map fun p => (.v r, p)) d k Q) : pwd P c true ty (.call ⟨.value f, args, ts⟩) d k Q pf := by
 refine ⟨by simp, ?_⟩
 rw [hl, ha]
 show zkd P c d (pw P c k Q) pf1 l (fnO pf1 f) (cargs pf1 l ys)
 rw [hf, hc]
 show PCalls P g _ _
 rw [has]
 refine h.mono fun r outs hr => ?_
 obtain ⟨h1, h2⟩ := hk r outs hr
 refine ⟨h1, ?_⟩
 cases hb : back c.nt pf1 l (outs.drop xs.length) with
 | none => rw [hb] at h2; exact h2
 | some p => rw [hb] at h2; exact h2
theorem zqv {f : FuncId} {fn : Func} {code : Code} {as : List (Md × PV)} {R : PV → List PV → Prop} (fz hp : List Nat) (hc : zae P f) (hf : P.funcs[f]? = some fn) (hb : fn.body = some code) (hlen : as.length ≤ fn.ntmps)
 (h : pw P ⟨fn.ntmps, ioL 0 as, fz, hp⟩ [.code code] (zie P fn.results.toList as R) (zgb as)) : PCalls P f as R := by
 refine zpn (fz := fz) (hp := hp) hc hf hb hlen ?_
 have e : zbJ P ⟨fn.ntmps, ioL 0 as, fz, hp⟩ [] (zie P fn.results.toList as R) = zie P fn.results.toList as R := by funext e; cases e <;> rfl
 have h' : pwp P ⟨fn.ntmps, ioL 0 as, fz, hp⟩ code (zbJ P ⟨fn.ntmps, ioL 0 as, fz, hp⟩ [] (zie P fn.results.toList as R)) (zgb as) := h
 rwa [e] at h'
@[go_sem] theorem zEl {rs : List ResultVar} {as : List (Md × PV)} {R : PV → List PV → Prop} : zie P rs as R .ret pf = zk5 as R (zgM P pf rs) := (rfl)
@[go_sem] theorem zzf {rs : List ResultVar} {as : List (Md × PV)} {R : PV → List PV → Prop} : zie P rs as R .normal pf = zk5 as R (zgM P pf rs) := (rfl)
@[go_sem] theorem zzV {as : List (Md × PV)} {R : PV → List PV → Prop} {x : List PV} : zk5 as R (some (x, pf)) = R (zo3 x) (ze0 pf 0 as) := (rfl)
@[go_sem] theorem zCd : zgM P pf [] = some ([], pf) := (rfl)
@[go_sem] theorem zAG {x : ResultVar} {xs : List ResultVar} : zgM P pf (x :: xs) = (zjV P pf x).bind fun a => (zgM P a.2 xs).map fun b => (a.1 :: b.1, b.2) := (rfl)
@[go_sem] theorem zCm {t : Tmp} : zjV P pf (.tmp t) = if zlH (pf t) = true then none else zeh pf t (pf t) := (rfl)
@[go_sem] theorem zBv {t : Tmp} {ty : TypeId} : zjV P pf (.cell t ty) = zmb pf t (pf t) (tk P ty) := (rfl)
@[go_sem] theorem zH3 {t sz : Nat} {row : List PV} : zmb pf t (.bl row) (some (true, sz)) = if sz = row.length then some (.agg row, (pf.upd t jP).kill t 0) else none := by cases row <;> rfl
@[go_sem] theorem zJm {x : PV} : zlH (.v x) = false := (rfl)
@[go_sem] theorem zHu {t : Tmp} : lsO pf (.tmp t) = zlH (pf t) := (rfl)
@[go_sem] theorem zEp : zo3 [] = .junk := (rfl)
@[go_sem] theorem zE3 {x : PV} : zo3 [x] = x := (rfl)
@[go_sem] theorem zC8 {x y : PV} {l : List PV} : zo3 (x :: y :: l) = .tup (x :: y :: l) := (rfl)
@[go_sem] theorem zFB {n : Nat} : ze0 pf n [] = [] := (rfl)
@[go_sem] theorem zHV {n : Nat} {x : PV} {l : List (Md × PV)} : ze0 pf n ((.io, x) :: l) = zsk (pf n) :: ze0 pf (n + 1) l := (rfl)
@[go_sem] theorem zIa {n : Nat} {x : PV} {l : List (Md × PV)} : ze0 pf n ((.sh, x) :: l) = .junk :: ze0 pf (n + 1) l := (rfl)
@[go_sem] theorem zG8 {n : Nat} {x : PV} {l : List (Md × PV)} : ze0 pf n ((.mv, x) :: l) = .junk :: ze0 pf (n + 1) l := (rfl)
@[go_sem] theorem zJP {x : PV} : zsk (.v x) = x := (rfl)
end
end Go.Pm
