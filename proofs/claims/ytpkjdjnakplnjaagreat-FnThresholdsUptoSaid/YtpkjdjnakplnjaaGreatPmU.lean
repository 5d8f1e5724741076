import Derived.Test.YtpkjdjnakplnjaaGreatPmT
namespace Go.Pm
open Go.Am
section
variable {P : Program} {c co : Cfg} {k : List PIt} {Q : Exit → PFr → Prop} {pf : PFr}
attribute [go_sem] Option.bind_some Option.bind_none Option.map_some Option.map_none Option.getD_some Option.getD_none
def orE : Option (PF × PFr) → Option (PF × PFr) → Option (PF × PFr)
 | some a, _ => some a
 | none, y => y
theorem ztu {a b c : Option (PF × PFr)} (h : a = b) : orE a c = orE b c := by rw [h]
@[go_sem ↓] theorem zHS {a : PF × PFr} {y : Option (PF × PFr)} : orE (some a) y = some a := rfl
@[go_sem ↓] theorem zEq {y : Option (PF × PFr)} : orE none y = y := rfl
def tkA : Option PF → PFr → Option (PF × PFr) → Option (PF × PFr)
 | some y, pf, _ => some (y, pf)
 | none, _, x => x
theorem zur {a b : Option PF} {pf : PFr} {x : Option (PF × PFr)} (h : a = b) : tkA a pf x = tkA b pf x := by rw [h]
@[go_sem ↓] theorem zGy {y : PF} {x : Option (PF × PFr)} : tkA (some y) pf x = some (y, pf) := rfl
@[go_sem ↓] theorem zIq {x : Option (PF × PFr)} : tkA none pf x = x := rfl
attribute [congr] ztu zur
@[go_sem ↓] theorem zHk {ty t : TypeId} {a : Operand} {d : Option Tmp} : pw1 P c co ty (.load t a) d k Q pf = qv P c co (orE (((tk P t).bind fun tz => (adr pf a).bind (ldA tz pf)).map fun y => (y, pf)) ((zqg P t pf a).map fun y => (y, pf))) d k Q := by
 show zlk P co t a d (pw P c k Q) pf = _
 unfold zlk
 cases (tk P t).bind fun tz => (adr pf a).bind (ldA tz pf) with
 | some y => rfl
 | none => cases zqg P t pf a <;> rfl
theorem zuk {d : Option Tmp} {x : Option AD} : pad co (pw P c k Q) d pf x = qv P c co (x.map fun ad => (zjn ad, pf)) d k Q := by cases x <;> rfl
@[go_sem ↓] theorem zDJ {ty s : TypeId} {x : Operand} {f : Nat} {d : Option Tmp} : pw1 P c co ty (.fieldAddr s x f) d k Q pf = qv P c co (((zaA P s f).bind fun o => (adr pf x).bind (zh9 o.1)).map fun ad => (zjn ad, pf)) d k Q := zuk
@[go_sem ↓] theorem zyS {ty : TypeId} {x : Operand} {d : Option Tmp} : pw1 P c co ty (.nilCheck x) d k Q pf = qv P c co ((adr pf x).map fun ad => (zjn ad, pf)) d k Q := zuk
@[go_sem] theorem zOf {t : TypeId} {x i : Operand} {es : Nat} (h : esz P t = some es) : ixE P t x i pf = (sbO pf x).bind (ixS es (rdS pf i)) := by simp [ixE, h]
@[go_sem] theorem zNW {t : TypeId} {x i : Operand} {len es : Nat} (h : asz P t = some (len, es)) (h0 : esz P t = none) : ixE P t x i pf = (adr pf x).bind (ixA len es (rdS pf i)) := by simp [ixE, h, h0]
@[go_sem ↓] theorem zxW {ty t : TypeId} {x i : Operand} {d : Option Tmp} : pw1 P c co ty (.indexAddr t x i) d k Q pf = qv P c co (orE ((ixE P t x i pf).map fun ad => (zjn ad, pf)) (znW P t x i pf)) d k Q := by
 show zjv P co t x i d (pw P c k Q) pf = _
 unfold zjv
 cases ixE P t x i pf with
 | some ad => rfl
 | none => cases znW P t x i pf <;> rfl
@[go_sem] theorem zMV {t : TypeId} {u : Nat} {i : Operand} : znW P t (.tmp u) i pf = zoW P t u pf (pf u) (rdS pf i) := (rfl)
@[go_sem] theorem zFf {t : TypeId} {u s i j n : Nat} {p : zac} {kk : IntKind} {q : Int} : zoW P t u pf (.as false s p i j n) (some (.int kk q)) = if esz P t = some 1 ∧ 0 ≤ q ∧ q < n then some (.as true s p i (j + q.toNat) 1, pf.put u jP) else none := (rfl)
@[go_sem] theorem zMB {t : TypeId} {u : Nat} : zqg P t pf (.tmp u) = (tk P t).bind fun tz => if tz.1 = false then zoV (pf u) else none := (rfl)
@[go_sem] theorem zEP {s i j n : Nat} {p : zac} : zoV (.as true s p i j n) = some (.rf s (p ++ [(i, j)])) := (rfl)
@[go_sem] theorem zMZ {t : Nat} {b : Bool} {s i j n : Nat} {p : zac} : adF pf t (.as b s p i j n) = none := (rfl)
@[go_sem] theorem zMU {t : Nat} {b : Bool} {s i j n : Nat} {p : zac} : sbF pf t (.as b s p i j n) = none := (rfl)
@[go_sem] theorem zLl {c : Cfg} {d : Nat} (h : c.fz = []) : mkd c d = false := by simp [mkd, h]
@[go_sem] theorem zOC {c : Cfg} {d : Nat} : mkd c d = c.fz.contains (d + 2 * c.nt) := (rfl)
@[go_sem] theorem zK6 {s : Nat} {p : zac} : zjd (.rf s p) = some (s, p) := (rfl)
@[go_sem] theorem zE3 {o : Bool} {es : Nat} {rows : List (List PV)} : zo2 (some (.sl o es rows)) = true := (rfl)
@[go_sem] theorem zEJ {s i j q : Nat} {p : zac} : zjY pf s p i j q [] = true := (rfl)
@[go_sem] theorem zDS {s i j q q' : Nat} {t : Tmp} {p : zac} {r : List (Nat × Operand)} : zjY pf s p i j q ((q', .tmp t) :: r) = if q' = q ∧ zjd (pf t) = some (s, p ++ [(i, j + q)]) ∧ zo2 (zaC pf s (p ++ [(i, j + q)])) = true then zjY pf s p i j (q + 1) r else false := (rfl)
@[go_sem] theorem zA4 {a : Nat × Nat} : zeD [a] = some ([], a.1, a.2) := (rfl)
@[go_sem] theorem zBq {a b : Nat × Nat} {r : zac} : zeD (a :: b :: r) = (zeD (b :: r)).map fun x => (a :: x.1, x.2) := (rfl)
@[go_sem] theorem zM0 {q : Nat} {t : Tmp} {r : List (Nat × Operand)} : znL pf ((q, .tmp t) :: r) = (zjd (pf t)).bind fun x => (zeD x.2).map fun y => (x.1, y) := (rfl)
@[go_sem] theorem zIT {t : TypeId} {len : Nat} {ps : List (Nat × Operand)} : zqp P t len ps pf = (ez P t).bind fun z => (znL pf ps).bind fun a => if z.1 = 1 ∧ len ≤ 2 ^ 24 ∧ ps.length = len ∧ zjY pf a.1 a.2.1 a.2.2.1 a.2.2.2 0 ps = true then some (.as false a.1 a.2.1 a.2.2.1 a.2.2.2 len) else none := (rfl)
def stA (pf : PFr) (cells : List PV) : AD → Option PFr
 | .pl s p i j => zdx pf s p i j cells
 | _ => none
def stE (P : Program) (t : TypeId) (a x : Operand) (pf : PFr) : Option PFr :=
 (tk P t).bind fun tz => (zbi (ezT P t) pf x).bind fun y => if zn0 tz.2 y.1 = true then (adr y.2 a).bind (stA y.2 (zaz y.1)) else none
@[go_sem] theorem zMn {t : TypeId} {a x : Operand} : stE P t a x pf = (tk P t).bind fun tz => (zbi (ezT P t) pf x).bind fun y => if zn0 tz.2 y.1 = true then (adr y.2 a).bind (stA y.2 (zaz y.1)) else none := (rfl)
@[go_sem ↓] theorem zEd {ty t : TypeId} {a x : Operand} : pw1 P c co ty (.store t a x) none k Q pf = qf P c (stE P t a x pf) k Q := by
 show zjA P co t a x none (pw P c k Q) pf = _
 unfold zjA stE
 cases tk P t with
 | none => rfl
 | some tz =>
  cases zbi (ezT P t) pf x with
  | none => rfl
  | some y =>
   obtain ⟨y, pf1⟩ := y
   obtain ⟨b, sz⟩ := tz
   simp only [Option.bind_some]
   by_cases h : zn0 sz y = true
   ·rw [if_pos h]
    cases ha : adr pf1 a with
    | none => simp [zim, qf]
    | some ad => cases ad with
     | pl s p i j => cases hp : zdx pf1 s p i j (zaz y) <;> simp [zim, qf, h, stA, hp]
     | fz row => simp [zim, qf, stA]
   ·rw [if_neg h]; simp [qf, h]
def alE (P : Program) (co : Cfg) (e : TypeId) (d : Nat) (pf : PFr) : Option PFr :=
 (zr P e).bind fun z => if ckd co d .skip = true then some (if co.hp.contains d = true then pf.put d (.v (.bx z)) else pf.put d (.bl z)) else none
@[go_sem] theorem zNJ {e : TypeId} {d : Nat} {z : List PV} (h : zr P e = some z) (h1 : ckd co d .skip = true) (h2 : co.hp.contains d = true) : alE P co e d pf = some (pf.put d (.v (.bx z))) := by unfold alE; rw [h, Option.bind_some, if_pos h1, if_pos h2]
@[go_sem] theorem zOV {e : TypeId} {d : Nat} {z : List PV} (h : zr P e = some z) (h1 : ckd co d .skip = true) (h2 : co.hp.contains d = false) : alE P co e d pf = some (pf.put d (.bl z)) := by unfold alE; rw [h, Option.bind_some, if_pos h1, if_neg (by rw [h2]; simp)]
@[go_sem ↓] theorem zDV {ty e : TypeId} {d : Tmp} : pw1 P c co ty (.alloc e) (some d) k Q pf = qf P c (alE P co e d pf) k Q := by
 show zjO P co e (some d) (pw P c k Q) pf = _
 unfold zjO alE
 cases zr P e with
 | none => rfl
 | some z =>
  simp only [Option.bind_some]
  by_cases h : ckd co d .skip = true
  ·rw [if_pos h]
   by_cases h2 : co.hp.contains d = true
   ·simp only [h, h2, qf, if_true, true_and]
   ·simp only [h, h2, qf, true_and]; simp
  ·rw [if_neg h]; simp [qf, h]
def bxE (P : Program) (co : Cfg) (e : TypeId) (x : Operand) (d : Nat) (pf : PFr) : Option PFr :=
 (tk P e).bind fun _ => (zbi (ezT P e) pf x).bind fun y => if (!lsO pf x && zbV y.1 && ckd co d .skip) = true then some (if co.hp.contains d = true then (if co.fz.contains d = true then (y.2.put d (.v (.bx (zaz y.1)))).put d (.v (drop (.bx (zaz y.1)))) else y.2.put d (.v (.bx (zaz y.1)))) else y.2.put d (.bl (zaz y.1))) else none
@[go_sem] theorem zMC {e : TypeId} {x : Operand} {d : Nat} : bxE P co e x d pf = (tk P e).bind fun _ => (zbi (ezT P e) pf x).bind fun y => if (!lsO pf x && zbV y.1 && ckd co d .skip) = true then some (if co.hp.contains d = true then (if co.fz.contains d = true then (y.2.put d (.v (.bx (zaz y.1)))).put d (.v (drop (.bx (zaz y.1)))) else y.2.put d (.v (.bx (zaz y.1)))) else y.2.put d (.bl (zaz y.1))) else none := (rfl)
@[go_sem ↓] theorem zLj {ty e : TypeId} {x : Operand} {d : Tmp} : pw1 P c co ty (.box e x) (some d) k Q pf = qf P c (bxE P co e x d pf) k Q := by
 show znI P co e x (some d) (pw P c k Q) pf = _
 unfold znI bxE
 cases tk P e with
 | none => rfl
 | some z =>
  cases zbi (ezT P e) pf x with
  | none => rfl
  | some y =>
   obtain ⟨y, pf1⟩ := y
   simp only [Option.bind_some]
   by_cases h : (!lsO pf x && zbV y && ckd co d .skip) = true
   ·rw [if_pos h]
    simp only [Bool.and_eq_true, Bool.not_eq_true'] at h
    by_cases h2 : co.hp.contains d = true
    ·by_cases h4 : co.fz.contains d = true
     ·simp only [h.1.1, h.1.2, h.2, h2, h4, qf, if_true, true_and]
     ·simp only [h.1.1, h.1.2, h.2, h2, h4, qf, if_true, true_and]; simp
    ·simp only [h.1.1, h.1.2, h.2, h2, qf, true_and]; simp
   ·rw [if_neg h]
    simp only [qf, eq_iff_iff, iff_false]
    rintro ⟨h1, h2, h3, _⟩
    exact h (by rw [h1, h2, h3]; rfl)
def zvT (P : Program) (co : Cfg) (t : TypeId) (len : Nat) (ps : List (Nat × Operand)) (d : Nat) (pf : PFr) : Option PFr :=
 (ez P t).bind fun z => (zfV pf (ps.map fun p => (zaQ P t p.1, p.2))).bind fun y => if len * z.1 ≤ 2 ^ 24 ∧ ckd co d .skip = true then (zgG z.1 ((ps.map (·.1)).zip (drx co d y.1)) (List.replicate len z.2.2)).map fun rows => y.2.put d (.ls z.1 rows) else none
@[go_sem] theorem zJU {d : Nat} {xs : List PV} (h : co.fz = []) : drx co d xs = xs := by simp [drx, h]
@[go_sem] theorem zOS {d : Nat} {xs : List PV} : drx co d xs = if co.fz.contains (d + 3 * co.nt) = true then xs.map drop else xs := (rfl)
@[go_sem] theorem zKF {t : TypeId} {len : Nat} {ps : List (Nat × Operand)} {d : Nat} : zvT P co t len ps d pf = (ez P t).bind fun z => (zfV pf (ps.map fun p => (zaQ P t p.1, p.2))).bind fun y => if len * z.1 ≤ 2 ^ 24 ∧ ckd co d .skip = true then (zgG z.1 ((ps.map (·.1)).zip (drx co d y.1)) (List.replicate len z.2.2)).map fun rows => y.2.put d (.ls z.1 rows) else none := (rfl)
@[go_sem ↓] theorem zxc {ty t : TypeId} {len : Nat} {ps : Array (Nat × Operand)} {d : Tmp} : pw1 P c co ty (.buildSlice t len ps) (some d) k Q pf = if mkd co d = true then qv P c co ((zqp P t len ps.toList pf).map fun y => (y, pf)) (some d) k Q else qf P c (zvT P co t len ps.toList d pf) k Q := by
 show znw P co t len ps.toList (some d) (pw P c k Q) pf = _
 unfold znw zvT
 by_cases hm : mkd co d = true
 ·rw [if_pos hm, if_pos (show zvq co (some d) = true from hm)]
  unfold zmJ
  cases zqp P t len ps.toList pf <;> rfl
 rw [if_neg hm, if_neg (show ¬ zvq co (some d) = true from hm)]
 cases ez P t with
 | none => rfl
 | some z =>
  cases zfV pf (ps.toList.map fun p => (zaQ P t p.1, p.2)) with
  | none => rfl
  | some y =>
   obtain ⟨xs, pf1⟩ := y
   simp only [Option.bind_some]
   by_cases h : len * z.1 ≤ 2 ^ 24 ∧ ckd co d .skip = true
   ·rw [if_pos h]
    cases zgG z.1 ((ps.toList.map (·.1)).zip (drx co d xs)) (List.replicate len z.2.2) <;> simp only [zoO, qf, h.1, h.2, true_and, and_false, Option.map_none, Option.map_some]
   ·rw [if_neg h]
    simp only [qf, eq_iff_iff, iff_false]
    rintro ⟨h1, h2⟩
    cases hf : zgG z.1 ((ps.toList.map (·.1)).zip (drx co d xs)) (List.replicate len z.2.2) with
    | none => rw [hf] at h2; exact h2
    | some r => rw [hf] at h2; exact h ⟨h1, h2.1⟩
@[go_sem ↓] theorem zC1 {ty t : TypeId} {ps : Array (Nat × Operand)} {d : Option Tmp} : pw1 P c co ty (.build t ps) d k Q pf =
 qv P c co ((zfN P t).bind fun b => (zfV pf (ps.toList.map fun p => (zaQ P t p.1, p.2))).bind fun y => (zhR b.1 ((ps.toList.map (·.1)).zip y.1) b.2).map fun row => (.v (.agg row), y.2)) d k Q := by
 show zjI P co t ps.toList d (pw P c k Q) pf = _
 unfold zjI
 cases zfN P t with
 | none => rfl
 | some b =>
  cases zfV pf (ps.toList.map fun p => (zaQ P t p.1, p.2)) with
  | none => rfl
  | some y =>
   simp only [Option.bind_some]
   cases zhR b.1 ((ps.toList.map (·.1)).zip y.1) b.2 <;> rfl
def pkV (b x y : Option Value) : Option PV :=
 match b with
 | some (.bool true) => x.bind zed
 | some (.bool false) => y.bind zed
 | _ => none
@[go_sem ↓] theorem zHc {ty : TypeId} {b x y : Operand} {d : Option Tmp} : pw1 P c co ty (.pick b x y) d k Q pf = qv P c co ((pkV (rdS pf b) (rdS pf x) (rdS pf y)).map fun z => (.v z, pf)) d k Q := by
 show zll co b x y d (pw P c k Q) pf = _
 unfold zll zs9 pkV
 cases rdS pf b with
 | none => rfl
 | some v =>
  cases v with
  | bool b =>
   cases b
   ·simp only []
    cases (rdS pf y).bind zed <;> rfl
   ·simp only []
    cases (rdS pf x).bind zed <;> rfl
  | _ => rfl
@[go_sem] theorem zOa {x y : Option Value} : pkV (some (.bool true)) x y = x.bind zed := (rfl)
@[go_sem] theorem zP2 {x y : Option Value} : pkV (some (.bool false)) x y = y.bind zed := (rfl)
@[go_sem] theorem zID {b : Bool} {j : IntKind} {m n : Int} : pkV (some (.bool b)) (some (.int j m)) (some (.int j n)) = some (.int j (if b = true then m else n)) := by cases b <;> rfl
@[go_sem] theorem zG4 {b m n : Bool} : pkV (some (.bool b)) (some (.bool m)) (some (.bool n)) = some (.bool (if b = true then m else n)) := by cases b <;> rfl
@[go_sem] theorem zLw {b : Bool} {m n : ByteArray} : pkV (some (.bool b)) (some (.string m)) (some (.string n)) = some (.str (if b = true then m else n)) := by cases b <;> rfl
def mkV (b : Bool) (z : Nat × Nat × List PV) (pf : PFr) : Option Value → Option Value → Option (PF × PFr)
 | some (.int .i64 n), some (.int .i64 m) => if 0 ≤ n ∧ n ≤ m ∧ z.2.1 * m ≤ 140737488355328 ∧ m ≤ 4611686018427387904 then some (.v (.sl true z.1 (List.replicate n.toNat (uz b z.2.2))), pf) else none
 | _, _ => none
@[go_sem] theorem zJv {b : Bool} {z : Nat × Nat × List PV} {n m : Int} : mkV b z pf (some (.int .i64 n)) (some (.int .i64 m)) = if 0 ≤ n ∧ n ≤ m ∧ z.2.1 * m ≤ 140737488355328 ∧ m ≤ 4611686018427387904 then some (.v (.sl true z.1 (List.replicate n.toNat (uz b z.2.2))), pf) else none := (rfl)
@[go_sem] theorem zEZ {d : Nat} : nzB co (some d) = co.fz.contains (d + co.nt) := (rfl)
@[go_sem] theorem zHz : nzB co none = false := (rfl)
@[go_sem] theorem zGm {z : List PV} : uz false z = z := (rfl)
@[go_sem] theorem zJj {z : List PV} : uz true z = z.map ud := (rfl)
@[go_sem] theorem zOW {o : Bool} {e : Nat} : ud (.sl o e []) = .sl true e [] := (rfl)
@[go_sem] theorem zMg {j : IntKind} {n : Int} : ud (.int j n) = .int j n := (rfl)
@[go_sem] theorem zKM {b : Bool} : ud (.bool b) = .bool b := (rfl)
@[go_sem] theorem zMH {b : ByteArray} : ud (.str b) = .str b := (rfl)
@[go_sem ↓] theorem zxO {ty t : TypeId} {l cc : Operand} {d : Option Tmp} : pw1 P c co ty (.makeSlice t l cc) d k Q pf = qv P c co ((ez P t).bind fun z => mkV (nzB co d) z pf (rdS pf l) (rdS pf cc)) d k Q := by
 show zlm P co t l cc d (pw P c k Q) pf = _
 unfold zlm
 cases ez P t with
 | none => rfl
 | some z =>
  simp only [Option.bind_some]
  generalize rdS pf l = x1
  generalize rdS pf cc = x2
  unfold zsl mkV
  split
  ·rename_i n m
   simp only []
   by_cases h : 0 ≤ n ∧ n ≤ m ∧ z.2.1 * m ≤ 140737488355328 ∧ m ≤ 4611686018427387904
   ·rw [if_pos h]
    simp only [h, true_and]
    rfl
   ·rw [if_neg h]
    simp only [qv, eq_iff_iff, iff_false]
    rintro ⟨a1, _⟩
    exact h a1
  ·rename_i h1
   split
   ·rename_i e1; exact absurd rfl (h1 _ _ rfl)
   ·rfl
theorem zwH {ty t u : TypeId} {op : BinOp} {x y : Operand} {d : Tmp} {q : Bool} {rows : List (List PV)} (hy : zgt y = true) (hp : co.hp.isEmpty = false) (he : (zay P t).isSome = true) (hq : zpe op = some q) (hx : zvW pf x = some rows)
 (hk : ∀ b, (rows ≠ [] → b = !q) → qv P c co (some (.v (.bool b), pf)) (some d) k Q) : pw1 P c co ty (.binOp op t x y u) (some d) k Q pf := by
 show pop P co ⟨some d, .binOp op t x y u, ty, "", #[], none⟩ (pw P c k Q) pf
 simp only [pop, hy, if_true]
 refine ⟨(by intro e; rw [e] at hp; cases hp), ?_⟩
 cases x with
 | tmp s =>
  unfold zkb
  simp only [hq, hx]
  exact ⟨he, fun b hb => hk b hb⟩
 | _ => simp [zvW] at hx
@[go_sem ↓] theorem zy2 {ty : TypeId} {fn : Fn} {xs ys : Array Operand} {d : Option Tmp} : pw1 P c co ty (.makeFunc fn xs ys) d k Q pf =
 qv P c co ((zjk (!co.hp.isEmpty) pf (xs.toList ++ ys.toList)).map fun vs => (.v (.func fn (vs.1.take xs.toList.length) (vs.1.drop xs.toList.length)), vs.2)) d k Q := by
 show zlp co fn xs.toList ys.toList d (pw P c k Q) pf = _
 unfold zlp
 cases zjk (!co.hp.isEmpty) pf (xs.toList ++ ys.toList) <;> rfl
def mvF (nt : Nat) (t : Nat) (pf : PFr) : PF → Option (PF × PFr)
 | .v x => if isJ x = true then none else some (if zaF x = true then .rf t [] else .v x, pf)
 | .ls es rows => if t < nt then some (.rf t [], (pf.upd t (.v (.sl true es rows))).kill t 0) else none
 | .bl _ => some (.pt t [] 0 0, pf)
 | .skip => none
 | .as .. => none
 | y => some (y, pf)
@[go_sem] theorem zO5 {nt t : Nat} {x : PV} (h : isJ x = false) : mvF nt t pf (.v x) = some (if zaF x = true then .rf t [] else .v x, pf) := by simp [mvF, h]
@[go_sem] theorem zNa {nt t es : Nat} {rows : List (List PV)} (h : t < nt) : mvF nt t pf (.ls es rows) = some (.rf t [], (pf.upd t (.v (.sl true es rows))).kill t 0) := by simp [mvF, h]
@[go_sem] theorem zM7 {nt t : Nat} {row : List PV} : mvF nt t pf (.bl row) = some (.pt t [] 0 0, pf) := (rfl)
@[go_sem] theorem zMx {nt t s i j : Nat} {p : zac} : mvF nt t pf (.pt s p i j) = some (.pt s p i j, pf) := (rfl)
@[go_sem] theorem zNf {nt t s : Nat} {p : zac} : mvF nt t pf (.rf s p) = some (.rf s p, pf) := (rfl)
@[go_sem] theorem zMD {nt t s lo hi : Nat} {p : zac} : mvF nt t pf (.rv s p lo hi) = some (.rv s p lo hi, pf) := (rfl)
@[go_sem] theorem zNm {nt t s i j n : Nat} {p : zac} : mvF nt t pf (.ra s p i j n) = some (.ra s p i j n, pf) := (rfl)
@[go_sem ↓] theorem zAs {ty : TypeId} {t : Tmp} {d : Option Tmp} : pw1 P c co ty (.move (.tmp t)) d k Q pf = qv P c co (mvF co.nt t pf (pf t)) d k Q := by
 show zgz co t d (pw P c k Q) pf (pf t) = _
 unfold zgz mvF
 cases pf t with
 | v x =>
  cases hj : isJ x
  ·cases ho : zaF x <;> simp [hj, ho, qv]
  ·simp [hj, qv]
 | ls es rows =>
  by_cases h : t < co.nt
  ·simp [h, qv]
  ·simp [h, qv]
 | _ => rfl
def tkV (x : Option (PV × PFr)) : Option (PF × PFr) := x.map fun y => (.v y.1, y.2)
@[go_sem] theorem zHA {y : PV} : tkV (some (y, pf)) = some (.v y, pf) := (rfl)
@[go_sem ↓] theorem zAf {ty : TypeId} {k0 : Value} {d : Option Tmp} : pw1 P c co ty (.move (.const k0)) d k Q pf = qv P c co (tkV (zbi (ezT P ty) pf (.const k0))) d k Q := by
 show zhc (ezT P ty) co (.const k0) d (pw P c k Q) pf = _
 unfold zhc
 simp only []
 cases zbi (ezT P ty) pf (.const k0) <;> rfl
@[go_sem ↓] theorem zCk {ty : TypeId} {d : Option Tmp} {g : FuncId} : pw1 P c co ty (.move (.func g)) d k Q pf = qv P c co (tkV (zbi (ezT P ty) pf (.func g))) d k Q := by
 show zhc (ezT P ty) co (.func g) d (pw P c k Q) pf = _
 unfold zhc
 simp only []
 cases zbi (ezT P ty) pf (.func g) <;> rfl
@[go_sem ↓] theorem zBZ {ty : TypeId} {x : Operand} {d : Option Tmp} : pw1 P c co ty (.assign x) d k Q pf = qv P c co (tkA (zl5 co pf d x) pf (tkV (zbi (ezT P ty) pf x))) d k Q := by
 show ziq (ezT P ty) co x d (pw P c k Q) pf = _
 unfold ziq
 cases zl5 co pf d x with
 | some y => rfl
 | none => cases zbi (ezT P ty) pf x <;> rfl
@[go_sem] theorem zLI {d : Nat} {t : Tmp} : zl5 co pf (some d) (.tmp t) = if mkd co d = true then (zjd (pf t)).map fun x => .rf x.1 x.2 else none := (rfl)
@[go_sem] theorem zMi {d : Option Tmp} {x : Value} : zl5 co pf d (.const x) = none := by cases d <;> rfl
@[go_sem] theorem zM9 {d : Option Tmp} {x : FuncId} : zl5 co pf d (.func x) = none := by cases d <;> rfl
def exV (pf : PFr) (s : Nat) (xs : List PV) (i : Nat) : Option PV → Option (PF × PFr)
 | some y => if isJ y = true then none else some (.v y, if zaF y = true then (pf.upd s (.v (.tup (xs.set i .junk)))).kill s 1 else pf)
 | none => none
@[go_sem] theorem zFw {s i : Nat} {xs : List PV} {y : PV} (h : isJ y = false) : exV pf s xs i (some y) = some (.v y, if zaF y = true then (pf.upd s (.v (.tup (xs.set i .junk)))).kill s 1 else pf) := by simp [exV, h]
@[go_sem] theorem zKp {t : Tmp} : exO pf (.tmp t) = match pf t with
 | .rf s [] => exR s (pf s)
 | y => exR t y := rfl
@[go_sem] theorem zPa {s : Nat} {xs : List PV} : exR s (.v (.tup xs)) = some (s, xs) := (rfl)
@[go_sem ↓] theorem zzJ {ty : TypeId} {x : Operand} {i : Nat} {d : Option Tmp} : pw1 P c co ty (.extract x i) d k Q pf = qv P c co ((exO pf x).bind fun a => if a.1 < co.nt then exV pf a.1 a.2 i a.2[i]? else none) d k Q := by
 show zhu co x i d (pw P c k Q) pf = _
 unfold zhu
 cases exO pf x with
 | none => rfl
 | some a =>
  obtain ⟨s, xs⟩ := a
  simp only [Option.bind_some]
  by_cases h : s < co.nt
  ·rw [if_pos h]
   simp only [h, true_and]
   cases xs[i]? with
   | none => rfl
   | some y =>
    cases hj : isJ y
    ·cases ho : zaF y <;> simp [pex, exV, hj, ho, qv]
    ·simp [pex, exV, hj, qv]
  ·rw [if_neg h]; simp [h, qv]
def slE (es t : Nat) (pf : PFr) (l h m : Option (Option Nat)) : Option (PF × PFr) :=
 match l, h, m with
 | some l, some h, some none => (slF es (l.getD 0) h pf t (pf t)).map fun y => (y, pf)
 | some l, some (some h), some (some m) => ((za6 pf (pf t)).bind lenV).bind fun rows => (slF es (l.getD 0) (some h) pf t (pf t)).bind fun _ => if l.getD 0 = h ∧ h = m ∧ m ≤ rows.length then some (.v (.sl true es []), pf) else none
 | _, _, _ => none
@[go_sem] theorem zAU {es t : Nat} {l h : Option Nat} : slE es t pf (some l) (some h) (some none) = (slF es (l.getD 0) h pf t (pf t)).map fun y => (y, pf) := by cases h <;> rfl
@[go_sem] theorem zCI {es t : Nat} {l : Option Nat} {h m : Nat} : slE es t pf (some l) (some (some h)) (some (some m)) = ((za6 pf (pf t)).bind lenV).bind fun rows => (slF es (l.getD 0) (some h) pf t (pf t)).bind fun _ => if l.getD 0 = h ∧ h = m ∧ m ≤ rows.length then some (.v (.sl true es []), pf) else none := (rfl)
theorem zwQ {es t : Nat} {d : Option Tmp} {l h m : Option (Option Nat)} : zn3 co es t d (pw P c k Q) pf l h m = qv P c co (slE es t pf l h m) d k Q := by
 cases l with
 | none => rfl
 | some l =>
  cases h with
  | none => rfl
  | some h =>
   cases m with
   | none => rfl
   | some m =>
    cases m with
    | none =>
     rw [zAU]
     cases h <;> simp only [zn3] <;> cases slF es (l.getD 0) _ pf t (pf t) <;> rfl
    | some m =>
     cases h with
     | none => rfl
     | some h =>
      rw [zCI]
      simp only [zn3]
      cases (za6 pf (pf t)).bind lenV with
      | none => rfl
      | some rows =>
       simp only [Option.bind_some]
       cases slF es (l.getD 0) (some h) pf t (pf t) with
       | none => simp [qv]
       | some y =>
        by_cases hh : l.getD 0 = h ∧ h = m ∧ m ≤ rows.length
        ·simp [hh, qv]
        ·simp [hh, qv]
@[go_sem ↓] theorem zC3 {ty t : TypeId} {x : Tmp} {l h m : Option Operand} {d : Option Tmp} (hs : zaI P t = false) : pw1 P c co ty (.slice t (.tmp x) l h m) d k Q pf = qv P c co ((esz P t).bind fun es => slE es x pf (rdB pf l) (rdB pf h) (rdB pf m)) d k Q := by
 show (if zaI P t = true then zef P co ⟨d, .slice t (.tmp x) l h m, ty, "", #[], none⟩ (pw P c k Q) pf else zjQ P co t (.tmp x) l h m d (pw P c k Q) pf) = _
 rw [if_neg (by simp [hs])]
 unfold zjQ
 cases esz P t with
 | none => rfl
 | some es => exact zwQ
def qln (P : Program) (c co : Cfg) (x : Option (List (List PV))) (d : Option Tmp) (k : List PIt) (Q : Exit → PFr → Prop) (pf : PFr) : Prop :=
 match x with
 | some rows => rows.length ≤ zcx → qv P c co (some (.v (.int .i64 rows.length), pf)) d k Q
 | none => False
theorem ztZ {x x' : Option (List (List PV))} {d : Option Tmp} (h : x = x') : qln P c co x d k Q pf = qln P c co x' d k Q pf := by rw [h]
attribute [congr] ztZ
def qlm (P : Program) (c co : Cfg) (t : TypeId) (d : Option Tmp) (k : List PIt) (Q : Exit → PFr → Prop) (pf : PFr) (x : Nat) : PF → Prop
 | .ls es rows => qln P c co ((zay P t).bind fun _ => some rows) d k Q ((pf.upd x (.v (.sl true es rows))).kill x 0)
 | y => qln P c co ((zay P t).bind fun _ => (za6 pf y).bind lenV) d k Q pf
theorem ztM {t : TypeId} {d : Option Tmp} {x : Nat} {y y' : PF} (h : y = y') : qlm P c co t d k Q pf x y = qlm P c co t d k Q pf x y' := by rw [h]
attribute [congr] ztM
@[go_sem ↓] theorem zMQ {t : TypeId} {d : Option Tmp} {x es : Nat} {rows : List (List PV)} : qlm P c co t d k Q pf x (.ls es rows) = qln P c co ((zay P t).bind fun _ => some rows) d k Q ((pf.upd x (.v (.sl true es rows))).kill x 0) := rfl
@[go_sem ↓] theorem zOb {t : TypeId} {d : Option Tmp} {x : Nat} {y : PV} : qlm P c co t d k Q pf x (.v y) = qln P c co ((zay P t).bind fun _ => lenV y) d k Q pf := rfl
@[go_sem ↓] theorem zM3 {t : TypeId} {d : Option Tmp} {x s : Nat} {p : zac} : qlm P c co t d k Q pf x (.rf s p) = qln P c co ((zay P t).bind fun _ => (za6 pf (.rf s p)).bind lenV) d k Q pf := rfl
@[go_sem ↓] theorem zMb {t : TypeId} {d : Option Tmp} {x s lo hi : Nat} {p : zac} : qlm P c co t d k Q pf x (.rv s p lo hi) = qln P c co ((zay P t).bind fun _ => (za6 pf (.rv s p lo hi)).bind lenV) d k Q pf := rfl
@[go_sem ↓] theorem zJn {ty t : TypeId} {x : Tmp} {d : Option Tmp} (hs : zaI P t = false) : pw1 P c co ty (.call ⟨.builtin .len, #[.tmp x], #[t]⟩) d k Q pf = qlm P c co t d k Q pf x (pf x) := by
 show (if zaI P t = true then zef P co ⟨d, .call ⟨.builtin .len, #[.tmp x], #[t]⟩, ty, "", #[], none⟩ (pw P c k Q) pf else zmf P co t (.tmp x) d (pw P c k Q) pf) = _
 rw [if_neg (by simp [hs])]
 unfold zmf qlm
 cases hpt : pf x with
 | ls es rows =>
  have : ((pf.upd x (.v (.sl true es rows))).kill x 0) x = .v (.sl true es rows) := by simp [PFr.kill, PFr.upd, zaV, zap]
  simp only [lsM, hpt, this, za6, lenV, Option.bind_some, qln, qv]
  cases zay P t <;> rfl
 | _ =>
  simp only [lsM, hpt, qln, qv]
  generalize (zay P t).bind (fun _ => (za6 pf _).bind lenV) = o
  cases o <;> rfl
@[go_sem] theorem zLm {t : TypeId} {x : Operand} {s : ByteArray} (hs : zaI P t = true) : za1 P (.call ⟨.builtin .len, #[x], #[t]⟩) [.string s] = some (.int .i64 s.size) := by simp [za1, Am.lenV, hs]
@[go_sem ↓] theorem zIk {ty t : TypeId} {x : Operand} {d : Option Tmp} (hs : zaI P t = true) : pw1 P c co ty (.call ⟨.builtin .len, #[x], #[t]⟩) d k Q pf = qv P c co (ev1 (fun v => za1 P (.call ⟨.builtin .len, #[x], #[t]⟩) [v]) (rdS pf x) pf) d k Q := by
 show (if zaI P t = true then zef P co ⟨d, .call ⟨.builtin .len, #[x], #[t]⟩, ty, "", #[], none⟩ (pw P c k Q) pf else zmf P co t x d (pw P c k Q) pf) = _
 rw [if_pos hs]
 refine zgL (o := ⟨d, .call ⟨.builtin .len, #[x], #[t]⟩, ty, "", #[], none⟩) ?_
 simp only [zaZ, zhm, Option.bind_some]
 cases rdS pf x <;> simp [ev1]
def apE (P : Program) (t : TypeId) (s x : Operand) (pf : PFr) : Option (PF × PFr) :=
 (ez P t).bind fun z => (zbi z.1 pf s).bind fun b => (bsR z.1 b.1).bind fun rows => (srO z.1 b.2 x).bind fun r =>
   if zd7 r.1 = true ∧ (rows.length + r.1.length) * z.2.1 ≤ 140737488355328 ∧ rows.length + r.1.length ≤ 4611686018427387904 then some (.v (.sl true z.1 (rows ++ r.1)), r.2) else none
@[go_sem] theorem zNl {t : TypeId} {s x : Operand} : apE P t s x pf = (ez P t).bind fun z => (zbi z.1 pf s).bind fun b => (bsR z.1 b.1).bind fun rows => (srO z.1 b.2 x).bind fun r =>
 if zd7 r.1 = true ∧ (rows.length + r.1.length) * z.2.1 ≤ 140737488355328 ∧ rows.length + r.1.length ≤ 4611686018427387904 then some (.v (.sl true z.1 (rows ++ r.1)), r.2) else none := rfl
@[go_sem ↓] theorem zBB {ty t : TypeId} {s x : Operand} {d : Option Tmp} : pw1 P c co ty (.call ⟨.builtin .append, #[s, x], #[t, t]⟩) d k Q pf = qv P c co (apE P t s x pf) d k Q := by
 show (if t = t then znB P co t s x d (pw P c k Q) pf else znk P co t t s x d (pw P c k Q) pf) = _
 rw [if_pos rfl]
 unfold znB apE
 cases ez P t with
 | none => rfl
 | some z =>
  simp only [Option.bind_some]
  cases zbi z.1 pf s with
  | none => rfl
  | some b =>
   obtain ⟨b, pf1⟩ := b
   simp only [Option.bind_some, zoX]
   cases bsR z.1 b with
   | none => rfl
   | some rows =>
    simp only [Option.bind_some]
    cases srO z.1 pf1 x with
    | none => rfl
    | some r =>
     obtain ⟨rows2, pf2⟩ := r
     simp only [Option.bind_some, zo1]
     by_cases h : zd7 rows2 = true ∧ (rows.length + rows2.length) * z.2.1 ≤ 140737488355328 ∧ rows.length + rows2.length ≤ 4611686018427387904
     ·rw [if_pos h]
      simp only [h.1, h.2.1, h.2.2, true_and, qv]
     ·rw [if_neg h]
      simp only [qv, eq_iff_iff, iff_false]
      rintro ⟨a1, a2, _⟩
      exact h ⟨a1, a2⟩
theorem zxv {ty t : TypeId} {g : FuncId} {x : Operand} {ts : Array TypeId} {d : Option Tmp} {n : Int} {z : Nat × Nat × List PV} (h : zsw P g t) (hz : ez P t = some z) (hn : rdS pf x = some (.int .i64 n)) (hb : 0 ≤ n ∧ z.2.1 * n ≤ 140737488355328 ∧ n ≤ 4611686018427387904)
 (hk : qv P c co (some (.v (.sl true z.1 []), pf)) d k Q) : pw1 P c co ty (.call ⟨.value (.func g), #[.const (.slice none 0 0), x], ts⟩) d k Q pf := .inr ⟨g, x, t, n, z, rfl, rfl, h, hn, hz, hb, hk⟩
theorem zwP {ty : TypeId} {f : Operand} {args : Array Operand} {ts : Array TypeId} {d : Option Tmp} (ms : List Md) {l : List (Md × Nat × Operand)} {ys : List PV} {pf1 : PFr} {g : FuncId} {xs us : List PV} {as as' : List (Md × PV)}
 {R : PV → List PV → Prop} (hm : ms.length = args.toList.length) (hl : ms.zip (zeb P args.toList ts.toList) = l) (ha : ziL pf l = some (ys, pf1)) (hf : fnO pf1 f = some (g, xs, us)) (hc : cargs pf1 l ys = some as)
 (has : xs.map (fun x => (Md.sh, x)) ++ as ++ us.map (fun x => (Md.sh, x)) = as') (h : PCalls P g as' R)
 (hk : ∀ r outs, R r outs → (l.any (zhN pf1) = false ∨ (zaS r && outs.all zaS) = true) ∧ qv P c co ((back co.nt pf1 l (outs.drop xs.length)).map fun p => (.v r, p)) d k Q) : pw1 P c co ty (.call ⟨.value f, args, ts⟩) d k Q pf := by
 refine .inl ⟨ms, hm, ?_⟩
 rw [hl, ha]
 show zkE P co d (pw P c k Q) pf1 l (fnO pf1 f) (cargs pf1 l ys)
 rw [hf, hc]
 show PCalls P g _ _
 rw [has]
 refine h.mono fun r outs hr => ?_
 obtain ⟨h1, h2⟩ := hk r outs hr
 refine ⟨h1, ?_⟩
 cases hb : back co.nt pf1 l (outs.drop xs.length) with
 | none => rw [hb] at h2; exact h2
 | some p => rw [hb] at h2; exact h2
theorem zw5 {id : Nat} {ops : Array Oper} (D : List DE) {L : List (DE × Oper)} (h1 : P.follows .mixedOrders = true) (h2 : zf5 D ops.toList = true) (hL : D.map (fun x => (x, ops.toList.getD x.i default)) = L)
 (h : pw P c (.dops (ops.toList.map (·.dst)) L :: k) Q pf) : pw P c (.code (.region id ops true) :: k) Q pf := by
 subst hL
 exact ⟨h1, 0, D, h2, h⟩
theorem zqb {id : Nat} {ops : Array Oper} (a b : Nat) (D D' : List DE) {L L' : List (DE × Oper)} (h1 : P.follows .mixedOrders = true) (hab : a ≠ b) (h2 : zf5 D ops.toList [(a, b)] = true) (h2' : zf5 D' ops.toList [(b, a)] = true) (hL : D.map (fun x => (x, ops.toList.getD x.i default)) = L) (hL' : D'.map (fun x => (x, ops.toList.getD x.i default)) = L')
 (h : pw P c (.dops (ops.toList.map (·.dst)) L :: k) Q pf) (h' : pw P c (.dops (ops.toList.map (·.dst)) L' :: k) Q pf) : pw P c (.code (.region id ops true) :: k) Q pf := by
 subst hL
 subst hL'
 exact ⟨h1, 1, a, b, hab, ⟨D, h2, h⟩, ⟨D', h2', h'⟩⟩
theorem zmg {id : Nat} {ops : Array Oper} (a b x y u v : Nat) (D D' D2 : List DE) {L L' L2 : List (DE × Oper)} (h1 : P.follows .mixedOrders = true) (hab : a ≠ b ∧ x ≠ y ∧ u ≠ v) (h2 : zf5 D ops.toList [(u, v), (a, b)] = true) (h3 : zf5 D ops.toList [(v, u), (a, b)] = true)
 (h4 : zf5 D' ops.toList [(x, y), (b, a)] = true) (h5 : zf5 D2 ops.toList [(y, x), (b, a)] = true) (hL : D.map (fun x => (x, ops.toList.getD x.i default)) = L) (hL' : D'.map (fun x => (x, ops.toList.getD x.i default)) = L') (hL2 : D2.map (fun x => (x, ops.toList.getD x.i default)) = L2)
 (h : pw P c (.dops (ops.toList.map (·.dst)) L :: k) Q pf) (h' : pw P c (.dops (ops.toList.map (·.dst)) L' :: k) Q pf) (h'' : pw P c (.dops (ops.toList.map (·.dst)) L2 :: k) Q pf) : pw P c (.code (.region id ops true) :: k) Q pf := by
 subst hL
 subst hL'
 subst hL2
 exact ⟨h1, 2, a, b, hab.1, ⟨u, v, hab.2.2, ⟨D, h2, h⟩, ⟨D, h3, h⟩⟩, ⟨x, y, hab.2.1, ⟨D', h4, h'⟩, ⟨D2, h5, h''⟩⟩⟩
def zwl (D : List DE) (ops : List Oper) : List (Nat × Nat) → List (Nat × Nat) → Bool
 | [], xs => zf5 D ops xs
 | p :: ps, xs => zwl D ops ps ((p.1, p.2) :: xs) && zwl D ops ps ((p.2, p.1) :: xs)
@[go_sem ↓] theorem zz4 {pre : List (Option Tmp)} : pw P c (.dops pre [] :: k) Q pf = pw P c k Q pf := rfl
def zbw : Op → Bool
 | .call ⟨.value _, _, _⟩ => true
 | _ => false
def pwd (P : Program) (c : Cfg) (ext : Bool) (ty : TypeId) (op : Op) (d : Option Tmp) (k : List PIt) (Q : Exit → PFr → Prop) (pf : PFr) : Prop := zh5 P c ext ⟨d, op, ty, "", #[], none⟩ (pw P c k Q) pf
theorem zrj {o o' : Oper} {ext : Bool} {K : PFr → Prop} (h : o.op = o'.op) (hd : o.dst = o'.dst) (ht : o.type = o'.type) : zh5 P c ext o K pf = zh5 P c ext o' K pf := by
 obtain ⟨d, op, ty, ps, af, g⟩ := o
 obtain ⟨d', op', ty', ps', af', g'⟩ := o'
 simp only at h hd ht
 subst h; subst hd; subst ht
 rfl
@[go_sem ↓] theorem zMs {pre : List (Option Tmp)} {e : DE} {d : Option Tmp} {op : Op} {ty : TypeId} {ps : String} {af : Array Edge} {l : List (DE × Oper)} (h : (zj9 pf e.rg e.ls e.sl && zmw pf e.mr) = true) :
 pw P c (.dops pre ((e, ⟨d, op, ty, ps, af, none⟩) :: l) :: k) Q pf = pwd P c e.ex ty op d (.dops pre l :: k) Q pf := by
 show znx P c pre e ⟨d, op, ty, ps, af, none⟩ (pw P c (.dops pre l :: k) Q) pf = _
 simp only [znx, h, true_and, zmL]
 exact zrj rfl rfl rfl
def zeC (P : Program) (c : Cfg) (y : Option (Option Bool)) (b : Bool) (ext : Bool) (ty : TypeId) (op : Op) (d : Option Tmp) (k : List PIt) (Q : Exit → PFr → Prop) (pf : PFr) : Prop :=
 pgo c b d (pwd P c ext ty op d k Q pf) (pw P c k Q) pf y
theorem zsG {y y' : Option (Option Bool)} {b ext : Bool} {ty : TypeId} {op : Op} {d : Option Tmp} (h : y = y') : zeC P c y b ext ty op d k Q pf = zeC P c y' b ext ty op d k Q pf := by rw [h]
attribute [congr] zsG
@[go_sem ↓] theorem zKO {pre : List (Option Tmp)} {e : DE} {d : Option Tmp} {op : Op} {ty : TypeId} {ps : String} {af : Array Edge} {j : Nat} {b : Bool} {l : List (DE × Oper)} (h : (zj9 pf e.rg e.ls e.sl && zmw pf e.mr) = true) :
 pw P c (.dops pre ((e, ⟨d, op, ty, ps, af, some (j, b)⟩) :: l) :: k) Q pf = zeC P c (ygP pf pre[j]?) b e.ex ty op d (.dops pre l :: k) Q pf := by
 show znx P c pre e ⟨d, op, ty, ps, af, some (j, b)⟩ (pw P c (.dops pre l :: k) Q) pf = _
 simp only [znx, h, true_and, zmL]
 unfold zeC pwd
 rw [zrj (o := ⟨d, op, ty, ps, af, some (j, b)⟩) (o' := ⟨d, op, ty, "", #[], none⟩) rfl rfl rfl]
@[go_sem ↓] theorem zJ1 {ext : Bool} {ty : TypeId} {op : Op} {d : Option Tmp} : zeC P c (some (some true)) true ext ty op d k Q pf = pwd P c ext ty op d k Q pf := by simp [zeC, pgo]
@[go_sem ↓] theorem zJE {ext : Bool} {ty : TypeId} {op : Op} {d : Option Tmp} : zeC P c (some (some false)) false ext ty op d k Q pf = pwd P c ext ty op d k Q pf := by simp [zeC, pgo]
@[go_sem ↓] theorem zKQ {ext : Bool} {ty : TypeId} {op : Op} {d : Tmp} (h : ckd c d .skip = true) : zeC P c (some (some true)) false ext ty op (some d) k Q pf = pw P c k Q (pf.put d .skip) := by simp [zeC, pgo, zhK, h]
@[go_sem ↓] theorem zJ7 {ext : Bool} {ty : TypeId} {op : Op} {d : Tmp} (h : ckd c d .skip = true) : zeC P c (some (some false)) true ext ty op (some d) k Q pf = pw P c k Q (pf.put d .skip) := by simp [zeC, pgo, zhK, h]
@[go_sem ↓] theorem zM2 {ext b : Bool} {ty : TypeId} {op : Op} {d : Tmp} (h : ckd c d .skip = true) : zeC P c (some none) b ext ty op (some d) k Q pf = pw P c k Q (pf.put d .skip) := by simp [zeC, pgo, zhK, h]
theorem zsf {y b ext : Bool} {ty : TypeId} {op : Op} {d : Option Tmp} (h1 : y = true → zeC P c (some (some true)) b ext ty op d k Q pf) (h2 : y = false → zeC P c (some (some false)) b ext ty op d k Q pf) : zeC P c (some (some y)) b ext ty op d k Q pf := by
 cases y
 ·exact h2 rfl
 ·exact h1 rfl
@[go_sem ↓] theorem zMJ {ext : Bool} {ty : TypeId} {op : Op} {d : Option Tmp} (hc : zbw op = false) (he : (!ext || zcl op) = true) : pwd P c ext ty op d k Q pf = pw1 P c c.nohp ty op d k Q pf := by
 have he' : ext = true → zcl op = true := by intro h; subst h; simpa using he
 unfold pwd zh5 pw1
 split
 ·simp_all [zbw]
 ·simp only [eq_iff_iff]
  exact ⟨fun h => h.2, fun h => ⟨he', h⟩⟩
@[go_sem] theorem zP0 {i : Nat} {sl rg : List Nat} {mr : Option Nat} {ls a b : Bool} : DE.ex ⟨i, sl, rg, mr, ls, a, b⟩ = (a && !b) := (rfl)
@[go_sem ↓] theorem zMA {ty : TypeId} {f : Operand} {args : Array Operand} {ts : Array TypeId} {d : Option Tmp} : pwd P c false ty (.call ⟨.value f, args, ts⟩) d k Q pf = pw1 P c c.nohp ty (.call ⟨.value f, args, ts⟩) d k Q pf := by
 unfold pwd zh5 pw1
 simp
theorem zvM {ty : TypeId} {f : Operand} {args : Array Operand} {ts : Array TypeId} {d : Option Tmp} {l : List (Md × Nat × Operand)} {ys : List PV} {pf1 : PFr} {g : FuncId} {xs us : List PV} {as as' : List (Md × PV)}
 {R : PV → List PV → Prop} (hl : (List.replicate args.toList.length Md.sh).zip (zeb P args.toList ts.toList) = l) (ha : ziL pf l = some (ys, pf1)) (hf : fnO pf1 f = some (g, xs, us)) (hc : cargs pf1 l ys = some as)
 (has : xs.map (fun x => (Md.sh, x)) ++ as ++ us.map (fun x => (Md.sh, x)) = as') (h : PCalls P g as' R)
 (hk : ∀ r outs, R r outs → (l.any (zhN pf1) = false ∨ (zaS r && outs.all zaS) = true) ∧ qv P c c ((back c.nt pf1 l (outs.drop xs.length)).map fun p => (.v r, p)) d k Q) : pwd P c true ty (.call ⟨.value f, args, ts⟩) d k Q pf := by
 refine ⟨by simp, ?_⟩
 rw [hl, ha]
 show zkE P c d (pw P c k Q) pf1 l (fnO pf1 f) (cargs pf1 l ys)
 rw [hf, hc]
 show PCalls P g _ _
 rw [has]
 refine h.mono fun r outs hr => ?_
 obtain ⟨h1, h2⟩ := hk r outs hr
 refine ⟨h1, ?_⟩
 cases hb : back c.nt pf1 l (outs.drop xs.length) with
 | none => rw [hb] at h2; exact h2
 | some p => rw [hb] at h2; exact h2
theorem zqK {f : FuncId} {fn : Func} {code : Code} {as : List (Md × PV)} {R : PV → List PV → Prop} (fz hp : List Nat) (hc : zae P f) (hf : P.funcs[f]? = some fn) (hb : fn.body = some code) (hlen : as.length ≤ fn.ntmps)
 (h : pw P ⟨fn.ntmps, ioL 0 as, fz, hp⟩ [.code code] (ziD P fn.results.toList as R) (zgB as)) : PCalls P f as R := by
 refine zpF (fz := fz) (hp := hp) hc hf hb hlen ?_
 have e : zbI P ⟨fn.ntmps, ioL 0 as, fz, hp⟩ [] (ziD P fn.results.toList as R) = ziD P fn.results.toList as R := by funext e; cases e <;> rfl
 have h' : pwp P ⟨fn.ntmps, ioL 0 as, fz, hp⟩ code (zbI P ⟨fn.ntmps, ioL 0 as, fz, hp⟩ [] (ziD P fn.results.toList as R)) (zgB as) := h
 rwa [e] at h'
@[go_sem] theorem zFO {rs : List ResultVar} {as : List (Md × PV)} {R : PV → List PV → Prop} : ziD P rs as R .ret pf = zlv as R (zhe P pf rs) := (rfl)
@[go_sem] theorem zzU {rs : List ResultVar} {as : List (Md × PV)} {R : PV → List PV → Prop} : ziD P rs as R .normal pf = zlv as R (zhe P pf rs) := (rfl)
@[go_sem] theorem zCK {as : List (Md × PV)} {R : PV → List PV → Prop} {x : List PV} : zlv as R (some (x, pf)) = R (zpb x) (zfm pf 0 as) := (rfl)
@[go_sem] theorem zDW : zhe P pf [] = some ([], pf) := (rfl)
@[go_sem] theorem zB3 {x : ResultVar} {xs : List ResultVar} : zhe P pf (x :: xs) = (zkk P pf x).bind fun a => (zhe P a.2 xs).map fun b => (a.1 :: b.1, b.2) := (rfl)
@[go_sem] theorem zC4 {t : Tmp} : zkk P pf (.tmp t) = if zhz (pf t) = true then none else zee pf t (pf t) := (rfl)
@[go_sem] theorem zCR {t : Tmp} {ty : TypeId} : zkk P pf (.cell t ty) = zlE pf t (pf t) (tk P ty) := (rfl)
@[go_sem] theorem zJN {t sz : Nat} {row : List PV} : zlE pf t (.bl row) (some (true, sz)) = if sz = row.length then some (.agg row, (pf.upd t jP).kill t 0) else none := by cases row <;> rfl
@[go_sem] theorem zJ5 {t sz : Nat} {x : PV} {row : List PV} : zlE pf t (.bl (x :: row)) (some (false, sz)) = some (x, (pf.upd t jP).kill t 0) := (rfl)
@[go_sem] theorem zM6 {x : PV} : zhz (.v x) = false := (rfl)
@[go_sem] theorem zKo {s : Nat} {p : zac} : zhz (.rf s p) = false := (rfl)
@[go_sem] theorem zJA {s lo hi : Nat} {p : zac} : zhz (.rv s p lo hi) = false := (rfl)
@[go_sem] theorem zKf {s i j n : Nat} {p : zac} : zhz (.ra s p i j n) = false := (rfl)
@[go_sem] theorem zLd {es : Nat} {rows : List (List PV)} : zhz (.ls es rows) = true := (rfl)
@[go_sem] theorem zK5 {s i j : Nat} {p : zac} : zhz (.pt s p i j) = false := (rfl)
@[go_sem] theorem zJz {row : List PV} : zhz (.bl row) = false := (rfl)
@[go_sem] theorem zI8 {t : Tmp} : lsO pf (.tmp t) = zhz (pf t) := (rfl)
@[go_sem] theorem zEg {v : Value} : lsO pf (.const v) = false := (rfl)
@[go_sem] theorem zFF {g : FuncId} : lsO pf (.func g) = false := (rfl)
@[go_sem] theorem zHP : zpb [] = .junk := (rfl)
@[go_sem] theorem zGi {x : PV} : zpb [x] = x := (rfl)
@[go_sem] theorem zGj {x y : PV} {l : List PV} : zpb (x :: y :: l) = .tup (x :: y :: l) := (rfl)
@[go_sem] theorem zGC {n : Nat} : zfm pf n [] = [] := (rfl)
@[go_sem] theorem zJr {n : Nat} {x : PV} {l : List (Md × PV)} : zfm pf n ((.io, x) :: l) = zs5 (pf n) :: zfm pf (n + 1) l := (rfl)
@[go_sem] theorem zJs {n : Nat} {x : PV} {l : List (Md × PV)} : zfm pf n ((.sh, x) :: l) = .junk :: zfm pf (n + 1) l := (rfl)
@[go_sem] theorem zII {n : Nat} {x : PV} {l : List (Md × PV)} : zfm pf n ((.mv, x) :: l) = .junk :: zfm pf (n + 1) l := (rfl)
@[go_sem] theorem zL3 {x : PV} : zs5 (.v x) = x := (rfl)
@[go_sem] theorem zKi {n : Nat} : ioL n [] = [] := (rfl)
@[go_sem] theorem zNC {n : Nat} {x : PV} {l : List (Md × PV)} : ioL n ((.io, x) :: l) = n :: ioL (n + 1) l := (rfl)
@[go_sem] theorem zL0 {n : Nat} {x : PV} {l : List (Md × PV)} : ioL n ((.sh, x) :: l) = ioL (n + 1) l := (rfl)
@[go_sem] theorem zMa {n : Nat} {x : PV} {l : List (Md × PV)} : ioL n ((.mv, x) :: l) = ioL (n + 1) l := (rfl)
end
end Go.Pm
