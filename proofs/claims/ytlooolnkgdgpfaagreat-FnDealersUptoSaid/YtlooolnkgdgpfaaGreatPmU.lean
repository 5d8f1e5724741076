import Derived.Test.YtlooolnkgdgpfaaGreatPmT
namespace Go.Pm
open Go.Am
section
variable {P : Program} {c co : Cfg} {k : List PIt} {Q : Exit → PFr → Prop} {pf : PFr}
attribute [go_sem] Option.bind_some Option.bind_none Option.map_some Option.map_none Option.getD_some Option.getD_none
def orE : Option (PF × PFr) → Option (PF × PFr) → Option (PF × PFr)
 | some a, _ => some a
 | none, y => y
theorem orE_congr {a b c : Option (PF × PFr)} (h : a = b) : orE a c = orE b c := by rw [h]
@[go_sem ↓] theorem orE_some {a : PF × PFr} {y : Option (PF × PFr)} : orE (some a) y = some a := rfl
@[go_sem ↓] theorem orE_none {y : Option (PF × PFr)} : orE none y = y := rfl
def tkA : Option PF → PFr → Option (PF × PFr) → Option (PF × PFr)
 | some y, pf, _ => some (y, pf)
 | none, _, x => x
theorem tkA_congr {a b : Option PF} {pf : PFr} {x : Option (PF × PFr)} (h : a = b) : tkA a pf x = tkA b pf x := by rw [h]
@[go_sem ↓] theorem tkA_some {y : PF} {x : Option (PF × PFr)} : tkA (some y) pf x = some (y, pf) := rfl
@[go_sem ↓] theorem tkA_none {x : Option (PF × PFr)} : tkA none pf x = x := rfl
attribute [congr] orE_congr tkA_congr
@[go_sem ↓] theorem pw1_load {ty t : TypeId} {a : Operand} {d : Option Tmp} : pw1 P c co ty (.load t a) d k Q pf = qv P c co (orE (((tk P t).bind fun tz => (adr pf a).bind (ldA tz pf)).map fun y => (y, pf)) ((ldAs P t pf a).map fun y => (y, pf))) d k Q := by
 show pload P co t a d (pw P c k Q) pf = _
 unfold pload
 cases (tk P t).bind fun tz => (adr pf a).bind (ldA tz pf) with
 | some y => rfl
 | none => cases ldAs P t pf a <;> rfl
theorem pad_qv {d : Option Tmp} {x : Option AD} : pad co (pw P c k Q) d pf x = qv P c co (x.map fun ad => (adPF ad, pf)) d k Q := by cases x <;> rfl
@[go_sem ↓] theorem pw1_field {ty s : TypeId} {x : Operand} {f : Nat} {d : Option Tmp} : pw1 P c co ty (.fieldAddr s x f) d k Q pf = qv P c co (((fldOff P s f).bind fun o => (adr pf x).bind (adAdd o.1)).map fun ad => (adPF ad, pf)) d k Q := pad_qv
@[go_sem ↓] theorem pw1_nilCheck {ty : TypeId} {x : Operand} {d : Option Tmp} : pw1 P c co ty (.nilCheck x) d k Q pf = qv P c co ((adr pf x).map fun ad => (adPF ad, pf)) d k Q := pad_qv
@[go_sem] theorem ixE_s {t : TypeId} {x i : Operand} {es : Nat} (h : esz P t = some es) : ixE P t x i pf = (sbO pf x).bind (ixS es (rdS pf i)) := by simp [ixE, h]
@[go_sem] theorem ixE_a {t : TypeId} {x i : Operand} {len es : Nat} (h : asz P t = some (len, es)) (h0 : esz P t = none) : ixE P t x i pf = (adr pf x).bind (ixA len es (rdS pf i)) := by simp [ixE, h, h0]
@[go_sem ↓] theorem pw1_indexAddr {ty t : TypeId} {x i : Operand} {d : Option Tmp} : pw1 P c co ty (.indexAddr t x i) d k Q pf = qv P c co (orE ((ixE P t x i pf).map fun ad => (adPF ad, pf)) (ixAs P t x i pf)) d k Q := by
 show pindex P co t x i d (pw P c k Q) pf = _
 unfold pindex
 cases ixE P t x i pf with
 | some ad => rfl
 | none => cases ixAs P t x i pf <;> rfl
@[go_sem] theorem ixAs_t {t : TypeId} {u : Nat} {i : Operand} : ixAs P t (.tmp u) i pf = ixAsF P t u pf (pf u) (rdS pf i) := (rfl)
@[go_sem] theorem ixAsF_as {t : TypeId} {u s i j n : Nat} {p : Path} {kk : IntKind} {q : Int} : ixAsF P t u pf (.as false s p i j n) (some (.int kk q)) = if esz P t = some 1 ∧ 0 ≤ q ∧ q < n then some (.as true s p i (j + q.toNat) 1, pf.put u jP) else none := (rfl)
@[go_sem] theorem ldAs_t {t : TypeId} {u : Nat} : ldAs P t pf (.tmp u) = (tk P t).bind fun tz => if tz.1 = false then ldAsF (pf u) else none := (rfl)
@[go_sem] theorem ldAsF_as {s i j n : Nat} {p : Path} : ldAsF (.as true s p i j n) = some (.rf s (p ++ [(i, j)])) := (rfl)
@[go_sem] theorem adF_as {t : Nat} {b : Bool} {s i j n : Nat} {p : Path} : adF pf t (.as b s p i j n) = none := (rfl)
@[go_sem] theorem sbF_as {t : Nat} {b : Bool} {s i j n : Nat} {p : Path} : sbF pf t (.as b s p i j n) = none := (rfl)
@[go_sem] theorem mkd_nil {c : Cfg} {d : Nat} (h : c.fz = []) : mkd c d = false := by simp [mkd, h]
@[go_sem] theorem mkd_c {c : Cfg} {d : Nat} : mkd c d = c.fz.contains (d + 2 * c.nt) := (rfl)
@[go_sem] theorem rfOf_rf {s : Nat} {p : Path} : rfOf (.rf s p) = some (s, p) := (rfl)
@[go_sem] theorem isSlP_sl {o : Bool} {es : Nat} {rows : List (List PV)} : isSlP (some (.sl o es rows)) = true := (rfl)
@[go_sem] theorem asGo_nil {s i j q : Nat} {p : Path} : asGo pf s p i j q [] = true := (rfl)
@[go_sem] theorem asGo_cons {s i j q q' : Nat} {t : Tmp} {p : Path} {r : List (Nat × Operand)} : asGo pf s p i j q ((q', .tmp t) :: r) = if q' = q ∧ rfOf (pf t) = some (s, p ++ [(i, j + q)]) ∧ isSlP (getAt pf s (p ++ [(i, j + q)])) = true then asGo pf s p i j (q + 1) r else false := (rfl)
@[go_sem] theorem splitL_one {a : Nat × Nat} : splitL [a] = some ([], a.1, a.2) := (rfl)
@[go_sem] theorem splitL_two {a b : Nat × Nat} {r : Path} : splitL (a :: b :: r) = (splitL (b :: r)).map fun x => (a :: x.1, x.2) := (rfl)
@[go_sem] theorem asHd_t {q : Nat} {t : Tmp} {r : List (Nat × Operand)} : asHd pf ((q, .tmp t) :: r) = (rfOf (pf t)).bind fun x => (splitL x.2).map fun y => (x.1, y) := (rfl)
@[go_sem] theorem blsA_eq {t : TypeId} {len : Nat} {ps : List (Nat × Operand)} : blsA P t len ps pf = (ez P t).bind fun z => (asHd pf ps).bind fun a => if z.1 = 1 ∧ len ≤ 2 ^ 24 ∧ ps.length = len ∧ asGo pf a.1 a.2.1 a.2.2.1 a.2.2.2 0 ps = true then some (.as false a.1 a.2.1 a.2.2.1 a.2.2.2 len) else none := (rfl)
def stA (pf : PFr) (cells : List PV) : AD → Option PFr
 | .pl s p i j => putAtP pf s p i j cells
 | _ => none
def stE (P : Program) (t : TypeId) (a x : Operand) (pf : PFr) : Option PFr :=
 (tk P t).bind fun tz => (takeP (ezT P t) pf x).bind fun y => if okSt tz.2 y.1 = true then (adr y.2 a).bind (stA y.2 (pcells y.1)) else none
@[go_sem] theorem stE_eq {t : TypeId} {a x : Operand} : stE P t a x pf = (tk P t).bind fun tz => (takeP (ezT P t) pf x).bind fun y => if okSt tz.2 y.1 = true then (adr y.2 a).bind (stA y.2 (pcells y.1)) else none := (rfl)
@[go_sem ↓] theorem pw1_store {ty t : TypeId} {a x : Operand} : pw1 P c co ty (.store t a x) none k Q pf = qf P c (stE P t a x pf) k Q := by
 show pstore P co t a x none (pw P c k Q) pf = _
 unfold pstore stE
 cases tk P t with
 | none => rfl
 | some tz =>
  cases takeP (ezT P t) pf x with
  | none => rfl
  | some y =>
   obtain ⟨y, pf1⟩ := y
   obtain ⟨b, sz⟩ := tz
   simp only [Option.bind_some]
   by_cases h : okSt sz y = true
   ·rw [if_pos h]
    cases ha : adr pf1 a with
    | none => simp [pstoreA, qf]
    | some ad => cases ad with
     | pl s p i j => cases hp : putAtP pf1 s p i j (pcells y) <;> simp [pstoreA, qf, h, stA, hp]
     | fz row => simp [pstoreA, qf, stA]
   ·rw [if_neg h]; simp [qf, h]
def alE (P : Program) (co : Cfg) (e : TypeId) (d : Nat) (pf : PFr) : Option PFr :=
 (zr P e).bind fun z => if ckd co d .skip = true then some (if co.hp.contains d = true then pf.put d (.v (.bx z)) else pf.put d (.bl z)) else none
@[go_sem] theorem alE_h {e : TypeId} {d : Nat} {z : List PV} (h : zr P e = some z) (h1 : ckd co d .skip = true) (h2 : co.hp.contains d = true) : alE P co e d pf = some (pf.put d (.v (.bx z))) := by unfold alE; rw [h, Option.bind_some, if_pos h1, if_pos h2]
@[go_sem] theorem alE_l {e : TypeId} {d : Nat} {z : List PV} (h : zr P e = some z) (h1 : ckd co d .skip = true) (h2 : co.hp.contains d = false) : alE P co e d pf = some (pf.put d (.bl z)) := by unfold alE; rw [h, Option.bind_some, if_pos h1, if_neg (by rw [h2]; simp)]
@[go_sem ↓] theorem pw1_alloc {ty e : TypeId} {d : Tmp} : pw1 P c co ty (.alloc e) (some d) k Q pf = qf P c (alE P co e d pf) k Q := by
 show palloc P co e (some d) (pw P c k Q) pf = _
 unfold palloc alE
 cases zr P e with
 | none => rfl
 | some z =>
  simp only [Option.bind_some]
  by_cases h : ckd co d .skip = true
  ·rw [if_pos h]
   by_cases h2 : co.hp.contains d = true
   ·simp only [h, h2, qf, if_true, true_and]
   ·simp only [h, h2, qf, true_and]; simp
  ·rw [if_neg h]; simp [qf, h]
def bxE (P : Program) (co : Cfg) (e : TypeId) (x : Operand) (d : Nat) (pf : PFr) : Option PFr :=
 (tk P e).bind fun _ => (takeP (ezT P e) pf x).bind fun y => if (!lsO pf x && cellish y.1 && ckd co d .skip) = true then some (if co.hp.contains d = true then (if co.fz.contains d = true then (y.2.put d (.v (.bx (pcells y.1)))).put d (.v (drop (.bx (pcells y.1)))) else y.2.put d (.v (.bx (pcells y.1)))) else y.2.put d (.bl (pcells y.1))) else none
@[go_sem] theorem bxE_eq {e : TypeId} {x : Operand} {d : Nat} : bxE P co e x d pf = (tk P e).bind fun _ => (takeP (ezT P e) pf x).bind fun y => if (!lsO pf x && cellish y.1 && ckd co d .skip) = true then some (if co.hp.contains d = true then (if co.fz.contains d = true then (y.2.put d (.v (.bx (pcells y.1)))).put d (.v (drop (.bx (pcells y.1)))) else y.2.put d (.v (.bx (pcells y.1)))) else y.2.put d (.bl (pcells y.1))) else none := (rfl)
@[go_sem ↓] theorem pw1_box {ty e : TypeId} {x : Operand} {d : Tmp} : pw1 P c co ty (.box e x) (some d) k Q pf = qf P c (bxE P co e x d pf) k Q := by
 show pbox P co e x (some d) (pw P c k Q) pf = _
 unfold pbox bxE
 cases tk P e with
 | none => rfl
 | some z =>
  cases takeP (ezT P e) pf x with
  | none => rfl
  | some y =>
   obtain ⟨y, pf1⟩ := y
   simp only [Option.bind_some]
   by_cases h : (!lsO pf x && cellish y && ckd co d .skip) = true
   ·rw [if_pos h]
    simp only [Bool.and_eq_true, Bool.not_eq_true'] at h
    by_cases h2 : co.hp.contains d = true
    ·by_cases h4 : co.fz.contains d = true
     ·simp only [h.1.1, h.1.2, h.2, h2, h4, qf, if_true, true_and]
     ·simp only [h.1.1, h.1.2, h.2, h2, h4, qf, if_true, true_and]; simp
    ·simp only [h.1.1, h.1.2, h.2, h2, qf, true_and]; simp
   ·rw [if_neg h]
    simp only [qf, eq_iff_iff, iff_false]
    rintro ⟨h1, h2, h3, _⟩
    exact h (by rw [h1, h2, h3]; rfl)
def blsE (P : Program) (co : Cfg) (t : TypeId) (len : Nat) (ps : List (Nat × Operand)) (d : Nat) (pf : PFr) : Option PFr :=
 (ez P t).bind fun z => (takel pf (ps.map fun p => (fldEs P t p.1, p.2))).bind fun y => if len * z.1 ≤ 2 ^ 24 ∧ ckd co d .skip = true then (fillS z.1 ((ps.map (·.1)).zip (drx co d y.1)) (List.replicate len z.2.2)).map fun rows => y.2.put d (.ls z.1 rows) else none
@[go_sem] theorem drx_nil {d : Nat} {xs : List PV} (h : co.fz = []) : drx co d xs = xs := by simp [drx, h]
@[go_sem] theorem drx_c {d : Nat} {xs : List PV} : drx co d xs = if co.fz.contains (d + 3 * co.nt) = true then xs.map drop else xs := (rfl)
@[go_sem] theorem blsE_eq {t : TypeId} {len : Nat} {ps : List (Nat × Operand)} {d : Nat} : blsE P co t len ps d pf = (ez P t).bind fun z => (takel pf (ps.map fun p => (fldEs P t p.1, p.2))).bind fun y => if len * z.1 ≤ 2 ^ 24 ∧ ckd co d .skip = true then (fillS z.1 ((ps.map (·.1)).zip (drx co d y.1)) (List.replicate len z.2.2)).map fun rows => y.2.put d (.ls z.1 rows) else none := (rfl)
@[go_sem ↓] theorem pw1_buildSlice {ty t : TypeId} {len : Nat} {ps : Array (Nat × Operand)} {d : Tmp} : pw1 P c co ty (.buildSlice t len ps) (some d) k Q pf = if mkd co d = true then qv P c co ((blsA P t len ps.toList pf).map fun y => (y, pf)) (some d) k Q else qf P c (blsE P co t len ps.toList d pf) k Q := by
 show pbls P co t len ps.toList (some d) (pw P c k Q) pf = _
 unfold pbls blsE
 by_cases hm : mkd co d = true
 ·rw [if_pos hm, if_pos (show mkdO co (some d) = true from hm)]
  unfold pblsA
  cases blsA P t len ps.toList pf <;> rfl
 rw [if_neg hm, if_neg (show ¬ mkdO co (some d) = true from hm)]
 cases ez P t with
 | none => rfl
 | some z =>
  cases takel pf (ps.toList.map fun p => (fldEs P t p.1, p.2)) with
  | none => rfl
  | some y =>
   obtain ⟨xs, pf1⟩ := y
   simp only [Option.bind_some]
   by_cases h : len * z.1 ≤ 2 ^ 24 ∧ ckd co d .skip = true
   ·rw [if_pos h]
    cases fillS z.1 ((ps.toList.map (·.1)).zip (drx co d xs)) (List.replicate len z.2.2) <;> simp only [pblsO, qf, h.1, h.2, true_and, and_false, Option.map_none, Option.map_some]
   ·rw [if_neg h]
    simp only [qf, eq_iff_iff, iff_false]
    rintro ⟨h1, h2⟩
    cases hf : fillS z.1 ((ps.toList.map (·.1)).zip (drx co d xs)) (List.replicate len z.2.2) with
    | none => rw [hf] at h2; exact h2
    | some r => rw [hf] at h2; exact h ⟨h1, h2.1⟩
@[go_sem ↓] theorem pw1_build {ty t : TypeId} {ps : Array (Nat × Operand)} {d : Option Tmp} : pw1 P c co ty (.build t ps) d k Q pf =
 qv P c co ((bldP P t).bind fun b => (takel pf (ps.toList.map fun p => (fldEs P t p.1, p.2))).bind fun y => (fillP b.1 ((ps.toList.map (·.1)).zip y.1) b.2).map fun row => (.v (.agg row), y.2)) d k Q := by
 show pbuild P co t ps.toList d (pw P c k Q) pf = _
 unfold pbuild
 cases bldP P t with
 | none => rfl
 | some b =>
  cases takel pf (ps.toList.map fun p => (fldEs P t p.1, p.2)) with
  | none => rfl
  | some y =>
   simp only [Option.bind_some]
   cases fillP b.1 ((ps.toList.map (·.1)).zip y.1) b.2 <;> rfl
def pkV (b x y : Option Value) : Option PV :=
 match b with
 | some (.bool true) => x.bind fromS
 | some (.bool false) => y.bind fromS
 | _ => none
@[go_sem ↓] theorem pw1_pick {ty : TypeId} {b x y : Operand} {d : Option Tmp} : pw1 P c co ty (.pick b x y) d k Q pf = qv P c co ((pkV (rdS pf b) (rdS pf x) (rdS pf y)).map fun z => (.v z, pf)) d k Q := by
 show ppick co b x y d (pw P c k Q) pf = _
 unfold ppick ppkO pkV
 cases rdS pf b with
 | none => rfl
 | some v =>
  cases v with
  | bool b =>
   cases b
   ·simp only []
    cases (rdS pf y).bind fromS <;> rfl
   ·simp only []
    cases (rdS pf x).bind fromS <;> rfl
  | _ => rfl
@[go_sem] theorem pkV_t {x y : Option Value} : pkV (some (.bool true)) x y = x.bind fromS := (rfl)
@[go_sem] theorem pkV_f {x y : Option Value} : pkV (some (.bool false)) x y = y.bind fromS := (rfl)
@[go_sem] theorem pkV_int {b : Bool} {j : IntKind} {m n : Int} : pkV (some (.bool b)) (some (.int j m)) (some (.int j n)) = some (.int j (if b = true then m else n)) := by cases b <;> rfl
@[go_sem] theorem pkV_bool {b m n : Bool} : pkV (some (.bool b)) (some (.bool m)) (some (.bool n)) = some (.bool (if b = true then m else n)) := by cases b <;> rfl
@[go_sem] theorem pkV_str {b : Bool} {m n : ByteArray} : pkV (some (.bool b)) (some (.string m)) (some (.string n)) = some (.str (if b = true then m else n)) := by cases b <;> rfl
def mkV (b : Bool) (z : Nat × Nat × List PV) (pf : PFr) : Option Value → Option Value → Option (PF × PFr)
 | some (.int .i64 n), some (.int .i64 m) => if 0 ≤ n ∧ n ≤ m ∧ z.2.1 * m ≤ 140737488355328 ∧ m ≤ 4611686018427387904 then some (.v (.sl true z.1 (List.replicate n.toNat (uz b z.2.2))), pf) else none
 | _, _ => none
@[go_sem] theorem mkV_int {b : Bool} {z : Nat × Nat × List PV} {n m : Int} : mkV b z pf (some (.int .i64 n)) (some (.int .i64 m)) = if 0 ≤ n ∧ n ≤ m ∧ z.2.1 * m ≤ 140737488355328 ∧ m ≤ 4611686018427387904 then some (.v (.sl true z.1 (List.replicate n.toNat (uz b z.2.2))), pf) else none := (rfl)
@[go_sem] theorem nzB_some {d : Nat} : nzB co (some d) = co.fz.contains (d + co.nt) := (rfl)
@[go_sem] theorem nzB_none : nzB co none = false := (rfl)
@[go_sem] theorem uz_false {z : List PV} : uz false z = z := (rfl)
@[go_sem] theorem uz_true {z : List PV} : uz true z = z.map ud := (rfl)
@[go_sem] theorem ud_sl {o : Bool} {e : Nat} : ud (.sl o e []) = .sl true e [] := (rfl)
@[go_sem] theorem ud_int {j : IntKind} {n : Int} : ud (.int j n) = .int j n := (rfl)
@[go_sem] theorem ud_bool {b : Bool} : ud (.bool b) = .bool b := (rfl)
@[go_sem] theorem ud_str {b : ByteArray} : ud (.str b) = .str b := (rfl)
@[go_sem ↓] theorem pw1_makeSlice {ty t : TypeId} {l cc : Operand} {d : Option Tmp} : pw1 P c co ty (.makeSlice t l cc) d k Q pf = qv P c co ((ez P t).bind fun z => mkV (nzB co d) z pf (rdS pf l) (rdS pf cc)) d k Q := by
 show pmake P co t l cc d (pw P c k Q) pf = _
 unfold pmake
 cases ez P t with
 | none => rfl
 | some z =>
  simp only [Option.bind_some]
  generalize rdS pf l = x1
  generalize rdS pf cc = x2
  unfold pmkO mkV
  split
  ·rename_i n m
   simp only []
   by_cases h : 0 ≤ n ∧ n ≤ m ∧ z.2.1 * m ≤ 140737488355328 ∧ m ≤ 4611686018427387904
   ·rw [if_pos h]
    simp only [h, true_and]
    rfl
   ·rw [if_neg h]
    simp only [qv, eq_iff_iff, iff_false]
    rintro ⟨a1, _⟩
    exact h a1
  ·rename_i h1
   split
   ·rename_i e1; exact absurd rfl (h1 _ _ rfl)
   ·rfl
@[go_sem ↓] theorem pw1_makeFunc {ty : TypeId} {fn : Fn} {xs ys : Array Operand} {d : Option Tmp} : pw1 P c co ty (.makeFunc fn xs ys) d k Q pf =
 qv P c co ((frzl (!co.hp.isEmpty) pf (xs.toList ++ ys.toList)).map fun vs => (.v (.func fn (vs.1.take xs.toList.length) (vs.1.drop xs.toList.length)), vs.2)) d k Q := by
 show pfunc co fn xs.toList ys.toList d (pw P c k Q) pf = _
 unfold pfunc
 cases frzl (!co.hp.isEmpty) pf (xs.toList ++ ys.toList) <;> rfl
def mvF (nt : Nat) (t : Nat) (pf : PFr) : PF → Option (PF × PFr)
 | .v x => if isJ x = true then none else some (if hasO x = true then .rf t [] else .v x, pf)
 | .ls es rows => if t < nt then some (.rf t [], (pf.upd t (.v (.sl true es rows))).kill t 0) else none
 | .bl _ => some (.pt t [] 0 0, pf)
 | .skip => none
 | .as .. => none
 | y => some (y, pf)
@[go_sem] theorem mvF_v {nt t : Nat} {x : PV} (h : isJ x = false) : mvF nt t pf (.v x) = some (if hasO x = true then .rf t [] else .v x, pf) := by simp [mvF, h]
@[go_sem] theorem mvF_ls {nt t es : Nat} {rows : List (List PV)} (h : t < nt) : mvF nt t pf (.ls es rows) = some (.rf t [], (pf.upd t (.v (.sl true es rows))).kill t 0) := by simp [mvF, h]
@[go_sem] theorem mvF_bl {nt t : Nat} {row : List PV} : mvF nt t pf (.bl row) = some (.pt t [] 0 0, pf) := (rfl)
@[go_sem] theorem mvF_pt {nt t s i j : Nat} {p : Path} : mvF nt t pf (.pt s p i j) = some (.pt s p i j, pf) := (rfl)
@[go_sem] theorem mvF_rf {nt t s : Nat} {p : Path} : mvF nt t pf (.rf s p) = some (.rf s p, pf) := (rfl)
@[go_sem] theorem mvF_rv {nt t s lo hi : Nat} {p : Path} : mvF nt t pf (.rv s p lo hi) = some (.rv s p lo hi, pf) := (rfl)
@[go_sem] theorem mvF_ra {nt t s i j n : Nat} {p : Path} : mvF nt t pf (.ra s p i j n) = some (.ra s p i j n, pf) := (rfl)
@[go_sem ↓] theorem pw1_move_t {ty : TypeId} {t : Tmp} {d : Option Tmp} : pw1 P c co ty (.move (.tmp t)) d k Q pf = qv P c co (mvF co.nt t pf (pf t)) d k Q := by
 show pmoveF co t d (pw P c k Q) pf (pf t) = _
 unfold pmoveF mvF
 cases pf t with
 | v x =>
  cases hj : isJ x
  ·cases ho : hasO x <;> simp [hj, ho, qv]
  ·simp [hj, qv]
 | ls es rows =>
  by_cases h : t < co.nt
  ·simp [h, qv]
  ·simp [h, qv]
 | _ => rfl
def tkV (x : Option (PV × PFr)) : Option (PF × PFr) := x.map fun y => (.v y.1, y.2)
@[go_sem] theorem tkV_some {y : PV} : tkV (some (y, pf)) = some (.v y, pf) := (rfl)
@[go_sem ↓] theorem pw1_move_c {ty : TypeId} {k0 : Value} {d : Option Tmp} : pw1 P c co ty (.move (.const k0)) d k Q pf = qv P c co (tkV (takeP (ezT P ty) pf (.const k0))) d k Q := by
 show pmove (ezT P ty) co (.const k0) d (pw P c k Q) pf = _
 unfold pmove
 simp only []
 cases takeP (ezT P ty) pf (.const k0) <;> rfl
@[go_sem ↓] theorem pw1_move_f {ty : TypeId} {d : Option Tmp} {g : FuncId} : pw1 P c co ty (.move (.func g)) d k Q pf = qv P c co (tkV (takeP (ezT P ty) pf (.func g))) d k Q := by
 show pmove (ezT P ty) co (.func g) d (pw P c k Q) pf = _
 unfold pmove
 simp only []
 cases takeP (ezT P ty) pf (.func g) <;> rfl
@[go_sem ↓] theorem pw1_assign {ty : TypeId} {x : Operand} {d : Option Tmp} : pw1 P c co ty (.assign x) d k Q pf = qv P c co (tkA (asgA co pf d x) pf (tkV (takeP (ezT P ty) pf x))) d k Q := by
 show passign (ezT P ty) co x d (pw P c k Q) pf = _
 unfold passign
 cases asgA co pf d x with
 | some y => rfl
 | none => cases takeP (ezT P ty) pf x <;> rfl
@[go_sem] theorem asgA_t {d : Nat} {t : Tmp} : asgA co pf (some d) (.tmp t) = if mkd co d = true then (rfOf (pf t)).map fun x => .rf x.1 x.2 else none := (rfl)
@[go_sem] theorem asgA_c {d : Option Tmp} {x : Value} : asgA co pf d (.const x) = none := by cases d <;> rfl
@[go_sem] theorem asgA_f {d : Option Tmp} {x : FuncId} : asgA co pf d (.func x) = none := by cases d <;> rfl
def exV (pf : PFr) (s : Nat) (xs : List PV) (i : Nat) : Option PV → Option (PF × PFr)
 | some y => if isJ y = true then none else some (.v y, if hasO y = true then (pf.upd s (.v (.tup (xs.set i .junk)))).kill s 1 else pf)
 | none => none
@[go_sem] theorem exV_some {s i : Nat} {xs : List PV} {y : PV} (h : isJ y = false) : exV pf s xs i (some y) = some (.v y, if hasO y = true then (pf.upd s (.v (.tup (xs.set i .junk)))).kill s 1 else pf) := by simp [exV, h]
@[go_sem] theorem exO_tmp {t : Tmp} : exO pf (.tmp t) = match pf t with
 | .rf s [] => exR s (pf s)
 | y => exR t y := rfl
@[go_sem] theorem exR_t {s : Nat} {xs : List PV} : exR s (.v (.tup xs)) = some (s, xs) := (rfl)
@[go_sem ↓] theorem pw1_extract {ty : TypeId} {x : Operand} {i : Nat} {d : Option Tmp} : pw1 P c co ty (.extract x i) d k Q pf = qv P c co ((exO pf x).bind fun a => if a.1 < co.nt then exV pf a.1 a.2 i a.2[i]? else none) d k Q := by
 show pextract co x i d (pw P c k Q) pf = _
 unfold pextract
 cases exO pf x with
 | none => rfl
 | some a =>
  obtain ⟨s, xs⟩ := a
  simp only [Option.bind_some]
  by_cases h : s < co.nt
  ·rw [if_pos h]
   simp only [h, true_and]
   cases xs[i]? with
   | none => rfl
   | some y =>
    cases hj : isJ y
    ·cases ho : hasO y <;> simp [pex, exV, hj, ho, qv]
    ·simp [pex, exV, hj, qv]
  ·rw [if_neg h]; simp [h, qv]
def slE (es t : Nat) (pf : PFr) (l h m : Option (Option Nat)) : Option (PF × PFr) :=
 match l, h, m with
 | some l, some h, some none => (slF es (l.getD 0) h pf t (pf t)).map fun y => (y, pf)
 | some l, some (some h), some (some m) => ((contF pf (pf t)).bind lenV).bind fun rows => (slF es (l.getD 0) (some h) pf t (pf t)).bind fun _ => if l.getD 0 = h ∧ h = m ∧ m ≤ rows.length then some (.v (.sl true es []), pf) else none
 | _, _, _ => none
@[go_sem] theorem slE_2 {es t : Nat} {l h : Option Nat} : slE es t pf (some l) (some h) (some none) = (slF es (l.getD 0) h pf t (pf t)).map fun y => (y, pf) := by cases h <;> rfl
@[go_sem] theorem slE_3 {es t : Nat} {l : Option Nat} {h m : Nat} : slE es t pf (some l) (some (some h)) (some (some m)) = ((contF pf (pf t)).bind lenV).bind fun rows => (slF es (l.getD 0) (some h) pf t (pf t)).bind fun _ => if l.getD 0 = h ∧ h = m ∧ m ≤ rows.length then some (.v (.sl true es []), pf) else none := (rfl)
theorem pslO_qv {es t : Nat} {d : Option Tmp} {l h m : Option (Option Nat)} : pslO co es t d (pw P c k Q) pf l h m = qv P c co (slE es t pf l h m) d k Q := by
 cases l with
 | none => rfl
 | some l =>
  cases h with
  | none => rfl
  | some h =>
   cases m with
   | none => rfl
   | some m =>
    cases m with
    | none =>
     rw [slE_2]
     cases h <;> simp only [pslO] <;> cases slF es (l.getD 0) _ pf t (pf t) <;> rfl
    | some m =>
     cases h with
     | none => rfl
     | some h =>
      rw [slE_3]
      simp only [pslO]
      cases (contF pf (pf t)).bind lenV with
      | none => rfl
      | some rows =>
       simp only [Option.bind_some]
       cases slF es (l.getD 0) (some h) pf t (pf t) with
       | none => simp [qv]
       | some y =>
        by_cases hh : l.getD 0 = h ∧ h = m ∧ m ≤ rows.length
        ·simp [hh, qv]
        ·simp [hh, qv]
@[go_sem ↓] theorem pw1_slice {ty t : TypeId} {x : Tmp} {l h m : Option Operand} {d : Option Tmp} (hs : isStrTy P t = false) : pw1 P c co ty (.slice t (.tmp x) l h m) d k Q pf = qv P c co ((esz P t).bind fun es => slE es x pf (rdB pf l) (rdB pf h) (rdB pf m)) d k Q := by
 show (if isStrTy P t = true then pscal P co ⟨d, .slice t (.tmp x) l h m, ty, "", #[], none⟩ (pw P c k Q) pf else pslice P co t (.tmp x) l h m d (pw P c k Q) pf) = _
 rw [if_neg (by simp [hs])]
 unfold pslice
 cases esz P t with
 | none => rfl
 | some es => exact pslO_qv
def qln (P : Program) (c co : Cfg) (x : Option (List (List PV))) (d : Option Tmp) (k : List PIt) (Q : Exit → PFr → Prop) (pf : PFr) : Prop :=
 match x with
 | some rows => rows.length ≤ maxLen → qv P c co (some (.v (.int .i64 rows.length), pf)) d k Q
 | none => False
theorem qln_congr {x x' : Option (List (List PV))} {d : Option Tmp} (h : x = x') : qln P c co x d k Q pf = qln P c co x' d k Q pf := by rw [h]
attribute [congr] qln_congr
def qlm (P : Program) (c co : Cfg) (t : TypeId) (d : Option Tmp) (k : List PIt) (Q : Exit → PFr → Prop) (pf : PFr) (x : Nat) : PF → Prop
 | .ls es rows => qln P c co ((elemTy P t).bind fun _ => some rows) d k Q ((pf.upd x (.v (.sl true es rows))).kill x 0)
 | y => qln P c co ((elemTy P t).bind fun _ => (contF pf y).bind lenV) d k Q pf
theorem qlm_congr {t : TypeId} {d : Option Tmp} {x : Nat} {y y' : PF} (h : y = y') : qlm P c co t d k Q pf x y = qlm P c co t d k Q pf x y' := by rw [h]
attribute [congr] qlm_congr
@[go_sem ↓] theorem qlm_ls {t : TypeId} {d : Option Tmp} {x es : Nat} {rows : List (List PV)} : qlm P c co t d k Q pf x (.ls es rows) = qln P c co ((elemTy P t).bind fun _ => some rows) d k Q ((pf.upd x (.v (.sl true es rows))).kill x 0) := rfl
@[go_sem ↓] theorem qlm_v {t : TypeId} {d : Option Tmp} {x : Nat} {y : PV} : qlm P c co t d k Q pf x (.v y) = qln P c co ((elemTy P t).bind fun _ => lenV y) d k Q pf := rfl
@[go_sem ↓] theorem qlm_rf {t : TypeId} {d : Option Tmp} {x s : Nat} {p : Path} : qlm P c co t d k Q pf x (.rf s p) = qln P c co ((elemTy P t).bind fun _ => (contF pf (.rf s p)).bind lenV) d k Q pf := rfl
@[go_sem ↓] theorem qlm_rv {t : TypeId} {d : Option Tmp} {x s lo hi : Nat} {p : Path} : qlm P c co t d k Q pf x (.rv s p lo hi) = qln P c co ((elemTy P t).bind fun _ => (contF pf (.rv s p lo hi)).bind lenV) d k Q pf := rfl
@[go_sem ↓] theorem pw1_len {ty t : TypeId} {x : Tmp} {d : Option Tmp} (hs : isStrTy P t = false) : pw1 P c co ty (.call ⟨.builtin .len, #[.tmp x], #[t]⟩) d k Q pf = qlm P c co t d k Q pf x (pf x) := by
 show (if isStrTy P t = true then pscal P co ⟨d, .call ⟨.builtin .len, #[.tmp x], #[t]⟩, ty, "", #[], none⟩ (pw P c k Q) pf else plen P co t (.tmp x) d (pw P c k Q) pf) = _
 rw [if_neg (by simp [hs])]
 unfold plen qlm
 cases hpt : pf x with
 | ls es rows =>
  have : ((pf.upd x (.v (.sl true es rows))).kill x 0) x = .v (.sl true es rows) := by simp [PFr.kill, PFr.upd, killN, aroot]
  simp only [lsM, hpt, this, contF, lenV, Option.bind_some, qln, qv]
  cases elemTy P t <;> rfl
 | _ =>
  simp only [lsM, hpt, qln, qv]
  generalize (elemTy P t).bind (fun _ => (contF pf _).bind lenV) = o
  cases o <;> rfl
@[go_sem] theorem pl_slen {t : TypeId} {x : Operand} {s : ByteArray} (hs : isStrTy P t = true) : plainV P (.call ⟨.builtin .len, #[x], #[t]⟩) [.string s] = some (.int .i64 s.size) := by simp [plainV, Am.lenV, hs]
@[go_sem ↓] theorem pw1_slen {ty t : TypeId} {x : Operand} {d : Option Tmp} (hs : isStrTy P t = true) : pw1 P c co ty (.call ⟨.builtin .len, #[x], #[t]⟩) d k Q pf = qv P c co (ev1 (fun v => plainV P (.call ⟨.builtin .len, #[x], #[t]⟩) [v]) (rdS pf x) pf) d k Q := by
 show (if isStrTy P t = true then pscal P co ⟨d, .call ⟨.builtin .len, #[x], #[t]⟩, ty, "", #[], none⟩ (pw P c k Q) pf else plen P co t x d (pw P c k Q) pf) = _
 rw [if_pos hs]
 refine pscal_qv (o := ⟨d, .call ⟨.builtin .len, #[x], #[t]⟩, ty, "", #[], none⟩) ?_
 simp only [plainOps, rdSl, Option.bind_some]
 cases rdS pf x <;> simp [ev1]
def apE (P : Program) (t : TypeId) (s x : Operand) (pf : PFr) : Option (PF × PFr) :=
 (ez P t).bind fun z => (takeP z.1 pf s).bind fun b => (bsR z.1 b.1).bind fun rows => (srO z.1 b.2 x).bind fun r =>
   if allSol r.1 = true ∧ (rows.length + r.1.length) * z.2.1 ≤ 140737488355328 ∧ rows.length + r.1.length ≤ 4611686018427387904 then some (.v (.sl true z.1 (rows ++ r.1)), r.2) else none
@[go_sem] theorem apE_eq {t : TypeId} {s x : Operand} : apE P t s x pf = (ez P t).bind fun z => (takeP z.1 pf s).bind fun b => (bsR z.1 b.1).bind fun rows => (srO z.1 b.2 x).bind fun r =>
 if allSol r.1 = true ∧ (rows.length + r.1.length) * z.2.1 ≤ 140737488355328 ∧ rows.length + r.1.length ≤ 4611686018427387904 then some (.v (.sl true z.1 (rows ++ r.1)), r.2) else none := rfl
@[go_sem ↓] theorem pw1_append {ty t : TypeId} {s x : Operand} {d : Option Tmp} : pw1 P c co ty (.call ⟨.builtin .append, #[s, x], #[t, t]⟩) d k Q pf = qv P c co (apE P t s x pf) d k Q := by
 show (if t = t then papp P co t s x d (pw P c k Q) pf else pappZ P co t t s x d (pw P c k Q) pf) = _
 rw [if_pos rfl]
 unfold papp apE
 cases ez P t with
 | none => rfl
 | some z =>
  simp only [Option.bind_some]
  cases takeP z.1 pf s with
  | none => rfl
  | some b =>
   obtain ⟨b, pf1⟩ := b
   simp only [Option.bind_some, pappB]
   cases bsR z.1 b with
   | none => rfl
   | some rows =>
    simp only [Option.bind_some]
    cases srO z.1 pf1 x with
    | none => rfl
    | some r =>
     obtain ⟨rows2, pf2⟩ := r
     simp only [Option.bind_some, pappO]
     by_cases h : allSol rows2 = true ∧ (rows.length + rows2.length) * z.2.1 ≤ 140737488355328 ∧ rows.length + rows2.length ≤ 4611686018427387904
     ·rw [if_pos h]
      simp only [h.1, h.2.1, h.2.2, true_and, qv]
     ·rw [if_neg h]
      simp only [qv, eq_iff_iff, iff_false]
      rintro ⟨a1, a2, _⟩
      exact h ⟨a1, a2⟩
theorem pw_grow {ty t : TypeId} {g : FuncId} {x : Operand} {ts : Array TypeId} {d : Option Tmp} {n : Int} {z : Nat × Nat × List PV} (h : GrowC P g t) (hz : ez P t = some z) (hn : rdS pf x = some (.int .i64 n)) (hb : 0 ≤ n ∧ z.2.1 * n ≤ 140737488355328 ∧ n ≤ 4611686018427387904)
 (hk : qv P c co (some (.v (.sl true z.1 []), pf)) d k Q) : pw1 P c co ty (.call ⟨.value (.func g), #[.const (.slice none 0 0), x], ts⟩) d k Q pf := .inr ⟨g, x, t, n, z, rfl, rfl, h, hn, hz, hb, hk⟩
theorem pw_call {ty : TypeId} {f : Operand} {args : Array Operand} {ts : Array TypeId} {d : Option Tmp} (ms : List Md) {l : List (Md × Nat × Operand)} {ys : List PV} {pf1 : PFr} {g : FuncId} {xs us : List PV} {as as' : List (Md × PV)}
 {R : PV → List PV → Prop} (hm : ms.length = args.toList.length) (hl : ms.zip (argEs P args.toList ts.toList) = l) (ha : argl pf l = some (ys, pf1)) (hf : fnO pf1 f = some (g, xs, us)) (hc : cargs pf1 l ys = some as)
 (has : xs.map (fun x => (Md.sh, x)) ++ as ++ us.map (fun x => (Md.sh, x)) = as') (h : PCalls P g as' R)
 (hk : ∀ r outs, R r outs → (l.any (shOwn pf1) = false ∨ (clean r && outs.all clean) = true) ∧ qv P c co ((back co.nt pf1 l (outs.drop xs.length)).map fun p => (.v r, p)) d k Q) : pw1 P c co ty (.call ⟨.value f, args, ts⟩) d k Q pf := by
 refine .inl ⟨ms, hm, ?_⟩
 rw [hl, ha]
 show pcallF P co d (pw P c k Q) pf1 l (fnO pf1 f) (cargs pf1 l ys)
 rw [hf, hc]
 show PCalls P g _ _
 rw [has]
 refine h.mono fun r outs hr => ?_
 obtain ⟨h1, h2⟩ := hk r outs hr
 refine ⟨h1, ?_⟩
 cases hb : back co.nt pf1 l (outs.drop xs.length) with
 | none => rw [hb] at h2; exact h2
 | some p => rw [hb] at h2; exact h2
theorem pw_draw {id : Nat} {ops : Array Oper} (D : List DE) {L : List (DE × Oper)} (h1 : P.follows .mixedOrders = true) (h2 : drawOk D ops.toList = true) (hL : D.map (fun x => (x, ops.toList.getD x.i default)) = L)
 (h : pw P c (.dops (ops.toList.map (·.dst)) L :: k) Q pf) : pw P c (.code (.region id ops true) :: k) Q pf := by
 subst hL
 exact ⟨h1, 0, D, h2, h⟩
theorem pw_draw3 {id : Nat} {ops : Array Oper} (a b x y u v : Nat) (D D' D2 : List DE) {L L' L2 : List (DE × Oper)} (h1 : P.follows .mixedOrders = true) (hab : a ≠ b ∧ x ≠ y ∧ u ≠ v) (h2 : drawOk D ops.toList [(u, v), (a, b)] = true) (h3 : drawOk D ops.toList [(v, u), (a, b)] = true)
 (h4 : drawOk D' ops.toList [(x, y), (b, a)] = true) (h5 : drawOk D2 ops.toList [(y, x), (b, a)] = true) (hL : D.map (fun x => (x, ops.toList.getD x.i default)) = L) (hL' : D'.map (fun x => (x, ops.toList.getD x.i default)) = L') (hL2 : D2.map (fun x => (x, ops.toList.getD x.i default)) = L2)
 (h : pw P c (.dops (ops.toList.map (·.dst)) L :: k) Q pf) (h' : pw P c (.dops (ops.toList.map (·.dst)) L' :: k) Q pf) (h'' : pw P c (.dops (ops.toList.map (·.dst)) L2 :: k) Q pf) : pw P c (.code (.region id ops true) :: k) Q pf := by
 subst hL
 subst hL'
 subst hL2
 exact ⟨h1, 2, a, b, hab.1, ⟨u, v, hab.2.2, ⟨D, h2, h⟩, ⟨D, h3, h⟩⟩, ⟨x, y, hab.2.1, ⟨D', h4, h'⟩, ⟨D2, h5, h''⟩⟩⟩
def padOk (D : List DE) (ops : List Oper) : List (Nat × Nat) → List (Nat × Nat) → Bool
 | [], xs => drawOk D ops xs
 | p :: ps, xs => padOk D ops ps ((p.1, p.2) :: xs) && padOk D ops ps ((p.2, p.1) :: xs)
@[go_sem ↓] theorem pw_dops_nil {pre : List (Option Tmp)} : pw P c (.dops pre [] :: k) Q pf = pw P c k Q pf := rfl
def isCallV : Op → Bool
 | .call ⟨.value _, _, _⟩ => true
 | _ => false
def pwd (P : Program) (c : Cfg) (ext : Bool) (ty : TypeId) (op : Op) (d : Option Tmp) (k : List PIt) (Q : Exit → PFr → Prop) (pf : PFr) : Prop := popD P c ext ⟨d, op, ty, "", #[], none⟩ (pw P c k Q) pf
theorem popD_at {o o' : Oper} {ext : Bool} {K : PFr → Prop} (h : o.op = o'.op) (hd : o.dst = o'.dst) (ht : o.type = o'.type) : popD P c ext o K pf = popD P c ext o' K pf := by
 obtain ⟨d, op, ty, ps, af, g⟩ := o
 obtain ⟨d', op', ty', ps', af', g'⟩ := o'
 simp only at h hd ht
 subst h; subst hd; subst ht
 rfl
@[go_sem ↓] theorem pw_dop {pre : List (Option Tmp)} {e : DE} {d : Option Tmp} {op : Op} {ty : TypeId} {ps : String} {af : Array Edge} {l : List (DE × Oper)} (h : (pokL pf e.rg e.ls e.sl && pokM pf e.mr) = true) :
 pw P c (.dops pre ((e, ⟨d, op, ty, ps, af, none⟩) :: l) :: k) Q pf = pwd P c e.ex ty op d (.dops pre l :: k) Q pf := by
 show pdop P c pre e ⟨d, op, ty, ps, af, none⟩ (pw P c (.dops pre l :: k) Q) pf = _
 simp only [pdop, h, true_and, pgopD]
 exact popD_at rfl rfl rfl
def pwgD (P : Program) (c : Cfg) (y : Option (Option Bool)) (b : Bool) (ext : Bool) (ty : TypeId) (op : Op) (d : Option Tmp) (k : List PIt) (Q : Exit → PFr → Prop) (pf : PFr) : Prop :=
 pgo c b d (pwd P c ext ty op d k Q pf) (pw P c k Q) pf y
theorem pwgD_congr {y y' : Option (Option Bool)} {b ext : Bool} {ty : TypeId} {op : Op} {d : Option Tmp} (h : y = y') : pwgD P c y b ext ty op d k Q pf = pwgD P c y' b ext ty op d k Q pf := by rw [h]
attribute [congr] pwgD_congr
@[go_sem ↓] theorem pw_gdop {pre : List (Option Tmp)} {e : DE} {d : Option Tmp} {op : Op} {ty : TypeId} {ps : String} {af : Array Edge} {j : Nat} {b : Bool} {l : List (DE × Oper)} (h : (pokL pf e.rg e.ls e.sl && pokM pf e.mr) = true) :
 pw P c (.dops pre ((e, ⟨d, op, ty, ps, af, some (j, b)⟩) :: l) :: k) Q pf = pwgD P c (ygP pf pre[j]?) b e.ex ty op d (.dops pre l :: k) Q pf := by
 show pdop P c pre e ⟨d, op, ty, ps, af, some (j, b)⟩ (pw P c (.dops pre l :: k) Q) pf = _
 simp only [pdop, h, true_and, pgopD]
 unfold pwgD pwd
 rw [popD_at (o := ⟨d, op, ty, ps, af, some (j, b)⟩) (o' := ⟨d, op, ty, "", #[], none⟩) rfl rfl rfl]
@[go_sem ↓] theorem pwgD_tt {ext : Bool} {ty : TypeId} {op : Op} {d : Option Tmp} : pwgD P c (some (some true)) true ext ty op d k Q pf = pwd P c ext ty op d k Q pf := by simp [pwgD, pgo]
@[go_sem ↓] theorem pwgD_ff {ext : Bool} {ty : TypeId} {op : Op} {d : Option Tmp} : pwgD P c (some (some false)) false ext ty op d k Q pf = pwd P c ext ty op d k Q pf := by simp [pwgD, pgo]
@[go_sem ↓] theorem pwgD_tf {ext : Bool} {ty : TypeId} {op : Op} {d : Tmp} (h : ckd c d .skip = true) : pwgD P c (some (some true)) false ext ty op (some d) k Q pf = pw P c k Q (pf.put d .skip) := by simp [pwgD, pgo, pskip, h]
@[go_sem ↓] theorem pwgD_ft {ext : Bool} {ty : TypeId} {op : Op} {d : Tmp} (h : ckd c d .skip = true) : pwgD P c (some (some false)) true ext ty op (some d) k Q pf = pw P c k Q (pf.put d .skip) := by simp [pwgD, pgo, pskip, h]
@[go_sem ↓] theorem pwgD_n {ext b : Bool} {ty : TypeId} {op : Op} {d : Tmp} (h : ckd c d .skip = true) : pwgD P c (some none) b ext ty op (some d) k Q pf = pw P c k Q (pf.put d .skip) := by simp [pwgD, pgo, pskip, h]
theorem pwgD_split {y b ext : Bool} {ty : TypeId} {op : Op} {d : Option Tmp} (h1 : y = true → pwgD P c (some (some true)) b ext ty op d k Q pf) (h2 : y = false → pwgD P c (some (some false)) b ext ty op d k Q pf) : pwgD P c (some (some y)) b ext ty op d k Q pf := by
 cases y
 ·exact h2 rfl
 ·exact h1 rfl
@[go_sem ↓] theorem pwd_op {ext : Bool} {ty : TypeId} {op : Op} {d : Option Tmp} (hc : isCallV op = false) (he : (!ext || extOp op) = true) : pwd P c ext ty op d k Q pf = pw1 P c c.nohp ty op d k Q pf := by
 have he' : ext = true → extOp op = true := by intro h; subst h; simpa using he
 unfold pwd popD pw1
 split
 ·simp_all [isCallV]
 ·simp only [eq_iff_iff]
  exact ⟨fun h => h.2, fun h => ⟨he', h⟩⟩
@[go_sem] theorem DE_ex {i : Nat} {sl rg : List Nat} {mr : Option Nat} {ls a b : Bool} : DE.ex ⟨i, sl, rg, mr, ls, a, b⟩ = (a && !b) := (rfl)
@[go_sem ↓] theorem pwd_wr {ty : TypeId} {f : Operand} {args : Array Operand} {ts : Array TypeId} {d : Option Tmp} : pwd P c false ty (.call ⟨.value f, args, ts⟩) d k Q pf = pw1 P c c.nohp ty (.call ⟨.value f, args, ts⟩) d k Q pf := by
 unfold pwd popD pw1
 simp
theorem pw_callD {ty : TypeId} {f : Operand} {args : Array Operand} {ts : Array TypeId} {d : Option Tmp} {l : List (Md × Nat × Operand)} {ys : List PV} {pf1 : PFr} {g : FuncId} {xs us : List PV} {as as' : List (Md × PV)}
 {R : PV → List PV → Prop} (hl : (List.replicate args.toList.length Md.sh).zip (argEs P args.toList ts.toList) = l) (ha : argl pf l = some (ys, pf1)) (hf : fnO pf1 f = some (g, xs, us)) (hc : cargs pf1 l ys = some as)
 (has : xs.map (fun x => (Md.sh, x)) ++ as ++ us.map (fun x => (Md.sh, x)) = as') (h : PCalls P g as' R)
 (hk : ∀ r outs, R r outs → (l.any (shOwn pf1) = false ∨ (clean r && outs.all clean) = true) ∧ qv P c c ((back c.nt pf1 l (outs.drop xs.length)).map fun p => (.v r, p)) d k Q) : pwd P c true ty (.call ⟨.value f, args, ts⟩) d k Q pf := by
 refine ⟨by simp, ?_⟩
 rw [hl, ha]
 show pcallF P c d (pw P c k Q) pf1 l (fnO pf1 f) (cargs pf1 l ys)
 rw [hf, hc]
 show PCalls P g _ _
 rw [has]
 refine h.mono fun r outs hr => ?_
 obtain ⟨h1, h2⟩ := hk r outs hr
 refine ⟨h1, ?_⟩
 cases hb : back c.nt pf1 l (outs.drop xs.length) with
 | none => rw [hb] at h2; exact h2
 | some p => rw [hb] at h2; exact h2
theorem pcalls_body {f : FuncId} {fn : Func} {code : Code} {as : List (Md × PV)} {R : PV → List PV → Prop} (fz hp : List Nat) (hc : Callable P f) (hf : P.funcs[f]? = some fn) (hb : fn.body = some code) (hlen : as.length ≤ fn.ntmps)
 (h : pw P ⟨fn.ntmps, ioL 0 as, fz, hp⟩ [.code code] (pend P fn.results.toList as R) (initP as)) : PCalls P f as R := by
 refine pcalls_intro (fz := fz) (hp := hp) hc hf hb hlen ?_
 have e : pkont P ⟨fn.ntmps, ioL 0 as, fz, hp⟩ [] (pend P fn.results.toList as R) = pend P fn.results.toList as R := by funext e; cases e <;> rfl
 have h' : pwp P ⟨fn.ntmps, ioL 0 as, fz, hp⟩ code (pkont P ⟨fn.ntmps, ioL 0 as, fz, hp⟩ [] (pend P fn.results.toList as R)) (initP as) := h
 rwa [e] at h'
@[go_sem] theorem pend_ret {rs : List ResultVar} {as : List (Md × PV)} {R : PV → List PV → Prop} : pend P rs as R .ret pf = pendO as R (presl P pf rs) := (rfl)
@[go_sem] theorem pend_normal {rs : List ResultVar} {as : List (Md × PV)} {R : PV → List PV → Prop} : pend P rs as R .normal pf = pendO as R (presl P pf rs) := (rfl)
@[go_sem] theorem pendO_some {as : List (Md × PV)} {R : PV → List PV → Prop} {x : List PV} : pendO as R (some (x, pf)) = R (resP x) (outL pf 0 as) := (rfl)
@[go_sem] theorem presl_nil : presl P pf [] = some ([], pf) := (rfl)
@[go_sem] theorem presl_cons {x : ResultVar} {xs : List ResultVar} : presl P pf (x :: xs) = (presV P pf x).bind fun a => (presl P a.2 xs).map fun b => (a.1 :: b.1, b.2) := (rfl)
@[go_sem] theorem presV_tmp {t : Tmp} : presV P pf (.tmp t) = if isLs (pf t) = true then none else takeF pf t (pf t) := (rfl)
@[go_sem] theorem presV_cell {t : Tmp} {ty : TypeId} : presV P pf (.cell t ty) = presC pf t (pf t) (tk P ty) := (rfl)
@[go_sem] theorem presC_t {t sz : Nat} {row : List PV} : presC pf t (.bl row) (some (true, sz)) = if sz = row.length then some (.agg row, (pf.upd t jP).kill t 0) else none := by cases row <;> rfl
@[go_sem] theorem presC_f {t sz : Nat} {x : PV} {row : List PV} : presC pf t (.bl (x :: row)) (some (false, sz)) = some (x, (pf.upd t jP).kill t 0) := (rfl)
@[go_sem] theorem isLs_v {x : PV} : isLs (.v x) = false := (rfl)
@[go_sem] theorem isLs_rf {s : Nat} {p : Path} : isLs (.rf s p) = false := (rfl)
@[go_sem] theorem isLs_rv {s lo hi : Nat} {p : Path} : isLs (.rv s p lo hi) = false := (rfl)
@[go_sem] theorem isLs_ra {s i j n : Nat} {p : Path} : isLs (.ra s p i j n) = false := (rfl)
@[go_sem] theorem isLs_ls {es : Nat} {rows : List (List PV)} : isLs (.ls es rows) = true := (rfl)
@[go_sem] theorem isLs_pt {s i j : Nat} {p : Path} : isLs (.pt s p i j) = false := (rfl)
@[go_sem] theorem isLs_bl {row : List PV} : isLs (.bl row) = false := (rfl)
@[go_sem] theorem lsO_tmp {t : Tmp} : lsO pf (.tmp t) = isLs (pf t) := (rfl)
@[go_sem] theorem lsO_const {v : Value} : lsO pf (.const v) = false := (rfl)
@[go_sem] theorem lsO_func {g : FuncId} : lsO pf (.func g) = false := (rfl)
@[go_sem] theorem resP_nil : resP [] = .junk := (rfl)
@[go_sem] theorem resP_one {x : PV} : resP [x] = x := (rfl)
@[go_sem] theorem resP_two {x y : PV} {l : List PV} : resP (x :: y :: l) = .tup (x :: y :: l) := (rfl)
@[go_sem] theorem outL_nil {n : Nat} : outL pf n [] = [] := (rfl)
@[go_sem] theorem outL_io {n : Nat} {x : PV} {l : List (Md × PV)} : outL pf n ((.io, x) :: l) = outV (pf n) :: outL pf (n + 1) l := (rfl)
@[go_sem] theorem outL_sh {n : Nat} {x : PV} {l : List (Md × PV)} : outL pf n ((.sh, x) :: l) = .junk :: outL pf (n + 1) l := (rfl)
@[go_sem] theorem outL_mv {n : Nat} {x : PV} {l : List (Md × PV)} : outL pf n ((.mv, x) :: l) = .junk :: outL pf (n + 1) l := (rfl)
@[go_sem] theorem outV_v {x : PV} : outV (.v x) = x := (rfl)
@[go_sem] theorem ioL_nil {n : Nat} : ioL n [] = [] := (rfl)
@[go_sem] theorem ioL_io {n : Nat} {x : PV} {l : List (Md × PV)} : ioL n ((.io, x) :: l) = n :: ioL (n + 1) l := (rfl)
@[go_sem] theorem ioL_sh {n : Nat} {x : PV} {l : List (Md × PV)} : ioL n ((.sh, x) :: l) = ioL (n + 1) l := (rfl)
@[go_sem] theorem ioL_mv {n : Nat} {x : PV} {l : List (Md × PV)} : ioL n ((.mv, x) :: l) = ioL (n + 1) l := (rfl)
end
end Go.Pm
