import Derived.Test.YtikiohlamlipnaaGreatPmT
namespace Go.Pm
open Go.Am
section
variable {P : Program} {c co : Cfg} {k : List PIt} {Q : Exit → PFr → Prop} {pf : PFr}
attribute [go_sem] Option.bind_some Option.bind_none Option.map_some Option.map_none Option.getD_some Option.getD_none
def orE : Option (PF × PFr) → Option (PF × PFr) → Option (PF × PFr)
 | some a, _ => some a
 | none, y => y
theorem zpL {a b c : Option (PF × PFr)} (h : a = b) : orE a c = orE b c := by rw [h]
@[go_sem ↓] theorem zx1 {a : PF × PFr} {y : Option (PF × PFr)} : orE (some a) y = some a := rfl
@[go_sem ↓] theorem zxG {y : Option (PF × PFr)} : orE none y = y := rfl
def tkA : Option PF → PFr → Option (PF × PFr) → Option (PF × PFr)
 | some y, pf, _ => some (y, pf)
 | none, _, x => x
theorem zqy {a b : Option PF} {pf : PFr} {x : Option (PF × PFr)} (h : a = b) : tkA a pf x = tkA b pf x := by rw [h]
@[go_sem ↓] theorem zxZ {y : PF} {x : Option (PF × PFr)} : tkA (some y) pf x = some (y, pf) := rfl
@[go_sem ↓] theorem zyh {x : Option (PF × PFr)} : tkA none pf x = x := rfl
attribute [congr] zpL zqy
@[go_sem ↓] theorem zyA {ty t : TypeId} {a : Operand} {d : Option Tmp} : pw1 P c co ty (.load t a) d k Q pf = qv P c co (orE (((tk P t).bind fun tz => (adr pf a).bind (ldA tz pf)).map fun y => (y, pf)) ((zl4 P t pf a).map fun y => (y, pf))) d k Q := by
 show zi6 P co t a d (pw P c k Q) pf = _
 unfold zi6
 cases (tk P t).bind fun tz => (adr pf a).bind (ldA tz pf) with
 | some y => rfl
 | none => cases zl4 P t pf a <;> rfl
theorem zqh {d : Option Tmp} {x : Option AD} : pad co (pw P c k Q) d pf x = qv P c co (x.map fun ad => (zhg ad, pf)) d k Q := by cases x <;> rfl
@[go_sem ↓] theorem zwK {ty s : TypeId} {x : Operand} {f : Nat} {d : Option Tmp} : pw1 P c co ty (.fieldAddr s x f) d k Q pf = qv P c co (((za7 P s f).bind fun o => (adr pf x).bind (zgZ o.1)).map fun ad => (zhg ad, pf)) d k Q := zqh
@[go_sem ↓] theorem ztt {ty : TypeId} {x : Operand} {d : Option Tmp} : pw1 P c co ty (.nilCheck x) d k Q pf = qv P c co ((adr pf x).map fun ad => (zhg ad, pf)) d k Q := zqh
@[go_sem] theorem zEy {t : TypeId} {x i : Operand} {es : Nat} (h : esz P t = some es) : ixE P t x i pf = (sbO pf x).bind (ixS es (rdS pf i)) := by simp [ixE, h]
@[go_sem ↓] theorem zs6 {ty t : TypeId} {x i : Operand} {d : Option Tmp} : pw1 P c co ty (.indexAddr t x i) d k Q pf = qv P c co (orE ((ixE P t x i pf).map fun ad => (zhg ad, pf)) (zk9 P t x i pf)) d k Q := by
 show zhw P co t x i d (pw P c k Q) pf = _
 unfold zhw
 cases ixE P t x i pf with
 | some ad => rfl
 | none => cases zk9 P t x i pf <;> rfl
@[go_sem] theorem zDw {t : TypeId} {u : Nat} {i : Operand} : zk9 P t (.tmp u) i pf = zlN P t u pf (pf u) (rdS pf i) := (rfl)
@[go_sem] theorem zzP {t : TypeId} {u s i j n : Nat} {p : zac} {kk : IntKind} {q : Int} : zlN P t u pf (.as false s p i j n) (some (.int kk q)) = if esz P t = some 1 ∧ 0 ≤ q ∧ q < n then some (.as true s p i (j + q.toNat) 1, pf.put u jP) else none := (rfl)
@[go_sem] theorem zDk {t : TypeId} {u : Nat} : zl4 P t pf (.tmp u) = (tk P t).bind fun tz => if tz.1 = false then zlI (pf u) else none := (rfl)
@[go_sem] theorem zyx {s i j n : Nat} {p : zac} : zlI (.as true s p i j n) = some (.rf s (p ++ [(i, j)])) := (rfl)
@[go_sem] theorem zDq {t : Nat} {b : Bool} {s i j n : Nat} {p : zac} : adF pf t (.as b s p i j n) = none := (rfl)
@[go_sem] theorem zCP {t : Nat} {b : Bool} {s i j n : Nat} {p : zac} : sbF pf t (.as b s p i j n) = none := (rfl)
@[go_sem] theorem zA3 {c : Cfg} {d : Nat} (h : c.fz = []) : mkd c d = false := by simp [mkd, h]
@[go_sem] theorem zEz {c : Cfg} {d : Nat} : mkd c d = c.fz.contains (d + 2 * c.nt) := (rfl)
@[go_sem] theorem zAO {s : Nat} {p : zac} : zhi (.rf s p) = some (s, p) := (rfl)
@[go_sem] theorem zzO {o : Bool} {es : Nat} {rows : List (List PV)} : zlF (some (.sl o es rows)) = true := (rfl)
@[go_sem] theorem zyM {s i j q : Nat} {p : zac} : zh0 pf s p i j q [] = true := (rfl)
@[go_sem] theorem zxb {s i j q q' : Nat} {t : Tmp} {p : zac} {r : List (Nat × Operand)} : zh0 pf s p i j q ((q', .tmp t) :: r) = if q' = q ∧ zhi (pf t) = some (s, p ++ [(i, j + q)]) ∧ zlF (zay pf s (p ++ [(i, j + q)])) = true then zh0 pf s p i j (q + 1) r else false := (rfl)
@[go_sem] theorem zv5 {a : Nat × Nat} : zeb [a] = some ([], a.1, a.2) := (rfl)
@[go_sem] theorem zDf {q : Nat} {t : Tmp} {r : List (Nat × Operand)} : zkN pf ((q, .tmp t) :: r) = (zhi (pf t)).bind fun x => (zeb x.2).map fun y => (x.1, y) := (rfl)
@[go_sem] theorem zBZ {t : TypeId} {len : Nat} {ps : List (Nat × Operand)} : zl5 P t len ps pf = (ez P t).bind fun z => (zkN pf ps).bind fun a => if z.1 = 1 ∧ len ≤ 2 ^ 24 ∧ ps.length = len ∧ zh0 pf a.1 a.2.1 a.2.2.1 a.2.2.2 0 ps = true then some (.as false a.1 a.2.1 a.2.2.1 a.2.2.2 len) else none := (rfl)
def stA (pf : PFr) (cells : List PV) : AD → Option PFr
 | .pl s p i j => zdp pf s p i j cells
 | _ => none
def stE (P : Program) (t : TypeId) (a x : Operand) (pf : PFr) : Option PFr :=
 (tk P t).bind fun tz => (za5 (ezT P t) pf x).bind fun y => if zkQ tz.2 y.1 = true then (adr y.2 a).bind (stA y.2 (zav y.1)) else none
@[go_sem] theorem zCH {t : TypeId} {a x : Operand} : stE P t a x pf = (tk P t).bind fun tz => (za5 (ezT P t) pf x).bind fun y => if zkQ tz.2 y.1 = true then (adr y.2 a).bind (stA y.2 (zav y.1)) else none := (rfl)
@[go_sem ↓] theorem zxg {ty t : TypeId} {a x : Operand} : pw1 P c co ty (.store t a x) none k Q pf = qf P c (stE P t a x pf) k Q := by
 show zhy P co t a x none (pw P c k Q) pf = _
 unfold zhy stE
 cases tk P t with
 | none => rfl
 | some tz =>
  cases za5 (ezT P t) pf x with
  | none => rfl
  | some y =>
   obtain ⟨y, pf1⟩ := y
   obtain ⟨b, sz⟩ := tz
   simp only [Option.bind_some]
   by_cases h : zkQ sz y = true
   ·rw [if_pos h]
    cases ha : adr pf1 a with
    | none => simp [zgk, qf]
    | some ad => cases ad with
     | pl s p i j => cases hp : zdp pf1 s p i j (zav y) <;> simp [zgk, qf, h, stA, hp]
     | fz row => simp [zgk, qf, stA]
   ·rw [if_neg h]; simp [qf, h]
def alE (P : Program) (co : Cfg) (e : TypeId) (d : Nat) (pf : PFr) : Option PFr :=
 (zr P e).bind fun z => if ckd co d .skip = true then some (if co.hp.contains d = true then pf.put d (.v (.bx z)) else pf.put d (.bl z)) else none
@[go_sem] theorem zEG {e : TypeId} {d : Nat} {z : List PV} (h : zr P e = some z) (h1 : ckd co d .skip = true) (h2 : co.hp.contains d = false) : alE P co e d pf = some (pf.put d (.bl z)) := by unfold alE; rw [h, Option.bind_some, if_pos h1, if_neg (by rw [h2]; simp)]
@[go_sem ↓] theorem zw4 {ty e : TypeId} {d : Tmp} : pw1 P c co ty (.alloc e) (some d) k Q pf = qf P c (alE P co e d pf) k Q := by
 show zht P co e (some d) (pw P c k Q) pf = _
 unfold zht alE
 cases zr P e with
 | none => rfl
 | some z =>
  simp only [Option.bind_some]
  by_cases h : ckd co d .skip = true
  ·rw [if_pos h]
   by_cases h2 : co.hp.contains d = true
   ·simp only [h, h2, qf, if_true, true_and]
   ·simp only [h, h2, qf, true_and]; simp
  ·rw [if_neg h]; simp [qf, h]
def bxE (P : Program) (co : Cfg) (e : TypeId) (x : Operand) (d : Nat) (pf : PFr) : Option PFr :=
 (tk P e).bind fun _ => (za5 (ezT P e) pf x).bind fun y => if (!lsO pf x && zb6 y.1 && ckd co d .skip) = true then some (if co.hp.contains d = true then (if co.fz.contains d = true then (y.2.put d (.v (.bx (zav y.1)))).put d (.v (drop (.bx (zav y.1)))) else y.2.put d (.v (.bx (zav y.1)))) else y.2.put d (.bl (zav y.1))) else none
@[go_sem] theorem zCW {e : TypeId} {x : Operand} {d : Nat} : bxE P co e x d pf = (tk P e).bind fun _ => (za5 (ezT P e) pf x).bind fun y => if (!lsO pf x && zb6 y.1 && ckd co d .skip) = true then some (if co.hp.contains d = true then (if co.fz.contains d = true then (y.2.put d (.v (.bx (zav y.1)))).put d (.v (drop (.bx (zav y.1)))) else y.2.put d (.v (.bx (zav y.1)))) else y.2.put d (.bl (zav y.1))) else none := (rfl)
@[go_sem ↓] theorem zA6 {ty e : TypeId} {x : Operand} {d : Tmp} : pw1 P c co ty (.box e x) (some d) k Q pf = qf P c (bxE P co e x d pf) k Q := by
 show zkW P co e x (some d) (pw P c k Q) pf = _
 unfold zkW bxE
 cases tk P e with
 | none => rfl
 | some z =>
  cases za5 (ezT P e) pf x with
  | none => rfl
  | some y =>
   obtain ⟨y, pf1⟩ := y
   simp only [Option.bind_some]
   by_cases h : (!lsO pf x && zb6 y && ckd co d .skip) = true
   ·rw [if_pos h]
    simp only [Bool.and_eq_true, Bool.not_eq_true'] at h
    by_cases h2 : co.hp.contains d = true
    ·by_cases h4 : co.fz.contains d = true
     ·simp only [h.1.1, h.1.2, h.2, h2, h4, qf, if_true, true_and]
     ·simp only [h.1.1, h.1.2, h.2, h2, h4, qf, if_true, true_and]; simp
    ·simp only [h.1.1, h.1.2, h.2, h2, qf, true_and]; simp
   ·rw [if_neg h]
    simp only [qf, eq_iff_iff, iff_false]
    rintro ⟨h1, h2, h3, _⟩
    exact h (by rw [h1, h2, h3]; rfl)
def zrc (P : Program) (co : Cfg) (t : TypeId) (len : Nat) (ps : List (Nat × Operand)) (d : Nat) (pf : PFr) : Option PFr :=
 (ez P t).bind fun z => (zeq pf (ps.map fun p => (zcr P t p.1, p.2))).bind fun y => if len * z.1 ≤ 2 ^ 24 ∧ ckd co d .skip = true then (zeW z.1 ((ps.map (·.1)).zip (drx co d y.1)) (List.replicate len z.2.2)).map fun rows => y.2.put d (.ls z.1 rows) else none
@[go_sem] theorem zCf {d : Nat} {xs : List PV} (h : co.fz = []) : drx co d xs = xs := by simp [drx, h]
@[go_sem] theorem zD5 {d : Nat} {xs : List PV} : drx co d xs = if co.fz.contains (d + 3 * co.nt) = true then xs.map drop else xs := (rfl)
@[go_sem] theorem zA8 {t : TypeId} {len : Nat} {ps : List (Nat × Operand)} {d : Nat} : zrc P co t len ps d pf = (ez P t).bind fun z => (zeq pf (ps.map fun p => (zcr P t p.1, p.2))).bind fun y => if len * z.1 ≤ 2 ^ 24 ∧ ckd co d .skip = true then (zeW z.1 ((ps.map (·.1)).zip (drx co d y.1)) (List.replicate len z.2.2)).map fun rows => y.2.put d (.ls z.1 rows) else none := (rfl)
@[go_sem ↓] theorem zsr {ty t : TypeId} {len : Nat} {ps : Array (Nat × Operand)} {d : Tmp} : pw1 P c co ty (.buildSlice t len ps) (some d) k Q pf = if mkd co d = true then qv P c co ((zl5 P t len ps.toList pf).map fun y => (y, pf)) (some d) k Q else qf P c (zrc P co t len ps.toList d pf) k Q := by
 show zkx P co t len ps.toList (some d) (pw P c k Q) pf = _
 unfold zkx zrc
 by_cases hm : mkd co d = true
 ·rw [if_pos hm, if_pos (show zq0 co (some d) = true from hm)]
  unfold zjX
  cases zl5 P t len ps.toList pf <;> rfl
 rw [if_neg hm, if_neg (show ¬ zq0 co (some d) = true from hm)]
 cases ez P t with
 | none => rfl
 | some z =>
  cases zeq pf (ps.toList.map fun p => (zcr P t p.1, p.2)) with
  | none => rfl
  | some y =>
   obtain ⟨xs, pf1⟩ := y
   simp only [Option.bind_some]
   by_cases h : len * z.1 ≤ 2 ^ 24 ∧ ckd co d .skip = true
   ·rw [if_pos h]
    cases zeW z.1 ((ps.toList.map (·.1)).zip (drx co d xs)) (List.replicate len z.2.2) <;> simp only [zlR, qf, h.1, h.2, true_and, and_false, Option.map_none, Option.map_some]
   ·rw [if_neg h]
    simp only [qf, eq_iff_iff, iff_false]
    rintro ⟨h1, h2⟩
    cases hf : zeW z.1 ((ps.toList.map (·.1)).zip (drx co d xs)) (List.replicate len z.2.2) with
    | none => rw [hf] at h2; exact h2
    | some r => rw [hf] at h2; exact h ⟨h1, h2.1⟩
@[go_sem ↓] theorem zwX {ty t : TypeId} {ps : Array (Nat × Operand)} {d : Option Tmp} : pw1 P c co ty (.build t ps) d k Q pf =
 qv P c co ((zgT P t).bind fun b => (zeq pf (ps.toList.map fun p => (zcr P t p.1, p.2))).bind fun y => (zfN b.1 ((ps.toList.map (·.1)).zip y.1) b.2).map fun row => (.v (.agg row), y.2)) d k Q := by
 show zhr P co t ps.toList d (pw P c k Q) pf = _
 unfold zhr
 cases zgT P t with
 | none => rfl
 | some b =>
  cases zeq pf (ps.toList.map fun p => (zcr P t p.1, p.2)) with
  | none => rfl
  | some y =>
   simp only [Option.bind_some]
   cases zfN b.1 ((ps.toList.map (·.1)).zip y.1) b.2 <;> rfl
def pkV (b x y : Option Value) : Option PV :=
 match b with
 | some (.bool true) => x.bind zdF
 | some (.bool false) => y.bind zdF
 | _ => none
@[go_sem ↓] theorem zzm {ty : TypeId} {b x y : Operand} {d : Option Tmp} : pw1 P c co ty (.pick b x y) d k Q pf = qv P c co ((pkV (rdS pf b) (rdS pf x) (rdS pf y)).map fun z => (.v z, pf)) d k Q := by
 show zi8 co b x y d (pw P c k Q) pf = _
 unfold zi8 zpf pkV
 cases rdS pf b with
 | none => rfl
 | some v =>
  cases v with
  | bool b =>
   cases b
   ·simp only []
    cases (rdS pf y).bind zdF <;> rfl
   ·simp only []
    cases (rdS pf x).bind zdF <;> rfl
  | _ => rfl
@[go_sem] theorem zDD {x y : Option Value} : pkV (some (.bool true)) x y = x.bind zdF := (rfl)
@[go_sem] theorem zDO {x y : Option Value} : pkV (some (.bool false)) x y = y.bind zdF := (rfl)
@[go_sem] theorem zz7 {b m n : Bool} : pkV (some (.bool b)) (some (.bool m)) (some (.bool n)) = some (.bool (if b = true then m else n)) := by cases b <;> rfl
def mkV (b : Bool) (z : Nat × Nat × List PV) (pf : PFr) : Option Value → Option Value → Option (PF × PFr)
 | some (.int .i64 n), some (.int .i64 m) => if 0 ≤ n ∧ n ≤ m ∧ z.2.1 * m ≤ 140737488355328 ∧ m ≤ 4611686018427387904 then some (.v (.sl true z.1 (List.replicate n.toNat (uz b z.2.2))), pf) else none
 | _, _ => none
@[go_sem] theorem zAu {b : Bool} {z : Nat × Nat × List PV} {n m : Int} : mkV b z pf (some (.int .i64 n)) (some (.int .i64 m)) = if 0 ≤ n ∧ n ≤ m ∧ z.2.1 * m ≤ 140737488355328 ∧ m ≤ 4611686018427387904 then some (.v (.sl true z.1 (List.replicate n.toNat (uz b z.2.2))), pf) else none := (rfl)
@[go_sem] theorem zzV {d : Nat} : nzB co (some d) = co.fz.contains (d + co.nt) := (rfl)
@[go_sem] theorem zyD {z : List PV} : uz false z = z := (rfl)
@[go_sem ↓] theorem zs3 {ty t : TypeId} {l cc : Operand} {d : Option Tmp} : pw1 P c co ty (.makeSlice t l cc) d k Q pf = qv P c co ((ez P t).bind fun z => mkV (nzB co d) z pf (rdS pf l) (rdS pf cc)) d k Q := by
 show ziU P co t l cc d (pw P c k Q) pf = _
 unfold ziU
 cases ez P t with
 | none => rfl
 | some z =>
  simp only [Option.bind_some]
  generalize rdS pf l = x1
  generalize rdS pf cc = x2
  unfold zow mkV
  split
  ·rename_i n m
   simp only []
   by_cases h : 0 ≤ n ∧ n ≤ m ∧ z.2.1 * m ≤ 140737488355328 ∧ m ≤ 4611686018427387904
   ·rw [if_pos h]
    simp only [h, true_and]
    rfl
   ·rw [if_neg h]
    simp only [qv, eq_iff_iff, iff_false]
    rintro ⟨a1, _⟩
    exact h a1
  ·rename_i h1
   split
   ·rename_i e1; exact absurd rfl (h1 _ _ rfl)
   ·rfl
@[go_sem ↓] theorem ztY {ty : TypeId} {fn : Fn} {xs ys : Array Operand} {d : Option Tmp} : pw1 P c co ty (.makeFunc fn xs ys) d k Q pf =
 qv P c co ((zhh (!co.hp.isEmpty) pf (xs.toList ++ ys.toList)).map fun vs => (.v (.func fn (vs.1.take xs.toList.length) (vs.1.drop xs.toList.length)), vs.2)) d k Q := by
 show ziX co fn xs.toList ys.toList d (pw P c k Q) pf = _
 unfold ziX
 cases zhh (!co.hp.isEmpty) pf (xs.toList ++ ys.toList) <;> rfl
def mvF (nt : Nat) (t : Nat) (pf : PFr) : PF → Option (PF × PFr)
 | .v x => if isJ x = true then none else some (if zaA x = true then .rf t [] else .v x, pf)
 | .ls es rows => if t < nt then some (.rf t [], (pf.upd t (.v (.sl true es rows))).kill t 0) else none
 | .bl _ => some (.pt t [] 0 0, pf)
 | .skip => none
 | .as .. => none
 | y => some (y, pf)
@[go_sem] theorem zEW {nt t : Nat} {x : PV} (h : isJ x = false) : mvF nt t pf (.v x) = some (if zaA x = true then .rf t [] else .v x, pf) := by simp [mvF, h]
@[go_sem] theorem zDp {nt t s : Nat} {p : zac} : mvF nt t pf (.rf s p) = some (.rf s p, pf) := (rfl)
@[go_sem ↓] theorem zvW {ty : TypeId} {t : Tmp} {d : Option Tmp} : pw1 P c co ty (.move (.tmp t)) d k Q pf = qv P c co (mvF co.nt t pf (pf t)) d k Q := by
 show zeQ co t d (pw P c k Q) pf (pf t) = _
 unfold zeQ mvF
 cases pf t with
 | v x =>
  cases hj : isJ x
  ·cases ho : zaA x <;> simp [hj, ho, qv]
  ·simp [hj, qv]
 | ls es rows =>
  by_cases h : t < co.nt
  ·simp [h, qv]
  ·simp [h, qv]
 | _ => rfl
def tkV (x : Option (PV × PFr)) : Option (PF × PFr) := x.map fun y => (.v y.1, y.2)
@[go_sem] theorem zzw {y : PV} : tkV (some (y, pf)) = some (.v y, pf) := (rfl)
@[go_sem ↓] theorem zvL {ty : TypeId} {k0 : Value} {d : Option Tmp} : pw1 P c co ty (.move (.const k0)) d k Q pf = qv P c co (tkV (za5 (ezT P ty) pf (.const k0))) d k Q := by
 show zgh (ezT P ty) co (.const k0) d (pw P c k Q) pf = _
 unfold zgh
 simp only []
 cases za5 (ezT P ty) pf (.const k0) <;> rfl
@[go_sem ↓] theorem zu1 {ty : TypeId} {x : Operand} {d : Option Tmp} : pw1 P c co ty (.assign x) d k Q pf = qv P c co (tkA (zk4 co pf d x) pf (tkV (za5 (ezT P ty) pf x))) d k Q := by
 show zgt (ezT P ty) co x d (pw P c k Q) pf = _
 unfold zgt
 cases zk4 co pf d x with
 | some y => rfl
 | none => cases za5 (ezT P ty) pf x <;> rfl
@[go_sem] theorem zDs {d : Nat} {t : Tmp} : zk4 co pf (some d) (.tmp t) = if mkd co d = true then (zhi (pf t)).map fun x => .rf x.1 x.2 else none := (rfl)
@[go_sem] theorem zCR {d : Option Tmp} {x : Value} : zk4 co pf d (.const x) = none := by cases d <;> rfl
def exV (pf : PFr) (s : Nat) (xs : List PV) (i : Nat) : Option PV → Option (PF × PFr)
 | some y => if isJ y = true then none else some (.v y, if zaA y = true then (pf.upd s (.v (.tup (xs.set i .junk)))).kill s 1 else pf)
 | none => none
@[go_sem] theorem zxz {s i : Nat} {xs : List PV} {y : PV} (h : isJ y = false) : exV pf s xs i (some y) = some (.v y, if zaA y = true then (pf.upd s (.v (.tup (xs.set i .junk)))).kill s 1 else pf) := by simp [exV, h]
@[go_sem] theorem zCm {t : Tmp} : exO pf (.tmp t) = match pf t with
 | .rf s [] => exR s (pf s)
 | y => exR t y := rfl
@[go_sem] theorem zEO {s : Nat} {xs : List PV} : exR s (.v (.tup xs)) = some (s, xs) := (rfl)
@[go_sem ↓] theorem zuq {ty : TypeId} {x : Operand} {i : Nat} {d : Option Tmp} : pw1 P c co ty (.extract x i) d k Q pf = qv P c co ((exO pf x).bind fun a => if a.1 < co.nt then exV pf a.1 a.2 i a.2[i]? else none) d k Q := by
 show zfK co x i d (pw P c k Q) pf = _
 unfold zfK
 cases exO pf x with
 | none => rfl
 | some a =>
  obtain ⟨s, xs⟩ := a
  simp only [Option.bind_some]
  by_cases h : s < co.nt
  ·rw [if_pos h]
   simp only [h, true_and]
   cases xs[i]? with
   | none => rfl
   | some y =>
    cases hj : isJ y
    ·cases ho : zaA y <;> simp [pex, exV, hj, ho, qv]
    ·simp [pex, exV, hj, qv]
  ·rw [if_neg h]; simp [h, qv]
def slE (es t : Nat) (pf : PFr) (l h m : Option (Option Nat)) : Option (PF × PFr) :=
 match l, h, m with
 | some l, some h, some none => (slF es (l.getD 0) h pf t (pf t)).map fun y => (y, pf)
 | some l, some (some h), some (some m) => ((zaX pf (pf t)).bind lenV).bind fun rows => (slF es (l.getD 0) (some h) pf t (pf t)).bind fun _ => if l.getD 0 = h ∧ h = m ∧ m ≤ rows.length then some (.v (.sl true es []), pf) else none
 | _, _, _ => none
@[go_sem] theorem zvc {es t : Nat} {l h : Option Nat} : slE es t pf (some l) (some h) (some none) = (slF es (l.getD 0) h pf t (pf t)).map fun y => (y, pf) := by cases h <;> rfl
@[go_sem] theorem zuP {es t : Nat} {l : Option Nat} {h m : Nat} : slE es t pf (some l) (some (some h)) (some (some m)) = ((zaX pf (pf t)).bind lenV).bind fun rows => (slF es (l.getD 0) (some h) pf t (pf t)).bind fun _ => if l.getD 0 = h ∧ h = m ∧ m ≤ rows.length then some (.v (.sl true es []), pf) else none := (rfl)
theorem zsD {es t : Nat} {d : Option Tmp} {l h m : Option (Option Nat)} : zk3 co es t d (pw P c k Q) pf l h m = qv P c co (slE es t pf l h m) d k Q := by
 cases l with
 | none => rfl
 | some l =>
  cases h with
  | none => rfl
  | some h =>
   cases m with
   | none => rfl
   | some m =>
    cases m with
    | none =>
     rw [zvc]
     cases h <;> simp only [zk3] <;> cases slF es (l.getD 0) _ pf t (pf t) <;> rfl
    | some m =>
     cases h with
     | none => rfl
     | some h =>
      rw [zuP]
      simp only [zk3]
      cases (zaX pf (pf t)).bind lenV with
      | none => rfl
      | some rows =>
       simp only [Option.bind_some]
       cases slF es (l.getD 0) (some h) pf t (pf t) with
       | none => simp [qv]
       | some y =>
        by_cases hh : l.getD 0 = h ∧ h = m ∧ m ≤ rows.length
        ·simp [hh, qv]
        ·simp [hh, qv]
@[go_sem ↓] theorem zwo {ty t : TypeId} {x : Tmp} {l h m : Option Operand} {d : Option Tmp} (hs : zaM P t = false) : pw1 P c co ty (.slice t (.tmp x) l h m) d k Q pf = qv P c co ((esz P t).bind fun es => slE es x pf (rdB pf l) (rdB pf h) (rdB pf m)) d k Q := by
 show (if zaM P t = true then zde P co ⟨d, .slice t (.tmp x) l h m, ty, "", #[], none⟩ (pw P c k Q) pf else zhE P co t (.tmp x) l h m d (pw P c k Q) pf) = _
 rw [if_neg (by simp [hs])]
 unfold zhE
 cases esz P t with
 | none => rfl
 | some es => exact zsD
def qln (P : Program) (c co : Cfg) (x : Option (List (List PV))) (d : Option Tmp) (k : List PIt) (Q : Exit → PFr → Prop) (pf : PFr) : Prop :=
 match x with
 | some rows => rows.length ≤ zbV → qv P c co (some (.v (.int .i64 rows.length), pf)) d k Q
 | none => False
theorem zpX {x x' : Option (List (List PV))} {d : Option Tmp} (h : x = x') : qln P c co x d k Q pf = qln P c co x' d k Q pf := by rw [h]
attribute [congr] zpX
def qlm (P : Program) (c co : Cfg) (t : TypeId) (d : Option Tmp) (k : List PIt) (Q : Exit → PFr → Prop) (pf : PFr) (x : Nat) : PF → Prop
 | .ls es rows => qln P c co ((zax P t).bind fun _ => some rows) d k Q ((pf.upd x (.v (.sl true es rows))).kill x 0)
 | y => qln P c co ((zax P t).bind fun _ => (zaX pf y).bind lenV) d k Q pf
theorem zpz {t : TypeId} {d : Option Tmp} {x : Nat} {y y' : PF} (h : y = y') : qlm P c co t d k Q pf x y = qlm P c co t d k Q pf x y' := by rw [h]
attribute [congr] zpz
@[go_sem ↓] theorem zCB {t : TypeId} {d : Option Tmp} {x es : Nat} {rows : List (List PV)} : qlm P c co t d k Q pf x (.ls es rows) = qln P c co ((zax P t).bind fun _ => some rows) d k Q ((pf.upd x (.v (.sl true es rows))).kill x 0) := rfl
@[go_sem ↓] theorem zDJ {t : TypeId} {d : Option Tmp} {x : Nat} {y : PV} : qlm P c co t d k Q pf x (.v y) = qln P c co ((zax P t).bind fun _ => lenV y) d k Q pf := rfl
@[go_sem ↓] theorem zCy {t : TypeId} {d : Option Tmp} {x s : Nat} {p : zac} : qlm P c co t d k Q pf x (.rf s p) = qln P c co ((zax P t).bind fun _ => (zaX pf (.rf s p)).bind lenV) d k Q pf := rfl
@[go_sem ↓] theorem zDz {t : TypeId} {d : Option Tmp} {x s lo hi : Nat} {p : zac} : qlm P c co t d k Q pf x (.rv s p lo hi) = qln P c co ((zax P t).bind fun _ => (zaX pf (.rv s p lo hi)).bind lenV) d k Q pf := rfl
@[go_sem ↓] theorem zCd {ty t : TypeId} {x : Tmp} {d : Option Tmp} (hs : zaM P t = false) : pw1 P c co ty (.call ⟨.builtin .len, #[.tmp x], #[t]⟩) d k Q pf = qlm P c co t d k Q pf x (pf x) := by
 show (if zaM P t = true then zde P co ⟨d, .call ⟨.builtin .len, #[.tmp x], #[t]⟩, ty, "", #[], none⟩ (pw P c k Q) pf else zjR P co t (.tmp x) d (pw P c k Q) pf) = _
 rw [if_neg (by simp [hs])]
 unfold zjR qlm
 cases hpt : pf x with
 | ls es rows =>
  have : ((pf.upd x (.v (.sl true es rows))).kill x 0) x = .v (.sl true es rows) := by simp [PFr.kill, PFr.upd, za9, zao]
  simp only [lsM, hpt, this, zaX, lenV, Option.bind_some, qln, qv]
  cases zax P t <;> rfl
 | _ =>
  simp only [lsM, hpt, qln, qv]
  generalize (zax P t).bind (fun _ => (zaX pf _).bind lenV) = o
  cases o <;> rfl
@[go_sem] theorem zBi {t : TypeId} {x : Operand} {s : ByteArray} (hs : zaM P t = true) : za1 P (.call ⟨.builtin .len, #[x], #[t]⟩) [.string s] = some (.int .i64 s.size) := by simp [za1, Am.lenV, hs]
@[go_sem ↓] theorem zzx {ty t : TypeId} {x : Operand} {d : Option Tmp} (hs : zaM P t = true) : pw1 P c co ty (.call ⟨.builtin .len, #[x], #[t]⟩) d k Q pf = qv P c co (ev1 (fun v => za1 P (.call ⟨.builtin .len, #[x], #[t]⟩) [v]) (rdS pf x) pf) d k Q := by
 show (if zaM P t = true then zde P co ⟨d, .call ⟨.builtin .len, #[x], #[t]⟩, ty, "", #[], none⟩ (pw P c k Q) pf else zjR P co t x d (pw P c k Q) pf) = _
 rw [if_pos hs]
 refine zgv (o := ⟨d, .call ⟨.builtin .len, #[x], #[t]⟩, ty, "", #[], none⟩) ?_
 simp only [zbd, zf2, Option.bind_some]
 cases rdS pf x <;> simp [ev1]
def apE (P : Program) (t : TypeId) (s x : Operand) (pf : PFr) : Option (PF × PFr) :=
 (ez P t).bind fun z => (za5 z.1 pf s).bind fun b => (bsR z.1 b.1).bind fun rows => (srO z.1 b.2 x).bind fun r =>
   if zeU r.1 = true ∧ (rows.length + r.1.length) * z.2.1 ≤ 140737488355328 ∧ rows.length + r.1.length ≤ 4611686018427387904 then some (.v (.sl true z.1 (rows ++ r.1)), r.2) else none
@[go_sem] theorem zC4 {t : TypeId} {s x : Operand} : apE P t s x pf = (ez P t).bind fun z => (za5 z.1 pf s).bind fun b => (bsR z.1 b.1).bind fun rows => (srO z.1 b.2 x).bind fun r =>
 if zeU r.1 = true ∧ (rows.length + r.1.length) * z.2.1 ≤ 140737488355328 ∧ rows.length + r.1.length ≤ 4611686018427387904 then some (.v (.sl true z.1 (rows ++ r.1)), r.2) else none := rfl
@[go_sem ↓] theorem zv9 {ty t : TypeId} {s x : Operand} {d : Option Tmp} : pw1 P c co ty (.call ⟨.builtin .append, #[s, x], #[t, t]⟩) d k Q pf = qv P c co (apE P t s x pf) d k Q := by
 show (if t = t then zk5 P co t s x d (pw P c k Q) pf else zkl P co t t s x d (pw P c k Q) pf) = _
 rw [if_pos rfl]
 unfold zk5 apE
 cases ez P t with
 | none => rfl
 | some z =>
  simp only [Option.bind_some]
  cases za5 z.1 pf s with
  | none => rfl
  | some b =>
   obtain ⟨b, pf1⟩ := b
   simp only [Option.bind_some, zlC]
   cases bsR z.1 b with
   | none => rfl
   | some rows =>
    simp only [Option.bind_some]
    cases srO z.1 pf1 x with
    | none => rfl
    | some r =>
     obtain ⟨rows2, pf2⟩ := r
     simp only [Option.bind_some, zlM]
     by_cases h : zeU rows2 = true ∧ (rows.length + rows2.length) * z.2.1 ≤ 140737488355328 ∧ rows.length + rows2.length ≤ 4611686018427387904
     ·rw [if_pos h]
      simp only [h.1, h.2.1, h.2.2, true_and, qv]
     ·rw [if_neg h]
      simp only [qv, eq_iff_iff, iff_false]
      rintro ⟨a1, a2, _⟩
      exact h ⟨a1, a2⟩
theorem zsz {ty : TypeId} {f : Operand} {args : Array Operand} {ts : Array TypeId} {d : Option Tmp} (ms : List Md) {l : List (Md × Nat × Operand)} {ys : List PV} {pf1 : PFr} {g : FuncId} {xs us : List PV} {as as' : List (Md × PV)}
 {R : PV → List PV → Prop} (hm : ms.length = args.toList.length) (hl : ms.zip (zdd P args.toList ts.toList) = l) (ha : zgB pf l = some (ys, pf1)) (hf : fnO pf1 f = some (g, xs, us)) (hc : cargs pf1 l ys = some as)
 (has : xs.map (fun x => (Md.sh, x)) ++ as ++ us.map (fun x => (Md.sh, x)) = as') (h : PCalls P g as' R)
 (hk : ∀ r outs, R r outs → (l.any (zfQ pf1) = false ∨ (zaU r && outs.all zaU) = true) ∧ qv P c co ((back co.nt pf1 l (outs.drop xs.length)).map fun p => (.v r, p)) d k Q) : pw1 P c co ty (.call ⟨.value f, args, ts⟩) d k Q pf := by
 refine .inl ⟨ms, hm, ?_⟩
 rw [hl, ha]
 show zix P co d (pw P c k Q) pf1 l (fnO pf1 f) (cargs pf1 l ys)
 rw [hf, hc]
 show PCalls P g _ _
 rw [has]
 refine h.mono fun r outs hr => ?_
 obtain ⟨h1, h2⟩ := hk r outs hr
 refine ⟨h1, ?_⟩
 cases hb : back co.nt pf1 l (outs.drop xs.length) with
 | none => rw [hb] at h2; exact h2
 | some p => rw [hb] at h2; exact h2
theorem zsN {id : Nat} {ops : Array Oper} (D : List DE) {L : List (DE × Oper)} (h1 : P.follows .mixedOrders = true) (h2 : zfR D ops.toList = true) (hL : D.map (fun x => (x, ops.toList.getD x.i default)) = L)
 (h : pw P c (.dops (ops.toList.map (·.dst)) L :: k) Q pf) : pw P c (.code (.region id ops true) :: k) Q pf := by
 subst hL
 exact ⟨h1, 0, D, h2, h⟩
theorem zjO {id : Nat} {ops : Array Oper} (a b x y u v : Nat) (D D' D2 : List DE) {L L' L2 : List (DE × Oper)} (h1 : P.follows .mixedOrders = true) (hab : a ≠ b ∧ x ≠ y ∧ u ≠ v) (h2 : zfR D ops.toList [(u, v), (a, b)] = true) (h3 : zfR D ops.toList [(v, u), (a, b)] = true)
 (h4 : zfR D' ops.toList [(x, y), (b, a)] = true) (h5 : zfR D2 ops.toList [(y, x), (b, a)] = true) (hL : D.map (fun x => (x, ops.toList.getD x.i default)) = L) (hL' : D'.map (fun x => (x, ops.toList.getD x.i default)) = L') (hL2 : D2.map (fun x => (x, ops.toList.getD x.i default)) = L2)
 (h : pw P c (.dops (ops.toList.map (·.dst)) L :: k) Q pf) (h' : pw P c (.dops (ops.toList.map (·.dst)) L' :: k) Q pf) (h'' : pw P c (.dops (ops.toList.map (·.dst)) L2 :: k) Q pf) : pw P c (.code (.region id ops true) :: k) Q pf := by
 subst hL
 subst hL'
 subst hL2
 exact ⟨h1, 2, a, b, hab.1, ⟨u, v, hab.2.2, ⟨D, h2, h⟩, ⟨D, h3, h⟩⟩, ⟨x, y, hab.2.1, ⟨D', h4, h'⟩, ⟨D2, h5, h''⟩⟩⟩
@[go_sem ↓] theorem zug {pre : List (Option Tmp)} : pw P c (.dops pre [] :: k) Q pf = pw P c k Q pf := rfl
def zbN : Op → Bool
 | .call ⟨.value _, _, _⟩ => true
 | _ => false
def pwd (P : Program) (c : Cfg) (ext : Bool) (ty : TypeId) (op : Op) (d : Option Tmp) (k : List PIt) (Q : Exit → PFr → Prop) (pf : PFr) : Prop := zf3 P c ext ⟨d, op, ty, "", #[], none⟩ (pw P c k Q) pf
theorem znJ {o o' : Oper} {ext : Bool} {K : PFr → Prop} (h : o.op = o'.op) (hd : o.dst = o'.dst) (ht : o.type = o'.type) : zf3 P c ext o K pf = zf3 P c ext o' K pf := by
 obtain ⟨d, op, ty, ps, af, g⟩ := o
 obtain ⟨d', op', ty', ps', af', g'⟩ := o'
 simp only at h hd ht
 subst h; subst hd; subst ht
 rfl
@[go_sem ↓] theorem zDh {pre : List (Option Tmp)} {e : DE} {d : Option Tmp} {op : Op} {ty : TypeId} {ps : String} {af : Array Edge} {l : List (DE × Oper)} (h : (zhN pf e.rg e.ls e.sl && zjN pf e.mr) = true) :
 pw P c (.dops pre ((e, ⟨d, op, ty, ps, af, none⟩) :: l) :: k) Q pf = pwd P c e.ex ty op d (.dops pre l :: k) Q pf := by
 show zk1 P c pre e ⟨d, op, ty, ps, af, none⟩ (pw P c (.dops pre l :: k) Q) pf = _
 simp only [zk1, h, true_and, zka]
 exact znJ rfl rfl rfl
def zdI (P : Program) (c : Cfg) (y : Option (Option Bool)) (b : Bool) (ext : Bool) (ty : TypeId) (op : Op) (d : Option Tmp) (k : List PIt) (Q : Exit → PFr → Prop) (pf : PFr) : Prop :=
 pgo c b d (pwd P c ext ty op d k Q pf) (pw P c k Q) pf y
theorem zoT {y y' : Option (Option Bool)} {b ext : Bool} {ty : TypeId} {op : Op} {d : Option Tmp} (h : y = y') : zdI P c y b ext ty op d k Q pf = zdI P c y' b ext ty op d k Q pf := by rw [h]
attribute [congr] zoT
@[go_sem ↓] theorem zAI {pre : List (Option Tmp)} {e : DE} {d : Option Tmp} {op : Op} {ty : TypeId} {ps : String} {af : Array Edge} {j : Nat} {b : Bool} {l : List (DE × Oper)} (h : (zhN pf e.rg e.ls e.sl && zjN pf e.mr) = true) :
 pw P c (.dops pre ((e, ⟨d, op, ty, ps, af, some (j, b)⟩) :: l) :: k) Q pf = zdI P c (ygP pf pre[j]?) b e.ex ty op d (.dops pre l :: k) Q pf := by
 show zk1 P c pre e ⟨d, op, ty, ps, af, some (j, b)⟩ (pw P c (.dops pre l :: k) Q) pf = _
 simp only [zk1, h, true_and, zka]
 unfold zdI pwd
 rw [znJ (o := ⟨d, op, ty, ps, af, some (j, b)⟩) (o' := ⟨d, op, ty, "", #[], none⟩) rfl rfl rfl]
@[go_sem ↓] theorem zBF {ext : Bool} {ty : TypeId} {op : Op} {d : Option Tmp} : zdI P c (some (some true)) true ext ty op d k Q pf = pwd P c ext ty op d k Q pf := by simp [zdI, pgo]
@[go_sem ↓] theorem zBa {ext : Bool} {ty : TypeId} {op : Op} {d : Option Tmp} : zdI P c (some (some false)) false ext ty op d k Q pf = pwd P c ext ty op d k Q pf := by simp [zdI, pgo]
@[go_sem ↓] theorem zBD {ext : Bool} {ty : TypeId} {op : Op} {d : Tmp} (h : ckd c d .skip = true) : zdI P c (some (some true)) false ext ty op (some d) k Q pf = pw P c k Q (pf.put d .skip) := by simp [zdI, pgo, zf8, h]
@[go_sem ↓] theorem zAA {ext : Bool} {ty : TypeId} {op : Op} {d : Tmp} (h : ckd c d .skip = true) : zdI P c (some (some false)) true ext ty op (some d) k Q pf = pw P c k Q (pf.put d .skip) := by simp [zdI, pgo, zf8, h]
theorem zoK {y b ext : Bool} {ty : TypeId} {op : Op} {d : Option Tmp} (h1 : y = true → zdI P c (some (some true)) b ext ty op d k Q pf) (h2 : y = false → zdI P c (some (some false)) b ext ty op d k Q pf) : zdI P c (some (some y)) b ext ty op d k Q pf := by
 cases y
 ·exact h2 rfl
 ·exact h1 rfl
@[go_sem ↓] theorem zDj {ext : Bool} {ty : TypeId} {op : Op} {d : Option Tmp} (hc : zbN op = false) (he : (!ext || zcQ op) = true) : pwd P c ext ty op d k Q pf = pw1 P c c.nohp ty op d k Q pf := by
 have he' : ext = true → zcQ op = true := by intro h; subst h; simpa using he
 unfold pwd zf3 pw1
 split
 ·simp_all [zbN]
 ·simp only [eq_iff_iff]
  exact ⟨fun h => h.2, fun h => ⟨he', h⟩⟩
@[go_sem] theorem zDY {i : Nat} {sl rg : List Nat} {mr : Option Nat} {ls a b : Bool} : DE.ex ⟨i, sl, rg, mr, ls, a, b⟩ = (a && !b) := (rfl)
@[go_sem ↓] theorem zCI {ty : TypeId} {f : Operand} {args : Array Operand} {ts : Array TypeId} {d : Option Tmp} : pwd P c false ty (.call ⟨.value f, args, ts⟩) d k Q pf = pw1 P c c.nohp ty (.call ⟨.value f, args, ts⟩) d k Q pf := by
 unfold pwd zf3 pw1
 simp
theorem zrb {ty : TypeId} {f : Operand} {args : Array Operand} {ts : Array TypeId} {d : Option Tmp} {l : List (Md × Nat × Operand)} {ys : List PV} {pf1 : PFr} {g : FuncId} {xs us : List PV} {as as' : List (Md × PV)}
 {R : PV → List PV → Prop} (hl : (List.replicate args.toList.length Md.sh).zip (zdd P args.toList ts.toList) = l) (ha : zgB pf l = some (ys, pf1)) (hf : fnO pf1 f = some (g, xs, us)) (hc : cargs pf1 l ys = some as)
 (has : xs.map (fun x => (Md.sh, x)) ++ as ++ us.map (fun x => (Md.sh, x)) = as') (h : PCalls P g as' R)
 (hk : ∀ r outs, R r outs → (l.any (zfQ pf1) = false ∨ (zaU r && outs.all zaU) = true) ∧ qv P c c ((back c.nt pf1 l (outs.drop xs.length)).map fun p => (.v r, p)) d k Q) : pwd P c true ty (.call ⟨.value f, args, ts⟩) d k Q pf := by
 refine ⟨by simp, ?_⟩
 rw [hl, ha]
 show zix P c d (pw P c k Q) pf1 l (fnO pf1 f) (cargs pf1 l ys)
 rw [hf, hc]
 show PCalls P g _ _
 rw [has]
 refine h.mono fun r outs hr => ?_
 obtain ⟨h1, h2⟩ := hk r outs hr
 refine ⟨h1, ?_⟩
 cases hb : back c.nt pf1 l (outs.drop xs.length) with
 | none => rw [hb] at h2; exact h2
 | some p => rw [hb] at h2; exact h2
theorem znl {f : FuncId} {fn : Func} {code : Code} {as : List (Md × PV)} {R : PV → List PV → Prop} (fz hp : List Nat) (hc : zae P f) (hf : P.funcs[f]? = some fn) (hb : fn.body = some code) (hlen : as.length ≤ fn.ntmps)
 (h : pw P ⟨fn.ntmps, ioL 0 as, fz, hp⟩ [.code code] (zhn P fn.results.toList as R) (zfw as)) : PCalls P f as R := by
 refine zmm (fz := fz) (hp := hp) hc hf hb hlen ?_
 have e : zbq P ⟨fn.ntmps, ioL 0 as, fz, hp⟩ [] (zhn P fn.results.toList as R) = zhn P fn.results.toList as R := by funext e; cases e <;> rfl
 have h' : pwp P ⟨fn.ntmps, ioL 0 as, fz, hp⟩ code (zbq P ⟨fn.ntmps, ioL 0 as, fz, hp⟩ [] (zhn P fn.results.toList as R)) (zfw as) := h
 rwa [e] at h'
@[go_sem] theorem zzG {rs : List ResultVar} {as : List (Md × PV)} {R : PV → List PV → Prop} : zhn P rs as R .ret pf = zi5 as R (zfs P pf rs) := (rfl)
@[go_sem] theorem zup {rs : List ResultVar} {as : List (Md × PV)} {R : PV → List PV → Prop} : zhn P rs as R .normal pf = zi5 as R (zfs P pf rs) := (rfl)
@[go_sem] theorem zwg {as : List (Md × PV)} {R : PV → List PV → Prop} {x : List PV} : zi5 as R (some (x, pf)) = R (zmf x) (zd6 pf 0 as) := (rfl)
@[go_sem] theorem zws : zfs P pf [] = some ([], pf) := (rfl)
@[go_sem] theorem zuT {x : ResultVar} {xs : List ResultVar} : zfs P pf (x :: xs) = (zh7 P pf x).bind fun a => (zfs P a.2 xs).map fun b => (a.1 :: b.1, b.2) := (rfl)
@[go_sem] theorem zwk {t : Tmp} : zh7 P pf (.tmp t) = if zjP (pf t) = true then none else zdr pf t (pf t) := (rfl)
@[go_sem] theorem zvg {t : Tmp} {ty : TypeId} : zh7 P pf (.cell t ty) = zks pf t (pf t) (tk P ty) := (rfl)
@[go_sem] theorem zBI {t sz : Nat} {row : List PV} : zks pf t (.bl row) (some (true, sz)) = if sz = row.length then some (.agg row, (pf.upd t jP).kill t 0) else none := by cases row <;> rfl
@[go_sem] theorem zDn {x : PV} : zjP (.v x) = false := (rfl)
@[go_sem] theorem zB5 {t : Tmp} : lsO pf (.tmp t) = zjP (pf t) := (rfl)
@[go_sem] theorem zzi : zmf [] = .junk := (rfl)
@[go_sem] theorem zyG {x : PV} : zmf [x] = x := (rfl)
@[go_sem] theorem zyt {x y : PV} {l : List PV} : zmf (x :: y :: l) = .tup (x :: y :: l) := (rfl)
@[go_sem] theorem zAd {n : Nat} : zd6 pf n [] = [] := (rfl)
@[go_sem] theorem zAC {n : Nat} {x : PV} {l : List (Md × PV)} : zd6 pf n ((.io, x) :: l) = zps (pf n) :: zd6 pf (n + 1) l := (rfl)
@[go_sem] theorem zAy {n : Nat} {x : PV} {l : List (Md × PV)} : zd6 pf n ((.sh, x) :: l) = .junk :: zd6 pf (n + 1) l := (rfl)
@[go_sem] theorem zBT {n : Nat} {x : PV} {l : List (Md × PV)} : zd6 pf n ((.mv, x) :: l) = .junk :: zd6 pf (n + 1) l := (rfl)
@[go_sem] theorem zC6 {x : PV} : zps (.v x) = x := (rfl)
end
end Go.Pm
