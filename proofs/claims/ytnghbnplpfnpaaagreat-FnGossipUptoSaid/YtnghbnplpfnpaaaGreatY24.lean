/-
  FnGossip: plain laws.
  No condition.
-/
import Derived.Test.YtnghbnplpfnpaaaGreatM24b
import Derived.Test.YtnghbnplpfnpaaaGreatPmZ
namespace Go.Pm
open Go.Am
set_option linter.unusedVariables false
set_option linter.unusedSimpArgs false
theorem zgx {l r : List Int} {k : Nat} (h1 : k < l.length) (h2 : k < r.length) (h : l.take k = r.take k) (he : l[k] = r[k]) : l.take (k + 1) = r.take (k + 1) := by
 rw [List.take_succ_eq_append_getElem h1, List.take_succ_eq_append_getElem h2, h, he]
theorem zfP (a b : List Int) (ha : a.length ≤ 1048576) : zco a b = some (decide (a = b)) := by
 unfold zco
 by_cases hl : a.length = b.length
 ·have e : ((a.length : Int) != (b.length : Int)) = false := by simp [hl]
  simp only [e, Bool.false_eq_true, if_false]
  obtain ⟨r, hb, hp⟩ := rloop_post (σ := Unit) (β := Unit ⊕ Bool) (body := fun i16 s15 =>
   (ix a i16).bind fun x25 =>
   (ix b i16).bind fun x32 =>
   if (x25 != x32) = true then (
   some (.out (.inr false))) else (
   some (.go ()))) (stop := fun s15 => .inl ()) (m := a.length) (i0 := 0) (s0 := ()) (fun k _ => a.take k = b.take k)
   (fun r => Sum.elim (fun _ => a = b) (fun r => r = false ∧ a ≠ b) r) (by simp)
   (by
     rintro k s hk hI
     have hk2 : k < b.length := by omega
     rw [Int.zero_add]
     simp only [ix_at hk, ix_at hk2, Option.bind_some]
     by_cases he : a[k] = b[k]
     ·exact .inl ⟨(), by simp [he], zgx hk hk2 hI he⟩
     ·exact .inr ⟨.inr false, by simp [he], rfl, fun h => by subst h; exact he rfl⟩)
   (by
     rintro s hI
     rw [List.take_length, hl, List.take_length] at hI
     exact hI)
  rw [hb, Option.bind_some]
  cases r with
  | inl u => have hp : a = b := hp; simp [hp]
  | inr r =>
   obtain ⟨h1, h2⟩ : r = false ∧ a ≠ b := hp
   simp [h1, h2]
 ·have e : ((a.length : Int) != (b.length : Int)) = true := by simp; omega
  have : a ≠ b := fun h => hl (by rw [h])
  simp [e, this]
theorem zgl (a b : List Int) : zaP a b = some (decide (a = b)) := by
 unfold zaP
 by_cases hl : a.length = b.length
 ·have e : ((a.length : Int) != (b.length : Int)) = false := by simp [hl]
  simp only [e, Bool.false_eq_true, if_false]
  obtain ⟨r, hb, hp⟩ := rloop_post (σ := Unit) (β := Unit ⊕ Bool) (body := fun i16 s15 =>
   (ix a i16).bind fun x25 =>
   (ix b i16).bind fun x32 =>
   if (x25 != x32) = true then (
   some (.out (.inr false))) else (
   some (.go ()))) (stop := fun s15 => .inl ()) (m := a.length) (i0 := 0) (s0 := ()) (fun k _ => a.take k = b.take k)
   (fun r => Sum.elim (fun _ => a = b) (fun r => r = false ∧ a ≠ b) r) (by simp)
   (by
     rintro k s hk hI
     have hk2 : k < b.length := by omega
     rw [Int.zero_add]
     simp only [ix_at hk, ix_at hk2, Option.bind_some]
     by_cases he : a[k] = b[k]
     ·exact .inl ⟨(), by simp [he], zgx hk hk2 hI he⟩
     ·exact .inr ⟨.inr false, by simp [he], rfl, fun h => by subst h; exact he rfl⟩)
   (by
     rintro s hI
     rw [List.take_length, hl, List.take_length] at hI
     exact hI)
  rw [hb, Option.bind_some]
  cases r with
  | inl u => have hp : a = b := hp; simp [hp]
  | inr r =>
   obtain ⟨h1, h2⟩ : r = false ∧ a ≠ b := hp
   simp [h1, h2]
 ·have e : ((a.length : Int) != (b.length : Int)) = true := by simp; omega
  have : a ≠ b := fun h => hl (by rw [h])
  simp [e, this]
theorem zdl (a b c : Int) : zap a b c = some (decide (b ≤ a) && decide (a ≤ c)) := by
 unfold zap
 by_cases h : b ≤ a <;> simp [h]
theorem zd5 (a b c : Int) : zaC a b c = some (decide (b ≤ a) && decide (a ≤ c)) := by
 unfold zaC
 by_cases h : b ≤ a <;> simp [h]
theorem zfM (a : Int) : zcD a = some (decide (2 ≤ a) && decide (a ≤ 2000000000)) := by
 unfold zcD
 rw [zdl]; rfl
theorem zbq (a b : Nat) : (a : Int).tmod (b : Int) = ((a % b : Nat) : Int) := by rw [Int.tmod_eq_emod_of_nonneg (by omega)]; exact (Int.natCast_emod _ _).symm
theorem ziJ (a b : Nat) : (a : Int).tdiv (b : Int) = ((a / b : Nat) : Int) := by rw [Int.tdiv_eq_ediv_of_nonneg (by omega)]; exact (Int.natCast_ediv _ _).symm
theorem zdC (a b : Nat) : (a : Int) * (b : Int) = ((a * b : Nat) : Int) := (Int.natCast_mul _ _).symm
theorem zjO {e : Nat} (he : e ≤ 9223372036854775807) : IntKind.i64.wrap (BitVec.ofInt IntKind.i64.bits (e : Int) &&& BitVec.ofInt IntKind.i64.bits 1).toNat = ((e % 2 : Nat) : Int) := by
 have h1 : (BitVec.ofInt IntKind.i64.bits (e : Int) &&& BitVec.ofInt IntKind.i64.bits 1).toNat = e % 2 := by
  rw [BitVec.toNat_and]
  have a1 : (BitVec.ofInt IntKind.i64.bits (e : Int)).toNat = e := by
   rw [BitVec.toNat_ofInt]
   have : IntKind.i64.bits = 64 := rfl
   rw [this]
   omega
  have a2 : (BitVec.ofInt IntKind.i64.bits 1).toNat = 1 := by decide
  rw [a1, a2, Nat.and_one_is_mod]
 rw [h1, wr64 (by omega) (by omega)]
theorem zj6 {a e m : Nat} (ha : a ≤ 2000000000) (hm : 1 ≤ m) (hm2 : m ≤ 2000000000) (he : e ≤ 9223372036854775807) : zce (a : Int) (e : Int) (m : Int) = some ((a ^ e % m : Nat) : Int) := by
 unfold zce
 refine eq_of_rn (rn_gd (by omega) (rn_then (φ := (· = ((a ^ e % m : Nat) : Int))) (rn_wloop (φ := (· = ((a ^ e % m : Nat) : Int))) (fun s => ∃ x y o : Nat, s = ((x : Int), (y : Int), (o : Int)) ∧ x ≤ 2000000000 ∧ y ≤ e ∧ o < m ∧ o * x ^ y % m = a ^ e % m) (fun s => s.2.1.toNat)
  ⟨a, e, 1 % m, by rw [show (1 : Int) = ((1 : Nat) : Int) from rfl, zbq], ha, Nat.le_refl _, Nat.mod_lt _ (by omega), by rw [Nat.mod_mul_mod, Nat.one_mul]⟩ ?_) fun x hx => rn_some hx))
 rintro s ⟨x, y, o, rfl, hx, hy, ho, hi⟩
 refine rn_if (fun h0 => ?_) fun h0 => ?_
 ·have h0 : 0 < y := by simpa using h0
  have hox : o * x ≤ 4000000000000000000 := Nat.le_trans (Nat.mul_le_mul (show o ≤ 2000000000 by omega) hx) (by decide)
  have hxx : x * x ≤ 4000000000000000000 := Nat.le_trans (Nat.mul_le_mul hx hx) (by decide)
  refine rn_then (ψ := fun o' => ∃ k : Nat, o' = (k : Int) ∧ k < m ∧ k * (x * x) ^ (y / 2) % m = a ^ e % m) ?_ ?_
  ·simp only [zjO (show y ≤ 9223372036854775807 by omega)]
   refine rn_if (fun h1 => rn_gd (by omega) (rn_some ⟨o * x % m, ?_, Nat.mod_lt _ (by omega), ?_⟩)) fun h1 => rn_some ⟨o, rfl, ho, ?_⟩
   ·rw [zdC, wr64 (by omega) (by omega), zbq]
   ·have h1 : y % 2 = 1 := by
     have : ((y % 2 : Nat) : Int) = 1 := by simpa using h1
     omega
    rw [Nat.mod_mul_mod, ← hi, ← Nat.pow_two, ← Nat.pow_mul, Nat.mul_assoc, ← Nat.pow_succ']
    congr 3; omega
   ·have h1 : y % 2 = 0 := by
     have : ¬ ((y % 2 : Nat) : Int) = 1 := by simpa using h1
     omega
    rw [← hi, ← Nat.pow_two, ← Nat.pow_mul]
    congr 3; omega
  ·rintro o' ⟨k, rfl, hk, hk2⟩
   refine rn_gd (by omega) (rn_some ⟨⟨x * x % m, y / 2, k, ?_, by have := Nat.mod_lt (x * x) (show 0 < m by omega); omega, by omega, hk, ?_⟩, ?_⟩)
   ·rw [zdC, wr64 (by omega) (by omega), zbq]
    have e3 : (y : Int).fdiv 2 = ((y / 2 : Nat) : Int) := by rw [Int.fdiv_eq_ediv_of_nonneg _ (by omega)]; rfl
    show (_, (y : Int).fdiv 2, _) = _
    rw [e3]
   ·rw [Nat.mul_mod, ← Nat.pow_mod, ← Nat.mul_mod]
    exact hk2
   ·show ((y : Int).fdiv 2).toNat < (y : Int).toNat
    rw [Int.fdiv_eq_ediv_of_nonneg _ (by omega)]
    omega
 ·have h0 : y = 0 := by
   have : ¬ (0 < y) := by simpa using h0
   omega
  subst h0
  refine rn_some ?_
  show (o : Int) = _
  rw [Nat.pow_zero, Nat.mul_one, Nat.mod_eq_of_lt ho] at hi
  rw [hi]
theorem ziU {a e m : Nat} (ha : a ≤ 2000000000) (hm : 1 ≤ m) (hm2 : m ≤ 2000000000) (he : e ≤ 9223372036854775807) : zaW (a : Int) (e : Int) (m : Int) = some ((a ^ e % m : Nat) : Int) := by
 unfold zaW
 refine eq_of_rn (rn_gd (by omega) (rn_then (φ := (· = ((a ^ e % m : Nat) : Int))) (rn_wloop (φ := (· = ((a ^ e % m : Nat) : Int))) (fun s => ∃ x y o : Nat, s = ((x : Int), (y : Int), (o : Int)) ∧ x ≤ 2000000000 ∧ y ≤ e ∧ o < m ∧ o * x ^ y % m = a ^ e % m) (fun s => s.2.1.toNat)
  ⟨a, e, 1 % m, by rw [show (1 : Int) = ((1 : Nat) : Int) from rfl, zbq], ha, Nat.le_refl _, Nat.mod_lt _ (by omega), by rw [Nat.mod_mul_mod, Nat.one_mul]⟩ ?_) fun x hx => rn_some hx))
 rintro s ⟨x, y, o, rfl, hx, hy, ho, hi⟩
 refine rn_if (fun h0 => ?_) fun h0 => ?_
 ·have h0 : 0 < y := by simpa using h0
  have hox : o * x ≤ 4000000000000000000 := Nat.le_trans (Nat.mul_le_mul (show o ≤ 2000000000 by omega) hx) (by decide)
  have hxx : x * x ≤ 4000000000000000000 := Nat.le_trans (Nat.mul_le_mul hx hx) (by decide)
  have e2 : (y : Int).tmod 2 = ((y % 2 : Nat) : Int) := zbq y 2
  refine rn_then (ψ := fun o' => ∃ k : Nat, o' = (k : Int) ∧ k < m ∧ k * (x * x) ^ (y / 2) % m = a ^ e % m) ?_ ?_
  ·simp only [e2]
   refine rn_if (fun h1 => rn_gd (by omega) (rn_some ⟨o * x % m, ?_, Nat.mod_lt _ (by omega), ?_⟩)) fun h1 => rn_some ⟨o, rfl, ho, ?_⟩
   ·rw [zdC, wr64 (by omega) (by omega), zbq]
   ·have h1 : y % 2 = 1 := by
     have : ((y % 2 : Nat) : Int) = 1 := by simpa using h1
     omega
    rw [Nat.mod_mul_mod, ← hi, ← Nat.pow_two, ← Nat.pow_mul, Nat.mul_assoc, ← Nat.pow_succ']
    congr 3; omega
   ·have h1 : y % 2 = 0 := by
     have : ¬ ((y % 2 : Nat) : Int) = 1 := by simpa using h1
     omega
    rw [← hi, ← Nat.pow_two, ← Nat.pow_mul]
    congr 3; omega
  ·rintro o' ⟨k, rfl, hk, hk2⟩
   have e3 : (y : Int).tdiv 2 = ((y / 2 : Nat) : Int) := ziJ y 2
   refine rn_gd (by omega) (rn_some ⟨⟨x * x % m, y / 2, k, ?_, by have := Nat.mod_lt (x * x) (show 0 < m by omega); omega, by omega, hk, ?_⟩, ?_⟩)
   ·simp only [e3]
    rw [zdC, wr64 (n := ((x * x : Nat) : Int)) (by omega) (by omega), zbq, wr64 (n := ((y / 2 : Nat) : Int)) (by omega) (by omega)]
   ·rw [Nat.mul_mod, ← Nat.pow_mod, ← Nat.mul_mod]
    exact hk2
   ·show (IntKind.i64.wrap ((y : Int).tdiv 2)).toNat < (y : Int).toNat
    rw [e3, wr64 (by omega) (by omega)]
    omega
 ·have h0 : y = 0 := by
   have : ¬ (0 < y) := by simpa using h0
   omega
  subst h0
  refine rn_some ?_
  show (o : Int) = _
  rw [Nat.pow_zero, Nat.mul_one, Nat.mod_eq_of_lt ho] at hi
  rw [hi]
theorem zkM {a q : Int} (h0 : 0 < q) (h1 : q ≤ 2000000000) : zdR a q = some (a % q) := by
 unfold zdR
 rw [gd_t (by omega), gd_t (by omega)]
 have b1 : a.tmod q < q := Int.tmod_lt_of_pos a h0
 have b2 : -q < a.tmod q := by
  have := Int.lt_tmod_of_pos a h0
  omega
 rw [wr64 (by omega) (by omega), Int.tmod_eq_emod_of_nonneg (by omega)]
 congr 1
 rw [Int.add_emod_right]
 rw [Int.tmod_def, Int.sub_emod, Int.mul_emod_right, Int.sub_zero, Int.emod_emod]
theorem zgb {a q : Int} (h0 : 0 < q) (h1 : q ≤ 2000000000) : zcv a q = some (a % q) := by
 unfold zcv
 rw [gd_t (by omega), gd_t (by omega)]
 have b1 : a.tmod q < q := Int.tmod_lt_of_pos a h0
 have b2 : -q < a.tmod q := by
  have := Int.lt_tmod_of_pos a h0
  omega
 rw [wr64 (by omega) (by omega), Int.tmod_eq_emod_of_nonneg (by omega)]
 congr 1
 rw [Int.add_emod_right]
 rw [Int.tmod_def, Int.sub_emod, Int.mul_emod_right, Int.sub_zero, Int.emod_emod]
def Pr (n : Nat) : Prop := 2 ≤ n ∧ ∀ d, 2 ≤ d → d * d ≤ n → n % d ≠ 0
open Classical in
noncomputable def prB (n : Int) : Bool := decide (Pr n.toNat)
theorem zde {n : Nat} : prB (n : Int) = true ↔ Pr n := by simp [prB]
theorem zeZ (n : Int) (h : n ≤ 2000000000) : zbS n = some (prB n) := by
 unfold zbS
 refine eq_of_rn (rn_if (fun h0 => rn_some ?_) fun h0 => ?_)
 ·have h0 : n < 2 := by simpa using h0
  symm
  unfold prB
  rw [decide_eq_false_iff_not]
  intro hp
  have := hp.1
  omega
 ·have h0 : ¬ n < 2 := by simpa using h0
  obtain ⟨n, rfl⟩ := Int.eq_ofNat_of_zero_le (show 0 ≤ n by omega)
  refine rn_then (ψ := fun b => (b = .inl () ∧ Pr n) ∨ (b = .inr false ∧ ¬ Pr n)) (rn_wloop (fun s => ∃ d : Nat, s = (d : Int) ∧ 2 ≤ d ∧ d ≤ 44723 ∧ ∀ k, 2 ≤ k → k < d → k * k ≤ n → n % k ≠ 0) (fun s => 50000 - s.toNat) ⟨2, rfl, by omega, by omega, fun k h1 h2 => by omega⟩ ?_) ?_
  ·rintro s ⟨d, rfl, hd, hd2, hi⟩
   have hdd : d * d ≤ 2000146729 := Nat.le_trans (Nat.mul_le_mul hd2 hd2) (by decide)
   rw [zdC, wr64 (by omega) (by omega)]
   refine rn_if (fun h1 => rn_gd (by omega) (rn_if (fun h2 => rn_some (.inr ⟨rfl, ?_⟩)) fun h2 => rn_some ?_)) fun h1 => rn_some (.inl ⟨rfl, by omega, fun k hk hkn => ?_⟩)
   ·have h1 : d * d ≤ n := by have := of_decide_eq_true h1; omega
    rw [zbq] at h2
    have h2 : n % d = 0 := by have : ((n % d : Nat) : Int) = 0 := by simpa using h2
                              omega
    exact fun hp => hp.2 d hd h1 h2
   ·have h1 : d * d ≤ n := by have := of_decide_eq_true h1; omega
    rw [zbq] at h2
    have h2 : n % d ≠ 0 := by have : ¬ ((n % d : Nat) : Int) = 0 := by simpa using h2
                              omega
    have hd3 : d ≤ 44722 := by
     rcases Nat.lt_or_ge d 44723 with h | h
     ·omega
     ·have : 44723 * 44723 ≤ d * d := Nat.mul_le_mul h h
      omega
    rw [wr64 (by omega) (by omega)]
    refine ⟨⟨d + 1, rfl, by omega, by omega, fun k h3 h4 h5 => ?_⟩, by omega⟩
    rcases Nat.lt_or_ge k d with h | h
    ·exact hi k h3 h h5
    ·have : k = d := by omega
     subst this
     exact h2
   ·have h1 : n < d * d := by have := of_decide_eq_false h1; omega
    rcases Nat.lt_or_ge k d with h | h
    ·exact hi k hk h hkn
    ·have := Nat.mul_le_mul h h
     omega
  ·rintro b (⟨rfl, hp⟩ | ⟨rfl, hp⟩)
   ·exact rn_some (zde.2 hp).symm
   ·refine rn_some ?_
    symm
    unfold prB
    rw [decide_eq_false_iff_not]
    exact hp
theorem zgD (n : Int) : zcx n = some (decide (n ≤ 2000000000) && prB n) := by
 unfold zcx
 by_cases h : 2 ≤ n ∧ n ≤ 2000000000
 ·obtain ⟨n, rfl⟩ := Int.eq_ofNat_of_zero_le (show 0 ≤ n by omega)
  have e2 : ((n : Int)).tmod 2 = ((n % 2 : Nat) : Int) := zbq n 2
  have em : (decide (2 ≤ (n : Int)) && decide ((n : Int) ≤ 2000000000)) = true := by simp only [Bool.and_eq_true, decide_eq_true_eq]; exact h
  rw [show (decide ((n : Int) ≤ 2000000000) && prB (n : Int)) = prB (n : Int) by simp [h.2]]
  refine eq_of_rn (rn_then (ψ := fun b => b = decide (n % 2 = 0 ∧ n ≠ 2)) (rn_call (zfM _) ?_) ?_)
  ·rw [em]
   refine rn_f rfl ?_
   rw [e2]
   refine rn_if (fun h1 => rn_some ?_) fun h1 => rn_some ?_
   ·have h1 : n % 2 = 0 := by have : ((n % 2 : Nat) : Int) = 0 := by simpa using h1
                              omega
    have : ((n : Int) != 2) = decide (n ≠ 2) := by
     by_cases hn : n = 2
     ·subst hn; rfl
     ·have hn' : ¬ (n : Int) = 2 := by omega
      simp [hn, hn']
    rw [this]; simp [h1]
   ·have h1 : n % 2 ≠ 0 := by have : ¬ ((n % 2 : Nat) : Int) = 0 := by simpa using h1
                              omega
    simp [h1]
  ·rintro b rfl
   refine rn_if (fun h1 => rn_some ?_) fun h1 => ?_
   ·have h1 := of_decide_eq_true h1
    symm
    unfold prB
    rw [decide_eq_false_iff_not]
    intro hp
    have hn : 4 ≤ n := by omega
    exact hp.2 2 (by omega) hn h1.1
   ·have h1 := of_decide_eq_false h1
    refine rn_then (ψ := fun b => (b = .inl () ∧ Pr n) ∨ (b = .inr false ∧ ¬ Pr n)) (rn_wloop (fun s => ∃ d : Nat, s = (d : Int) ∧ 3 ≤ d ∧ d % 2 = 1 ∧ d ≤ 44725 ∧ ∀ k, 2 ≤ k → k < d → k * k ≤ n → n % k ≠ 0) (fun s => 50000 - s.toNat) ⟨3, rfl, by omega, by omega, by omega, fun k h2 h3 h4 => ?_⟩ ?_) ?_
    ·have : k = 2 := by omega
     subst this
     intro h5
     exact h1 ⟨h5, by omega⟩
    ·rintro s ⟨d, rfl, hd, hodd, hd2, hi⟩
     have hdd : d * d ≤ 2000325625 := Nat.le_trans (Nat.mul_le_mul hd2 hd2) (by decide)
     rw [zdC, wr64 (by omega) (by omega)]
     refine rn_if (fun h1 => rn_gd (by omega) (rn_if (fun h2 => rn_some (.inr ⟨rfl, ?_⟩)) fun h2 => rn_some ?_)) fun h1 => rn_some (.inl ⟨rfl, by omega, fun k hk hkn => ?_⟩)
     ·have h1 : d * d ≤ n := by have := of_decide_eq_true h1; omega
      rw [zbq] at h2
      have h2 : n % d = 0 := by have : ((n % d : Nat) : Int) = 0 := by simpa using h2
                                omega
      exact fun hp => hp.2 d (by omega) h1 h2
     ·have h3 : d * d ≤ n := by have := of_decide_eq_true h1; omega
      rw [zbq] at h2
      have h2 : n % d ≠ 0 := by have : ¬ ((n % d : Nat) : Int) = 0 := by simpa using h2
                                omega
      have hd3 : d ≤ 44722 := by
       rcases Nat.lt_or_ge d 44723 with h | h
       ·omega
       ·have : 44723 * 44723 ≤ d * d := Nat.mul_le_mul h h
        omega
      rw [wr64 (by omega) (by omega)]
      refine ⟨⟨d + 2, rfl, by omega, by omega, by omega, fun k h4 h5 h6 h7 => ?_⟩, by omega⟩
      rcases Nat.lt_or_ge k d with h | h
      ·exact hi k h4 h h6 h7
      ·rcases (show k = d ∨ k = d + 1 by omega) with e | e
       ·subst e; exact h2 h7
       ·
        have h8 : n % 2 = 0 := by
         have a1 : k ∣ n := Nat.dvd_of_mod_eq_zero h7
         have a2 : 2 ∣ k := Nat.dvd_of_mod_eq_zero (by omega)
         exact Nat.mod_eq_zero_of_dvd (Nat.dvd_trans a2 a1)
        have h9 : 2 * 2 ≤ n := by
         have := Nat.mul_le_mul h4 h4
         omega
        exact hi 2 (by omega) (by omega) h9 h8
     ·have h1 : n < d * d := by have := of_decide_eq_false h1; omega
      rcases Nat.lt_or_ge k d with h | h
      ·exact hi k hk h hkn
      ·have := Nat.mul_le_mul h h
       omega
    ·rintro b (⟨rfl, hp⟩ | ⟨rfl, hp⟩)
     ·exact rn_some (zde.2 hp).symm
     ·refine rn_some ?_
      symm
      unfold prB
      rw [decide_eq_false_iff_not]
      exact hp
 ·have em : (decide (2 ≤ n) && decide (n ≤ 2000000000)) = false := by
   rw [Bool.and_eq_false_iff, decide_eq_false_iff_not, decide_eq_false_iff_not]; omega
  rw [zfM, em]
  simp only [Option.bind_some, Bool.not_false, if_true]
  congr 1
  symm
  rw [Bool.and_eq_false_iff, decide_eq_false_iff_not]
  by_cases hn : n ≤ 2000000000
  ·right
   unfold prB
   rw [decide_eq_false_iff_not]
   intro hp
   have := hp.1
   omega
  ·exact .inl hn
structure OkG (gr : Group) : Prop where
 p : 3 ≤ gr.P ∧ gr.P ≤ 2000000000
 q : 2 ≤ gr.Q ∧ gr.Q ≤ gr.P - 1
 d : (gr.P.toNat - 1) % gr.Q.toNat = 0
 g : 2 ≤ gr.G ∧ gr.G ≤ gr.P - 1
 pp : Pr gr.P.toNat
 pq : Pr gr.Q.toNat
 o : gr.G.toNat ^ gr.Q.toNat % gr.P.toNat = 1
open Classical in
noncomputable def okG (gr : Group) : Bool := decide (OkG gr)
theorem zfz {gr : Group} : okG gr = true ↔ OkG gr := by simp [okG]
theorem zdn {gr : Group} (h : ¬ OkG gr) : okG gr = false := by simp [okG, h]
theorem ziK {gr : Group} {b : Bool} (h1 : b = true → OkG gr) (h2 : OkG gr → b = true) : b = okG gr := by
 cases hb : b with
 | true => exact (zfz.2 (h1 hb)).symm
 | false => exact (zdn fun h => by rw [h2 h] at hb; cases hb).symm
theorem zb7 {a : Int} (h : 0 ≤ a) : a = ((a.toNat : Nat) : Int) := by omega
theorem zdx {a e m : Int} (ha : 0 ≤ a) (ha2 : a ≤ 2000000000) (hm : 1 ≤ m) (hm2 : m ≤ 2000000000) (he : 0 ≤ e) (he2 : e ≤ 9223372036854775807) : zce a e m = some ((a.toNat ^ e.toNat % m.toNat : Nat) : Int) ∧ zaW a e m = some ((a.toNat ^ e.toNat % m.toNat : Nat) : Int) := by
 have h1 := zj6 (a := a.toNat) (e := e.toNat) (m := m.toNat) (by omega) (by omega) (by omega) (by omega)
 have h2 := ziU (a := a.toNat) (e := e.toNat) (m := m.toNat) (by omega) (by omega) (by omega) (by omega)
 rw [← zb7 ha, ← zb7 he, ← zb7 (show 0 ≤ m by omega)] at h1 h2
 exact ⟨h1, h2⟩
theorem zeE {a b : Bool} : (a && b) = true ↔ a = true ∧ b = true := by simp
theorem ziW (gr : Group) : zbY gr = some (okG gr) := by
 unfold zbY
 refine eq_of_rn (rn_then (ψ := fun b => b = okG gr) ?_ fun b hb => rn_some hb)
 refine rn_call (zdl _ _ _) (rn_if (fun h => ?_) fun h => ?_)
 ·have hp : 3 ≤ gr.P ∧ gr.P ≤ 2000000000 := by simpa using h
  rw [wr64 (n := gr.P - 1) (by omega) (by omega)]
  refine rn_call (zdl _ _ _) (rn_if (fun h => ?_) fun h => ?_)
  ·have hq : 2 ≤ gr.Q ∧ gr.Q ≤ gr.P - 1 := by simpa using h
   have ed : (gr.P - 1).tmod gr.Q = (((gr.P.toNat - 1) % gr.Q.toNat : Nat) : Int) := by
    rw [zb7 (show 0 ≤ gr.P - 1 by omega), zb7 (show 0 ≤ gr.Q by omega), zbq]
    simp only [Int.toNat_natCast]
    congr 2; omega
   refine rn_gd (by omega) ?_
   rw [ed]
   refine rn_if (fun h => ?_) fun h => ?_
   ·have hd : (gr.P.toNat - 1) % gr.Q.toNat = 0 := by
     have : (((gr.P.toNat - 1) % gr.Q.toNat : Nat) : Int) = 0 := by simpa using h
     omega
    refine rn_call (zdl _ _ _) (rn_if (fun h => ?_) fun h => ?_)
    ·have hg : 2 ≤ gr.G ∧ gr.G ≤ gr.P - 1 := by simpa using h
     refine rn_call (zgD _) (rn_if (fun h => ?_) fun h => ?_)
     ·have hpp : Pr gr.P.toNat := by
       rw [zeE, zb7 (show 0 ≤ gr.P by omega), zde] at h
       exact h.2
      refine rn_call (zgD _) (rn_if (fun h => ?_) fun h => ?_)
      ·have hpq : Pr gr.Q.toNat := by
        rw [zeE, zb7 (show 0 ≤ gr.Q by omega), zde] at h
        exact h.2
       refine rn_call (zdx (a := gr.G) (e := gr.Q) (m := gr.P) (by omega) (by omega) (by omega) (by omega) (by omega) (by omega)).1 (rn_some (ziK (fun h => ⟨hp, hq, hd, hg, hpp, hpq, ?_⟩) fun h => ?_))
       ·have : ((gr.G.toNat ^ gr.Q.toNat % gr.P.toNat : Nat) : Int) = 1 := by simpa using h
        omega
       ·rw [h.o]; rfl
      ·refine rn_some (zdn fun hk => ?_).symm
       have : (decide (gr.Q ≤ 2000000000) && prB gr.Q) = true := by
        rw [zeE, zb7 (show 0 ≤ gr.Q by omega), zde]
        exact ⟨by simp; omega, hk.pq⟩
       rw [this] at h; cases h
     ·refine rn_some (zdn fun hk => ?_).symm
      have : (decide (gr.P ≤ 2000000000) && prB gr.P) = true := by
       rw [zeE, zb7 (show 0 ≤ gr.P by omega), zde]
       exact ⟨by simp; omega, hk.pp⟩
      rw [this] at h; cases h
    ·refine rn_some (zdn fun hk => ?_).symm
     have := hk.g
     simp at h; omega
   ·refine rn_some (zdn fun hk => ?_).symm
    rw [hk.d] at h; cases h
  ·refine rn_some (zdn fun hk => ?_).symm
   have := hk.q
   simp at h; omega
 ·refine rn_some (zdn fun hk => ?_).symm
  have := hk.p
  simp at h; omega
theorem zfN (gr : Group) : zcm gr = some (okG gr) := by
 unfold zcm
 refine eq_of_rn (rn_then (ψ := fun b => b = okG gr) ?_ fun b hb => rn_some hb)
 refine rn_call (zd5 _ _ _) (rn_if (fun h => ?_) fun h => ?_)
 ·have hp : 3 ≤ gr.P ∧ gr.P ≤ 2000000000 := by simpa using h
  rw [wr64 (n := gr.P - 1) (by omega) (by omega)]
  refine rn_call (zd5 _ _ _) (rn_if (fun h => ?_) fun h => ?_)
  ·have hq : 2 ≤ gr.Q ∧ gr.Q ≤ gr.P - 1 := by simpa using h
   have ed : (gr.P - 1).tmod gr.Q = (((gr.P.toNat - 1) % gr.Q.toNat : Nat) : Int) := by
    rw [zb7 (show 0 ≤ gr.P - 1 by omega), zb7 (show 0 ≤ gr.Q by omega), zbq]
    simp only [Int.toNat_natCast]
    congr 2; omega
   refine rn_gd (by omega) ?_
   rw [ed]
   refine rn_if (fun h => ?_) fun h => ?_
   ·have hd : (gr.P.toNat - 1) % gr.Q.toNat = 0 := by
     have : (((gr.P.toNat - 1) % gr.Q.toNat : Nat) : Int) = 0 := by simpa using h
     omega
    refine rn_call (zd5 _ _ _) (rn_if (fun h => ?_) fun h => ?_)
    ·have hg : 2 ≤ gr.G ∧ gr.G ≤ gr.P - 1 := by simpa using h
     refine rn_call (zdx (a := gr.G) (e := gr.Q) (m := gr.P) (by omega) (by omega) (by omega) (by omega) (by omega) (by omega)).2 (rn_if (fun h => ?_) fun h => ?_)
     ·have ho : gr.G.toNat ^ gr.Q.toNat % gr.P.toNat = 1 := by
       have : ((gr.G.toNat ^ gr.Q.toNat % gr.P.toNat : Nat) : Int) = 1 := by simpa using h
       omega
      refine rn_call (zeZ _ (by omega)) (rn_if (fun h => ?_) fun h => ?_)
      ·have hpq : Pr gr.Q.toNat := by
        rw [zb7 (show 0 ≤ gr.Q by omega), zde] at h
        exact h
       refine rn_call (zeZ _ (by omega)) (rn_some (ziK (fun h => ⟨hp, hq, hd, hg, ?_, hpq, ho⟩) fun h => ?_))
       ·rw [zb7 (show 0 ≤ gr.P by omega), zde] at h
        exact h
       ·rw [zb7 (show 0 ≤ gr.P by omega), zde]
        exact h.pp
      ·refine rn_some (zdn fun hk => ?_).symm
       have : prB gr.Q = true := by
        rw [zb7 (show 0 ≤ gr.Q by omega), zde]
        exact hk.pq
       rw [this] at h; cases h
     ·refine rn_some (zdn fun hk => ?_).symm
      rw [hk.o] at h; cases h
    ·refine rn_some (zdn fun hk => ?_).symm
     have := hk.g
     simp at h; omega
   ·refine rn_some (zdn fun hk => ?_).symm
    rw [hk.d] at h; cases h
  ·refine rn_some (zdn fun hk => ?_).symm
   have := hk.q
   simp at h; omega
 ·refine rn_some (zdn fun hk => ?_).symm
  have := hk.p
  simp at h; omega
def zaN (gr : Group) (x : Int) : Bool := decide (1 ≤ x) && decide (x ≤ gr.P - 1) && decide (x.toNat ^ gr.Q.toNat % gr.P.toNat = 1)
def zec (gr : Group) (x : Int) : Bool := decide (0 ≤ x) && decide (x ≤ gr.Q - 1)
theorem zkN {gr : Group} (k : OkG gr) (x : Int) : zcA gr x = some (zaN gr x) := by
 have hp := k.p
 have hq := k.q
 unfold zcA zaN
 rw [wr64 (n := gr.P - 1) (by omega) (by omega), zdl]
 refine eq_of_rn (rn_then (ψ := fun b => b = _) ?_ fun b hb => rn_some hb)
 refine rn_call rfl (rn_if (fun h => ?_) fun h => ?_)
 ·have hx : 1 ≤ x ∧ x ≤ gr.P - 1 := by simpa using h
  refine rn_call (zdx (a := x) (e := gr.Q) (m := gr.P) (by omega) (by omega) (by omega) (by omega) (by omega) (by omega)).1 (rn_some ?_)
  rw [h, Bool.true_and]
  by_cases h1 : x.toNat ^ gr.Q.toNat % gr.P.toNat = 1
  ·simp [h1]
  ·have : ¬ ((x.toNat ^ gr.Q.toNat % gr.P.toNat : Nat) : Int) = 1 := by omega
   rw [beq_false_of_ne this, decide_eq_false h1]
 ·rw [h]; exact rn_some rfl
theorem zjc {gr : Group} (k : OkG gr) (l : List Int) : zdp gr l = some (l.all (zaN gr)) := by
 have hp := k.p
 have hq := k.q
 unfold zdp
 rw [wr64 (n := gr.P - 1) (by omega) (by omega)]
 refine eq_of_rn (rn_then (ψ := fun b => (b = .inl () ∧ l.all (zaN gr) = true) ∨ (b = .inr false ∧ l.all (zaN gr) = false)) (rn_rloop (fun i s => (l.take i).all (zaN gr) = true) rfl ?_ ?_) ?_)
 ·rintro i s hi hI
  refine rn_ix hi (rn_then (ψ := fun b => b = !zaN gr l[i]) ?_ ?_)
  ·refine rn_call (zd5 _ _ _) (rn_if (fun h => rn_some ?_) fun h => ?_)
   ·have h : (decide (1 ≤ l[i]) && decide (l[i] ≤ gr.P - 1)) = false := by rwa [Bool.not_eq_true'] at h
    simp [zaN, h]
   ·have h : (decide (1 ≤ l[i]) && decide (l[i] ≤ gr.P - 1)) = true := by simpa using h
    have hx : 1 ≤ l[i] ∧ l[i] ≤ gr.P - 1 := by simpa using h
    refine rn_call (zdx (a := l[i]) (e := gr.Q) (m := gr.P) (by omega) (by omega) (by omega) (by omega) (by omega) (by omega)).2 (rn_some ?_)
    simp only [zaN, h, Bool.true_and]
    by_cases h1 : l[i].toNat ^ gr.Q.toNat % gr.P.toNat = 1
    ·simp [h1]
    ·have : ¬ ((l[i].toNat ^ gr.Q.toNat % gr.P.toNat : Nat) : Int) = 1 := by omega
     simp only [bne, beq_false_of_ne this, decide_eq_false h1]
  ·rintro b rfl
   refine rn_if (fun h => rn_some (.inr ⟨rfl, ?_⟩)) fun h => rn_some ?_
   ·have h : zaN gr l[i] = false := by simpa using h
    rw [List.all_eq_false]
    exact ⟨l[i], List.getElem_mem hi, by simp [h]⟩
   ·have h : zaN gr l[i] = true := by simpa using h
    show (l.take (i + 1)).all (zaN gr) = true
    rw [List.take_succ_eq_append_getElem hi, List.all_append, hI]
    simp [h]
 ·rintro s hI
  rw [List.take_length] at hI
  exact .inl ⟨rfl, hI⟩
 ·rintro b (⟨rfl, h⟩ | ⟨rfl, h⟩)
  ·exact rn_some h.symm
  ·exact rn_some h.symm
theorem zhA (l : List Int) (a b : Int) : zcF l a b = some (l.all fun x => decide (a ≤ x) && decide (x ≤ b)) := by
 unfold zcF
 refine eq_of_rn (rn_then (ψ := fun c => (c = .inl () ∧ (l.all fun x => decide (a ≤ x) && decide (x ≤ b)) = true) ∨ (c = .inr false ∧ (l.all fun x => decide (a ≤ x) && decide (x ≤ b)) = false)) (rn_rloop (fun i s => ((l.take i).all fun x => decide (a ≤ x) && decide (x ≤ b)) = true) rfl ?_ ?_) ?_)
 ·rintro i s hi hI
  refine rn_ix hi (rn_call (zd5 _ _ _) (rn_if (fun h => rn_some (.inr ⟨rfl, ?_⟩)) fun h => rn_some ?_))
  ·rw [List.all_eq_false]
   exact ⟨l[i], List.getElem_mem hi, by rw [Bool.not_eq_true'] at h; rw [h]; simp⟩
  ·show ((l.take (i + 1)).all fun x => decide (a ≤ x) && decide (x ≤ b)) = true
   rw [List.take_succ_eq_append_getElem hi, List.all_append, hI]
   simpa using h
 ·rintro s hI
  rw [List.take_length] at hI
  exact .inl ⟨rfl, hI⟩
 ·rintro c (⟨rfl, h⟩ | ⟨rfl, h⟩)
  ·exact rn_some h.symm
  ·exact rn_some h.symm
theorem zhw {gr : Group} (h : 0 ≤ gr.Q) (h2 : gr.Q ≤ 2000000000) (l : List Int) : zcB gr l = some (l.all (zec gr)) := by
 unfold zcB
 rw [wr64 (by omega) (by omega), zhA]; rfl
theorem zjM {gr : Group} (h : 0 ≤ gr.Q) (h2 : gr.Q ≤ 2000000000) (x : Int) : zcf gr x = some (zec gr x) := by
 unfold zcf
 rw [wr64 (by omega) (by omega), zdl]; rfl
def zbg (gr : Group) (x e : Int) : Int := ((x.toNat ^ (e % gr.Q).toNat % gr.P.toNat : Nat) : Int)
theorem zfx {gr : Group} (k : OkG gr) (x e : Int) : 0 ≤ zbg gr x e ∧ zbg gr x e ≤ gr.P - 1 := by
 have hp := k.p
 unfold zbg
 have := Nat.mod_lt (x.toNat ^ (e % gr.Q).toNat) (y := gr.P.toNat) (by omega)
 omega
theorem zjh {gr : Group} (k : OkG gr) {x : Int} (h0 : 0 ≤ x) (h1 : x ≤ 2000000000) (e : Int) : zb5 gr x e = some (zbg gr x e) ∧ zaE gr x e = some (zbg gr x e) := by
 have hp := k.p
 have hq := k.q
 have b1 : 0 ≤ e % gr.Q := Int.emod_nonneg _ (by omega)
 have b2 : e % gr.Q < gr.Q := Int.emod_lt_of_pos _ (by omega)
 have hw := zdx (a := x) (e := e % gr.Q) (m := gr.P) (by omega) (by omega) (by omega) (by omega) b1 (by omega)
 unfold zb5 zaE
 rw [zkM (by omega) (by omega), zgb (by omega) (by omega), Option.bind_some, Option.bind_some, hw.1, hw.2]
 exact ⟨rfl, rfl⟩
theorem zgN {gr : Group} (k : OkG gr) {x : Int} (h0 : 0 ≤ x) (h1 : x ≤ 2000000000) (e : Int) : zaE gr x e = some (zbg gr x e) := by
 have hp := k.p
 have hq := k.q
 have b1 : 0 ≤ e % gr.Q := Int.emod_nonneg _ (by omega)
 have b2 : e % gr.Q < gr.Q := Int.emod_lt_of_pos _ (by omega)
 have hw := zdx (a := x) (e := e % gr.Q) (m := gr.P) (by omega) (by omega) (by omega) (by omega) b1 (by omega)
 unfold zaE
 rw [zgb (by omega) (by omega), Option.bind_some, hw.2]
 rfl
def zfu (gr : Group) (l : List Int) : Int := l.foldl (fun o x => o * x % gr.P) 1
theorem zi2 {gr : Group} (h : 1 ≤ gr.P) : ∀ (l : List Int) (o : Int), 0 ≤ o → o ≤ gr.P → (∀ x ∈ l, 0 ≤ x) → 0 ≤ l.foldl (fun o x => o * x % gr.P) o ∧ l.foldl (fun o x => o * x % gr.P) o ≤ gr.P := by
 intro l
 induction l with
 | nil => intro o h0 h1 _; exact ⟨h0, h1⟩
 | cons x l ih =>
  intro o h0 h1 h2
  exact ih _ (Int.emod_nonneg _ (by omega)) (Int.le_of_lt (Int.emod_lt_of_pos (o * x) (show 0 < gr.P by omega))) fun y hy => h2 y (List.mem_cons_of_mem _ hy)
theorem zkj (gr : Group) (l : List Int) : zdv gr l = zby gr l := rfl
theorem zhH {gr : Group} (k : OkG gr) {l : List Int} (hl : ∀ x ∈ l, 0 ≤ x ∧ x ≤ 2000000000) : zby gr l = some (zfu gr l) := by
 have hp := k.p
 unfold zby
 refine eq_of_rn (rn_then (ψ := fun b => b = zfu gr l) (rn_rloop (fun i s => s = (l.take i).foldl (fun o x => o * x % gr.P) 1) rfl ?_ ?_) fun b hb => rn_some hb)
 ·rintro i s hi rfl
  have hb := zi2 (gr := gr) (by omega) (l.take i) 1 (by omega) (by omega) fun x hx => (hl x (List.mem_of_mem_take hx)).1
  have hx := hl l[i] (List.getElem_mem hi)
  refine rn_ix hi (rn_gd (by omega) (rn_some ?_))
  show _ = (l.take (i + 1)).foldl _ _
  rw [List.take_succ_eq_append_getElem hi, List.foldl_append]
  generalize (l.take i).foldl (fun o x => o * x % gr.P) 1 = o at hb ⊢
  have b1 : 0 ≤ o * l[i] := Int.mul_nonneg hb.1 hx.1
  have b2 : o * l[i] ≤ 2000000000 * 2000000000 := Int.mul_le_mul (by omega) hx.2 hx.1 (by omega)
  show (IntKind.i64.wrap (o * l[i])).tmod gr.P = o * l[i] % gr.P
  rw [wr64 (by omega) (by omega), Int.tmod_eq_emod_of_nonneg b1]
 ·rintro s rfl
  rw [List.take_length]; rfl
theorem zkn {gr : Group} (k : OkG gr) {l : List Int} (hl : ∀ x ∈ l, 0 ≤ x ∧ x ≤ 2000000000) : zdv gr l = some (zfu gr l) := by rw [zkj]; exact zhH k hl
theorem zg5 {gr : Group} (k : OkG gr) (l : List Int) : zbt gr l = some (l.all (zaN gr)) := by
 unfold zbt zbf zak zam
 refine eq_of_rn (rn_then (ψ := fun b => b = l.all (zaN gr)) (rn_then (ψ := fun b => b = !l.all (zaN gr)) (rn_then (ψ := fun j => (j = -1 ∧ l.all (zaN gr) = true) ∨ (0 ≤ j ∧ l.all (zaN gr) = false)) (rn_then (ψ := fun b => (b = .inl () ∧ l.all (zaN gr) = true) ∨ (∃ j, b = .inr j ∧ 0 ≤ j ∧ l.all (zaN gr) = false)) (rn_rloop (fun i s => (l.take i).all (zaN gr) = true) rfl ?_ ?_) ?_) ?_) ?_) ?_)
 ·rintro i s hi hI
  have hc : zaK l[i] gr = some (!zaN gr l[i]) := by
   unfold zaK
   rw [zkN k]; rfl
  refine rn_ix hi (rn_call hc (rn_if (fun h => rn_some (.inr ⟨i, rfl, by omega, ?_⟩)) fun h => rn_some ?_))
  ·rw [List.all_eq_false]
   exact ⟨l[i], List.getElem_mem hi, by rw [Bool.not_eq_true'] at h; rw [h]; simp⟩
  ·show (l.take (i + 1)).all (zaN gr) = true
   rw [List.take_succ_eq_append_getElem hi, List.all_append, hI]
   simpa using h
 ·rintro s hI
  rw [List.take_length] at hI
  exact .inl ⟨rfl, hI⟩
 ·rintro b (⟨rfl, h⟩ | ⟨j, rfl, h0, h⟩)
  ·exact rn_some (.inl ⟨rfl, h⟩)
  ·exact rn_some (.inr ⟨h0, h⟩)
 ·rintro j (⟨rfl, h⟩ | ⟨h0, h⟩)
  ·exact rn_some (by rw [h]; rfl)
  ·exact rn_some (by rw [h]; simpa using h0)
 ·rintro b rfl
  exact rn_some (by simp)
 ·rintro b rfl
  exact rn_some rfl
theorem ziG {gr : Group} {x : Int} (h : zaN gr x = true) : 1 ≤ x ∧ x ≤ gr.P - 1 := by
 simp only [zaN, Bool.and_eq_true, decide_eq_true_eq] at h
 exact h.1
theorem zhO {α : Type} (b : Bool) (u v : α) : (if b = true then some u else some v) = some (if (!b) = true then v else u) := by cases b <;> rfl
theorem zkP {α : Type} (b : Bool) (u v : α) : (if (!b) = true then some u else some v) = some (if b = true then v else u) := by cases b <;> rfl
theorem zfy {β : Type} {body : Int → Unit → Option (Stp Unit (Unit ⊕ β))} (m : Nat) (p : Nat → Bool) (val : Nat → β) (h : ∀ k, k < m → body (k : Int) () = some (if p k = true then .go () else .out (.inr (val k)))) :
 (rloop body (fun _ => .inl ()) m 0 () = some (.inl ()) ∧ ∀ k, k < m → p k = true) ∨ ∃ k, k < m ∧ p k = false ∧ (∀ j, j < k → p j = true) ∧ rloop body (fun _ => .inl ()) m 0 () = some (.inr (val k)) := by
 have key : Rn (rloop body (fun _ => Sum.inl ()) m 0 ()) (fun b => (b = .inl () ∧ ∀ k, k < m → p k = true) ∨ ∃ k, k < m ∧ p k = false ∧ (∀ j, j < k → p j = true) ∧ b = .inr (val k)) := by
  refine rn_rloop (fun k _ => ∀ j, j < k → p j = true) (fun j hj => by omega) ?_ fun s hs => .inl ⟨rfl, hs⟩
  intro k s hk hI
  refine ⟨_, h k hk, ?_⟩
  cases hp : p k with
  | true =>
   intro j hj
   rcases Nat.lt_or_ge j k with h | h
   ·exact hI j h
   ·have : j = k := by omega
    rw [this]; exact hp
  | false => exact .inr ⟨k, hk, hp, hI, rfl⟩
 obtain ⟨b, e, h1 | ⟨k, h1, h2, h3, h4⟩⟩ := key
 ·exact .inl ⟨by rw [e, h1.1], h1.2⟩
 ·exact .inr ⟨k, h1, h2, h3, by rw [e, h4]⟩
theorem zkH {α : Type} (l : List α) (p : α → Bool) (c : Bool) {body : Int → Unit → Option (Stp Unit (Unit ⊕ Bool))} (h : ∀ k (hk : k < l.length), body (k : Int) () = some (if p l[k] = true then .go () else .out (.inr c))) :
 (rloop body (fun _ => .inl ()) l.length 0 ()).bind (Sum.elim (fun _ => some (!c)) some) = some (if l.all p = true then !c else c) := by
 rcases zfy (body := body) l.length (fun k => (l[k]?).any p) (fun _ => c) (fun k hk => by rw [h k hk, List.getElem?_eq_getElem hk]; rfl) with ⟨e, h1⟩ | ⟨k, h1, h2, h3, e⟩
 ·rw [e]
  have : l.all p = true := by
   rw [List.all_eq_true]
   intro x hx
   obtain ⟨k, hk, rfl⟩ := List.mem_iff_getElem.1 hx
   have := h1 k hk
   rw [List.getElem?_eq_getElem hk] at this
   exact this
  rw [this]; rfl
 ·rw [e]
  have : l.all p = false := by
   rw [List.all_eq_false]
   refine ⟨l[k], List.getElem_mem h1, ?_⟩
   rw [List.getElem?_eq_getElem h1] at h2
   simpa using h2
  rw [this]; rfl
theorem zhB (l : List Int) (x : Int) : zci l x = some (l.contains x) := by
 unfold zci
 have := zkH l (fun y => !(y == x)) true (body := fun i8 s7 => (ix l i8).bind fun x17 => if (x17 == x) = true then some (.out (.inr true)) else some (.go ())) fun k hk => by
  rw [ix_at hk, Option.bind_some]
  exact zhO _ _ _
 rw [show (!true) = false from rfl] at this
 refine this.trans ?_
 congr 1
 cases hc : l.contains x with
 | true =>
  have hm : x ∈ l := by simpa using hc
  have : (l.all fun y => !(y == x)) = false := by
   rw [List.all_eq_false]
   exact ⟨x, hm, by simp⟩
  rw [this]; rfl
 | false =>
  have hm : ¬ x ∈ l := by simpa using hc
  have : (l.all fun y => !(y == x)) = true := by
   rw [List.all_eq_true]
   intro y hy
   have : y ≠ x := fun e => hm (e ▸ hy)
   simp [this]
  rw [this]; rfl
theorem ze1 {l : List Int} {p : Int → Bool} {f : Int → Option Bool} (hf : ∀ x ∈ l, f x = some (!p x)) :
 ((((rloop (σ := Unit) (β := Unit ⊕ Int) (fun i8 s7 => (ix l i8).bind fun x17 => (f x17).bind fun z20 => if z20 = true then (some (.out (.inr i8))) else (some (.go ()))) (fun s7 => .inl ()) (l.length) 0 () : Option (Unit ⊕ Int)).bind (Sum.elim (fun (x5 : Unit) => some (-1)) some)).bind fun z1 => some (decide (0 ≤ z1))).bind fun z1 => some (!z1)) = some (l.all p) := by
 rcases zfy l.length (fun k => (l[k]?).any p) (fun k => (k : Int)) (body := fun i8 s7 => (ix l i8).bind fun x17 => (f x17).bind fun z20 => if z20 = true then (some (.out (.inr i8))) else (some (.go ()))) (fun k hk => by
  rw [ix_at hk, Option.bind_some, hf _ (List.getElem_mem hk), Option.bind_some, List.getElem?_eq_getElem hk]
  exact zkP _ _ _) with ⟨e, h1⟩ | ⟨k, h1, h2, h3, e⟩
 ·rw [e]
  have : l.all p = true := by
   rw [List.all_eq_true]
   intro x hx
   obtain ⟨k, hk, rfl⟩ := List.mem_iff_getElem.1 hx
   have := h1 k hk
   rw [List.getElem?_eq_getElem hk] at this
   exact this
  rw [this]; rfl
 ·rw [e]
  have : l.all p = false := by
   rw [List.all_eq_false]
   refine ⟨l[k], List.getElem_mem h1, ?_⟩
   rw [List.getElem?_eq_getElem h1] at h2
   simpa using h2
  rw [this]
  simp
def dg (q : Nat) : Nat → Nat → List Int
 | 0, _ => []
 | k + 1, n => ((n % q : Nat) : Int) :: dg q k (n / q)
theorem zil {gr : Group} (h : 0 ≤ gr.Q) (h2 : gr.Q ≤ 2000000000) (l : List Int) : zbJ gr l = some (l.all (zec gr)) := by
 have h1 : za2 l gr = some (l.all (zec gr)) := ze1 (f := fun x => zaD x gr) fun x _ => by
  unfold zaD
  rw [zjM h h2]; rfl
 unfold zbJ
 rw [h1]; rfl
structure Bt (code : List Int) : Prop where
 b : ∀ x ∈ code, 0 ≤ x ∧ x ≤ 255
 l : code.length ≤ 1048576
structure Cu (code : List Int) (n : Int) (c : List Int × Int × Int) : Prop where
 e : c.1 = code
 lo : 0 ≤ c.2.1
 hi : c.2.1 ≤ n
theorem Cu.mono {code : List Int} {n m : Int} {c : List Int × Int × Int} (h : Cu code n c) (hn : n ≤ m) : Cu code m c := ⟨h.e, h.lo, Int.le_trans h.hi hn⟩
theorem zki (x : BitVec IntKind.u64.bits) : 0 ≤ IntKind.i64.wrap (IntKind.u64.wrap ((x &&& BitVec.ofInt IntKind.u64.bits 255).toNat : Int)) ∧ IntKind.i64.wrap (IntKind.u64.wrap ((x &&& BitVec.ofInt IntKind.u64.bits 255).toNat : Int)) ≤ 255 := by
 have hy : (x &&& BitVec.ofInt IntKind.u64.bits 255).toNat ≤ 255 := by
  rw [BitVec.toNat_and]
  exact Nat.le_trans Nat.and_le_right (by decide)
 generalize (x &&& BitVec.ofInt IntKind.u64.bits 255).toNat = y at hy ⊢
 rw [wrU (by omega) (by omega), wr64 (by omega) (by omega)]
 omega
theorem ziv {code c0 : List Int} {at_ seed n : Int} (hb : Bt code) (h : Cu code n (c0, at_, seed)) (hn : n ≤ 9000000000000000) : Rn (za3 c0 at_ seed) (fun z => 0 ≤ z.1 ∧ z.1 ≤ 255 ∧ Cu code (n + 1) z.2) := by
 obtain ⟨h1, h2, h3⟩ := h
 have h1 : c0 = code := h1
 have h2 : 0 ≤ at_ := h2
 have h3 : at_ ≤ n := h3
 subst h1
 have hw : IntKind.i64.wrap (at_ + 1) = at_ + 1 := wr64 (by omega) (by omega)
 unfold za3
 refine rn_then (ψ := fun v => 0 ≤ v ∧ v ≤ 255) ?_ fun v hv => ?_
 ·refine rn_if (fun g => ?_) fun g => rn_some (by omega)
  obtain ⟨k, rfl⟩ := Int.eq_ofNat_of_zero_le h2
  have hk : k < c0.length := by simp at g; omega
  have := hb.b _ (List.getElem_mem hk)
  exact rn_ix hk (rn_some (by rw [wr64 (by omega) (by omega)]; exact this))
 ·simp only [hw]
  refine rn_if (fun g => rn_some ⟨hv.1, hv.2, rfl, by show 0 ≤ at_ + 1; omega, by show at_ + 1 ≤ n + 1; omega⟩) fun g => rn_some ?_
  exact ⟨(zki _).1, (zki _).2, rfl, by show 0 ≤ at_ + 1; omega, by show at_ + 1 ≤ n + 1; omega⟩
theorem zaF {code c0 : List Int} {at_ seed n m : Int} (hb : Bt code) (h : Cu code n (c0, at_, seed)) (hn : n ≤ 8000000000000000) : Rn (zac c0 at_ seed m) (fun z => 0 ≤ z.1 ∧ (m ≤ 1 → z.1 = 0) ∧ (1 < m → z.1 < m) ∧ z.1 ≤ 65535 ∧ Cu code (n + 2) z.2) := by
 unfold zac
 refine rn_if (fun g => rn_some ⟨Int.le_refl 0, fun _ => rfl, fun h => by simp at g; omega, by show (0 : Int) ≤ _; omega, h.mono (by omega)⟩) fun g => ?_
 have g : 1 < m := by simpa using g
 refine rn_then (ziv hb h (by omega)) fun z ⟨z1, z2, z3⟩ => ?_
 refine rn_then (ψ := fun x => 0 ≤ x.2 ∧ x.2 ≤ 65535 ∧ Cu code (n + 2) x.1) ?_ fun x ⟨x1, x2, x3⟩ => ?_
 ·refine rn_if (fun _ => rn_then (ziv hb z3 (by omega)) fun y ⟨y1, y2, y3⟩ => rn_some ?_) fun _ => rn_some ⟨z1, by show z.1 ≤ _; omega, z3.mono (by omega)⟩
  rw [wr64 (n := z.1 * 256) (by omega) (by omega), wr64 (by omega) (by omega)]
  exact ⟨by show 0 ≤ z.1 * 256 + y.1; omega, by show z.1 * 256 + y.1 ≤ _; omega, y3.mono (by omega)⟩
 ·refine rn_gd (by omega) (rn_some ?_)
  rw [Int.tmod_eq_emod_of_nonneg x1]
  have b1 := Int.emod_nonneg x.2 (show m ≠ 0 by omega)
  have b2 := Int.emod_lt_of_pos x.2 (show 0 < m by omega)
  have b3 : x.2 % m ≤ x.2 := by
   rcases Int.lt_or_le x.2 m with h | h
   ·rw [Int.emod_eq_of_lt x1 h]; exact Int.le_refl _
   ·omega
  exact ⟨b1, fun h => by omega, fun _ => b2, by show x.2 % m ≤ _; omega, x3⟩
theorem zhK {code c0 : List Int} {at_ seed n m : Int} (hb : Bt code) (h : Cu code n (c0, at_, seed)) (hn : n ≤ 8000000000000000) : Rn (zaX c0 at_ seed m) (fun z => Cu code (n + 2) z.2) := by
 unfold zaX
 exact rn_then (zaF hb h hn) fun z hz => rn_some hz.2.2.2.2
theorem zc5 {code c0 : List Int} {at_ seed n : Int} {l : List Int} (hb : Bt code) (h : Cu code n (c0, at_, seed)) (hn : n ≤ 8000000000000000) (hl : l ≠ []) : Rn (zah c0 at_ seed l) (fun z => z.1 ∈ l ∧ Cu code (n + 2) z.2) := by
 unfold zah
 refine rn_then (zaF hb h hn) fun z ⟨z1, z2, z3, z4, z5⟩ => ?_
 have h0 : 0 < l.length := List.length_pos_iff.2 hl
 obtain ⟨k, hk⟩ := Int.eq_ofNat_of_zero_le z1
 have hlt : k < l.length := by
  rcases Nat.lt_or_ge 1 l.length with h | h
  ·have := z3 (by omega); omega
  ·have := z2 (by omega); omega
 rw [hk]
 exact rn_ix hlt (rn_some ⟨List.getElem_mem hlt, z5⟩)
theorem zkx {n d : Nat} (h : Pr n) (hd : d % n ≠ 0) : Nat.gcd n d = 1 := by
 obtain ⟨k, hk⟩ := Nat.gcd_dvd_left n d
 have hn := h.1
 have h0 : 0 < Nat.gcd n d := Nat.gcd_pos_of_pos_left d (by omega)
 have hdv := Nat.gcd_dvd_right n d
 generalize Nat.gcd n d = g at hk h0 hdv
 apply Classical.byContradiction
 intro hg
 have hg2 : 2 ≤ g := by omega
 have hk2 : 2 ≤ k := by
  rcases Nat.lt_or_ge k 2 with h | h
  ·have : k = 0 ∨ k = 1 := by omega
   rcases this with rfl | rfl
   ·omega
   ·rw [Nat.mul_one] at hk
    rw [← hk] at hdv
    exact absurd (Nat.mod_eq_zero_of_dvd hdv) hd
  ·exact h
 rcases Nat.le_total g k with h' | h'
 ·exact h.2 g hg2 (by rw [hk]; exact Nat.mul_le_mul_left g h') (by rw [hk]; exact Nat.mul_mod_right g k)
 ·exact h.2 k hk2 (by rw [hk]; exact Nat.mul_le_mul_right k h') (by rw [hk]; exact Nat.mul_mod_left g k)
theorem zkg {n : Nat} (h : Pr n) {a b : Int} (hab : (a * b) % (n : Int) = 0) : a % (n : Int) = 0 ∨ b % (n : Int) = 0 := by
 have h1 : n ∣ a.natAbs * b.natAbs := by
  rw [← Int.natAbs_mul]
  exact Int.ofNat_dvd_left.1 (Int.dvd_of_emod_eq_zero hab)
 by_cases ha : a.natAbs % n = 0
 ·exact .inl (Int.emod_eq_zero_of_dvd (Int.ofNat_dvd_left.2 (Nat.dvd_of_mod_eq_zero ha)))
 ·exact .inr (Int.emod_eq_zero_of_dvd (Int.ofNat_dvd_left.2 (Nat.Coprime.dvd_of_dvd_mul_left (zkx h ha) h1)))
def evP (f : List Int) (x : Int) : Int := f.foldr (fun c a => a * x + c) 0
theorem zg8 (c : Int) (f : List Int) (x : Int) : evP (c :: f) x = evP f x * x + c := rfl
def dvP (r : Int) : List Int → List Int
 | [] => []
 | [_] => []
 | _ :: c :: f => evP (c :: f) r :: dvP r (c :: f)
theorem zhD (r : Int) : ∀ f : List Int, (dvP r f).length = f.length - 1
 | [] => rfl
 | [_] => rfl
 | _ :: c :: f => by
  show (dvP r (c :: f)).length + 1 = _
  rw [zhD r (c :: f)]; simp
theorem zh9 (r x : Int) : ∀ f : List Int, evP f x = evP (dvP r f) x * (x - r) + evP f r
 | [] => by simp [dvP, evP]
 | [c] => by simp [dvP, evP]
 | d :: c :: f => by
  have ih := zh9 r x (c :: f)
  show evP (c :: f) x * x + d = (evP (dvP r (c :: f)) x * x + evP (c :: f) r) * (x - r) + (evP (c :: f) r * r + d)
  rw [ih]
  grind
theorem zgM (r : Int) : ∀ f : List Int, 2 ≤ f.length → (dvP r f).getLastD 0 = f.getLastD 0
 | [], h => absurd h (by simp)
 | [_], h => absurd h (by simp)
 | [d, c], _ => by simp [dvP, evP]
 | e :: d :: c :: f, _ => by
  have ih := zgM r (d :: c :: f) (by simp)
  show (evP (d :: c :: f) r :: evP (c :: f) r :: dvP r (c :: f)).getLastD 0 = _
  have : dvP r (d :: c :: f) = evP (c :: f) r :: dvP r (c :: f) := rfl
  rw [this] at ih
  simpa [List.getLastD] using ih
theorem ziC {p : Nat} (hp : Pr p) : ∀ (n : Nat) (f : List Int), f.length = n + 1 → f.getLastD 0 % (p : Int) ≠ 0 → ∀ rs : List Int, rs.Pairwise (fun a b => (b - a) % (p : Int) ≠ 0) → (∀ r ∈ rs, evP f r % (p : Int) = 0) → rs.length ≤ n
 | 0, f, hl, hf, rs, hd, hr => by
  match f, hl with
  | [c], _ =>
   cases rs with
   | nil => simp
   | cons r rs =>
    have := hr r (List.mem_cons_self ..)
    simp [evP] at this
    exact absurd (by first | exact this | exact Int.emod_eq_zero_of_dvd this) (by simpa [List.getLastD] using hf)
 | n + 1, f, hl, hf, rs, hd, hr => by
  cases rs with
  | nil => simp
  | cons r rs =>
   have h1 := List.pairwise_cons.1 hd
   have := ziC hp n (dvP r f) (by rw [zhD]; omega) (by rw [zgM r f (by omega)]; exact hf) rs h1.2 fun s hs => by
    have e := zh9 r s f
    have hs0 := hr s (List.mem_cons_of_mem _ hs)
    have hr0 := hr r (List.mem_cons_self ..)
    have hm : (evP (dvP r f) s * (s - r)) % (p : Int) = 0 := by
     rw [show evP (dvP r f) s * (s - r) = evP f s - evP f r by omega, Int.sub_emod, hs0, hr0]; simp
    rcases zkg hp hm with h | h
    ·exact h
    ·exact absurd h (h1.1 s hs)
   simpa using this
theorem zi6 (k : Nat) (x : Int) : evP (List.replicate k 0 ++ [1]) x = x ^ k := by
 induction k with
 | zero => simp [evP]
 | succ k ih => rw [List.replicate_succ, List.cons_append, zg8, ih, Int.pow_succ]; omega
theorem zhj {p n : Nat} (hp : Pr p) (hn : 1 ≤ n) (rs : List Int) (hd : rs.Pairwise (fun a b => (b - a) % (p : Int) ≠ 0)) (hr : ∀ r ∈ rs, r ^ n % (p : Int) = 1) : rs.length ≤ n := by
 have h2 := hp.1
 have hone : (1 : Int) % (p : Int) = 1 := Int.emod_eq_of_lt (by omega) (by omega)
 obtain ⟨k, rfl⟩ : ∃ k, n = k + 1 := ⟨n - 1, by omega⟩
 refine ziC hp (k + 1) (-1 :: (List.replicate k 0 ++ [1])) (by simp) ?_ rs hd fun r hr' => ?_
 ·have : (-1 :: (List.replicate k (0 : Int) ++ [1])).getLastD 0 = 1 := by
   rw [← List.cons_append, List.getLastD_concat]
  rw [this, hone]; omega
 ·rw [zg8, zi6, ← Int.pow_succ, Int.add_emod, hr r hr']
  have : ((-1 : Int) % (p : Int)) = p - 1 := by
   have := Int.add_mul_emod_self_left (-1) (p : Int) 1
   rw [← this, Int.mul_one, Int.emod_eq_of_lt (by omega) (by omega)]; omega
  rw [this, show 1 + ((p : Int) - 1) = p by omega, Int.emod_self]
theorem zh3 {p n : Nat} (hp : Pr p) (hn : 1 ≤ n) (hnp : n < p - 1) : ∃ h : Nat, 2 ≤ h ∧ h < p ∧ h ^ n % p ≠ 1 := by
 apply Classical.byContradiction
 intro hc
 have h2 := hp.1
 have h1 : ∀ h : Nat, 1 ≤ h → h < p → h ^ n % p = 1 := fun h a b => by
  rcases Nat.lt_or_ge h 2 with c | c
  ·have : h = 1 := by omega
   subst this
   rw [Nat.one_pow, Nat.mod_eq_of_lt (by omega)]
  ·exact Classical.byContradiction fun d => hc ⟨h, c, b, d⟩
 have := zhj hp hn ((List.range (p - 1)).map fun k => ((k + 1 : Nat) : Int)) ?_ ?_
 ·simp at this; omega
 ·rw [List.pairwise_map]
  refine List.Pairwise.imp_of_mem ?_ List.pairwise_lt_range
  intro a b ha hb hab
  have hb := List.mem_range.1 hb
  rw [show ((b + 1 : Nat) : Int) - ((a + 1 : Nat) : Int) = ((b - a : Nat) : Int) by omega, ← Int.natCast_emod, Nat.mod_eq_of_lt (by omega)]
  omega
 ·intro r hr
  obtain ⟨k, hk, rfl⟩ := List.mem_map.1 hr
  have hk := List.mem_range.1 hk
  rw [← Int.natCast_pow, ← Int.natCast_emod, h1 (k + 1) (by omega) (by omega)]; rfl
structure Gs (gr : Group) : Prop where
 p : 0 ≤ gr.P ∧ gr.P ≤ 2000000000
 q : 0 ≤ gr.Q ∧ gr.Q ≤ 1000000000
 g : 0 ≤ gr.G ∧ gr.G ≤ 2000000000
theorem zkf {q k : Nat} (hq : 2 ≤ q) : ((1 + (k : Int) * (q : Int)) - 1).tdiv (q : Int) = (k : Int) := by
 rw [show (1 + (k : Int) * (q : Int)) - 1 = (k : Int) * (q : Int) by omega, Int.mul_tdiv_cancel _ (by omega)]
theorem zfJ {q : Nat} (hq2 : q ≤ 1000000) : Rn (zb6 (q : Int)) (fun z => Gs z.1 ∧ (z.2 = true → z.1.Q = q ∧ 3 ≤ z.1.P) ∧ (∀ k : Nat, 1 ≤ k → Pr (1 + k * q) → 1 + k * q ≤ 2000000000 → Pr q → z.2 = true)) := by
 unfold zb6
 refine rn_then (ψ := fun b => b = !(decide (2 ≤ q) && prB (q : Int))) ?_ ?_
 ·refine rn_call (zd5 _ _ _) ?_
  by_cases h : 2 ≤ q
  ·refine rn_f (by simp; omega) (rn_call (zeZ _ (by omega)) (rn_some ?_))
   simp [h]
  ·refine rn_t (by simp; omega) (rn_some ?_)
   simp [h]
 ·rintro _ rfl
  cases hc : (decide (2 ≤ q) && prB (q : Int))
  ·refine rn_t rfl (rn_some ⟨⟨⟨by decide, by decide⟩, ⟨by decide, by decide⟩, by decide, by decide⟩, fun h => (by cases h), fun k h1 h2 h3 h4 => ?_⟩)
   rw [zde.2 h4] at hc
   have := h4.1
   simp at hc; omega
  ·have hq : 2 ≤ q := by simp at hc; exact hc.1
   have hpq : Pr q := by simp at hc; exact zde.1 hc.2
   refine rn_f rfl ?_
   refine rn_then (ψ := fun b => (b = .inl () ∧ ∀ k : Nat, 1 ≤ k → Pr (1 + k * q) → ¬ 1 + k * q ≤ 2000000000) ∨ ∃ z : Group × Bool, b = .inr z ∧ Gs z.1 ∧ z.2 = true ∧ z.1.Q = q ∧ 3 ≤ z.1.P) ?_ ?_
   ·rw [wr64 (by omega) (by omega)]
    refine rn_wloop (fun s => ∃ k : Nat, 1 ≤ k ∧ s = 1 + (k : Int) * (q : Int) ∧ s ≤ 2001000001 ∧ ∀ j : Nat, 1 ≤ j → j < k → ¬ Pr (1 + j * q)) (fun s => (2001000001 - s).toNat) ⟨1, by omega, by omega, by omega, fun j h1 h2 => by omega⟩ ?_
    rintro s ⟨k, hk, rfl, hs, hn⟩
    have hkq : k * 2 ≤ k * q := Nat.mul_le_mul_left k hq
    have hkc : (k : Int) * (q : Int) = ((k * q : Nat) : Int) := zdC k q
    refine rn_if (fun g => ?_) fun g => ?_
    ·have g : 1 + (k : Int) * (q : Int) ≤ 2000000000 := by simpa using g
     refine rn_call (zeZ _ (by omega)) ?_
     have hcast : 1 + (k : Int) * (q : Int) = ((1 + k * q : Nat) : Int) := by omega
     cases hp : prB (1 + (k : Int) * (q : Int))
     ·refine rn_t rfl (rn_some ?_)
      have e : IntKind.i64.wrap (1 + (k : Int) * (q : Int) + (q : Int)) = 1 + ((k + 1 : Nat) : Int) * (q : Int) := by
       rw [wr64 (by omega) (by omega)]; grind
      refine ⟨⟨k + 1, by omega, e, by rw [wr64 (by omega) (by omega)]; omega, fun j h1 h2 => ?_⟩, ?_⟩
      ·rcases Nat.lt_or_ge j k with h | h
       ·exact hn j h1 h
       ·have : j = k := by omega
        subst this
        intro hpr
        rw [hcast, zde.2 hpr] at hp
        cases hp
      ·rw [wr64 (by omega) (by omega)]; omega
     ·refine rn_f rfl ?_
      have hpr : Pr (1 + k * q) := by rw [hcast] at hp; exact zde.1 hp
      obtain ⟨h0, a1, a2, a3⟩ := zh3 hpr hk (by omega)
      have hdv : IntKind.i64.wrap ((IntKind.i64.wrap (1 + (k : Int) * (q : Int) - 1)).tdiv (q : Int)) = (k : Int) := by
       rw [wr64 (n := 1 + (k : Int) * (q : Int) - 1) (by omega) (by omega), zkf hq, wr64 (by omega) (by omega)]
      simp only [hdv]
      simp only [hcast]
      refine rn_then (ψ := fun h => 2 ≤ h ∧ h ≤ (h0 : Int)) (rn_wloop (fun s => 2 ≤ s ∧ s ≤ (h0 : Int)) (fun s => (h0 - s).toNat) (by omega) ?_) ?_
      ·rintro s ⟨s1, s2⟩
       have hpw := (zdx (a := s) (e := (k : Int)) (m := ((1 + k * q : Nat) : Int)) (by omega) (by omega) (by omega) (by omega) (by omega) (by omega)).2
       refine rn_gd (by omega) (rn_call hpw ?_)
       refine rn_if (fun g => rn_some ?_) fun g => rn_some ⟨s1, s2⟩
       rw [wr64 (by omega) (by omega)]
       have hne : s ≠ (h0 : Int) := fun e => by
        subst e
        apply a3
        have g : ((((h0 : Int).toNat ^ (k : Int).toNat % ((1 + k * q : Nat) : Int).toNat : Nat)) : Int) = 1 := by simpa only [beq_iff_eq] using g
        rw [Int.toNat_natCast, Int.toNat_natCast, Int.toNat_natCast] at g
        omega
       refine ⟨⟨by omega, by omega⟩, ?_⟩
       omega
      ·rintro h ⟨s1, s2⟩
       have hpw := (zdx (a := h) (e := (k : Int)) (m := ((1 + k * q : Nat) : Int)) (by omega) (by omega) (by omega) (by omega) (by omega) (by omega)).2
       refine rn_gd (by omega) (rn_call hpw (rn_some ?_))
       have hlt : h.toNat ^ (k : Int).toNat % ((1 + k * q : Nat) : Int).toNat < 1 + k * q := by
        rw [Int.toNat_natCast (1 + k * q)]
        exact Nat.mod_lt _ (by omega)
       refine .inr ⟨_, rfl, ⟨⟨by show (0 : Int) ≤ ((1 + k * q : Nat) : Int); omega, by show ((1 + k * q : Nat) : Int) ≤ _; omega⟩, ⟨by show (0 : Int) ≤ (q : Int); omega, by show (q : Int) ≤ _; omega⟩, ?_, ?_⟩, rfl, rfl, by show (3 : Int) ≤ ((1 + k * q : Nat) : Int); omega⟩
       ·show (0 : Int) ≤ ((_ : Nat) : Int); omega
       ·show ((_ : Nat) : Int) ≤ 2000000000; omega
    ·refine rn_some (.inl ⟨rfl, fun j h1 h2 h3 => ?_⟩)
     have g : ¬ 1 + (k : Int) * (q : Int) ≤ 2000000000 := by simpa using g
     rcases Nat.lt_or_ge j k with h | h
     ·exact hn j h1 h h2
     ·have : k * q ≤ j * q := Nat.mul_le_mul_right q h
      omega
   ·rintro b (⟨rfl, h⟩ | ⟨z, rfl, h1, h2, h3, h4⟩)
    ·exact rn_some ⟨⟨⟨by decide, by decide⟩, ⟨by decide, by decide⟩, by decide, by decide⟩, fun h => (by cases h), fun k h1 h2 h3 h4 => absurd h3 (h k h1 h2)⟩
    ·exact rn_some ⟨h1, fun _ => ⟨h3, h4⟩, fun _ _ _ _ _ => h2⟩
theorem zds {n : Nat} (hn : n < 64) (h2 : 2 ≤ n) (h : ∀ d, d < 8 → 2 ≤ d → d * d ≤ n → n % d ≠ 0) : Pr n := by
 refine ⟨h2, fun d h1 h3 => ?_⟩
 rcases Nat.lt_or_ge d 8 with h8 | h8
 ·exact h d h8 h1 h3
 ·have : 8 * 8 ≤ d * d := Nat.mul_le_mul h8 h8
  omega
structure Gw (gr : Group) : Prop where
 p : -10 ≤ gr.P ∧ gr.P ≤ 2100000000
 q : -10 ≤ gr.Q ∧ gr.Q ≤ 2100000000
 g : -10 ≤ gr.G ∧ gr.G ≤ 2100000000
theorem Gs.w {gr : Group} (h : Gs gr) : Gw gr := ⟨by have := h.p; omega, by have := h.q; omega, by have := h.g; omega⟩
theorem zkh {x : Int} (hx : x ∈ [(3 : Int), 5, 5, 7, 11, 11, 13, 23]) : ∃ q k : Nat, x = (q : Int) ∧ 3 ≤ q ∧ q ≤ 23 ∧ 1 ≤ k ∧ Pr (1 + k * q) ∧ 1 + k * q ≤ 2000000000 ∧ Pr q := by
 simp only [List.mem_cons, List.not_mem_nil, or_false] at hx
 rcases hx with rfl | rfl | rfl | rfl | rfl | rfl | rfl | rfl
 ·exact ⟨3, 2, rfl, by decide, by decide, by decide, zds (by decide) (by decide) (by decide), by decide, zds (by decide) (by decide) (by decide)⟩
 ·exact ⟨5, 2, rfl, by decide, by decide, by decide, zds (by decide) (by decide) (by decide), by decide, zds (by decide) (by decide) (by decide)⟩
 ·exact ⟨5, 2, rfl, by decide, by decide, by decide, zds (by decide) (by decide) (by decide), by decide, zds (by decide) (by decide) (by decide)⟩
 ·exact ⟨7, 4, rfl, by decide, by decide, by decide, zds (by decide) (by decide) (by decide), by decide, zds (by decide) (by decide) (by decide)⟩
 ·exact ⟨11, 2, rfl, by decide, by decide, by decide, zds (by decide) (by decide) (by decide), by decide, zds (by decide) (by decide) (by decide)⟩
 ·exact ⟨11, 2, rfl, by decide, by decide, by decide, zds (by decide) (by decide) (by decide), by decide, zds (by decide) (by decide) (by decide)⟩
 ·exact ⟨13, 4, rfl, by decide, by decide, by decide, zds (by decide) (by decide) (by decide), by decide, zds (by decide) (by decide) (by decide)⟩
 ·exact ⟨23, 2, rfl, by decide, by decide, by decide, zds (by decide) (by decide) (by decide), by decide, zds (by decide) (by decide) (by decide)⟩
theorem zke {code c0 : List Int} {at_ seed n : Int} (hb : Bt code) (h : Cu code n (c0, at_, seed)) (hn : n ≤ 7000000000000000) : Rn (zbu c0 at_ seed) (fun z => Gs z.1 ∧ 3 ≤ z.1.Q ∧ z.1.Q ≤ 23 ∧ 3 ≤ z.1.P ∧ Cu code (n + 2) z.2) := by
 unfold zbu
 refine rn_then (zc5 hb h (by omega) (by simp)) fun z ⟨z1, z2⟩ => ?_
 obtain ⟨q, k, e, q1, q2, k1, k2, k3, k4⟩ := zkh z1
 rw [e]
 refine rn_then (zfJ (by omega)) fun y ⟨y1, y2, y3⟩ => rn_some ?_
 have y4 := y2 (y3 k k1 k2 k3 k4)
 exact ⟨y1, by show 3 ≤ y.1.Q; omega, by show y.1.Q ≤ 23; omega, y4.2, z2⟩
theorem zjY {gr : Group} (h : Gs gr) (hq : 1 ≤ gr.Q) (hp : 1 ≤ gr.P) {x : Int} (hx : 0 ≤ x ∧ x ≤ 2000000000) (e : Int) : Rn (zaE gr x e) (fun v => 0 ≤ v ∧ v ≤ 2000000000) := by
 have h1 := h.p
 have h2 := h.q
 have b1 : 0 ≤ e % gr.Q := Int.emod_nonneg _ (by omega)
 have b2 : e % gr.Q < gr.Q := Int.emod_lt_of_pos _ (by omega)
 have hw := (zdx (a := x) (e := e % gr.Q) (m := gr.P) (by omega) (by omega) (by omega) (by omega) b1 (by omega)).2
 unfold zaE
 refine rn_call (zgb (by omega) (by omega)) (rn_call hw (rn_some ?_))
 have hlt : x.toNat ^ (e % gr.Q).toNat % gr.P.toNat < gr.P.toNat := Nat.mod_lt _ (by omega)
 omega
theorem zkO {x : Int} (hx : x ∈ [(101 : Int), 1009, 1019, 65537, 999983]) : ∃ q : Nat, x = (q : Int) ∧ q ≤ 1000000 := by
 simp only [List.mem_cons, List.not_mem_nil, or_false] at hx
 rcases hx with rfl | rfl | rfl | rfl | rfl
 ·exact ⟨101, rfl, by decide⟩
 ·exact ⟨1009, rfl, by decide⟩
 ·exact ⟨1019, rfl, by decide⟩
 ·exact ⟨65537, rfl, by decide⟩
 ·exact ⟨999983, rfl, by decide⟩
theorem zkv : Gs (Group.mk 1000000007 500000003 4) := ⟨⟨by decide, by decide⟩, ⟨by decide, by decide⟩, by decide, by decide⟩
theorem cu0 (code : List Int) : Cu code 0 (code, 0, 0) := ⟨rfl, Int.le_refl 0, Int.le_refl 0⟩
theorem zjX {code c0 : List Int} {at_ seed n : Int} (hb : Bt code) (h : Cu code n (c0, at_, seed)) (hn : n ≤ 6000000000000000) : Rn (zbl c0 at_ seed) (fun z => Gs z.1 ∧ Cu code (n + 6) z.2) := by
 unfold zbl
 refine rn_then (zaF hb h (by omega)) fun z ⟨z1, z2, z3, z4, z5⟩ => ?_
 refine rn_if (fun _ => rn_some ⟨zkv, z5.mono (by omega)⟩) fun _ => rn_if (fun _ => ?_) fun _ => ?_
 ·refine rn_then (zc5 hb z5 (by omega) (by simp)) fun y ⟨y1, y2⟩ => ?_
  obtain ⟨q, e, hq⟩ := zkO y1
  rw [e]
  exact rn_then (zfJ hq) fun x ⟨x1, _, _⟩ => rn_some ⟨x1, y2.mono (by omega)⟩
 ·refine rn_then (zke hb z5 (by omega)) fun y ⟨y1, y2, y3, y4, y5⟩ => ?_
  refine rn_then (zaF hb y5 (by omega)) fun x ⟨x1, x2, x3, x4, x5⟩ => ?_
  have hg := y1.g
  refine rn_then (zjY y1 (by omega) (by omega) hg _) fun v hv => rn_some ⟨⟨y1.p, y1.q, hv⟩, x5.mono (by omega)⟩
theorem zhG {code c0 : List Int} {at_ seed n : Int} (hb : Bt code) (h : Cu code n (c0, at_, seed)) (hn : n ≤ 5000000000000000) : Rn (za0 c0 at_ seed) (fun z => Gw z.1 ∧ Cu code (n + 10) z.2) := by
 unfold za0
 refine rn_then (zjX hb h (by omega)) fun z ⟨z1, z2⟩ => ?_
 have g1 := z1.p
 have g2 := z1.q
 have g3 := z1.g
 refine rn_then (zaF hb z2 (by omega)) fun y ⟨_, _, _, _, y5⟩ => ?_
 rw [wr64 (n := z.1.P + 2) (by omega) (by omega), wr64 (n := z.1.Q + 1) (by omega) (by omega), wr64 (n := z.1.P - 1) (by omega) (by omega), wr64 (n := z.1.G + 1) (by omega) (by omega)]
 refine rn_then (ψ := fun x => Gw (Group.mk x.2.1 x.2.2.1 x.2.2.2) ∧ Cu code (n + 10) x.1) ?_ fun x hx => rn_some hx
 refine rn_if (fun _ => ?_) fun _ => rn_if (fun _ => ?_) fun _ => rn_if (fun _ => ?_) fun _ => rn_some ⟨z1.w, y5.mono (by omega)⟩
 ·refine rn_then (zc5 hb y5 (by omega) (by simp)) fun x ⟨x1, x2⟩ => rn_some ⟨?_, x2.mono (by omega)⟩
  simp only [List.mem_cons, List.not_mem_nil, or_false] at x1
  exact ⟨by show -10 ≤ x.1 ∧ x.1 ≤ _; omega, by show -10 ≤ z.1.Q ∧ z.1.Q ≤ _; omega, by show -10 ≤ z.1.G ∧ z.1.G ≤ _; omega⟩
 ·refine rn_then (zc5 hb y5 (by omega) (by simp)) fun x ⟨x1, x2⟩ => rn_some ⟨?_, x2.mono (by omega)⟩
  simp only [List.mem_cons, List.not_mem_nil, or_false] at x1
  exact ⟨by show -10 ≤ z.1.P ∧ z.1.P ≤ _; omega, by show -10 ≤ x.1 ∧ x.1 ≤ _; omega, by show -10 ≤ z.1.G ∧ z.1.G ≤ _; omega⟩
 ·refine rn_then (zc5 hb y5 (by omega) (by simp)) fun x ⟨x1, x2⟩ => rn_some ⟨?_, x2.mono (by omega)⟩
  simp only [List.mem_cons, List.not_mem_nil, or_false] at x1
  exact ⟨by show -10 ≤ z.1.P ∧ z.1.P ≤ _; omega, by show -10 ≤ z.1.Q ∧ z.1.Q ≤ _; omega, by show -10 ≤ x.1 ∧ x.1 ≤ _; omega⟩
theorem zg1 {code c0 : List Int} {at_ seed n : Int} {gr : Group} (hb : Bt code) (h : Cu code n (c0, at_, seed)) (hn : n ≤ 7000000000000000) (hg : gr.Q ≤ 2100000000) : Rn (zaQ c0 at_ seed gr) (fun z => 0 ≤ z.1 ∧ z.1 ≤ 2100000000 ∧ (2 ≤ gr.Q → z.1 < gr.Q) ∧ Cu code (n + 4) z.2) := by
 unfold zaQ
 refine rn_if (fun g => rn_some ⟨Int.le_refl 0, by show (0 : Int) ≤ _; omega, fun h => by simp at g; omega, h.mono (by omega)⟩) fun g => ?_
 have g : 2 ≤ gr.Q := by simp at g; omega
 refine rn_then (zaF hb h (by omega)) fun z ⟨z1, z2, z3, z4, z5⟩ => ?_
 refine rn_then (zaF hb z5 (by omega)) fun y ⟨y1, y2, y3, y4, y5⟩ => rn_gd (by omega) (rn_some ?_)
 rw [wr64 (n := z.1 * 60000) (by omega) (by omega), wr64 (by omega) (by omega), Int.tmod_eq_emod_of_nonneg (by omega)]
 have b1 := Int.emod_nonneg (z.1 * 60000 + y.1) (show gr.Q ≠ 0 by omega)
 have b2 := Int.emod_lt_of_pos (z.1 * 60000 + y.1) (show 0 < gr.Q by omega)
 exact ⟨b1, by show _ % gr.Q ≤ _; omega, fun _ => b2, y5.mono (by omega)⟩
theorem zgB {code c0 : List Int} {at_ seed n : Int} {gr : Group} (hb : Bt code) (h : Cu code n (c0, at_, seed)) (hn : n ≤ 6000000000000000) (hg : Gw gr) : Rn (zaR c0 at_ seed gr) (fun z => -100 ≤ z.1 ∧ z.1 ≤ 2100000000 ∧ Cu code (n + 6) z.2) := by
 have g2 := hg.q
 unfold zaR
 refine rn_then (zhK hb h (by omega)) fun z z1 => ?_
 rw [wr64 (by omega) (by omega)]
 refine rn_if (fun _ => ?_) fun _ => ?_
 ·refine rn_then (zc5 hb z1 (by omega) (by simp)) fun y ⟨y1, y2⟩ => rn_some ?_
  simp only [List.mem_cons, List.not_mem_nil, or_false] at y1
  exact ⟨by show -100 ≤ y.1; omega, by show y.1 ≤ _; omega, y2.mono (by omega)⟩
 ·exact rn_then (zg1 hb z1 (by omega) (by omega)) fun y ⟨y1, y2, _, y3⟩ => rn_some ⟨by show -100 ≤ y.1; omega, y2, y3.mono (by omega)⟩
theorem zjT {code c0 : List Int} {at_ seed n : Int} {gr : Group} {k : Nat} (hb : Bt code) (h : Cu code n (c0, at_, seed)) (hn : n ≤ 5000000000000000) (hg : Gw gr) (hk : k ≤ 1000000) : Rn (zbk c0 at_ seed gr (k : Int)) (fun z => z.1.length = k ∧ (∀ x ∈ z.1, 0 ≤ x ∧ x ≤ 2100000000 ∧ (2 ≤ gr.Q → x < gr.Q)) ∧ Cu code (n + 4 * k) z.2) := by
 unfold zbk
 refine rn_then (ψ := fun r => r.2.length = k ∧ (∀ x ∈ r.2, 0 ≤ x ∧ x ≤ 2100000000 ∧ (2 ≤ gr.Q → x < gr.Q)) ∧ Cu code (n + 4 * k) r.1) (rn_cloop k (fun j s => s.2.1 = (k : Int) - j ∧ s.2.2.length = j ∧ (∀ x ∈ s.2.2, 0 ≤ x ∧ x ≤ 2100000000 ∧ (2 ≤ gr.Q → x < gr.Q)) ∧ Cu code (n + 4 * j) s.1) ⟨by show (k : Int) = _; omega, rfl, by simp, h.mono (by omega)⟩ ?_ ?_) fun r hr => rn_some hr
 ·rintro j s hj ⟨h1, h2, h3, h4⟩
  refine rn_t (by rw [h1]; simp; omega) (rn_then (zg1 hb h4 (by omega) hg.q.2) fun z ⟨z1, z2, z3, z4⟩ => rn_gd (by omega) (rn_some ⟨?_, by simp [h2], fun x hx => ?_, z4.mono (by omega)⟩))
  ·show IntKind.i64.wrap (s.2.1 - 1) = _
   rw [h1, wr64 (by omega) (by omega)]; omega
  ·rcases List.mem_append.1 hx with h | h
   ·exact h3 x h
   ·rw [List.mem_singleton.1 h]; exact ⟨z1, z2, z3⟩
 ·rintro s ⟨h1, h2, h3, h4⟩
  exact rn_f (by rw [h1]; simp) (rn_some ⟨h2, h3, h4⟩)
theorem zhl {a q : Int} (h0 : 0 < q) (h1 : q ≤ 4000000000000000000) : zcv a q = some (a % q) := by
 unfold zcv
 rw [gd_t (by omega), gd_t (by omega)]
 have b1 : a.tmod q < q := Int.tmod_lt_of_pos a h0
 have b2 : -q < a.tmod q := by
  have := Int.lt_tmod_of_pos a h0
  omega
 rw [wr64 (by omega) (by omega), Int.tmod_eq_emod_of_nonneg (by omega)]
 congr 1
 rw [Int.add_emod_right]
 rw [Int.tmod_def, Int.sub_emod, Int.mul_emod_right, Int.sub_zero, Int.emod_emod]
theorem zho (a : Int) {m : Int} (h : 0 < m) : -m < a.tmod m ∧ a.tmod m < m := by
 have h1 := Int.tmod_lt_of_pos a h
 have h2 := Int.lt_tmod_of_pos a h
 omega
theorem ziB (a : Int) {e m : Int} (h1 : 1 ≤ m) (h2 : 0 ≤ e) (h3 : e ≤ 4000000000000000000) : Rn (zaW a e m) (fun v => -m < v ∧ v < m) := by
 unfold zaW
 refine rn_gd (by omega) (rn_then (ψ := fun v => -m < v ∧ v < m) (rn_wloop (fun s => (-m < s.2.2 ∧ s.2.2 < m) ∧ 0 ≤ s.2.1 ∧ s.2.1 ≤ e) (fun s => s.2.1.toNat) ⟨zho _ (by omega), h2, Int.le_refl _⟩ ?_) fun x hx => rn_some hx)
 rintro s ⟨hs, h4, h5⟩
 refine rn_if (fun g => ?_) fun _ => rn_some hs
 have g : 0 < s.2.1 := by simpa using g
 refine rn_then (ψ := fun v => -m < v ∧ v < m) (rn_if (fun _ => rn_gd (by omega) (rn_some (zho _ (by omega)))) fun _ => rn_some hs) fun x hx => rn_gd (by omega) (rn_some ?_)
 have e1 : s.2.1.tdiv 2 = s.2.1 / 2 := Int.tdiv_eq_ediv_of_nonneg (by omega)
 have e2 : IntKind.i64.wrap (s.2.1.tdiv 2) = s.2.1 / 2 := by rw [e1, wr64 (by omega) (by omega)]
 exact ⟨⟨hx, by show 0 ≤ IntKind.i64.wrap _; rw [e2]; omega, by show IntKind.i64.wrap _ ≤ e; rw [e2]; omega⟩, by show (IntKind.i64.wrap _).toNat < _; rw [e2]; omega⟩
theorem zjK {gr : Group} (hq : 1 ≤ gr.Q ∧ gr.Q ≤ 4000000000000000000) (hp : 1 ≤ gr.P) (x e : Int) : Rn (zaE gr x e) (fun v => -gr.P < v ∧ v < gr.P) := by
 unfold zaE
 refine rn_call (zhl (by omega) hq.2) (rn_then (ziB x hp (Int.emod_nonneg _ (by omega)) ?_) fun v hv => rn_some hv)
 have := Int.emod_lt_of_pos e (show 0 < gr.Q by omega)
 omega
theorem ziM {code c0 : List Int} {at_ seed n : Int} {gr : Group} (hb : Bt code) (h : Cu code n (c0, at_, seed)) (hn : n ≤ 6000000000000000) (hg : Gw gr) : Rn (zba c0 at_ seed gr) (fun z => -2200000000 ≤ z.1 ∧ z.1 ≤ 2200000000 ∧ Cu code (n + 4) z.2) := by
 have g1 := hg.p
 have g2 := hg.q
 unfold zba
 refine rn_then (ψ := fun b => b = false → 3 ≤ gr.P ∧ 1 ≤ gr.Q) (rn_if (fun _ => rn_some fun h => by cases h) fun a => rn_some fun b => by simp at a b; omega) fun b hb' => rn_if (fun _ => rn_some ⟨by show -2200000000 ≤ (1 : Int); decide, by show (1 : Int) ≤ _; decide, h.mono (by omega)⟩) fun e => ?_
 obtain ⟨k1, k2⟩ := hb' e
 refine rn_call (zhl (by omega) (by omega)) (rn_then (zg1 hb h (by omega) (by omega)) fun z ⟨z1, z2, _, z3⟩ => rn_then (zjK ⟨k2, by omega⟩ (by omega) _ _) fun v hv => rn_some ⟨by show _ ≤ v; omega, by show v ≤ _; omega, z3⟩)
theorem zfv {code c0 : List Int} {at_ seed n : Int} {gr : Group} (hb : Bt code) (h : Cu code n (c0, at_, seed)) (hn : n ≤ 5000000000000000) (hg : Gw gr) : Rn (zaG c0 at_ seed gr) (fun z => -2200000000 ≤ z.1 ∧ z.1 ≤ 2200000000 ∧ Cu code (n + 6) z.2) := by
 have g1 := hg.p
 unfold zaG
 refine rn_then (zhK hb h (by omega)) fun z z1 => rn_if (fun _ => ?_) fun _ => rn_then (ziM hb z1 (by omega) hg) fun y ⟨y1, y2, y3⟩ => rn_some ⟨y1, y2, y3.mono (by omega)⟩
 rw [wr64 (n := gr.P - 1) (by omega) (by omega)]
 refine rn_then (zc5 hb z1 (by omega) (by simp)) fun y ⟨y1, y2⟩ => rn_some ?_
 simp only [List.mem_cons, List.not_mem_nil, or_false] at y1
 exact ⟨by show -2200000000 ≤ y.1; omega, by show y.1 ≤ _; omega, y2.mono (by omega)⟩
def byL (s : ByteArray) : List Int := s.data.toList.map fun b => (b.toNat : Int)
theorem zd1 (s : ByteArray) : (byL s).length = s.size := by
 show (s.data.toList.map _).length = s.data.size
 rw [List.length_map, Array.length_toList]
theorem zid (s : ByteArray) : ∀ x ∈ byL s, 0 ≤ x ∧ x ≤ 255 := by
 intro x hx
 obtain ⟨b, _, rfl⟩ := List.mem_map.1 hx
 have := b.toNat_lt
 omega
theorem zkl {s : ByteArray} {k : Nat} (h : k < s.size) : ixs s (k : Int) = some ((byL s)[k]'(by rw [zd1]; exact h)) := by
 have h2 : k < s.data.size := h
 simp [ixs, byL, h]
 rfl
theorem ziF (s : ByteArray) (l : List Int) (hs : s.size ≤ 1000000) (hl : l.length ≤ 1000000000000) : zc8 s l = some ((s.size : Int) :: byL s ++ l) := by
 unfold zc8
 refine eq_of_rn (rn_then (ψ := fun x => x = (s.size : Int) :: byL s) (rn_cloop s.size (fun n p => n ≤ s.size ∧ p = ((s.size : Int) :: (byL s).take n, (n : Int))) ⟨by omega, by simp⟩ ?_ ?_) ?_)
 ·rintro n p hn ⟨_, rfl⟩
  have hn2 : n < (byL s).length := by rw [zd1]; exact hn
  have hb := zid s _ (List.getElem_mem hn2)
  refine rn_if (fun _ => ?_) fun h => absurd h (by simp; omega)
  refine rn_call (zkl hn) (rn_gd ?_ (rn_some ⟨by omega, ?_⟩))
  ·simp only [List.length_cons, List.length_take, zd1]; omega
  ·show ((s.size : Int) :: (byL s).take n ++ [_], _) = _
   rw [wr64 (by omega) (by omega), wr64 (by omega) (by omega), List.cons_append, List.take_append_getElem hn2]
   rfl
 ·rintro p ⟨_, rfl⟩
  refine rn_if (fun h => absurd h (by simp)) fun _ => rn_some ?_
  show (s.size : Int) :: (byL s).take s.size = _
  rw [List.take_of_length_le (by rw [zd1]; omega)]
 ·rintro _ rfl
  refine rn_gd ?_ (rn_some rfl)
  simp only [List.length_cons, zd1]; omega
theorem zhI (s : ByteArray) (l : List Int) (hs : s.size ≤ 1000000) (hl : l.length ≤ 1000000000000) : zdf s l = some ((s.size : Int) :: byL s ++ l) := ziF s l hs hl
def zaO (x : Int) : Bool := decide (0 ≤ x) && decide (x ≤ 4611686018427387903)
theorem zbw {x : Int} : zaO x = true ↔ 0 ≤ x ∧ x ≤ 4611686018427387903 := by simp [zaO]
theorem ze5 (x : Int) : zbI x = some (zaO x) := by
 unfold zbI
 rw [zdl]; rfl
theorem zge (x : Int) : zck x = some (zaO x) := by
 unfold zck
 rw [zd5]; rfl
theorem zjL (s : ByteArray) : (byL s).all zaO = true := by
 rw [List.all_eq_true]
 intro x hx
 have := zid s x hx
 exact zbw.2 ⟨by omega, by omega⟩
def hs1 (c s k : Int) : Int := (c * s + k + 1) % 2147483647
def zes (p : Int × Int) (x : Int) : Int × Int := (hs1 48271 (hs1 48271 p.1 (x % 2147483648)) (x / 2147483648), hs1 69621 (hs1 69621 p.2 (x % 2147483648)) (x / 2147483648))
def zfA (l : List Int) : Int := let p := (((l.length : Int) :: l).foldl zes (1, 2)); p.1 * 2147483648 + p.2
theorem zeS (c s k : Int) : 0 ≤ hs1 c s k ∧ hs1 c s k ≤ 2147483646 := by unfold hs1; omega
theorem zd4 {c s k : Int} (hc : c = 48271 ∨ c = 69621) (hs : 0 ≤ s ∧ s ≤ 2147483646) (hk : 0 ≤ k ∧ k ≤ 2147483648) : (IntKind.i64.wrap ((IntKind.i64.wrap ((IntKind.i64.wrap (c * s)) + k)) + 1)).tmod 2147483647 = hs1 c s k := by
 rcases hc with rfl | rfl
 ·rw [wr64 (n := 48271 * s) (by omega) (by omega), wr64 (n := 48271 * s + k) (by omega) (by omega), wr64 (by omega) (by omega), Int.tmod_eq_emod_of_nonneg (by omega)]; rfl
 ·rw [wr64 (n := 69621 * s) (by omega) (by omega), wr64 (n := 69621 * s + k) (by omega) (by omega), wr64 (by omega) (by omega), Int.tmod_eq_emod_of_nonneg (by omega)]; rfl
def okP (p : Int × Int) : Prop := (0 ≤ p.1 ∧ p.1 ≤ 2147483646) ∧ (0 ≤ p.2 ∧ p.2 ≤ 2147483646)
theorem zjZ (p : Int × Int) (x : Int) : okP (zes p x) := ⟨zeS _ _ _, zeS _ _ _⟩
theorem zep : ∀ (l : List Int) (p : Int × Int), okP p → okP (l.foldl zes p)
 | [], _, h => h
 | x :: l, p, _ => zep l _ (zjZ p x)
theorem zic (l : List Int) : zaO (zfA l) = true := by
 obtain ⟨h1, h2⟩ := zep ((l.length : Int) :: l) (1, 2) ⟨by decide, by decide⟩
 refine zbw.2 ?_
 unfold zfA
 dsimp only
 omega
theorem zgT {p : Int × Int} {x : Int} (hp : okP p) (hx : zaO x = true) : zaL p.1 p.2 x = some (zes p x) := by
 obtain ⟨h1, h2⟩ := hp
 have hx := zbw.1 hx
 have e1 : x.tmod 2147483648 = x % 2147483648 := Int.tmod_eq_emod_of_nonneg hx.1
 have e2 : IntKind.i64.wrap (x.tdiv 2147483648) = x / 2147483648 := by
  rw [Int.tdiv_eq_ediv_of_nonneg hx.1, wr64 (by omega) (by omega)]
 have b1 : 0 ≤ x % 2147483648 ∧ x % 2147483648 ≤ 2147483648 := by omega
 have b2 : 0 ≤ x / 2147483648 ∧ x / 2147483648 ≤ 2147483648 := by omega
 have h0 : ix [x % 2147483648, x / 2147483648] 0 = some (x % 2147483648) := rfl
 have h1' : ix [x % 2147483648, x / 2147483648] 1 = some (x / 2147483648) := rfl
 unfold zaL
 rw [e1, e2, Option.bind_some, wloop_eq]
 simp only [List.length_cons, List.length_nil, show decide ((0 : Int) < ((0 + 1 + 1 : Nat) : Int)) = true from rfl, if_true, h0, Option.bind_some, zd4 (.inl rfl) h1 b1, zd4 (.inr rfl) h2 b1]
 rw [wloop_eq]
 simp only [show IntKind.i64.wrap (0 + 1) = 1 from rfl, show decide ((1 : Int) < ((0 + 1 + 1 : Nat) : Int)) = true from rfl, if_true, h1', Option.bind_some, zd4 (.inl rfl) (zeS _ _ _) b2, zd4 (.inr rfl) (zeS _ _ _) b2]
 rw [wloop_eq]
 simp only [show IntKind.i64.wrap (1 + 1) = 2 from rfl, show decide ((2 : Int) < ((0 + 1 + 1 : Nat) : Int)) = false from rfl, Bool.false_eq_true, if_false, Option.bind_some]
 rfl
theorem zhm {l : List Int} (h : l.all zaO = true) {k : Nat} (hk : k < l.length) : zaO l[k] = true := List.all_eq_true.1 h _ (List.getElem_mem hk)
theorem zhv {l : List Int} (hl : l.length ≤ 1000000000000) (hd : l.all zaO = true) : zc4 l = some (zfA l) := by
 unfold zc4
 have e0 := zgT (p := (1, 2)) (x := (l.length : Int)) ⟨by decide, by decide⟩ (zbw.2 ⟨by omega, by omega⟩)
 refine eq_of_rn (rn_call e0 (rn_then (ψ := fun p => p = ((l.length : Int) :: l).foldl zes (1, 2)) (rn_rloop (fun n p => p = ((l.length : Int) :: l.take n).foldl zes (1, 2)) rfl ?_ ?_) ?_))
 ·rintro n p hn rfl
  refine rn_ix hn (rn_call (zgT (zep _ _ ⟨by decide, by decide⟩) (zhm hd hn)) (rn_some ?_))
  show zes _ _ = _
  rw [← List.take_append_getElem hn, ← List.cons_append, List.foldl_append]
  rfl
 ·rintro p rfl
  show (((l.length : Int) :: l.take l.length).foldl zes (1, 2)) = _
  rw [List.take_length]
 ·rintro p rfl
  obtain ⟨h1, h2⟩ := zep ((l.length : Int) :: l) (1, 2) ⟨by decide, by decide⟩
  refine rn_some ?_
  rw [wr64 (n := _ * 2147483648) (by omega) (by omega), wr64 (by omega) (by omega)]
  rfl
theorem ziR {x : Int} (hx : zaO x = true) : IntKind.i64.wrap (BitVec.ofInt IntKind.i64.bits x &&& BitVec.ofInt IntKind.i64.bits 2147483647).toNat = x % 2147483648 := by
 have hx := zbw.1 hx
 obtain ⟨n, rfl⟩ := Int.eq_ofNat_of_zero_le hx.1
 have h1 : (BitVec.ofInt IntKind.i64.bits ((n : Nat) : Int) &&& BitVec.ofInt IntKind.i64.bits 2147483647).toNat = n % 2147483648 := by
  rw [BitVec.toNat_and]
  have a1 : (BitVec.ofInt IntKind.i64.bits (n : Int)).toNat = n := by
   rw [BitVec.toNat_ofInt]
   have : IntKind.i64.bits = 64 := rfl
   rw [this]
   omega
  have a2 : (BitVec.ofInt IntKind.i64.bits 2147483647).toNat = 2 ^ 31 - 1 := by decide
  rw [a1, a2, Nat.and_two_pow_sub_one_eq_mod]
 rw [h1, wr64 (by omega) (by omega)]
 omega
theorem zkw {l : List Int} (hl : l.length ≤ 1000000000000) (hd : l.all zaO = true) : zdu l = some (zfA l) := by
 unfold zdu
 have hd2 : ((l.length : Int) :: l).all zaO = true := by
  rw [List.all_cons, hd, Bool.and_true]
  exact zbw.2 ⟨by omega, by omega⟩
 refine eq_of_rn (rn_gd (by simp only [List.length_cons, List.length_nil]; omega) (rn_call rfl (rn_then (ψ := fun p => p = ((l.length : Int) :: l).foldl zes (1, 2)) (rn_rloop (fun n p => p = (((l.length : Int) :: l).take n).foldl zes (1, 2)) rfl ?_ ?_) ?_)))
 ·rintro n p hn rfl
  have ok := zep ((((l.length : Int) :: l)).take n) (1, 2) ⟨by decide, by decide⟩
  have dg := zhm hd2 hn
  have b := zbw.1 dg
  have ef : (((l.length : Int) :: l)[n]).fdiv 2147483648 = ((l.length : Int) :: l)[n] / 2147483648 := Int.fdiv_eq_ediv_of_nonneg _ (by omega)
  have hn' : n < ((l.length : Int) :: l).length := hn
  refine rn_ix hn (rn_some ?_)
  show (_, _) = _
  simp only [List.singleton_append]
  rw [ziR dg, ef, zd4 (.inl rfl) ok.1 (by omega), zd4 (.inr rfl) ok.2 (by omega), zd4 (.inl rfl) (zeS _ _ _) (by omega), zd4 (.inr rfl) (zeS _ _ _) (by omega),
   ← List.take_append_getElem hn', List.foldl_append]
  rfl
 ·rintro p rfl
  show ((((l.length : Int) :: l).take ([(l.length : Int)] ++ l).length).foldl zes (1, 2)) = _
  rw [List.singleton_append, List.take_length]
 ·rintro p rfl
  obtain ⟨h1, h2⟩ := zep ((l.length : Int) :: l) (1, 2) ⟨by decide, by decide⟩
  refine rn_some ?_
  rw [wr64 (n := _ * 2147483648) (by omega) (by omega), wr64 (by omega) (by omega)]
  rfl
def zfO (s : ByteArray) (l : List Int) : Int := zfA ((s.size : Int) :: byL s ++ l)
theorem zez (s : ByteArray) (l : List Int) : zaO (zfO s l) = true := zic _
def zdY (s : ByteArray) (l : List Int) : Bool := decide (s.size ≤ 40) && decide (1 + s.size + l.length ≤ 400) && l.all zaO
theorem zhr {s : ByteArray} {l : List Int} (hs : s.size ≤ 1000000) : ((s.size : Int) :: byL s ++ l).all zaO = l.all zaO := by
 rw [List.cons_append, List.all_cons, List.all_append, zjL, zbw.2 ⟨by omega, by omega⟩, Bool.true_and, Bool.true_and]
theorem zd2 {s : ByteArray} {l : List Int} (hs : s.size ≤ 1000000) (hl : l.length ≤ 100000000000) (hd : l.all zaO = true) : zb4 s l = some (zfO s l) := by
 unfold zb4
 rw [ziF s l hs (by omega), Option.bind_some, zhv (by simp [zd1]; omega) (by rw [zhr hs]; exact hd)]
 rfl
theorem zg0 (l : List Int) : zcp l = some (decide (l.length ≤ 400) && l.all zaO) := by
 unfold zcp
 have h1 : zbj l = some (l.all zaO) := ze1 (f := zaM) fun x _ => by
  unfold zaM
  rw [ze5]; rfl
 rw [h1]
 by_cases h : l.length ≤ 400
 ·rw [if_pos (by simp; omega)]; simp [h]
 ·rw [if_neg (by simp; omega)]; simp [h]
theorem zhL (l : List Int) : zcM l = some (if (decide (l.length ≤ 400) && l.all zaO) = true then (zfA l, true) else (0, false)) := by
 unfold zcM
 rw [zg0, Option.bind_some]
 cases h : (decide (l.length ≤ 400) && l.all zaO) with
 | true =>
  simp only [Bool.and_eq_true, decide_eq_true_eq] at h
  rw [zkw (by omega) h.2]; rfl
 | false => rfl
theorem zdX (s : ByteArray) (l : List Int) : zaV s l = some (if zdY s l = true then (zfO s l, true) else (0, false)) := by
 unfold zaV
 by_cases h1 : s.size ≤ 40
 ·by_cases h2 : l.length ≤ 400
  ·rw [if_neg (by simp; omega), Option.bind_some, if_neg (by simp; omega), zhI s l (by omega) (by omega), Option.bind_some, zhL, zhr (by omega)]
   have e : ((s.size : Int) :: byL s ++ l).length = 1 + s.size + l.length := by simp [zd1]; omega
   rw [e]
   have e2 : zdY s l = (decide (1 + s.size + l.length ≤ 400) && l.all zaO) := by simp [zdY, h1]
   rw [e2]
   cases decide (1 + s.size + l.length ≤ 400) <;> cases l.all zaO <;> rfl
  ·rw [if_neg (by simp; omega), Option.bind_some, if_pos (by simp; omega)]
   have : zdY s l = false := by
    have : ¬ 1 + s.size + l.length ≤ 400 := by omega
    simp [zdY, this]
   rw [this]; rfl
 ·rw [if_pos (by simp; omega), Option.bind_some, if_pos rfl]
  have : zdY s l = false := by simp [zdY, h1]
  rw [this]; rfl
theorem zhW {α β γ : Type} {l : List α} {f : α → β} {body : Int → List β → Option (Stp (List β) γ)} {stop : List β → γ} (a0 : List β) (hs : ∀ k (h : k < l.length) (s : List β), s.length = a0.length + k → body (k : Int) s = some (.go (s ++ [f l[k]]))) :
 rloop body stop l.length 0 a0 = some (stop (a0 ++ l.map f)) := by
 refine eq_of_rn (rn_rloop (fun k s => s = a0 ++ (l.take k).map f ∧ k ≤ l.length) ⟨by simp, by omega⟩ ?_ ?_)
 ·rintro k s hk ⟨rfl, _⟩
  refine ⟨_, hs k hk _ (by simp; omega), ?_, hk⟩
  rw [List.take_succ_eq_append_getElem hk, List.map_append, List.append_assoc]; rfl
 ·rintro s ⟨rfl, _⟩
  simp
theorem zha {γ : Type} {m : Nat} (p : Nat → Bool) (c d : γ) {body : Int → Unit → Option (Stp Unit (Unit ⊕ γ))} (h : ∀ k, k < m → body (k : Int) () = some (if p k = true then .go () else .out (.inr c))) :
 (rloop body (fun _ => .inl ()) m 0 ()).bind (Sum.elim (fun _ => some d) some) = some (if (List.range m).all p = true then d else c) := by
 rcases zfy (body := body) m p (fun _ => c) h with ⟨e, h1⟩ | ⟨k, h1, h2, h3, e⟩
 ·have : (List.range m).all p = true := by
   rw [List.all_eq_true]; intro x hx; exact h1 x (List.mem_range.1 hx)
  rw [e, this]; rfl
 ·have : (List.range m).all p = false := by
   rw [List.all_eq_false]; exact ⟨k, List.mem_range.2 h1, by simp [h2]⟩
  rw [e, this]; rfl
theorem zf3 {α : Type} {l : List α} {p : α → Bool} {f : α → Option Bool} (hf : ∀ x ∈ l, f x = some (p x)) :
 ((((rloop (σ := Unit) (β := Unit ⊕ Int) (fun i8 s7 => (ix l i8).bind fun x17 => (f x17).bind fun z20 => if z20 = true then (some (.out (.inr i8))) else (some (.go ()))) (fun s7 => .inl ()) (l.length) 0 () : Option (Unit ⊕ Int)).bind (Sum.elim (fun (x5 : Unit) => some (-1)) some)).bind fun z1 => some (decide (0 ≤ z1)))) = some (l.any p) := by
 rcases zfy l.length (fun k => !(l[k]?).any p) (fun k => (k : Int)) (body := fun i8 s7 => (ix l i8).bind fun x17 => (f x17).bind fun z20 => if z20 = true then (some (.out (.inr i8))) else (some (.go ()))) (fun k hk => by
  rw [ix_at hk, Option.bind_some, hf _ (List.getElem_mem hk), Option.bind_some, List.getElem?_eq_getElem hk]
  cases h : p l[k] <;> simp [h]) with ⟨e, h1⟩ | ⟨k, h1, h2, h3, e⟩
 ·rw [e]
  have : l.any p = false := by
   rw [List.any_eq_false]
   intro x hx
   obtain ⟨k, hk, rfl⟩ := List.mem_iff_getElem.1 hx
   have := h1 k hk
   rw [List.getElem?_eq_getElem hk] at this
   simpa using this
  rw [this]; rfl
 ·rw [e]
  have : l.any p = true := by
   rw [List.any_eq_true]
   refine ⟨l[k], List.getElem_mem h1, ?_⟩
   rw [List.getElem?_eq_getElem h1] at h2
   simpa using h2
  rw [this]
  simp
def inB (a b x : Int) : Bool := decide (a ≤ x) && decide (x ≤ b)
theorem zek {a b x : Int} : inB a b x = true ↔ a ≤ x ∧ x ≤ b := by simp [inB]
theorem zhp (a b : Bool) : (if a = true then some b else some false) = some (a && b) := by cases a <;> rfl
theorem zie (a b : Bool) : (if a = true then some true else some b) = some (a || b) := by cases a <;> rfl
theorem zko (l : List Int) (a b : Int) : zcF l a b = some (l.all (inB a b)) := zhA l a b
theorem zf8 (x a b : Int) : zaC x a b = some (inB a b x) := zd5 x a b
theorem zeQ (x a b : Int) : zap x a b = some (inB a b x) := zdl x a b
theorem zen {l : List Int} (h : l.length ≤ 1048576) : zbK l = some l := gd_t (by omega)
theorem zgt {l : List Int} (h : l.length ≤ 1048576) : za4 l = some l := gd_t (by omega)
theorem zdJ {α : Type} {L : List (List α)} {i : Nat} (h : i < L.length) : (L.take (i + 1)).flatten = (L.take i).flatten ++ L[i] := by
 rw [List.take_succ_eq_append_getElem h, List.flatten_append]; simp
theorem zf1 {α : Type} (L : List (List α)) (i : Nat) : (L.take i).flatten.length ≤ L.flatten.length := by
 have e : L.flatten = (L.take i).flatten ++ (L.drop i).flatten := by rw [← List.flatten_append, List.take_append_drop]
 rw [e, List.length_append]; omega
theorem zgC (L : List (List Int)) (h : L.flatten.length ≤ 1000000000000) : zaZ L = some L.flatten := by
 unfold zaZ
 refine eq_of_rn (rn_then (ψ := fun n => n = (L.flatten.length : Int)) (rn_rloop (fun i s => s = ((L.take i).flatten.length : Int)) rfl ?_ ?_) ?_)
 ·rintro i s hi rfl
  have e := congrArg List.length (zdJ hi)
  rw [List.length_append] at e
  have hl := zf1 L (i + 1)
  refine rn_ix hi ?_
  rw [wr64 (by omega) (by omega)]
  refine rn_f (by simp only [decide_eq_false_iff_not]; omega) (rn_some ?_)
  show _ = _
  omega
 ·rintro s rfl
  rw [List.take_length]
 ·rintro n rfl
  refine rn_gd (by omega) (rn_then (ψ := fun r => r = L.flatten) (rn_rloop (fun i s => s = (L.take i).flatten) rfl ?_ ?_) fun r hr => rn_some hr)
  ·rintro i s hi rfl
   have e := congrArg List.length (zdJ hi)
   rw [List.length_append] at e
   have hl := zf1 L (i + 1)
   refine rn_ix hi (rn_gd (by omega) (rn_some ?_))
   show _ = _
   rw [zdJ hi]
  ·rintro s rfl
   rw [List.take_length]
def chG (gr : Group) (s : ByteArray) (l : List Int) : Int := zfO s ([gr.P, gr.Q, gr.G] ++ l) % gr.Q
theorem zht {gr : Group} (k : OkG gr) {l : List Int} : ([gr.P, gr.Q, gr.G] ++ l).all zaO = l.all zaO := by
 have hp := k.p
 have hq := k.q
 have hg := k.g
 rw [List.all_append]
 have : [gr.P, gr.Q, gr.G].all zaO = true := by
  simp only [List.all_cons, List.all_nil, Bool.and_true, Bool.and_eq_true]
  exact ⟨zbw.2 (by omega), zbw.2 (by omega), zbw.2 (by omega)⟩
 rw [this, Bool.true_and]
theorem zgP {gr : Group} (k : OkG gr) {s : ByteArray} {l : List Int} (hs : s.size ≤ 1000000) (hl : l.length ≤ 10000000000) (hd : l.all zaO = true) : za7 gr s l = some (chG gr s l) := by
 have hq := k.q
 have hb := zbw.1 (zez s ([gr.P, gr.Q, gr.G] ++ l))
 unfold za7
 rw [gd_t (by simp only [List.length_cons, List.length_nil]; omega), zd2 hs (by simp only [List.length_append, List.length_cons, List.length_nil]; omega) (by rw [zht k]; exact hd), Option.bind_some, gd_t (by omega), Int.tmod_eq_emod_of_nonneg hb.1]
 rfl
theorem zkt {gr : Group} (k : OkG gr) (s : ByteArray) {l : List Int} (hl : l.length ≤ 10000000000) : zbv gr s l = some (if zdY s ([gr.P, gr.Q, gr.G] ++ l) = true then (chG gr s l, true) else (0, false)) := by
 have hq := k.q
 have hb := zbw.1 (zez s ([gr.P, gr.Q, gr.G] ++ l))
 unfold zbv
 rw [gd_t (by simp only [List.length_cons, List.length_nil]; omega), zdX, Option.bind_some]
 cases zdY s ([gr.P, gr.Q, gr.G] ++ l) with
 | false => rfl
 | true =>
  simp only [if_true, Bool.not_true, Bool.false_eq_true, if_false]
  rw [gd_t (by omega), Int.tmod_eq_emod_of_nonneg hb.1]
  rfl
theorem zkG {gr : Group} (k : OkG gr) {s : ByteArray} {l : List Int} (hs : s.size ≤ 40) (hl : 4 + s.size + l.length ≤ 400) (hd : l.all zaO = true) : zdY s ([gr.P, gr.Q, gr.G] ++ l) = true := by
 unfold zdY
 rw [zht k, hd, Bool.and_true, Bool.and_eq_true, decide_eq_true_eq, decide_eq_true_eq]
 simp only [List.length_append, List.length_cons, List.length_nil]
 omega
theorem zeP {gr : Group} (k : OkG gr) {l : List Int} (h : l.all (zaN gr) = true) : l.all zaO = true := by
 have hp := k.p
 rw [List.all_eq_true] at h ⊢
 intro x hx
 have := ziG (h x hx)
 exact zbw.2 (by omega)
def zcU (gr : Group) : List Int → List Int → Int → Int
 | x :: l, e :: m, o => zcU gr l m (o * zbg gr x e % gr.P)
 | _, _, o => o
theorem zfl (gr : Group) : ∀ (l m : List Int) (x e o : Int), l.length = m.length → zcU gr (l ++ [x]) (m ++ [e]) o = zcU gr l m o * zbg gr x e % gr.P
 | [], [], x, e, o, _ => rfl
 | y :: l, f :: m, x, e, o, h => zfl gr l m x e _ (by simpa using h)
theorem zfW (gr : Group) : ∀ (l m : List Int) (o : Int), zcU gr l (m.take l.length) o = zcU gr l m o
 | [], m, o => by cases m <;> rfl
 | y :: l, [], o => rfl
 | y :: l, f :: m, o => zfW gr l m _
theorem zgk {gr : Group} (h : 0 < gr.P) : ∀ (l m : List Int) (o : Int), 0 ≤ o ∧ o < gr.P → 0 ≤ zcU gr l m o ∧ zcU gr l m o < gr.P
 | x :: l, e :: m, o, _ => zgk h l m _ ⟨Int.emod_nonneg _ (by omega), Int.emod_lt_of_pos _ h⟩
 | [], _, o, ho => ho
 | _ :: _, [], o, ho => ho
theorem zjW {gr : Group} (k : OkG gr) {x y : Int} (hx : 0 ≤ x ∧ x < gr.P) (hy : 0 ≤ y) : zfu gr [x, y] = x * y % gr.P := by
 have hp := k.p
 simp only [zfu, List.foldl_cons, List.foldl_nil, Int.one_mul]
 rw [Int.emod_eq_of_lt hx.1 hx.2]
theorem zjN {gr : Group} (k : OkG gr) {l m : List Int} (hl : ∀ x ∈ l, 0 ≤ x ∧ x ≤ 2000000000) (hm : l.length ≤ m.length) : zbP gr l m = some (zcU gr l m 1) := by
 have hp := k.p
 unfold zbP
 refine eq_of_rn (rn_then (ψ := fun b => b = zcU gr l m 1) (rn_rloop (fun i s => s = zcU gr (l.take i) (m.take i) 1) rfl ?_ ?_) fun b hb => rn_some hb)
 ·rintro i s hi rfl
  have bd := zgk (gr := gr) (by omega) (l.take i) (m.take i) 1 (by omega)
  have hx := hl l[i] (List.getElem_mem hi)
  have pb := zfx k l[i] (m[i]'(by omega))
  refine rn_ix hi (rn_ix (show i < m.length by omega) (rn_call (zgN k hx.1 hx.2 _) (rn_gd (by omega) (rn_some ?_))))
  show _ = zcU gr (l.take (i + 1)) (m.take (i + 1)) 1
  rw [List.take_succ_eq_append_getElem hi, List.take_succ_eq_append_getElem (show i < m.length by omega), zfl _ _ _ _ _ _ (by simp; omega)]
  have b1 := Int.mul_nonneg bd.1 pb.1
  have b2 : zcU gr (l.take i) (m.take i) 1 * zbg gr l[i] (m[i]'(by omega)) ≤ 2000000000 * 2000000000 := Int.mul_le_mul (by omega) (by omega) pb.1 (by omega)
  rw [wr64 (by omega) (by omega), Int.tmod_eq_emod_of_nonneg b1]
 ·rintro s rfl
  rw [List.take_length, zfW]
theorem ziy {gr : Group} (k : OkG gr) {l m : List Int} (hl : ∀ x ∈ l, 0 ≤ x ∧ x ≤ 2000000000) (hm : l.length ≤ m.length) : zbW gr l m = some (zcU gr l m 1) := by
 have hp := k.p
 unfold zbW
 refine eq_of_rn (rn_then (ψ := fun b => b = zcU gr l m 1) (rn_rloop (fun i s => s = zcU gr (l.take i) (m.take i) 1) rfl ?_ ?_) fun b hb => rn_some hb)
 ·rintro i s hi rfl
  have bd := zgk (gr := gr) (by omega) (l.take i) (m.take i) 1 (by omega)
  have hx := hl l[i] (List.getElem_mem hi)
  have pb := zfx k l[i] (m[i]'(by omega))
  refine rn_ix hi (rn_ix (show i < m.length by omega) (rn_call (zjh k hx.1 hx.2 _).1 (rn_call (zhH k ?_) (rn_some ?_))))
  ·intro y hy
   simp only [List.mem_cons, List.not_mem_nil, or_false] at hy
   rcases hy with rfl | rfl <;> omega
  ·show _ = zcU gr (l.take (i + 1)) (m.take (i + 1)) 1
   rw [List.take_succ_eq_append_getElem hi, List.take_succ_eq_append_getElem (show i < m.length by omega), zfl _ _ _ _ _ _ (by simp; omega), zjW k bd pb.1]
 ·rintro s rfl
  rw [List.take_length, zfW]
structure LinS (gr : Group) (bs : List (List Int)) : Prop where
 n : 1 ≤ bs.length ∧ bs.length ≤ 8
 m : 1 ≤ (bs.headD []).length ∧ (bs.headD []).length ≤ 8
 r : ∀ r ∈ bs, r.length = (bs.headD []).length ∧ r.all (zaN gr) = true
theorem zgA : ∀ {bs : List (List Int)} {c : Nat}, (∀ r ∈ bs, r.length ≤ c) → bs.flatten.length ≤ bs.length * c
 | [], _, _ => by simp
 | r :: bs, c, h => by
  have h1 := h r (List.mem_cons_self ..)
  have h2 := zgA fun x hx => h x (List.mem_cons_of_mem r hx)
  rw [List.flatten_cons, List.length_append, List.length_cons, Nat.add_mul]
  omega
theorem LinS.flat {gr : Group} {bs : List (List Int)} (h : LinS gr bs) : bs.flatten.length ≤ 64 := by
 have := zgA (bs := bs) (c := 8) fun r hr => by rw [(h.r r hr).1]; exact h.m.2
 have := h.n
 omega
theorem LinS.dig {gr : Group} (k : OkG gr) {bs : List (List Int)} (h : LinS gr bs) : bs.flatten.all zaO = true := by
 rw [List.all_eq_true]
 intro x hx
 obtain ⟨r, hr, hx⟩ := List.mem_flatten.1 hx
 exact List.all_eq_true.1 (zeP k (h.r r hr).2) x hx
theorem LinS.hd {gr : Group} {bs : List (List Int)} (h : LinS gr bs) : ix bs 0 = some (bs.headD []) := by
 cases bs with
 | nil => have := h.n; simp at this
 | cons r l => rfl
theorem zeo {gr : Group} (k : OkG gr) {l : List Int} (h : l.all (zaN gr) = true) : ∀ x ∈ l, 0 ≤ x ∧ x ≤ 2000000000 := fun x hx => by
 have hp := k.p
 have := ziG (List.all_eq_true.1 h x hx)
 omega
theorem zig {bs : List (List Int)} {im cs : List Int} (h1 : bs.flatten.length ≤ 1000000) (h2 : im.length ≤ 1048576) (h3 : cs.length ≤ 1048576) : zbQ bs im cs = some (bs.flatten ++ im ++ cs) := by
 unfold zbQ
 refine eq_of_rn (rn_then (ψ := fun r => r = bs.flatten) (rn_rloop (fun i s => s = (bs.take i).flatten) rfl ?_ ?_) ?_)
 ·rintro i s hi rfl
  have e := congrArg List.length (zdJ hi)
  rw [List.length_append] at e
  have hl := zf1 bs (i + 1)
  refine rn_ix hi (rn_gd (by omega) (rn_some ?_))
  show _ = _
  rw [zdJ hi]
 ·rintro s rfl
  rw [List.take_length]
 ·rintro r rfl
  exact rn_gd (by omega) (rn_gd (by rw [List.length_append]; omega) (rn_some rfl))
theorem ziS {gr : Group} (k : OkG gr) {bs : List (List Int)} {es : List Int} (hb : LinS gr bs) (he : es.length = (bs.headD []).length) : zbX gr bs es = some (bs.map fun r => zcU gr r es 1) := by
 unfold zbX
 have hn := hb.n
 rw [zhW (f := fun r => zcU gr r es 1) []]
 ·rfl
 ·intro i hi s hs
  have hr := hb.r _ (List.getElem_mem hi)
  rw [ix_at hi, Option.bind_some, ziy k (zeo k hr.2) (by omega), Option.bind_some, gd_t (by simp at hs; omega)]
def zg3 (gr : Group) (s : ByteArray) (bs : List (List Int)) (im : List Int) (p : Proof) : Bool :=
 !(((p.Commits.length : Int) != (bs.length : Int)) || (((p.Challenges.length : Int) != 1) || (((p.Responses.length : Int) != ((bs.headD []).length : Int)) || (!p.Commits.all (zaN gr) || !p.Responses.all (zec gr))))) &&
 (!(p.Challenges.headD 0 != chG gr s (bs.flatten ++ im ++ p.Commits)) &&
 (List.range bs.length).all fun i => !(zcU gr (bs.getD i []) p.Responses 1 != zfu gr [p.Commits.getD i 0, zbg gr (im.getD i 0) (p.Challenges.headD 0)]))
theorem zh1 {gr : Group} (k : OkG gr) {s : ByteArray} (hs : s.size ≤ 40) {bs : List (List Int)} {im : List Int} {p : Proof} (hb : LinS gr bs) (hi : im.length = bs.length) (hd : im.all (zaN gr) = true) (hc : p.Commits.length ≤ 1048576) :
 zcY gr s bs im p = some (zg3 gr s bs im p) := by
 have hp := k.p
 have hq := k.q
 unfold zcY zg3
 simp only [hb.hd, zjc k, zhw (gr := gr) (by omega) (by omega), Option.bind_some, zie]
 cases hg : (((p.Commits.length : Int) != (bs.length : Int)) || (((p.Challenges.length : Int) != 1) || (((p.Responses.length : Int) != ((bs.headD []).length : Int)) || (!p.Commits.all (zaN gr) || !p.Responses.all (zec gr))))) with
 | true => rfl
 | false =>
  simp only [Bool.or_eq_false_iff, bne_eq_false_iff_eq, Bool.not_eq_false'] at hg
  obtain ⟨g1, g2, g3, g4, g5⟩ := hg
  have hf := hb.flat
  have hn := hb.n
  obtain ⟨c, hce⟩ : ∃ c, p.Challenges = [c] := by
   match h : p.Challenges, g2 with
   | [c], _ => exact ⟨c, rfl⟩
  have hdig : (bs.flatten ++ im ++ p.Commits).all zaO = true := by
   rw [List.all_append, List.all_append, hb.dig k, zeP k hd, zeP k g4]; rfl
  simp only [Bool.false_eq_true, if_false, hce, show ix [c] 0 = some c from rfl, Option.bind_some, zig (bs := bs) (im := im) (cs := p.Commits) (by omega) (by omega) hc]
  rw [zgP k (by omega) (by simp only [List.length_append]; omega) hdig, Option.bind_some]
  show _ = some (!false && (!(c != _) && _))
  by_cases hcc : c = chG gr s (bs.flatten ++ im ++ p.Commits)
  ·have e1 : (c != chG gr s (bs.flatten ++ im ++ p.Commits)) = false := by simpa using hcc
   rw [e1]
   simp only [Bool.false_eq_true, if_false, Bool.not_false, Bool.true_and]
   rw [zha (fun i => !(zcU gr (bs.getD i []) p.Responses 1 != zfu gr [p.Commits.getD i 0, zbg gr (im.getD i 0) c])) false true]
   ·simp only [Bool.if_true_left, Bool.if_false_right, Bool.and_true, Bool.decide_eq_true, Bool.or_false]
    rfl
   ·intro i hi
    have hr := hb.r _ (List.getElem_mem hi)
    have h1 : i < p.Commits.length := by omega
    have h2 : i < im.length := by omega
    have ic := zeo k g4 _ (List.getElem_mem h1)
    have ii := zeo k hd _ (List.getElem_mem h2)
    have pb := zfx k im[i] c
    rw [ix_at hi, Option.bind_some, ix_at h1, Option.bind_some, ix_at h2, Option.bind_some, zjN k (zeo k hr.2) (by omega), Option.bind_some, zgN k ii.1 ii.2, Option.bind_some, zkn k ?_, Option.bind_some]
    ·simp only [List.getD_eq_getElem?_getD, List.getElem?_eq_getElem hi, List.getElem?_eq_getElem h1, List.getElem?_eq_getElem h2, Option.getD_some]
     exact zhO _ _ _
    ·intro y hy
     simp only [List.mem_cons, List.not_mem_nil, or_false] at hy
     rcases hy with rfl | rfl <;> omega
  ·have e1 : (c != chG gr s (bs.flatten ++ im ++ p.Commits)) = true := by simpa using hcc
   rw [e1]; rfl
theorem zii {gr : Group} (k : OkG gr) {s : ByteArray} (hs : s.size ≤ 40) {bs : List (List Int)} {im : List Int} {p : Proof} (hb : LinS gr bs) (hi : im.length = bs.length) (hd : im.all (zaN gr) = true) (hc : p.Commits.length ≤ 1048576) :
 za9 gr s bs im p = some (zg3 gr s bs im p) := by
 have hp := k.p
 have hq := k.q
 unfold za9 zg3
 simp only [hb.hd, zg5 k, zil (gr := gr) (by omega) (by omega), Option.bind_some, zie]
 cases hg : (((p.Commits.length : Int) != (bs.length : Int)) || (((p.Challenges.length : Int) != 1) || (((p.Responses.length : Int) != ((bs.headD []).length : Int)) || (!p.Commits.all (zaN gr) || !p.Responses.all (zec gr))))) with
 | true => rfl
 | false =>
  simp only [Bool.or_eq_false_iff, bne_eq_false_iff_eq, Bool.not_eq_false'] at hg
  obtain ⟨g1, g2, g3, g4, g5⟩ := hg
  have hf := hb.flat
  have hn := hb.n
  obtain ⟨c, hce⟩ : ∃ c, p.Challenges = [c] := by
   match h : p.Challenges, g2 with
   | [c], _ => exact ⟨c, rfl⟩
  have hdig : (bs.flatten ++ im ++ p.Commits).all zaO = true := by
   rw [List.all_append, List.all_append, hb.dig k, zeP k hd, zeP k g4]; rfl
  have hfl : [bs.flatten, im, p.Commits].flatten = bs.flatten ++ im ++ p.Commits := by simp
  have hl : (bs.flatten ++ im ++ p.Commits).length ≤ 80 := by simp only [List.length_append]; omega
  simp only [Bool.false_eq_true, if_false, hce, show ix [c] 0 = some c from rfl, Option.bind_some, zgC bs (by omega), zgC [bs.flatten, im, p.Commits] (by rw [hfl]; omega), hfl]
  rw [zkt k s (by omega), if_pos (zkG k hs (by omega) hdig), Option.bind_some]
  simp only [Bool.not_true, Bool.false_eq_true, if_false, Option.bind_some]
  show _ = some (!false && (!(c != _) && _))
  by_cases hcc : c = chG gr s (bs.flatten ++ im ++ p.Commits)
  ·have e1 : (c != chG gr s (bs.flatten ++ im ++ p.Commits)) = false := by simpa using hcc
   rw [e1, ← hcc]
   simp only [Bool.false_eq_true, if_false, Bool.not_false, Bool.true_and]
   rw [ziS k hb (by omega), Option.bind_some, zha (fun i => !(zcU gr (bs.getD i []) p.Responses 1 != zfu gr [p.Commits.getD i 0, zbg gr (im.getD i 0) c])) false true]
   ·simp only [Bool.if_true_left, Bool.if_false_right, Bool.and_true, Bool.decide_eq_true, Bool.or_false, List.length_map]
    rfl
   ·intro i hi
    have hi' : i < bs.length := by simpa using hi
    have h1 : i < p.Commits.length := by omega
    have h2 : i < im.length := by omega
    have ic := zeo k g4 _ (List.getElem_mem h1)
    have ii := zeo k hd _ (List.getElem_mem h2)
    have pb := zfx k im[i] c
    rw [ix_at hi, Option.bind_some, ix_at h1, Option.bind_some, ix_at h2, Option.bind_some, (zjh k ii.1 ii.2 _).1, Option.bind_some, zhH k ?_, Option.bind_some]
    ·simp only [List.getElem_map, List.getD_eq_getElem?_getD, List.getElem?_eq_getElem hi', List.getElem?_eq_getElem h1, List.getElem?_eq_getElem h2, Option.getD_some]
     exact zhO _ _ _
    ·intro y hy
     simp only [List.mem_cons, List.not_mem_nil, or_false] at hy
     rcases hy with rfl | rfl <;> omega
  ·have e1 : (c != chG gr s (bs.flatten ++ im ++ p.Commits)) = true := by simpa using hcc
   rw [e1]; rfl
theorem zj7 {gr : Group} (k : OkG gr) : zaN gr gr.G = true := by
 have hg := k.g
 simp only [zaN, Bool.and_eq_true, decide_eq_true_eq]
 exact ⟨by omega, k.o⟩
theorem ziY {gr : Group} {x : Int} (h : zaN gr x = true) : LinS gr [[x]] := ⟨by simp, by simp, fun r hr => by
 rw [List.mem_singleton.1 hr]
 simp [h]⟩
def zi9 (gr : Group) (s : ByteArray) (key : Int) (p : Proof) : Bool := zg3 gr s [[gr.G]] [key] p
theorem zi4 {gr : Group} (k : OkG gr) {s : ByteArray} (hs : s.size ≤ 40) {key : Int} (hk : zaN gr key = true) {p : Proof} (hc : p.Commits.length ≤ 1048576) : zcZ gr s key p = some (zi9 gr s key p) ∧ zbE gr s key p = some (zi9 gr s key p) := by
 have hr := ziY (zj7 k)
 have hd : [key].all (zaN gr) = true := by simp [hk]
 unfold zcZ zbE
 rw [zh1 k hs hr rfl hd hc, zii k hs hr rfl hd hc]
 exact ⟨rfl, rfl⟩
def hxS : ByteArray := ⟨#[48, 49, 50, 51, 52, 53, 54, 55, 56, 57, 97, 98, 99, 100, 101, 102]⟩
def hxC (n : Int) : Int := (ixs hxS n).getD 0
theorem zjD {n : Int} (h : 0 ≤ n ∧ n < 16) : ixs hxS n = some (hxC n) := by
 obtain ⟨k, rfl⟩ := Int.eq_ofNat_of_zero_le h.1
 have : ∀ k : Fin 16, ixs hxS (k.val : Int) = some (hxC (k.val : Int)) := by decide
 exact this ⟨k, by omega⟩
def hxD (d : Int) (k : Nat) : Int := d / 16 ^ k % 16
theorem ziD (d : Int) (k : Nat) : 0 ≤ hxD d k ∧ hxD d k < 16 := by unfold hxD; omega
def hxL (d : Int) : List Int := (List.range 16).map fun i => hxC (hxD d (15 - i))
theorem zhS (l : List Int) : (bytesOf l).size = l.length := by
 show ((l.map fun n => UInt8.ofNat n.toNat).toArray).size = _
 simp
def hxT (d : Int) : ByteArray := bytesOf (hxL d)
theorem ze0 (d : Int) : (hxT d).size = 16 := by unfold hxT; rw [zhS]; simp [hxL]
theorem zj3 {d : Int} (h : zaO d = true) : zcr d = some (hxT d, true) := by
 have hd := zbw.1 h
 unfold zcr
 rw [zge, h, Option.bind_some]
 simp only [Bool.not_true, Bool.false_eq_true, if_false]
 rw [gd_t (by omega), Option.bind_some]
 have key := rn_cloop (σ := Int × List Int × Int) (β := List Int) (step := fun s17 =>
  if decide (0 ≤ s17.2.2) = true then (
  (ixs (⟨#[48, 49, 50, 51, 52, 53, 54, 55, 56, 57, 97, 98, 99, 100, 101, 102]⟩ : ByteArray) (s17.1.tmod 16)).bind fun x23 =>
  (ix s17.2.1 s17.2.2).bind fun x24 =>
  some (.go (IntKind.i64.wrap (s17.1.tdiv 16), s17.2.1.set s17.2.2.toNat x23, IntKind.i64.wrap (s17.2.2 - 1)))) else (
  some (.out s17.2.1))) (s0 := (d, List.replicate 16 0, 15)) (φ := fun l => l = hxL d) 16
  (fun j p => p.1 = d / 16 ^ j ∧ p.2.1.length = 16 ∧ p.2.2 = 15 - (j : Int) ∧ ∀ i (h : i < p.2.1.length), 15 < i + j → p.2.1[i] = hxC (hxD d (15 - i))) ⟨by simp, by simp, rfl, fun i h1 h2 => by simp at h1; omega⟩ ?_ ?_
 ·obtain ⟨l, e, rfl⟩ := key
  rw [e]; rfl
 ·rintro j ⟨a, l, c⟩ hj ⟨rfl, h2, rfl, h4⟩
  simp only at h2 h4
  have hp : (0 : Int) < 16 ^ j := Int.pow_pos (by omega)
  have h0 : 0 ≤ d / 16 ^ j := Int.ediv_nonneg hd.1 (by omega)
  have h1 : d / 16 ^ j ≤ d := Int.ediv_le_self _ hd.1
  obtain ⟨i, hi, e1⟩ : ∃ i : Nat, i < 16 ∧ 15 - (j : Int) = (i : Int) := ⟨15 - j, by omega, by omega⟩
  have hil : i < l.length := by omega
  have e2 : (d / 16 ^ j).tmod 16 = hxD d j := Int.tmod_eq_emod_of_nonneg h0
  have e3 : IntKind.i64.wrap ((d / 16 ^ j).tdiv 16) = d / 16 ^ (j + 1) := by
   rw [Int.tdiv_eq_ediv_of_nonneg h0, wr64 (by omega) (by omega), Int.ediv_ediv_of_nonneg (by omega), Int.pow_succ]
  dsimp only
  rw [e1]
  refine rn_t (by simp) (rn_call (by rw [e2]; exact zjD (ziD d j)) (rn_call (ix_at hil) (rn_some ⟨e3, by simpa using h2, ?_, fun t ht h5 => ?_⟩)))
  ·show IntKind.i64.wrap ((i : Int) - 1) = _
   rw [wr64 (by omega) (by omega)]; omega
  ·simp only [Int.toNat_natCast, List.getElem_set]
   split
   ·rename_i e; subst e
    have : 15 - i = j := by omega
    rw [this]
   ·exact h4 t (by simpa using ht) (by omega)
 ·rintro ⟨a, l, c⟩ ⟨rfl, h2, rfl, h4⟩
  simp only at h2 h4
  refine ⟨.out l, rfl, ?_⟩
  refine List.ext_getElem (by simp [hxL, h2]) fun i h5 h6 => ?_
  rw [h4 i h5 (by omega)]
  simp [hxL]
theorem zkK {x : Int} (hx : 0 ≤ x ∧ x ≤ 9223372036854775807) : IntKind.i64.wrap (BitVec.ofInt IntKind.i64.bits x &&& BitVec.ofInt IntKind.i64.bits 15).toNat = x % 16 := by
 obtain ⟨n, rfl⟩ := Int.eq_ofNat_of_zero_le hx.1
 have h1 : (BitVec.ofInt IntKind.i64.bits ((n : Nat) : Int) &&& BitVec.ofInt IntKind.i64.bits 15).toNat = n % 16 := by
  rw [BitVec.toNat_and]
  have a1 : (BitVec.ofInt IntKind.i64.bits (n : Int)).toNat = n := by
   rw [BitVec.toNat_ofInt]
   have : IntKind.i64.bits = 64 := rfl
   rw [this]
   omega
  have a2 : (BitVec.ofInt IntKind.i64.bits 15).toNat = 2 ^ 4 - 1 := by decide
  rw [a1, a2, Nat.and_two_pow_sub_one_eq_mod]
 rw [h1, wr64 (by omega) (by omega)]
 omega
theorem zka {d : Int} (h : zaO d = true) : zct d = some (hxT d, true) := by
 have hd := zbw.1 h
 unfold zct
 rw [ze5, h, Option.bind_some]
 simp only [Bool.not_true, Bool.false_eq_true, if_false]
 refine eq_of_rn (rn_then (ψ := fun l => l = hxL d) (rn_cloop 16 (fun j p => p = ((List.range j).map fun i => hxC (hxD d (15 - i)), 15 - (j : Int))) rfl ?_ ?_) ?_)
 ·rintro j p hj rfl
  obtain ⟨i, hi, e1⟩ : ∃ i : Nat, i < 16 ∧ 15 - (j : Int) = (i : Int) := ⟨15 - j, by omega, by omega⟩
  have ei : 15 - j = i := by omega
  have e4 : (IntKind.u64.wrap (IntKind.i64.wrap (4 * (i : Int)))) = ((4 * i : Nat) : Int) := by
   rw [wr64 (by omega) (by omega), wrU (by omega) (by omega)]; omega
  have hm : min (4 * i) IntKind.i64.bits = 4 * i := Nat.min_eq_left (by show 4 * i ≤ 64; omega)
  have e16 : (2 : Int) ^ (4 * i) = 16 ^ i := by rw [Int.pow_mul]; rfl
  have hp : (0 : Int) < 16 ^ i := Int.pow_pos (by omega)
  have h0 : 0 ≤ d / 16 ^ i := Int.ediv_nonneg hd.1 (by omega)
  have h1 : d / 16 ^ i ≤ d := Int.ediv_le_self _ hd.1
  have ed : d.fdiv (16 ^ i) = d / 16 ^ i := Int.fdiv_eq_ediv_of_nonneg _ (by omega)
  rw [e1]
  refine rn_t (by simp) ?_
  dsimp only
  rw [e4, Int.toNat_natCast, hm, e16, ed, zkK (by omega)]
  refine rn_gd (by omega) (rn_call (zjD (ziD d i)) (rn_gd (by simp; omega) (rn_some ?_)))
  show (_, _) = _
  rw [List.range_succ, List.map_append, wr64 (by omega) (by omega)]
  have e5 : (i : Int) - 1 = 15 - ((j + 1 : Nat) : Int) := by omega
  rw [e5, ← ei]; rfl
 ·rintro p rfl
  exact rn_f rfl (rn_some rfl)
 ·rintro l rfl; exact rn_some rfl
theorem zhn {d : Int} (h : zaO d = true) : zdk d = some (hxT d) := by
 unfold zdk
 rw [zj3 h]; rfl
theorem zfL {s : ByteArray} {d : Int} (hs : s.size ≤ 1000) (h : zaO d = true) : zbB s d = some (s ++ hxT d) := by
 unfold zbB
 rw [zka h, Option.bind_some, gd_t (by rw [ze0]; omega)]
abbrev zfT : ByteArray := ⟨#[104, 101, 97, 100]⟩
abbrev zkF : ByteArray := ⟨#[104, 101, 97, 100, 32]⟩
def zdQ (p : Proof) : Prop := p.Commits.length ≤ 1048576 ∧ p.Challenges.length ≤ 1048576 ∧ p.Responses.length ≤ 1048576
theorem zgO (s : ByteArray) (d : Int) : (s ++ hxT d).size = s.size + 16 := by rw [ByteArray.size_append, ze0]
theorem zdM {α : Type} {l : List α} {i : Int} (h0 : 0 ≤ i) (h : i < l.length) : ix l i = some (l[i.toNat]'(by omega)) := by
 obtain ⟨k, rfl⟩ := Int.eq_ofNat_of_zero_le h0
 exact ix_at (by omega)
def zbc (h : Head) : Bool := inB 0 39 h.Author && (inB 0 64 h.Size && zaO h.Root)
def hdL (h : Head) : ByteArray := zkF ++ hxT (zfO zfT [h.Author, h.Size, h.Root])
theorem zgj (h : Head) : zcz h = some (zbc h) := by
 unfold zcz zbc
 simp only [zf8, zge, Option.bind_some, zhp]
theorem zgm (h : Head) : zbD h.Author h.Size h.Root = some (zbc h) := by
 unfold zbD zbc
 simp only [zeQ, ze5, Option.bind_some, zhp]
def zeA (gr : Group) (key : Int) (h : Head) : Bool := zbc h && zi9 gr (hdL h) key h.Sign
theorem zgX {gr : Group} (k : OkG gr) {key : Int} (hk : zaN gr key = true) {h : Head} (hl : zdQ h.Sign) : zcw gr key h = some (zeA gr key h) ∧ zbs gr key h = some (zeA gr key h) := by
 unfold zcw zbs zeA
 rw [zgj, zgm]
 cases hh : zbc h with
 | false => exact ⟨rfl, rfl⟩
 | true =>
  simp only [zbc, Bool.and_eq_true, zek] at hh
  have hd : [h.Author, h.Size, h.Root].all zaO = true := by
   simp only [List.all_cons, List.all_nil, Bool.and_true, Bool.and_eq_true]
   exact ⟨zbw.2 (by omega), zbw.2 (by omega), hh.2.2⟩
  have hd2 := zez zfT [h.Author, h.Size, h.Root]
  have hs : (hdL h).size ≤ 40 := by unfold hdL; rw [zgO]; decide
  obtain ⟨s1, s2⟩ := zi4 k hs hk hl.1
  have e1 : za6 h = some (hdL h) := by
   unfold za6
   rw [zd2 (s := zfT) (by decide) (by simp) hd, Option.bind_some, zhn hd2, Option.bind_some, gd_t (by rw [ze0]; decide)]
   rfl
  have e2 : zbA h.Author h.Size h.Root = some (hdL h) := by
   unfold zbA
   rw [show zaV (⟨#[104, 101, 97, 100]⟩ : ByteArray) [h.Author, h.Size, h.Root] = some (zfO zfT [h.Author, h.Size, h.Root], true) from by rw [zdX, if_pos (by simp only [zdY, hd, Bool.and_true]; rfl)], Option.bind_some]
   dsimp only
   rw [show zbB (⟨#[104, 101, 97, 100, 32]⟩ : ByteArray) _ = some (hdL h) from zfL (by decide) hd2]; rfl
  simp only [Option.bind_some, if_true, e1, e2, s1, s2, Bool.true_and]
  exact ⟨trivial, trivial⟩
theorem zio {code c0 : List Int} {at_ seed n : Int} (hb : Bt code) (h : Cu code n (c0, at_, seed)) (hn : n ≤ 5000000000000000) : Rn (zbh c0 at_ seed) (fun z => Cu code (n + 4) z.2) := by
 unfold zbh
 refine rn_then (zaF hb h (by omega)) fun z1 ⟨_, _, _, _, y1⟩ => ?_
 refine rn_if (fun _ => rn_then (zc5 hb y1 (by omega) (by simp)) fun z ⟨_, hz⟩ => rn_some (hz.mono (by omega))) fun _ => ?_
 refine rn_then (ψ := fun _ => True) (rn_if (fun _ => rn_some trivial) fun _ => rn_if (fun _ => rn_some trivial) fun _ => rn_some trivial) fun x6 _ => ?_
 refine rn_if (fun _ => ?_) fun _ => rn_then (zaF hb y1 (by omega)) fun z ⟨_, _, _, _, hz⟩ => rn_some (hz.mono (by omega))
 refine rn_then (zaF hb y1 (by omega)) fun z ⟨h0, _, _, h1, hz⟩ => ?_
 exact rn_call (zhv (by simp) (by simp [zaO]; omega)) (rn_some (hz.mono (by omega)))
def zfp (gr : Group) (s : ByteArray) (x w : Int) : Int := chG gr s ([[gr.G]].flatten ++ [zbg gr gr.G x] ++ [zbg gr gr.G w])
def zgV (gr : Group) (s : ByteArray) (x w : Int) : Proof := ⟨[zbg gr gr.G w], [zfp gr s x w], [(w + zfp gr s x w * x) % gr.Q]⟩
structure Gb (gr : Group) : Prop where
 p : 1 ≤ gr.P ∧ gr.P ≤ 2000000000
 q : 1 ≤ gr.Q ∧ gr.Q ≤ 2000000000
 g : 0 ≤ gr.G ∧ gr.G ≤ 2000000000
theorem OkG.gb {gr : Group} (k : OkG gr) : Gb gr := by
 have hp := k.p
 have hq := k.q
 have hg := k.g
 exact ⟨by omega, by omega, by omega⟩
theorem zgR {gr : Group} (k : Gb gr) (x e : Int) : 0 ≤ zbg gr x e ∧ zbg gr x e ≤ gr.P - 1 := by
 have hp := k.p
 unfold zbg
 have := Nat.mod_lt (x.toNat ^ (e % gr.Q).toNat) (show 0 < gr.P.toNat by omega)
 omega
theorem zkb {gr : Group} (k : Gb gr) {x : Int} (h0 : 0 ≤ x) (h1 : x ≤ 2000000000) (e : Int) : zaE gr x e = some (zbg gr x e) := by
 have hp := k.p
 have hq := k.q
 have b1 := Int.emod_nonneg e (show gr.Q ≠ 0 by omega)
 have b2 := Int.emod_lt_of_pos e (show 0 < gr.Q by omega)
 unfold zaE
 rw [zgb (by omega) hq.2, Option.bind_some, (zdx h0 h1 hp.1 hp.2 b1 (by omega)).2]; rfl
theorem ziQ {gr : Group} (k : Gb gr) (w : Int) : zbP gr [gr.G] [w] = some (zbg gr gr.G w) := by
 have hp := k.p
 have hg := k.g
 have hb := zgR k gr.G w
 unfold zbP
 refine eq_of_rn (rn_then (ψ := fun s => s = zbg gr gr.G w) (rn_rloop (fun i s => s = if i = 0 then 1 else zbg gr gr.G w) rfl ?_ fun s h => h) fun s h => rn_some h)
 rintro i s hi rfl
 have hi : i < 1 := hi
 obtain rfl : i = 0 := by omega
 refine rn_ix (l := [gr.G]) (by simp) (rn_ix (l := [w]) (by simp) (rn_call (zkb k hg.1 hg.2 _) (rn_gd (by omega) (rn_some ?_))))
 show (IntKind.i64.wrap (1 * zbg gr gr.G w)).tmod gr.P = zbg gr gr.G w
 rw [Int.one_mul, wr64 (by omega) (by omega), Int.tmod_eq_emod_of_nonneg hb.1, Int.emod_eq_of_lt hb.1 (by omega)]
theorem zgy {gr : Group} (k : Gb gr) (w : Int) : zcy gr [[gr.G]] [w] = some [zbg gr gr.G w] := by
 unfold zcy
 rw [zhW (l := [[gr.G]]) (f := fun _ => zbg gr gr.G w) []]
 ·rfl
 ·intro i hi s hs
  have hi : i < 1 := hi
  obtain rfl : i = 0 := by omega
  rw [ix_at (l := [[gr.G]]) (k := 0) (by simp), Option.bind_some]
  show (zbP gr [gr.G] [w]).bind _ = _
  rw [ziQ k, Option.bind_some, gd_t (by have := hs; simp only [List.length_nil] at this; omega)]
theorem zkE {gr : Group} (k : Gb gr) (x w : Int) : ([gr.P, gr.Q, gr.G] ++ ([[gr.G]].flatten ++ [zbg gr gr.G x] ++ [zbg gr gr.G w])).all zaO = true := by
 have hp := k.p
 have hq := k.q
 have hg := k.g
 have b1 := zgR k gr.G x
 have b2 := zgR k gr.G w
 simp [zaO]; omega
theorem zj4 {gr : Group} (k : Gb gr) (s : ByteArray) (x w : Int) : 0 ≤ zfp gr s x w ∧ zfp gr s x w < gr.Q := by
 have hq := k.q
 exact ⟨Int.emod_nonneg _ (by omega), Int.emod_lt_of_pos _ (by omega)⟩
theorem zjP {gr : Group} (k : Gb gr) {s : ByteArray} (hs : s.size ≤ 1000) {x w : Int} (hx : 0 ≤ x ∧ x ≤ 2100000000) (hw : 0 ≤ w ∧ w ≤ 2100000000) : zdh gr s x w = some (zgV gr s x w) := by
 have hq := k.q
 have he := zj4 k s x w
 have hc : za7 gr s ([[gr.G]].flatten ++ [zbg gr gr.G x] ++ [zbg gr gr.G w]) = some (zfp gr s x w) := by
  unfold za7
  rw [gd_t (by simp), zd2 (by omega) (by simp) (zkE k x w), Option.bind_some, gd_t (by omega), Int.tmod_eq_emod_of_nonneg (zbw.1 (zez s _)).1]; rfl
 unfold zdh zdB
 rw [show zgV gr s x w = ⟨[zbg gr gr.G w], [zfp gr s x w], [(w + zfp gr s x w * x) % gr.Q]⟩ from rfl]
 rw [zgy k, zgy k, Option.bind_some, Option.bind_some, zig (by simp) (by simp) (by simp), Option.bind_some, hc, Option.bind_some]
 generalize zfp gr s x w = c at he hc
 have hm : 0 ≤ c * x := Int.mul_nonneg he.1 hx.1
 have hm2 : c * x ≤ 2000000000 * 2100000000 := Int.mul_le_mul (by omega) hx.2 hx.1 (by omega)
 have hl : rloop (σ := List Int × List Int × List Int) (β := List Int × List Int × List Int) (fun i18 s17 => (ix [x] i18).bind fun x24 => (ix [w] i18).bind fun x25 => gd (gr.Q ≠ 0) <| gd ((s17.2.2.length + 1) * 8 ≤ 140737488355328 ∧ s17.2.2.length + 1 ≤ 4611686018427387904) <|
  some (.go (s17.1, s17.2.1, s17.2.2 ++ [(IntKind.i64.wrap (x25 + (IntKind.i64.wrap (c * x24)))).tmod gr.Q]))) (fun s17 => (s17.1, s17.2.1, s17.2.2)) ([x].length) 0 ([zbg gr gr.G w], [c], []) = some ([zbg gr gr.G w], [c], [(w + c * x) % gr.Q]) := by
  refine eq_of_rn (rn_rloop (fun i s => s = if i = 0 then ([zbg gr gr.G w], [c], []) else ([zbg gr gr.G w], [c], [(w + c * x) % gr.Q])) rfl ?_ fun s h => h)
  rintro i s hi rfl
  have hi : i < 1 := hi
  obtain rfl : i = 0 := by omega
  refine rn_ix (l := [x]) (by simp) (rn_ix (l := [w]) (by simp) (rn_gd (by omega) (rn_gd (by simp) (rn_some ?_))))
  show (_, _, [(IntKind.i64.wrap (w + IntKind.i64.wrap (c * x))).tmod gr.Q]) = _
  rw [wr64 (n := c * x) (by omega) (by omega), wr64 (by omega) (by omega), Int.tmod_eq_emod_of_nonneg (by omega)]; rfl
 rw [hl, Option.bind_some, Option.bind_some]
def SmP (p : Proof) : Prop := p.Commits.length ≤ 1001 ∧ p.Challenges.length ≤ 1001 ∧ p.Responses.length ≤ 1001
theorem zjl {p : Proof} (h : SmP p) : zdQ p := ⟨by have := h.1; omega, by have := h.2.1; omega, by have := h.2.2; omega⟩
theorem ziH {code c0 : List Int} {at_ seed n : Int} {gr : Group} {p : Proof} (hb : Bt code) (h : Cu code n (c0, at_, seed)) (hn : n ≤ 3000000000000000) (k : Gw gr) (hp : p.Commits.length ≤ 1000 ∧ p.Challenges.length ≤ 1000 ∧ p.Responses.length ≤ 1000) :
 Rn (zaS c0 at_ seed gr p) (fun z => SmP z.1 ∧ Cu code (n + 12) z.2) := by
 unfold zaS
 rw [zen (l := p.Commits) (by omega), zen (l := p.Challenges) (by omega), zen (l := p.Responses) (by omega)]
 simp only [Option.bind_some]
 refine rn_then (zaF hb h (by omega)) fun z1 ⟨_, _, _, _, y1⟩ => ?_
 have sp : SmP p := ⟨by omega, by omega, by omega⟩
 have pk : ∀ l : List Int, 0 < l.length → Rn (zac z1.2.1 z1.2.2.1 z1.2.2.2 (l.length : Int)) (fun z => (∃ i : Nat, z.1 = (i : Int) ∧ i < l.length) ∧ Cu code (n + 4) z.2) := fun l hl => by
  obtain ⟨v, v1, w0, w1, w2, _, w3⟩ := zaF (m := (l.length : Int)) hb y1 (by omega)
  obtain ⟨i, hi⟩ := Int.eq_ofNat_of_zero_le w0
  refine ⟨v, v1, ⟨i, hi, ?_⟩, w3.mono (by omega)⟩
  rcases Int.lt_or_le 1 (l.length : Int) with g | g
  ·have := w2 g; omega
  ·have := w1 g; omega
 refine rn_then (ψ := fun x => match x with | .inl v => SmP ⟨v.2.1, v.2.2.1, v.2.2.2⟩ ∧ Cu code (n + 12) v.1 | .inr v => SmP v.1 ∧ Cu code (n + 12) v.2) ?_ ?_
 ·refine rn_if (fun _ => rn_if (fun g => ?_) fun _ => rn_some ⟨sp, y1.mono (by omega)⟩) fun _ => ?_
  ·have g : 0 < p.Responses.length := by simpa using g
   refine rn_then (pk _ g) fun z2 ⟨⟨i, e, hi⟩, y2⟩ => ?_
   refine rn_then (zgB hb y2 (by omega) k) fun z3 ⟨_, _, y3⟩ => ?_
   rw [e]
   exact rn_ix hi (rn_some ⟨⟨by show p.Commits.length ≤ 1001; omega, by show p.Challenges.length ≤ 1001; omega, by show (p.Responses.set _ _).length ≤ 1001; simp; omega⟩, y3.mono (by omega)⟩)
  refine rn_if (fun _ => rn_if (fun g => ?_) fun _ => rn_some ⟨sp, y1.mono (by omega)⟩) fun _ => ?_
  ·have g : 0 < p.Commits.length := by simpa using g
   refine rn_then (pk _ g) fun z2 ⟨⟨i, e, hi⟩, y2⟩ => ?_
   refine rn_then (zfv hb y2 (by omega) k) fun z3 ⟨_, _, y3⟩ => ?_
   rw [e]
   exact rn_ix hi (rn_some ⟨⟨by show (p.Commits.set _ _).length ≤ 1001; simp; omega, by show p.Challenges.length ≤ 1001; omega, by show p.Responses.length ≤ 1001; omega⟩, y3.mono (by omega)⟩)
  refine rn_if (fun _ => rn_if (fun g => ?_) fun _ => rn_some ⟨sp, y1.mono (by omega)⟩) fun _ => ?_
  ·have g : 0 < p.Challenges.length := by simpa using g
   refine rn_then (pk _ g) fun z2 ⟨⟨i, e, hi⟩, y2⟩ => ?_
   refine rn_then (zgB hb y2 (by omega) k) fun z3 ⟨_, _, y3⟩ => ?_
   rw [e]
   exact rn_ix hi (rn_some ⟨⟨by show p.Commits.length ≤ 1001; omega, by show (p.Challenges.set _ _).length ≤ 1001; simp; omega, by show p.Responses.length ≤ 1001; omega⟩, y3.mono (by omega)⟩)
  refine rn_if (fun _ => rn_gd (by omega) (rn_some ⟨⟨by show p.Commits.length ≤ 1001; omega, by show p.Challenges.length ≤ 1001; omega, by show (p.Responses ++ [0]).length ≤ 1001; simp; omega⟩, y1.mono (by omega)⟩)) fun _ => ?_
  exact rn_if (fun _ => rn_some ⟨⟨by simp, by simp, by simp⟩, y1.mono (by omega)⟩) fun _ => rn_some ⟨sp, y1.mono (by omega)⟩
 ·intro x hx
  cases x with
  | inl v => exact rn_some hx
  | inr v => exact rn_some hx
theorem zkm {p : Proof} (h : zdQ p) : zcE p = some p := by
 unfold zcE
 rw [zen h.1, zen h.2.1, zen h.2.2]; rfl
def zeH (p q : Proof) : Bool := decide (p.Commits = q.Commits) && (decide (p.Challenges = q.Challenges) && decide (p.Responses = q.Responses))
theorem zi5 (p q : Proof) : zcH p q = some (zeH p q) := by
 unfold zcH zeH
 rw [zgl, zgl, zgl]
 cases decide (p.Commits = q.Commits) <;> cases decide (p.Challenges = q.Challenges) <;> cases decide (p.Responses = q.Responses) <;> rfl
theorem ziT {p : Proof} (q : Proof) (h : zdQ p) : zcq p q = some (zeH p q) := by
 unfold zcq zeH
 rw [zfP _ _ h.1, zfP _ _ h.2.1, zfP _ _ h.2.2]
 cases decide (p.Commits = q.Commits) <;> cases decide (p.Challenges = q.Challenges) <;> cases decide (p.Responses = q.Responses) <;> rfl
theorem zj0 {p : Proof} (h : zdQ p) : zcC p = some p := by
 unfold zcC
 rw [zgt h.1, zgt h.2.1, zgt h.2.2]; rfl
theorem zi3 {l : List Int} : zcO l l = some true := by
 unfold zcO
 refine eq_of_rn (rn_f (by simp) (rn_then (ψ := fun v => v = .inl ()) (rn_rloop (fun _ _ => True) trivial ?_ fun s _ => rfl) ?_))
 ·rintro k s hk _
  exact rn_ix hk (rn_ix hk (rn_f (by simp) (rn_some trivial)))
 ·rintro _ rfl
  exact rn_some rfl
theorem zhZ {h : Head} (hh : zbc h = true) : za6 h = some (hdL h) ∧ zbA h.Author h.Size h.Root = some (hdL h) ∧ (hdL h).size ≤ 40 := by
 simp only [zbc, Bool.and_eq_true, zek] at hh
 have hd : [h.Author, h.Size, h.Root].all zaO = true := by
  simp only [List.all_cons, List.all_nil, Bool.and_true, Bool.and_eq_true]
  exact ⟨zbw.2 (by omega), zbw.2 (by omega), hh.2.2⟩
 have hd2 := zez zfT [h.Author, h.Size, h.Root]
 have hs : (hdL h).size ≤ 40 := by unfold hdL; rw [zgO]; decide
 refine ⟨?_, ?_, hs⟩
 ·unfold za6
  rw [zd2 (s := zfT) (by decide) (by simp) hd, Option.bind_some, zhn hd2, Option.bind_some, gd_t (by rw [ze0]; decide)]
  rfl
 ·unfold zbA
  rw [show zaV (⟨#[104, 101, 97, 100]⟩ : ByteArray) [h.Author, h.Size, h.Root] = some (zfO zfT [h.Author, h.Size, h.Root], true) from by rw [zdX, if_pos (by simp only [zdY, hd, Bool.and_true]; rfl)], Option.bind_some]
  dsimp only
  rw [show zbB (⟨#[104, 101, 97, 100, 32]⟩ : ByteArray) _ = some (hdL h) from zfL (by decide) hd2]; rfl
theorem zi0 (gr : Group) (x a s r w : Int) : ∃ h t, zcQ gr x a s r w = some (h, t) ∧ (h.Sign.Commits.length ≤ 1000 ∧ h.Sign.Challenges.length ≤ 1000 ∧ h.Sign.Responses.length ≤ 1000) := by
 unfold zcQ
 rw [zfN, zgj]
 cases hg : okG gr with
 | false => exact ⟨_, _, rfl, by simp, by simp, by simp⟩
 | true =>
  have k := zfz.1 hg
  have hq := k.q
  have hp := k.p
  have ea : zcB gr [x, w] = some (zec gr x && zec gr w) := by rw [zhw (gr := gr) (by omega) (by omega)]; simp
  simp only [Option.bind_some, Bool.not_true, Bool.false_eq_true, if_false, ea]
  cases hx : (zec gr x && zec gr w) with
  | false => exact ⟨_, _, rfl, by simp, by simp, by simp⟩
  | true =>
   rw [Bool.and_eq_true] at hx
   have hx1 := hx.1
   have hx2 := hx.2
   simp only [zec, Bool.and_eq_true, decide_eq_true_eq] at hx1 hx2
   cases hh : zbc ⟨a, s, r, ⟨[], [], []⟩⟩ with
   | false => exact ⟨_, _, rfl, by simp, by simp, by simp⟩
   | true =>
    obtain ⟨e1, _, e3⟩ := zhZ hh
    simp only [Bool.not_true, Bool.false_eq_true, if_false, Option.bind_some, e1, zjP k.gb (x := x) (w := w) (Nat.le_trans e3 (by decide)) ⟨hx1.1, by omega⟩ ⟨hx2.1, by omega⟩]
    exact ⟨_, _, rfl, by simp [zgV], by simp [zgV], by simp [zgV]⟩
theorem ziL {code c0 : List Int} {at_ seed n : Int} {gr : Group} {h : Head} (hb : Bt code) (hc : Cu code n (c0, at_, seed)) (hn : n ≤ 2000000000000000) (k : Gw gr) (hp : h.Sign.Commits.length ≤ 1000 ∧ h.Sign.Challenges.length ≤ 1000 ∧ h.Sign.Responses.length ≤ 1000) :
 Rn (zaY c0 at_ seed gr h) (fun z => SmP z.1.Sign ∧ Cu code (n + 20) z.2) := by
 unfold zaY
 refine rn_then (zaF hb hc (by omega)) fun z1 ⟨_, _, _, _, y1⟩ => ?_
 have sp : SmP h.Sign := ⟨by omega, by omega, by omega⟩
 refine rn_then (ψ := fun v => SmP ⟨v.2.2.2.2.1, v.2.2.2.2.2.1, v.2.2.2.2.2.2⟩ ∧ Cu code (n + 20) v.1) ?_ fun v hv => rn_some hv
 refine rn_if (fun _ => rn_some ⟨sp, y1.mono (by omega)⟩) fun _ => ?_
 refine rn_if (fun _ => rn_then (zio hb y1 (by omega)) fun z2 y2 => rn_some ⟨sp, y2.mono (by omega)⟩) fun _ => ?_
 refine rn_if (fun _ => rn_then (ziH hb y1 (by omega) k hp) fun z2 ⟨s2, y2⟩ => rn_some ⟨s2, y2.mono (by omega)⟩) fun _ => ?_
 refine rn_if (fun _ => rn_then (zaF hb y1 (by omega)) fun z2 ⟨_, _, _, _, y2⟩ => rn_some ⟨sp, y2.mono (by omega)⟩) fun _ => ?_
 exact rn_some ⟨sp, y1.mono (by omega)⟩
theorem zhz {l : List Head} : zc6 l = some (l.all zbc && decide ((l.length : Int) ≤ 20)) ∧ zcP l = some (decide ((l.length : Int) ≤ 20) && l.all zbc) := by
 constructor
 ·unfold zc6
  rw [zha (fun i => zbc (l.getD i ⟨0, 0, 0, ⟨[], [], []⟩⟩)) false (decide ((l.length : Int) ≤ 20))]
  ·have e : ((List.range l.length).all fun i => zbc (l.getD i ⟨0, 0, 0, ⟨[], [], []⟩⟩)) = l.all zbc := by
    rw [Bool.eq_iff_iff, List.all_eq_true, List.all_eq_true]
    constructor
    ·intro h x hx
     obtain ⟨i, hi, rfl⟩ := List.getElem_of_mem hx
     have := h i (List.mem_range.2 hi)
     simpa [hi] using this
    ·intro h i hi
     have hi := List.mem_range.1 hi
     have := h _ (List.getElem_mem hi)
     simpa [hi] using this
   rw [e]
   cases l.all zbc <;> simp
  ·intro i hi
   rw [ix_at hi, Option.bind_some, zgj, Option.bind_some]
   simp only [List.getD_eq_getElem?_getD, List.getElem?_eq_getElem hi, Option.getD_some]
   cases zbc l[i] <;> rfl
 ·unfold zcP zal zan
  have hf : ∀ x ∈ l, zcs x = some (!zbc x) := fun x _ => by
   unfold zcs zaU
   rw [zgm]; rfl
  rw [zf3 hf]
  have e : (!l.any fun x => !zbc x) = l.all zbc := by simp [List.any_eq_not_all_not]
  cases decide ((l.length : Int) ≤ 20) with
  | false => rfl
  | true =>
   show some (!l.any fun x => !zbc x) = _
   rw [e]; simp
theorem Gb.w {gr : Group} (k : Gb gr) : Gw gr := by
 have a := k.p
 have b := k.q
 have c := k.g
 exact ⟨by omega, by omega, by omega⟩
def zdm (x y : Head) : Bool := (x.Author == y.Author) && ((x.Size == y.Size) && ((x.Root == y.Root) && zeH x.Sign y.Sign))
theorem zj5 {x y : Head} : zdm x y = true ↔ x = y := by
 obtain ⟨a, b, c, ⟨d, e, f⟩⟩ := x
 obtain ⟨a', b', c', ⟨d', e', f'⟩⟩ := y
 simp [zdm, zeH]
def zd0 (o : List Head) (h : Head) : List Head := if (o.any fun x => zdm x h) = true then o else o ++ [h]
def mrg (a b : List Head) : List Head := b.foldl zd0 a
theorem ziV {o : List Head} {h x : Head} : x ∈ zd0 o h ↔ x ∈ o ∨ x = h := by
 unfold zd0
 split
 ·rename_i e
  obtain ⟨y, hy, hs⟩ := List.any_eq_true.1 e
  have := zj5.1 hs
  subst this
  constructor
  ·exact .inl
  ·rintro (h | rfl)
   ·exact h
   ·exact hy
 ·simp
theorem ziZ (o : List Head) (h : Head) : o.length ≤ (zd0 o h).length ∧ (zd0 o h).length ≤ o.length + 1 := by
 unfold zd0
 split
 ·omega
 ·simp
theorem zgn : ∀ {b a : List Head} {x : Head}, x ∈ mrg a b ↔ x ∈ a ∨ x ∈ b
 | [], a, x => by simp [mrg]
 | h :: b, a, x => by
  show x ∈ mrg (zd0 a h) b ↔ _
  rw [zgn, ziV]
  simp [or_assoc]
theorem zeX : ∀ (b a : List Head), a.length ≤ (mrg a b).length ∧ (mrg a b).length ≤ a.length + b.length
 | [], a => by simp [mrg]
 | h :: b, a => by
  have h1 := ziZ a h
  have h2 := zeX b (zd0 a h)
  show a.length ≤ (mrg (zd0 a h) b).length ∧ (mrg (zd0 a h) b).length ≤ a.length + (b.length + 1)
  omega
theorem zgZ {a b : List Head} {i : Nat} (h : i < b.length) : mrg a (b.take (i + 1)) = zd0 (mrg a (b.take i)) b[i] := by
 unfold mrg
 rw [List.take_succ_eq_append_getElem h, List.foldl_append]; rfl
noncomputable def fkB (gr : Group) (ks : List Int) (a b : Head) : Bool := (a.Author == b.Author) && ((a.Size == b.Size) && (!(a.Root == b.Root) && (inB 0 ((ks.length : Int) - 1) a.Author && (zeA gr (ks.getD a.Author.toNat 0) a && zeA gr (ks.getD a.Author.toNat 0) b))))
theorem zhC {gr : Group} {key : Int} {h : Head} (e : zeA gr key h = true) : zbc h = true := by
 unfold zeA at e
 rw [Bool.and_eq_true] at e
 exact e.1
def hd0 : Head := ⟨0, 0, 0, ⟨[], [], []⟩⟩
noncomputable def fkP (gr : Group) (ks : List Int) (l : List Head) (i j : Nat) : Bool := fkB gr ks (l.getD i hd0) (l.getD j hd0)
def zhQ (gr : Group) (ks : List Int) (l : List Head) : Prop := ∃ i j, i < j ∧ j < l.length ∧ fkP gr ks l i j = true
def FF (gr : Group) (ks : List Int) (l : List Head) (z : ForkEvidence × Bool) : Prop := (z.2 = true ∧ zhQ gr ks l ∧ ∃ i j, i < j ∧ j < l.length ∧ fkP gr ks l i j = true ∧ z.1 = ⟨l.getD i hd0, l.getD j hd0⟩) ∨ (z.2 = false ∧ ¬ zhQ gr ks l)
theorem zjb (x : Head) : zaU x = some (zbc x) := by
 unfold zaU
 rw [zgm]; rfl
theorem zg9 {gr : Group} (k : OkG gr) {ks : List Int} (hk : ks.all (zaN gr) = true) (hl : ks.length ≤ 40) {a b : Head} (ha : zdQ a.Sign) (hb : zdQ b.Sign) : zb0 gr ks a b = some (fkB gr ks a b) ∧ zb3 gr ks ⟨a, b⟩ = some (fkB gr ks a b) := by
 have w : IntKind.i64.wrap ((ks.length : Int) - 1) = (ks.length : Int) - 1 := wr64 (by omega) (by omega)
 unfold zb0 zb3 fkB
 simp only [zjb, zeQ, zf8, w, Option.bind_some]
 cases e1 : (a.Author == b.Author) with
 | false =>
  constructor
  ·cases zbc a <;> cases zbc b <;> rfl
  ·simp [bne, e1]
 | true =>
  have e1' : b.Author = a.Author := by
   rw [beq_iff_eq] at e1; exact e1.symm
  cases e2 : (a.Size == b.Size) with
  | false =>
   constructor
   ·cases zbc a <;> cases zbc b <;> cases inB 0 ((ks.length : Int) - 1) a.Author <;> rfl
   ·simp [bne, e1, e2]
  | true =>
   cases e3 : (a.Root == b.Root) with
   | true =>
    constructor
    ·cases zbc a <;> cases zbc b <;> cases inB 0 ((ks.length : Int) - 1) a.Author <;> simp [bne, e3]
    ·simp [bne, e1, e2]
   | false =>
    cases e4 : inB 0 ((ks.length : Int) - 1) a.Author with
    | false =>
     constructor
     ·cases zbc a <;> cases zbc b <;> rfl
     ·simp [bne, e1, e2]
    | true =>
     have e4' := zek.1 e4
     have hal : a.Author.toNat < ks.length := by omega
     have hx := List.all_eq_true.1 hk _ (List.getElem_mem hal)
     obtain ⟨s1, s2⟩ := zgX k hx ha
     obtain ⟨t1, t2⟩ := zgX k hx hb
     have eg : ks.getD a.Author.toNat 0 = ks[a.Author.toNat] := by simp [hal]
     rw [eg]
     have ei : ix ks a.Author = some ks[a.Author.toNat] := zdM e4'.1 (by omega)
     constructor
     ·simp only [bne, e3, Bool.not_false, if_true, ei, Option.bind_some, s2, t2, Bool.true_and]
      cases h1 : zeA gr ks[a.Author.toNat] a with
      | false => cases zbc a <;> cases zbc b <;> rfl
      | true =>
       rw [zhC h1]
       cases h2 : zeA gr ks[a.Author.toNat] b with
       | false => cases zbc b <;> rfl
       | true => rw [zhC h2]; rfl
     ·simp only [bne, e1, e2, e1', Bool.not_true, Bool.false_eq_true, if_false, ei, Option.bind_some, s1, t1, Bool.true_and, Bool.not_false]
      cases h1 : zeA gr ks[a.Author.toNat] a <;> cases h2 : zeA gr ks[a.Author.toNat] b <;> simp
theorem zhc {gr : Group} {ks : List Int} {l : List Head} {E : Head → Head → Option Bool} {C : Head → Option Head} (hE : ∀ a ∈ l, ∀ b ∈ l, E a b = some (fkB gr ks a b)) (hC : ∀ a ∈ l, C a = some a) (hn : l.length ≤ 1000) :
 Rn ((rloop (σ := Unit) (fun i5 s4 => (((ix l i5).bind fun x14 => gd (0 ≤ (IntKind.i64.wrap (i5 + 1))) <| gd ((IntKind.i64.wrap (i5 + 1)).toNat ≤ l.length ∧ l.length ≤ l.length) <|
  rloop (σ := Unit) (fun i16 s15 => (ix ((l.take l.length).drop ((IntKind.i64.wrap (i5 + 1)).toNat)) i16).bind fun x22 => (E x14 x22).bind fun z23 => if z23 = true then ((C x14).bind fun z25 => (C x22).bind fun z26 => some (.out (.inr (.out (.inr ((ForkEvidence.mk z25 z26), true)))))) else (some (.go ())))
   (fun s15 => .inl ()) (((l.take l.length).drop ((IntKind.i64.wrap (i5 + 1)).toNat)).length) 0 () : Option (Unit ⊕ (Stp Unit (Unit ⊕ (ForkEvidence × Bool))))).bind (Sum.elim (fun x13 => some (.go ())) some))) (fun s4 => .inl ()) (l.length) 0 () : Option (Unit ⊕ (ForkEvidence × Bool))).bind
  (Sum.elim (fun x3 => some ((ForkEvidence.mk (Head.mk 0 0 0 (Proof.mk [] [] [])) (Head.mk 0 0 0 (Proof.mk [] [] []))), false)) some)) (FF gr ks l) := by
 have gt : ∀ i (hi : i < l.length), l.getD i hd0 = l[i] := fun i hi => by simp [hi]
 refine rn_then (ψ := fun v => match v with | .inl _ => ¬ zhQ gr ks l | .inr z => FF gr ks l z) (rn_rloop (fun i _ => ∀ p, p < i → ∀ q, p < q → q < l.length → fkP gr ks l p q = false) (fun p hp => by omega) ?_ ?_) ?_
 ·rintro i s hi hI
  rw [wr64 (n := (i : Int) + 1) (by omega) (by omega), List.take_length, show ((i : Int) + 1).toNat = i + 1 by omega]
  have hm := List.getElem_mem hi
  refine rn_then (ψ := fun v => match v with | .inl _ => ∀ q, i < q → q < l.length → fkP gr ks l i q = false | .inr w => ∃ z, w = .out (.inr z) ∧ FF gr ks l z) (rn_ix hi (rn_gd (by omega) (rn_gd (by omega) (rn_rloop (fun j _ => ∀ q, i < q → q < i + 1 + j → fkP gr ks l i q = false) (fun q h1 h2 => by omega) ?_ ?_)))) ?_
  ·rintro j s hj hJ
   rw [List.length_drop] at hj
   have hij : i + 1 + j < l.length := by omega
   have e : (l.drop (i + 1))[j]'(by rw [List.length_drop]; omega) = l[i + 1 + j] := by simp
   refine rn_ix (by rw [List.length_drop]; omega) ?_
   rw [e]
   have hm2 := List.getElem_mem hij
   have hp : fkP gr ks l i (i + 1 + j) = fkB gr ks l[i] l[i + 1 + j] := by unfold fkP; rw [gt i hi, gt _ hij]
   refine rn_call (hE _ hm _ hm2) (rn_if (fun g => ?_) fun g => rn_some fun q h1 h2 => ?_)
   ·rw [← hp] at g
    refine rn_call (hC _ hm) (rn_call (hC _ hm2) (rn_some ⟨_, rfl, .inl ⟨rfl, ⟨i, i + 1 + j, by omega, hij, g⟩, i, i + 1 + j, by omega, hij, g, ?_⟩⟩))
    rw [gt i hi, gt _ hij]
   ·rcases Nat.lt_or_ge q (i + 1 + j) with h | h
    ·exact hJ q h1 h
    ·rw [show q = i + 1 + j by omega, hp]; exact g
  ·intro s hJ q h1 h2
   rw [List.length_drop] at hJ
   exact hJ q h1 (by omega)
  ·rintro v hv
   cases v with
   | inl u =>
    refine rn_some fun p hp q h1 h2 => ?_
    rcases Nat.lt_or_ge p i with h | h
    ·exact hI p h q h1 h2
    ·rw [show p = i by omega] at h1 ⊢
     exact hv q h1 h2
   | inr w =>
    obtain ⟨z, rfl, hz⟩ := hv
    exact rn_some hz
 ·rintro s hI ⟨i, j, h1, h2, h3⟩
  rw [hI i (by omega) j h1 h2] at h3
  cases h3
 ·rintro v hv
  cases v with
  | inl u => exact rn_some (.inr ⟨rfl, hv⟩)
  | inr z => exact rn_some hv
def SmH (l : List Head) : Prop := ∀ h ∈ l, zdQ h.Sign
theorem zgp {h : Head} (hh : zdQ h.Sign) : zbr h = some h := by
 unfold zbr
 rw [zj0 hh]; rfl
theorem zg6 {h : Head} (hh : zdQ h.Sign) : zcu h = some h := by
 unfold zcu
 rw [zkm hh]; rfl
theorem zj9 {gr : Group} (k : OkG gr) (ks : List Int) : zbN gr ks = some (decide ((ks.length : Int) ≤ 40) && ks.all (zaN gr)) := by
 unfold zbN
 rw [zg5 k]
 cases decide ((ks.length : Int) ≤ 40) <;> rfl
theorem zjR (gr : Group) (ks : List Int) : zdj gr ks = some (okG gr && (decide ((ks.length : Int) ≤ 40) && ks.all (zaN gr))) := by
 unfold zdj
 rw [zfN]
 cases hg : okG gr with
 | false => rfl
 | true =>
  rw [zjc (zfz.1 hg)]
  cases decide ((ks.length : Int) ≤ 40) <;> rfl
theorem zi8 (x h : Head) : zbL x h.Author h.Size h.Root h.Sign.Commits h.Sign.Challenges h.Sign.Responses = some (zdm x h) := by
 unfold zbL zdc zdm
 rw [show (⟨h.Sign.Commits, h.Sign.Challenges, h.Sign.Responses⟩ : Proof) = h.Sign from rfl, zi5]
 cases (x.Author == h.Author) <;> cases (x.Size == h.Size) <;> cases (x.Root == h.Root) <;> cases zeH x.Sign h.Sign <;> rfl
theorem zi1 {x : Head} (h : Head) (hx : zdQ x.Sign) : zdi x h = some (zdm x h) := by
 unfold zdi zdm
 rw [ziT _ hx]
 cases (x.Author == h.Author) <;> cases (x.Size == h.Size) <;> cases (x.Root == h.Root) <;> cases zeH x.Sign h.Sign <;> rfl
theorem zfQ {a b : List Head} (ha : SmH a) (hb : SmH b) (la : a.length ≤ 1000) (lb : b.length ≤ 1000) : zbn a b = some (if 20 < (mrg a b).length then ([], false) else (mrg a b, true)) := by
 unfold zbn
 refine eq_of_rn (rn_then (ψ := fun s => a = s) (rn_rloop (fun i s => s = a.take i) (by simp) ?_ ?_) ?_)
 ·rintro i s hi rfl
  refine rn_ix hi (rn_call (zgp (ha _ (List.getElem_mem hi))) (rn_gd (by simp; omega) (rn_some ?_)))
  show _ = _
  rw [List.take_succ_eq_append_getElem hi]
 ·rintro s rfl
  exact List.take_length.symm
 ·rintro _ rfl
  refine rn_then (ψ := fun s => s = mrg a b) (rn_rloop (fun i s => s = mrg a (b.take i)) (by simp [mrg]) ?_ ?_) ?_
  ·rintro i s hi rfl
   have hlen := (zeX (b.take i) a).2
   have htl : (b.take i).length ≤ b.length := by simp; omega
   have hcf : zaj (mrg a (b.take i)) b[i].Author b[i].Size b[i].Root b[i].Sign.Commits b[i].Sign.Challenges b[i].Sign.Responses = some ((mrg a (b.take i)).any fun x => zdm x b[i]) := zf3 fun x _ => zi8 x b[i]
   refine rn_then (ψ := fun v => v = mrg a (b.take (i + 1))) (rn_ix hi (rn_call hcf ?_)) fun v hv => rn_some hv
   rw [zgZ hi]
   unfold zd0
   cases hh : ((mrg a (b.take i)).any fun x => zdm x b[i]) with
   | true => exact rn_f rfl (rn_some (by simp))
   | false => exact rn_t rfl (rn_call (zgp (hb _ (List.getElem_mem hi))) (rn_gd (by omega) (rn_some (by simp))))
  ·rintro s rfl
   rw [List.take_length]
  ·rintro _ rfl
   refine rn_if (fun g => rn_some ?_) fun g => rn_some ?_
   ·have g : (20 : Int) < ((mrg a b).length : Int) := by simpa using g
    rw [if_pos (by omega)]
   ·have g : ¬ (20 : Int) < ((mrg a b).length : Int) := by simpa using g
    rw [if_neg (by omega)]
theorem zf0 {a b : List Head} (ha : SmH a) (hb : SmH b) (la : a.length ≤ 1000) (lb : b.length ≤ 1000) : zcn a b = some (mrg a b, decide (((mrg a b).length : Int) ≤ 20)) := by
 unfold zcn
 refine eq_of_rn (rn_then (ψ := fun s => a = s) (rn_rloop (fun i s => s = a.take i) (by simp) ?_ ?_) ?_)
 ·rintro i s hi rfl
  refine rn_ix hi (rn_call (zg6 (ha _ (List.getElem_mem hi))) (rn_gd (by simp; omega) (rn_some ?_)))
  show _ = _
  rw [List.take_succ_eq_append_getElem hi]
 ·rintro s rfl
  exact List.take_length.symm
 ·rintro _ rfl
  refine rn_then (ψ := fun s => s = mrg a b) (rn_rloop (fun i s => s = mrg a (b.take i)) (by simp [mrg]) ?_ ?_) ?_
  ·rintro i s hi rfl
   have hlen := (zeX (b.take i) a).2
   have htl : (b.take i).length ≤ b.length := by simp; omega
   have hsm : SmH (mrg a (b.take i)) := fun x hx => by
    rcases zgn.1 hx with h | h
    ·exact ha x h
    ·exact hb x (List.mem_of_mem_take h)
   refine rn_then (ψ := fun v => v = mrg a (b.take (i + 1))) (rn_ix hi ?_) fun v hv => rn_some hv
   refine rn_then (ψ := fun v => v = (mrg a (b.take i)).any fun x => zdm x b[i]) (rn_rloop (fun j s => s = ((mrg a (b.take i)).take j).any fun x => zdm x b[i]) (by simp) ?_ ?_) ?_
   ·rintro j s hj rfl
    refine rn_then (ψ := fun v => v = ((mrg a (b.take i)).take (j + 1)).any fun x => zdm x b[i]) (rn_ix hj ?_) fun v hv => rn_some hv
    rw [List.take_succ_eq_append_getElem hj, List.any_append]
    refine rn_if (fun g => rn_some (by rw [g]; rfl)) fun g => rn_call (zi1 _ (hsm _ (List.getElem_mem hj))) (rn_some (by rw [g]; simp))
   ·rintro s rfl
    rw [List.take_length]
   ·rintro _ rfl
    rw [zgZ hi]
    unfold zd0
    cases hh : ((mrg a (b.take i)).any fun x => zdm x b[i]) with
    | true => exact rn_f rfl (rn_some (by simp))
    | false => exact rn_t rfl (rn_call (zg6 (hb _ (List.getElem_mem hi))) (rn_gd (by omega) (rn_some (by simp))))
  ·rintro s rfl
   rw [List.take_length]
  ·rintro _ rfl
   exact rn_some rfl
theorem zi7 {code c0 : List Int} {at_ seed n : Int} {gr : Group} (hb : Bt code) (h : Cu code n (c0, at_, seed)) (hn : n ≤ 1500000000000000) (k : OkG gr) (g : Gw gr) :
 Rn (zbm c0 at_ seed gr) (fun z => z.1.length ≤ 3 ∧ (z.2.1.length ≤ 5 ∧ ∀ h ∈ z.2.1, SmP h.Sign) ∧ Cu code (n + 220) z.2.2) := by
 have hq := k.q
 have hp := k.p
 have hg := k.g
 unfold zbm
 refine rn_then (zaF hb h (by omega)) fun z1 ⟨a0, _, a1, _, y1⟩ => ?_
 have a1 := a1 (by omega)
 obtain ⟨i, hi⟩ := Int.eq_ofNat_of_zero_le a0
 rw [hi, wr64 (n := 1 + (i : Int)) (by omega) (by omega), show 1 + (i : Int) = ((1 + i : Nat) : Int) by omega]
 refine rn_then (zjT hb y1 (by omega) g (by omega)) fun z2 ⟨c1, c2, y2⟩ => ?_
 refine rn_then (ψ := fun x => x.length = z2.1.length) (rn_rloop (fun j s => s.length = j) rfl ?_ fun s h => h) fun x x1 => ?_
 ·rintro j s hj s1
  exact rn_ix hj (rn_call (zgN k (by omega) (by omega) _) (rn_gd (by omega) (rn_some (by show (s ++ [_]).length = _; simp [s1]))))
 refine rn_then (zaF hb y2 (by omega)) fun z3 ⟨b0, _, b1, _, y3⟩ => ?_
 have b1 := b1 (by omega)
 refine rn_then (ψ := fun v => (v.2.length ≤ 5 ∧ ∀ h ∈ v.2, SmP h.Sign) ∧ Cu code (n + 220) v.1) (rn_wloop (fun s => (0 ≤ s.2.2 ∧ (s.2.1.length : Int) + s.2.2 ≤ 5) ∧ (∀ h ∈ s.2.1, SmP h.Sign) ∧ Cu code (n + 200 - 32 * s.2.2) s.1) (fun s => s.2.2.toNat) ⟨⟨b0, by simp; omega⟩, fun h hh => by simp at hh, y3.mono (by show _ ≤ n + 200 - 32 * z3.1; omega)⟩ ?_) fun v ⟨v1, v2⟩ => rn_some ⟨by show x.length ≤ 3; omega, v1, v2⟩
 rintro s ⟨⟨s1, s2⟩, s3, s4⟩
 refine rn_if (fun g => ?_) fun _ => rn_some ⟨⟨by show s.2.1.length ≤ 5; omega, s3⟩, s4.mono (by omega)⟩
 have g0 : 0 < s.2.2 := by simpa using g
 refine rn_then (zaF hb s4 (by omega)) fun z5 ⟨e0, e1, e2, _, y5⟩ => ?_
 have hd : z5.1 < (z2.1.length : Int) := by
  rcases Int.lt_or_le 1 (x.length : Int) with g | g
  ·have := e2 g; omega
  ·have := e1 g; omega
 obtain ⟨i, hi⟩ := Int.eq_ofNat_of_zero_le e0
 rw [hi] at hd ⊢
 refine rn_ix (by omega) ?_
 refine rn_then (zaF hb y5 (by omega)) fun z6 ⟨_, _, _, _, y6⟩ => ?_
 refine rn_then (zaF hb y6 (by omega)) fun z7 ⟨_, _, _, _, y7⟩ => ?_
 refine rn_then (zaF hb y7 (by omega)) fun z8 ⟨_, _, _, _, y8⟩ => ?_
 obtain ⟨h, t, f1, f3⟩ := zi0 gr (z2.1[i]'(by omega)) (i : Int) z6.1 z7.1 (z8.1.tmod gr.Q)
 refine rn_gd (by omega) (rn_call f1 (rn_then (zhK hb y8 (by omega)) fun z9 y9 => ?_))
 refine rn_then (ψ := fun v => SmP ⟨v.2.2.2.2.1, v.2.2.2.2.2.1, v.2.2.2.2.2.2⟩ ∧ Cu code (n + 200 - 32 * s.2.2 + 30) v.1) (rn_if (fun _ => rn_then (ziL hb y9 (by omega) ‹Gw gr› f3) fun w ⟨s8, y8⟩ => rn_some ⟨s8, y8.mono (by omega)⟩) fun _ => rn_some ⟨⟨by show h.Sign.Commits.length ≤ 1001; omega, by show h.Sign.Challenges.length ≤ 1001; omega, by show h.Sign.Responses.length ≤ 1001; omega⟩, y9.mono (by omega)⟩) fun v ⟨v1, v2⟩ => rn_gd (by omega) (rn_some ?_)
 have ew : IntKind.i64.wrap (s.2.2 - 1) = s.2.2 - 1 := wr64 (by omega) (by omega)
 rw [ew]
 refine ⟨⟨⟨by show 0 ≤ s.2.2 - 1; omega, by show (((s.2.1 ++ [_]).length : Nat) : Int) + (s.2.2 - 1) ≤ 5; simp; omega⟩, fun f hf => ?_, v2.mono (by show _ ≤ n + 200 - 32 * (s.2.2 - 1); omega)⟩, by show (s.2.2 - 1).toNat < s.2.2.toNat; omega⟩
 rcases List.mem_append.1 (show f ∈ s.2.1 ++ [_] from hf) with hf | hf
 ·exact s3 f hf
 ·rw [List.mem_singleton.1 hf]; exact v1
theorem zhE {code c0 : List Int} {at_ seed n : Int} (hb : Bt code) (h : Cu code n (c0, at_, seed)) (hn : n ≤ 1000000000000000) : Rn (za1 c0 at_ seed) (fun z => z.2.1.length ≤ 4 ∧ (z.2.2.1.length ≤ 21 ∧ ∀ h ∈ z.2.2.1, SmP h.Sign) ∧ Cu code (n + 250) z.2.2.2) := by
 unfold za1
 refine rn_then (zhG hb h (by omega)) fun z1 ⟨g1, y1⟩ => ?_
 refine rn_call (zfN z1.1) (rn_if (fun _ => rn_some ⟨by simp, ⟨by simp, fun h hh => by simp at hh⟩, y1.mono (by omega)⟩) fun g => ?_)
 have ko : OkG z1.1 := zfz.1 (by simpa using g)
 refine rn_then (zi7 hb y1 (by omega) ko g1) fun z2 ⟨a1, ⟨a2, a3⟩, y2⟩ => ?_
 refine rn_then (zaF hb y2 (by omega)) fun z3 ⟨_, _, _, _, y3⟩ => ?_
 refine rn_then (ψ := fun v => v.2.1.length ≤ 4 ∧ (v.2.2.length ≤ 21 ∧ ∀ h ∈ v.2.2, SmP h.Sign) ∧ Cu code (n + 250) v.1) ?_ fun v hv => rn_some hv
 refine rn_if (fun _ => rn_then (zfv hb y3 (by omega) g1) fun z4 ⟨_, _, y4⟩ => rn_gd (by omega) (rn_some ⟨by show (z2.1 ++ [_]).length ≤ 4; simp; omega, ⟨by show z2.2.1.length ≤ 21; omega, a3⟩, y4.mono (by omega)⟩)) fun _ => ?_
 refine rn_if (fun _ => ?_) fun _ => rn_some ⟨by show z2.1.length ≤ 4; omega, ⟨by show z2.2.1.length ≤ 21; omega, a3⟩, y3.mono (by omega)⟩
 refine rn_then (zaF hb y3 (by omega)) fun z4 ⟨b0, _, b1, _, y4⟩ => ?_
 have b1 := b1 (by omega)
 refine rn_wloop (fun s => s.length ≤ 21 ∧ ∀ h ∈ s, SmP h.Sign) (fun s => 21 - s.length) ⟨by omega, a3⟩ ?_
 rintro s ⟨s1, s2⟩
 rw [wr64 (n := 20 + z4.1) (by omega) (by omega)]
 refine rn_if (fun g => ?_) fun _ => rn_some ⟨by show z2.1.length ≤ 4; omega, ⟨s1, s2⟩, y4.mono (by omega)⟩
 have g : (s.length : Int) < 20 + z4.1 := by simpa using g
 refine rn_gd (by omega) (rn_some ⟨⟨by show (s ++ [_]).length ≤ 21; simp; omega, fun f hf => ?_⟩, by show 21 - (s ++ [_]).length < 21 - s.length; simp; omega⟩)
 rcases List.mem_append.1 (show f ∈ s ++ [_] from hf) with hf | hf
 ·exact s2 f hf
 ·rw [List.mem_singleton.1 hf]; exact ⟨by simp, by simp, by simp⟩
theorem zir {α γ : Type} {l : List α} (p : α → Bool) (c : γ) {body : Int → Unit → Option (Stp Unit (Unit ⊕ γ))} (h : ∀ i (hi : i < l.length), body (i : Int) () = some (if p l[i] = true then .go () else .out (.inr c))) : rloop body (fun _ => .inl ()) l.length 0 () = some (if l.all p = true then .inl () else .inr c) := by
 refine eq_of_rn (rn_rloop (fun i _ => (l.take i).all p = true) rfl ?_ ?_)
 ·rintro i s hi hI
  rw [show s = () from rfl, h i hi]
  cases e : p l[i] with
  | false =>
   have : l.all p = false := by
    rw [List.all_eq_false]
    exact ⟨l[i], List.getElem_mem hi, by simp [e]⟩
   refine rn_some ?_
   show (Sum.inr c : Unit ⊕ γ) = _
   rw [this]; rfl
  | true =>
   refine rn_some ?_
   show (l.take (i + 1)).all p = true
   rw [List.take_succ_eq_append_getElem hi, List.all_append, hI]
   simp [e]
 ·rintro s hI
  rw [List.take_length] at hI
  rw [hI]; rfl
theorem zgo {α : Type} (p : α → Bool) : ∀ l : List α, (l.any fun x => !p x) = !l.all p
 | [] => rfl
 | a :: l => by simp only [List.any_cons, List.all_cons, zgo p l, Bool.not_and]
def gpB (n : Int) (p : List Int) : Bool := ((p.length : Int) == 2) && (p.all (inB 0 (n - 1)) && !(p.getD 0 0 == p.getD 1 0))
theorem zf4 {n : Int} {p : List Int} (h : gpB n p = true) : ∃ a b, p = [a, b] ∧ (0 ≤ a ∧ a < n) ∧ (0 ≤ b ∧ b < n) ∧ a ≠ b := by
 unfold gpB at h
 rw [Bool.and_eq_true, Bool.and_eq_true, beq_iff_eq] at h
 obtain ⟨h1, h2, h3⟩ := h
 match p, h1, h2, h3 with
 | [a, b], _, h2, h3 =>
  simp only [List.all_cons, List.all_nil, Bool.and_true, Bool.and_eq_true, zek] at h2
  refine ⟨a, b, rfl, ⟨h2.1.1, by omega⟩, ⟨h2.2.1, by omega⟩, ?_⟩
  simpa using h3
 | [], h1, _, _ => simp at h1
 | [_], h1, _, _ => simp at h1
 | _ :: _ :: _ :: _, h1, _, _ => simp at h1; omega
theorem zh6 (n : Int) (p : List Int) : (if ((p.length : Int) != 2) = true then (some true) else ((some (p.all (inB 0 (n - 1)))).bind fun z => if (!z) = true then (some true) else ((ix p 0).bind fun a => (ix p 1).bind fun b => some (a == b)))) = some (!gpB n p) := by
 unfold gpB
 cases e : ((p.length : Int) == 2) with
 | false => simp [bne, e]
 | true =>
  rw [beq_iff_eq] at e
  have e : p.length = 2 := by omega
  match p, e with
  | [a, b], _ =>
   cases h : [a, b].all (inB 0 (n - 1)) with
   | false => rfl
   | true => simp [bne, ix]
theorem zjV {n : Int} (h0 : 0 ≤ n) (h1 : n ≤ 1000) (l : List Int) : zcS l n = some (l.all (inB 0 (n - 1))) := by
 have h2 : za8 l n = some (l.all (inB 0 (n - 1))) := ze1 (f := fun x => zaI x n) fun x _ => by
  unfold zaI zcN
  rw [wr64 (n := n - 1) (by omega) (by omega), zeQ]; rfl
 unfold zcS
 rw [h2]; rfl
theorem ze2 {n : Int} (h0 : 0 ≤ n) (h1 : n ≤ 1000) (l : List (List Int)) : zbp l n = some (decide ((l.length : Int) ≤ 20) && l.all (gpB n)) := by
 have hc : zaw l n = some (l.any fun p => !gpB n p) := zf3 (f := fun p => zcc p n) fun p _ => by
  unfold zcc
  rw [zjV h0 h1, zh6]; rfl
 unfold zbp
 rw [hc, zgo]
 cases decide ((l.length : Int) ≤ 20) <;> simp
theorem zgU {n : Int} (h0 : 0 ≤ n) (h1 : n ≤ 1000) (l : List (List Int)) : zcL n l = some (l.all (gpB n) && decide ((l.length : Int) ≤ 20)) := by
 unfold zcL
 rw [zir (gpB n) false]
 ·cases l.all (gpB n) <;> rfl
 ·intro i hi
  rw [ix_at hi, Option.bind_some, wr64 (n := n - 1) (by omega) (by omega), zko, zh6]
  cases gpB n l[i] <;> rfl
def rrB (r : Reader) : Bool := decide ((r.Heads.length : Int) ≤ 20) && r.Heads.all zbc
theorem zeY (l : List Reader) : zbo l = some (decide ((l.length : Int) ≤ 8) && l.all rrB) := by
 have hc : zai l = some (l.any fun r => !rrB r) := zf3 (f := fun r => zbZ r) fun r _ => by
  unfold zbZ
  rw [zhz.2]; rfl
 unfold zbo
 rw [hc, zgo]
 cases decide ((l.length : Int) ≤ 8) <;> simp
def zd8 (l : List Reader) (ps : List (List Int)) : Bool := (decide ((l.length : Int) ≤ 8) && l.all rrB) && (decide ((ps.length : Int) ≤ 20) && ps.all (gpB l.length))
theorem zf9 (l : List Reader) (ps : List (List Int)) : zcl l ps = some (zd8 l ps) := by
 unfold zcl zd8
 rw [zir rrB false]
 ·cases l.all rrB with
  | false => simp
  | true =>
   cases e : decide ((l.length : Int) ≤ 8) with
   | false => rfl
   | true =>
    rw [decide_eq_true_eq] at e
    rw [zgU (by omega) (by omega)]
    simp [Bool.and_comm]
 ·intro i hi
  rw [ix_at hi, Option.bind_some, zhz.1]
  unfold rrB
  rw [Bool.and_comm]
  cases (decide ((l[i].Heads.length : Int) ≤ 20) && l[i].Heads.all zbc) <;> rfl
theorem zhY (l : List Reader) (ps : List (List Int)) : ((zbo l).bind fun z4 => if (!z4) = true then (some true) else ((zbp ps (l.length : Int)).bind fun z6 => some (!z6))) = some (!zd8 l ps) := by
 unfold zd8
 rw [zeY]
 cases e : (decide ((l.length : Int) ≤ 8) && l.all rrB) with
 | false => rfl
 | true =>
  rw [Bool.and_eq_true, decide_eq_true_eq] at e
  rw [ze2 (by omega) (by omega)]; rfl
def hdA (s : List Reader) (i : Nat) : List Head := (s.getD i ⟨[]⟩).Heads
theorem zer {s : List Reader} {i : Nat} (h : i < s.length) : s[i].Heads = hdA s i := by simp [hdA, h]
def rd1 (s : List Reader) (p : List Int) : List Reader := (s.set (p.getD 0 0).toNat ⟨mrg (hdA s (p.getD 0 0).toNat) (hdA s (p.getD 1 0).toNat)⟩).set (p.getD 1 0).toNat ⟨mrg (hdA s (p.getD 1 0).toNat) (hdA s (p.getD 0 0).toNat)⟩
def zeJ (s : List Reader) (p : List Int) : Prop := 20 < (mrg (hdA s (p.getD 0 0).toNat) (hdA s (p.getD 1 0).toNat)).length ∨ 20 < (mrg (hdA s (p.getD 1 0).toNat) (hdA s (p.getD 0 0).toNat)).length
instance (s : List Reader) (p : List Int) : Decidable (zeJ s p) := by unfold zeJ; infer_instance
def rdg : List Reader → List (List Int) → Option (List Reader)
 | s, [] => some s
 | s, p :: ps => if zeJ s p then none else rdg (rd1 s p) ps
def RdK (n : Nat) (l : List Reader) : Prop := l.length = n ∧ ∀ r ∈ l, r.Heads.length ≤ 20 ∧ SmH r.Heads
theorem zeM {n : Nat} {l : List Reader} (h : RdK n l) (i : Nat) : (hdA l i).length ≤ 20 ∧ SmH (hdA l i) := by
 by_cases hi : i < l.length
 ·rw [← zer hi]
  exact h.2 _ (List.getElem_mem hi)
 ·have : hdA l i = [] := by simp [hdA, hi]
  rw [this]
  exact ⟨by simp, fun x hx => by simp at hx⟩
theorem zip {a b : List Head} (ha : SmH a) (hb : SmH b) : SmH (mrg a b) := fun x hx => by
 rcases zgn.1 hx with h | h
 ·exact ha x h
 ·exact hb x h
theorem zhd {n : Nat} {s : List Reader} {p : List Int} (hs : RdK n s) (hb : ¬ zeJ s p) : RdK n (rd1 s p) := by
 have hb1 : ¬ 20 < (mrg (hdA s (p.getD 0 0).toNat) (hdA s (p.getD 1 0).toNat)).length := fun h => hb (.inl h)
 have hb2 : ¬ 20 < (mrg (hdA s (p.getD 1 0).toNat) (hdA s (p.getD 0 0).toNat)).length := fun h => hb (.inr h)
 have k1 := zeM hs (p.getD 0 0).toNat
 have k2 := zeM hs (p.getD 1 0).toNat
 refine ⟨by unfold rd1; simp [hs.1], fun r hr => ?_⟩
 unfold rd1 at hr
 rcases List.mem_or_eq_of_mem_set hr with hr | rfl
 ·rcases List.mem_or_eq_of_mem_set hr with hr | rfl
  ·exact hs.2 r hr
  ·exact ⟨by show (mrg _ _).length ≤ 20; omega, zip k1.2 k2.2⟩
 ·exact ⟨by show (mrg _ _).length ≤ 20; omega, zip k2.2 k1.2⟩
theorem zhx {s : List Reader} {j : Nat} {v : List Head} (h : (hdA s j).length ≤ v.length) (i : Nat) : (hdA s i).length ≤ (hdA (s.set j ⟨v⟩) i).length := by
 unfold hdA at *
 rw [show (s.set j ⟨v⟩).getD i ⟨[]⟩ = ((s.set j ⟨v⟩)[i]?).getD ⟨[]⟩ from List.getD_eq_getElem?_getD, List.getElem?_set]
 by_cases e : j = i
 ·subst e
  rw [if_pos rfl]
  by_cases hj : j < s.length
  ·rw [if_pos hj]; exact h
  ·rw [if_neg hj]; simp [hj]
 ·rw [if_neg e, ← List.getD_eq_getElem?_getD]; exact Nat.le_refl _
theorem zkp {s : List Reader} {j i : Nat} {v : List Head} (e : j ≠ i) : hdA (s.set j ⟨v⟩) i = hdA s i := by
 unfold hdA
 rw [List.getD_eq_getElem?_getD, List.getElem?_set, if_neg e, ← List.getD_eq_getElem?_getD]
theorem zjU {s : List Reader} {p : List Int} {n : Int} (hp : gpB n p = true) (i : Nat) : (hdA s i).length ≤ (hdA (rd1 s p) i).length := by
 obtain ⟨a, b, rfl, ha, hb, hab⟩ := zf4 hp
 have e : a.toNat ≠ b.toNat := by omega
 refine Nat.le_trans (zhx (j := a.toNat) (v := mrg (hdA s a.toNat) (hdA s b.toNat)) (zeX _ _).1 i) ?_
 exact zhx (j := b.toNat) (v := mrg (hdA s b.toNat) (hdA s a.toNat)) (by rw [zkp e]; exact (zeX _ _).1) i
theorem zga {n : Nat} : ∀ {ps : List (List Int)} {s t : List Reader}, RdK n s → ps.all (gpB n) = true → rdg s ps = some t → RdK n t ∧ ∀ i, (hdA s i).length ≤ (hdA t i).length
 | [], s, t, hs, _, h => by
  obtain rfl : s = t := Option.some.inj h
  exact ⟨hs, fun i => Nat.le_refl _⟩
 | p :: ps, s, t, hs, hp, h => by
  rw [List.all_cons, Bool.and_eq_true] at hp
  have h : (if zeJ s p then none else rdg (rd1 s p) ps) = some t := h
  by_cases hb : zeJ s p
  ·rw [if_pos hb] at h; cases h
  ·rw [if_neg hb] at h
   obtain ⟨h1, h2⟩ := zga (zhd hs hb) hp.2 h
   exact ⟨h1, fun i => Nat.le_trans (zjU hp.1 i) (h2 i)⟩
def gos (l : List Reader) (ps : List (List Int)) : List Reader × Bool := match rdg l ps with | none => ([], false) | some t => (t, true)
def zdP (l : List Reader) (ps : List (List Int)) : List Reader ⊕ (List Reader × Bool) := match rdg l ps with | none => .inr ([], false) | some t => .inl t
theorem zhe {n : Nat} {l s : List Reader} {ps : List (List Int)} {k : Nat} (hk : k < ps.length) (hI : zdP l ps = zdP s (ps.drop k)) : (zeJ s ps[k] → zdP l ps = .inr ([], false)) ∧ (¬ zeJ s ps[k] → zdP l ps = zdP (rd1 s ps[k]) (ps.drop (k + 1))) := by
 rw [List.drop_eq_getElem_cons hk] at hI
 rw [hI]
 unfold zdP
 constructor
 ·intro h
  rw [show rdg s (ps[k] :: ps.drop (k + 1)) = none from if_pos h]
 ·intro h
  rw [show rdg s (ps[k] :: ps.drop (k + 1)) = rdg (rd1 s ps[k]) (ps.drop (k + 1)) from if_neg h]
theorem zgw {n : Nat} {l : List Reader} {ps : List (List Int)} (hl : RdK n l) (hn : n ≤ 8) (hp : ps.all (gpB n) = true) : zcJ l ps = some (gos l ps) := by
 unfold zcJ
 refine eq_of_rn (rn_then (ψ := fun s => l = s) (rn_rloop (fun i s => s = l.take i) (by simp) ?_ ?_) ?_)
 ·rintro i s hi rfl
  have hm := hl.2 _ (List.getElem_mem hi)
  refine rn_ix hi (rn_call (zfQ hm.2 (fun x hx => by simp at hx) (by omega) (by simp)) (rn_gd (by have := hl.1; simp; omega) (rn_some ?_)))
  show _ = _
  rw [List.take_succ_eq_append_getElem hi, if_neg (show ¬ 20 < (mrg l[i].Heads []).length by show ¬ 20 < l[i].Heads.length; omega)]; rfl
 ·rintro s rfl
  exact List.take_length.symm
 ·rintro _ rfl
  refine rn_then (ψ := fun v => v = zdP l ps) (rn_rloop (fun k s => zdP l ps = zdP s (ps.drop k) ∧ RdK n s) ⟨rfl, hl⟩ ?_ ?_) ?_
  ·rintro k s hk ⟨hI, hs⟩
   obtain ⟨g1, g2⟩ := zhe (n := n) hk hI
   have hpk := List.all_eq_true.1 hp _ (List.getElem_mem hk)
   refine rn_ix hk ?_
   generalize ps[k] = p at g1 g2 hpk ⊢
   obtain ⟨a, b, rfl, ha, hb, hab⟩ := zf4 hpk
   have k1 := zeM hs a.toNat
   have k2 := zeM hs b.toNat
   have hsl := hs.1
   refine rn_call (a := a) rfl (rn_call (a := b) rfl (rn_call (zdM ha.1 (by omega)) (rn_call (zdM hb.1 (by omega)) ?_)))
   rw [zer, zer]
   refine rn_call (zfQ k1.2 k2.2 (by omega) (by omega)) (rn_call (zfQ k2.2 k1.2 (by omega) (by omega)) ?_)
   by_cases c1 : 20 < (mrg (hdA s a.toNat) (hdA s b.toNat)).length
   ·rw [if_pos c1]
    exact rn_call (a := true) rfl (rn_t rfl (rn_some (g1 (.inl c1)).symm))
   ·rw [if_neg c1]
    by_cases c2 : 20 < (mrg (hdA s b.toNat) (hdA s a.toNat)).length
    ·rw [if_pos c2]
     exact rn_call (a := true) rfl (rn_t rfl (rn_some (g1 (.inr c2)).symm))
    ·rw [if_neg c2]
     have nb : ¬ zeJ s [a, b] := fun h => by
      rcases h with h | h
      ·exact c1 h
      ·exact c2 h
     refine rn_call (a := false) rfl (rn_f rfl (rn_call (zdM hb.1 (by rw [List.length_set]; omega)) (rn_some ⟨g2 nb, zhd hs nb⟩)))
  ·rintro s ⟨hI, hs⟩
   rw [hI, List.drop_length]; rfl
  ·rintro _ rfl
   unfold zdP gos
   cases rdg l ps with
   | none => exact rn_some rfl
   | some t => exact rn_some rfl
theorem zgv {n : Nat} {l : List Reader} {ps : List (List Int)} (hl : RdK n l) (hn : n ≤ 8) (hp : ps.all (gpB n) = true) : zcK l ps = some (gos l ps) := by
 unfold zcK
 refine eq_of_rn (rn_then (ψ := fun s => l = s) (rn_rloop (fun i s => s = l.take i) (by simp) ?_ ?_) ?_)
 ·rintro i s hi rfl
  have hm := hl.2 _ (List.getElem_mem hi)
  refine rn_ix hi (rn_call (zf0 hm.2 (fun x hx => by simp at hx) (by omega) (by simp)) (rn_gd (by have := hl.1; simp; omega) (rn_some ?_)))
  show _ = _
  rw [List.take_succ_eq_append_getElem hi]; rfl
 ·rintro s rfl
  exact List.take_length.symm
 ·rintro _ rfl
  refine rn_then (ψ := fun v => v = zdP l ps) (rn_rloop (fun k s => zdP l ps = zdP s (ps.drop k) ∧ RdK n s) ⟨rfl, hl⟩ ?_ ?_) ?_
  ·rintro k s hk ⟨hI, hs⟩
   obtain ⟨g1, g2⟩ := zhe (n := n) hk hI
   have hpk := List.all_eq_true.1 hp _ (List.getElem_mem hk)
   refine rn_ix hk ?_
   generalize ps[k] = p at g1 g2 hpk ⊢
   obtain ⟨a, b, rfl, ha, hb, hab⟩ := zf4 hpk
   have k1 := zeM hs a.toNat
   have k2 := zeM hs b.toNat
   have hsl := hs.1
   refine rn_call (a := a) rfl (rn_call (zdM ha.1 (by omega)) (rn_call (a := b) rfl (rn_call (zdM hb.1 (by omega)) ?_)))
   rw [zer, zer]
   refine rn_call (zf0 k1.2 k2.2 (by omega) (by omega)) (rn_call (zf0 k2.2 k1.2 (by omega) (by omega)) ?_)
   by_cases c1 : 20 < (mrg (hdA s a.toNat) (hdA s b.toNat)).length
   ·rw [decide_eq_false (show ¬ ((mrg (hdA s a.toNat) (hdA s b.toNat)).length : Int) ≤ 20 by omega)]
    exact rn_call (a := true) rfl (rn_t rfl (rn_some (g1 (.inl c1)).symm))
   ·rw [decide_eq_true (show ((mrg (hdA s a.toNat) (hdA s b.toNat)).length : Int) ≤ 20 by omega)]
    by_cases c2 : 20 < (mrg (hdA s b.toNat) (hdA s a.toNat)).length
    ·rw [decide_eq_false (show ¬ ((mrg (hdA s b.toNat) (hdA s a.toNat)).length : Int) ≤ 20 by omega)]
     exact rn_call (a := true) rfl (rn_t rfl (rn_some (g1 (.inr c2)).symm))
    ·rw [decide_eq_true (show ((mrg (hdA s b.toNat) (hdA s a.toNat)).length : Int) ≤ 20 by omega)]
     have nb : ¬ zeJ s [a, b] := fun h => by
      rcases h with h | h
      ·exact c1 h
      ·exact c2 h
     refine rn_call (a := false) rfl (rn_f rfl (rn_call (zdM hb.1 (by rw [List.length_set]; omega)) (rn_some ⟨g2 nb, zhd hs nb⟩)))
  ·rintro s ⟨hI, hs⟩
   rw [hI, List.drop_length]; rfl
  ·rintro _ rfl
   unfold zdP gos
   cases rdg l ps with
   | none => exact rn_some rfl
   | some t => exact rn_some rfl
theorem zhM {l : List Reader} {ps : List (List Int)} (h : zd8 l ps = true) : l.length ≤ 8 ∧ (∀ r ∈ l, r.Heads.length ≤ 20) ∧ ps.all (gpB l.length) = true := by
 unfold zd8 at h
 rw [Bool.and_eq_true, Bool.and_eq_true, Bool.and_eq_true, decide_eq_true_eq, List.all_eq_true] at h
 refine ⟨by omega, fun r hr => ?_, h.2.2⟩
 have := h.1.2 r hr
 unfold rrB at this
 rw [Bool.and_eq_true, decide_eq_true_eq] at this
 omega
theorem zkT {l : List Reader} {ps : List (List Int)} (hl : ∀ r ∈ l, SmH r.Heads) : ∃ v, zcb l ps = some v ∧ zcd l ps = some v ∧ v.1.length ≤ l.length ∧ ∀ i, i < v.1.length → (hdA l i).length ≤ (hdA v.1 i).length := by
 unfold zcb zcd
 rw [zhY, zf9]
 cases h : zd8 l ps with
 | false => exact ⟨_, rfl, rfl, by simp, fun i hi => by simp at hi⟩
 | true =>
  obtain ⟨h1, h2, h3⟩ := zhM h
  have hk : RdK l.length l := ⟨rfl, fun r hr => ⟨h2 r hr, hl r hr⟩⟩
  have e1 := zgw hk h1 h3
  have e2 := zgv hk h1 h3
  simp only [Option.bind_some, Bool.not_true, Bool.false_eq_true, if_false, e1, e2]
  refine ⟨_, rfl, rfl, ?_⟩
  unfold gos
  cases e : rdg l ps with
  | none => exact ⟨by simp, fun i hi => by simp at hi⟩
  | some t =>
   obtain ⟨k1, k2⟩ := zga hk h3 e
   exact ⟨by show t.length ≤ _; rw [k1.1]; exact Nat.le_refl _, fun i _ => k2 i⟩
open Classical in
noncomputable def fkd (gr : Group) (ks : List Int) (r : Reader) : Bool := decide (zhQ gr ks r.Heads)
noncomputable def det (gr : Group) (ks : List Int) (ps : List (List Int)) : Nat → Nat → List Reader → Int × Int × Bool
 | 0, _, _ => (0, 0, false)
 | m + 1, k, l => match l.findIdx? (fkd gr ks) with
  | some i => ((k : Int), (i : Int), true)
  | none => match rdg l ps with
   | none => (0, 0, false)
   | some t => det gr ks ps m (k + 1) t
theorem zgz {gr : Group} {ks : List Int} {ps : List (List Int)} : ∀ {m k : Nat} {l : List Reader}, (det gr ks ps m k l).2.2 = true → ∃ r : Nat, (det gr ks ps m k l).1 = (r : Int) ∧ k ≤ r ∧ r < k + m ∧ ∀ m', k + m' ≤ r → (det gr ks ps m' k l).2.2 = false
 | 0, k, l, h => by cases h
 | m + 1, k, l, h => by
  cases e1 : l.findIdx? (fkd gr ks) with
  | some i =>
   have e : det gr ks ps (m + 1) k l = ((k : Int), (i : Int), true) := by
    rw [det, e1]
   rw [e]
   refine ⟨k, rfl, Nat.le_refl _, by omega, fun m' hm => ?_⟩
   rw [show m' = 0 by omega]; rfl
  | none =>
   cases e2 : rdg l ps with
   | none =>
    have e : det gr ks ps (m + 1) k l = (0, 0, false) := by
     rw [det, e1, e2]
    rw [e] at h
    cases h
   | some t =>
    have e : ∀ n, det gr ks ps (n + 1) k l = det gr ks ps n (k + 1) t := fun n => by
     rw [det, e1, e2]
    rw [e] at h ⊢
    obtain ⟨r, r1, r2, r3, r4⟩ := zgz h
    refine ⟨r, r1, by omega, by omega, fun m' hm => ?_⟩
    cases m' with
    | zero => rfl
    | succ n => rw [e]; exact r4 n (by omega)
noncomputable def zgr (gr : Group) (ks : List Int) (l : List Reader) (ps : List (List Int)) (a : Int) : Bool := okG gr && ((decide ((ks.length : Int) ≤ 40) && ks.all (zaN gr)) && (zd8 l ps && inB 0 10 a))
noncomputable def zdI (gr : Group) (ks : List Int) (l : List Reader) (ps : List (List Int)) (a : Int) : Int × Int × Bool := if zgr gr ks l ps a = true then det gr ks ps (a.toNat + 1) 0 l else (0, 0, false)
theorem zhs {gr : Group} {ks : List Int} {l : List Reader} {F : List Head → Option (ForkEvidence × Bool)} (hF : ∀ r ∈ l, Rn (F r.Heads) (FF gr ks r.Heads)) (k : Int) :
 rloop (σ := Unit) (β := Unit ⊕ (Stp (List Reader × Int) (Unit ⊕ (Int × Int × Bool)))) (fun i27 s26 => (ix l i27).bind fun x33 => (F x33.Heads).bind fun z34 => if z34.2 = true then (some (.out (.inr (.out (.inr (k, i27, true)))))) else (some (.go ()))) (fun s26 => .inl ()) (l.length) 0 () = some (match l.findIdx? (fkd gr ks) with | some i => .inr (.out (.inr (k, (i : Int), true))) | none => .inl ()) := by
 have hf : ∀ r ∈ l, ∃ z, F r.Heads = some z ∧ z.2 = fkd gr ks r := fun r hr => by
  obtain ⟨z, z1, z2⟩ := hF r hr
  refine ⟨z, z1, ?_⟩
  unfold fkd
  rcases z2 with ⟨a, b, _⟩ | ⟨a, b⟩
  ·rw [a]; exact (@decide_eq_true _ (Classical.propDecidable _) b).symm
  ·rw [a]; exact (@decide_eq_false _ (Classical.propDecidable _) b).symm
 refine eq_of_rn (rn_rloop (fun i _ => ∀ j, j < i → ∀ h : j < l.length, fkd gr ks l[j] = false) (fun j hj => by omega) ?_ ?_)
 ·rintro i s hi hI
  obtain ⟨z, z1, z2⟩ := hf _ (List.getElem_mem hi)
  refine rn_ix hi (rn_call z1 ?_)
  rw [z2]
  refine rn_if (fun g => rn_some ?_) fun g => rn_some fun j hj h => ?_
  ·have : l.findIdx? (fkd gr ks) = some i := by
    rw [List.findIdx?_eq_some_iff_getElem]
    exact ⟨hi, g, fun j hj => by simp [hI j hj (by omega)]⟩
   show _ = _
   rw [this]
  ·rcases Nat.lt_or_ge j i with c | c
   ·exact hI j c h
   ·obtain rfl : j = i := by omega
    exact g
 ·rintro s hI
  have : l.findIdx? (fkd gr ks) = none := by
   rw [List.findIdx?_eq_none_iff]
   intro x hx
   obtain ⟨j, hj, rfl⟩ := List.getElem_of_mem hx
   exact hI j hj hj
  rw [this]
theorem zkU (gr : Group) (ks : List Int) {l : List Reader} {ps : List (List Int)} (hl : ∀ r ∈ l, SmH r.Heads) (a : Int) : zbd gr ks l ps a = some (zdI gr ks l ps a) := by
 unfold zbd zdI zgr
 rw [ziW]
 cases hg : okG gr with
 | false => rfl
 | true =>
  have k := zfz.1 hg
  rw [zj9 k]
  cases hk : (decide ((ks.length : Int) ≤ 40) && ks.all (zaN gr)) with
  | false => rfl
  | true =>
   have hk' := hk
   rw [Bool.and_eq_true, decide_eq_true_eq] at hk'
   rw [zeQ]
   have hgk := zhY l ps
   cases hr : zd8 l ps with
   | false =>
    rw [hr] at hgk
    refine eq_of_rn (rn_call (a := true) ?_ (rn_t rfl (rn_some rfl)))
    unfold zd8 at hr
    rw [zeY]
    cases e : (decide ((l.length : Int) ≤ 8) && l.all rrB) with
    | false => rfl
    | true =>
     rw [e] at hr
     rw [Bool.and_eq_true, decide_eq_true_eq] at e
     rw [ze2 (by omega) (by omega), show (decide ((ps.length : Int) ≤ 20) && ps.all (gpB l.length)) = false from hr]; rfl
   | true =>
    obtain ⟨h1, h2, h3⟩ := zhM hr
    unfold zd8 at hr
    rw [Bool.and_eq_true] at hr
    rw [zeY, hr.1, ze2 (by omega) (by omega), hr.2]
    cases ha : inB 0 10 a with
    | false => rfl
    | true =>
     obtain ⟨a0, a1⟩ := zek.1 ha
     obtain ⟨n, rfl⟩ := Int.eq_ofNat_of_zero_le a0
     have hK : RdK l.length l := ⟨rfl, fun r hr => ⟨h2 r hr, hl r hr⟩⟩
     refine eq_of_rn (rn_call (a := false) rfl (rn_f rfl ?_))
     rw [show (if (true && (true && (true && true))) = true then det gr ks ps ((n : Int).toNat + 1) 0 l else (0, 0, false)) = det gr ks ps (n + 1) 0 l from rfl]
     generalize hD : det gr ks ps (n + 1) 0 l = D
     refine rn_then (ψ := fun v => Sum.elim (fun _ => (0, 0, false)) (fun x => x) v = D) (rn_wloop (fun s => ∃ j : Nat, s.2 = (j : Int) ∧ j ≤ n + 1 ∧ RdK l.length s.1 ∧ D = det gr ks ps (n + 1 - j) j s.1) (fun s => n + 1 - s.2.toNat) ⟨0, rfl, by omega, hK, hD.symm⟩ ?_) ?_
     ·rintro ⟨s, j⟩ ⟨i, rfl, i1, i2, i3⟩
      rw [wr64 (n := (n : Int) + 1) (by omega) (by omega)]
      refine rn_if (fun g => ?_) fun g => rn_some ?_
      ·have g : i < n + 1 := by
        have g := of_decide_eq_true g
        have g : (i : Int) < (n : Int) + 1 := g
        omega
       rw [zhs (F := zcj gr ks) (fun r hr => ?_) (i : Int), Option.bind_some]
       ·rw [show n + 1 - i = (n - i) + 1 by omega, det] at i3
        cases e1 : s.findIdx? (fkd gr ks) with
        | some q =>
         rw [e1] at i3
         exact rn_some i3.symm
        | none =>
         rw [e1] at i3
         refine rn_call (zgw i2 h1 h3) ?_
         unfold gos
         cases e2 : rdg s ps with
         | none =>
          rw [e2] at i3
          exact rn_t rfl (rn_some i3.symm)
         | some t =>
          rw [e2] at i3
          refine rn_f rfl (rn_some ⟨⟨i + 1, ?_, by omega, (zga i2 h3 e2).1, ?_⟩, ?_⟩)
          ·show IntKind.i64.wrap ((i : Int) + 1) = _
           rw [wr64 (by omega) (by omega)]; rfl
          ·rw [i3, show n + 1 - (i + 1) = n - i by omega]
          ·show n + 1 - (IntKind.i64.wrap ((i : Int) + 1)).toNat < n + 1 - (i : Int).toNat
           rw [wr64 (by omega) (by omega)]
           omega
       ·have hm := i2.2 r hr
        exact zhc (fun a ha b hb => (zg9 k hk'.2 (by omega) (hm.2 a ha) (hm.2 b hb)).1) (fun a ha => zgp (hm.2 a ha)) (by omega)
      ·have g : n + 1 ≤ i := by
        have g := of_decide_eq_false g
        have g : ¬ (i : Int) < (n : Int) + 1 := g
        omega
       show _ = _
       rw [i3, show n + 1 - i = 0 by omega]; rfl
     ·rintro v hv
      cases v with
      | inl u => exact rn_some hv
      | inr z => exact rn_some hv
theorem zkS (gr : Group) (ks : List Int) {l : List Reader} {ps : List (List Int)} (hl : ∀ r ∈ l, SmH r.Heads) (a : Int) : zbF gr ks l ps a = some (zdI gr ks l ps a) := by
 unfold zbF zdI zgr
 rw [zjR, zf9, zf8]
 cases hg : okG gr with
 | false => rfl
 | true =>
  have k := zfz.1 hg
  cases hk : (decide ((ks.length : Int) ≤ 40) && ks.all (zaN gr)) with
  | false => rfl
  | true =>
   have hk' := hk
   rw [Bool.and_eq_true, decide_eq_true_eq] at hk'
   cases hr : zd8 l ps with
   | false => rfl
   | true =>
    obtain ⟨h1, h2, h3⟩ := zhM hr
    cases ha : inB 0 10 a with
    | false => rfl
    | true =>
     obtain ⟨a0, a1⟩ := zek.1 ha
     obtain ⟨n, rfl⟩ := Int.eq_ofNat_of_zero_le a0
     have hK : RdK l.length l := ⟨rfl, fun r hr => ⟨h2 r hr, hl r hr⟩⟩
     refine eq_of_rn (rn_call (a := false) rfl (rn_f rfl ?_))
     rw [show (if (true && (true && (true && true))) = true then det gr ks ps ((n : Int).toNat + 1) 0 l else (0, 0, false)) = det gr ks ps (n + 1) 0 l from rfl]
     generalize hD : det gr ks ps (n + 1) 0 l = D
     refine rn_then (ψ := fun v => Sum.elim (fun _ => (0, 0, false)) (fun x => x) v = D) (rn_wloop (fun s => ∃ j : Nat, s.2 = (j : Int) ∧ j ≤ n + 1 ∧ RdK l.length s.1 ∧ D = det gr ks ps (n + 1 - j) j s.1) (fun s => n + 1 - s.2.toNat) ⟨0, rfl, by omega, hK, hD.symm⟩ ?_) ?_
     ·rintro ⟨s, j⟩ ⟨i, rfl, i1, i2, i3⟩
      refine rn_if (fun g => ?_) fun g => rn_some ?_
      ·have g : i < n + 1 := by
        have g := of_decide_eq_true g
        have g : (i : Int) ≤ (n : Int) := g
        omega
       rw [zhs (F := zdO gr ks) (fun r hr => ?_) (i : Int), Option.bind_some]
       ·rw [show n + 1 - i = (n - i) + 1 by omega, det] at i3
        cases e1 : s.findIdx? (fkd gr ks) with
        | some q =>
         rw [e1] at i3
         exact rn_some i3.symm
        | none =>
         rw [e1] at i3
         refine rn_call (zgv i2 h1 h3) ?_
         unfold gos
         cases e2 : rdg s ps with
         | none =>
          rw [e2] at i3
          exact rn_t rfl (rn_some i3.symm)
         | some t =>
          rw [e2] at i3
          refine rn_f rfl (rn_some ⟨⟨i + 1, ?_, by omega, (zga i2 h3 e2).1, ?_⟩, ?_⟩)
          ·show IntKind.i64.wrap ((i : Int) + 1) = _
           rw [wr64 (by omega) (by omega)]; rfl
          ·rw [i3, show n + 1 - (i + 1) = n - i by omega]
          ·show n + 1 - (IntKind.i64.wrap ((i : Int) + 1)).toNat < n + 1 - (i : Int).toNat
           rw [wr64 (by omega) (by omega)]
           omega
       ·have hm := i2.2 r hr
        exact zhc (E := fun a b => zb3 gr ks ⟨a, b⟩) (fun a ha b hb => (zg9 k hk'.2 (by omega) (hm.2 a ha) (hm.2 b hb)).2) (fun a ha => zg6 (hm.2 a ha)) (by omega)
      ·have g : n + 1 ≤ i := by
        have g := of_decide_eq_false g
        have g : ¬ (i : Int) ≤ (n : Int) := g
        omega
       show _ = _
       rw [i3, show n + 1 - i = 0 by omega]; rfl
     ·rintro v hv
      cases v with
      | inl u => exact rn_some hv
      | inr z => exact rn_some hv
theorem zhJ {gr : Group} {ks : List Int} {l : List Reader} {ps : List (List Int)} {a : Int} (h : (zdI gr ks l ps a).2.2 = true) (h0 : 0 < (zdI gr ks l ps a).1) : IntKind.i64.wrap ((zdI gr ks l ps a).1 - 1) = (zdI gr ks l ps a).1 - 1 ∧ (zdI gr ks l ps ((zdI gr ks l ps a).1 - 1)).2.2 = false := by
 by_cases hg : zgr gr ks l ps a = true
 ·have e : zdI gr ks l ps a = det gr ks ps (a.toNat + 1) 0 l := if_pos hg
  rw [e] at h h0 ⊢
  obtain ⟨r, r1, _, r3, r4⟩ := zgz h
  rw [r1] at h0 ⊢
  unfold zgr at hg
  simp only [Bool.and_eq_true, zek] at hg
  refine ⟨wr64 (by omega) (by omega), ?_⟩
  unfold zdI
  by_cases hg2 : zgr gr ks l ps ((r : Int) - 1) = true
  ·rw [if_pos hg2]
   exact r4 _ (by omega)
  ·rw [if_neg hg2]
 ·have e : zdI gr ks l ps a = (0, 0, false) := if_neg hg
  rw [e] at h
  cases h
theorem zhq : ∀ {l r : List Int}, l.Pairwise (· < ·) → r.Pairwise (· < ·) → (∀ x, x ∈ l ↔ x ∈ r) → l = r
 | [], [], _, _, _ => rfl
 | [], b :: r, _, _, h => by have := (h b).2 (by simp); simp at this
 | a :: l, [], _, _, h => by have := (h a).1 (by simp); simp at this
 | a :: l, b :: r, hl, hr, h => by
  obtain ⟨l1, l2⟩ := List.pairwise_cons.1 hl
  obtain ⟨r1, r2⟩ := List.pairwise_cons.1 hr
  have e : a = b := by
   rcases List.mem_cons.1 ((h a).1 (by simp)) with e | e
   ·exact e
   ·rcases List.mem_cons.1 ((h b).2 (by simp)) with e' | e'
    ·exact e'.symm
    ·have := r1 a e; have := l1 b e'; omega
  subst e
  rw [zhq l2 r2 fun x => ?_]
  constructor
  ·intro hx
   rcases List.mem_cons.1 ((h x).1 (List.mem_cons_of_mem _ hx)) with e | e
   ·have := l1 x hx; omega
   ·exact e
  ·intro hx
   rcases List.mem_cons.1 ((h x).2 (List.mem_cons_of_mem _ hx)) with e | e
   ·have := r1 x hx; omega
   ·exact e
theorem zjn {l : List Int} (x : Int) (hl : l.Pairwise (· < ·)) (hn : l.length ≤ 1000) : Rn (zcg l x) (fun r => r.Pairwise (· < ·) ∧ (∀ y, y ∈ r ↔ y ∈ l ∨ y = x) ∧ r.length ≤ l.length + 1) := by
 unfold zcg
 refine rn_then (ψ := fun v => ∃ k : Nat, v = (k : Int) ∧ k ≤ l.length ∧ (∀ j (h : j < l.length), j < k → l[j] < x) ∧ ∀ h : k < l.length, ¬ l[k] < x) (rn_wloop (fun s => ∃ k : Nat, s = (k : Int) ∧ k ≤ l.length ∧ ∀ j (h : j < l.length), j < k → l[j] < x) (fun s => l.length - s.toNat) ⟨0, rfl, by omega, fun j h hj => by omega⟩ ?_) ?_
 ·rintro s ⟨k, rfl, h1, h2⟩
  by_cases hk : k < l.length
  ·refine rn_then (ψ := fun v => v = decide (l[k] < x)) (rn_t (decide_eq_true (by omega)) (rn_ix hk (rn_some rfl))) ?_
   rintro _ rfl
   refine rn_if (fun g => rn_some ⟨⟨k + 1, ?_, by omega, fun j h hj => ?_⟩, ?_⟩) fun g => rn_some ⟨k, rfl, h1, h2, fun _ => of_decide_eq_false g⟩
   ·rw [wr64 (by omega) (by omega)]; rfl
   ·rcases Nat.lt_or_ge j k with c | c
    ·exact h2 j h c
    ·obtain rfl : j = k := by omega
     exact of_decide_eq_true g
   ·rw [wr64 (by omega) (by omega)]; omega
  ·refine rn_then (ψ := fun v => v = false) (rn_f (decide_eq_false (by omega)) (rn_some rfl)) ?_
   rintro _ rfl
   exact rn_f rfl (rn_some ⟨k, rfl, h1, h2, fun h => absurd h hk⟩)
 ·rintro _ ⟨k, rfl, h1, h2, h3⟩
  refine rn_then (ψ := fun v => (v = true → x ∈ l) ∧ (v = false → ∀ h : k < l.length, x < l[k])) ?_ fun v hv => ?_
  ·by_cases hk : k < l.length
   ·refine rn_t (decide_eq_true (by omega)) (rn_ix hk (rn_some ⟨fun g => ?_, fun g h => ?_⟩))
    ·rw [← eq_of_beq g]; exact List.getElem_mem hk
    ·have := ne_of_beq_false g
     have := h3 hk
     omega
   ·exact rn_f (decide_eq_false (by omega)) (rn_some ⟨fun g => (by cases g), fun _ h => absurd h hk⟩)
  ·refine rn_if (fun g => rn_some ⟨hl, fun y => ⟨.inl, fun h => ?_⟩, by omega⟩) fun g => ?_
   ·rcases h with h | rfl
    ·exact h
    ·exact hv.1 g
   ·have hgt := hv.2 g
    rw [List.drop_zero, List.take_length, show (k : Int).toNat = k from rfl]
    refine rn_gd (by omega) (rn_gd (by omega) (rn_gd (by simp; omega) (rn_gd (by simp; omega) (rn_gd (by omega) (rn_gd (by omega) (rn_gd (by simp; omega) (rn_some ⟨?_, fun y => ?_, by simp; omega⟩)))))))
    ·have ht : ∀ y ∈ l.take k, y < x := fun y hy => by
      obtain ⟨j, hj, rfl⟩ := List.getElem_of_mem hy
      rw [List.length_take] at hj
      rw [List.getElem_take]
      exact h2 j (by omega) (by omega)
     have hd : ∀ y ∈ l.drop k, x < y := fun y hy => by
      obtain ⟨j, hj, rfl⟩ := List.getElem_of_mem hy
      rw [List.length_drop] at hj
      rw [List.getElem_drop]
      have h0 := hgt (by omega)
      rcases Nat.eq_zero_or_pos j with rfl | c
      ·exact h0
      ·have := List.pairwise_iff_getElem.1 hl k (k + j) (by omega) (by omega) (by omega)
       omega
     rw [List.pairwise_append, List.pairwise_append]
     refine ⟨⟨hl.sublist (List.take_sublist _ _), by simp, fun a ha b hb => ?_⟩, hl.sublist (List.drop_sublist _ _), fun a ha b hb => ?_⟩
     ·rw [List.mem_singleton.1 hb]; exact ht a ha
     ·rcases List.mem_append.1 ha with ha | ha
      ·have := ht a ha; have := hd b hb; omega
      ·rw [List.mem_singleton.1 ha]; exact hd b hb
    ·rw [List.mem_append, List.mem_append, List.mem_singleton]
     constructor
     ·rintro ((h | h) | h)
      ·exact .inl (List.mem_of_mem_take h)
      ·exact .inr h
      ·exact .inl (List.mem_of_mem_drop h)
     ·rintro (h | h)
      ·rw [← List.take_append_drop k l] at h
       rcases List.mem_append.1 h with h | h
       ·exact .inl (.inl h)
       ·exact .inr h
      ·exact .inl (.inr h)
def rc1 (s : List Bool) (p : List Int) : List Bool := (s.set (p.getD 0 0).toNat (s.getD (p.getD 0 0).toNat false || s.getD (p.getD 1 0).toNat false)).set (p.getD 1 0).toNat (s.getD (p.getD 0 0).toNat false || s.getD (p.getD 1 0).toNat false)
theorem zjS (s : List Bool) (p : List Int) : (rc1 s p).length = s.length := by simp [rc1]
theorem zfw : ∀ (ps : List (List Int)) (s : List Bool), (ps.foldl rc1 s).length = s.length
 | [], s => rfl
 | p :: ps, s => by rw [List.foldl_cons, zfw ps, zjS]
theorem zkk {s : List Bool} {a b : Int} {n : Nat} (hs : s.length = n) (ha : 0 ≤ a ∧ a < n) (hb : 0 ≤ b ∧ b < n) (x : Nat) (hx : x < n) : (rc1 s [a, b]).getD x false = if (x : Int) = a ∨ (x : Int) = b then (s.getD a.toNat false || s.getD b.toNat false) else s.getD x false := by
 show ((s.set a.toNat (s.getD a.toNat false || s.getD b.toNat false)).set b.toNat (s.getD a.toNat false || s.getD b.toNat false)).getD x false = _
 generalize (s.getD a.toNat false || s.getD b.toNat false) = w
 rw [show ((s.set a.toNat w).set b.toNat w).getD x false = (((s.set a.toNat w).set b.toNat w)[x]?).getD false from List.getD_eq_getElem?_getD, List.getElem?_set, List.getElem?_set]
 by_cases c1 : (x : Int) = b
 ·rw [if_pos (show b.toNat = x by omega), if_pos (by rw [List.length_set]; omega), if_pos (.inr c1)]; rfl
 ·rw [if_neg (show ¬ b.toNat = x by omega)]
  by_cases c2 : (x : Int) = a
  ·rw [if_pos (show a.toNat = x by omega), if_pos (by omega), if_pos (.inl c2)]; rfl
  ·rw [if_neg (show ¬ a.toNat = x by omega), if_neg (by omega), ← List.getD_eq_getElem?_getD]
def RcI (n : Nat) (s : List Bool) (l : List Int) : Prop := l.Pairwise (· < ·) ∧ (∀ x ∈ l, 0 ≤ x ∧ x < n) ∧ ∀ x, x < n → (s.getD x false = true ↔ (x : Int) ∈ l)
theorem zit : ∀ {l : List Int} {a n : Int}, l.Pairwise (· < ·) → (∀ x ∈ l, a ≤ x ∧ x < n) → a ≤ n → (l.length : Int) ≤ n - a
 | [], a, n, _, _, h => by simp; omega
 | x :: l, a, n, hl, hx, h => by
  obtain ⟨h1, h2⟩ := List.pairwise_cons.1 hl
  have := hx x (by simp)
  have := zit (a := x + 1) h2 (fun y hy => ⟨by have := h1 y hy; omega, (hx y (List.mem_cons_of_mem _ hy)).2⟩) (by omega)
  rw [List.length_cons]
  omega
theorem zja {n : Nat} (hn : n ≤ 8) {a1 : List (List Int)} (hp : a1.all (gpB n) = true) {i : Nat} (hi : i < n) :
 Rn ((rloop (σ := (List Int)) (fun i14 s13 =>
 (((ix a1 i14).bind fun x23 =>
 (((ix x23 0).bind fun x27 =>
 (zci s13 x27).bind fun z28 =>
 if z28 = true then (
 some true) else (
 (ix x23 1).bind fun x30 =>
 (zci s13 x30).bind fun z31 =>
 some z31) : Option (Bool)).bind fun x26 =>
 if x26 = true then (
 (ix x23 0).bind fun x33 =>
 (ix x23 1).bind fun x34 =>
 (zcg s13 x33).bind fun z35 =>
 (zcg z35 x34).bind fun z36 =>
 some z36) else (
 some s13)) : Option ((List Int))).bind fun x22 =>
 some (.go x22))) (fun s13 => s13) (a1.length) 0 [(i : Int)] : Option ((List Int)))) (RcI n (a1.foldl rc1 ((List.replicate n false).set i true))) := by
 refine rn_rloop (fun k l => RcI n ((a1.take k).foldl rc1 ((List.replicate n false).set i true)) l) ⟨by simp, fun x hx => ?_, fun x hx => ?_⟩ ?_ ?_
 ·rw [List.mem_singleton.1 hx]; omega
 ·show ((List.replicate n false).set i true).getD x false = true ↔ _
  rw [show ((List.replicate n false).set i true).getD x false = (((List.replicate n false).set i true)[x]?).getD false from List.getD_eq_getElem?_getD, List.getElem?_set]
  by_cases c : i = x
  ·rw [if_pos c, if_pos (by simpa using hi)]
   simp [c]
  ·rw [if_neg c]
   have : ¬ (x : Int) = (i : Int) := by omega
   simp [hx, this]
 ·rintro k l hk ⟨l1, l2, l3⟩
  rw [List.take_succ_eq_append_getElem hk, List.foldl_append]
  have hsl : ((a1.take k).foldl rc1 ((List.replicate n false).set i true)).length = n := by rw [zfw]; simp
  have hpk := List.all_eq_true.1 hp _ (List.getElem_mem hk)
  refine rn_then (ψ := RcI n (rc1 ((a1.take k).foldl rc1 ((List.replicate n false).set i true)) a1[k])) (rn_ix hk ?_) fun v hv => rn_some hv
  generalize a1[k] = p at hpk ⊢
  generalize (a1.take k).foldl rc1 ((List.replicate n false).set i true) = s at l3 hsl ⊢
  obtain ⟨a, b, rfl, ha, hb, hab⟩ := zf4 hpk
  have hll := zit (a := 0) (n := n) l1 l2 (by omega)
  have ea : s.getD a.toNat false = l.contains a := by
   rw [Bool.eq_iff_iff, l3 _ (by omega), show ((a.toNat : Nat) : Int) = a by omega]; simp
  have eb : s.getD b.toNat false = l.contains b := by
   rw [Bool.eq_iff_iff, l3 _ (by omega), show ((b.toNat : Nat) : Int) = b by omega]; simp
  have hw := zkk hsl ha hb
  rw [ea, eb] at hw
  refine rn_then (ψ := fun v => v = (l.contains a || l.contains b)) (rn_call (a := a) rfl (rn_call (zhB _ _) ?_)) ?_
  ·cases h : l.contains a with
   | true => exact rn_t rfl (rn_some rfl)
   | false => exact rn_f rfl (rn_call (a := b) rfl (rn_call (zhB _ _) (rn_some (by simp))))
  ·rintro _ rfl
   refine rn_if (fun g => ?_) fun g => rn_some ⟨l1, l2, fun x hx => ?_⟩
   ·rw [g] at hw
    refine rn_call (a := a) rfl (rn_call (a := b) rfl (rn_then (zjn a l1 (by omega)) fun z ⟨z1, z2, z3⟩ => rn_then (zjn b z1 (by omega)) fun y ⟨y1, y2, y3⟩ => rn_some ⟨y1, fun x hx => ?_, fun x hx => ?_⟩))
    ·rcases (y2 x).1 hx with h | rfl
     ·rcases (z2 x).1 h with h | rfl
      ·exact l2 x h
      ·exact ha
     ·exact hb
    ·rw [hw x hx, y2, z2]
     by_cases c : (x : Int) = a ∨ (x : Int) = b
     ·rw [if_pos c]
      rcases c with c | c
      ·simp [c]
      ·simp [c]
     ·rw [if_neg c, l3 x hx]
      constructor
      ·exact fun h => .inl (.inl h)
      ·rintro ((h | h) | h)
       ·exact h
       ·exact absurd (.inl h) c
       ·exact absurd (.inr h) c
   ·rw [g] at hw
    rw [hw x hx]
    rw [Bool.or_eq_false_iff] at g
    by_cases c : (x : Int) = a ∨ (x : Int) = b
    ·rw [if_pos c]
     constructor
     ·intro h; cases h
     ·intro h
      rcases c with c | c
      ·rw [c] at h
       have := g.1
       simp [h] at this
      ·rw [c] at h
       have := g.2
       simp [h] at this
    ·rw [if_neg c]
     exact l3 x hx
 ·rintro l h
  rw [List.take_length] at h
  exact h
theorem zj1 (n : Int) (ps : List (List Int)) (i : Int) : ∃ v, zc0 n ps i = some v ∧ zc2 n ps i = some v := by
 unfold zc0 zc2
 rw [zeQ, zf8]
 cases h1 : inB 1 8 n with
 | false => exact ⟨_, rfl, rfl⟩
 | true =>
  obtain ⟨a0, a1⟩ := zek.1 h1
  rw [ze2 (by omega) (by omega), zgU (by omega) (by omega), Bool.and_comm]
  cases h2 : (ps.all (gpB n) && decide ((ps.length : Int) ≤ 20)) with
  | false => exact ⟨_, rfl, rfl⟩
  | true =>
   rw [wr64 (n := n - 1) (by omega) (by omega), zeQ, zf8]
   cases h3 : inB 0 (n - 1) i with
   | false => exact ⟨_, rfl, rfl⟩
   | true =>
    obtain ⟨b0, b1⟩ := zek.1 h3
    obtain ⟨m, rfl⟩ := Int.eq_ofNat_of_zero_le (show 0 ≤ n by omega)
    obtain ⟨j, rfl⟩ := Int.eq_ofNat_of_zero_le b0
    rw [Bool.and_eq_true] at h2
    obtain ⟨l, e, k1, k2, k3⟩ := zja (n := m) (by omega) h2.1 (i := j) (by omega)
    refine ⟨(l, true), ?_, ?_⟩
    ·refine eq_of_rn (rn_call (a := false) rfl (rn_f rfl (rn_gd (by omega) ?_)))
     rw [Option.bind_some, show ((m : Int)).toNat = m from rfl, show ((j : Int)).toNat = j from rfl]
     refine rn_ix (by simp; omega) ?_
     refine rn_then (ψ := fun s => s = ps.foldl rc1 ((List.replicate m false).set j true)) (rn_rloop (fun k s => s = (ps.take k).foldl rc1 ((List.replicate m false).set j true)) rfl ?_ ?_) ?_
     ·rintro k s hk rfl
      rw [List.take_succ_eq_append_getElem hk, List.foldl_append]
      have hsl : ((ps.take k).foldl rc1 ((List.replicate m false).set j true)).length = m := by rw [zfw]; simp
      have hpk := List.all_eq_true.1 h2.1 _ (List.getElem_mem hk)
      refine rn_ix hk ?_
      generalize ps[k] = p at hpk ⊢
      generalize (ps.take k).foldl rc1 ((List.replicate m false).set j true) = s at hsl ⊢
      obtain ⟨a, b, rfl, ha, hb, hab⟩ := zf4 hpk
      have ia : ix s a = some (s.getD a.toNat false) := by
       rw [zdM ha.1 (by omega)]; simp [show a.toNat < s.length by omega]
      have ib : ix s b = some (s.getD b.toNat false) := by
       rw [zdM hb.1 (by omega)]; simp [show b.toNat < s.length by omega]
      refine rn_then (ψ := fun v => v = (s.getD a.toNat false || s.getD b.toNat false)) (rn_call (a := a) rfl (rn_call ia ?_)) ?_
      ·cases h : s.getD a.toNat false with
       | true => exact rn_t rfl (rn_some rfl)
       | false => exact rn_f rfl (rn_call (a := b) rfl (rn_call ib (rn_some (by simp))))
      ·rintro _ rfl
       exact rn_call (a := a) rfl (rn_call (a := b) rfl (rn_call ia (rn_call (zdM hb.1 (by rw [List.length_set]; omega)) (rn_some rfl))))
     ·rintro s rfl
      rw [List.take_length]
     ·rintro _ rfl
      have hsl : (ps.foldl rc1 ((List.replicate m false).set j true)).length = m := by rw [zfw]; simp
      generalize ps.foldl rc1 ((List.replicate m false).set j true) = s at k3 hsl ⊢
      refine rn_then (ψ := fun v => v.Pairwise (· < ·) ∧ (∀ x : Int, x ∈ v ↔ x ∈ l)) (rn_rloop (fun k v => v.Pairwise (· < ·) ∧ v.length ≤ k ∧ ∀ x : Int, x ∈ v ↔ x ∈ l ∧ x < k) ⟨by simp, by simp, fun x => ⟨fun h => by simp at h, fun h => by have := k2 x h.1; omega⟩⟩ ?_ ?_) ?_
      ·rintro k v hk ⟨v1, v2, v3⟩
       have hsk := k3 k (by omega)
       rw [show s.getD k false = s[k] by simp [hk]] at hsk
       refine rn_then (ψ := fun v => v.Pairwise (· < ·) ∧ v.length ≤ k + 1 ∧ ∀ x : Int, x ∈ v ↔ x ∈ l ∧ x < ((k + 1 : Nat) : Int)) (rn_ix hk (rn_if (fun g => rn_gd (by omega) (rn_some ⟨?_, by simp; omega, fun x => ?_⟩)) fun g => rn_some ⟨v1, by omega, fun x => ?_⟩)) fun w hw => rn_some (by exact hw)
       ·rw [List.pairwise_append]
        refine ⟨v1, by simp, fun x hx y hy => ?_⟩
        rw [List.mem_singleton.1 hy]
        exact ((v3 x).1 hx).2
       ·rw [List.mem_append, List.mem_singleton, v3]
        constructor
        ·rintro (⟨h, c⟩ | rfl)
         ·exact ⟨h, by omega⟩
         ·exact ⟨hsk.1 g, by omega⟩
        ·rintro ⟨h, c⟩
         by_cases c2 : x = (k : Int)
         ·exact .inr c2
         ·exact .inl ⟨h, by omega⟩
       ·rw [v3]
        constructor
        ·rintro ⟨h, c⟩; exact ⟨h, by omega⟩
        ·rintro ⟨h, c⟩
         refine ⟨h, ?_⟩
         by_cases c2 : x = (k : Int)
         ·rw [c2] at h
          rw [hsk.2 h] at g
          cases g
         ·omega
      ·rintro v ⟨v1, v2, v3⟩
       refine ⟨v1, fun x => ?_⟩
       rw [v3]
       exact ⟨fun h => h.1, fun h => ⟨h, by have := k2 x h; omega⟩⟩
      ·rintro v ⟨v1, v2⟩
       exact rn_some (by rw [zhq v1 k1 v2])
    ·exact eq_of_rn (rn_call (a := false) rfl (rn_f rfl (rn_call e (rn_some rfl))))
def SmL (k m : Nat) (l : List Reader) : Prop := l.length = k ∧ ∀ r ∈ l, r.Heads.length ≤ m ∧ ∀ h ∈ r.Heads, SmP h.Sign
theorem zfg {code c0 : List Int} {at_ seed n : Int} (hb : Bt code) (h : Cu code n (c0, at_, seed)) (hn : n ≤ 100000000000000) : Rn (zaJ c0 at_ seed) (fun z => (z.2.2.1.length ≤ 20 ∧ ∀ r ∈ z.2.2.1, ∀ h ∈ r.Heads, SmP h.Sign) ∧ Cu code (n + 1000) z.2.2.2.2) := by
 unfold zaJ
 refine rn_then (zhE hb h (by omega)) fun z1 ⟨_, ⟨h1, h2⟩, y1⟩ => ?_
 refine rn_then (zaF hb y1 (by omega)) fun z2 ⟨b0, _, b1, _, y2⟩ => ?_
 have b1 := b1 (by omega)
 obtain ⟨i, hi⟩ := Int.eq_ofNat_of_zero_le b0
 rw [hi, wr64 (n := 1 + (i : Int)) (by omega) (by omega)]
 rw [show 1 + (i : Int) = ((1 + i : Nat) : Int) by omega]
 have hm : 1 + i ≤ 5 := by omega
 have hm0 : 1 ≤ 1 + i := by omega
 generalize 1 + i = m at hm hm0 ⊢
 generalize z1.2.2.1 = hs at h1 h2 ⊢
 refine rn_gd (by omega) ?_
 rw [Option.bind_some, show ((m : Int)).toNat = m from rfl]
 refine rn_then (ψ := fun v => SmL m hs.length v.2 ∧ Cu code (n + 400) v.1) (rn_rloop (fun k s => SmL m k s.2 ∧ Cu code (n + 252 + 2 * k) s.1) ⟨⟨by simp, fun r hr => ?_⟩, y2.mono (by omega)⟩ ?_ ?_) ?_
 ·rw [List.eq_of_mem_replicate hr]
  exact ⟨by simp, fun h hh => by simp at hh⟩
 ·rintro k s hk ⟨⟨s1, s2⟩, s3⟩
  refine rn_ix hk (rn_then (zaF hb s3 (by omega)) fun z ⟨c0, c1, c2, _, y⟩ => ?_)
  have hc : z.1 < (m : Int) := by
   rcases Int.lt_or_le 1 (m : Int) with g | g
   ·exact c2 g
   ·have := c1 g; omega
  have hzl : z.1.toNat < s.2.length := by omega
  refine rn_call (zdM c0 (by omega)) ?_
  have hr := s2 _ (List.getElem_mem hzl)
  refine rn_gd (by have := hr.1; omega) (rn_some ⟨⟨?_, fun r hr' => ?_⟩, y.mono (by omega)⟩)
  ·show (s.2.set _ _).length = m
   rw [List.length_set]; exact s1
  ·rcases List.mem_or_eq_of_mem_set (show r ∈ s.2.set _ _ from hr') with h | rfl
   ·have := s2 r h
    exact ⟨by omega, this.2⟩
   ·refine ⟨by show (_ ++ [_]).length ≤ k + 1; rw [List.length_append]; have := hr.1; simp; omega, fun f hf => ?_⟩
    rcases List.mem_append.1 (show f ∈ _ ++ [_] from hf) with hf | hf
    ·exact hr.2 f hf
    ·rw [List.mem_singleton.1 hf]; exact h2 _ (List.getElem_mem hk)
 ·rintro s ⟨s1, s2⟩
  exact ⟨s1, s2.mono (by omega)⟩
 ·rintro v ⟨⟨v1, v2⟩, v3⟩
  refine rn_then (zaF hb v3 (by omega)) fun z3 ⟨c0, _, c1, _, y3⟩ => ?_
  have c1 := c1 (by omega)
  refine rn_then (ψ := fun w => (w.2.length : Int) ≤ 5 ∧ Cu code (n + 500) w.1) (rn_wloop (fun s => (0 ≤ s.2.2 ∧ (s.2.1.length : Int) + s.2.2 ≤ 5) ∧ Cu code (n + 450 - 4 * s.2.2) s.1) (fun s => s.2.2.toNat) ⟨⟨c0, by simp; omega⟩, y3.mono (by show _ ≤ n + 450 - 4 * z3.1; omega)⟩ ?_) fun w ⟨w1, w2⟩ => ?_
  ·rintro s ⟨⟨s1, s2⟩, s3⟩
   refine rn_then (ψ := fun t => t = true → 0 < s.2.2) (rn_if (fun g => rn_some fun _ => of_decide_eq_true g) fun _ => rn_some fun g => by cases g) fun t ht => ?_
   refine rn_if (fun g => ?_) fun _ => rn_some ⟨by show (s.2.1.length : Int) ≤ 5; omega, s3.mono (by omega)⟩
   have g0 := ht g
   refine rn_then (zaF hb s3 (by omega)) fun z5 ⟨_, _, _, _, y5⟩ => ?_
   refine rn_then (zaF hb y5 (by omega)) fun z6 ⟨_, _, _, _, y6⟩ => ?_
   have ew : IntKind.i64.wrap (s.2.2 - 1) = s.2.2 - 1 := wr64 (by omega) (by omega)
   refine rn_gd (by omega) (rn_gd (by omega) (rn_some ?_))
   rw [ew]
   exact ⟨⟨⟨by show 0 ≤ s.2.2 - 1; omega, by show (((s.2.1 ++ [_]).length : Nat) : Int) + (s.2.2 - 1) ≤ 5; simp; omega⟩, y6.mono (by show _ ≤ n + 450 - 4 * (s.2.2 - 1); omega)⟩, by show (s.2.2 - 1).toNat < s.2.2.toNat; omega⟩
  ·refine rn_then (zaF hb w2 (by omega)) fun z7 ⟨_, _, _, _, y7⟩ => ?_
   refine rn_then (ψ := fun x => (x.2.1.length ≤ 20 ∧ ∀ r ∈ x.2.1, ∀ h ∈ r.Heads, SmP h.Sign) ∧ Cu code (n + 600) x.1) ?_ fun x ⟨x1, x2⟩ => rn_some ⟨x1, x2.mono (by omega)⟩
   refine rn_if (fun _ => ?_) fun _ => rn_if (fun _ => ?_) fun _ => rn_some ⟨⟨by show v.2.length ≤ 20; omega, fun r hr => (v2 r hr).2⟩, y7.mono (by omega)⟩
   ·refine rn_then (zaF hb y7 (by omega)) fun z8 ⟨_, _, _, _, y8⟩ => rn_gd (by omega) (rn_some ⟨⟨by show v.2.length ≤ 20; omega, fun r hr => (v2 r hr).2⟩, y8.mono (by omega)⟩)
   ·refine rn_then (zaF hb y7 (by omega)) fun z8 ⟨d0, _, d1, _, y8⟩ => ?_
    have d1 := d1 (by omega)
    have ev : IntKind.i64.wrap (IntKind.i64.wrap (8 - (m : Int)) + z8.1) = 8 - (m : Int) + z8.1 := by
     rw [wr64 (n := 8 - (m : Int)) (by omega) (by omega), wr64 (by omega) (by omega)]
    rw [ev]
    refine rn_gd (by omega) (rn_gd (by omega) (rn_some ⟨⟨?_, fun r hr => ?_⟩, y8.mono (by omega)⟩))
    ·show (v.2 ++ List.replicate _ _).length ≤ 20
     rw [List.length_append, List.length_replicate]; omega
    ·rcases List.mem_append.1 (show r ∈ v.2 ++ List.replicate _ _ from hr) with hr | hr
     ·exact (v2 r hr).2
     ·rw [List.eq_of_mem_replicate hr]
      exact fun h hh => by simp at hh
theorem zkI (a b : List Int) (h0 : ∀ x ∈ a, 0 ≤ x ∧ x ≤ 255) (h1 : ∀ x ∈ b, 0 ≤ x ∧ x ≤ 255) (hl0 : a.length ≤ 1048576) (hl1 : b.length ≤ 1048576) : zcR a b = some true := by
 unfold zcR zem
 refine eq_of_rn (rn_then (ψ := fun _ => True) ?_ fun v _ => ?_)
 ·exact rn_then (ψ := fun _ => True) (rn_if (fun _ => rn_some trivial) fun _ => rn_some trivial) fun _ _ => rn_some trivial
 refine rn_if (fun _ => rn_some rfl) fun _ => ?_
 have d1 : Rn (zbx a) (fun z => z.1.length ≤ 20 ∧ ∀ r ∈ z.1, ∀ h ∈ r.Heads, SmP h.Sign) := by
  unfold zbx
  exact rn_then (zfg ⟨h0, hl0⟩ (cu0 a) (by omega)) fun z ⟨z1, _⟩ => rn_some z1
 refine rn_then d1 fun z ⟨s1, s2⟩ => ?_
 obtain ⟨w, f1, f2, f3, f4⟩ := zkT (l := z.1) (ps := z.2) (fun r hr h hh => zjl (s2 r hr h hh))
 refine rn_call f1 (rn_call f2 (rn_then (ψ := fun v => v = false) (rn_f (by simp) (rn_some (by simp))) ?_))
 rintro _ rfl
 refine rn_f rfl (rn_then (ψ := fun v => v = .inl ()) (rn_rloop (fun _ _ => True) trivial ?_ fun s _ => rfl) ?_)
 ·rintro k s hk _
  have hk2 : k < z.1.length := by omega
  refine rn_then (ψ := fun v => v = false) (rn_ix hk (rn_ix hk (rn_f (by simp) (rn_ix hk2 (rn_some ?_))))) ?_
  ·have := f4 k hk
   rw [← zer hk, ← zer hk2] at this
   exact decide_eq_false (by omega)
  ·rintro _ rfl
   exact rn_f rfl (rn_some trivial)
 ·rintro _ rfl
  have d2 : Rn (zbb b) (fun z => z.2.2.1.length ≤ 20 ∧ ∀ r ∈ z.2.2.1, ∀ h ∈ r.Heads, SmP h.Sign) := by
   unfold zbb
   exact rn_then (zfg ⟨h1, hl1⟩ (cu0 b) (by omega)) fun z ⟨z1, z2⟩ => rn_then (zc5 ⟨h1, hl1⟩ z2 (by omega) (by simp)) fun y _ => rn_some z1
  refine rn_then d2 fun z ⟨s1, s2⟩ => ?_
  have sm : ∀ r ∈ z.2.2.1, SmH r.Heads := fun r hr h hh => zjl (s2 r hr h hh)
  have e1 := fun c => zkU z.1 z.2.1 (ps := z.2.2.2.1) sm c
  have e2 := zkS z.1 z.2.1 (ps := z.2.2.2.1) sm z.2.2.2.2
  have hle := zhJ (gr := z.1) (ks := z.2.1) (l := z.2.2.1) (ps := z.2.2.2.1) (a := z.2.2.2.2)
  refine rn_call (e1 _) (rn_call e2 ?_)
  generalize zdI z.1 z.2.1 z.2.2.1 z.2.2.2.1 z.2.2.2.2 = d at hle ⊢
  refine rn_then (ψ := fun v => v = false) (rn_f (by simp) (rn_f (by simp) (rn_some (by simp)))) ?_
  rintro _ rfl
  refine rn_f rfl (rn_then (ψ := fun v => v = (d.2.2 && decide (0 < d.1))) (rn_if (fun g => rn_some (by rw [g]; rfl)) fun g => rn_some (by rw [g]; rfl)) ?_)
  rintro _ rfl
  refine rn_then (ψ := fun v => v = .inl ()) (rn_if (fun g => ?_) fun _ => rn_some rfl) ?_
  ·rw [Bool.and_eq_true, decide_eq_true_eq] at g
   obtain ⟨q1, q2⟩ := hle g.1 g.2
   rw [q1]
   exact rn_call (e1 _) (rn_f q2 (rn_some rfl))
  ·rintro _ rfl
   have d3 : Rn (zch b) (fun _ => True) := by
    unfold zch
    refine rn_then (zfg ⟨h1, hl1⟩ (cu0 b) (by omega)) fun z ⟨z1, z2⟩ => rn_then (zaF ⟨h1, hl1⟩ z2 (by omega)) fun y ⟨_, _, _, _, y1⟩ => rn_then (zaF ⟨h1, hl1⟩ y1 (by omega)) fun x _ => rn_some trivial
   refine rn_then d3 fun y _ => ?_
   obtain ⟨u, u1, u2⟩ := zj1 y.1 y.2.1 y.2.2
   refine rn_call u1 (rn_call u2 (rn_then (ψ := fun v => v = true) (rn_t (by simp) (rn_call zi3 (rn_some rfl))) ?_))
   rintro _ rfl
   exact rn_some rfl
end Go.Pm
