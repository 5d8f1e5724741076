/-
  FnWeeding: plain laws.
  No condition.
-/
import Derived.Test.YtikiohlamlipnaaGreatM27
import Derived.Test.YtikiohlamlipnaaGreatPmZ
namespace Go.Pm
open Go.Am
set_option linter.unusedVariables false
set_option linter.unusedSimpArgs false
theorem zeZ (a b c : Int) : zbx a b c = some (decide (b ≤ a) && decide (a ≤ c)) := by
 unfold zbx
 by_cases h : b ≤ a <;> simp [h]
theorem zhB (a b c : Int) : zcp a b c = some (decide (b ≤ a) && decide (a ≤ c)) := by
 unfold zcp
 by_cases h : b ≤ a <;> simp [h]
theorem zjj (a : Int) : zdm a = some (decide (2 ≤ a) && decide (a ≤ 2000000000)) := by
 unfold zdm
 rw [zeZ]; rfl
theorem zb3 (a b : Nat) : (a : Int).tmod (b : Int) = ((a % b : Nat) : Int) := by rw [Int.tmod_eq_emod_of_nonneg (by omega)]; exact (Int.natCast_emod _ _).symm
theorem zpU (a b : Nat) : (a : Int).tdiv (b : Int) = ((a / b : Nat) : Int) := by rw [Int.tdiv_eq_ediv_of_nonneg (by omega)]; exact (Int.natCast_ediv _ _).symm
theorem ze2 (a b : Nat) : (a : Int) * (b : Int) = ((a * b : Nat) : Int) := (Int.natCast_mul _ _).symm
theorem zsn {e : Nat} (he : e ≤ 9223372036854775807) : IntKind.i64.wrap (BitVec.ofInt IntKind.i64.bits (e : Int) &&& BitVec.ofInt IntKind.i64.bits 1).toNat = ((e % 2 : Nat) : Int) := by
 have h1 : (BitVec.ofInt IntKind.i64.bits (e : Int) &&& BitVec.ofInt IntKind.i64.bits 1).toNat = e % 2 := by
  rw [BitVec.toNat_and]
  have a1 : (BitVec.ofInt IntKind.i64.bits (e : Int)).toNat = e := by
   rw [BitVec.toNat_ofInt]
   have : IntKind.i64.bits = 64 := rfl
   rw [this]
   omega
  have a2 : (BitVec.ofInt IntKind.i64.bits 1).toNat = 1 := by decide
  rw [a1, a2, Nat.and_one_is_mod]
 rw [h1, zaB (by omega) (by omega)]
theorem zsu {a e m : Nat} (ha : a ≤ 2000000000) (hm : 1 ≤ m) (hm2 : m ≤ 2000000000) (he : e ≤ 9223372036854775807) : zcX (a : Int) (e : Int) (m : Int) = some ((a ^ e % m : Nat) : Int) := by
 unfold zcX
 refine za8 (zaL (by omega) (zad (φ := (· = ((a ^ e % m : Nat) : Int))) (ze7 (φ := (· = ((a ^ e % m : Nat) : Int))) (fun s => ∃ x y o : Nat, s = ((x : Int), (y : Int), (o : Int)) ∧ x ≤ 2000000000 ∧ y ≤ e ∧ o < m ∧ o * x ^ y % m = a ^ e % m) (fun s => s.2.1.toNat)
  ⟨a, e, 1 % m, by rw [show (1 : Int) = ((1 : Nat) : Int) from rfl, zb3], ha, Nat.le_refl _, Nat.mod_lt _ (by omega), by rw [Nat.mod_mul_mod, Nat.one_mul]⟩ ?_) fun x hx => zab hx))
 rintro s ⟨x, y, o, rfl, hx, hy, ho, hi⟩
 refine zaj (fun h0 => ?_) fun h0 => ?_
 ·have h0 : 0 < y := by simpa using h0
  have hox : o * x ≤ 4000000000000000000 := Nat.le_trans (Nat.mul_le_mul (show o ≤ 2000000000 by omega) hx) (by decide)
  have hxx : x * x ≤ 4000000000000000000 := Nat.le_trans (Nat.mul_le_mul hx hx) (by decide)
  refine zad (ψ := fun o' => ∃ k : Nat, o' = (k : Int) ∧ k < m ∧ k * (x * x) ^ (y / 2) % m = a ^ e % m) ?_ ?_
  ·simp only [zsn (show y ≤ 9223372036854775807 by omega)]
   refine zaj (fun h1 => zaL (by omega) (zab ⟨o * x % m, ?_, Nat.mod_lt _ (by omega), ?_⟩)) fun h1 => zab ⟨o, rfl, ho, ?_⟩
   ·rw [ze2, zaB (by omega) (by omega), zb3]
   ·have h1 : y % 2 = 1 := by
     have : ((y % 2 : Nat) : Int) = 1 := by simpa using h1
     omega
    rw [Nat.mod_mul_mod, ← hi, ← Nat.pow_two, ← Nat.pow_mul, Nat.mul_assoc, ← Nat.pow_succ']
    congr 3; omega
   have h1 : y % 2 = 0 := by
    have : ¬ ((y % 2 : Nat) : Int) = 1 := by simpa using h1
    omega
   rw [← hi, ← Nat.pow_two, ← Nat.pow_mul]
   congr 3; omega
  rintro o' ⟨k, rfl, hk, hk2⟩
  refine zaL (by omega) (zab ⟨⟨x * x % m, y / 2, k, ?_, by have := Nat.mod_lt (x * x) (show 0 < m by omega); omega, by omega, hk, ?_⟩, ?_⟩)
  ·rw [ze2, zaB (by omega) (by omega), zb3]
   have e3 : (y : Int).fdiv 2 = ((y / 2 : Nat) : Int) := by rw [Int.fdiv_eq_ediv_of_nonneg _ (by omega)]; rfl
   show (_, (y : Int).fdiv 2, _) = _
   rw [e3]
  ·rw [Nat.mul_mod, ← Nat.pow_mod, ← Nat.mul_mod]
   exact hk2
  show ((y : Int).fdiv 2).toNat < (y : Int).toNat
  rw [Int.fdiv_eq_ediv_of_nonneg _ (by omega)]
  omega
 have h0 : y = 0 := by
  have : ¬ (0 < y) := by simpa using h0
  omega
 subst h0
 refine zab ?_
 show (o : Int) = _
 rw [Nat.pow_zero, Nat.mul_one, Nat.mod_eq_of_lt ho] at hi
 rw [hi]
theorem zrP {a e m : Nat} (ha : a ≤ 2000000000) (hm : 1 ≤ m) (hm2 : m ≤ 2000000000) (he : e ≤ 9223372036854775807) : zbe (a : Int) (e : Int) (m : Int) = some ((a ^ e % m : Nat) : Int) := by
 unfold zbe
 refine za8 (zaL (by omega) (zad (φ := (· = ((a ^ e % m : Nat) : Int))) (ze7 (φ := (· = ((a ^ e % m : Nat) : Int))) (fun s => ∃ x y o : Nat, s = ((x : Int), (y : Int), (o : Int)) ∧ x ≤ 2000000000 ∧ y ≤ e ∧ o < m ∧ o * x ^ y % m = a ^ e % m) (fun s => s.2.1.toNat)
  ⟨a, e, 1 % m, by rw [show (1 : Int) = ((1 : Nat) : Int) from rfl, zb3], ha, Nat.le_refl _, Nat.mod_lt _ (by omega), by rw [Nat.mod_mul_mod, Nat.one_mul]⟩ ?_) fun x hx => zab hx))
 rintro s ⟨x, y, o, rfl, hx, hy, ho, hi⟩
 refine zaj (fun h0 => ?_) fun h0 => ?_
 ·have h0 : 0 < y := by simpa using h0
  have hox : o * x ≤ 4000000000000000000 := Nat.le_trans (Nat.mul_le_mul (show o ≤ 2000000000 by omega) hx) (by decide)
  have hxx : x * x ≤ 4000000000000000000 := Nat.le_trans (Nat.mul_le_mul hx hx) (by decide)
  have e2 : (y : Int).tmod 2 = ((y % 2 : Nat) : Int) := zb3 y 2
  refine zad (ψ := fun o' => ∃ k : Nat, o' = (k : Int) ∧ k < m ∧ k * (x * x) ^ (y / 2) % m = a ^ e % m) ?_ ?_
  ·simp only [e2]
   refine zaj (fun h1 => zaL (by omega) (zab ⟨o * x % m, ?_, Nat.mod_lt _ (by omega), ?_⟩)) fun h1 => zab ⟨o, rfl, ho, ?_⟩
   ·rw [ze2, zaB (by omega) (by omega), zb3]
   ·have h1 : y % 2 = 1 := by
     have : ((y % 2 : Nat) : Int) = 1 := by simpa using h1
     omega
    rw [Nat.mod_mul_mod, ← hi, ← Nat.pow_two, ← Nat.pow_mul, Nat.mul_assoc, ← Nat.pow_succ']
    congr 3; omega
   have h1 : y % 2 = 0 := by
    have : ¬ ((y % 2 : Nat) : Int) = 1 := by simpa using h1
    omega
   rw [← hi, ← Nat.pow_two, ← Nat.pow_mul]
   congr 3; omega
  rintro o' ⟨k, rfl, hk, hk2⟩
  have e3 : (y : Int).tdiv 2 = ((y / 2 : Nat) : Int) := zpU y 2
  refine zaL (by omega) (zab ⟨⟨x * x % m, y / 2, k, ?_, by have := Nat.mod_lt (x * x) (show 0 < m by omega); omega, by omega, hk, ?_⟩, ?_⟩)
  ·simp only [e3]
   rw [ze2, zaB (n := ((x * x : Nat) : Int)) (by omega) (by omega), zb3, zaB (n := ((y / 2 : Nat) : Int)) (by omega) (by omega)]
  ·rw [Nat.mul_mod, ← Nat.pow_mod, ← Nat.mul_mod]
   exact hk2
  show (IntKind.i64.wrap ((y : Int).tdiv 2)).toNat < (y : Int).toNat
  rw [e3, zaB (by omega) (by omega)]
  omega
 have h0 : y = 0 := by
  have : ¬ (0 < y) := by simpa using h0
  omega
 subst h0
 refine zab ?_
 show (o : Int) = _
 rw [Nat.pow_zero, Nat.mul_one, Nat.mod_eq_of_lt ho] at hi
 rw [hi]
theorem zuM {a q : Int} (h0 : 0 < q) (h1 : q ≤ 2000000000) : zfo a q = some (a % q) := by
 unfold zfo
 rw [zel (by omega), zel (by omega)]
 have b1 : a.tmod q < q := Int.tmod_lt_of_pos a h0
 have b2 : -q < a.tmod q := by
  have := Int.lt_tmod_of_pos a h0
  omega
 rw [zaB (by omega) (by omega), Int.tmod_eq_emod_of_nonneg (by omega)]
 congr 1
 rw [Int.add_emod_right]
 rw [Int.tmod_def, Int.sub_emod, Int.mul_emod_right, Int.sub_zero, Int.emod_emod]
theorem zpE {a q : Int} (h0 : 0 < q) (h1 : q ≤ 2000000000) : zdh a q = some (a % q) := by
 unfold zdh
 rw [zel (by omega), zel (by omega)]
 have b1 : a.tmod q < q := Int.tmod_lt_of_pos a h0
 have b2 : -q < a.tmod q := by
  have := Int.lt_tmod_of_pos a h0
  omega
 rw [zaB (by omega) (by omega), Int.tmod_eq_emod_of_nonneg (by omega)]
 congr 1
 rw [Int.add_emod_right]
 rw [Int.tmod_def, Int.sub_emod, Int.mul_emod_right, Int.sub_zero, Int.emod_emod]
def Pr (n : Nat) : Prop := 2 ≤ n ∧ ∀ d, 2 ≤ d → d * d ≤ n → n % d ≠ 0
open Classical in
noncomputable def prB (n : Int) : Bool := decide (Pr n.toNat)
theorem zer {n : Nat} : prB (n : Int) = true ↔ Pr n := by simp [prB]
theorem zh1 (n : Int) (h : n ≤ 2000000000) : zcA n = some (prB n) := by
 unfold zcA
 refine za8 (zaj (fun h0 => zab ?_) fun h0 => ?_)
 ·have h0 : n < 2 := by simpa using h0
  symm
  unfold prB
  rw [decide_eq_false_iff_not]
  intro hp
  have := hp.1
  omega
 have h0 : ¬ n < 2 := by simpa using h0
 obtain ⟨n, rfl⟩ := Int.eq_ofNat_of_zero_le (show 0 ≤ n by omega)
 refine zad (ψ := fun b => (b = .inl () ∧ Pr n) ∨ (b = .inr false ∧ ¬ Pr n)) (ze7 (fun s => ∃ d : Nat, s = (d : Int) ∧ 2 ≤ d ∧ d ≤ 44723 ∧ ∀ k, 2 ≤ k → k < d → k * k ≤ n → n % k ≠ 0) (fun s => 50000 - s.toNat) ⟨2, rfl, by omega, by omega, fun k h1 h2 => by omega⟩ ?_) ?_
 ·rintro s ⟨d, rfl, hd, hd2, hi⟩
  have hdd : d * d ≤ 2000146729 := Nat.le_trans (Nat.mul_le_mul hd2 hd2) (by decide)
  rw [ze2, zaB (by omega) (by omega)]
  refine zaj (fun h1 => zaL (by omega) (zaj (fun h2 => zab (.inr ⟨rfl, ?_⟩)) fun h2 => zab ?_)) fun h1 => zab (.inl ⟨rfl, by omega, fun k hk hkn => ?_⟩)
  ·have h1 : d * d ≤ n := by have := of_decide_eq_true h1; omega
   rw [zb3] at h2
   have h2 : n % d = 0 := by have : ((n % d : Nat) : Int) = 0 := by simpa using h2
                             omega
   exact fun hp => hp.2 d hd h1 h2
  ·have h1 : d * d ≤ n := by have := of_decide_eq_true h1; omega
   rw [zb3] at h2
   have h2 : n % d ≠ 0 := by have : ¬ ((n % d : Nat) : Int) = 0 := by simpa using h2
                             omega
   have hd3 : d ≤ 44722 := by
    rcases Nat.lt_or_ge d 44723 with h | h
    ·omega
    ·have : 44723 * 44723 ≤ d * d := Nat.mul_le_mul h h
     omega
   rw [zaB (by omega) (by omega)]
   refine ⟨⟨d + 1, rfl, by omega, by omega, fun k h3 h4 h5 => ?_⟩, by omega⟩
   rcases Nat.lt_or_ge k d with h | h
   ·exact hi k h3 h h5
   have : k = d := by omega
   subst this
   exact h2
  have h1 : n < d * d := by have := of_decide_eq_false h1; omega
  rcases Nat.lt_or_ge k d with h | h
  ·exact hi k hk h hkn
  have := Nat.mul_le_mul h h
  omega
 rintro b (⟨rfl, hp⟩ | ⟨rfl, hp⟩)
 ·exact zab (zer.2 hp).symm
 refine zab ?_
 symm
 unfold prB
 rw [decide_eq_false_iff_not]
 exact hp
theorem zla (n : Int) : zdi n = some (decide (n ≤ 2000000000) && prB n) := by
 unfold zdi
 by_cases h : 2 ≤ n ∧ n ≤ 2000000000
 ·obtain ⟨n, rfl⟩ := Int.eq_ofNat_of_zero_le (show 0 ≤ n by omega)
  have e2 : ((n : Int)).tmod 2 = ((n % 2 : Nat) : Int) := zb3 n 2
  have em : (decide (2 ≤ (n : Int)) && decide ((n : Int) ≤ 2000000000)) = true := by simp only [Bool.and_eq_true, decide_eq_true_eq]; exact h
  rw [show (decide ((n : Int) ≤ 2000000000) && prB (n : Int)) = prB (n : Int) by simp [h.2]]
  refine za8 (zad (ψ := fun b => b = decide (n % 2 = 0 ∧ n ≠ 2)) (zah (zjj _) ?_) ?_)
  ·rw [em]
   refine zcO rfl ?_
   rw [e2]
   refine zaj (fun h1 => zab ?_) fun h1 => zab ?_
   ·have h1 : n % 2 = 0 := by have : ((n % 2 : Nat) : Int) = 0 := by simpa using h1
                              omega
    have : ((n : Int) != 2) = decide (n ≠ 2) := by
     by_cases hn : n = 2
     ·subst hn; rfl
     ·have hn' : ¬ (n : Int) = 2 := by omega
      simp [hn, hn']
    rw [this]; simp [h1]
   have h1 : n % 2 ≠ 0 := by have : ¬ ((n % 2 : Nat) : Int) = 0 := by simpa using h1
                             omega
   simp [h1]
  rintro b rfl
  refine zaj (fun h1 => zab ?_) fun h1 => ?_
  ·have h1 := of_decide_eq_true h1
   symm
   unfold prB
   rw [decide_eq_false_iff_not]
   intro hp
   have hn : 4 ≤ n := by omega
   exact hp.2 2 (by omega) hn h1.1
  have h1 := of_decide_eq_false h1
  refine zad (ψ := fun b => (b = .inl () ∧ Pr n) ∨ (b = .inr false ∧ ¬ Pr n)) (ze7 (fun s => ∃ d : Nat, s = (d : Int) ∧ 3 ≤ d ∧ d % 2 = 1 ∧ d ≤ 44725 ∧ ∀ k, 2 ≤ k → k < d → k * k ≤ n → n % k ≠ 0) (fun s => 50000 - s.toNat) ⟨3, rfl, by omega, by omega, by omega, fun k h2 h3 h4 => ?_⟩ ?_) ?_
  ·have : k = 2 := by omega
   subst this
   intro h5
   exact h1 ⟨h5, by omega⟩
  ·rintro s ⟨d, rfl, hd, hodd, hd2, hi⟩
   have hdd : d * d ≤ 2000325625 := Nat.le_trans (Nat.mul_le_mul hd2 hd2) (by decide)
   rw [ze2, zaB (by omega) (by omega)]
   refine zaj (fun h1 => zaL (by omega) (zaj (fun h2 => zab (.inr ⟨rfl, ?_⟩)) fun h2 => zab ?_)) fun h1 => zab (.inl ⟨rfl, by omega, fun k hk hkn => ?_⟩)
   ·have h1 : d * d ≤ n := by have := of_decide_eq_true h1; omega
    rw [zb3] at h2
    have h2 : n % d = 0 := by have : ((n % d : Nat) : Int) = 0 := by simpa using h2
                              omega
    exact fun hp => hp.2 d (by omega) h1 h2
   ·have h3 : d * d ≤ n := by have := of_decide_eq_true h1; omega
    rw [zb3] at h2
    have h2 : n % d ≠ 0 := by have : ¬ ((n % d : Nat) : Int) = 0 := by simpa using h2
                              omega
    have hd3 : d ≤ 44722 := by
     rcases Nat.lt_or_ge d 44723 with h | h
     ·omega
     ·have : 44723 * 44723 ≤ d * d := Nat.mul_le_mul h h
      omega
    rw [zaB (by omega) (by omega)]
    refine ⟨⟨d + 2, rfl, by omega, by omega, by omega, fun k h4 h5 h6 h7 => ?_⟩, by omega⟩
    rcases Nat.lt_or_ge k d with h | h
    ·exact hi k h4 h h6 h7
    rcases (show k = d ∨ k = d + 1 by omega) with e | e
    ·subst e; exact h2 h7
    have h8 : n % 2 = 0 := by
     have a1 : k ∣ n := Nat.dvd_of_mod_eq_zero h7
     have a2 : 2 ∣ k := Nat.dvd_of_mod_eq_zero (by omega)
     exact Nat.mod_eq_zero_of_dvd (Nat.dvd_trans a2 a1)
    have h9 : 2 * 2 ≤ n := by
     have := Nat.mul_le_mul h4 h4
     omega
    exact hi 2 (by omega) (by omega) h9 h8
   have h1 : n < d * d := by have := of_decide_eq_false h1; omega
   rcases Nat.lt_or_ge k d with h | h
   ·exact hi k hk h hkn
   have := Nat.mul_le_mul h h
   omega
  rintro b (⟨rfl, hp⟩ | ⟨rfl, hp⟩)
  ·exact zab (zer.2 hp).symm
  refine zab ?_
  symm
  unfold prB
  rw [decide_eq_false_iff_not]
  exact hp
 have em : (decide (2 ≤ n) && decide (n ≤ 2000000000)) = false := by
  rw [Bool.and_eq_false_iff, decide_eq_false_iff_not, decide_eq_false_iff_not]; omega
 rw [zjj, em]
 simp only [Option.bind_some, Bool.not_false, if_true]
 congr 1
 symm
 rw [Bool.and_eq_false_iff, decide_eq_false_iff_not]
 by_cases hn : n ≤ 2000000000
 ·right
  unfold prB
  rw [decide_eq_false_iff_not]
  intro hp
  have := hp.1
  omega
 exact .inl hn
structure OkG (gr : Group) : Prop where
 p : 3 ≤ gr.P ∧ gr.P ≤ 2000000000
 q : 2 ≤ gr.Q ∧ gr.Q ≤ gr.P - 1
 d : (gr.P.toNat - 1) % gr.Q.toNat = 0
 g : 2 ≤ gr.G ∧ gr.G ≤ gr.P - 1
 pp : Pr gr.P.toNat
 pq : Pr gr.Q.toNat
 o : gr.G.toNat ^ gr.Q.toNat % gr.P.toNat = 1
open Classical in
noncomputable def okG (gr : Group) : Bool := decide (OkG gr)
theorem zj4 {gr : Group} : okG gr = true ↔ OkG gr := by simp [okG]
theorem zep {gr : Group} (h : ¬ OkG gr) : okG gr = false := by simp [okG, h]
theorem zqx {gr : Group} {b : Bool} (h1 : b = true → OkG gr) (h2 : OkG gr → b = true) : b = okG gr := by
 cases hb : b with
 | true => exact (zj4.2 (h1 hb)).symm
 | false => exact (zep fun h => by rw [h2 h] at hb; cases hb).symm
theorem zcN {a : Int} (h : 0 ≤ a) : a = ((a.toNat : Nat) : Int) := by omega
theorem zft {a e m : Int} (ha : 0 ≤ a) (ha2 : a ≤ 2000000000) (hm : 1 ≤ m) (hm2 : m ≤ 2000000000) (he : 0 ≤ e) (he2 : e ≤ 9223372036854775807) : zcX a e m = some ((a.toNat ^ e.toNat % m.toNat : Nat) : Int) ∧ zbe a e m = some ((a.toNat ^ e.toNat % m.toNat : Nat) : Int) := by
 have h1 := zsu (a := a.toNat) (e := e.toNat) (m := m.toNat) (by omega) (by omega) (by omega) (by omega)
 have h2 := zrP (a := a.toNat) (e := e.toNat) (m := m.toNat) (by omega) (by omega) (by omega) (by omega)
 rw [← zcN ha, ← zcN he, ← zcN (show 0 ≤ m by omega)] at h1 h2
 exact ⟨h1, h2⟩
theorem zg0 {a b : Bool} : (a && b) = true ↔ a = true ∧ b = true := by simp
theorem zhJ (gr : Group) : zcG gr = some (okG gr) := by
 unfold zcG
 refine za8 (zad (ψ := fun b => b = okG gr) ?_ fun b hb => zab hb)
 refine zah (zeZ _ _ _) (zaj (fun h => ?_) fun h => ?_)
 ·have hp : 3 ≤ gr.P ∧ gr.P ≤ 2000000000 := by simpa using h
  rw [zaB (n := gr.P - 1) (by omega) (by omega)]
  refine zah (zeZ _ _ _) (zaj (fun h => ?_) fun h => ?_)
  ·have hq : 2 ≤ gr.Q ∧ gr.Q ≤ gr.P - 1 := by simpa using h
   have ed : (gr.P - 1).tmod gr.Q = (((gr.P.toNat - 1) % gr.Q.toNat : Nat) : Int) := by
    rw [zcN (show 0 ≤ gr.P - 1 by omega), zcN (show 0 ≤ gr.Q by omega), zb3]
    simp only [Int.toNat_natCast]
    congr 2; omega
   refine zaL (by omega) ?_
   rw [ed]
   refine zaj (fun h => ?_) fun h => ?_
   ·have hd : (gr.P.toNat - 1) % gr.Q.toNat = 0 := by
     have : (((gr.P.toNat - 1) % gr.Q.toNat : Nat) : Int) = 0 := by simpa using h
     omega
    refine zah (zeZ _ _ _) (zaj (fun h => ?_) fun h => ?_)
    ·have hg : 2 ≤ gr.G ∧ gr.G ≤ gr.P - 1 := by simpa using h
     refine zah (zla _) (zaj (fun h => ?_) fun h => ?_)
     ·have hpp : Pr gr.P.toNat := by
       rw [zg0, zcN (show 0 ≤ gr.P by omega), zer] at h
       exact h.2
      refine zah (zla _) (zaj (fun h => ?_) fun h => ?_)
      ·have hpq : Pr gr.Q.toNat := by
        rw [zg0, zcN (show 0 ≤ gr.Q by omega), zer] at h
        exact h.2
       refine zah (zft (a := gr.G) (e := gr.Q) (m := gr.P) (by omega) (by omega) (by omega) (by omega) (by omega) (by omega)).1 (zab (zqx (fun h => ⟨hp, hq, hd, hg, hpp, hpq, ?_⟩) fun h => ?_))
       ·have : ((gr.G.toNat ^ gr.Q.toNat % gr.P.toNat : Nat) : Int) = 1 := by simpa using h
        omega
       rw [h.o]; rfl
      refine zab (zep fun hk => ?_).symm
      have : (decide (gr.Q ≤ 2000000000) && prB gr.Q) = true := by
       rw [zg0, zcN (show 0 ≤ gr.Q by omega), zer]
       exact ⟨by simp; omega, hk.pq⟩
      rw [this] at h; cases h
     refine zab (zep fun hk => ?_).symm
     have : (decide (gr.P ≤ 2000000000) && prB gr.P) = true := by
      rw [zg0, zcN (show 0 ≤ gr.P by omega), zer]
      exact ⟨by simp; omega, hk.pp⟩
     rw [this] at h; cases h
    refine zab (zep fun hk => ?_).symm
    have := hk.g
    simp at h; omega
   refine zab (zep fun hk => ?_).symm
   rw [hk.d] at h; cases h
  refine zab (zep fun hk => ?_).symm
  have := hk.q
  simp at h; omega
 refine zab (zep fun hk => ?_).symm
 have := hk.p
 simp at h; omega
theorem zhO (gr : Group) : zc2 gr = some (okG gr) := by
 unfold zc2
 refine za8 (zad (ψ := fun b => b = okG gr) ?_ fun b hb => zab hb)
 refine zah (zhB _ _ _) (zaj (fun h => ?_) fun h => ?_)
 ·have hp : 3 ≤ gr.P ∧ gr.P ≤ 2000000000 := by simpa using h
  rw [zaB (n := gr.P - 1) (by omega) (by omega)]
  refine zah (zhB _ _ _) (zaj (fun h => ?_) fun h => ?_)
  ·have hq : 2 ≤ gr.Q ∧ gr.Q ≤ gr.P - 1 := by simpa using h
   have ed : (gr.P - 1).tmod gr.Q = (((gr.P.toNat - 1) % gr.Q.toNat : Nat) : Int) := by
    rw [zcN (show 0 ≤ gr.P - 1 by omega), zcN (show 0 ≤ gr.Q by omega), zb3]
    simp only [Int.toNat_natCast]
    congr 2; omega
   refine zaL (by omega) ?_
   rw [ed]
   refine zaj (fun h => ?_) fun h => ?_
   ·have hd : (gr.P.toNat - 1) % gr.Q.toNat = 0 := by
     have : (((gr.P.toNat - 1) % gr.Q.toNat : Nat) : Int) = 0 := by simpa using h
     omega
    refine zah (zhB _ _ _) (zaj (fun h => ?_) fun h => ?_)
    ·have hg : 2 ≤ gr.G ∧ gr.G ≤ gr.P - 1 := by simpa using h
     refine zah (zft (a := gr.G) (e := gr.Q) (m := gr.P) (by omega) (by omega) (by omega) (by omega) (by omega) (by omega)).2 (zaj (fun h => ?_) fun h => ?_)
     ·have ho : gr.G.toNat ^ gr.Q.toNat % gr.P.toNat = 1 := by
       have : ((gr.G.toNat ^ gr.Q.toNat % gr.P.toNat : Nat) : Int) = 1 := by simpa using h
       omega
      refine zah (zh1 _ (by omega)) (zaj (fun h => ?_) fun h => ?_)
      ·have hpq : Pr gr.Q.toNat := by
        rw [zcN (show 0 ≤ gr.Q by omega), zer] at h
        exact h
       refine zah (zh1 _ (by omega)) (zab (zqx (fun h => ⟨hp, hq, hd, hg, ?_, hpq, ho⟩) fun h => ?_))
       ·rw [zcN (show 0 ≤ gr.P by omega), zer] at h
        exact h
       rw [zcN (show 0 ≤ gr.P by omega), zer]
       exact h.pp
      refine zab (zep fun hk => ?_).symm
      have : prB gr.Q = true := by
       rw [zcN (show 0 ≤ gr.Q by omega), zer]
       exact hk.pq
      rw [this] at h; cases h
     refine zab (zep fun hk => ?_).symm
     rw [hk.o] at h; cases h
    refine zab (zep fun hk => ?_).symm
    have := hk.g
    simp at h; omega
   refine zab (zep fun hk => ?_).symm
   rw [hk.d] at h; cases h
  refine zab (zep fun hk => ?_).symm
  have := hk.q
  simp at h; omega
 refine zab (zep fun hk => ?_).symm
 have := hk.p
 simp at h; omega
def zbh (gr : Group) (x : Int) : Bool := decide (1 ≤ x) && decide (x ≤ gr.P - 1) && decide (x.toNat ^ gr.Q.toNat % gr.P.toNat = 1)
def zek (gr : Group) (x : Int) : Bool := decide (0 ≤ x) && decide (x ≤ gr.Q - 1)
theorem zoR {gr : Group} (k : OkG gr) (x : Int) : zce gr x = some (zbh gr x) := by
 have hp := k.p
 have hq := k.q
 unfold zce zbh
 rw [zaB (n := gr.P - 1) (by omega) (by omega), zeZ]
 refine za8 (zad (ψ := fun b => b = _) ?_ fun b hb => zab hb)
 refine zah rfl (zaj (fun h => ?_) fun h => ?_)
 ·have hx : 1 ≤ x ∧ x ≤ gr.P - 1 := by simpa using h
  refine zah (zft (a := x) (e := gr.Q) (m := gr.P) (by omega) (by omega) (by omega) (by omega) (by omega) (by omega)).1 (zab ?_)
  rw [h, Bool.true_and]
  by_cases h1 : x.toNat ^ gr.Q.toNat % gr.P.toNat = 1
  ·simp [h1]
  have : ¬ ((x.toNat ^ gr.Q.toNat % gr.P.toNat : Nat) : Int) = 1 := by omega
  rw [beq_false_of_ne this, decide_eq_false h1]
 rw [h]; exact zab rfl
theorem zo2 {gr : Group} (k : OkG gr) (l : List Int) : zd5 gr l = some (l.all (zbh gr)) := by
 have hp := k.p
 have hq := k.q
 unfold zd5
 rw [zaB (n := gr.P - 1) (by omega) (by omega)]
 refine za8 (zad (ψ := fun b => (b = .inl () ∧ l.all (zbh gr) = true) ∨ (b = .inr false ∧ l.all (zbh gr) = false)) (zbX (fun i s => (l.take i).all (zbh gr) = true) rfl ?_ ?_) ?_)
 ·rintro i s hi hI
  refine zbb hi (zad (ψ := fun b => b = !zbh gr l[i]) ?_ ?_)
  ·refine zah (zhB _ _ _) (zaj (fun h => zab ?_) fun h => ?_)
   ·have h : (decide (1 ≤ l[i]) && decide (l[i] ≤ gr.P - 1)) = false := by rwa [Bool.not_eq_true'] at h
    simp [zbh, h]
   have h : (decide (1 ≤ l[i]) && decide (l[i] ≤ gr.P - 1)) = true := by simpa using h
   have hx : 1 ≤ l[i] ∧ l[i] ≤ gr.P - 1 := by simpa using h
   refine zah (zft (a := l[i]) (e := gr.Q) (m := gr.P) (by omega) (by omega) (by omega) (by omega) (by omega) (by omega)).2 (zab ?_)
   simp only [zbh, h, Bool.true_and]
   by_cases h1 : l[i].toNat ^ gr.Q.toNat % gr.P.toNat = 1
   ·simp [h1]
   have : ¬ ((l[i].toNat ^ gr.Q.toNat % gr.P.toNat : Nat) : Int) = 1 := by omega
   simp only [bne, beq_false_of_ne this, decide_eq_false h1]
  rintro b rfl
  refine zaj (fun h => zab (.inr ⟨rfl, ?_⟩)) fun h => zab ?_
  ·have h : zbh gr l[i] = false := by simpa using h
   rw [List.all_eq_false]
   exact ⟨l[i], List.getElem_mem hi, by simp [h]⟩
  have h : zbh gr l[i] = true := by simpa using h
  show (l.take (i + 1)).all (zbh gr) = true
  rw [List.take_succ_eq_append_getElem hi, List.all_append, hI]
  simp [h]
 ·rintro s hI
  rw [List.take_length] at hI
  exact .inl ⟨rfl, hI⟩
 rintro b (⟨rfl, h⟩ | ⟨rfl, h⟩)
 ·exact zab h.symm
 exact zab h.symm
theorem zsy (l : List Int) (a b : Int) : zeA l a b = some (l.all fun x => decide (a ≤ x) && decide (x ≤ b)) := by
 unfold zeA
 refine za8 (zad (ψ := fun c => (c = .inl () ∧ (l.all fun x => decide (a ≤ x) && decide (x ≤ b)) = true) ∨ (c = .inr false ∧ (l.all fun x => decide (a ≤ x) && decide (x ≤ b)) = false)) (zbX (fun i s => ((l.take i).all fun x => decide (a ≤ x) && decide (x ≤ b)) = true) rfl ?_ ?_) ?_)
 ·rintro i s hi hI
  refine zbb hi (zah (zhB _ _ _) (zaj (fun h => zab (.inr ⟨rfl, ?_⟩)) fun h => zab ?_))
  ·rw [List.all_eq_false]
   exact ⟨l[i], List.getElem_mem hi, by rw [Bool.not_eq_true'] at h; rw [h]; simp⟩
  show ((l.take (i + 1)).all fun x => decide (a ≤ x) && decide (x ≤ b)) = true
  rw [List.take_succ_eq_append_getElem hi, List.all_append, hI]
  simpa using h
 ·rintro s hI
  rw [List.take_length] at hI
  exact .inl ⟨rfl, hI⟩
 rintro c (⟨rfl, h⟩ | ⟨rfl, h⟩)
 ·exact zab h.symm
 exact zab h.symm
theorem zkR {gr : Group} (h : 0 ≤ gr.Q) (h2 : gr.Q ≤ 2000000000) (l : List Int) : zdk gr l = some (l.all (zek gr)) := by
 unfold zdk
 rw [zaB (by omega) (by omega), zsy]; rfl
theorem zsh {gr : Group} (h : 0 ≤ gr.Q) (h2 : gr.Q ≤ 2000000000) (x : Int) : zcY gr x = some (zek gr x) := by
 unfold zcY
 rw [zaB (by omega) (by omega), zeZ]; rfl
def zbS (gr : Group) (x e : Int) : Int := ((x.toNat ^ (e % gr.Q).toNat % gr.P.toNat : Nat) : Int)
theorem zkJ {gr : Group} (k : OkG gr) (x e : Int) : 0 ≤ zbS gr x e ∧ zbS gr x e ≤ gr.P - 1 := by
 have hp := k.p
 unfold zbS
 have := Nat.mod_lt (x.toNat ^ (e % gr.Q).toNat) (y := gr.P.toNat) (by omega)
 omega
theorem zkd {gr : Group} (k : OkG gr) {x : Int} (h0 : 0 ≤ x) (h1 : x ≤ 2000000000) (e : Int) : zaZ gr x e = some (zbS gr x e) ∧ zaH gr x e = some (zbS gr x e) := by
 have hp := k.p
 have hq := k.q
 have b1 : 0 ≤ e % gr.Q := Int.emod_nonneg _ (by omega)
 have b2 : e % gr.Q < gr.Q := Int.emod_lt_of_pos _ (by omega)
 have hw := zft (a := x) (e := e % gr.Q) (m := gr.P) (by omega) (by omega) (by omega) (by omega) b1 (by omega)
 unfold zaZ zaH
 rw [zuM (by omega) (by omega), zpE (by omega) (by omega), Option.bind_some, Option.bind_some, hw.1, hw.2]
 exact ⟨rfl, rfl⟩
def zd4 (gr : Group) (l : List Int) : Int := l.foldl (fun o x => o * x % gr.P) 1
theorem zmr {gr : Group} (h : 1 ≤ gr.P) : ∀ (l : List Int) (o : Int), 0 ≤ o → o ≤ gr.P → (∀ x ∈ l, 0 ≤ x) → 0 ≤ l.foldl (fun o x => o * x % gr.P) o ∧ l.foldl (fun o x => o * x % gr.P) o ≤ gr.P := by
 intro l
 induction l with
 | nil => intro o h0 h1 _; exact ⟨h0, h1⟩
 | cons x l ih =>
  intro o h0 h1 h2
  exact ih _ (Int.emod_nonneg _ (by omega)) (Int.le_of_lt (Int.emod_lt_of_pos (o * x) (show 0 < gr.P by omega))) fun y hy => h2 y (List.mem_cons_of_mem _ hy)
theorem zs9 (gr : Group) (l : List Int) : zcT gr l = zbu gr l := rfl
theorem zoi {gr : Group} (k : OkG gr) {l : List Int} (hl : ∀ x ∈ l, 0 ≤ x ∧ x ≤ 2000000000) : zbu gr l = some (zd4 gr l) := by
 have hp := k.p
 unfold zbu
 refine za8 (zad (ψ := fun b => b = zd4 gr l) (zbX (fun i s => s = (l.take i).foldl (fun o x => o * x % gr.P) 1) rfl ?_ ?_) fun b hb => zab hb)
 ·rintro i s hi rfl
  have hb := zmr (gr := gr) (by omega) (l.take i) 1 (by omega) (by omega) fun x hx => (hl x (List.mem_of_mem_take hx)).1
  have hx := hl l[i] (List.getElem_mem hi)
  refine zbb hi (zaL (by omega) (zab ?_))
  show _ = (l.take (i + 1)).foldl _ _
  rw [List.take_succ_eq_append_getElem hi, List.foldl_append]
  generalize (l.take i).foldl (fun o x => o * x % gr.P) 1 = o at hb ⊢
  have b1 : 0 ≤ o * l[i] := Int.mul_nonneg hb.1 hx.1
  have b2 : o * l[i] ≤ 2000000000 * 2000000000 := Int.mul_le_mul (by omega) hx.2 hx.1 (by omega)
  show (IntKind.i64.wrap (o * l[i])).tmod gr.P = o * l[i] % gr.P
  rw [zaB (by omega) (by omega), Int.tmod_eq_emod_of_nonneg b1]
 rintro s rfl
 rw [List.take_length]; rfl
theorem zqN {gr : Group} (k : OkG gr) {l : List Int} (hl : ∀ x ∈ l, 0 ≤ x ∧ x ≤ 2000000000) : zcT gr l = some (zd4 gr l) := by rw [zs9]; exact zoi k hl
theorem zsV {gr : Group} (k : OkG gr) {l : List Int} (hl : ∀ x ∈ l, 0 ≤ x ∧ x ≤ 2000000000) : 0 ≤ zd4 gr l ∧ zd4 gr l ≤ gr.P := by
 have hp := k.p
 exact zmr (by omega) l 1 (by omega) (by omega) fun x hx => (hl x hx).1
theorem zrj {gr : Group} (k : OkG gr) (l : List Int) : zcF gr l = some (l.all (zbh gr)) := by
 unfold zcF zbJ zaC zaF
 refine za8 (zad (ψ := fun b => b = l.all (zbh gr)) (zad (ψ := fun b => b = !l.all (zbh gr)) (zad (ψ := fun j => (j = -1 ∧ l.all (zbh gr) = true) ∨ (0 ≤ j ∧ l.all (zbh gr) = false)) (zad (ψ := fun b => (b = .inl () ∧ l.all (zbh gr) = true) ∨ (∃ j, b = .inr j ∧ 0 ≤ j ∧ l.all (zbh gr) = false)) (zbX (fun i s => (l.take i).all (zbh gr) = true) rfl ?_ ?_) ?_) ?_) ?_) ?_)
 ·rintro i s hi hI
  have hc : zba l[i] gr = some (!zbh gr l[i]) := by
   unfold zba
   rw [zoR k]; rfl
  refine zbb hi (zah hc (zaj (fun h => zab (.inr ⟨i, rfl, by omega, ?_⟩)) fun h => zab ?_))
  ·rw [List.all_eq_false]
   exact ⟨l[i], List.getElem_mem hi, by rw [Bool.not_eq_true'] at h; rw [h]; simp⟩
  show (l.take (i + 1)).all (zbh gr) = true
  rw [List.take_succ_eq_append_getElem hi, List.all_append, hI]
  simpa using h
 ·rintro s hI
  rw [List.take_length] at hI
  exact .inl ⟨rfl, hI⟩
 ·rintro b (⟨rfl, h⟩ | ⟨j, rfl, h0, h⟩)
  ·exact zab (.inl ⟨rfl, h⟩)
  exact zab (.inr ⟨h0, h⟩)
 ·rintro j (⟨rfl, h⟩ | ⟨h0, h⟩)
  ·exact zab (by rw [h]; rfl)
  exact zab (by rw [h]; simpa using h0)
 ·rintro b rfl
  exact zab (by simp)
 rintro b rfl
 exact zab rfl
theorem zl1 {gr : Group} {x : Int} (h : zbh gr x = true) : 1 ≤ x ∧ x ≤ gr.P - 1 := by
 simp only [zbh, Bool.and_eq_true, decide_eq_true_eq] at h
 exact h.1
theorem zr4 {α : Type} (b : Bool) (u v : α) : (if b = true then some u else some v) = some (if (!b) = true then v else u) := by cases b <;> rfl
theorem zwb {α : Type} (b : Bool) (u v : α) : (if (!b) = true then some u else some v) = some (if b = true then v else u) := by cases b <;> rfl
theorem zi3 {β : Type} {body : Int → Unit → Option (Stp Unit (Unit ⊕ β))} (m : Nat) (p : Nat → Bool) (val : Nat → β) (h : ∀ k, k < m → body (k : Int) () = some (if p k = true then .go () else .out (.inr (val k)))) :
 (zaQ body (fun _ => .inl ()) m 0 () = some (.inl ()) ∧ ∀ k, k < m → p k = true) ∨ ∃ k, k < m ∧ p k = false ∧ (∀ j, j < k → p j = true) ∧ zaQ body (fun _ => .inl ()) m 0 () = some (.inr (val k)) := by
 have key : Rn (zaQ body (fun _ => Sum.inl ()) m 0 ()) (fun b => (b = .inl () ∧ ∀ k, k < m → p k = true) ∨ ∃ k, k < m ∧ p k = false ∧ (∀ j, j < k → p j = true) ∧ b = .inr (val k)) := by
  refine zbX (fun k _ => ∀ j, j < k → p j = true) (fun j hj => by omega) ?_ fun s hs => .inl ⟨rfl, hs⟩
  intro k s hk hI
  refine ⟨_, h k hk, ?_⟩
  cases hp : p k with
  | true =>
   intro j hj
   rcases Nat.lt_or_ge j k with h | h
   ·exact hI j h
   ·have : j = k := by omega
    rw [this]; exact hp
  | false => exact .inr ⟨k, hk, hp, hI, rfl⟩
 obtain ⟨b, e, h1 | ⟨k, h1, h2, h3, h4⟩⟩ := key
 ·exact .inl ⟨by rw [e, h1.1], h1.2⟩
 exact .inr ⟨k, h1, h2, h3, by rw [e, h4]⟩
theorem zrU {α : Type} (l : List α) (p : α → Bool) (c : Bool) {body : Int → Unit → Option (Stp Unit (Unit ⊕ Bool))} (h : ∀ k (hk : k < l.length), body (k : Int) () = some (if p l[k] = true then .go () else .out (.inr c))) :
 (zaQ body (fun _ => .inl ()) l.length 0 ()).bind (Sum.elim (fun _ => some (!c)) some) = some (if l.all p = true then !c else c) := by
 rcases zi3 (body := body) l.length (fun k => (l[k]?).any p) (fun _ => c) (fun k hk => by rw [h k hk, List.getElem?_eq_getElem hk]; rfl) with ⟨e, h1⟩ | ⟨k, h1, h2, h3, e⟩
 ·rw [e]
  have : l.all p = true := by
   rw [List.all_eq_true]
   intro x hx
   obtain ⟨k, hk, rfl⟩ := List.mem_iff_getElem.1 hx
   have := h1 k hk
   rw [List.getElem?_eq_getElem hk] at this
   exact this
  rw [this]; rfl
 rw [e]
 have : l.all p = false := by
  rw [List.all_eq_false]
  refine ⟨l[k], List.getElem_mem h1, ?_⟩
  rw [List.getElem?_eq_getElem h1] at h2
  simpa using h2
 rw [this]; rfl
theorem zkE (l : List Int) (x : Int) : zcU l x = some (l.contains x) := by
 unfold zcU
 have := zrU l (fun y => !(y == x)) true (body := fun i8 s7 => (ix l i8).bind fun x17 => if (x17 == x) = true then some (.out (.inr true)) else some (.go ())) fun k hk => by
  rw [zf9 hk, Option.bind_some]
  exact zr4 _ _ _
 rw [show (!true) = false from rfl] at this
 refine this.trans ?_
 congr 1
 cases hc : l.contains x with
 | true =>
  have hm : x ∈ l := by simpa using hc
  have : (l.all fun y => !(y == x)) = false := by
   rw [List.all_eq_false]
   exact ⟨x, hm, by simp⟩
  rw [this]; rfl
 | false =>
  have hm : ¬ x ∈ l := by simpa using hc
  have : (l.all fun y => !(y == x)) = true := by
   rw [List.all_eq_true]
   intro y hy
   have : y ≠ x := fun e => hm (e ▸ hy)
   simp [this]
  rw [this]; rfl
theorem zsE (l : List Int) (x : Int) : (zbB l x = some (-1) ∧ ¬ x ∈ l) ∨ ∃ k, ∃ h : k < l.length, zbB l x = some (k : Int) ∧ l[k] = x ∧ ∀ j (hj : j < k), l[j]'(by omega) ≠ x := by
 unfold zbB
 rcases zi3 l.length (fun k => (l[k]?).any fun y => !(x == y)) (fun k => (k : Int)) (body := fun i8 s7 => (ix l i8).bind fun x17 => if (x == x17) = true then some (.out (.inr i8)) else some (.go ())) (fun k hk => by
  rw [zf9 hk, Option.bind_some, List.getElem?_eq_getElem hk]
  exact zr4 _ _ _) with ⟨e, h1⟩ | ⟨k, h1, h2, h3, e⟩
 ·refine .inl ⟨by rw [e]; rfl, fun hx => ?_⟩
  obtain ⟨k, hk, rfl⟩ := List.mem_iff_getElem.1 hx
  have := h1 k hk
  rw [List.getElem?_eq_getElem hk] at this
  simp at this
 refine .inr ⟨k, h1, by rw [e]; rfl, ?_, fun j hj => ?_⟩
 ·rw [List.getElem?_eq_getElem h1] at h2
  simp at h2
  exact h2.symm
 have := h3 j hj
 rw [List.getElem?_eq_getElem (by omega)] at this
 simp at this
 exact fun e => this e.symm
theorem zgg (l : List Int) (x : Int) : zaR l x = some (l.contains x) := by
 unfold zaR
 rcases zsE l x with ⟨e, h⟩ | ⟨k, hk, e, h, _⟩
 ·rw [e]
  have : l.contains x = false := by simpa using h
  rw [this]; rfl
 rw [e]
 have : l.contains x = true := by
  have := List.getElem_mem hk
  rw [h] at this
  simpa using this
 rw [this]
 simp
theorem zkj {l : List Int} {p : Int → Bool} {f : Int → Option Bool} (hf : ∀ x ∈ l, f x = some (!p x)) :
 ((((zaQ (σ := Unit) (β := Unit ⊕ Int) (fun i8 s7 => (ix l i8).bind fun x17 => (f x17).bind fun z20 => if z20 = true then (some (.out (.inr i8))) else (some (.go ()))) (fun s7 => .inl ()) (l.length) 0 () : Option (Unit ⊕ Int)).bind (Sum.elim (fun (x5 : Unit) => some (-1)) some)).bind fun z1 => some (decide (0 ≤ z1))).bind fun z1 => some (!z1)) = some (l.all p) := by
 rcases zi3 l.length (fun k => (l[k]?).any p) (fun k => (k : Int)) (body := fun i8 s7 => (ix l i8).bind fun x17 => (f x17).bind fun z20 => if z20 = true then (some (.out (.inr i8))) else (some (.go ()))) (fun k hk => by
  rw [zf9 hk, Option.bind_some, hf _ (List.getElem_mem hk), Option.bind_some, List.getElem?_eq_getElem hk]
  exact zwb _ _ _) with ⟨e, h1⟩ | ⟨k, h1, h2, h3, e⟩
 ·rw [e]
  have : l.all p = true := by
   rw [List.all_eq_true]
   intro x hx
   obtain ⟨k, hk, rfl⟩ := List.mem_iff_getElem.1 hx
   have := h1 k hk
   rw [List.getElem?_eq_getElem hk] at this
   exact this
  rw [this]; rfl
 rw [e]
 have : l.all p = false := by
  rw [List.all_eq_false]
  refine ⟨l[k], List.getElem_mem h1, ?_⟩
  rw [List.getElem?_eq_getElem h1] at h2
  simpa using h2
 rw [this]
 simp
def dg (q : Nat) : Nat → Nat → List Int
 | 0, _ => []
 | k + 1, n => ((n % q : Nat) : Int) :: dg q k (n / q)
theorem zhc {gr : Group} (k : OkG gr) (c : Cipher) : zbj gr c = some (zbh gr c.A && zbh gr c.B) := by
 unfold zbj
 rw [zoR k, zoR k]
 cases zbh gr c.A <;> simp
theorem zg5 {gr : Group} (h : 0 ≤ gr.Q) (h2 : gr.Q ≤ 2000000000) (l : List Int) : zbO gr l = some (l.all (zek gr)) := by
 have h1 : zbA l gr = some (l.all (zek gr)) := zkj (f := fun x => za3 x gr) fun x _ => by
  unfold za3
  rw [zsh h h2]; rfl
 unfold zbO
 rw [h1]; rfl
theorem ztL {gr : Group} (k : OkG gr) {x : Int} (h0 : 0 ≤ x) (h1 : x ≤ 2000000000) : zeT gr x = some (zbS gr x (-1)) := by
 have hq := k.q
 have hp := k.p
 have e : (-1 : Int) % gr.Q = gr.Q - 1 := by
  have := Int.add_mul_emod_self_left (-1) gr.Q 1
  rw [← this, Int.mul_one]
  rw [Int.emod_eq_of_lt (by omega) (by omega)]; omega
 unfold zeT
 rw [zaB (by omega) (by omega), (zft h0 h1 (by omega) hp.2 (by omega) (by omega)).2]
 unfold zbS
 rw [e]; rfl
structure Bt (code : List Int) : Prop where
 b : ∀ x ∈ code, 0 ≤ x ∧ x ≤ 255
 l : code.length ≤ 1048576
structure Cu (code : List Int) (n : Int) (c : List Int × Int × Int) : Prop where
 e : c.1 = code
 lo : 0 ≤ c.2.1
 hi : c.2.1 ≤ n
theorem Cu.mono {code : List Int} {n m : Int} {c : List Int × Int × Int} (h : Cu code n c) (hn : n ≤ m) : Cu code m c := ⟨h.e, h.lo, Int.le_trans h.hi hn⟩
theorem ztS (x : BitVec IntKind.u64.bits) : 0 ≤ IntKind.i64.wrap (IntKind.u64.wrap ((x &&& BitVec.ofInt IntKind.u64.bits 255).toNat : Int)) ∧ IntKind.i64.wrap (IntKind.u64.wrap ((x &&& BitVec.ofInt IntKind.u64.bits 255).toNat : Int)) ≤ 255 := by
 have hy : (x &&& BitVec.ofInt IntKind.u64.bits 255).toNat ≤ 255 := by
  rw [BitVec.toNat_and]
  exact Nat.le_trans Nat.and_le_right (by decide)
 generalize (x &&& BitVec.ofInt IntKind.u64.bits 255).toNat = y at hy ⊢
 rw [wrU (by omega) (by omega), zaB (by omega) (by omega)]
 omega
theorem zpy {code c0 : List Int} {at_ seed n : Int} (hb : Bt code) (h : Cu code n (c0, at_, seed)) (hn : n ≤ 9000000000000000) : Rn (zbC c0 at_ seed) (fun z => 0 ≤ z.1 ∧ z.1 ≤ 255 ∧ Cu code (n + 1) z.2) := by
 obtain ⟨h1, h2, h3⟩ := h
 have h1 : c0 = code := h1
 have h2 : 0 ≤ at_ := h2
 have h3 : at_ ≤ n := h3
 subst h1
 have hw : IntKind.i64.wrap (at_ + 1) = at_ + 1 := zaB (by omega) (by omega)
 unfold zbC
 refine zad (ψ := fun v => 0 ≤ v ∧ v ≤ 255) ?_ fun v hv => ?_
 ·refine zaj (fun g => ?_) fun g => zab (by omega)
  obtain ⟨k, rfl⟩ := Int.eq_ofNat_of_zero_le h2
  have hk : k < c0.length := by simp at g; omega
  have := hb.b _ (List.getElem_mem hk)
  exact zbb hk (zab (by rw [zaB (by omega) (by omega)]; exact this))
 simp only [hw]
 refine zaj (fun g => zab ⟨hv.1, hv.2, rfl, by show 0 ≤ at_ + 1; omega, by show at_ + 1 ≤ n + 1; omega⟩) fun g => zab ?_
 exact ⟨(ztS _).1, (ztS _).2, rfl, by show 0 ≤ at_ + 1; omega, by show at_ + 1 ≤ n + 1; omega⟩
theorem zee {code c0 : List Int} {at_ seed n m : Int} (hb : Bt code) (h : Cu code n (c0, at_, seed)) (hn : n ≤ 8000000000000000) : Rn (zaf c0 at_ seed m) (fun z => 0 ≤ z.1 ∧ (m ≤ 1 → z.1 = 0) ∧ (1 < m → z.1 < m) ∧ z.1 ≤ 65535 ∧ Cu code (n + 2) z.2) := by
 unfold zaf
 refine zaj (fun g => zab ⟨Int.le_refl 0, fun _ => rfl, fun h => by simp at g; omega, by show (0 : Int) ≤ _; omega, h.mono (by omega)⟩) fun g => ?_
 have g : 1 < m := by simpa using g
 refine zad (zpy hb h (by omega)) fun z ⟨z1, z2, z3⟩ => ?_
 refine zad (ψ := fun x => 0 ≤ x.2 ∧ x.2 ≤ 65535 ∧ Cu code (n + 2) x.1) ?_ fun x ⟨x1, x2, x3⟩ => ?_
 ·refine zaj (fun _ => zad (zpy hb z3 (by omega)) fun y ⟨y1, y2, y3⟩ => zab ?_) fun _ => zab ⟨z1, by show z.1 ≤ _; omega, z3.mono (by omega)⟩
  rw [zaB (n := z.1 * 256) (by omega) (by omega), zaB (by omega) (by omega)]
  exact ⟨by show 0 ≤ z.1 * 256 + y.1; omega, by show z.1 * 256 + y.1 ≤ _; omega, y3.mono (by omega)⟩
 refine zaL (by omega) (zab ?_)
 rw [Int.tmod_eq_emod_of_nonneg x1]
 have b1 := Int.emod_nonneg x.2 (show m ≠ 0 by omega)
 have b2 := Int.emod_lt_of_pos x.2 (show 0 < m by omega)
 have b3 : x.2 % m ≤ x.2 := by
  rcases Int.lt_or_le x.2 m with h | h
  ·rw [Int.emod_eq_of_lt x1 h]; exact Int.le_refl _
  ·omega
 exact ⟨b1, fun h => by omega, fun _ => b2, by show x.2 % m ≤ _; omega, x3⟩
theorem zfB {code c0 : List Int} {at_ seed n m : Int} (hb : Bt code) (h : Cu code n (c0, at_, seed)) (hn : n ≤ 8000000000000000) : Rn (zat c0 at_ seed m) (fun z => Cu code (n + 2) z.2) := by
 unfold zat
 exact zad (zee hb h hn) fun z hz => zab hz.2.2.2.2
theorem zeu {code c0 : List Int} {at_ seed n : Int} {l : List Int} (hb : Bt code) (h : Cu code n (c0, at_, seed)) (hn : n ≤ 8000000000000000) (hl : l ≠ []) : Rn (zal c0 at_ seed l) (fun z => z.1 ∈ l ∧ Cu code (n + 2) z.2) := by
 unfold zal
 refine zad (zee hb h hn) fun z ⟨z1, z2, z3, z4, z5⟩ => ?_
 have h0 : 0 < l.length := List.length_pos_iff.2 hl
 obtain ⟨k, hk⟩ := Int.eq_ofNat_of_zero_le z1
 have hlt : k < l.length := by
  rcases Nat.lt_or_ge 1 l.length with h | h
  ·have := z3 (by omega); omega
  ·have := z2 (by omega); omega
 rw [hk]
 exact zbb hlt (zab ⟨List.getElem_mem hlt, z5⟩)
theorem ztm {n d : Nat} (h : Pr n) (hd : d % n ≠ 0) : Nat.gcd n d = 1 := by
 obtain ⟨k, hk⟩ := Nat.gcd_dvd_left n d
 have hn := h.1
 have h0 : 0 < Nat.gcd n d := Nat.gcd_pos_of_pos_left d (by omega)
 have hdv := Nat.gcd_dvd_right n d
 generalize Nat.gcd n d = g at hk h0 hdv
 apply Classical.byContradiction
 intro hg
 have hg2 : 2 ≤ g := by omega
 have hk2 : 2 ≤ k := by
  rcases Nat.lt_or_ge k 2 with h | h
  ·have : k = 0 ∨ k = 1 := by omega
   rcases this with rfl | rfl
   ·omega
   ·rw [Nat.mul_one] at hk
    rw [← hk] at hdv
    exact absurd (Nat.mod_eq_zero_of_dvd hdv) hd
  ·exact h
 rcases Nat.le_total g k with h' | h'
 ·exact h.2 g hg2 (by rw [hk]; exact Nat.mul_le_mul_left g h') (by rw [hk]; exact Nat.mul_mod_right g k)
 exact h.2 k hk2 (by rw [hk]; exact Nat.mul_le_mul_right k h') (by rw [hk]; exact Nat.mul_mod_left g k)
theorem ztE {n : Nat} (h : Pr n) {a b : Int} (hab : (a * b) % (n : Int) = 0) : a % (n : Int) = 0 ∨ b % (n : Int) = 0 := by
 have h1 : n ∣ a.natAbs * b.natAbs := by
  rw [← Int.natAbs_mul]
  exact Int.ofNat_dvd_left.1 (Int.dvd_of_emod_eq_zero hab)
 by_cases ha : a.natAbs % n = 0
 ·exact .inl (Int.emod_eq_zero_of_dvd (Int.ofNat_dvd_left.2 (Nat.dvd_of_mod_eq_zero ha)))
 exact .inr (Int.emod_eq_zero_of_dvd (Int.ofNat_dvd_left.2 (Nat.Coprime.dvd_of_dvd_mul_left (ztm h ha) h1)))
def evP (f : List Int) (x : Int) : Int := f.foldr (fun c a => a * x + c) 0
theorem zl3 (c : Int) (f : List Int) (x : Int) : evP (c :: f) x = evP f x * x + c := rfl
def dvP (r : Int) : List Int → List Int
 | [] => []
 | [_] => []
 | _ :: c :: f => evP (c :: f) r :: dvP r (c :: f)
theorem znX (r : Int) : ∀ f : List Int, (dvP r f).length = f.length - 1
 | [] => rfl
 | [_] => rfl
 | _ :: c :: f => by
  show (dvP r (c :: f)).length + 1 = _
  rw [znX r (c :: f)]; simp
theorem zqe (r x : Int) : ∀ f : List Int, evP f x = evP (dvP r f) x * (x - r) + evP f r
 | [] => by simp [dvP, evP]
 | [c] => by simp [dvP, evP]
 | d :: c :: f => by
  have ih := zqe r x (c :: f)
  show evP (c :: f) x * x + d = (evP (dvP r (c :: f)) x * x + evP (c :: f) r) * (x - r) + (evP (c :: f) r * r + d)
  rw [ih]
  grind
theorem zmE (r : Int) : ∀ f : List Int, 2 ≤ f.length → (dvP r f).getLastD 0 = f.getLastD 0
 | [], h => absurd h (by simp)
 | [_], h => absurd h (by simp)
 | [d, c], _ => by simp [dvP, evP]
 | e :: d :: c :: f, _ => by
  have ih := zmE r (d :: c :: f) (by simp)
  show (evP (d :: c :: f) r :: evP (c :: f) r :: dvP r (c :: f)).getLastD 0 = _
  have : dvP r (d :: c :: f) = evP (c :: f) r :: dvP r (c :: f) := rfl
  rw [this] at ih
  simpa [List.getLastD] using ih
theorem zqK {p : Nat} (hp : Pr p) : ∀ (n : Nat) (f : List Int), f.length = n + 1 → f.getLastD 0 % (p : Int) ≠ 0 → ∀ rs : List Int, rs.Pairwise (fun a b => (b - a) % (p : Int) ≠ 0) → (∀ r ∈ rs, evP f r % (p : Int) = 0) → rs.length ≤ n
 | 0, f, hl, hf, rs, hd, hr => by
  match f, hl with
  | [c], _ =>
   cases rs with
   | nil => simp
   | cons r rs =>
    have := hr r (List.mem_cons_self ..)
    simp [evP] at this
    exact absurd (by first | exact this | exact Int.emod_eq_zero_of_dvd this) (by simpa [List.getLastD] using hf)
 | n + 1, f, hl, hf, rs, hd, hr => by
  cases rs with
  | nil => simp
  | cons r rs =>
   have h1 := List.pairwise_cons.1 hd
   have := zqK hp n (dvP r f) (by rw [znX]; omega) (by rw [zmE r f (by omega)]; exact hf) rs h1.2 fun s hs => by
    have e := zqe r s f
    have hs0 := hr s (List.mem_cons_of_mem _ hs)
    have hr0 := hr r (List.mem_cons_self ..)
    have hm : (evP (dvP r f) s * (s - r)) % (p : Int) = 0 := by
     rw [show evP (dvP r f) s * (s - r) = evP f s - evP f r by omega, Int.sub_emod, hs0, hr0]; simp
    rcases ztE hp hm with h | h
    ·exact h
    ·exact absurd h (h1.1 s hs)
   simpa using this
theorem zrn (k : Nat) (x : Int) : evP (List.replicate k 0 ++ [1]) x = x ^ k := by
 induction k with
 | zero => simp [evP]
 | succ k ih => rw [List.replicate_succ, List.cons_append, zl3, ih, Int.pow_succ]; omega
theorem znA {p n : Nat} (hp : Pr p) (hn : 1 ≤ n) (rs : List Int) (hd : rs.Pairwise (fun a b => (b - a) % (p : Int) ≠ 0)) (hr : ∀ r ∈ rs, r ^ n % (p : Int) = 1) : rs.length ≤ n := by
 have h2 := hp.1
 have hone : (1 : Int) % (p : Int) = 1 := Int.emod_eq_of_lt (by omega) (by omega)
 obtain ⟨k, rfl⟩ : ∃ k, n = k + 1 := ⟨n - 1, by omega⟩
 refine zqK hp (k + 1) (-1 :: (List.replicate k 0 ++ [1])) (by simp) ?_ rs hd fun r hr' => ?_
 ·have : (-1 :: (List.replicate k (0 : Int) ++ [1])).getLastD 0 = 1 := by
   rw [← List.cons_append, List.getLastD_concat]
  rw [this, hone]; omega
 rw [zl3, zrn, ← Int.pow_succ, Int.add_emod, hr r hr']
 have : ((-1 : Int) % (p : Int)) = p - 1 := by
  have := Int.add_mul_emod_self_left (-1) (p : Int) 1
  rw [← this, Int.mul_one, Int.emod_eq_of_lt (by omega) (by omega)]; omega
 rw [this, show 1 + ((p : Int) - 1) = p by omega, Int.emod_self]
theorem zp7 {p n : Nat} (hp : Pr p) (hn : 1 ≤ n) (hnp : n < p - 1) : ∃ h : Nat, 2 ≤ h ∧ h < p ∧ h ^ n % p ≠ 1 := by
 apply Classical.byContradiction
 intro hc
 have h2 := hp.1
 have h1 : ∀ h : Nat, 1 ≤ h → h < p → h ^ n % p = 1 := fun h a b => by
  rcases Nat.lt_or_ge h 2 with c | c
  ·have : h = 1 := by omega
   subst this
   rw [Nat.one_pow, Nat.mod_eq_of_lt (by omega)]
  ·exact Classical.byContradiction fun d => hc ⟨h, c, b, d⟩
 have := znA hp hn ((List.range (p - 1)).map fun k => ((k + 1 : Nat) : Int)) ?_ ?_
 ·simp at this; omega
 ·rw [List.pairwise_map]
  refine List.Pairwise.imp_of_mem ?_ List.pairwise_lt_range
  intro a b ha hb hab
  have hb := List.mem_range.1 hb
  rw [show ((b + 1 : Nat) : Int) - ((a + 1 : Nat) : Int) = ((b - a : Nat) : Int) by omega, ← Int.natCast_emod, Nat.mod_eq_of_lt (by omega)]
  omega
 intro r hr
 obtain ⟨k, hk, rfl⟩ := List.mem_map.1 hr
 have hk := List.mem_range.1 hk
 rw [← Int.natCast_pow, ← Int.natCast_emod, h1 (k + 1) (by omega) (by omega)]; rfl
structure Gs (gr : Group) : Prop where
 p : 0 ≤ gr.P ∧ gr.P ≤ 2000000000
 q : 0 ≤ gr.Q ∧ gr.Q ≤ 1000000000
 g : 0 ≤ gr.G ∧ gr.G ≤ 2000000000
theorem ztW {q k : Nat} (hq : 2 ≤ q) : ((1 + (k : Int) * (q : Int)) - 1).tdiv (q : Int) = (k : Int) := by
 rw [show (1 + (k : Int) * (q : Int)) - 1 = (k : Int) * (q : Int) by omega, Int.mul_tdiv_cancel _ (by omega)]
theorem zjh {q : Nat} (hq2 : q ≤ 1000000) : Rn (zcL (q : Int)) (fun z => Gs z.1 ∧ (z.2 = true → z.1.Q = q ∧ 3 ≤ z.1.P) ∧ (∀ k : Nat, 1 ≤ k → Pr (1 + k * q) → 1 + k * q ≤ 2000000000 → Pr q → z.2 = true)) := by
 unfold zcL
 refine zad (ψ := fun b => b = !(decide (2 ≤ q) && prB (q : Int))) ?_ ?_
 ·refine zah (zhB _ _ _) ?_
  by_cases h : 2 ≤ q
  ·refine zcO (by simp; omega) (zah (zh1 _ (by omega)) (zab ?_))
   simp [h]
  refine ze4 (by simp; omega) (zab ?_)
  simp [h]
 rintro _ rfl
 cases hc : (decide (2 ≤ q) && prB (q : Int))
 ·refine ze4 rfl (zab ⟨⟨⟨by decide, by decide⟩, ⟨by decide, by decide⟩, by decide, by decide⟩, fun h => (by cases h), fun k h1 h2 h3 h4 => ?_⟩)
  rw [zer.2 h4] at hc
  have := h4.1
  simp at hc; omega
 have hq : 2 ≤ q := by simp at hc; exact hc.1
 have hpq : Pr q := by simp at hc; exact zer.1 hc.2
 refine zcO rfl ?_
 refine zad (ψ := fun b => (b = .inl () ∧ ∀ k : Nat, 1 ≤ k → Pr (1 + k * q) → ¬ 1 + k * q ≤ 2000000000) ∨ ∃ z : Group × Bool, b = .inr z ∧ Gs z.1 ∧ z.2 = true ∧ z.1.Q = q ∧ 3 ≤ z.1.P) ?_ ?_
 ·rw [zaB (by omega) (by omega)]
  refine ze7 (fun s => ∃ k : Nat, 1 ≤ k ∧ s = 1 + (k : Int) * (q : Int) ∧ s ≤ 2001000001 ∧ ∀ j : Nat, 1 ≤ j → j < k → ¬ Pr (1 + j * q)) (fun s => (2001000001 - s).toNat) ⟨1, by omega, by omega, by omega, fun j h1 h2 => by omega⟩ ?_
  rintro s ⟨k, hk, rfl, hs, hn⟩
  have hkq : k * 2 ≤ k * q := Nat.mul_le_mul_left k hq
  have hkc : (k : Int) * (q : Int) = ((k * q : Nat) : Int) := ze2 k q
  refine zaj (fun g => ?_) fun g => ?_
  ·have g : 1 + (k : Int) * (q : Int) ≤ 2000000000 := by simpa using g
   refine zah (zh1 _ (by omega)) ?_
   have hcast : 1 + (k : Int) * (q : Int) = ((1 + k * q : Nat) : Int) := by omega
   cases hp : prB (1 + (k : Int) * (q : Int))
   ·refine ze4 rfl (zab ?_)
    have e : IntKind.i64.wrap (1 + (k : Int) * (q : Int) + (q : Int)) = 1 + ((k + 1 : Nat) : Int) * (q : Int) := by
     rw [zaB (by omega) (by omega)]; grind
    refine ⟨⟨k + 1, by omega, e, by rw [zaB (by omega) (by omega)]; omega, fun j h1 h2 => ?_⟩, ?_⟩
    ·rcases Nat.lt_or_ge j k with h | h
     ·exact hn j h1 h
     have : j = k := by omega
     subst this
     intro hpr
     rw [hcast, zer.2 hpr] at hp
     cases hp
    rw [zaB (by omega) (by omega)]; omega
   refine zcO rfl ?_
   have hpr : Pr (1 + k * q) := by rw [hcast] at hp; exact zer.1 hp
   obtain ⟨h0, a1, a2, a3⟩ := zp7 hpr hk (by omega)
   have hdv : IntKind.i64.wrap ((IntKind.i64.wrap (1 + (k : Int) * (q : Int) - 1)).tdiv (q : Int)) = (k : Int) := by
    rw [zaB (n := 1 + (k : Int) * (q : Int) - 1) (by omega) (by omega), ztW hq, zaB (by omega) (by omega)]
   simp only [hdv]
   simp only [hcast]
   refine zad (ψ := fun h => 2 ≤ h ∧ h ≤ (h0 : Int)) (ze7 (fun s => 2 ≤ s ∧ s ≤ (h0 : Int)) (fun s => (h0 - s).toNat) (by omega) ?_) ?_
   ·rintro s ⟨s1, s2⟩
    have hpw := (zft (a := s) (e := (k : Int)) (m := ((1 + k * q : Nat) : Int)) (by omega) (by omega) (by omega) (by omega) (by omega) (by omega)).2
    refine zaL (by omega) (zah hpw ?_)
    refine zaj (fun g => zab ?_) fun g => zab ⟨s1, s2⟩
    rw [zaB (by omega) (by omega)]
    have hne : s ≠ (h0 : Int) := fun e => by
     subst e
     apply a3
     have g : ((((h0 : Int).toNat ^ (k : Int).toNat % ((1 + k * q : Nat) : Int).toNat : Nat)) : Int) = 1 := by simpa only [beq_iff_eq] using g
     rw [Int.toNat_natCast, Int.toNat_natCast, Int.toNat_natCast] at g
     omega
    refine ⟨⟨by omega, by omega⟩, ?_⟩
    omega
   rintro h ⟨s1, s2⟩
   have hpw := (zft (a := h) (e := (k : Int)) (m := ((1 + k * q : Nat) : Int)) (by omega) (by omega) (by omega) (by omega) (by omega) (by omega)).2
   refine zaL (by omega) (zah hpw (zab ?_))
   have hlt : h.toNat ^ (k : Int).toNat % ((1 + k * q : Nat) : Int).toNat < 1 + k * q := by
    rw [Int.toNat_natCast (1 + k * q)]
    exact Nat.mod_lt _ (by omega)
   refine .inr ⟨_, rfl, ⟨⟨by show (0 : Int) ≤ ((1 + k * q : Nat) : Int); omega, by show ((1 + k * q : Nat) : Int) ≤ _; omega⟩, ⟨by show (0 : Int) ≤ (q : Int); omega, by show (q : Int) ≤ _; omega⟩, ?_, ?_⟩, rfl, rfl, by show (3 : Int) ≤ ((1 + k * q : Nat) : Int); omega⟩
   ·show (0 : Int) ≤ ((_ : Nat) : Int); omega
   show ((_ : Nat) : Int) ≤ 2000000000; omega
  refine zab (.inl ⟨rfl, fun j h1 h2 h3 => ?_⟩)
  have g : ¬ 1 + (k : Int) * (q : Int) ≤ 2000000000 := by simpa using g
  rcases Nat.lt_or_ge j k with h | h
  ·exact hn j h1 h h2
  have : k * q ≤ j * q := Nat.mul_le_mul_right q h
  omega
 rintro b (⟨rfl, h⟩ | ⟨z, rfl, h1, h2, h3, h4⟩)
 ·exact zab ⟨⟨⟨by decide, by decide⟩, ⟨by decide, by decide⟩, by decide, by decide⟩, fun h => (by cases h), fun k h1 h2 h3 h4 => absurd h3 (h k h1 h2)⟩
 exact zab ⟨h1, fun _ => ⟨h3, h4⟩, fun _ _ _ _ _ => h2⟩
theorem zeJ {n : Nat} (hn : n < 64) (h2 : 2 ≤ n) (h : ∀ d, d < 8 → 2 ≤ d → d * d ≤ n → n % d ≠ 0) : Pr n := by
 refine ⟨h2, fun d h1 h3 => ?_⟩
 rcases Nat.lt_or_ge d 8 with h8 | h8
 ·exact h d h8 h1 h3
 have : 8 * 8 ≤ d * d := Nat.mul_le_mul h8 h8
 omega
structure Gw (gr : Group) : Prop where
 p : -10 ≤ gr.P ∧ gr.P ≤ 2100000000
 q : -10 ≤ gr.Q ∧ gr.Q ≤ 2100000000
 g : -10 ≤ gr.G ∧ gr.G ≤ 2100000000
theorem Gs.w {gr : Group} (h : Gs gr) : Gw gr := ⟨by have := h.p; omega, by have := h.q; omega, by have := h.g; omega⟩
theorem zt7 {x : Int} (hx : x ∈ [(3 : Int), 5, 5, 7, 11, 11, 13, 23]) : ∃ q k : Nat, x = (q : Int) ∧ 3 ≤ q ∧ q ≤ 23 ∧ 1 ≤ k ∧ Pr (1 + k * q) ∧ 1 + k * q ≤ 2000000000 ∧ Pr q := by
 simp only [List.mem_cons, List.not_mem_nil, or_false] at hx
 rcases hx with rfl | rfl | rfl | rfl | rfl | rfl | rfl | rfl
 ·exact ⟨3, 2, rfl, by decide, by decide, by decide, zeJ (by decide) (by decide) (by decide), by decide, zeJ (by decide) (by decide) (by decide)⟩
 ·exact ⟨5, 2, rfl, by decide, by decide, by decide, zeJ (by decide) (by decide) (by decide), by decide, zeJ (by decide) (by decide) (by decide)⟩
 ·exact ⟨5, 2, rfl, by decide, by decide, by decide, zeJ (by decide) (by decide) (by decide), by decide, zeJ (by decide) (by decide) (by decide)⟩
 ·exact ⟨7, 4, rfl, by decide, by decide, by decide, zeJ (by decide) (by decide) (by decide), by decide, zeJ (by decide) (by decide) (by decide)⟩
 ·exact ⟨11, 2, rfl, by decide, by decide, by decide, zeJ (by decide) (by decide) (by decide), by decide, zeJ (by decide) (by decide) (by decide)⟩
 ·exact ⟨11, 2, rfl, by decide, by decide, by decide, zeJ (by decide) (by decide) (by decide), by decide, zeJ (by decide) (by decide) (by decide)⟩
 ·exact ⟨13, 4, rfl, by decide, by decide, by decide, zeJ (by decide) (by decide) (by decide), by decide, zeJ (by decide) (by decide) (by decide)⟩
 exact ⟨23, 2, rfl, by decide, by decide, by decide, zeJ (by decide) (by decide) (by decide), by decide, zeJ (by decide) (by decide) (by decide)⟩
theorem zt8 {code c0 : List Int} {at_ seed n : Int} (hb : Bt code) (h : Cu code n (c0, at_, seed)) (hn : n ≤ 7000000000000000) : Rn (zca c0 at_ seed) (fun z => Gs z.1 ∧ 3 ≤ z.1.Q ∧ z.1.Q ≤ 23 ∧ 3 ≤ z.1.P ∧ Cu code (n + 2) z.2) := by
 unfold zca
 refine zad (zeu hb h (by omega) (by simp)) fun z ⟨z1, z2⟩ => ?_
 obtain ⟨q, k, e, q1, q2, k1, k2, k3, k4⟩ := zt7 z1
 rw [e]
 refine zad (zjh (by omega)) fun y ⟨y1, y2, y3⟩ => zab ?_
 have y4 := y2 (y3 k k1 k2 k3 k4)
 exact ⟨y1, by show 3 ≤ y.1.Q; omega, by show y.1.Q ≤ 23; omega, y4.2, z2⟩
theorem zsk {gr : Group} (h : Gs gr) (hq : 1 ≤ gr.Q) (hp : 1 ≤ gr.P) {x : Int} (hx : 0 ≤ x ∧ x ≤ 2000000000) (e : Int) : Rn (zaH gr x e) (fun v => 0 ≤ v ∧ v ≤ 2000000000) := by
 have h1 := h.p
 have h2 := h.q
 have b1 : 0 ≤ e % gr.Q := Int.emod_nonneg _ (by omega)
 have b2 : e % gr.Q < gr.Q := Int.emod_lt_of_pos _ (by omega)
 have hw := (zft (a := x) (e := e % gr.Q) (m := gr.P) (by omega) (by omega) (by omega) (by omega) b1 (by omega)).2
 unfold zaH
 refine zah (zpE (by omega) (by omega)) (zah hw (zab ?_))
 have hlt : x.toNat ^ (e % gr.Q).toNat % gr.P.toNat < gr.P.toNat := Nat.mod_lt _ (by omega)
 omega
theorem zvN {x : Int} (hx : x ∈ [(101 : Int), 1009, 1019, 65537, 999983]) : ∃ q : Nat, x = (q : Int) ∧ q ≤ 1000000 := by
 simp only [List.mem_cons, List.not_mem_nil, or_false] at hx
 rcases hx with rfl | rfl | rfl | rfl | rfl
 ·exact ⟨101, rfl, by decide⟩
 ·exact ⟨1009, rfl, by decide⟩
 ·exact ⟨1019, rfl, by decide⟩
 ·exact ⟨65537, rfl, by decide⟩
 exact ⟨999983, rfl, by decide⟩
theorem ztn : Gs (Group.mk 1000000007 500000003 4) := ⟨⟨by decide, by decide⟩, ⟨by decide, by decide⟩, by decide, by decide⟩
theorem cu0 (code : List Int) : Cu code 0 (code, 0, 0) := ⟨rfl, Int.le_refl 0, Int.le_refl 0⟩
theorem znK {code c0 : List Int} {at_ seed n : Int} (hb : Bt code) (h : Cu code n (c0, at_, seed)) (hn : n ≤ 6000000000000000) : Rn (zbs c0 at_ seed) (fun z => Gs z.1 ∧ Cu code (n + 6) z.2) := by
 unfold zbs
 refine zad (zee hb h (by omega)) fun z ⟨z1, z2, z3, z4, z5⟩ => ?_
 refine zaj (fun _ => zab ⟨ztn, z5.mono (by omega)⟩) fun _ => zaj (fun _ => ?_) fun _ => ?_
 ·refine zad (zeu hb z5 (by omega) (by simp)) fun y ⟨y1, y2⟩ => ?_
  obtain ⟨q, e, hq⟩ := zvN y1
  rw [e]
  exact zad (zjh hq) fun x ⟨x1, _, _⟩ => zab ⟨x1, y2.mono (by omega)⟩
 refine zad (zt8 hb z5 (by omega)) fun y ⟨y1, y2, y3, y4, y5⟩ => ?_
 refine zad (zee hb y5 (by omega)) fun x ⟨x1, x2, x3, x4, x5⟩ => ?_
 have hg := y1.g
 refine zad (zsk y1 (by omega) (by omega) hg _) fun v hv => zab ⟨⟨y1.p, y1.q, hv⟩, x5.mono (by omega)⟩
theorem zpw {code c0 : List Int} {at_ seed n : Int} (hb : Bt code) (h : Cu code n (c0, at_, seed)) (hn : n ≤ 5000000000000000) : Rn (zbw c0 at_ seed) (fun z => Gw z.1 ∧ Cu code (n + 10) z.2) := by
 unfold zbw
 refine zad (znK hb h (by omega)) fun z ⟨z1, z2⟩ => ?_
 have g1 := z1.p
 have g2 := z1.q
 have g3 := z1.g
 refine zad (zee hb z2 (by omega)) fun y ⟨_, _, _, _, y5⟩ => ?_
 rw [zaB (n := z.1.P + 2) (by omega) (by omega), zaB (n := z.1.Q + 1) (by omega) (by omega), zaB (n := z.1.P - 1) (by omega) (by omega), zaB (n := z.1.G + 1) (by omega) (by omega)]
 refine zad (ψ := fun x => Gw (Group.mk x.2.1 x.2.2.1 x.2.2.2) ∧ Cu code (n + 10) x.1) ?_ fun x hx => zab hx
 refine zaj (fun _ => ?_) fun _ => zaj (fun _ => ?_) fun _ => zaj (fun _ => ?_) fun _ => zab ⟨z1.w, y5.mono (by omega)⟩
 ·refine zad (zeu hb y5 (by omega) (by simp)) fun x ⟨x1, x2⟩ => zab ⟨?_, x2.mono (by omega)⟩
  simp only [List.mem_cons, List.not_mem_nil, or_false] at x1
  exact ⟨by show -10 ≤ x.1 ∧ x.1 ≤ _; omega, by show -10 ≤ z.1.Q ∧ z.1.Q ≤ _; omega, by show -10 ≤ z.1.G ∧ z.1.G ≤ _; omega⟩
 ·refine zad (zeu hb y5 (by omega) (by simp)) fun x ⟨x1, x2⟩ => zab ⟨?_, x2.mono (by omega)⟩
  simp only [List.mem_cons, List.not_mem_nil, or_false] at x1
  exact ⟨by show -10 ≤ z.1.P ∧ z.1.P ≤ _; omega, by show -10 ≤ x.1 ∧ x.1 ≤ _; omega, by show -10 ≤ z.1.G ∧ z.1.G ≤ _; omega⟩
 refine zad (zeu hb y5 (by omega) (by simp)) fun x ⟨x1, x2⟩ => zab ⟨?_, x2.mono (by omega)⟩
 simp only [List.mem_cons, List.not_mem_nil, or_false] at x1
 exact ⟨by show -10 ≤ z.1.P ∧ z.1.P ≤ _; omega, by show -10 ≤ z.1.Q ∧ z.1.Q ≤ _; omega, by show -10 ≤ x.1 ∧ x.1 ≤ _; omega⟩
theorem zgJ {code c0 : List Int} {at_ seed n : Int} {gr : Group} (hb : Bt code) (h : Cu code n (c0, at_, seed)) (hn : n ≤ 7000000000000000) (hg : gr.Q ≤ 2100000000) : Rn (zau c0 at_ seed gr) (fun z => 0 ≤ z.1 ∧ z.1 ≤ 2100000000 ∧ (2 ≤ gr.Q → z.1 < gr.Q) ∧ Cu code (n + 4) z.2) := by
 unfold zau
 refine zaj (fun g => zab ⟨Int.le_refl 0, by show (0 : Int) ≤ _; omega, fun h => by simp at g; omega, h.mono (by omega)⟩) fun g => ?_
 have g : 2 ≤ gr.Q := by simp at g; omega
 refine zad (zee hb h (by omega)) fun z ⟨z1, z2, z3, z4, z5⟩ => ?_
 refine zad (zee hb z5 (by omega)) fun y ⟨y1, y2, y3, y4, y5⟩ => zaL (by omega) (zab ?_)
 rw [zaB (n := z.1 * 60000) (by omega) (by omega), zaB (by omega) (by omega), Int.tmod_eq_emod_of_nonneg (by omega)]
 have b1 := Int.emod_nonneg (z.1 * 60000 + y.1) (show gr.Q ≠ 0 by omega)
 have b2 := Int.emod_lt_of_pos (z.1 * 60000 + y.1) (show 0 < gr.Q by omega)
 exact ⟨b1, by show _ % gr.Q ≤ _; omega, fun _ => b2, y5.mono (by omega)⟩
theorem zpC {code c0 : List Int} {at_ seed n : Int} {gr : Group} (hb : Bt code) (h : Cu code n (c0, at_, seed)) (hn : n ≤ 6000000000000000) (hg : Gw gr) : Rn (zbF c0 at_ seed gr) (fun z => -100 ≤ z.1 ∧ z.1 ≤ 2100000000 ∧ Cu code (n + 6) z.2) := by
 have g2 := hg.q
 unfold zbF
 refine zad (zfB hb h (by omega)) fun z z1 => ?_
 rw [zaB (by omega) (by omega)]
 refine zaj (fun _ => ?_) fun _ => ?_
 ·refine zad (zeu hb z1 (by omega) (by simp)) fun y ⟨y1, y2⟩ => zab ?_
  simp only [List.mem_cons, List.not_mem_nil, or_false] at y1
  exact ⟨by show -100 ≤ y.1; omega, by show y.1 ≤ _; omega, y2.mono (by omega)⟩
 exact zad (zgJ hb z1 (by omega) (by omega)) fun y ⟨y1, y2, _, y3⟩ => zab ⟨by show -100 ≤ y.1; omega, y2, y3.mono (by omega)⟩
theorem zsi {code c0 : List Int} {at_ seed n : Int} {gr : Group} {k : Nat} (hb : Bt code) (h : Cu code n (c0, at_, seed)) (hn : n ≤ 5000000000000000) (hg : Gw gr) (hk : k ≤ 1000000) : Rn (zbU c0 at_ seed gr (k : Int)) (fun z => z.1.length = k ∧ (∀ x ∈ z.1, 0 ≤ x ∧ x ≤ 2100000000 ∧ (2 ≤ gr.Q → x < gr.Q)) ∧ Cu code (n + 4 * k) z.2) := by
 unfold zbU
 refine zad (ψ := fun r => r.2.length = k ∧ (∀ x ∈ r.2, 0 ≤ x ∧ x ≤ 2100000000 ∧ (2 ≤ gr.Q → x < gr.Q)) ∧ Cu code (n + 4 * k) r.1) (zd9 k (fun j s => s.2.1 = (k : Int) - j ∧ s.2.2.length = j ∧ (∀ x ∈ s.2.2, 0 ≤ x ∧ x ≤ 2100000000 ∧ (2 ≤ gr.Q → x < gr.Q)) ∧ Cu code (n + 4 * j) s.1) ⟨by show (k : Int) = _; omega, rfl, by simp, h.mono (by omega)⟩ ?_ ?_) fun r hr => zab hr
 ·rintro j s hj ⟨h1, h2, h3, h4⟩
  refine ze4 (by rw [h1]; simp; omega) (zad (zgJ hb h4 (by omega) hg.q.2) fun z ⟨z1, z2, z3, z4⟩ => zaL (by omega) (zab ⟨?_, by simp [h2], fun x hx => ?_, z4.mono (by omega)⟩))
  ·show IntKind.i64.wrap (s.2.1 - 1) = _
   rw [h1, zaB (by omega) (by omega)]; omega
  rcases List.mem_append.1 hx with h | h
  ·exact h3 x h
  rw [List.mem_singleton.1 h]; exact ⟨z1, z2, z3⟩
 rintro s ⟨h1, h2, h3, h4⟩
 exact zcO (by rw [h1]; simp) (zab ⟨h2, h3, h4⟩)
theorem zoc {a q : Int} (h0 : 0 < q) (h1 : q ≤ 4000000000000000000) : zdh a q = some (a % q) := by
 unfold zdh
 rw [zel (by omega), zel (by omega)]
 have b1 : a.tmod q < q := Int.tmod_lt_of_pos a h0
 have b2 : -q < a.tmod q := by
  have := Int.lt_tmod_of_pos a h0
  omega
 rw [zaB (by omega) (by omega), Int.tmod_eq_emod_of_nonneg (by omega)]
 congr 1
 rw [Int.add_emod_right]
 rw [Int.tmod_def, Int.sub_emod, Int.mul_emod_right, Int.sub_zero, Int.emod_emod]
theorem zn2 (a : Int) {m : Int} (h : 0 < m) : -m < a.tmod m ∧ a.tmod m < m := by
 have h1 := Int.tmod_lt_of_pos a h
 have h2 := Int.lt_tmod_of_pos a h
 omega
theorem zp8 (a : Int) {e m : Int} (h1 : 1 ≤ m) (h2 : 0 ≤ e) (h3 : e ≤ 4000000000000000000) : Rn (zbe a e m) (fun v => -m < v ∧ v < m) := by
 unfold zbe
 refine zaL (by omega) (zad (ψ := fun v => -m < v ∧ v < m) (ze7 (fun s => (-m < s.2.2 ∧ s.2.2 < m) ∧ 0 ≤ s.2.1 ∧ s.2.1 ≤ e) (fun s => s.2.1.toNat) ⟨zn2 _ (by omega), h2, Int.le_refl _⟩ ?_) fun x hx => zab hx)
 rintro s ⟨hs, h4, h5⟩
 refine zaj (fun g => ?_) fun _ => zab hs
 have g : 0 < s.2.1 := by simpa using g
 refine zad (ψ := fun v => -m < v ∧ v < m) (zaj (fun _ => zaL (by omega) (zab (zn2 _ (by omega)))) fun _ => zab hs) fun x hx => zaL (by omega) (zab ?_)
 have e1 : s.2.1.tdiv 2 = s.2.1 / 2 := Int.tdiv_eq_ediv_of_nonneg (by omega)
 have e2 : IntKind.i64.wrap (s.2.1.tdiv 2) = s.2.1 / 2 := by rw [e1, zaB (by omega) (by omega)]
 exact ⟨⟨hx, by show 0 ≤ IntKind.i64.wrap _; rw [e2]; omega, by show IntKind.i64.wrap _ ≤ e; rw [e2]; omega⟩, by show (IntKind.i64.wrap _).toNat < _; rw [e2]; omega⟩
theorem zsB {gr : Group} (hq : 1 ≤ gr.Q ∧ gr.Q ≤ 4000000000000000000) (hp : 1 ≤ gr.P) (x e : Int) : Rn (zaH gr x e) (fun v => -gr.P < v ∧ v < gr.P) := by
 unfold zaH
 refine zah (zoc (by omega) hq.2) (zad (zp8 x hp (Int.emod_nonneg _ (by omega)) ?_) fun v hv => zab hv)
 have := Int.emod_lt_of_pos e (show 0 < gr.Q by omega)
 omega
theorem zg1 {code c0 : List Int} {at_ seed n : Int} {gr : Group} (hb : Bt code) (h : Cu code n (c0, at_, seed)) (hn : n ≤ 6000000000000000) (hg : Gw gr) : Rn (zaz c0 at_ seed gr) (fun z => -2200000000 ≤ z.1 ∧ z.1 ≤ 2200000000 ∧ Cu code (n + 4) z.2) := by
 have g1 := hg.p
 have g2 := hg.q
 unfold zaz
 refine zad (ψ := fun b => b = false → 3 ≤ gr.P ∧ 1 ≤ gr.Q) (zaj (fun _ => zab fun h => by cases h) fun a => zab fun b => by simp at a b; omega) fun b hb' => zaj (fun _ => zab ⟨by show -2200000000 ≤ (1 : Int); decide, by show (1 : Int) ≤ _; decide, h.mono (by omega)⟩) fun e => ?_
 obtain ⟨k1, k2⟩ := hb' e
 refine zah (zoc (by omega) (by omega)) (zad (zgJ hb h (by omega) (by omega)) fun z ⟨z1, z2, _, z3⟩ => zad (zsB ⟨k2, by omega⟩ (by omega) _ _) fun v hv => zab ⟨by show _ ≤ v; omega, by show v ≤ _; omega, z3⟩)
theorem zih {code c0 : List Int} {at_ seed n : Int} {gr : Group} (hb : Bt code) (h : Cu code n (c0, at_, seed)) (hn : n ≤ 5000000000000000) (hg : Gw gr) : Rn (za4 c0 at_ seed gr) (fun z => -2200000000 ≤ z.1 ∧ z.1 ≤ 2200000000 ∧ Cu code (n + 6) z.2) := by
 have g1 := hg.p
 unfold za4
 refine zad (zfB hb h (by omega)) fun z z1 => zaj (fun _ => ?_) fun _ => zad (zg1 hb z1 (by omega) hg) fun y ⟨y1, y2, y3⟩ => zab ⟨y1, y2, y3.mono (by omega)⟩
 rw [zaB (n := gr.P - 1) (by omega) (by omega)]
 refine zad (zeu hb z1 (by omega) (by simp)) fun y ⟨y1, y2⟩ => zab ?_
 simp only [List.mem_cons, List.not_mem_nil, or_false] at y1
 exact ⟨by show -2200000000 ≤ y.1; omega, by show y.1 ≤ _; omega, y2.mono (by omega)⟩
theorem ztc {l : List Int} : zdO l l = some true := by
 unfold zdO
 refine za8 (zcO (by simp) (zad (ψ := fun v => v = .inl ()) (zbX (fun _ _ => True) trivial ?_ fun s _ => rfl) ?_))
 ·rintro k s hk _
  exact zbb hk (zbb hk (zcO (by simp) (zab trivial)))
 rintro _ rfl
 exact zab rfl
def zbl (gr : Group) (c : Cipher) : Bool := zbh gr c.A && zbh gr c.B
def zo6 (gr : Group) (s : Int) (c : Cipher) : Int := zd4 gr [c.B, zbS gr (zbS gr c.A s) (-1)]
theorem zsd {gr : Group} (k : OkG gr) {c : Cipher} (h : zbl gr c = true) : 0 ≤ c.A ∧ c.A ≤ 2000000000 ∧ 0 ≤ c.B ∧ c.B ≤ 2000000000 := by
 simp only [zbl, Bool.and_eq_true] at h
 have h1 := zl1 h.1
 have h2 := zl1 h.2
 have hp := k.p
 omega
theorem zoQ {gr : Group} (k : OkG gr) (s : Int) {c : Cipher} (h : zbl gr c = true) : zbP gr s c = some (zo6 gr s c) ∧ zeO gr s c = some (zo6 gr s c) := by
 obtain ⟨b1, b2, b3, b4⟩ := zsd k h
 have hp := k.p
 have p1 := zkJ k c.A s
 have p2 := zkJ k (zbS gr c.A s) (-1)
 have hl : ∀ x ∈ [c.B, zbS gr (zbS gr c.A s) (-1)], 0 ≤ x ∧ x ≤ 2000000000 := by
  intro x hx
  simp only [List.mem_cons, List.not_mem_nil, or_false] at hx
  rcases hx with rfl | rfl <;> omega
 constructor
 ·unfold zbP zea
  rw [(zkd k b1 b2 s).1, Option.bind_some, (zkd k p1.1 (by omega) (-1)).1, Option.bind_some, Option.bind_some, zoi k hl]
  rfl
 unfold zeO
 rw [(zkd k b1 b2 s).2, Option.bind_some, ztL k p1.1 (by omega), Option.bind_some, zqN k hl]
 rfl
theorem ztd {gr : Group} (k : OkG gr) (l : List Cipher) : Rn (zan l gr.P gr.Q gr.G) (fun x => (x = -1 ∧ l.all (zbl gr) = true) ∨ (0 ≤ x ∧ l.all (zbl gr) = false)) := by
 unfold zan
 refine zad (ψ := fun x => (x = .inl () ∧ l.all (zbl gr) = true) ∨ (∃ j : Nat, x = .inr (j : Int) ∧ l.all (zbl gr) = false)) (zbX (fun n _ => ∀ m, m < n → ∀ h : m < l.length, zbl gr l[m] = true) (fun m hm => by omega) ?_ fun s hs => .inl ⟨rfl, ?_⟩) ?_
 ·rintro n s hn hI
  refine zbb hn ?_
  unfold zcb
  refine zad (ψ := fun b => b = !zbl gr l[n]) (zah (zhc k l[n]) (zab rfl)) ?_
  rintro _ rfl
  refine zaj (fun h => zab (.inr ⟨n, rfl, ?_⟩)) fun h => zab fun m hm hl => ?_
  ·rw [List.all_eq_false]
   exact ⟨l[n], List.getElem_mem hn, by simpa using h⟩
  rcases Nat.lt_or_ge m n with h1 | h1
  ·exact hI m h1 hl
  have : m = n := by omega
  subst this
  simpa using h
 ·rw [List.all_eq_true]
  intro x hx
  obtain ⟨m, hm, rfl⟩ := List.mem_iff_getElem.1 hx
  exact hs m hm hm
 rintro x (⟨rfl, h⟩ | ⟨j, rfl, h⟩)
 ·exact zab (.inl ⟨rfl, h⟩)
 exact zab (.inr ⟨by show (0 : Int) ≤ (j : Int); omega, h⟩)
theorem zgI {gr : Group} (k : OkG gr) (l : List Cipher) : zbt gr l = some (decide (l.length ≤ 24) && l.all (zbl gr)) := by
 unfold zbt
 refine za8 (zad (ψ := fun b => b = (decide (l.length ≤ 24) && l.all (zbl gr))) (zaj (fun h => ?_) fun h => zab ?_) fun b hb => zab hb)
 ·have h : l.length ≤ 24 := by simp at h; omega
  unfold zar
  refine zad (ψ := fun b => b = !l.all (zbl gr)) (zad (ztd k l) fun x hx => zab ?_) ?_
  ·rcases hx with ⟨rfl, h⟩ | ⟨h0, h⟩
   ·rw [h]; rfl
   rw [h]; simpa using h0
  rintro _ rfl
  exact zab (by simp [h])
 have h : ¬ l.length ≤ 24 := by simp at h; omega
 simp [h]
theorem zoa {gr : Group} (k : OkG gr) (l : List Cipher) : zdl gr l = some (decide (l.length ≤ 24) && l.all (zbl gr)) := by
 unfold zdl
 by_cases h : 24 < (l.length : Int)
 ·rw [if_pos (by simpa using h)]
  have h : ¬ l.length ≤ 24 := by omega
  simp [h]
 rw [if_neg (by simpa using h)]
 refine (zrU l (zbl gr) false (fun n hn => ?_)).trans ?_
 ·rw [zf9 hn, Option.bind_some, zo2 k, Option.bind_some]
  have e : ([l[n].A, l[n].B].all (zbh gr)) = zbl gr l[n] := by simp [zbl]
  rw [e]
  cases zbl gr l[n] <;> rfl
 have h : l.length ≤ 24 := by omega
 cases l.all (zbl gr) <;> simp [h]
theorem zry {code c0 : List Int} {at_ seed n : Int} {gr : Group} (hb : Bt code) (h : Cu code n (c0, at_, seed)) (hn : n ≤ 4000000000000000) (hg : Gw gr) : Rn (zbM c0 at_ seed gr) (fun z => Cu code (n + 8) z.2) := by
 unfold zbM
 exact zad (zg1 hb h (by omega) hg) fun z ⟨_, _, z3⟩ => zad (zg1 hb z3 (by omega) hg) fun y ⟨_, _, y3⟩ => zab (y3.mono (by omega))
theorem znE {code c0 : List Int} {at_ seed n : Int} {gr : Group} (hb : Bt code) (h : Cu code n (c0, at_, seed)) (hn : n ≤ 4000000000000000) (hg : Gw gr) : Rn (zbr c0 at_ seed gr) (fun z => Cu code (n + 12) z.2) := by
 unfold zbr
 exact zad (zih hb h (by omega) hg) fun z ⟨_, _, z3⟩ => zad (zih hb z3 (by omega) hg) fun y ⟨_, _, y3⟩ => zab (y3.mono (by omega))
def byL (s : ByteArray) : List Int := s.data.toList.map fun b => (b.toNat : Int)
theorem zfE (s : ByteArray) : (byL s).length = s.size := by
 show (s.data.toList.map _).length = s.data.size
 rw [List.length_map, Array.length_toList]
theorem zqj (s : ByteArray) : ∀ x ∈ byL s, 0 ≤ x ∧ x ≤ 255 := by
 intro x hx
 obtain ⟨b, _, rfl⟩ := List.mem_map.1 hx
 have := b.toNat_lt
 omega
theorem zts {s : ByteArray} {k : Nat} (h : k < s.size) : ixs s (k : Int) = some ((byL s)[k]'(by rw [zfE]; exact h)) := by
 have h2 : k < s.data.size := h
 simp [ixs, byL, h]
 rfl
theorem zqr (s : ByteArray) (l : List Int) (hs : s.size ≤ 1000000) (hl : l.length ≤ 1000000000000) : zeg s l = some ((s.size : Int) :: byL s ++ l) := by
 unfold zeg
 refine za8 (zad (ψ := fun x => x = (s.size : Int) :: byL s) (zd9 s.size (fun n p => n ≤ s.size ∧ p = ((s.size : Int) :: (byL s).take n, (n : Int))) ⟨by omega, by simp⟩ ?_ ?_) ?_)
 ·rintro n p hn ⟨_, rfl⟩
  have hn2 : n < (byL s).length := by rw [zfE]; exact hn
  have hb := zqj s _ (List.getElem_mem hn2)
  refine zaj (fun _ => ?_) fun h => absurd h (by simp; omega)
  refine zah (zts hn) (zaL ?_ (zab ⟨by omega, ?_⟩))
  ·simp only [List.length_cons, List.length_take, zfE]; omega
  show ((s.size : Int) :: (byL s).take n ++ [_], _) = _
  rw [zaB (by omega) (by omega), zaB (by omega) (by omega), List.cons_append, List.take_append_getElem hn2]
  rfl
 ·rintro p ⟨_, rfl⟩
  refine zaj (fun h => absurd h (by simp)) fun _ => zab ?_
  show (s.size : Int) :: (byL s).take s.size = _
  rw [List.take_of_length_le (by rw [zfE]; omega)]
 rintro _ rfl
 refine zaL ?_ (zab rfl)
 simp only [List.length_cons, zfE]; omega
theorem zo5 (s : ByteArray) (l : List Int) (hs : s.size ≤ 1000000) (hl : l.length ≤ 1000000000000) : zeo s l = some ((s.size : Int) :: byL s ++ l) := zqr s l hs hl
def zcn (x : Int) : Bool := decide (0 ≤ x) && decide (x ≤ 4611686018427387903)
theorem zdC {x : Int} : zcn x = true ↔ 0 ≤ x ∧ x ≤ 4611686018427387903 := by simp [zcn]
theorem zpk (x : Int) : zdE x = some (zcn x) := by
 unfold zdE
 rw [zeZ]; rfl
theorem zsJ (s : ByteArray) : (byL s).all zcn = true := by
 rw [List.all_eq_true]
 intro x hx
 have := zqj s x hx
 exact zdC.2 ⟨by omega, by omega⟩
def hs1 (c s k : Int) : Int := (c * s + k + 1) % 2147483647
def zgu (p : Int × Int) (x : Int) : Int × Int := (hs1 48271 (hs1 48271 p.1 (x % 2147483648)) (x / 2147483648), hs1 69621 (hs1 69621 p.2 (x % 2147483648)) (x / 2147483648))
def ziY (l : List Int) : Int := let p := (((l.length : Int) :: l).foldl zgu (1, 2)); p.1 * 2147483648 + p.2
theorem zhD (c s k : Int) : 0 ≤ hs1 c s k ∧ hs1 c s k ≤ 2147483646 := by unfold hs1; omega
theorem zfS {c s k : Int} (hc : c = 48271 ∨ c = 69621) (hs : 0 ≤ s ∧ s ≤ 2147483646) (hk : 0 ≤ k ∧ k ≤ 2147483648) : (IntKind.i64.wrap ((IntKind.i64.wrap ((IntKind.i64.wrap (c * s)) + k)) + 1)).tmod 2147483647 = hs1 c s k := by
 rcases hc with rfl | rfl
 ·rw [zaB (n := 48271 * s) (by omega) (by omega), zaB (n := 48271 * s + k) (by omega) (by omega), zaB (by omega) (by omega), Int.tmod_eq_emod_of_nonneg (by omega)]; rfl
 rw [zaB (n := 69621 * s) (by omega) (by omega), zaB (n := 69621 * s + k) (by omega) (by omega), zaB (by omega) (by omega), Int.tmod_eq_emod_of_nonneg (by omega)]; rfl
def okP (p : Int × Int) : Prop := (0 ≤ p.1 ∧ p.1 ≤ 2147483646) ∧ (0 ≤ p.2 ∧ p.2 ≤ 2147483646)
theorem zsI (p : Int × Int) (x : Int) : okP (zgu p x) := ⟨zhD _ _ _, zhD _ _ _⟩
theorem zgs : ∀ (l : List Int) (p : Int × Int), okP p → okP (l.foldl zgu p)
 | [], _, h => h
 | x :: l, p, _ => zgs l _ (zsI p x)
theorem zqp (l : List Int) : zcn (ziY l) = true := by
 obtain ⟨h1, h2⟩ := zgs ((l.length : Int) :: l) (1, 2) ⟨by decide, by decide⟩
 refine zdC.2 ?_
 unfold ziY
 dsimp only
 omega
theorem zmA {p : Int × Int} {x : Int} (hp : okP p) (hx : zcn x = true) : zbf p.1 p.2 x = some (zgu p x) := by
 obtain ⟨h1, h2⟩ := hp
 have hx := zdC.1 hx
 have e1 : x.tmod 2147483648 = x % 2147483648 := Int.tmod_eq_emod_of_nonneg hx.1
 have e2 : IntKind.i64.wrap (x.tdiv 2147483648) = x / 2147483648 := by
  rw [Int.tdiv_eq_ediv_of_nonneg hx.1, zaB (by omega) (by omega)]
 have b1 : 0 ≤ x % 2147483648 ∧ x % 2147483648 ≤ 2147483648 := by omega
 have b2 : 0 ≤ x / 2147483648 ∧ x / 2147483648 ≤ 2147483648 := by omega
 have h0 : ix [x % 2147483648, x / 2147483648] 0 = some (x % 2147483648) := rfl
 have h1' : ix [x % 2147483648, x / 2147483648] 1 = some (x / 2147483648) := rfl
 unfold zbf
 rw [e1, e2, Option.bind_some, zhX]
 simp only [List.length_cons, List.length_nil, show decide ((0 : Int) < ((0 + 1 + 1 : Nat) : Int)) = true from rfl, if_true, h0, Option.bind_some, zfS (.inl rfl) h1 b1, zfS (.inr rfl) h2 b1]
 rw [zhX]
 simp only [show IntKind.i64.wrap (0 + 1) = 1 from rfl, show decide ((1 : Int) < ((0 + 1 + 1 : Nat) : Int)) = true from rfl, if_true, h1', Option.bind_some, zfS (.inl rfl) (zhD _ _ _) b2, zfS (.inr rfl) (zhD _ _ _) b2]
 rw [zhX]
 simp only [show IntKind.i64.wrap (1 + 1) = 2 from rfl, show decide ((2 : Int) < ((0 + 1 + 1 : Nat) : Int)) = false from rfl, Bool.false_eq_true, if_false, Option.bind_some]
 rfl
theorem zob {l : List Int} (h : l.all zcn = true) {k : Nat} (hk : k < l.length) : zcn l[k] = true := List.all_eq_true.1 h _ (List.getElem_mem hk)
theorem zsL {l : List Int} (hl : l.length ≤ 1000000000000) (hd : l.all zcn = true) : zey l = some (ziY l) := by
 unfold zey
 have e0 := zmA (p := (1, 2)) (x := (l.length : Int)) ⟨by decide, by decide⟩ (zdC.2 ⟨by omega, by omega⟩)
 refine za8 (zah e0 (zad (ψ := fun p => p = ((l.length : Int) :: l).foldl zgu (1, 2)) (zbX (fun n p => p = ((l.length : Int) :: l.take n).foldl zgu (1, 2)) rfl ?_ ?_) ?_))
 ·rintro n p hn rfl
  refine zbb hn (zah (zmA (zgs _ _ ⟨by decide, by decide⟩) (zob hd hn)) (zab ?_))
  show zgu _ _ = _
  rw [← List.take_append_getElem hn, ← List.cons_append, List.foldl_append]
  rfl
 ·rintro p rfl
  show (((l.length : Int) :: l.take l.length).foldl zgu (1, 2)) = _
  rw [List.take_length]
 rintro p rfl
 obtain ⟨h1, h2⟩ := zgs ((l.length : Int) :: l) (1, 2) ⟨by decide, by decide⟩
 refine zab ?_
 rw [zaB (n := _ * 2147483648) (by omega) (by omega), zaB (by omega) (by omega)]
 rfl
theorem zri {x : Int} (hx : zcn x = true) : IntKind.i64.wrap (BitVec.ofInt IntKind.i64.bits x &&& BitVec.ofInt IntKind.i64.bits 2147483647).toNat = x % 2147483648 := by
 have hx := zdC.1 hx
 obtain ⟨n, rfl⟩ := Int.eq_ofNat_of_zero_le hx.1
 have h1 : (BitVec.ofInt IntKind.i64.bits ((n : Nat) : Int) &&& BitVec.ofInt IntKind.i64.bits 2147483647).toNat = n % 2147483648 := by
  rw [BitVec.toNat_and]
  have a1 : (BitVec.ofInt IntKind.i64.bits (n : Int)).toNat = n := by
   rw [BitVec.toNat_ofInt]
   have : IntKind.i64.bits = 64 := rfl
   rw [this]
   omega
  have a2 : (BitVec.ofInt IntKind.i64.bits 2147483647).toNat = 2 ^ 31 - 1 := by decide
  rw [a1, a2, Nat.and_two_pow_sub_one_eq_mod]
 rw [h1, zaB (by omega) (by omega)]
 omega
theorem zt3 {l : List Int} (hl : l.length ≤ 1000000000000) (hd : l.all zcn = true) : zeR l = some (ziY l) := by
 unfold zeR
 have hd2 : ((l.length : Int) :: l).all zcn = true := by
  rw [List.all_cons, hd, Bool.and_true]
  exact zdC.2 ⟨by omega, by omega⟩
 refine za8 (zaL (by simp only [List.length_cons, List.length_nil]; omega) (zah rfl (zad (ψ := fun p => p = ((l.length : Int) :: l).foldl zgu (1, 2)) (zbX (fun n p => p = (((l.length : Int) :: l).take n).foldl zgu (1, 2)) rfl ?_ ?_) ?_)))
 ·rintro n p hn rfl
  have ok := zgs ((((l.length : Int) :: l)).take n) (1, 2) ⟨by decide, by decide⟩
  have dg := zob hd2 hn
  have b := zdC.1 dg
  have ef : (((l.length : Int) :: l)[n]).fdiv 2147483648 = ((l.length : Int) :: l)[n] / 2147483648 := Int.fdiv_eq_ediv_of_nonneg _ (by omega)
  have hn' : n < ((l.length : Int) :: l).length := hn
  refine zbb hn (zab ?_)
  show (_, _) = _
  simp only [List.singleton_append]
  rw [zri dg, ef, zfS (.inl rfl) ok.1 (by omega), zfS (.inr rfl) ok.2 (by omega), zfS (.inl rfl) (zhD _ _ _) (by omega), zfS (.inr rfl) (zhD _ _ _) (by omega),
   ← List.take_append_getElem hn', List.foldl_append]
  rfl
 ·rintro p rfl
  show ((((l.length : Int) :: l).take ([(l.length : Int)] ++ l).length).foldl zgu (1, 2)) = _
  rw [List.singleton_append, List.take_length]
 rintro p rfl
 obtain ⟨h1, h2⟩ := zgs ((l.length : Int) :: l) (1, 2) ⟨by decide, by decide⟩
 refine zab ?_
 rw [zaB (n := _ * 2147483648) (by omega) (by omega), zaB (by omega) (by omega)]
 rfl
def zlS (s : ByteArray) (l : List Int) : Int := ziY ((s.size : Int) :: byL s ++ l)
theorem zl7 (s : ByteArray) (l : List Int) : zcn (zlS s l) = true := zqp _
def zgz (s : ByteArray) (l : List Int) : Bool := decide (s.size ≤ 40) && decide (1 + s.size + l.length ≤ 400) && l.all zcn
theorem zn9 {s : ByteArray} {l : List Int} (hs : s.size ≤ 1000000) : ((s.size : Int) :: byL s ++ l).all zcn = l.all zcn := by
 rw [List.cons_append, List.all_cons, List.all_append, zsJ, zdC.2 ⟨by omega, by omega⟩, Bool.true_and, Bool.true_and]
theorem zm6 {s : ByteArray} {l : List Int} (hs : s.size ≤ 1000000) (hl : l.length ≤ 100000000000) (hd : l.all zcn = true) : zdq s l = some (zlS s l) := by
 unfold zdq
 rw [zqr s l hs (by omega), Option.bind_some, zsL (by simp [zfE]; omega) (by rw [zn9 hs]; exact hd)]
 rfl
theorem zmw (l : List Int) : zda l = some (decide (l.length ≤ 400) && l.all zcn) := by
 unfold zda
 have h1 : zbT l = some (l.all zcn) := zkj (f := zbg) fun x _ => by
  unfold zbg
  rw [zpk]; rfl
 rw [h1]
 by_cases h : l.length ≤ 400
 ·rw [if_pos (by simp; omega)]; simp [h]
 rw [if_neg (by simp; omega)]; simp [h]
theorem zpo (l : List Int) : zdD l = some (if (decide (l.length ≤ 400) && l.all zcn) = true then (ziY l, true) else (0, false)) := by
 unfold zdD
 rw [zmw, Option.bind_some]
 cases h : (decide (l.length ≤ 400) && l.all zcn) with
 | true =>
  simp only [Bool.and_eq_true, decide_eq_true_eq] at h
  rw [zt3 (by omega) h.2]; rfl
 | false => rfl
theorem zkV (s : ByteArray) (l : List Int) : zcJ s l = some (if zgz s l = true then (zlS s l, true) else (0, false)) := by
 unfold zcJ
 by_cases h1 : s.size ≤ 40
 ·by_cases h2 : l.length ≤ 400
  ·rw [if_neg (by simp; omega), Option.bind_some, if_neg (by simp; omega), zo5 s l (by omega) (by omega), Option.bind_some, zpo, zn9 (by omega)]
   have e : ((s.size : Int) :: byL s ++ l).length = 1 + s.size + l.length := by simp [zfE]; omega
   rw [e]
   have e2 : zgz s l = (decide (1 + s.size + l.length ≤ 400) && l.all zcn) := by simp [zgz, h1]
   rw [e2]
   cases decide (1 + s.size + l.length ≤ 400) <;> cases l.all zcn <;> rfl
  rw [if_neg (by simp; omega), Option.bind_some, if_pos (by simp; omega)]
  have : zgz s l = false := by
   have : ¬ 1 + s.size + l.length ≤ 400 := by omega
   simp [zgz, this]
  rw [this]; rfl
 rw [if_pos (by simp; omega), Option.bind_some, if_pos rfl]
 have : zgz s l = false := by simp [zgz, h1]
 rw [this]; rfl
theorem zmx {α β γ : Type} {l : List α} {f : α → β} {body : Int → List β → Option (Stp (List β) γ)} {stop : List β → γ} (a0 : List β) (hs : ∀ k (h : k < l.length) (s : List β), s.length = a0.length + k → body (k : Int) s = some (.go (s ++ [f l[k]]))) :
 zaQ body stop l.length 0 a0 = some (stop (a0 ++ l.map f)) := by
 refine za8 (zbX (fun k s => s = a0 ++ (l.take k).map f ∧ k ≤ l.length) ⟨by simp, by omega⟩ ?_ ?_)
 ·rintro k s hk ⟨rfl, _⟩
  refine ⟨_, hs k hk _ (by simp; omega), ?_, hk⟩
  rw [List.take_succ_eq_append_getElem hk, List.map_append, List.append_assoc]; rfl
 rintro s ⟨rfl, _⟩
 simp
theorem zqR {γ : Type} {m : Nat} (p : Nat → Bool) (c d : γ) {body : Int → Unit → Option (Stp Unit (Unit ⊕ γ))} (h : ∀ k, k < m → body (k : Int) () = some (if p k = true then .go () else .out (.inr c))) :
 (zaQ body (fun _ => .inl ()) m 0 ()).bind (Sum.elim (fun _ => some d) some) = some (if (List.range m).all p = true then d else c) := by
 rcases zi3 (body := body) m p (fun _ => c) h with ⟨e, h1⟩ | ⟨k, h1, h2, h3, e⟩
 ·have : (List.range m).all p = true := by
   rw [List.all_eq_true]; intro x hx; exact h1 x (List.mem_range.1 hx)
  rw [e, this]; rfl
 have : (List.range m).all p = false := by
  rw [List.all_eq_false]; exact ⟨k, List.mem_range.2 h1, by simp [h2]⟩
 rw [e, this]; rfl
theorem zkP {l : List Int} (h : l.length ≤ 1048576) : zdR l = some l := zel (by omega)
def chG (gr : Group) (s : ByteArray) (l : List Int) : Int := zlS s ([gr.P, gr.Q, gr.G] ++ l) % gr.Q
theorem znM {gr : Group} (k : OkG gr) {l : List Int} : ([gr.P, gr.Q, gr.G] ++ l).all zcn = l.all zcn := by
 have hp := k.p
 have hq := k.q
 have hg := k.g
 rw [List.all_append]
 have : [gr.P, gr.Q, gr.G].all zcn = true := by
  simp only [List.all_cons, List.all_nil, Bool.and_true, Bool.and_eq_true]
  exact ⟨zdC.2 (by omega), zdC.2 (by omega), zdC.2 (by omega)⟩
 rw [this, Bool.true_and]
theorem ziJ {gr : Group} (k : OkG gr) {s : ByteArray} {l : List Int} (hs : s.size ≤ 1000000) (hl : l.length ≤ 10000000000) (hd : l.all zcn = true) : zc6 gr s l = some (chG gr s l) := by
 have hq := k.q
 have hb := zdC.1 (zl7 s ([gr.P, gr.Q, gr.G] ++ l))
 unfold zc6
 rw [zel (by simp only [List.length_cons, List.length_nil]; omega), zm6 hs (by simp only [List.length_append, List.length_cons, List.length_nil]; omega) (by rw [znM k]; exact hd), Option.bind_some, zel (by omega), Int.tmod_eq_emod_of_nonneg hb.1]
 rfl
theorem ztP {gr : Group} (k : OkG gr) (s : ByteArray) {l : List Int} (hl : l.length ≤ 10000000000) : zb9 gr s l = some (if zgz s ([gr.P, gr.Q, gr.G] ++ l) = true then (chG gr s l, true) else (0, false)) := by
 have hq := k.q
 have hb := zdC.1 (zl7 s ([gr.P, gr.Q, gr.G] ++ l))
 unfold zb9
 rw [zel (by simp only [List.length_cons, List.length_nil]; omega), zkV, Option.bind_some]
 cases zgz s ([gr.P, gr.Q, gr.G] ++ l) with
 | false => rfl
 | true =>
  simp only [if_true, Bool.not_true, Bool.false_eq_true, if_false]
  rw [zel (by omega), Int.tmod_eq_emod_of_nonneg hb.1]
  rfl
theorem zv0 {gr : Group} (k : OkG gr) {s : ByteArray} {l : List Int} (hs : s.size ≤ 40) (hl : 4 + s.size + l.length ≤ 400) (hd : l.all zcn = true) : zgz s ([gr.P, gr.Q, gr.G] ++ l) = true := by
 unfold zgz
 rw [znM k, hd, Bool.and_true, Bool.and_eq_true, decide_eq_true_eq, decide_eq_true_eq]
 simp only [List.length_append, List.length_cons, List.length_nil]
 omega
theorem zsT {gr : Group} (k : OkG gr) : zbh gr gr.G = true := by
 have hg := k.g
 simp only [zbh, Bool.and_eq_true, decide_eq_true_eq]
 exact ⟨by omega, k.o⟩
abbrev zx0 : ByteArray := ⟨#[101, 110, 116, 114, 121]⟩
def eD (kind author at_ : Int) (data : List Int) : Int := zlS zx0 ([kind, author, at_] ++ data)
structure Gb (gr : Group) : Prop where
 p : 1 ≤ gr.P ∧ gr.P ≤ 2000000000
 q : 1 ≤ gr.Q ∧ gr.Q ≤ 2000000000
 g : 0 ≤ gr.G ∧ gr.G ≤ 2000000000
theorem Gb.w {gr : Group} (k : Gb gr) : Gw gr := by
 have a := k.p
 have b := k.q
 have c := k.g
 exact ⟨by omega, by omega, by omega⟩
theorem zfh {α : Type} {l : List α} {d : α} {i : Nat} (h : i < l.length) : l.getD i d = l[i] := by
 rw [List.getD_eq_getElem?_getD, List.getElem?_eq_getElem h]; rfl
theorem zd8 {code c0 : List Int} {at_ seed n : Int} {m : Nat} (hb : Bt code) (h : Cu code n (c0, at_, seed)) (hn : n ≤ 8000000000000000) (hm : 1 ≤ m) : Rn (zaf c0 at_ seed (m : Int)) (fun z => (∃ i : Nat, z.1 = (i : Int) ∧ i < m) ∧ Cu code (n + 2) z.2) := by
 obtain ⟨z, h1, h2, h3, h4, _, h5⟩ := zee (m := (m : Int)) hb h hn
 obtain ⟨i, hi⟩ := Int.eq_ofNat_of_zero_le h2
 refine ⟨z, h1, ⟨i, hi, ?_⟩, h5⟩
 rcases Nat.lt_or_ge 1 m with h6 | h6
 ·have := h4 (by omega); omega
 have := h3 (by omega); omega
def lp (k : Nat) (p : Proof) : Prop := p.Commits.length ≤ k ∧ p.Challenges.length ≤ k ∧ p.Responses.length ≤ k
theorem zil {code : List Int} {n : Int} {k : Nat} {c : List Int × Int × Int} {a b d : List Int} (hb : Bt code) (hc : Cu code n c) (hn : n ≤ 5000000000000000) (ha : a.length ≤ k) (hb2 : b.length ≤ k) (hd : d.length ≤ k) (hk : k ≤ 100000) :
 Rn ((zaf c.1 c.2.1 c.2.2 10).bind fun z16 =>
  ((if (z16.1 == 0) = true then (gd ((a.length + 1) * 8 ≤ 140737488355328 ∧ a.length + 1 ≤ 4611686018427387904) <| some (a ++ [1], b, d)) else (if (z16.1 == 1) = true then (some (a, b, [])) else (if (z16.1 == 2) = true then (gd ((b.length + 1) * 8 ≤ 140737488355328 ∧ b.length + 1 ≤ 4611686018427387904) <| some (a, b ++ [0], d)) else (some (a, b, d)))) : Option ((List Int × List Int × List Int))).bind fun x19 =>
  some ((Proof.mk x19.1 x19.2.1 x19.2.2), (z16.2.1, z16.2.2.1, z16.2.2.2)))) (fun z => lp (k + 1) z.1 ∧ Cu code (n + 2) z.2) := by
 refine zad (zee hb hc (by omega)) fun z ⟨_, _, _, _, z5⟩ => ?_
 refine zad (ψ := fun (r : List Int × List Int × List Int) => r.1.length ≤ k + 1 ∧ r.2.1.length ≤ k + 1 ∧ r.2.2.length ≤ k + 1) (zaj (fun _ => zaL (by omega) (zab ⟨by simp; omega, by show b.length ≤ _; omega, by show d.length ≤ _; omega⟩)) fun _ => zaj (fun _ => zab ⟨by show a.length ≤ _; omega, by show b.length ≤ _; omega, by simp⟩) fun _ => zaj (fun _ => zaL (by omega) (zab ⟨by show a.length ≤ _; omega, by simp; omega, by show d.length ≤ _; omega⟩)) fun _ => zab ⟨by show a.length ≤ _; omega, by show b.length ≤ _; omega, by show d.length ≤ _; omega⟩) fun r hr => zab ⟨hr, z5⟩
theorem zjK {code : List Int} {n : Int} {gr : Group} {c : List Int × Int × Int} {l : List Int} {β : Type} {f : List Int → β} (hb : Bt code) (hc : Cu code n c) (hn : n ≤ 4000000000000000) (hg : Gw gr) (hl : l.length ≤ 100000) :
 Rn (if decide (0 < (l.length : Int)) = true then ((zaf c.1 c.2.1 c.2.2 (l.length : Int)).bind fun z11 => (ix l z11.1).bind fun x12 => (zau z11.2.1 z11.2.2.1 z11.2.2.2 gr).bind fun z13 => (zaz z13.2.1 z13.2.2.1 z13.2.2.2 gr).bind fun z14 =>
  (zal z14.2.1 z14.2.2.1 z14.2.2.2 [z13.1, z14.1, (-1), gr.Q, IntKind.i64.wrap (x12 + 1)]).bind fun z15 => some ((z15.2.1, z15.2.2.1, z15.2.2.2), f (l.set z11.1.toNat z15.1))) else (some ((c.1, c.2.1, c.2.2), f l))) (fun x => (∃ l', l'.length = l.length ∧ x.2 = f l') ∧ Cu code (n + 12) x.1) := by
 have hq := hg.q
 refine zaj (fun h => ?_) fun _ => zab ⟨⟨l, rfl, rfl⟩, hc.mono (by omega)⟩
 have h := of_decide_eq_true h
 refine zad (zd8 hb hc (by omega) (by omega)) fun z ⟨⟨i, hi, hl'⟩, z2⟩ => ?_
 rw [hi]
 refine zbb hl' (zad (zgJ hb z2 (by omega) (by omega)) fun y ⟨_, _, _, y4⟩ => zad (zg1 hb y4 (by omega) hg) fun x ⟨_, _, x3⟩ => zad (zeu hb x3 (by omega) (by simp)) fun w ⟨_, w2⟩ => zab ⟨⟨_, ?_, rfl⟩, w2.mono (by omega)⟩)
 simp
theorem ztv {code c0 : List Int} {at_ seed n : Int} {gr : Group} {p : Proof} {k : Nat} (hb : Bt code) (h : Cu code n (c0, at_, seed)) (hn : n ≤ 3000000000000000) (hg : Gw gr) (hp : lp k p) (hk : k ≤ 100000) :
 Rn (zb8 c0 at_ seed gr p) (fun z => lp (k + 1) z.1 ∧ Cu code (n + 30) z.2) := by
 obtain ⟨p1, p2, p3⟩ := hp
 unfold zb8
 rw [zkP (by omega), Option.bind_some, zkP (by omega), Option.bind_some, zkP (by omega), Option.bind_some]
 refine zad (zfB hb h (by omega)) fun z z1 => zaj (fun _ => zab ⟨⟨by show p.Commits.length ≤ _; omega, by show p.Challenges.length ≤ _; omega, by show p.Responses.length ≤ _; omega⟩, z1.mono (by omega)⟩) fun _ => ?_
 refine zad (zd8 (m := 3) hb z1 (by omega) (by omega)) fun y ⟨⟨i, hi, h3⟩, y2⟩ => ?_
 refine zaj (fun _ => ?_) fun h0 => zaj (fun _ => ?_) fun h1 => zaj (fun _ => ?_) fun h2 => ?_
 ·refine zad (zjK (c := y.2) (f := fun l => (l, p.Challenges, p.Responses)) hb y2 (by omega) hg (by omega)) fun x ⟨⟨l, e1, e2⟩, x2⟩ => ?_
  rw [e2]
  exact zi2 (zil (k := k) hb x2 (by omega) (by show l.length ≤ k; omega) p2 p3 hk) fun z hz => ⟨hz.1, hz.2.mono (by omega)⟩
 ·refine zad (zjK (c := y.2) (f := fun l => (p.Commits, l, p.Responses)) hb y2 (by omega) hg (by omega)) fun x ⟨⟨l, e1, e2⟩, x2⟩ => ?_
  rw [e2]
  exact zi2 (zil (k := k) hb x2 (by omega) p1 (by show l.length ≤ k; omega) p3 hk) fun z hz => ⟨hz.1, hz.2.mono (by omega)⟩
 ·refine zad (zjK (c := y.2) (f := fun l => (p.Commits, p.Challenges, l)) hb y2 (by omega) hg (by omega)) fun x ⟨⟨l, e1, e2⟩, x2⟩ => ?_
  rw [e2]
  exact zi2 (zil (k := k) hb x2 (by omega) p1 p2 (by show l.length ≤ k; omega) hk) fun z hz => ⟨hz.1, hz.2.mono (by omega)⟩
 rw [hi] at h0 h1 h2
 have h0 : ¬ (i : Int) = 0 := by simpa using h0
 have h1 : ¬ (i : Int) = 1 := by simpa using h1
 have h2 : ¬ (i : Int) = 2 := by simpa using h2
 omega
def R9 (x : Int) : Prop := 0 ≤ x ∧ x ≤ 2000000000
theorem zeY {gr : Group} (k : OkG gr) {x : Int} (h : zbh gr x = true) : R9 x := by
 have := zl1 h; have := k.p; exact ⟨by omega, by omega⟩
theorem zdN {gr : Group} (k : OkG gr) (x e : Int) : R9 (zbS gr x e) := by
 have := zkJ k x e; have := k.p; exact ⟨by omega, by omega⟩
theorem zpb {x y : Int} (hx : R9 x) (hy : R9 y) : ∀ z ∈ [x, y], 0 ≤ z ∧ z ≤ 2000000000 := by
 intro z hz
 simp only [List.mem_cons, List.not_mem_nil, or_false] at hz
 rcases hz with rfl | rfl
 ·exact hx
 exact hy
theorem zvs {gr : Group} (k : OkG gr) {l : List Int} (h : ∀ x ∈ l, 0 ≤ x ∧ x ≤ 2000000000) : R9 (zd4 gr l) := by
 have := zsV k h; have := k.p; exact ⟨by omega, by omega⟩
theorem zmv {gr : Group} (k : OkG gr) {x y : Int} (hx : R9 x) (hy : R9 y) : R9 (zd4 gr [x, y]) := zvs k (zpb hx hy)
theorem zrX {l : List Int} (h : ∀ x ∈ l, R9 x) : l.all zcn = true := List.all_eq_true.2 fun x hx => zdC.2 ⟨(h x hx).1, by have := (h x hx).2; omega⟩
theorem m2I {gr : Group} (k : OkG gr) {x y : Int} (hx : R9 x) (hy : R9 y) : zbu gr [x, y] = some (zd4 gr [x, y]) := zoi k (zpb hx hy)
theorem m2S {gr : Group} (k : OkG gr) {x y : Int} (hx : R9 x) (hy : R9 y) : zcT gr [x, y] = some (zd4 gr [x, y]) := zqN k (zpb hx hy)
theorem pwI {gr : Group} (k : OkG gr) {x : Int} (hx : R9 x) (e : Int) : zaZ gr x e = some (zbS gr x e) := (zkd k hx.1 hx.2 e).1
theorem pwS {gr : Group} (k : OkG gr) {x : Int} (hx : R9 x) (e : Int) : zaH gr x e = some (zbS gr x e) := (zkd k hx.1 hx.2 e).2
theorem r_G {gr : Group} (k : OkG gr) : R9 gr.G := zeY k (zsT k)
theorem zj1 {gr : Group} {c : Cipher} (h : zbl gr c = true) : zbh gr c.A = true ∧ zbh gr c.B = true := by simpa [zbl] using h
structure WdC (gr : Group) (x z : Int) (roll : List Cipher) (l : List Cast) : Prop where
 k : OkG gr
 ex : zek gr x = true
 ez : zek gr z = true
 nz : z ≠ 0
 rl : roll.length ≤ 24 ∧ ∀ c ∈ roll, zbl gr c = true
 ll : l.length ≤ 24 ∧ ∀ b ∈ l, zbl gr b.Credential = true ∧ zbl gr b.Vote = true
def tgV (gr : Group) (x z : Int) (c : Cipher) : Int := zbS gr (zo6 gr x c) z
theorem zr6 {gr : Group} (k : OkG gr) (s : Int) {c : Cipher} (h : zbl gr c = true) : R9 (zo6 gr s c) := by
 simp only [zbl, Bool.and_eq_true] at h
 exact zmv k (zeY k h.2) (zdN k _ _)
theorem zkZ {gr : Group} (k : OkG gr) (x z : Int) {l : List Cipher} (hl : ∀ c ∈ l, zbl gr c = true) (hn : l.length ≤ 1000) : zbY gr x z l = some (l.map (tgV gr x z)) := by
 unfold zbY
 rw [zmx (l := l) (f := tgV gr x z) []]
 ·rfl
 intro i hi s hs
 have hs : s.length = i := by simpa using hs
 have hc := hl _ (List.getElem_mem hi)
 rw [zf9 hi, Option.bind_some, (zoQ k x hc).1, Option.bind_some, pwI k (zr6 k x hc), Option.bind_some, zel (by omega)]
 rfl
theorem zpR {gr : Group} (k : OkG gr) (x z : Int) {c : Cipher} (hc : zbl gr c = true) : zei gr x z c = some (tgV gr x z c) := by
 unfold zei
 rw [(zoQ k x hc).2, Option.bind_some, pwS k (zr6 k x hc)]
 rfl
abbrev casS : ByteArray := ⟨#[99, 97, 115, 116]⟩
def zkH (gr : Group) (b : Cast) : Int := chG gr casS ([b.Credential.A, b.Credential.B, b.Vote.A, b.Vote.B] ++ b.Pi.Commits)
def csF (b : Cast) : Bool := !(((b.Pi.Commits.length : Int) != 2) || (((b.Pi.Challenges.length : Int) != 1) || ((b.Pi.Responses.length : Int) != 2)))
def csB (gr : Group) (b : Cast) : Bool := csF b && ((b.Pi.Commits.all (zbh gr) && b.Pi.Responses.all (zek gr)) &&
 ((b.Pi.Challenges.getD 0 0 == zkH gr b) && ((zbS gr gr.G (b.Pi.Responses.getD 0 0) == zd4 gr [b.Pi.Commits.getD 0 0, zbS gr b.Credential.A (zkH gr b)]) && (zbS gr gr.G (b.Pi.Responses.getD 1 0) == zd4 gr [b.Pi.Commits.getD 1 0, zbS gr b.Vote.A (zkH gr b)]))))
theorem zq8 {b : Cast} (h : csF b = true) : ∃ c0 c1 e r0 r1, b.Pi = ⟨[c0, c1], [e], [r0, r1]⟩ := by
 simp only [csF, Bool.not_eq_true', Bool.or_eq_false_iff, bne_eq_false_iff_eq] at h
 obtain ⟨h1, h2, h3⟩ := h
 generalize b.Pi = p at h1 h2 h3 ⊢
 obtain ⟨a, c, d⟩ := p
 dsimp only at h1 h2 h3
 have h1 : a.length = 2 := by omega
 have h2 : c.length = 1 := by omega
 have h3 : d.length = 2 := by omega
 match a, c, d, h1, h2, h3 with
 | [c0, c1], [e], [r0, r1], _, _, _ => exact ⟨c0, c1, e, r0, r1, rfl⟩
theorem zlV {gr : Group} (k : OkG gr) {b : Cast} (hc : zbl gr b.Credential = true) (hv : zbl gr b.Vote = true) (hb : b.Pi.Commits.length ≤ 1000) : zcI gr b = some (csB gr b) ∧ zdT gr b = some (csB gr b) := by
 have hp := k.p
 have hq := k.q
 have c1 := zeY k (zj1 hc).1
 have c2 := zeY k (zj1 hc).2
 have v1 := zeY k (zj1 hv).1
 have v2 := zeY k (zj1 hv).2
 unfold zcI zdT csB
 have ex := zg5 (gr := gr) (by omega) (by omega) b.Pi.Responses
 have es := zkR (gr := gr) (by omega) (by omega) b.Pi.Responses
 rw [zrj k, zo2 k, ex, es]
 cases hF : csF b
 ·have hF := hF
  simp only [csF, Bool.not_eq_false', Bool.or_eq_true] at hF
  refine ⟨za8 (zad (ψ := (· = true)) ?_ ?_), za8 (zad (ψ := (· = true)) ?_ ?_)⟩
  ·refine zaj (fun _ => zab rfl) fun g1 => zaj (fun _ => zab rfl) fun g2 => zaj (fun _ => zab rfl) fun g3 => ?_
   rw [g1, g2, g3] at hF; simp at hF
  ·rintro _ rfl; exact ze4 rfl (zab rfl)
  ·refine zaj (fun _ => zab rfl) fun g1 => zaj (fun _ => zab rfl) fun g2 => zaj (fun _ => zab rfl) fun g3 => ?_
   rw [g1, g2, g3] at hF; simp at hF
  rintro _ rfl; exact ze4 rfl (zab rfl)
 obtain ⟨a0, a1, e, r0, r1, hpi⟩ := zq8 hF
 obtain ⟨cr, vt, pi⟩ := b
 dsimp only at hpi hc hv c1 c2 v1 v2 hb
 subst hpi
 cases hA : [a0, a1].all (zbh gr)
 ·exact ⟨by simp, by simp⟩
 cases hE : [r0, r1].all (zek gr)
 ·exact ⟨by simp, by simp⟩
 have hA2 : zbh gr a0 = true ∧ zbh gr a1 = true := by simpa using hA
 have hd : ([cr.A, cr.B, vt.A, vt.B] ++ [a0, a1]).all zcn = true := by
  refine zrX fun y hy => ?_
  simp at hy
  rcases hy with rfl | rfl | rfl | rfl | rfl | rfl
  ·exact c1
  ·exact c2
  ·exact v1
  ·exact v2
  ·exact zeY k hA2.1
  ·exact zeY k hA2.2
 have ch1 : zby gr ⟨cr, vt, ⟨[a0, a1], [e], [r0, r1]⟩⟩ [a0, a1] = some (zkH gr ⟨cr, vt, ⟨[a0, a1], [e], [r0, r1]⟩⟩) := by
  unfold zby
  rw [zel (by simp), ztP k _ (by simp), if_pos (zv0 k (s := casS) (by decide) (by rw [show casS.size = 4 from rfl]; simp) hd)]
  rfl
 have ch2 : zbZ gr ⟨cr, vt, ⟨[a0, a1], [e], [r0, r1]⟩⟩ = some (zkH gr ⟨cr, vt, ⟨[a0, a1], [e], [r0, r1]⟩⟩) := by
  unfold zbZ
  rw [zel (by simp), ziJ k (s := casS) (by decide) (by simp) hd]
  rfl
 generalize zkH gr ⟨cr, vt, ⟨[a0, a1], [e], [r0, r1]⟩⟩ = ch at ch1 ch2 ⊢
 have i0 : ∀ {p q : Int}, ix [p, q] 0 = some p := rfl
 have i1 : ∀ {p q : Int}, ix [p, q] 1 = some q := rfl
 have j0 : ix [e] 0 = some e := rfl
 have k0 : ∀ {p q : Int}, ix [p, q] ((0 : Nat) : Int) = some p := rfl
 have k1 : ∀ {p q : Int}, ix [p, q] ((1 : Nat) : Int) = some q := rfl
 have gp := fun y => pwI k (r_G k) y
 have gs := fun y => pwS k (r_G k) y
 refine ⟨?_, ?_⟩
 ·rw [ch1]
  simp only [Option.bind_some, List.length_cons, List.length_nil, i0, i1, j0, gp, pwI k c1, pwI k v1, m2I k (zeY k hA2.1) (zdN k _ _), m2I k (zeY k hA2.2) (zdN k _ _)]
  simp only [List.getD_cons_zero, List.getD_cons_succ]
  cases e == ch <;> cases zbS gr gr.G r0 == zd4 gr [a0, zbS gr cr.A ch] <;> rfl
 rw [ch2]
 simp only [Option.bind_some, List.length_cons, List.length_nil, j0]
 simp only [List.getD_cons_zero, List.getD_cons_succ]
 by_cases hch : e = ch
 ·subst hch
  have hne : (e != e) = false := by simp
  simp only [hne]
  simp only [show (((0 + 1 + 1 : Nat) : Int) != 2) = false from rfl, show (((0 + 1 : Nat) : Int) != 1) = false from rfl, Bool.not_true, Bool.false_eq_true, if_false, Option.bind_some]
  rw [zqR (fun i => [zbS gr gr.G r0 == zd4 gr [a0, zbS gr cr.A e], zbS gr gr.G r1 == zd4 gr [a1, zbS gr vt.A e]].getD i true) false true]
  ·simp only [List.range_succ, List.range_zero, List.nil_append, List.all_append, List.all_cons, List.all_nil, List.getD_cons_zero, List.getD_cons_succ, Bool.and_true, beq_self_eq_true, Bool.true_and]
   cases zbS gr gr.G r0 == zd4 gr [a0, zbS gr cr.A e] <;> cases zbS gr gr.G r1 == zd4 gr [a1, zbS gr vt.A e] <;> rfl
  intro i hi
  have hi : i < 2 := hi
  rcases (show i = 0 ∨ i = 1 by omega) with rfl | rfl
  ·show (ix [cr.A, vt.A] ((0 : Nat) : Int)).bind _ = _
   simp only [k0, Option.bind_some, j0, gs, pwS k c1, m2S k (zeY k hA2.1) (zdN k _ _), List.getD_cons_zero]
   cases h : zbS gr gr.G r0 == zd4 gr [a0, zbS gr cr.A e] <;> simp [bne, h]
  show (ix [cr.A, vt.A] ((1 : Nat) : Int)).bind _ = _
  simp only [k1, Option.bind_some, j0, gs, pwS k v1, m2S k (zeY k hA2.2) (zdN k _ _), List.getD_cons_succ, List.getD_cons_zero]
  cases h : zbS gr gr.G r1 == zd4 gr [a1, zbS gr vt.A e] <;> simp [bne, h]
 have h1 : (e == ch) = false := by simpa using hch
 have h2 : (e != ch) = true := by simpa using hch
 rw [h1, h2]
 rfl
section
variable (cs mem : Nat → Bool) (t : Nat → Int) (n : Nat)
def kpV (i : Nat) : Bool := cs i && mem i
def wlt (i : Nat) : Bool := (List.range n).any fun j => decide (i < j) && (kpV cs mem j && (t j == t i))
def cdW (i : Nat) : Int := if (!cs i) = true then 1 else if (!mem i) = true then 2 else if wlt cs mem t n i = true then 3 else 0
structure WdI (j : Nat) (s : List Int × List Int) : Prop where
 sz : s.1.length ≤ j
 e : s.2 = (List.range n).map fun i => if n - j ≤ i then cdW cs mem t n i else 0
 m : ∀ y, y ∈ s.1 ↔ ∃ q, n - j ≤ q ∧ q < n ∧ kpV cs mem q = true ∧ t q = y
theorem zmV {j : Nat} (hj : j < n) : ((List.range n).map fun i => if n - j ≤ i then cdW cs mem t n i else 0).set (n - 1 - j) (cdW cs mem t n (n - 1 - j)) = (List.range n).map fun i => if n - (j + 1) ≤ i then cdW cs mem t n i else 0 := by
 refine List.ext_getElem (by simp) fun i h1 h2 => ?_
 rw [List.getElem_set]
 simp only [List.getElem_map, List.getElem_range]
 split
 ·rename_i e; subst e; rw [if_pos (by omega)]
 by_cases h : n - j ≤ i
 ·rw [if_pos h, if_pos (by omega)]
 rw [if_neg h, if_neg (by omega)]
theorem zsA {j : Nat} (hj : j < n) (h0 : cdW cs mem t n (n - 1 - j) = 0) : ((List.range n).map fun i => if n - j ≤ i then cdW cs mem t n i else 0) = (List.range n).map fun i => if n - (j + 1) ≤ i then cdW cs mem t n i else 0 := by
 rw [← zmV cs mem t n hj, h0]
 refine List.ext_getElem (by simp) fun i h1 h2 => ?_
 rw [List.getElem_set]
 simp only [List.getElem_map, List.getElem_range]
 by_cases e : n - 1 - j = i
 ·subst e; rw [if_pos rfl, if_neg (by omega)]
 rw [if_neg e]
theorem zqJ {j : Nat} {s : List Int × List Int} (hj : j < n) (h : WdI cs mem t n j s) : s.1.contains (t (n - 1 - j)) = wlt cs mem t n (n - 1 - j) := by
 rw [Bool.eq_iff_iff, List.contains_iff_mem, h.m]
 simp only [wlt, List.any_eq_true, List.mem_range, Bool.and_eq_true, decide_eq_true_eq, beq_iff_eq]
 constructor
 ·rintro ⟨q, q1, q2, q3, q4⟩; exact ⟨q, q2, by omega, q3, q4⟩
 rintro ⟨q, q2, q1, q3, q4⟩; exact ⟨q, by omega, q2, q3, q4⟩
theorem zgr {j : Nat} {s : List Int × List Int} (hj : j < n) (h : WdI cs mem t n j s) {v : Int} (hv : v = cdW cs mem t n (n - 1 - j)) (hs : kpV cs mem (n - 1 - j) = true → wlt cs mem t n (n - 1 - j) = true) : WdI cs mem t n (j + 1) (s.1, s.2.set (n - 1 - j) v) := by
 refine ⟨by have := h.sz; show s.1.length ≤ _; omega, ?_, fun y => ?_⟩
 ·show s.2.set _ _ = _
  rw [h.e, hv, zmV cs mem t n hj]
 show y ∈ s.1 ↔ _
 rw [h.m]
 constructor
 ·rintro ⟨q, q1, q2⟩; exact ⟨q, by omega, q2⟩
 rintro ⟨q, q1, q2, q3, q4⟩
 by_cases hq : n - j ≤ q
 ·exact ⟨q, hq, q2, q3, q4⟩
 have e : q = n - 1 - j := by omega
 subst e
 have := hs q3
 simp only [wlt, List.any_eq_true, List.mem_range, Bool.and_eq_true, decide_eq_true_eq, beq_iff_eq] at this
 obtain ⟨r, r1, r2, r3, r4⟩ := this
 exact ⟨r, by omega, r1, r3, r4.trans q4⟩
theorem zqB {j : Nat} {s : List Int × List Int} (hj : j < n) (h : WdI cs mem t n j s) (hk : kpV cs mem (n - 1 - j) = true) {o : List Int} (ho : o = (List.range n).map fun i => if n - (j + 1) ≤ i then cdW cs mem t n i else 0) : WdI cs mem t n (j + 1) (s.1 ++ [t (n - 1 - j)], o) := by
 refine ⟨by have := h.sz; simp; omega, ho, fun y => ?_⟩
 show y ∈ s.1 ++ [t (n - 1 - j)] ↔ _
 rw [List.mem_append, List.mem_singleton, h.m]
 constructor
 ·rintro (⟨q, q1, q2⟩ | rfl)
  ·exact ⟨q, by omega, q2⟩
  exact ⟨_, by omega, by omega, hk, rfl⟩
 rintro ⟨q, q1, q2, q3, q4⟩
 by_cases hq : n - j ≤ q
 ·exact .inl ⟨q, hq, q2, q3, q4⟩
 have e : q = n - 1 - j := by omega
 subst e
 exact .inr q4.symm
theorem zvx {i : Nat} (h : kpV cs mem i = true) : cdW cs mem t n i = if wlt cs mem t n i = true then 3 else 0 := by
 simp only [kpV, Bool.and_eq_true] at h
 unfold cdW
 rw [h.1, h.2]; rfl
theorem zvq {i : Nat} : (cdW cs mem t n i == 0 || cdW cs mem t n i == 3) = kpV cs mem i := by
 unfold cdW kpV
 cases cs i <;> cases mem i <;> cases wlt cs mem t n i <;> rfl
end
abbrev zov : Cast := ⟨⟨0, 0⟩, ⟨0, 0⟩, ⟨[], [], []⟩⟩
def wdT (gr : Group) (x z : Int) (l : List Cast) (i : Nat) : Int := tgV gr x z (l.getD i zov).Credential
def wdK (gr : Group) (l : List Cast) (i : Nat) : Bool := csB gr (l.getD i zov)
def wdM (gr : Group) (x z : Int) (roll : List Cipher) (l : List Cast) (i : Nat) : Bool := (roll.map (tgV gr x z)).contains (wdT gr x z l i)
def wdV (gr : Group) (x z : Int) (roll : List Cipher) (l : List Cast) : List Int := (List.range l.length).map (cdW (wdK gr l) (wdM gr x z roll l) (wdT gr x z l) l.length)
def zdX (gr : Group) (b : Cast) : Bool := zbl gr b.Credential && zbl gr b.Vote
theorem zqm {gr : Group} (k : OkG gr) (b : Cast) : zcx gr b = some (zdX gr b) := by
 unfold zcx zdX
 rw [zhc k, zhc k, show (zbh gr b.Credential.A && zbh gr b.Credential.B) = zbl gr b.Credential from rfl, show (zbh gr b.Vote.A && zbh gr b.Vote.B) = zbl gr b.Vote from rfl]
 cases zbl gr b.Credential <;> cases zbl gr b.Vote <;> rfl
theorem zls {gr : Group} (k : OkG gr) (l : List Cast) : zap l gr.P gr.Q gr.G = some (!l.all (zdX gr)) := by
 unfold zap
 refine za8 (zad (ψ := fun x => (x = -1 ∧ l.all (zdX gr) = true) ∨ (0 ≤ x ∧ l.all (zdX gr) = false)) ?_ fun x hx => zab ?_)
 ·unfold zaE
  refine zad (ψ := fun x => (x = .inl () ∧ l.all (zdX gr) = true) ∨ (∃ j : Nat, x = .inr (j : Int) ∧ l.all (zdX gr) = false)) (zbX (fun n _ => ∀ m, m < n → ∀ h : m < l.length, zdX gr l[m] = true) (fun m hm => by omega) ?_ fun s hs => .inl ⟨rfl, ?_⟩) ?_
  ·rintro n s hn hI
   refine zbb hn ?_
   unfold zds
   refine zad (ψ := fun b => b = !zdX gr l[n]) (zah (zqm k l[n]) (zab rfl)) ?_
   rintro _ rfl
   refine zaj (fun h => zab (.inr ⟨n, rfl, ?_⟩)) fun h => zab fun m hm hl => ?_
   ·rw [List.all_eq_false]
    exact ⟨l[n], List.getElem_mem hn, by simpa using h⟩
   rcases Nat.lt_or_ge m n with h1 | h1
   ·exact hI m h1 hl
   have : m = n := by omega
   subst this
   simpa using h
  ·rw [List.all_eq_true]
   intro x hx
   obtain ⟨m, hm, rfl⟩ := List.mem_iff_getElem.1 hx
   exact hs m hm hm
  rintro x (⟨rfl, h⟩ | ⟨j, rfl, h⟩)
  ·exact zab (.inl ⟨rfl, h⟩)
  exact zab (.inr ⟨by show (0 : Int) ≤ (j : Int); omega, h⟩)
 rcases hx with ⟨rfl, h⟩ | ⟨h0, h⟩
 ·rw [h]; rfl
 rw [h]; simpa using h0
theorem znN {cs mem : Nat → Bool} {t : Nat → Int} {n : Nat} : WdI cs mem t n 0 ([], List.replicate n 0) := by
 refine ⟨by simp, ?_, fun y => ?_⟩
 ·refine List.ext_getElem (by simp) fun i h1 h2 => ?_
  have hi : i < n := by simpa using h1
  simp only [List.getElem_replicate, List.getElem_map, List.getElem_range]
  rw [if_neg (by omega)]
 simp only [List.not_mem_nil, false_iff, not_exists]
 rintro q ⟨q1, q2, _⟩
 omega
theorem zn1 {cs mem : Nat → Bool} {t : Nat → Int} {n : Nat} {s : List Int × List Int} (h : WdI cs mem t n n s) : s.2 = (List.range n).map (cdW cs mem t n) := by
 rw [h.e]
 refine List.map_congr_left fun i hi => ?_
 rw [if_pos (by omega)]
section
variable {gr : Group} {x z : Int} {roll : List Cipher} {l : List Cast}
theorem zqU (W : WdC gr x z roll l) (hb : ∀ b ∈ l, b.Pi.Commits.length ≤ 1000) : zbk gr x z roll l = some (wdV gr x z roll l, true) := by
 have k := W.k
 have hq := k.q
 have hp := k.p
 have hl := W.ll.1
 unfold zbk zbv
 rw [zhJ, zj4.2 k, zg5 (gr := gr) (by omega) (by omega), zgI k, zls k]
 have e1 : [x, z].all (zek gr) = true := by simp [W.ex, W.ez]
 have e2 : (z != 0) = true := by simpa using W.nz
 have e3 : (decide (roll.length ≤ 24) && roll.all (zbl gr)) = true := by
  rw [Bool.and_eq_true]; exact ⟨decide_eq_true W.rl.1, List.all_eq_true.2 W.rl.2⟩
 have e4 : decide (24 < (l.length : Int)) = false := decide_eq_false (by omega)
 have e5 : l.all (zdX gr) = true := List.all_eq_true.2 fun b hm => by simp [zdX, W.ll.2 b hm]
 simp only [e1, e2, e3, e4, e5, Option.bind_some, if_true, Bool.not_true, Bool.false_eq_true, if_false]
 refine za8 (zah (zkZ k x z W.rl.2 (by have := W.rl.1; omega)) (zaL (by omega) ?_))
 refine zad (ψ := (· = wdV gr x z roll l)) (zd9 l.length (fun j s => WdI (wdK gr l) (wdM gr x z roll l) (wdT gr x z l) l.length j (s.1, s.2.1) ∧ s.2.2 = (l.length : Int) - 1 - j) ⟨znN, ?_⟩ ?_ ?_) (by rintro _ rfl; exact zab rfl)
 ·show IntKind.i64.wrap ((l.length : Int) - 1) = _
  rw [zaB (by omega) (by omega)]; omega
 ·rintro j ⟨s0, s1, i⟩ hj ⟨h, hi⟩
  have hi : i = (l.length : Int) - 1 - j := hi
  obtain ⟨q, hq1, hq2⟩ : ∃ q : Nat, i = (q : Int) ∧ q = l.length - 1 - j := ⟨l.length - 1 - j, by omega, rfl⟩
  subst hq1
  have hql : q < l.length := by omega
  have hs1 : s1.length = l.length := by have := congrArg List.length h.e; simpa using this
  have hm := W.ll.2 _ (List.getElem_mem hql)
  have hT : wdT gr x z l q = tgV gr x z l[q].Credential := by unfold wdT; rw [zfh hql]
  have hC : wdK gr l q = csB gr l[q] := by unfold wdK; rw [zfh hql]
  have hlt := zqJ _ _ _ _ hj h
  rw [← hq2] at hlt
  have hlt : s0.contains (wdT gr x z l q) = _ := hlt
  refine ze4 (by simp) ?_
  refine zad (ψ := fun v => WdI (wdK gr l) (wdM gr x z roll l) (wdT gr x z l) l.length (j + 1) v) ?_ fun v hv => zab ⟨hv, ?_⟩
  ·refine zbb hql (zah (zkZ k x z (l := [l[q].Credential]) (fun c hc => by rw [List.mem_singleton] at hc; subst hc; exact hm.1) (by simp)) (zah (a := wdT gr x z l q) (by rw [hT]; rfl) (zah ((zlV k hm.1 hm.2 (hb _ (List.getElem_mem hql))).1.trans (congrArg some hC.symm)) (zaj (fun g => ?_) fun g => zah (zgg _ _) (zaj (fun g2 => ?_) fun g2 => zah (zgg _ _) (zaj (fun g3 => ?_) fun g3 => ?_))))))
   ·refine zbb (l := s1) (k := q) (by omega) (zab ?_)
    show WdI _ _ _ _ _ (s0, s1.set ((q : Int).toNat) 1)
    rw [Int.toNat_natCast, hq2]
    rw [hq2] at g
    exact zgr _ _ _ _ hj h (by unfold cdW; rw [g]; rfl) fun hk => by simp only [kpV, Bool.and_eq_true] at hk; rw [hk.1] at g; cases g
   ·refine zbb (l := s1) (k := q) (by omega) (zab ?_)
    show WdI _ _ _ _ _ (s0, s1.set ((q : Int).toNat) 2)
    have g2 : (!wdM gr x z roll l q) = true := g2
    rw [Int.toNat_natCast, hq2]
    rw [hq2] at g g2
    exact zgr _ _ _ _ hj h (by unfold cdW; rw [g, g2]; rfl) fun hk => by simp only [kpV, Bool.and_eq_true] at hk; rw [hk.2] at g2; cases g2
   ·refine zbb (l := s1) (k := q) (by omega) (zab ?_)
    show WdI _ _ _ _ _ (s0, s1.set ((q : Int).toNat) 3)
    have g2 : (!wdM gr x z roll l q) = false := g2
    have g3 : s0.contains (wdT gr x z l q) = true := g3
    rw [hlt] at g3
    rw [Int.toNat_natCast, hq2]
    rw [hq2] at g g2 g3
    exact zgr _ _ _ _ hj h (by unfold cdW; rw [g, g2, g3]; rfl) fun _ => g3
   have g2 : (!wdM gr x z roll l q) = false := g2
   have g3 : s0.contains (wdT gr x z l q) = false := g3
   rw [hlt] at g3
   have hsz := h.sz
   refine zbb (l := s1) (k := q) (by omega) (zaL (by have : s0.length ≤ j := hsz; dsimp only; omega) (zab ?_))
   show WdI _ _ _ _ _ (s0 ++ [wdT gr x z l q], s1.set ((q : Int).toNat) 0)
   rw [Int.toNat_natCast, hq2]
   rw [hq2] at g g2 g3
   have e0 : cdW (wdK gr l) (wdM gr x z roll l) (wdT gr x z l) l.length (l.length - 1 - j) = 0 := by unfold cdW; rw [g, g2, g3]; rfl
   refine zqB _ _ _ _ hj h (by simp only [kpV, Bool.and_eq_true]; exact ⟨by simpa using g, by simpa using g2⟩) ?_
   have he : s1 = _ := h.e
   rw [he, ← zmV _ _ _ _ hj, e0]
  show IntKind.i64.wrap ((q : Int) - 1) = _
  rw [zaB (by omega) (by omega)]; push_cast; omega
 rintro ⟨s0, s1, i⟩ ⟨h, hi⟩
 have hi : i = (l.length : Int) - 1 - l.length := hi
 subst hi
 exact zcO (by simp; omega) (zab (zn1 h))
theorem zrF (W : WdC gr x z roll l) (hb : ∀ b ∈ l, b.Pi.Commits.length ≤ 1000) : zes gr x z roll l = some (wdV gr x z roll l) := by
 have k := W.k
 have hq := k.q
 have hp := k.p
 have hl := W.ll.1
 have hrl := W.rl.1
 unfold zes
 refine za8 (zah (a := roll.map (tgV gr x z)) ?_ (zaL (by omega) (zah rfl ?_)))
 ·rw [zmx (l := roll) (f := tgV gr x z) []]
  ·rfl
  intro i hi s hs
  have hs : s.length = i := by simpa using hs
  rw [zf9 hi, Option.bind_some, zpR k x z (W.rl.2 _ (List.getElem_mem hi)), Option.bind_some, zel (by omega)]
 refine zad (ψ := (· = wdV gr x z roll l)) (zd9 l.length (fun j s => WdI (wdK gr l) (wdM gr x z roll l) (wdT gr x z l) l.length j (s.1, s.2.1) ∧ s.2.2 = (l.length : Int) - 1 - j) ⟨znN, ?_⟩ ?_ ?_) (by rintro _ rfl; exact zab rfl)
 ·show IntKind.i64.wrap ((l.length : Int) - 1) = _
  rw [zaB (by omega) (by omega)]; omega
 ·rintro j ⟨s0, s1, i⟩ hj ⟨h, hi⟩
  have hi : i = (l.length : Int) - 1 - j := hi
  obtain ⟨q, hq1, hq2⟩ : ∃ q : Nat, i = (q : Int) ∧ q = l.length - 1 - j := ⟨l.length - 1 - j, by omega, rfl⟩
  subst hq1
  have hql : q < l.length := by omega
  have hs1 : s1.length = l.length := by have := congrArg List.length h.e; simpa using this
  have hm := W.ll.2 _ (List.getElem_mem hql)
  have hT : wdT gr x z l q = tgV gr x z l[q].Credential := by unfold wdT; rw [zfh hql]
  have hC : wdK gr l q = csB gr l[q] := by unfold wdK; rw [zfh hql]
  have hlt := zqJ _ _ _ _ hj h
  rw [← hq2] at hlt
  have hlt : s0.contains (wdT gr x z l q) = _ := hlt
  refine ze4 (by simp) ?_
  refine zad (ψ := fun v => WdI (wdK gr l) (wdM gr x z roll l) (wdT gr x z l) l.length (j + 1) v) ?_ fun v hv => zab ⟨hv, ?_⟩
  ·refine zbb hql (zah ((zpR k x z hm.1).trans (by rw [← hT])) (zah ((zlV k hm.1 hm.2 (hb _ (List.getElem_mem hql))).2.trans (congrArg some hC.symm)) (zaj (fun g => ?_) fun g => zah (zkE _ _) (zaj (fun g2 => ?_) fun g2 => zah (zkE _ _) (zaj (fun g3 => ?_) fun g3 => ?_)))))
   ·refine zbb (l := s1) (k := q) (by omega) (zab ?_)
    show WdI _ _ _ _ _ (s0, s1.set ((q : Int).toNat) 1)
    rw [Int.toNat_natCast, hq2]
    rw [hq2] at g
    exact zgr _ _ _ _ hj h (by unfold cdW; rw [g]; rfl) fun hk => by simp only [kpV, Bool.and_eq_true] at hk; rw [hk.1] at g; cases g
   ·refine zbb (l := s1) (k := q) (by omega) (zab ?_)
    show WdI _ _ _ _ _ (s0, s1.set ((q : Int).toNat) 2)
    have g2 : (!wdM gr x z roll l q) = true := g2
    rw [Int.toNat_natCast, hq2]
    rw [hq2] at g g2
    exact zgr _ _ _ _ hj h (by unfold cdW; rw [g, g2]; rfl) fun hk => by simp only [kpV, Bool.and_eq_true] at hk; rw [hk.2] at g2; cases g2
   ·refine zbb (l := s1) (k := q) (by omega) (zab ?_)
    show WdI _ _ _ _ _ (s0, s1.set ((q : Int).toNat) 3)
    have g2 : (!wdM gr x z roll l q) = false := g2
    have g3 : s0.contains (wdT gr x z l q) = true := g3
    rw [hlt] at g3
    rw [Int.toNat_natCast, hq2]
    rw [hq2] at g g2 g3
    exact zgr _ _ _ _ hj h (by unfold cdW; rw [g, g2, g3]; rfl) fun _ => g3
   have g2 : (!wdM gr x z roll l q) = false := g2
   have g3 : s0.contains (wdT gr x z l q) = false := g3
   rw [hlt] at g3
   have hsz := h.sz
   refine zaL (by have : s0.length ≤ j := hsz; dsimp only; omega) (zab ?_)
   show WdI _ _ _ _ _ (s0 ++ [wdT gr x z l q], s1)
   rw [hq2]
   rw [hq2] at g g2 g3
   have e0 : cdW (wdK gr l) (wdM gr x z roll l) (wdT gr x z l) l.length (l.length - 1 - j) = 0 := by unfold cdW; rw [g, g2, g3]; rfl
   refine zqB _ _ _ _ hj h (by simp only [kpV, Bool.and_eq_true]; exact ⟨by simpa using g, by simpa using g2⟩) ?_
   have he : s1 = _ := h.e
   rw [he, ← zsA _ _ _ _ hj e0]
  show IntKind.i64.wrap ((q : Int) - 1) = _
  rw [zaB (by omega) (by omega)]; push_cast; omega
 rintro ⟨s0, s1, i⟩ ⟨h, hi⟩
 have hi : i = (l.length : Int) - 1 - l.length := hi
 subst hi
 exact zcO (by simp; omega) (zab (zn1 h))
end
theorem ztU (gr : Group) (x z : Int) (roll : List Cipher) (l : List Cast) (hb : ∀ b ∈ l, b.Pi.Commits.length ≤ 1000) : ∃ v, zbk gr x z roll l = some v ∧ zcd gr x z roll l = some v ∧ (v.2 = true → WdC gr x z roll l ∧ v.1 = wdV gr x z roll l) := by
 have no : ∀ {o : Option (List Int × Bool)} {o' : Option (List Int × Bool)}, o = some ([], false) → o' = some ([], false) → ∃ v, o = some v ∧ o' = some v ∧ (v.2 = true → WdC gr x z roll l ∧ v.1 = wdV gr x z roll l) := fun h1 h2 => ⟨_, h1, h2, fun h => Bool.noConfusion h⟩
 by_cases k : OkG gr
 ·have hq := k.q
  have hp := k.p
  have ok := zj4.2 k
  have e1 := zg5 (gr := gr) (by omega) (by omega) [x, z]
  have e2 := zkR (gr := gr) (by omega) (by omega) [x, z]
  have eI : zbv gr x z = some ([x, z].all (zek gr) && z != 0) := by
   unfold zbv
   rw [zhJ, ok, e1]
   cases [x, z].all (zek gr) <;> rfl
  have eS : zc0 gr x z = some ([x, z].all (zek gr) && z != 0) := by
   unfold zc0
   rw [zhO, ok, e2]
   cases [x, z].all (zek gr) <;> rfl
  have eL : ∀ b : Cast, zdl gr [b.Credential, b.Vote] = some (zdX gr b) := fun b => by
   rw [zoa k]; simp [zdX]
  have eD : zdA gr x z roll l = some (([x, z].all (zek gr) && z != 0) && ((decide (roll.length ≤ 24) && roll.all (zbl gr)) && (decide (l.length ≤ 24) && l.all (zdX gr)))) := by
   unfold zdA
   rw [eS, zoa k]
   have e4 : decide (24 < (l.length : Int)) = !decide (l.length ≤ 24) := by rw [← decide_not]; exact decide_eq_decide.2 (by omega)
   rw [e4]
   cases ([x, z].all (zek gr) && z != 0)
   ·rfl
   cases (decide (roll.length ≤ 24) && roll.all (zbl gr))
   ·rfl
   cases decide (l.length ≤ 24)
   ·rfl
   simp only [Option.bind_some, Bool.not_true, Bool.false_eq_true, if_false, Bool.true_and]
   rw [zqR (fun i => zdX gr (l.getD i zov)) false true]
   ·congr 1
    rw [Bool.eq_iff_iff]
    constructor
    ·intro h
     rw [List.all_eq_true]
     intro b hm
     obtain ⟨i, hi, rfl⟩ := List.mem_iff_getElem.1 hm
     by_cases hh : (List.range l.length).all (fun i => zdX gr (l.getD i zov)) = true
     ·have := List.all_eq_true.1 hh i (List.mem_range.2 hi)
      rw [zfh hi] at this; exact this
     ·rw [if_neg hh] at h; cases h
    ·intro h
     rw [if_pos]
     rw [List.all_eq_true]
     intro i hi
     have hi := List.mem_range.1 hi
     rw [zfh hi]
     exact List.all_eq_true.1 h _ (List.getElem_mem hi)
   ·intro i hi
    rw [zf9 hi, Option.bind_some, eL, Option.bind_some, zfh hi]
    cases zdX gr l[i] <;> rfl
  by_cases hW : (([x, z].all (zek gr) && z != 0) && ((decide (roll.length ≤ 24) && roll.all (zbl gr)) && (decide (l.length ≤ 24) && l.all (zdX gr)))) = true
  ·rw [hW] at eD
   simp only [Bool.and_eq_true, decide_eq_true_eq, List.all_cons, List.all_nil, Bool.and_true, bne_iff_ne, ne_eq, List.all_eq_true] at hW
   obtain ⟨⟨⟨w1, w2⟩, w3⟩, ⟨w4, w5⟩, w6, w7⟩ := hW
   have W : WdC gr x z roll l := ⟨k, w1, w2, w3, ⟨w4, w5⟩, w6, fun b hm => by have := w7 b hm; simpa [zdX] using this⟩
   refine ⟨(wdV gr x z roll l, true), zqU W hb, ?_, fun _ => ⟨W, rfl⟩⟩
   unfold zcd
   rw [eD]
   simp [zrF W hb]
  rw [Bool.not_eq_true] at hW
  rw [hW] at eD
  refine no ?_ (by unfold zcd; rw [eD]; rfl)
  have e4 : decide (24 < (l.length : Int)) = !decide (l.length ≤ 24) := by rw [← decide_not]; exact decide_eq_decide.2 (by omega)
  unfold zbk
  rw [eI, zgI k, zls k, e4]
  revert hW
  cases ([x, z].all (zek gr) && z != 0)
  ·intro _; rfl
  cases (decide (roll.length ≤ 24) && roll.all (zbl gr))
  ·intro _; rfl
  cases decide (l.length ≤ 24)
  ·intro _; rfl
  cases l.all (zdX gr)
  ·intro _; rfl
  intro h; cases h
 have ok := zep k
 refine no ?_ ?_
 ·unfold zbk zbv
  rw [zhJ, ok]; rfl
 unfold zcd zdA zc0
 rw [zhO, ok]; rfl
theorem zkK {gr : Group} (k : OkG gr) {key m : Int} (hk : R9 key) (hm : R9 m) (r : Int) : Rn (zdK gr key m r) (fun z => R9 z.A ∧ R9 z.B) := by
 unfold zdK
 exact zah (pwS k (r_G k) _) (zah (pwS k hk _) (zah (m2S k hm (zdN k _ _)) (zab ⟨zdN k _ _, zmv k hm (zdN k _ _)⟩)))
theorem zst {gr : Group} (k : OkG gr) {x : Int} (hx : R9 x) (s : Int) : Rn (zcj gr x s) (fun v => R9 v.1) := by
 have hp := k.p
 have hq := k.q
 have r0 : R9 0 := ⟨by omega, by omega⟩
 unfold zcj
 refine zad (ψ := fun _ => True) (zad (ψ := fun _ => True) ?_ fun b _ => zaj (fun _ => zab trivial) fun _ => zah (zkR (by omega) (by omega) _) (zaj (fun _ => zab trivial) fun _ => zab trivial)) fun b _ => zaj (fun _ => zab r0) fun _ => zah (pwS k (r_G k) _) (zah (m2S k hx (zdN k _ _)) (zaj (fun _ => zab r0) fun _ => zab (zmv k hx (zdN k _ _))))
 unfold zdG
 exact zad (ψ := fun _ => True) (zah (zhO _) (zaj (fun _ => zah (zo2 k _) (zaj (fun _ => zab trivial) fun _ => zab trivial)) fun _ => zab trivial)) fun _ _ => zab trivial
theorem zq6 {gr : Group} (k : OkG gr) {key m v : Int} (hk : R9 key) (hm : R9 m) {co : List Int} (hl : co.length = 4) : Rn (zez gr key m v co) (fun b => lp 2 b.Pi) := by
 have hp := k.p
 have hq := k.q
 unfold zez
 refine zbb (k := 0) (by omega) (zbb (k := 1) (by omega) (zbb (k := 2) (by omega) (zbb (k := 3) (by omega) ?_)))
 refine zad (zkK k hk hm _) fun a ⟨a1, a2⟩ => zah (pwS k (r_G k) _) (zad (zkK k hk (zdN k _ _) _) fun b ⟨b1, b2⟩ => zah (pwS k (r_G k) _) (zah (pwS k (r_G k) _) ?_))
 refine zad (ψ := fun _ => True) ?_ fun e _ => zaL (by omega) (zaL (by omega) (zab ⟨by simp, by simp, by simp⟩))
 unfold zbZ
 refine zaL (by simp) (zah (ziJ k (by decide) (by simp) (zrX fun y hy => ?_)) (zab trivial))
 simp at hy
 rcases hy with rfl | rfl | rfl | rfl | rfl | rfl
 ·exact a1
 ·exact a2
 ·exact b1
 ·exact b2
 ·exact zdN k _ _
 exact zdN k _ _
theorem zrl {code c0 : List Int} {at_ seed n : Int} {gr : Group} (hb : Bt code) (h : Cu code n (c0, at_, seed)) (hn : n ≤ 1000000000000000) (hg : Gw gr) : Rn (zbK c0 at_ seed gr) (fun z => (∀ b ∈ z.2.2.1, b.Pi.Commits.length ≤ 10) ∧ Cu code (n + 1000) z.2.2.2) := by
 unfold zbK
 refine zad (zgJ hb h (by omega) (by have := hg.q; omega)) fun z ⟨z1, z2, _, z4⟩ => zah (zhO gr) (zaj (fun _ => zab ⟨by simp, z4.mono (by omega)⟩) fun g => ?_)
 have k := zj4.1 (by simpa using g : okG gr = true)
 have hp := k.p
 have hq := k.q
 have hK := zdN k gr.G z.1
 refine zah (pwS k (r_G k) _) (zad (zd8 (m := 3) hb z4 (by omega) (by omega)) fun p ⟨⟨N, hN, hN2⟩, p2⟩ => ?_)
 have e : IntKind.i64.wrap (1 + p.1) = ((N + 1 : Nat) : Int) := by rw [zaB (by omega) (by omega)]; omega
 rw [e]
 refine zad (ψ := fun x => (x.2.1.length = N + 1 ∧ ∀ y ∈ x.2.1, R9 y) ∧ Cu code (n + 200) x.1) (zd9 (N + 1) (fun j s => (s.2.2.2 = ((N + 1 : Nat) : Int) - j ∧ s.2.2.1.length = j) ∧ (s.2.1.length = j ∧ ∀ y ∈ s.2.1, R9 y) ∧ Cu code (n + 10 + 20 * j) s.1) ⟨⟨by simp, rfl⟩, ⟨rfl, by simp⟩, p2.mono (by omega)⟩ ?_ ?_) fun x ⟨⟨x1, x2⟩, x3⟩ => ?_
 ·rintro j ⟨⟨d0, d1, d2⟩, xs, ro, m⟩ hj ⟨⟨h1, h2⟩, ⟨h3, h4⟩, h5⟩
  have h1 : m = ((N + 1 : Nat) : Int) - j := h1
  have h2 : ro.length = j := h2
  have h3 : xs.length = j := h3
  have h4 : ∀ y ∈ xs, R9 y := h4
  subst h1
  refine ze4 (by simp; omega) (zad (ψ := fun _ => True) (by unfold zeB; exact zaj (fun _ => zab trivial) fun _ => zab trivial) fun le _ => zad (zee hb h5 (by omega)) fun q ⟨_, _, _, _, q5⟩ => zah (pwS k (r_G k) _) (zaL (by dsimp only; omega) (zad (zgJ hb q5 (by omega) (by omega)) fun f ⟨_, _, _, f4⟩ => zad (zkK k hK (zdN k _ _) _) fun c _ => zaL (by dsimp only; omega) (zab ⟨⟨?_, by simp [h2]⟩, ⟨by simp [h3], fun y hy => ?_⟩, f4.mono (by push_cast; omega)⟩))))
  ·show IntKind.i64.wrap (((N + 1 : Nat) : Int) - j - 1) = _
   rw [zaB (by omega) (by omega)]; push_cast; omega
  rcases List.mem_append.1 hy with h | h
  ·exact h4 y h
  rw [List.mem_singleton.1 h]; exact zdN k _ _
 ·rintro ⟨⟨d0, d1, d2⟩, xs, ro, m⟩ ⟨⟨h1, h2⟩, ⟨h3, h4⟩, h5⟩
  have h1 : m = ((N + 1 : Nat) : Int) - ((N + 1 : Nat) : Int) := h1
  subst h1
  exact zcO (by simp) (zab ⟨⟨h3, h4⟩, h5.mono (by push_cast; omega)⟩)
 refine zad (zd8 (m := 6) hb x3 (by omega) (by omega)) fun w ⟨⟨K, hK1, hK2⟩, w2⟩ => ?_
 rw [hK1]
 refine zad (ψ := fun x => (∀ b ∈ x.2, b.Pi.Commits.length ≤ 10) ∧ Cu code (n + 1000) x.1) (zd9 K (fun j s => (s.2.2 = (K : Int) - j ∧ s.2.1.length = j) ∧ (∀ b ∈ s.2.1, b.Pi.Commits.length ≤ 10) ∧ Cu code (n + 210 + 100 * j) s.1) ⟨⟨by simp, rfl⟩, by simp, w2.mono (by omega)⟩ ?_ ?_) fun v hv => zab hv
 ·rintro j ⟨⟨d0, d1, d2⟩, cs, m⟩ hj ⟨⟨h1, h2⟩, h4, h5⟩
  have h1 : m = (K : Int) - j := h1
  have h2 : cs.length = j := h2
  have h4 : ∀ b ∈ cs, b.Pi.Commits.length ≤ 10 := h4
  subst h1
  rw [x1]
  refine ze4 (by simp; omega) (zad (zd8 (m := N + 1) hb h5 (by omega) (by omega)) fun q ⟨⟨i, hi, hi2⟩, q2⟩ => ?_)
  rw [hi]
  have hil : i < x.2.1.length := by omega
  refine zbb hil (zad (zgJ hb q2 (by omega) (by omega)) fun f ⟨_, _, _, f4⟩ => zad (zst k (x2 _ (List.getElem_mem hil)) _) fun fk hfk => ?_)
  refine zad (ψ := fun y => Cu code (n + 210 + 100 * j + 20) y.1) (zaj (fun _ => zad (zfB hb f4 (by omega)) fun o o1 => zab (o1.mono (by omega))) fun _ => zab (f4.mono (by omega))) fun y hy => ?_
  refine zad (ψ := R9) (zaj (fun _ => zab hfk) fun _ => zab (x2 _ (List.getElem_mem hil))) fun u hu => ?_
  refine zad (zee hb hy (by omega)) fun r ⟨_, _, _, _, r5⟩ => zaL (by omega) (zad (zsi (k := 4) hb r5 (by omega) hg (by omega)) fun c ⟨c1, _, c3⟩ => zad (zq6 k hK hu c1) fun b hb1 => zad (zfB hb c3 (by omega)) fun o o1 => ?_)
  have hbc := hb1.1
  refine zad (ψ := fun v => v.2.2.2.2.2.1.length ≤ 10 ∧ Cu code (n + 210 + 100 * (j : Int) + 90) v.1) (zaj (fun _ => zad (ztv hb o1 (by omega) hg hb1 (by omega)) fun w ⟨w1, w2⟩ => zab ⟨by show w.1.Commits.length ≤ 10; have := w1.1; omega, w2.mono (by push_cast; omega)⟩) fun _ => zab ⟨by show b.Pi.Commits.length ≤ 10; omega, o1.mono (by push_cast; omega)⟩) fun v ⟨v1, v2⟩ => zaL (by dsimp only; omega) (zab ⟨⟨?_, by simp [h2]⟩, fun y hy => ?_, v2.mono (by push_cast; omega)⟩)
  ·show IntKind.i64.wrap ((K : Int) - j - 1) = _
   rw [zaB (by omega) (by omega)]; push_cast; omega
  rcases List.mem_append.1 hy with h | h
  ·exact h4 y h
  rw [List.mem_singleton.1 h]; exact v1
 rintro ⟨⟨d0, d1, d2⟩, cs, m⟩ ⟨⟨h1, h2⟩, h4, h5⟩
 have h1 : m = (K : Int) - K := h1
 subst h1
 exact zcO (by simp) (zab ⟨h4, h5.mono (by omega)⟩)
theorem zo4 {code c0 : List Int} {at_ seed n : Int} {gr : Group} (hb : Bt code) (h : Cu code n (c0, at_, seed)) (hn : n ≤ 1000000000000000) (hg : Gw gr) {K : Nat} (hK : K ≤ 100) : Rn (zbE c0 at_ seed gr (K : Int)) (fun z => Cu code (n + 2000) z.2) := by
 unfold zbE
 have e : IntKind.i64.wrap ((K : Int) + 1) = ((K + 1 : Nat) : Int) := by rw [zaB (by omega) (by omega)]; rfl
 rw [e]
 refine zad (zd8 (m := K + 1) hb h (by omega) (by omega)) fun p ⟨⟨N, hN, hN2⟩, p2⟩ => ?_
 rw [hN]
 refine zad (ψ := fun x => x.2.length = N ∧ Cu code (n + 1200) x.1) (zd9 N (fun j s => (s.2.2 = (N : Int) - j ∧ s.2.1.length = j) ∧ Cu code (n + 10 + 10 * j) s.1) ⟨⟨by simp, rfl⟩, p2.mono (by omega)⟩ ?_ ?_) fun x ⟨x1, x2⟩ => ?_
 ·rintro j ⟨⟨d0, d1, d2⟩, cs, m⟩ hj ⟨⟨h1, h2⟩, h5⟩
  have h1 : m = (N : Int) - j := h1
  have h2 : cs.length = j := h2
  subst h1
  refine ze4 (by simp; omega) (zad (zry hb h5 (by omega) hg) fun c c1 => zaL (by dsimp only; omega) (zab ⟨⟨?_, by simp [h2]⟩, c1.mono (by push_cast; omega)⟩))
  show IntKind.i64.wrap ((N : Int) - j - 1) = _
  rw [zaB (by omega) (by omega)]; push_cast; omega
 ·rintro ⟨⟨d0, d1, d2⟩, cs, m⟩ ⟨⟨h1, h2⟩, h5⟩
  have h1 : m = (N : Int) - N := h1
  subst h1
  exact zcO (by simp) (zab ⟨h2, h5.mono (by omega)⟩)
 refine zad (zfB hb x2 (by omega)) fun o o1 => ?_
 refine zad (ψ := fun y => Cu code (n + 1300) y.1) (zaj (fun _ => zad (znE hb o1 (by omega) hg) fun c c1 => zaL (by omega) (zab (c1.mono (by omega)))) fun _ => zab (o1.mono (by omega))) fun y hy => ?_
 refine zad (zfB hb hy (by omega)) fun o o2 => ?_
 refine zad (ψ := fun y => Cu code (n + 2000) y.1) (zaj (fun _ => zad (zd8 (m := 2) hb o2 (by omega) (by omega)) fun q ⟨⟨M, hM, hM2⟩, q2⟩ => ?_) fun _ => zab (o2.mono (by omega))) fun y hy => zab hy
 have e2 : IntKind.i64.wrap (24 + q.1) = ((24 + M : Nat) : Int) := by rw [zaB (by omega) (by omega)]; omega
 rw [e2]
 refine zd9 (24 + M) (fun j s => s.2 = ((24 + M : Nat) : Int) - j ∧ s.1.length = j) ⟨by simp, rfl⟩ ?_ ?_
 ·rintro j ⟨cs, m⟩ hj ⟨h1, h2⟩
  have h1 : m = ((24 + M : Nat) : Int) - j := h1
  have h2 : cs.length = j := h2
  subst h1
  refine ze4 (by simp; omega) (zaL (by dsimp only; omega) (zab ⟨?_, by simp [h2]⟩))
  show IntKind.i64.wrap (((24 + M : Nat) : Int) - j - 1) = _
  rw [zaB (by omega) (by omega)]; push_cast; omega
 rintro ⟨cs, m⟩ ⟨h1, h2⟩
 have h1 : m = ((24 + M : Nat) : Int) - ((24 + M : Nat) : Int) := h1
 subst h1
 exact zcO (by simp) (zab (q2.mono (by omega)))
theorem zvP {code : List Int} (hb : Bt code) : Rn (zcu code) (fun z => ∀ b ∈ z.2.2.2.2, b.Pi.Commits.length ≤ 10) := by
 unfold zcu
 refine zad (znK hb (cu0 code) (by omega)) fun z ⟨z1, z2⟩ => zad (zfB hb z2 (by omega)) fun o o1 => ?_
 refine zad (ψ := fun x => Gw ⟨x.2.1, x.2.2.1, x.2.2.2⟩ ∧ Cu code 100 x.1) (zaj (fun _ => zad (zpw hb o1 (by omega)) fun w ⟨w1, w2⟩ => zab ⟨w1, w2.mono (by omega)⟩) fun _ => zab ⟨z1.w, o1.mono (by omega)⟩) fun x ⟨x1, x2⟩ => ?_
 refine zad (zrl hb x2 (by omega) x1) fun p ⟨p1, p2⟩ => zad (zfB hb p2 (by omega)) fun o2 o3 => ?_
 refine zad (ψ := fun y => Cu code 5000 y.1) (zaj (fun _ => zad (zo4 (K := 3) hb o3 (by omega) x1 (by omega)) fun w w1 => zab (w1.mono (by omega))) fun _ => zab (o3.mono (by omega))) fun y hy => ?_
 refine zad (zpC hb hy (by omega) x1) fun e ⟨_, _, e3⟩ => ?_
 refine zad (ψ := fun _ => True) (zaj (fun _ => zad (zfB hb e3 (by omega)) fun _ _ => zab trivial) fun _ => zab trivial) fun b _ => zad (ψ := fun _ => True) (zaj (fun _ => zab trivial) fun _ => zab trivial) fun c _ => zab p1
theorem zu2 {code : List Int} (hb : Bt code) : Rn (zci code) (fun l => l.length ≤ 100) := by
 unfold zci
 refine zad (zfB hb (cu0 code) (by omega)) fun o o1 => zaj (fun _ => ?_) fun _ => ?_
 ·refine zad (zd8 (m := 2) hb o1 (by omega) (by omega)) fun q ⟨⟨M, hM, hM2⟩, q2⟩ => ?_
  have e2 : IntKind.i64.wrap (24 + q.1) = ((24 + M : Nat) : Int) := by rw [zaB (by omega) (by omega)]; omega
  rw [e2]
  exact zaL (by omega) (zah rfl (zab (by simp; omega)))
 refine zad (zd8 (m := 9) hb o1 (by omega) (by omega)) fun q ⟨⟨M, hM, hM2⟩, q2⟩ => ?_
 rw [hM]
 refine zad (ψ := fun l => l.length ≤ 100) (zd9 M (fun j s => (s.2.2 = (M : Int) - j ∧ s.2.1.length = j) ∧ Cu code (10 + 10 * j) s.1) ⟨⟨by simp, rfl⟩, q2.mono (by omega)⟩ ?_ ?_) fun x hx => zab hx
 ·rintro j ⟨⟨d0, d1, d2⟩, cs, m⟩ hj ⟨⟨h1, h2⟩, h5⟩
  have h1 : m = (M : Int) - j := h1
  have h2 : cs.length = j := h2
  subst h1
  refine ze4 (by simp; omega) (zad (zee hb h5 (by omega)) fun c ⟨_, _, _, _, c5⟩ => zaL (by dsimp only; omega) (zab ⟨⟨?_, by simp [h2]⟩, c5.mono (by push_cast; omega)⟩))
  show IntKind.i64.wrap ((M : Int) - j - 1) = _
  rw [zaB (by omega) (by omega)]; push_cast; omega
 rintro ⟨⟨d0, d1, d2⟩, cs, m⟩ ⟨⟨h1, h2⟩, h5⟩
 have h1 : m = (M : Int) - M := h1
 have h2 : cs.length = M := h2
 subst h1
 exact zcO (by simp) (zab (by show cs.length ≤ 100; omega))
theorem zsU {l : List Int} (hl : l.length ≤ 1000) : ∃ v, zbW l = some v ∧ zc7 l = some v := by
 have e : zaR = zcU := by funext a b; rw [zgg, zkE]
 have h : Rn (zbW l) (fun _ => True) := by
  unfold zbW
  refine zaj (fun _ => zab trivial) fun _ => zad (ψ := fun _ => True) (zbX (fun i s => s.length ≤ i) (by simp) ?_ fun _ _ => trivial) fun _ _ => zab trivial
  intro i s hi hs
  have e1 : IntKind.i64.wrap ((i : Int) + 1) = ((i + 1 : Nat) : Int) := by rw [zaB (by omega) (by omega)]; rfl
  rw [e1]
  refine zad (ψ := fun v => v.length ≤ i + 1) (zbb hi (zaL (by omega) (zaL (by simp; omega) (zah (zgg _ _) (zaj (fun _ => zaL (by omega) (zab (by simp; omega))) fun _ => zab (by omega)))))) fun v hv => zab hv
 obtain ⟨v, h1, _⟩ := h
 refine ⟨v, h1, ?_⟩
 rw [← h1]
 unfold zbW zc7
 rw [e]
theorem zq1 {gr : Group} {x z : Int} {roll : List Cipher} {l : List Cast} (W : WdC gr x z roll l) : zed gr x z (l.map fun b => b.Credential) = some ((l.map fun b => b.Credential).map (tgV gr x z), true) := by
 have k := W.k
 have hq := k.q
 have hp := k.p
 have hl := W.ll.1
 have hc : ∀ c ∈ l.map (fun b => b.Credential), zbl gr c = true := fun c hc => by
  obtain ⟨b, hm, rfl⟩ := List.mem_map.1 hc
  exact (W.ll.2 b hm).1
 unfold zed zbv
 rw [zhJ, zj4.2 k, zg5 (gr := gr) (by omega) (by omega), zgI k, zkZ k x z hc (by simp; omega)]
 have e1 : [x, z].all (zek gr) = true := by simp [W.ex, W.ez]
 have e2 : (z != 0) = true := by simpa using W.nz
 have e3 : (decide ((l.map fun b => b.Credential).length ≤ 24) && (l.map fun b => b.Credential).all (zbl gr)) = true := by
  rw [Bool.and_eq_true]; exact ⟨decide_eq_true (by simpa using hl), List.all_eq_true.2 hc⟩
 rw [e1, e2, e3]
 rfl
theorem zso {gr : Group} {x z : Int} {roll : List Cipher} {l : List Cast} (W : WdC gr x z roll l) (hw : zbk gr x z roll l = some (wdV gr x z roll l, true)) : Rn (zcH gr x z roll l) (fun u => u.2 = true ∧ u.1.length = (List.range l.length).countP fun i => cdW (wdK gr l) (wdM gr x z roll l) (wdT gr x z l) l.length i == 0) := by
 have hl := W.ll.1
 unfold zcH
 refine zah hw (zcO rfl ?_)
 have hlen : (wdV gr x z roll l).length = l.length := by simp [wdV]
 refine zad (ψ := fun y => y.length = (List.range l.length).countP fun i => cdW (wdK gr l) (wdM gr x z roll l) (wdT gr x z l) l.length i == 0) (zbX (fun i s => s.length = (List.range i).countP fun i => cdW (wdK gr l) (wdM gr x z roll l) (wdT gr x z l) l.length i == 0) rfl ?_ fun s hs => by rw [hlen] at hs; exact hs) fun y hy => ?_
 ·intro i s hi hs
  have hi : i < (wdV gr x z roll l).length := hi
  have hil : i < l.length := by omega
  have hle : (List.range i).countP (fun i => cdW (wdK gr l) (wdM gr x z roll l) (wdT gr x z l) l.length i == 0) ≤ i := by
   have := List.countP_le_length (p := fun i => cdW (wdK gr l) (wdM gr x z roll l) (wdT gr x z l) l.length i == 0) (l := List.range i)
   simpa using this
  have hg : (wdV gr x z roll l)[i] = cdW (wdK gr l) (wdM gr x z roll l) (wdT gr x z l) l.length i := by simp [wdV]
  refine zad (ψ := fun (v : List Int) => v.length = (List.range (i + 1)).countP fun i => cdW (wdK gr l) (wdM gr x z roll l) (wdT gr x z l) l.length i == 0) (zbb hi ?_) fun v hv => zab hv
  rw [hg]
  refine zaj (fun g => zbb hil (zah (zoQ W.k x (W.ll.2 _ (List.getElem_mem hil)).2).1 (zaL (by omega) (zab ?_)))) fun g => zab ?_
  ·rw [List.range_succ, List.countP_append, List.length_append, hs]
   simp [g]
  rw [List.range_succ, List.countP_append, hs]
  simp [g]
 have hle := List.countP_le_length (p := fun i => cdW (wdK gr l) (wdM gr x z roll l) (wdT gr x z l) l.length i == 0) (l := List.range l.length)
 rw [List.length_range] at hle
 unfold zcc
 refine zah (zel (by omega)) (zab ⟨rfl, ?_⟩)
 show (srt y).length = _
 rw [zhq, hy]
section
variable (cs mem : Nat → Bool) (t : Nat → Int) (n : Nat)
def kpL (m : Nat) : List Nat := (List.range m).filter (kpV cs mem)
theorem zrA (i : Nat) : kpL cs mem (i + 1) = kpL cs mem i ++ (if kpV cs mem i = true then [i] else []) := by
 unfold kpL
 rw [List.range_succ, List.filter_append]
 congr 1
 simp only [List.filter_cons, List.filter_nil]
theorem zpN {i : Nat} (h : i ∈ kpL cs mem n) : i < n ∧ kpV cs mem i = true := by
 obtain ⟨h1, h2⟩ := List.mem_filter.1 h
 exact ⟨List.mem_range.1 h1, h2⟩
theorem zqD {i : Nat} (hi : i < (kpL cs mem n).length) : (((kpL cs mem n).drop (i + 1)).any fun j => t (kpL cs mem n)[i] == t j) = wlt cs mem t n (kpL cs mem n)[i] := by
 have hp : (kpL cs mem n).Pairwise (· < ·) := List.Pairwise.filter _ List.pairwise_lt_range
 have hlt : ∀ a b (ha : a < (kpL cs mem n).length) (hb : b < (kpL cs mem n).length), a < b → (kpL cs mem n)[a] < (kpL cs mem n)[b] := fun a b ha hb h => List.pairwise_iff_getElem.1 hp a b ha hb h
 rw [Bool.eq_iff_iff]
 simp only [wlt, List.any_eq_true, List.mem_range, Bool.and_eq_true, decide_eq_true_eq, beq_iff_eq]
 constructor
 ·rintro ⟨j, hj, e⟩
  obtain ⟨q, hq, rfl⟩ := List.mem_iff_getElem.1 hj
  rw [List.length_drop] at hq
  rw [List.getElem_drop] at e
  have hq2 : i + 1 + q < (kpL cs mem n).length := by omega
  have := zpN cs mem n (List.getElem_mem hq2)
  exact ⟨_, this.1, hlt _ _ hi hq2 (by omega), this.2, e.symm⟩
 rintro ⟨j, h1, h2, h3, e⟩
 have hj : j ∈ kpL cs mem n := List.mem_filter.2 ⟨List.mem_range.2 h1, h3⟩
 obtain ⟨q, hq, rfl⟩ := List.mem_iff_getElem.1 hj
 have hiq : i < q := by
  rcases Nat.lt_trichotomy i q with h | h | h
  ·exact h
  ·subst h; omega
  ·have := hlt _ _ hq hi h; omega
 refine ⟨_, ?_, e.symm⟩
 refine List.mem_iff_getElem.2 ⟨q - (i + 1), by rw [List.length_drop]; omega, ?_⟩
 rw [List.getElem_drop]
 congr 1
 omega
theorem zqq : (kpL cs mem n).countP (fun i => !wlt cs mem t n i) = (List.range n).countP fun i => cdW cs mem t n i == 0 := by
 unfold kpL
 rw [List.countP_filter]
 refine List.countP_congr fun i _ => ?_
 unfold cdW kpV
 cases cs i <;> cases mem i <;> cases wlt cs mem t n i <;> simp
end
set_option maxHeartbeats 2000000 in
theorem zvj (a b : List Int) (h0 : ∀ x ∈ a, 0 ≤ x ∧ x ≤ 255) (h1 : ∀ x ∈ b, 0 ≤ x ∧ x ≤ 255) (hl0 : a.length ≤ 1048576) (hl1 : b.length ≤ 1048576) : zdj a b = some true := by
 have hba : Bt a := ⟨h0, by omega⟩
 have hbb : Bt b := ⟨h1, by omega⟩
 unfold zdj
 refine za8 (zaj (fun _ => zab rfl) fun _ => ?_)
 refine zad (zvP hba) fun d hd => ?_
 obtain ⟨gr, x, z, roll, l⟩ := d
 have hd : ∀ b ∈ l, b.Pi.Commits.length ≤ 10 := hd
 obtain ⟨v, v1, v2, v3⟩ := ztU gr x z roll l (fun b hm => by have := hd b hm; omega)
 refine zah v1 (zah v2 (zad (zu2 hbb) fun q hq => ?_))
 obtain ⟨w, w1, w2⟩ := zsU (l := q) (by omega)
 refine zah w1 (zah w2 ?_)
 refine zad (ψ := (· = false)) (zcO (by simp) (zah ztc (zcO rfl (zcO (by simp) (zah ztc (zab rfl)))))) ?_
 rintro _ rfl
 refine zcO rfl (zaj (fun _ => zab rfl) fun g => ?_)
 have hv : v.2 = true := by simpa using g
 obtain ⟨W, hv1⟩ := v3 hv
 have hve : v = (wdV gr x z roll l, true) := Prod.ext hv1 hv
 subst hve
 have hl := W.ll.1
 have hlen : (wdV gr x z roll l).length = l.length := by simp [wdV]
 dsimp only
 refine zah (a := l.map fun b => b.Credential) ?_ (zah (zq1 W) (zad (zso W v1) fun u ⟨u1, u2⟩ => ?_))
 ·rw [zmx (l := l) (f := fun b => b.Credential) []]
  ·rfl
  intro i hi s hs
  have hs : s.length = i := by simpa using hs
  rw [zf9 hi, Option.bind_some, zel (by omega)]
 refine zad (ψ := (· = false)) (zcO rfl (zcO (by rw [u1]; rfl) (zcO (by rw [hlen]; simp) (zab (by simp))))) ?_
 rintro _ rfl
 refine zcO rfl ?_
 have hC : ∀ i (h : i < (wdV gr x z roll l).length), (wdV gr x z roll l)[i] = cdW (wdK gr l) (wdM gr x z roll l) (wdT gr x z l) l.length i := fun i h => by simp [wdV]
 have hT : ∀ i (h : i < ((l.map fun b => b.Credential).map (tgV gr x z)).length), ((l.map fun b => b.Credential).map (tgV gr x z))[i] = wdT gr x z l i := fun i h => by
  have hi : i < l.length := by simpa using h
  simp only [List.getElem_map]
  unfold wdT
  rw [zfh hi]
 have hTl : ((l.map fun b => b.Credential).map (tgV gr x z)).length = l.length := by simp
 generalize (l.map fun b => b.Credential).map (tgV gr x z) = tg at hT hTl ⊢
 generalize wdV gr x z roll l = cd at hC hlen ⊢
 have hcnt := zqq (wdK gr l) (wdM gr x z roll l) (wdT gr x z l) l.length
 have hin := fun i => zvq (wdK gr l) (wdM gr x z roll l) (wdT gr x z l) l.length (i := i)
 have hkp := fun i => zvx (wdK gr l) (wdM gr x z roll l) (wdT gr x z l) l.length (i := i)
 have hlater := fun i => zqD (wdK gr l) (wdM gr x z roll l) (wdT gr x z l) l.length (i := i)
 have hmem := fun i => zpN (wdK gr l) (wdM gr x z roll l) l.length (i := i)
 rw [← hcnt] at u2
 have hKle : ∀ m, (kpL (wdK gr l) (wdM gr x z roll l) m).length ≤ m := fun m => by
  have := List.length_filter_le (kpV (wdK gr l) (wdM gr x z roll l)) (List.range m)
  simpa [kpL] using this
 refine zad (ψ := (· = (kpL (wdK gr l) (wdM gr x z roll l) l.length).map fun (i : Nat) => (i : Int))) (zbX (fun i s => s = (kpL (wdK gr l) (wdM gr x z roll l) i).map fun (i : Nat) => (i : Int)) rfl ?_ fun s hs => by rw [hlen] at hs; exact hs) ?_
 ·rintro i s hi rfl
  have hlei := hKle i
  refine zad (ψ := fun v => v = (kpL (wdK gr l) (wdM gr x z roll l) (i + 1)).map fun (i : Nat) => (i : Int)) (zbb hi ?_) fun v hv => zab hv
  rw [hC i hi]
  have hs1 := zrA (wdK gr l) (wdM gr x z roll l) i
  refine zad (ψ := (· = kpV (wdK gr l) (wdM gr x z roll l) i)) ?_ ?_
  ·rw [← hin i]
   refine zaj (fun g => zab (by rw [g]; rfl)) fun g => zab (by rw [g]; rfl)
  rintro _ rfl
  refine zaj (fun g => zaL (by simp; omega) (zab ?_)) fun g => zab ?_
  ·rw [hs1, if_pos g, List.map_append]; rfl
  rw [hs1, if_neg (by rw [g]; decide), List.append_nil]
 rintro _ rfl
 have hKl := hKle l.length
 generalize hK : kpL (wdK gr l) (wdM gr x z roll l) l.length = K at *
 refine zad (ψ := (· = .inl ((K.countP fun i => !wlt (wdK gr l) (wdM gr x z roll l) (wdT gr x z l) l.length i : Nat) : Int))) (zbX (fun i s => s = (((K.take i).countP fun i => !wlt (wdK gr l) (wdM gr x z roll l) (wdT gr x z l) l.length i : Nat) : Int)) rfl ?_ ?_) ?_
 ·rintro i s hi rfl
  have hi : i < K.length := by simpa using hi
  have e1 : IntKind.i64.wrap ((i : Int) + 1) = ((i + 1 : Nat) : Int) := by rw [zaB (by omega) (by omega)]; rfl
  have hki := hmem K[i] (List.getElem_mem hi)
  have hgi : (K.map fun (i : Nat) => (i : Int))[i]'(by simpa using hi) = ((K[i] : Nat) : Int) := by simp
  rw [e1, Int.toNat_natCast]
  have hrest : ((K.map fun (i : Nat) => (i : Int)).take (K.map fun (i : Nat) => (i : Int)).length).drop (i + 1) = (K.drop (i + 1)).map fun (i : Nat) => (i : Int) := by
   rw [List.take_length, List.map_drop]
  rw [hrest]
  have hcl : (K.take i).countP (fun i => !wlt (wdK gr l) (wdM gr x z roll l) (wdT gr x z l) l.length i) ≤ i := by
   have := List.countP_le_length (p := fun i => !wlt (wdK gr l) (wdM gr x z roll l) (wdT gr x z l) l.length i) (l := K.take i)
   rw [List.length_take] at this
   omega
  have hts : (K.take (i + 1)).countP (fun i => !wlt (wdK gr l) (wdM gr x z roll l) (wdT gr x z l) l.length i) = (K.take i).countP (fun i => !wlt (wdK gr l) (wdM gr x z roll l) (wdT gr x z l) l.length i) + if wlt (wdK gr l) (wdM gr x z roll l) (wdT gr x z l) l.length K[i] = true then 0 else 1 := by
   rw [List.take_succ_eq_append_getElem hi, List.countP_append]
   congr 1
   cases h : wlt (wdK gr l) (wdM gr x z roll l) (wdT gr x z l) l.length K[i] <;> simp [h]
  refine zad (ψ := fun o => o = .inl (((K.take (i + 1)).countP fun i => !wlt (wdK gr l) (wdM gr x z roll l) (wdT gr x z l) l.length i : Nat) : Int)) ?_ (by rintro _ rfl; exact zab rfl)
  refine zbb (k := i) (by simpa using hi) ?_
  rw [hgi]
  refine zaL (by omega) (zaL (by simp; omega) ?_)
  refine zad (ψ := (· = wlt (wdK gr l) (wdM gr x z roll l) (wdT gr x z l) l.length K[i])) (zbX (fun m s => s = ((K.drop (i + 1)).take m).any fun j => wdT gr x z l K[i] == wdT gr x z l j) (by simp) ?_ ?_) ?_
  ·rintro m s hm rfl
   have hm : m < (K.drop (i + 1)).length := by simpa using hm
   have hgm : ((K.drop (i + 1)).map fun (i : Nat) => (i : Int))[m]'(by simpa using hm) = (((K.drop (i + 1))[m] : Nat) : Int) := by simp
   have hkm := hmem (K.drop (i + 1))[m] (List.mem_of_mem_drop (List.getElem_mem hm))
   refine zad (ψ := (· = ((K.drop (i + 1)).take (m + 1)).any fun j => wdT gr x z l K[i] == wdT gr x z l j)) (zbb (k := m) (by simpa using hm) ?_) (by rintro _ rfl; exact zab rfl)
   rw [hgm, List.take_succ_eq_append_getElem hm, List.any_append]
   refine zaj (fun g => zab (by rw [g]; rfl)) fun g => zbb (l := tg) (k := K[i]) (by omega) (zbb (l := tg) (k := (K.drop (i + 1))[m]) (by omega) (zab ?_))
   rw [g, hT, hT]
   simp
  ·rintro s rfl
   rw [List.length_map, List.take_length]
   exact hlater i hi
  rintro _ rfl
  refine zbb (l := cd) (k := K[i]) (by omega) ?_
  rw [hC, hkp _ hki.2]
  cases hlt : wlt (wdK gr l) (wdM gr x z roll l) (wdT gr x z l) l.length K[i]
  ·refine zcO rfl (ze4 rfl (zab ?_))
   show Sum.inl (IntKind.i64.wrap _) = _
   rw [zaB (by omega) (by omega), hts, hlt]
   rfl
  refine zcO rfl (zcO rfl (zab ?_))
  rw [hts, hlt]
  rfl
 ·rintro s rfl
  rw [List.length_map, List.take_length]
 rintro _ rfl
 refine zab ?_
 rw [u2]
 simp
end Go.Pm
