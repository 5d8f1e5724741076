/-
  FnEqualityTests: plain laws.
  No condition.
-/
import Derived.Test.YtmddekhnkcnefaaGreatM32b
import Derived.Test.YtmddekhnkcnefaaGreatPmZ
namespace Go.Pm
open Go.Am
set_option linter.unusedVariables false
set_option linter.unusedSimpArgs false
theorem zfd (a b c : Int) : za8 a b c = some (decide (b ≤ a) && decide (a ≤ c)) := by
 unfold za8
 by_cases h : b ≤ a <;> simp [h]
theorem zf4 (a b c : Int) : zbf a b c = some (decide (b ≤ a) && decide (a ≤ c)) := by
 unfold zbf
 by_cases h : b ≤ a <;> simp [h]
theorem zl7 (a : Int) : zex a = some (decide (2 ≤ a) && decide (a ≤ 2000000000)) := by
 unfold zex
 rw [zfd]; rfl
theorem zcG (a b : Nat) : (a : Int).tmod (b : Int) = ((a % b : Nat) : Int) := by rw [Int.tmod_eq_emod_of_nonneg (by omega)]; exact (Int.natCast_emod _ _).symm
theorem zoH (a b : Nat) : (a : Int).tdiv (b : Int) = ((a / b : Nat) : Int) := by rw [Int.tdiv_eq_ediv_of_nonneg (by omega)]; exact (Int.natCast_ediv _ _).symm
theorem zfx (a b : Nat) : (a : Int) * (b : Int) = ((a * b : Nat) : Int) := (Int.natCast_mul _ _).symm
theorem zxb {e : Nat} (he : e ≤ 9223372036854775807) : IntKind.i64.wrap (BitVec.ofInt IntKind.i64.bits (e : Int) &&& BitVec.ofInt IntKind.i64.bits 1).toNat = ((e % 2 : Nat) : Int) := by
 have h1 : (BitVec.ofInt IntKind.i64.bits (e : Int) &&& BitVec.ofInt IntKind.i64.bits 1).toNat = e % 2 := by
  rw [BitVec.toNat_and]
  have a1 : (BitVec.ofInt IntKind.i64.bits (e : Int)).toNat = e := by
   rw [BitVec.toNat_ofInt]
   have : IntKind.i64.bits = 64 := rfl
   rw [this]
   omega
  have a2 : (BitVec.ofInt IntKind.i64.bits 1).toNat = 1 := by decide
  rw [a1, a2, Nat.and_one_is_mod]
 rw [h1, zaq (by omega) (by omega)]
theorem zw3 {a e m : Nat} (ha : a ≤ 2000000000) (hm : 1 ≤ m) (hm2 : m ≤ 2000000000) (he : e ≤ 9223372036854775807) : zdZ (a : Int) (e : Int) (m : Int) = some ((a ^ e % m : Nat) : Int) := by
 unfold zdZ
 refine zaD (zav (by omega) (zac (φ := (· = ((a ^ e % m : Nat) : Int))) (zgh (φ := (· = ((a ^ e % m : Nat) : Int))) (fun s => ∃ x y o : Nat, s = ((x : Int), (y : Int), (o : Int)) ∧ x ≤ 2000000000 ∧ y ≤ e ∧ o < m ∧ o * x ^ y % m = a ^ e % m) (fun s => s.2.1.toNat)
  ⟨a, e, 1 % m, by rw [show (1 : Int) = ((1 : Nat) : Int) from rfl, zcG], ha, Nat.le_refl _, Nat.mod_lt _ (by omega), by rw [Nat.mod_mul_mod, Nat.one_mul]⟩ ?_) fun x hx => zab hx))
 rintro s ⟨x, y, o, rfl, hx, hy, ho, hi⟩
 refine zal (fun h0 => ?_) fun h0 => ?_
 ·have h0 : 0 < y := by simpa using h0
  have hox : o * x ≤ 4000000000000000000 := Nat.le_trans (Nat.mul_le_mul (show o ≤ 2000000000 by omega) hx) (by decide)
  have hxx : x * x ≤ 4000000000000000000 := Nat.le_trans (Nat.mul_le_mul hx hx) (by decide)
  refine zac (ψ := fun o' => ∃ k : Nat, o' = (k : Int) ∧ k < m ∧ k * (x * x) ^ (y / 2) % m = a ^ e % m) ?_ ?_
  ·simp only [zxb (show y ≤ 9223372036854775807 by omega)]
   refine zal (fun h1 => zav (by omega) (zab ⟨o * x % m, ?_, Nat.mod_lt _ (by omega), ?_⟩)) fun h1 => zab ⟨o, rfl, ho, ?_⟩
   ·rw [zfx, zaq (by omega) (by omega), zcG]
   ·have h1 : y % 2 = 1 := by
     have : ((y % 2 : Nat) : Int) = 1 := by simpa using h1
     omega
    rw [Nat.mod_mul_mod, ← hi, ← Nat.pow_two, ← Nat.pow_mul, Nat.mul_assoc, ← Nat.pow_succ']
    congr 3; omega
   have h1 : y % 2 = 0 := by
    have : ¬ ((y % 2 : Nat) : Int) = 1 := by simpa using h1
    omega
   rw [← hi, ← Nat.pow_two, ← Nat.pow_mul]
   congr 3; omega
  rintro o' ⟨k, rfl, hk, hk2⟩
  refine zav (by omega) (zab ⟨⟨x * x % m, y / 2, k, ?_, by have := Nat.mod_lt (x * x) (show 0 < m by omega); omega, by omega, hk, ?_⟩, ?_⟩)
  ·rw [zfx, zaq (by omega) (by omega), zcG]
   have e3 : (y : Int).fdiv 2 = ((y / 2 : Nat) : Int) := by rw [Int.fdiv_eq_ediv_of_nonneg _ (by omega)]; rfl
   show (_, (y : Int).fdiv 2, _) = _
   rw [e3]
  ·rw [Nat.mul_mod, ← Nat.pow_mod, ← Nat.mul_mod]
   exact hk2
  show ((y : Int).fdiv 2).toNat < (y : Int).toNat
  rw [Int.fdiv_eq_ediv_of_nonneg _ (by omega)]
  omega
 have h0 : y = 0 := by
  have : ¬ (0 < y) := by simpa using h0
  omega
 subst h0
 refine zab ?_
 show (o : Int) = _
 rw [Nat.pow_zero, Nat.mul_one, Nat.mod_eq_of_lt ho] at hi
 rw [hi]
theorem zvr {a e m : Nat} (ha : a ≤ 2000000000) (hm : 1 ≤ m) (hm2 : m ≤ 2000000000) (he : e ≤ 9223372036854775807) : zbx (a : Int) (e : Int) (m : Int) = some ((a ^ e % m : Nat) : Int) := by
 unfold zbx
 refine zaD (zav (by omega) (zac (φ := (· = ((a ^ e % m : Nat) : Int))) (zgh (φ := (· = ((a ^ e % m : Nat) : Int))) (fun s => ∃ x y o : Nat, s = ((x : Int), (y : Int), (o : Int)) ∧ x ≤ 2000000000 ∧ y ≤ e ∧ o < m ∧ o * x ^ y % m = a ^ e % m) (fun s => s.2.1.toNat)
  ⟨a, e, 1 % m, by rw [show (1 : Int) = ((1 : Nat) : Int) from rfl, zcG], ha, Nat.le_refl _, Nat.mod_lt _ (by omega), by rw [Nat.mod_mul_mod, Nat.one_mul]⟩ ?_) fun x hx => zab hx))
 rintro s ⟨x, y, o, rfl, hx, hy, ho, hi⟩
 refine zal (fun h0 => ?_) fun h0 => ?_
 ·have h0 : 0 < y := by simpa using h0
  have hox : o * x ≤ 4000000000000000000 := Nat.le_trans (Nat.mul_le_mul (show o ≤ 2000000000 by omega) hx) (by decide)
  have hxx : x * x ≤ 4000000000000000000 := Nat.le_trans (Nat.mul_le_mul hx hx) (by decide)
  have e2 : (y : Int).tmod 2 = ((y % 2 : Nat) : Int) := zcG y 2
  refine zac (ψ := fun o' => ∃ k : Nat, o' = (k : Int) ∧ k < m ∧ k * (x * x) ^ (y / 2) % m = a ^ e % m) ?_ ?_
  ·simp only [e2]
   refine zal (fun h1 => zav (by omega) (zab ⟨o * x % m, ?_, Nat.mod_lt _ (by omega), ?_⟩)) fun h1 => zab ⟨o, rfl, ho, ?_⟩
   ·rw [zfx, zaq (by omega) (by omega), zcG]
   ·have h1 : y % 2 = 1 := by
     have : ((y % 2 : Nat) : Int) = 1 := by simpa using h1
     omega
    rw [Nat.mod_mul_mod, ← hi, ← Nat.pow_two, ← Nat.pow_mul, Nat.mul_assoc, ← Nat.pow_succ']
    congr 3; omega
   have h1 : y % 2 = 0 := by
    have : ¬ ((y % 2 : Nat) : Int) = 1 := by simpa using h1
    omega
   rw [← hi, ← Nat.pow_two, ← Nat.pow_mul]
   congr 3; omega
  rintro o' ⟨k, rfl, hk, hk2⟩
  have e3 : (y : Int).tdiv 2 = ((y / 2 : Nat) : Int) := zoH y 2
  refine zav (by omega) (zab ⟨⟨x * x % m, y / 2, k, ?_, by have := Nat.mod_lt (x * x) (show 0 < m by omega); omega, by omega, hk, ?_⟩, ?_⟩)
  ·simp only [e3]
   rw [zfx, zaq (n := ((x * x : Nat) : Int)) (by omega) (by omega), zcG, zaq (n := ((y / 2 : Nat) : Int)) (by omega) (by omega)]
  ·rw [Nat.mul_mod, ← Nat.pow_mod, ← Nat.mul_mod]
   exact hk2
  show (IntKind.i64.wrap ((y : Int).tdiv 2)).toNat < (y : Int).toNat
  rw [e3, zaq (by omega) (by omega)]
  omega
 have h0 : y = 0 := by
  have : ¬ (0 < y) := by simpa using h0
  omega
 subst h0
 refine zab ?_
 show (o : Int) = _
 rw [Nat.pow_zero, Nat.mul_one, Nat.mod_eq_of_lt ho] at hi
 rw [hi]
theorem znA {a q : Int} (h0 : 0 < q) (h1 : q ≤ 2000000000) : zdS a q = some (a % q) := by
 unfold zdS
 rw [zeo (by omega), zeo (by omega)]
 have b1 : a.tmod q < q := Int.tmod_lt_of_pos a h0
 have b2 : -q < a.tmod q := by
  have := Int.lt_tmod_of_pos a h0
  omega
 rw [zaq (by omega) (by omega), Int.tmod_eq_emod_of_nonneg (by omega)]
 congr 1
 rw [Int.add_emod_right]
 rw [Int.tmod_def, Int.sub_emod, Int.mul_emod_right, Int.sub_zero, Int.emod_emod]
theorem zhW {a q : Int} (h0 : 0 < q) (h1 : q ≤ 2000000000) : zbQ a q = some (a % q) := by
 unfold zbQ
 rw [zeo (by omega), zeo (by omega)]
 have b1 : a.tmod q < q := Int.tmod_lt_of_pos a h0
 have b2 : -q < a.tmod q := by
  have := Int.lt_tmod_of_pos a h0
  omega
 rw [zaq (by omega) (by omega), Int.tmod_eq_emod_of_nonneg (by omega)]
 congr 1
 rw [Int.add_emod_right]
 rw [Int.tmod_def, Int.sub_emod, Int.mul_emod_right, Int.sub_zero, Int.emod_emod]
def Pr (n : Nat) : Prop := 2 ≤ n ∧ ∀ d, 2 ≤ d → d * d ≤ n → n % d ≠ 0
open Classical in
noncomputable def prB (n : Int) : Bool := decide (Pr n.toNat)
theorem zfW {n : Nat} : prB (n : Int) = true ↔ Pr n := by simp [prB]
theorem zks (n : Int) (h : n ≤ 2000000000) : zdt n = some (prB n) := by
 unfold zdt
 refine zaD (zal (fun h0 => zab ?_) fun h0 => ?_)
 ·have h0 : n < 2 := by simpa using h0
  symm
  unfold prB
  rw [decide_eq_false_iff_not]
  intro hp
  have := hp.1
  omega
 have h0 : ¬ n < 2 := by simpa using h0
 obtain ⟨n, rfl⟩ := Int.eq_ofNat_of_zero_le (show 0 ≤ n by omega)
 refine zac (ψ := fun b => (b = .inl () ∧ Pr n) ∨ (b = .inr false ∧ ¬ Pr n)) (zgh (fun s => ∃ d : Nat, s = (d : Int) ∧ 2 ≤ d ∧ d ≤ 44723 ∧ ∀ k, 2 ≤ k → k < d → k * k ≤ n → n % k ≠ 0) (fun s => 50000 - s.toNat) ⟨2, rfl, by omega, by omega, fun k h1 h2 => by omega⟩ ?_) ?_
 ·rintro s ⟨d, rfl, hd, hd2, hi⟩
  have hdd : d * d ≤ 2000146729 := Nat.le_trans (Nat.mul_le_mul hd2 hd2) (by decide)
  rw [zfx, zaq (by omega) (by omega)]
  refine zal (fun h1 => zav (by omega) (zal (fun h2 => zab (.inr ⟨rfl, ?_⟩)) fun h2 => zab ?_)) fun h1 => zab (.inl ⟨rfl, by omega, fun k hk hkn => ?_⟩)
  ·have h1 : d * d ≤ n := by have := of_decide_eq_true h1; omega
   rw [zcG] at h2
   have h2 : n % d = 0 := by have : ((n % d : Nat) : Int) = 0 := by simpa using h2
                             omega
   exact fun hp => hp.2 d hd h1 h2
  ·have h1 : d * d ≤ n := by have := of_decide_eq_true h1; omega
   rw [zcG] at h2
   have h2 : n % d ≠ 0 := by have : ¬ ((n % d : Nat) : Int) = 0 := by simpa using h2
                             omega
   have hd3 : d ≤ 44722 := by
    rcases Nat.lt_or_ge d 44723 with h | h
    ·omega
    ·have : 44723 * 44723 ≤ d * d := Nat.mul_le_mul h h
     omega
   rw [zaq (by omega) (by omega)]
   refine ⟨⟨d + 1, rfl, by omega, by omega, fun k h3 h4 h5 => ?_⟩, by omega⟩
   rcases Nat.lt_or_ge k d with h | h
   ·exact hi k h3 h h5
   have : k = d := by omega
   subst this
   exact h2
  have h1 : n < d * d := by have := of_decide_eq_false h1; omega
  rcases Nat.lt_or_ge k d with h | h
  ·exact hi k hk h hkn
  have := Nat.mul_le_mul h h
  omega
 rintro b (⟨rfl, hp⟩ | ⟨rfl, hp⟩)
 ·exact zab (zfW.2 hp).symm
 refine zab ?_
 symm
 unfold prB
 rw [decide_eq_false_iff_not]
 exact hp
theorem zoI (n : Int) : zeu n = some (decide (n ≤ 2000000000) && prB n) := by
 unfold zeu
 by_cases h : 2 ≤ n ∧ n ≤ 2000000000
 ·obtain ⟨n, rfl⟩ := Int.eq_ofNat_of_zero_le (show 0 ≤ n by omega)
  have e2 : ((n : Int)).tmod 2 = ((n % 2 : Nat) : Int) := zcG n 2
  have em : (decide (2 ≤ (n : Int)) && decide ((n : Int) ≤ 2000000000)) = true := by simp only [Bool.and_eq_true, decide_eq_true_eq]; exact h
  rw [show (decide ((n : Int) ≤ 2000000000) && prB (n : Int)) = prB (n : Int) by simp [h.2]]
  refine zaD (zac (ψ := fun b => b = decide (n % 2 = 0 ∧ n ≠ 2)) (zaf (zl7 _) ?_) ?_)
  ·rw [em]
   refine zcU rfl ?_
   rw [e2]
   refine zal (fun h1 => zab ?_) fun h1 => zab ?_
   ·have h1 : n % 2 = 0 := by have : ((n % 2 : Nat) : Int) = 0 := by simpa using h1
                              omega
    have : ((n : Int) != 2) = decide (n ≠ 2) := by
     by_cases hn : n = 2
     ·subst hn; rfl
     ·have hn' : ¬ (n : Int) = 2 := by omega
      simp [hn, hn']
    rw [this]; simp [h1]
   have h1 : n % 2 ≠ 0 := by have : ¬ ((n % 2 : Nat) : Int) = 0 := by simpa using h1
                             omega
   simp [h1]
  rintro b rfl
  refine zal (fun h1 => zab ?_) fun h1 => ?_
  ·have h1 := of_decide_eq_true h1
   symm
   unfold prB
   rw [decide_eq_false_iff_not]
   intro hp
   have hn : 4 ≤ n := by omega
   exact hp.2 2 (by omega) hn h1.1
  have h1 := of_decide_eq_false h1
  refine zac (ψ := fun b => (b = .inl () ∧ Pr n) ∨ (b = .inr false ∧ ¬ Pr n)) (zgh (fun s => ∃ d : Nat, s = (d : Int) ∧ 3 ≤ d ∧ d % 2 = 1 ∧ d ≤ 44725 ∧ ∀ k, 2 ≤ k → k < d → k * k ≤ n → n % k ≠ 0) (fun s => 50000 - s.toNat) ⟨3, rfl, by omega, by omega, by omega, fun k h2 h3 h4 => ?_⟩ ?_) ?_
  ·have : k = 2 := by omega
   subst this
   intro h5
   exact h1 ⟨h5, by omega⟩
  ·rintro s ⟨d, rfl, hd, hodd, hd2, hi⟩
   have hdd : d * d ≤ 2000325625 := Nat.le_trans (Nat.mul_le_mul hd2 hd2) (by decide)
   rw [zfx, zaq (by omega) (by omega)]
   refine zal (fun h1 => zav (by omega) (zal (fun h2 => zab (.inr ⟨rfl, ?_⟩)) fun h2 => zab ?_)) fun h1 => zab (.inl ⟨rfl, by omega, fun k hk hkn => ?_⟩)
   ·have h1 : d * d ≤ n := by have := of_decide_eq_true h1; omega
    rw [zcG] at h2
    have h2 : n % d = 0 := by have : ((n % d : Nat) : Int) = 0 := by simpa using h2
                              omega
    exact fun hp => hp.2 d (by omega) h1 h2
   ·have h3 : d * d ≤ n := by have := of_decide_eq_true h1; omega
    rw [zcG] at h2
    have h2 : n % d ≠ 0 := by have : ¬ ((n % d : Nat) : Int) = 0 := by simpa using h2
                              omega
    have hd3 : d ≤ 44722 := by
     rcases Nat.lt_or_ge d 44723 with h | h
     ·omega
     ·have : 44723 * 44723 ≤ d * d := Nat.mul_le_mul h h
      omega
    rw [zaq (by omega) (by omega)]
    refine ⟨⟨d + 2, rfl, by omega, by omega, by omega, fun k h4 h5 h6 h7 => ?_⟩, by omega⟩
    rcases Nat.lt_or_ge k d with h | h
    ·exact hi k h4 h h6 h7
    rcases (show k = d ∨ k = d + 1 by omega) with e | e
    ·subst e; exact h2 h7
    have h8 : n % 2 = 0 := by
     have a1 : k ∣ n := Nat.dvd_of_mod_eq_zero h7
     have a2 : 2 ∣ k := Nat.dvd_of_mod_eq_zero (by omega)
     exact Nat.mod_eq_zero_of_dvd (Nat.dvd_trans a2 a1)
    have h9 : 2 * 2 ≤ n := by
     have := Nat.mul_le_mul h4 h4
     omega
    exact hi 2 (by omega) (by omega) h9 h8
   have h1 : n < d * d := by have := of_decide_eq_false h1; omega
   rcases Nat.lt_or_ge k d with h | h
   ·exact hi k hk h hkn
   have := Nat.mul_le_mul h h
   omega
  rintro b (⟨rfl, hp⟩ | ⟨rfl, hp⟩)
  ·exact zab (zfW.2 hp).symm
  refine zab ?_
  symm
  unfold prB
  rw [decide_eq_false_iff_not]
  exact hp
 have em : (decide (2 ≤ n) && decide (n ≤ 2000000000)) = false := by
  rw [Bool.and_eq_false_iff, decide_eq_false_iff_not, decide_eq_false_iff_not]; omega
 rw [zl7, em]
 simp only [Option.bind_some, Bool.not_false, if_true]
 congr 1
 symm
 rw [Bool.and_eq_false_iff, decide_eq_false_iff_not]
 by_cases hn : n ≤ 2000000000
 ·right
  unfold prB
  rw [decide_eq_false_iff_not]
  intro hp
  have := hp.1
  omega
 exact .inl hn
structure OkG (gr : Group) : Prop where
 p : 3 ≤ gr.P ∧ gr.P ≤ 2000000000
 q : 2 ≤ gr.Q ∧ gr.Q ≤ gr.P - 1
 d : (gr.P.toNat - 1) % gr.Q.toNat = 0
 g : 2 ≤ gr.G ∧ gr.G ≤ gr.P - 1
 pp : Pr gr.P.toNat
 pq : Pr gr.Q.toNat
 o : gr.G.toNat ^ gr.Q.toNat % gr.P.toNat = 1
open Classical in
noncomputable def okG (gr : Group) : Bool := decide (OkG gr)
theorem ze4 {gr : Group} : okG gr = true ↔ OkG gr := by simp [okG]
theorem ze9 {gr : Group} (h : ¬ OkG gr) : okG gr = false := by simp [okG, h]
theorem zug {gr : Group} {b : Bool} (h1 : b = true → OkG gr) (h2 : OkG gr → b = true) : b = okG gr := by
 cases hb : b with
 | true => exact (ze4.2 (h1 hb)).symm
 | false => exact (ze9 fun h => by rw [h2 h] at hb; cases hb).symm
theorem zdJ {a : Int} (h : 0 ≤ a) : a = ((a.toNat : Nat) : Int) := by omega
theorem zgx {a e m : Int} (ha : 0 ≤ a) (ha2 : a ≤ 2000000000) (hm : 1 ≤ m) (hm2 : m ≤ 2000000000) (he : 0 ≤ e) (he2 : e ≤ 9223372036854775807) : zdZ a e m = some ((a.toNat ^ e.toNat % m.toNat : Nat) : Int) ∧ zbx a e m = some ((a.toNat ^ e.toNat % m.toNat : Nat) : Int) := by
 have h1 := zw3 (a := a.toNat) (e := e.toNat) (m := m.toNat) (by omega) (by omega) (by omega) (by omega)
 have h2 := zvr (a := a.toNat) (e := e.toNat) (m := m.toNat) (by omega) (by omega) (by omega) (by omega)
 rw [← zdJ ha, ← zdJ he, ← zdJ (show 0 ≤ m by omega)] at h1 h2
 exact ⟨h1, h2⟩
theorem zjc {a b : Bool} : (a && b) = true ↔ a = true ∧ b = true := by simp
theorem zeK (gr : Group) : zaL gr = some (okG gr) := by
 unfold zaL
 refine zaD (zac (ψ := fun b => b = okG gr) ?_ fun b hb => zab hb)
 refine zaf (zfd _ _ _) (zal (fun h => ?_) fun h => ?_)
 ·have hp : 3 ≤ gr.P ∧ gr.P ≤ 2000000000 := by simpa using h
  rw [zaq (n := gr.P - 1) (by omega) (by omega)]
  refine zaf (zfd _ _ _) (zal (fun h => ?_) fun h => ?_)
  ·have hq : 2 ≤ gr.Q ∧ gr.Q ≤ gr.P - 1 := by simpa using h
   have ed : (gr.P - 1).tmod gr.Q = (((gr.P.toNat - 1) % gr.Q.toNat : Nat) : Int) := by
    rw [zdJ (show 0 ≤ gr.P - 1 by omega), zdJ (show 0 ≤ gr.Q by omega), zcG]
    simp only [Int.toNat_natCast]
    congr 2; omega
   refine zav (by omega) ?_
   rw [ed]
   refine zal (fun h => ?_) fun h => ?_
   ·have hd : (gr.P.toNat - 1) % gr.Q.toNat = 0 := by
     have : (((gr.P.toNat - 1) % gr.Q.toNat : Nat) : Int) = 0 := by simpa using h
     omega
    refine zaf (zfd _ _ _) (zal (fun h => ?_) fun h => ?_)
    ·have hg : 2 ≤ gr.G ∧ gr.G ≤ gr.P - 1 := by simpa using h
     refine zaf (zoI _) (zal (fun h => ?_) fun h => ?_)
     ·have hpp : Pr gr.P.toNat := by
       rw [zjc, zdJ (show 0 ≤ gr.P by omega), zfW] at h
       exact h.2
      refine zaf (zoI _) (zal (fun h => ?_) fun h => ?_)
      ·have hpq : Pr gr.Q.toNat := by
        rw [zjc, zdJ (show 0 ≤ gr.Q by omega), zfW] at h
        exact h.2
       refine zaf (zgx (a := gr.G) (e := gr.Q) (m := gr.P) (by omega) (by omega) (by omega) (by omega) (by omega) (by omega)).1 (zab (zug (fun h => ⟨hp, hq, hd, hg, hpp, hpq, ?_⟩) fun h => ?_))
       ·have : ((gr.G.toNat ^ gr.Q.toNat % gr.P.toNat : Nat) : Int) = 1 := by simpa using h
        omega
       rw [h.o]; rfl
      refine zab (ze9 fun hk => ?_).symm
      have : (decide (gr.Q ≤ 2000000000) && prB gr.Q) = true := by
       rw [zjc, zdJ (show 0 ≤ gr.Q by omega), zfW]
       exact ⟨by simp; omega, hk.pq⟩
      rw [this] at h; cases h
     refine zab (ze9 fun hk => ?_).symm
     have : (decide (gr.P ≤ 2000000000) && prB gr.P) = true := by
      rw [zjc, zdJ (show 0 ≤ gr.P by omega), zfW]
      exact ⟨by simp; omega, hk.pp⟩
     rw [this] at h; cases h
    refine zab (ze9 fun hk => ?_).symm
    have := hk.g
    simp at h; omega
   refine zab (ze9 fun hk => ?_).symm
   rw [hk.d] at h; cases h
  refine zab (ze9 fun hk => ?_).symm
  have := hk.q
  simp at h; omega
 refine zab (ze9 fun hk => ?_).symm
 have := hk.p
 simp at h; omega
theorem ziT (gr : Group) : zdw gr = some (okG gr) := by
 unfold zdw
 refine zaD (zac (ψ := fun b => b = okG gr) ?_ fun b hb => zab hb)
 refine zaf (zf4 _ _ _) (zal (fun h => ?_) fun h => ?_)
 ·have hp : 3 ≤ gr.P ∧ gr.P ≤ 2000000000 := by simpa using h
  rw [zaq (n := gr.P - 1) (by omega) (by omega)]
  refine zaf (zf4 _ _ _) (zal (fun h => ?_) fun h => ?_)
  ·have hq : 2 ≤ gr.Q ∧ gr.Q ≤ gr.P - 1 := by simpa using h
   have ed : (gr.P - 1).tmod gr.Q = (((gr.P.toNat - 1) % gr.Q.toNat : Nat) : Int) := by
    rw [zdJ (show 0 ≤ gr.P - 1 by omega), zdJ (show 0 ≤ gr.Q by omega), zcG]
    simp only [Int.toNat_natCast]
    congr 2; omega
   refine zav (by omega) ?_
   rw [ed]
   refine zal (fun h => ?_) fun h => ?_
   ·have hd : (gr.P.toNat - 1) % gr.Q.toNat = 0 := by
     have : (((gr.P.toNat - 1) % gr.Q.toNat : Nat) : Int) = 0 := by simpa using h
     omega
    refine zaf (zf4 _ _ _) (zal (fun h => ?_) fun h => ?_)
    ·have hg : 2 ≤ gr.G ∧ gr.G ≤ gr.P - 1 := by simpa using h
     refine zaf (zgx (a := gr.G) (e := gr.Q) (m := gr.P) (by omega) (by omega) (by omega) (by omega) (by omega) (by omega)).2 (zal (fun h => ?_) fun h => ?_)
     ·have ho : gr.G.toNat ^ gr.Q.toNat % gr.P.toNat = 1 := by
       have : ((gr.G.toNat ^ gr.Q.toNat % gr.P.toNat : Nat) : Int) = 1 := by simpa using h
       omega
      refine zaf (zks _ (by omega)) (zal (fun h => ?_) fun h => ?_)
      ·have hpq : Pr gr.Q.toNat := by
        rw [zdJ (show 0 ≤ gr.Q by omega), zfW] at h
        exact h
       refine zaf (zks _ (by omega)) (zab (zug (fun h => ⟨hp, hq, hd, hg, ?_, hpq, ho⟩) fun h => ?_))
       ·rw [zdJ (show 0 ≤ gr.P by omega), zfW] at h
        exact h
       rw [zdJ (show 0 ≤ gr.P by omega), zfW]
       exact h.pp
      refine zab (ze9 fun hk => ?_).symm
      have : prB gr.Q = true := by
       rw [zdJ (show 0 ≤ gr.Q by omega), zfW]
       exact hk.pq
      rw [this] at h; cases h
     refine zab (ze9 fun hk => ?_).symm
     rw [hk.o] at h; cases h
    refine zab (ze9 fun hk => ?_).symm
    have := hk.g
    simp at h; omega
   refine zab (ze9 fun hk => ?_).symm
   rw [hk.d] at h; cases h
  refine zab (ze9 fun hk => ?_).symm
  have := hk.q
  simp at h; omega
 refine zab (ze9 fun hk => ?_).symm
 have := hk.p
 simp at h; omega
def zah (gr : Group) (x : Int) : Bool := decide (1 ≤ x) && decide (x ≤ gr.P - 1) && decide (x.toNat ^ gr.Q.toNat % gr.P.toNat = 1)
def zcQ (gr : Group) (x : Int) : Bool := decide (0 ≤ x) && decide (x ≤ gr.Q - 1)
theorem zlR {gr : Group} (k : OkG gr) (x : Int) : zbC gr x = some (zah gr x) := by
 have hp := k.p
 have hq := k.q
 unfold zbC zah
 rw [zaq (n := gr.P - 1) (by omega) (by omega), zfd]
 refine zaD (zac (ψ := fun b => b = _) ?_ fun b hb => zab hb)
 refine zaf rfl (zal (fun h => ?_) fun h => ?_)
 ·have hx : 1 ≤ x ∧ x ≤ gr.P - 1 := by simpa using h
  refine zaf (zgx (a := x) (e := gr.Q) (m := gr.P) (by omega) (by omega) (by omega) (by omega) (by omega) (by omega)).1 (zab ?_)
  rw [h, Bool.true_and]
  by_cases h1 : x.toNat ^ gr.Q.toNat % gr.P.toNat = 1
  ·simp [h1]
  have : ¬ ((x.toNat ^ gr.Q.toNat % gr.P.toNat : Nat) : Int) = 1 := by omega
  rw [beq_false_of_ne this, decide_eq_false h1]
 rw [h]; exact zab rfl
theorem zlV {gr : Group} (k : OkG gr) (l : List Int) : zdo gr l = some (l.all (zah gr)) := by
 have hp := k.p
 have hq := k.q
 unfold zdo
 rw [zaq (n := gr.P - 1) (by omega) (by omega)]
 refine zaD (zac (ψ := fun b => (b = .inl () ∧ l.all (zah gr) = true) ∨ (b = .inr false ∧ l.all (zah gr) = false)) (zat (fun i s => (l.take i).all (zah gr) = true) rfl ?_ ?_) ?_)
 ·rintro i s hi hI
  refine zaz hi (zac (ψ := fun b => b = !zah gr l[i]) ?_ ?_)
  ·refine zaf (zf4 _ _ _) (zal (fun h => zab ?_) fun h => ?_)
   ·have h : (decide (1 ≤ l[i]) && decide (l[i] ≤ gr.P - 1)) = false := by rwa [Bool.not_eq_true'] at h
    simp [zah, h]
   have h : (decide (1 ≤ l[i]) && decide (l[i] ≤ gr.P - 1)) = true := by simpa using h
   have hx : 1 ≤ l[i] ∧ l[i] ≤ gr.P - 1 := by simpa using h
   refine zaf (zgx (a := l[i]) (e := gr.Q) (m := gr.P) (by omega) (by omega) (by omega) (by omega) (by omega) (by omega)).2 (zab ?_)
   simp only [zah, h, Bool.true_and]
   by_cases h1 : l[i].toNat ^ gr.Q.toNat % gr.P.toNat = 1
   ·simp [h1]
   have : ¬ ((l[i].toNat ^ gr.Q.toNat % gr.P.toNat : Nat) : Int) = 1 := by omega
   simp only [bne, beq_false_of_ne this, decide_eq_false h1]
  rintro b rfl
  refine zal (fun h => zab (.inr ⟨rfl, ?_⟩)) fun h => zab ?_
  ·have h : zah gr l[i] = false := by simpa using h
   rw [List.all_eq_false]
   exact ⟨l[i], List.getElem_mem hi, by simp [h]⟩
  have h : zah gr l[i] = true := by simpa using h
  show (l.take (i + 1)).all (zah gr) = true
  rw [List.take_succ_eq_append_getElem hi, List.all_append, hI]
  simp [h]
 ·rintro s hI
  rw [List.take_length] at hI
  exact .inl ⟨rfl, hI⟩
 rintro b (⟨rfl, h⟩ | ⟨rfl, h⟩)
 ·exact zab h.symm
 exact zab h.symm
theorem zxd (l : List Int) (a b : Int) : zgb l a b = some (l.all fun x => decide (a ≤ x) && decide (x ≤ b)) := by
 unfold zgb
 refine zaD (zac (ψ := fun c => (c = .inl () ∧ (l.all fun x => decide (a ≤ x) && decide (x ≤ b)) = true) ∨ (c = .inr false ∧ (l.all fun x => decide (a ≤ x) && decide (x ≤ b)) = false)) (zat (fun i s => ((l.take i).all fun x => decide (a ≤ x) && decide (x ≤ b)) = true) rfl ?_ ?_) ?_)
 ·rintro i s hi hI
  refine zaz hi (zaf (zf4 _ _ _) (zal (fun h => zab (.inr ⟨rfl, ?_⟩)) fun h => zab ?_))
  ·rw [List.all_eq_false]
   exact ⟨l[i], List.getElem_mem hi, by rw [Bool.not_eq_true'] at h; rw [h]; simp⟩
  show ((l.take (i + 1)).all fun x => decide (a ≤ x) && decide (x ≤ b)) = true
  rw [List.take_succ_eq_append_getElem hi, List.all_append, hI]
  simpa using h
 ·rintro s hI
  rw [List.take_length] at hI
  exact .inl ⟨rfl, hI⟩
 rintro c (⟨rfl, h⟩ | ⟨rfl, h⟩)
 ·exact zab h.symm
 exact zab h.symm
theorem zjS {gr : Group} (h : 0 ≤ gr.Q) (h2 : gr.Q ≤ 2000000000) (l : List Int) : zd0 gr l = some (l.all (zcQ gr)) := by
 unfold zd0
 rw [zaq (by omega) (by omega), zxd]; rfl
theorem znQ {gr : Group} (h : 0 ≤ gr.Q) (h2 : gr.Q ≤ 2000000000) (x : Int) : zby gr x = some (zcQ gr x) := by
 unfold zby
 rw [zaq (by omega) (by omega), zfd]; rfl
def zaj (gr : Group) (x e : Int) : Int := ((x.toNat ^ (e % gr.Q).toNat % gr.P.toNat : Nat) : Int)
theorem zdR {gr : Group} (k : OkG gr) (x e : Int) : 0 ≤ zaj gr x e ∧ zaj gr x e ≤ gr.P - 1 := by
 have hp := k.p
 unfold zaj
 have := Nat.mod_lt (x.toNat ^ (e % gr.Q).toNat) (y := gr.P.toNat) (by omega)
 omega
theorem zjb {gr : Group} (k : OkG gr) {x : Int} (h0 : 0 ≤ x) (h1 : x ≤ 2000000000) (e : Int) : za6 gr x e = some (zaj gr x e) ∧ zaQ gr x e = some (zaj gr x e) := by
 have hp := k.p
 have hq := k.q
 have b1 : 0 ≤ e % gr.Q := Int.emod_nonneg _ (by omega)
 have b2 : e % gr.Q < gr.Q := Int.emod_lt_of_pos _ (by omega)
 have hw := zgx (a := x) (e := e % gr.Q) (m := gr.P) (by omega) (by omega) (by omega) (by omega) b1 (by omega)
 unfold za6 zaQ
 rw [znA (by omega) (by omega), zhW (by omega) (by omega), Option.bind_some, Option.bind_some, hw.1, hw.2]
 exact ⟨rfl, rfl⟩
theorem zk8 {gr : Group} (k : OkG gr) {x : Int} (h0 : 0 ≤ x) (h1 : x ≤ 2000000000) (e : Int) : zaQ gr x e = some (zaj gr x e) := by
 have hp := k.p
 have hq := k.q
 have b1 : 0 ≤ e % gr.Q := Int.emod_nonneg _ (by omega)
 have b2 : e % gr.Q < gr.Q := Int.emod_lt_of_pos _ (by omega)
 have hw := zgx (a := x) (e := e % gr.Q) (m := gr.P) (by omega) (by omega) (by omega) (by omega) b1 (by omega)
 unfold zaQ
 rw [zhW (by omega) (by omega), Option.bind_some, hw.2]
 rfl
def zbT (gr : Group) (l : List Int) : Int := l.foldl (fun o x => o * x % gr.P) 1
theorem zqs {gr : Group} (h : 1 ≤ gr.P) : ∀ (l : List Int) (o : Int), 0 ≤ o → o ≤ gr.P → (∀ x ∈ l, 0 ≤ x) → 0 ≤ l.foldl (fun o x => o * x % gr.P) o ∧ l.foldl (fun o x => o * x % gr.P) o ≤ gr.P := by
 intro l
 induction l with
 | nil => intro o h0 h1 _; exact ⟨h0, h1⟩
 | cons x l ih =>
  intro o h0 h1 h2
  exact ih _ (Int.emod_nonneg _ (by omega)) (Int.le_of_lt (Int.emod_lt_of_pos (o * x) (show 0 < gr.P by omega))) fun y hy => h2 y (List.mem_cons_of_mem _ hy)
theorem zy8 (gr : Group) (l : List Int) : zbs gr l = zaV gr l := rfl
theorem zkq {gr : Group} (k : OkG gr) {l : List Int} (hl : ∀ x ∈ l, 0 ≤ x ∧ x ≤ 2000000000) : zaV gr l = some (zbT gr l) := by
 have hp := k.p
 unfold zaV
 refine zaD (zac (ψ := fun b => b = zbT gr l) (zat (fun i s => s = (l.take i).foldl (fun o x => o * x % gr.P) 1) rfl ?_ ?_) fun b hb => zab hb)
 ·rintro i s hi rfl
  have hb := zqs (gr := gr) (by omega) (l.take i) 1 (by omega) (by omega) fun x hx => (hl x (List.mem_of_mem_take hx)).1
  have hx := hl l[i] (List.getElem_mem hi)
  refine zaz hi (zav (by omega) (zab ?_))
  show _ = (l.take (i + 1)).foldl _ _
  rw [List.take_succ_eq_append_getElem hi, List.foldl_append]
  generalize (l.take i).foldl (fun o x => o * x % gr.P) 1 = o at hb ⊢
  have b1 : 0 ≤ o * l[i] := Int.mul_nonneg hb.1 hx.1
  have b2 : o * l[i] ≤ 2000000000 * 2000000000 := Int.mul_le_mul (by omega) hx.2 hx.1 (by omega)
  show (IntKind.i64.wrap (o * l[i])).tmod gr.P = o * l[i] % gr.P
  rw [zaq (by omega) (by omega), Int.tmod_eq_emod_of_nonneg b1]
 rintro s rfl
 rw [List.take_length]; rfl
theorem zlB {gr : Group} (k : OkG gr) {l : List Int} (hl : ∀ x ∈ l, 0 ≤ x ∧ x ≤ 2000000000) : zbs gr l = some (zbT gr l) := by rw [zy8]; exact zkq k hl
theorem zlH {gr : Group} (k : OkG gr) {l : List Int} (hl : ∀ x ∈ l, 0 ≤ x ∧ x ≤ 2000000000) : 0 ≤ zbT gr l ∧ zbT gr l ≤ gr.P := by
 have hp := k.p
 exact zqs (by omega) l 1 (by omega) (by omega) fun x hx => (hl x hx).1
theorem zhN {gr : Group} (k : OkG gr) (l : List Int) : za2 gr l = some (l.all (zah gr)) := by
 unfold za2 zce zaG zaM
 refine zaD (zac (ψ := fun b => b = l.all (zah gr)) (zac (ψ := fun b => b = !l.all (zah gr)) (zac (ψ := fun j => (j = -1 ∧ l.all (zah gr) = true) ∨ (0 ≤ j ∧ l.all (zah gr) = false)) (zac (ψ := fun b => (b = .inl () ∧ l.all (zah gr) = true) ∨ (∃ j, b = .inr j ∧ 0 ≤ j ∧ l.all (zah gr) = false)) (zat (fun i s => (l.take i).all (zah gr) = true) rfl ?_ ?_) ?_) ?_) ?_) ?_)
 ·rintro i s hi hI
  have hc : zbt l[i] gr = some (!zah gr l[i]) := by
   unfold zbt
   rw [zlR k]; rfl
  refine zaz hi (zaf hc (zal (fun h => zab (.inr ⟨i, rfl, by omega, ?_⟩)) fun h => zab ?_))
  ·rw [List.all_eq_false]
   exact ⟨l[i], List.getElem_mem hi, by rw [Bool.not_eq_true'] at h; rw [h]; simp⟩
  show (l.take (i + 1)).all (zah gr) = true
  rw [List.take_succ_eq_append_getElem hi, List.all_append, hI]
  simpa using h
 ·rintro s hI
  rw [List.take_length] at hI
  exact .inl ⟨rfl, hI⟩
 ·rintro b (⟨rfl, h⟩ | ⟨j, rfl, h0, h⟩)
  ·exact zab (.inl ⟨rfl, h⟩)
  exact zab (.inr ⟨h0, h⟩)
 ·rintro j (⟨rfl, h⟩ | ⟨h0, h⟩)
  ·exact zab (by rw [h]; rfl)
  exact zab (by rw [h]; simpa using h0)
 ·rintro b rfl
  exact zab (by simp)
 rintro b rfl
 exact zab rfl
theorem ze1 {gr : Group} {x : Int} (h : zah gr x = true) : 1 ≤ x ∧ x ≤ gr.P - 1 := by
 simp only [zah, Bool.and_eq_true, decide_eq_true_eq] at h
 exact h.1
theorem zlt {gr : Group} (k : OkG gr) {y m : Int} (hy : zah gr y = true) (hm : zah gr m = true) (r : Int) :
 zcu gr y m r = some (Cipher.mk (zaj gr gr.G r) (zbT gr [m, zaj gr y r])) ∧ zfL gr y m r = some (Cipher.mk (zaj gr gr.G r) (zbT gr [m, zaj gr y r])) := by
 have hp := k.p
 have hg := k.g
 have b1 := ze1 hy
 have b2 := ze1 hm
 have e1 := zjb k (x := gr.G) (by omega) (by omega) r
 have e2 := zjb k (x := y) (by omega) (by omega) r
 have hl : ∀ x ∈ [m, zaj gr y r], 0 ≤ x ∧ x ≤ 2000000000 := fun x hx => by
  simp only [List.mem_cons, List.not_mem_nil, or_false] at hx
  rcases hx with rfl | rfl
  ·omega
  ·have := zdR k y r; omega
 unfold zcu zfL
 rw [e1.1, e1.2, Option.bind_some, Option.bind_some, e2.1, e2.2, Option.bind_some, Option.bind_some, zkq k hl, zlB k hl]
 exact ⟨rfl, rfl⟩
theorem zpd {α : Type} (b : Bool) (u v : α) : (if b = true then some u else some v) = some (if (!b) = true then v else u) := by cases b <;> rfl
theorem zwj {α : Type} (b : Bool) (u v : α) : (if (!b) = true then some u else some v) = some (if b = true then v else u) := by cases b <;> rfl
theorem zlF {β : Type} {body : Int → Unit → Option (Stp Unit (Unit ⊕ β))} (m : Nat) (p : Nat → Bool) (val : Nat → β) (h : ∀ k, k < m → body (k : Int) () = some (if p k = true then .go () else .out (.inr (val k)))) :
 (zap body (fun _ => .inl ()) m 0 () = some (.inl ()) ∧ ∀ k, k < m → p k = true) ∨ ∃ k, k < m ∧ p k = false ∧ (∀ j, j < k → p j = true) ∧ zap body (fun _ => .inl ()) m 0 () = some (.inr (val k)) := by
 have key : Rn (zap body (fun _ => Sum.inl ()) m 0 ()) (fun b => (b = .inl () ∧ ∀ k, k < m → p k = true) ∨ ∃ k, k < m ∧ p k = false ∧ (∀ j, j < k → p j = true) ∧ b = .inr (val k)) := by
  refine zat (fun k _ => ∀ j, j < k → p j = true) (fun j hj => by omega) ?_ fun s hs => .inl ⟨rfl, hs⟩
  intro k s hk hI
  refine ⟨_, h k hk, ?_⟩
  cases hp : p k with
  | true =>
   intro j hj
   rcases Nat.lt_or_ge j k with h | h
   ·exact hI j h
   ·have : j = k := by omega
    rw [this]; exact hp
  | false => exact .inr ⟨k, hk, hp, hI, rfl⟩
 obtain ⟨b, e, h1 | ⟨k, h1, h2, h3, h4⟩⟩ := key
 ·exact .inl ⟨by rw [e, h1.1], h1.2⟩
 exact .inr ⟨k, h1, h2, h3, by rw [e, h4]⟩
theorem zwf {α : Type} (l : List α) (p : α → Bool) (c : Bool) {body : Int → Unit → Option (Stp Unit (Unit ⊕ Bool))} (h : ∀ k (hk : k < l.length), body (k : Int) () = some (if p l[k] = true then .go () else .out (.inr c))) :
 (zap body (fun _ => .inl ()) l.length 0 ()).bind (Sum.elim (fun _ => some (!c)) some) = some (if l.all p = true then !c else c) := by
 rcases zlF (body := body) l.length (fun k => (l[k]?).any p) (fun _ => c) (fun k hk => by rw [h k hk, List.getElem?_eq_getElem hk]; rfl) with ⟨e, h1⟩ | ⟨k, h1, h2, h3, e⟩
 ·rw [e]
  have : l.all p = true := by
   rw [List.all_eq_true]
   intro x hx
   obtain ⟨k, hk, rfl⟩ := List.mem_iff_getElem.1 hx
   have := h1 k hk
   rw [List.getElem?_eq_getElem hk] at this
   exact this
  rw [this]; rfl
 rw [e]
 have : l.all p = false := by
  rw [List.all_eq_false]
  refine ⟨l[k], List.getElem_mem h1, ?_⟩
  rw [List.getElem?_eq_getElem h1] at h2
  simpa using h2
 rw [this]; rfl
theorem zn2 (l : List Int) (x : Int) : zd5 l x = some (l.contains x) := by
 unfold zd5
 have := zwf l (fun y => !(y == x)) true (body := fun i8 s7 => (ix l i8).bind fun x17 => if (x17 == x) = true then some (.out (.inr true)) else some (.go ())) fun k hk => by
  rw [zea hk, Option.bind_some]
  exact zpd _ _ _
 rw [show (!true) = false from rfl] at this
 refine this.trans ?_
 congr 1
 cases hc : l.contains x with
 | true =>
  have hm : x ∈ l := by simpa using hc
  have : (l.all fun y => !(y == x)) = false := by
   rw [List.all_eq_false]
   exact ⟨x, hm, by simp⟩
  rw [this]; rfl
 | false =>
  have hm : ¬ x ∈ l := by simpa using hc
  have : (l.all fun y => !(y == x)) = true := by
   rw [List.all_eq_true]
   intro y hy
   have : y ≠ x := fun e => hm (e ▸ hy)
   simp [this]
  rw [this]; rfl
theorem zwI (l : List Int) (x : Int) : (zbZ l x = some (-1) ∧ ¬ x ∈ l) ∨ ∃ k, ∃ h : k < l.length, zbZ l x = some (k : Int) ∧ l[k] = x ∧ ∀ j (hj : j < k), l[j]'(by omega) ≠ x := by
 unfold zbZ
 rcases zlF l.length (fun k => (l[k]?).any fun y => !(x == y)) (fun k => (k : Int)) (body := fun i8 s7 => (ix l i8).bind fun x17 => if (x == x17) = true then some (.out (.inr i8)) else some (.go ())) (fun k hk => by
  rw [zea hk, Option.bind_some, List.getElem?_eq_getElem hk]
  exact zpd _ _ _) with ⟨e, h1⟩ | ⟨k, h1, h2, h3, e⟩
 ·refine .inl ⟨by rw [e]; rfl, fun hx => ?_⟩
  obtain ⟨k, hk, rfl⟩ := List.mem_iff_getElem.1 hx
  have := h1 k hk
  rw [List.getElem?_eq_getElem hk] at this
  simp at this
 refine .inr ⟨k, h1, by rw [e]; rfl, ?_, fun j hj => ?_⟩
 ·rw [List.getElem?_eq_getElem h1] at h2
  simp at h2
  exact h2.symm
 have := h3 j hj
 rw [List.getElem?_eq_getElem (by omega)] at this
 simp at this
 exact fun e => this e.symm
theorem znl (l : List Int) (x : Int) : za3 l x = some (l.contains x) := by
 unfold za3
 rcases zwI l x with ⟨e, h⟩ | ⟨k, hk, e, h, _⟩
 ·rw [e]
  have : l.contains x = false := by simpa using h
  rw [this]; rfl
 rw [e]
 have : l.contains x = true := by
  have := List.getElem_mem hk
  rw [h] at this
  simpa using this
 rw [this]
 simp
theorem znD {l : List Int} {p : Int → Bool} {f : Int → Option Bool} (hf : ∀ x ∈ l, f x = some (!p x)) :
 ((((zap (σ := Unit) (β := Unit ⊕ Int) (fun i8 s7 => (ix l i8).bind fun x17 => (f x17).bind fun z20 => if z20 = true then (some (.out (.inr i8))) else (some (.go ()))) (fun s7 => .inl ()) (l.length) 0 () : Option (Unit ⊕ Int)).bind (Sum.elim (fun (x5 : Unit) => some (-1)) some)).bind fun z1 => some (decide (0 ≤ z1))).bind fun z1 => some (!z1)) = some (l.all p) := by
 rcases zlF l.length (fun k => (l[k]?).any p) (fun k => (k : Int)) (body := fun i8 s7 => (ix l i8).bind fun x17 => (f x17).bind fun z20 => if z20 = true then (some (.out (.inr i8))) else (some (.go ()))) (fun k hk => by
  rw [zea hk, Option.bind_some, hf _ (List.getElem_mem hk), Option.bind_some, List.getElem?_eq_getElem hk]
  exact zwj _ _ _) with ⟨e, h1⟩ | ⟨k, h1, h2, h3, e⟩
 ·rw [e]
  have : l.all p = true := by
   rw [List.all_eq_true]
   intro x hx
   obtain ⟨k, hk, rfl⟩ := List.mem_iff_getElem.1 hx
   have := h1 k hk
   rw [List.getElem?_eq_getElem hk] at this
   exact this
  rw [this]; rfl
 rw [e]
 have : l.all p = false := by
  rw [List.all_eq_false]
  refine ⟨l[k], List.getElem_mem h1, ?_⟩
  rw [List.getElem?_eq_getElem h1] at h2
  simpa using h2
 rw [this]
 simp
def trB (x : Int) : Bool := decide (1 ≤ x) && decide (x ≤ 7)
theorem zme (x : Int) : zdQ x = some (trB x) := by
 unfold zdQ
 rw [zfd]; rfl
theorem zgU (gr : Group) : zdv gr = some (okG gr && decide (7 < gr.Q)) := by
 unfold zdv
 rw [ziT]
 cases okG gr <;> simp
def zbz (q : Int) (f : List Int) (x : Int) : Int := f.foldr (fun c a => (a * x + c) % q) 0
theorem zkF {q : Int} (hq : 0 < q) (f : List Int) (x : Int) : 0 ≤ zbz q f x ∧ zbz q f x < q := by
 cases f with
 | nil => exact ⟨Int.le_refl _, hq⟩
 | cons c f => exact ⟨Int.emod_nonneg _ (by omega), Int.emod_lt_of_pos _ hq⟩
theorem zm3 {q x : Int} {f : List Int} (hq : 0 < q) (hq2 : q ≤ 2000000000) (hx : 0 ≤ x) (hx2 : x ≤ 2000000000) (hf : ∀ c ∈ f, 0 ≤ c ∧ c ≤ 2000000000) (hl : f.length ≤ 1000000000000) : zeb q f x = some (zbz q f x) := by
 unfold zeb
 rw [zaq (by omega) (by omega)]
 refine zaD (zac (ψ := fun r => r = zbz q f x) (zgT f.length (fun k s => s = (zbz q (f.drop (f.length - k)) x, (f.length : Int) - k - 1)) ?_ ?_ ?_) fun r hr => zab hr)
 ·simp [zbz]
 ·rintro k s hk rfl
  have hi : (f.length : Int) - (k : Int) - 1 = ((f.length - k - 1 : Nat) : Int) := by omega
  have hlt : f.length - k - 1 < f.length := by omega
  have hd : f.drop (f.length - (k + 1)) = f[f.length - k - 1] :: f.drop (f.length - k) := by
   have e := List.drop_eq_getElem_cons (l := f) (i := f.length - k - 1) hlt
   rw [show f.length - (k + 1) = f.length - k - 1 by omega, e, show f.length - k - 1 + 1 = f.length - k by omega]
  have hb := zkF hq (f.drop (f.length - k)) x
  have hc := hf _ (List.getElem_mem hlt)
  refine zfV (by simp only [decide_eq_true_eq]; omega) (zav (by omega) ?_)
  simp only [hi]
  refine zaz hlt (zav (by omega) (zab ?_))
  show (_, _) = (_, _)
  rw [hd]
  show (_, _) = ((zbz q (f.drop (f.length - k)) x * x + f[f.length - k - 1]) % q, _)
  generalize zbz q (f.drop (f.length - k)) x = a at hb ⊢
  have b1 : 0 ≤ a * x := Int.mul_nonneg hb.1 hx
  have b2 : a * x ≤ 2000000000 * 2000000000 := Int.mul_le_mul (by omega) hx2 hx (by omega)
  have b3 : 0 ≤ a * x % q := Int.emod_nonneg _ (by omega)
  have b4 : a * x % q < q := Int.emod_lt_of_pos _ hq
  rw [zaq (n := a * x) (by omega) (by omega), Int.tmod_eq_emod_of_nonneg b1, zaq (n := a * x % q + _) (by omega) (by omega), Int.tmod_eq_emod_of_nonneg (by omega), Int.emod_add_emod, zaq (by omega) (by omega)]
  congr 1
  omega
 rintro s rfl
 refine zcU (by simp only [decide_eq_false_iff_not]; omega) (zab ?_)
 show zbz q (f.drop (f.length - f.length)) x = _
 rw [Nat.sub_self, List.drop_zero]
theorem znN {q x : Int} {f : List Int} (hq : 0 < q) (hq2 : q ≤ 2000000000) (hx : 0 ≤ x) (hx2 : x ≤ 2000000000) (hf : ∀ c ∈ f, 0 ≤ c ∧ c ≤ 2000000000) (hl : f.length ≤ 1000000000000) : zeC q f x = some (zbz q f x) := by
 unfold zeC
 rw [zaq (by omega) (by omega)]
 refine zaD (zac (ψ := fun r => r = zbz q f x) (zgT f.length (fun k s => s = (zbz q (f.drop (f.length - k)) x, (f.length : Int) - k - 1)) ?_ ?_ ?_) fun r hr => zab hr)
 ·simp [zbz]
 ·rintro k s hk rfl
  have hi : (f.length : Int) - (k : Int) - 1 = ((f.length - k - 1 : Nat) : Int) := by omega
  have hlt : f.length - k - 1 < f.length := by omega
  have hd : f.drop (f.length - (k + 1)) = f[f.length - k - 1] :: f.drop (f.length - k) := by
   have e := List.drop_eq_getElem_cons (l := f) (i := f.length - k - 1) hlt
   rw [show f.length - (k + 1) = f.length - k - 1 by omega, e, show f.length - k - 1 + 1 = f.length - k by omega]
  have hb := zkF hq (f.drop (f.length - k)) x
  have hc := hf _ (List.getElem_mem hlt)
  refine zfV (by simp only [decide_eq_true_eq]; omega) ?_
  simp only [hi]
  refine zaz hlt (zav (by omega) (zab ?_))
  show (_, _) = (_, _)
  rw [hd]
  show (_, _) = ((zbz q (f.drop (f.length - k)) x * x + f[f.length - k - 1]) % q, _)
  generalize zbz q (f.drop (f.length - k)) x = a at hb ⊢
  have b1 : 0 ≤ a * x := Int.mul_nonneg hb.1 hx
  have b2 : a * x ≤ 2000000000 * 2000000000 := Int.mul_le_mul (by omega) hx2 hx (by omega)
  rw [zaq (n := a * x) (by omega) (by omega), zaq (n := a * x + _) (by omega) (by omega), Int.tmod_eq_emod_of_nonneg (by omega), zaq (by omega) (by omega)]
  congr 1
  omega
 rintro s rfl
 refine zcU (by simp only [decide_eq_false_iff_not]; omega) (zab ?_)
 show zbz q (f.drop (f.length - f.length)) x = _
 rw [Nat.sub_self, List.drop_zero]
def dg (q : Nat) : Nat → Nat → List Int
 | 0, _ => []
 | k + 1, n => ((n % q : Nat) : Int) :: dg q k (n / q)
def evI (f : List Int) (x : Int) : Int := f.foldr (fun c a => a * x + c) 0
theorem zmK (c : Int) (f : List Int) (x : Int) : evI (c :: f) x = evI f x * x + c := rfl
theorem zll {q a b c d : Int} (h : a % q = b % q) (h' : c % q = d % q) : (a * c) % q = (b * d) % q := by rw [Int.mul_emod, h, h', ← Int.mul_emod]
theorem zk6 {q a b c d : Int} (h : a % q = b % q) (h' : c % q = d % q) : (a + c) % q = (b + d) % q := by rw [Int.add_emod, h, h', ← Int.add_emod]
theorem zgi (q a : Int) : (a % q) % q = a % q := Int.emod_emod_of_dvd a (Int.dvd_refl q)
theorem zpU (q : Int) (f : List Int) (x : Int) : zbz q f x = evI f x % q := by
 induction f with
 | nil => simp [zbz, evI]
 | cons c f ih =>
  show (zbz q f x * x + c) % q = (evI f x * x + c) % q
  rw [ih]
  exact zk6 (zll (zgi _ _) rfl) rfl
theorem zrI (x v : Int) : ∀ (l : List Int) (k : Nat) (hk : k < l.length), evI (l.set k v) x = evI l x + (v - l[k]) * x ^ k
 | [], k, hk => absurd hk (by simp)
 | c :: l, 0, hk => by
  show evI l x * x + v = evI l x * x + c + (v - c) * x ^ 0
  rw [Int.pow_zero]; omega
 | c :: l, k + 1, hk => by
  show evI (l.set k v) x * x + c = evI l x * x + c + (v - l[k]'(by simpa using hk)) * x ^ (k + 1)
  rw [zrI x v l k (by simpa using hk), Int.pow_succ]
  grind
theorem zvX (l : List Int) (c x : Int) : evI (l ++ [c]) x = evI l x + c * x ^ l.length := by
 induction l with
 | nil => simp [evI]
 | cons d l ih =>
  rw [List.cons_append, zmK, zmK, ih, List.length_cons, Int.pow_succ]
  grind
theorem zp3 {l : List Int} {k : Nat} (hk : k < l.length) (x : Int) : evI (l.take (k + 1)) x = evI (l.take k) x + l[k] * x ^ k := by
 rw [List.take_succ_eq_append_getElem hk, zvX, List.length_take, Nat.min_eq_left (by omega)]
theorem zvs (n : Nat) (x : Int) : evI (List.replicate n 0) x = 0 := by
 induction n with
 | zero => rfl
 | succ n ih => rw [List.replicate_succ, zmK, ih]; simp
def RgC (q : Int) (f : List Int) : Prop := ∀ c ∈ f, 0 ≤ c ∧ c < q
theorem zgk {q : Int} (hq : 0 < q) (a : Int) : 0 ≤ a % q ∧ a % q < q := ⟨Int.emod_nonneg _ (by omega), Int.emod_lt_of_pos _ hq⟩
theorem zpO {q a b : Int} (hq2 : q ≤ 2000000000) (ha : 0 ≤ a ∧ a < q) (hb : 0 ≤ b ∧ b < q) : 0 ≤ a * b ∧ a * b ≤ 2000000000 * 2000000000 := ⟨Int.mul_nonneg ha.1 hb.1, Int.mul_le_mul (by omega) (by omega) hb.1 (by omega)⟩
theorem zmU {q : Int} {a b : List Int} (hq : 0 < q) (hq2 : q ≤ 2000000000) (ha : RgC q a) (hb : RgC q b) (la : 1 ≤ a.length ∧ a.length ≤ 1000000000) (lb : 1 ≤ b.length ∧ b.length ≤ 1000000000) :
 Rn (zd7 q a b) (fun r => r.length = a.length + b.length - 1 ∧ RgC q r ∧ ∀ x, evI r x % q = (evI a x * evI b x) % q) := by
 unfold zd7
 have hw : IntKind.i64.wrap (IntKind.i64.wrap ((a.length : Int) + (b.length : Int)) - 1) = ((a.length + b.length - 1 : Nat) : Int) := by
  rw [zaq (n := (a.length : Int) + (b.length : Int)) (by omega) (by omega), zaq (by omega) (by omega)]; omega
 simp only [hw]
 refine zac (ψ := fun v => v = false) (zcU (by rw [beq_eq_false_iff_ne]; omega) (zab (by rw [beq_eq_false_iff_ne]; omega))) ?_
 rintro _ rfl
 refine zcU rfl (zav (by omega) (zaf rfl ?_))
 rw [Int.toNat_natCast]
 refine zac (ψ := fun r => r.length = a.length + b.length - 1 ∧ RgC q r ∧ ∀ x, evI r x % q = (evI a x * evI b x) % q) (zat (fun k s => s.length = a.length + b.length - 1 ∧ RgC q s ∧ ∀ x, evI s x % q = (evI (a.take k) x * evI b x) % q) ?_ ?_ ?_) fun r h => zab h
 ·refine ⟨by simp, fun c hc => ?_, fun x => ?_⟩
  ·rw [List.eq_of_mem_replicate hc]; omega
  rw [zvs, List.take_zero]; simp [evI]
 ·rintro k s hk ⟨h1, h2, h3⟩
  have hak := ha _ (List.getElem_mem hk)
  refine zac (ψ := fun s' => s'.length = a.length + b.length - 1 ∧ RgC q s' ∧ ∀ x, evI s' x % q = (evI s x + a[k] * x ^ k * evI b x) % q) (zaz hk (zat (fun j s' => s'.length = a.length + b.length - 1 ∧ RgC q s' ∧ ∀ x, evI s' x % q = (evI s x + a[k] * x ^ k * evI (b.take j) x) % q) ⟨h1, h2, fun x => by simp [evI]⟩ ?_ ?_)) ?_
  ·rintro j s' hj ⟨g1, g2, g3⟩
   have hbj := hb _ (List.getElem_mem hj)
   have hlt : k + j < s'.length := by omega
   have hsj := g2 _ (List.getElem_mem hlt)
   have e : IntKind.i64.wrap ((k : Int) + (j : Int)) = ((k + j : Nat) : Int) := by rw [zaq (by omega) (by omega)]; omega
   refine zaz hj ?_
   simp only [e]
   refine zaz hlt (zav (by omega) (zav (by omega) (zab ?_)))
   obtain ⟨b1, b2⟩ := zpO hq2 hak hbj
   obtain ⟨b3, b4⟩ := zgk hq (a[k] * b[j])
   have hv : (IntKind.i64.wrap (s'[k + j] + (IntKind.i64.wrap (a[k] * b[j])).tmod q)).tmod q = (s'[k + j] + a[k] * b[j]) % q := by
    rw [zaq (n := a[k] * b[j]) (by omega) (by omega), Int.tmod_eq_emod_of_nonneg b1, zaq (by omega) (by omega), Int.tmod_eq_emod_of_nonneg (by omega)]
    exact zk6 rfl (zgi _ _)
   rw [hv, Int.toNat_natCast]
   refine ⟨by simp [g1], fun c hc => ?_, fun x => ?_⟩
   ·rcases List.mem_or_eq_of_mem_set hc with h | h
    ·exact g2 c h
    rw [h]; exact zgk hq _
   rw [zrI x _ _ _ hlt, zp3 hj]
   have e2 : evI s' x + ((s'[k + j] + a[k] * b[j]) % q - s'[k + j]) * x ^ (k + j) = evI s' x + a[k] * b[j] * x ^ (k + j) + q * (-((s'[k + j] + a[k] * b[j]) / q) * x ^ (k + j)) := by
    rw [Int.emod_def]; grind
   rw [e2, Int.add_mul_emod_self_left, zk6 (g3 x) rfl, Int.pow_add]
   congr 1
   grind
  ·rintro s' ⟨g1, g2, g3⟩
   rw [List.take_length] at g3
   exact ⟨g1, g2, g3⟩
  rintro s' ⟨g1, g2, g3⟩
  refine zab ⟨g1, g2, fun x => ?_⟩
  rw [g3, zp3 hk, zk6 (h3 x) rfl]
  congr 1
  grind
 rintro s ⟨h1, h2, h3⟩
 rw [List.take_length] at h3
 exact ⟨h1, h2, h3⟩
def dF (x : Int) (l : List Int) : Int := l.foldr (fun p a => a * (x - p)) 1
theorem zoi (x p : Int) (l : List Int) : dF x (p :: l) = dF x l * (x - p) := rfl
theorem zn6 (x : Int) (l : List Int) (p : Int) : dF x (l ++ [p]) = dF x l * (x - p) := by
 induction l with
 | nil => rfl
 | cons c l ih => rw [List.cons_append, zoi, zoi, ih]; grind
theorem zrc {q : Int} {l : List Int} (hq : 2 ≤ q) (hq2 : q ≤ 2000000000) (hl : ∀ p ∈ l, 0 ≤ p ∧ p ≤ 7) (hn : l.length ≤ 100000000) :
 Rn (zeL q l) (fun r => r.length = l.length + 1 ∧ RgC q r ∧ ∀ x, evI r x % q = dF x l % q) := by
 unfold zeL
 refine zac (ψ := fun r => r.length = l.length + 1 ∧ RgC q r ∧ ∀ x, evI r x % q = dF x l % q) (zat (fun k s => s.length = k + 1 ∧ RgC q s ∧ ∀ x, evI s x % q = dF x (l.take k) % q) ?_ ?_ ?_) fun r h => zab h
 ·refine ⟨rfl, fun c hc => ?_, fun x => ?_⟩
  ·rw [List.mem_singleton.1 hc]; omega
  simp [evI, dF]
 ·rintro k s hk ⟨h1, h2, h3⟩
  have hp := hl _ (List.getElem_mem hk)
  refine zaz hk ?_
  rw [zaq (by omega) (by omega)]
  refine zaf (znA (by omega) hq2) ?_
  have hr := zgk (q := q) (by omega) (0 - l[k])
  refine zac (zmU (by omega) hq2 h2 (fun c hc => ?_) (by omega) (by simp)) ?_
  ·rcases List.mem_cons.1 hc with h | h
   ·rw [h]; exact hr
   rw [List.mem_singleton.1 h]; omega
  rintro r ⟨g1, g2, g3⟩
  refine zab ⟨by simp at g1; omega, g2, fun x => ?_⟩
  rw [g3, List.take_succ_eq_append_getElem hk, zn6]
  refine zll (h3 x) ?_
  show ((0 * x + 1) * x + (0 - l[k]) % q) % q = _
  rw [show (0 * x + 1) * x = x by grind, show x - l[k] = x + (0 - l[k]) by omega]
  exact zk6 rfl (zgi _ _)
 rintro s ⟨h1, h2, h3⟩
 rw [List.take_length] at h3
 exact ⟨h1, h2, h3⟩
def zpE (s7 : Int × Int × Int × Int) : Option (Stp (Int × Int × Int × Int) (Int × Int)) :=
 if (s7.2.1 != 0) = true then (
 gd (s7.2.1 ≠ 0) <|
 some (.go (s7.2.1, IntKind.i64.wrap (s7.1 - (IntKind.i64.wrap ((IntKind.i64.wrap (s7.1.tdiv s7.2.1)) * s7.2.1))), s7.2.2.2, IntKind.i64.wrap (s7.2.2.1 - (IntKind.i64.wrap ((IntKind.i64.wrap (s7.1.tdiv s7.2.1)) * s7.2.2.2)))))) else (
 some (.out (s7.1, s7.2.2.1)))
theorem zn7 {a b : Nat} (h1 : a ≤ 2000000000) (h2 : b ≤ 2000000000) : IntKind.i64.wrap ((a : Int) - (IntKind.i64.wrap ((IntKind.i64.wrap ((a : Int).tdiv (b : Int))) * (b : Int)))) = ((a % b : Nat) : Int) := by
 have h3 : a / b ≤ a := Nat.div_le_self a b
 have h4 : a / b * b ≤ a := Nat.div_mul_le_self a b
 have h5 : b * (a / b) + a % b = a := Nat.div_add_mod a b
 have h6 : b * (a / b) = a / b * b := Nat.mul_comm _ _
 rw [zoH]
 generalize a / b = d at h3 h4 h5 h6 ⊢
 rw [zaq (n := (d : Int)) (by omega) (by omega), zfx]
 generalize d * b = f at h4 h6 ⊢
 rw [h6] at h5
 rw [zaq (n := (f : Int)) (by omega) (by omega), zaq (by omega) (by omega)]
 omega
theorem euc {a b : Nat} {x y : Int} (ha : a ≤ 2000000000) (hb : b ≤ 2000000000) (hg : Nat.gcd a b = 1) : Rn (zbO zpE ((a : Int), (b : Int), x, y)) (fun r => r.1 = 1) := by
 refine zgh (fun s => ∃ a b : Nat, ∃ x y : Int, s = ((a : Int), (b : Int), x, y) ∧ a ≤ 2000000000 ∧ b ≤ 2000000000 ∧ Nat.gcd a b = 1) (fun s => s.2.1.toNat) ⟨a, b, x, y, rfl, ha, hb, hg⟩ ?_
 rintro _ ⟨a, b, x, y, rfl, h1, h2, h3⟩
 unfold zpE
 by_cases hb0 : b = 0
 ·subst hb0
  refine zcU (by simp) (zab ?_)
  show (a : Int) = 1
  rw [Nat.gcd_zero_right] at h3
  omega
 refine zfV (by simpa using hb0) (zav (by simpa using hb0) (zab ?_))
 have hlt : a % b < b := Nat.mod_lt _ (by omega)
 refine ⟨⟨b, a % b, y, IntKind.i64.wrap (x - (IntKind.i64.wrap ((IntKind.i64.wrap ((a : Int).tdiv (b : Int))) * y))), ?_, h2, by omega, ?_⟩, ?_⟩
 ·show (_, _, _, _) = _
  rw [zn7 h1 h2]
 ·rw [Nat.gcd_comm, ← Nat.gcd_rec, Nat.gcd_comm]; exact h3
 show (IntKind.i64.wrap _).toNat < (b : Int).toNat
 rw [zn7 h1 h2]; omega
noncomputable def ivV (q b : Int) : Int := ((zcF b q).getD (0, false)).1
theorem ztX {q v : Nat} (hq : 2 ≤ q) (hq2 : q ≤ 2000000000) (hv : v < q) (hg : Nat.gcd q v = 1) : zev (v : Int) (q : Int) = some (ivV q v) ∧ zcF (v : Int) (q : Int) = some (ivV q v, true) ∧ 0 ≤ ivV q v ∧ ivV q v < q := by
 obtain ⟨⟨u, c⟩, h1, h2⟩ := euc (x := 0) (y := 1) hq2 (by omega : v ≤ 2000000000) hg
 have h2 : u = 1 := h2
 subst h2
 have hs : zcF (v : Int) (q : Int) = some (c % (q : Int), true) := by
  unfold zcF
  rw [zhW (by omega) (by omega), Option.bind_some, show (v : Int) % (q : Int) = (v : Int) from Int.emod_eq_of_lt (by omega) (by omega)]
  have e : zbO zpE ((v : Int), (q : Int), 1, 0) = some (1, c) := by
   rw [ziB]
   have : zpE ((v : Int), (q : Int), 1, 0) = some (.go ((q : Int), (v : Int), 0, 1)) := by
    unfold zpE
    rw [if_pos (by simp; omega), zeo (by simp; omega)]
    simp only [zn7 (by omega : v ≤ 2000000000) hq2, Nat.mod_eq_of_lt hv, Int.mul_zero]
    rfl
   rw [this]
   exact h1
  have e2 := congrArg (fun o : Option (Int × Int) => o.bind fun (x7 : Int × Int) => (zbQ x7.2 (q : Int)).bind fun z23 => some (z23, (x7.1 == 1))) e
  refine e2.trans ?_
  show (zbQ c (q : Int)).bind _ = _
  rw [zhW (by omega) (by omega)]; rfl
 have hi : ivV q v = c % (q : Int) := by unfold ivV; rw [hs]; rfl
 rw [hi]
 refine ⟨?_, hs, zgk (by omega) _⟩
 unfold zev
 have e2 := congrArg (fun o : Option (Int × Int) => o.bind fun (x5 : Int × Int) => if (x5.1 != 1) = true then (some 0) else ((zdS x5.2 (q : Int)).bind fun z23 => some z23)) h1
 refine e2.trans ?_
 show (zdS c (q : Int)).bind _ = _
 rw [znA (by omega) (by omega)]; rfl
theorem zyw {n d : Nat} (h : Pr n) (hd : 0 < d) (hdn : d < n) : Nat.gcd n d = 1 := by
 obtain ⟨k, hk⟩ := Nat.gcd_dvd_left n d
 have h1 : Nat.gcd n d ≤ d := Nat.le_of_dvd hd (Nat.gcd_dvd_right n d)
 have h0 : 0 < Nat.gcd n d := Nat.gcd_pos_of_pos_right n hd
 generalize Nat.gcd n d = g at hk h1 h0
 apply Classical.byContradiction
 intro hg
 have hg2 : 2 ≤ g := by omega
 have hk2 : 2 ≤ k := by
  rcases Nat.lt_or_ge k 2 with h | h
  ·have : k = 0 ∨ k = 1 := by omega
   rcases this with rfl | rfl <;> omega
  ·exact h
 rcases Nat.le_total g k with h' | h'
 ·exact h.2 g hg2 (by rw [hk]; exact Nat.mul_le_mul_left g h') (by rw [hk]; exact Nat.mul_mod_right g k)
 exact h.2 k hk2 (by rw [hk]; exact Nat.mul_le_mul_right k h') (by rw [hk]; exact Nat.mul_mod_left g k)
theorem zuP {q x : Int} : ∀ {l : List Int}, (∀ p ∈ l, Int.gcd q (x - p) = 1) → Int.gcd q (dF x l) = 1
 | [], _ => by simp [dF]
 | p :: l, h => by
  rw [zoi, Int.gcd_mul_right_right_of_gcd_eq_one (zuP fun p hp => h p (List.mem_cons_of_mem _ hp))]
  exact h p (List.mem_cons_self ..)
structure LgOk (q : Int) (pts : List Int) : Prop where
 q8 : 7 < q
 q2 : q ≤ 2000000000
 pr : Pr q.toNat
 bd : ∀ p ∈ pts, 0 ≤ p ∧ p ≤ 7
 nd : pts.Nodup
 ln : pts.length ≤ 10000000
theorem zzf {q : Int} {pts : List Int} (h : LgOk q pts) {k : Nat} (hk : k < pts.length) : Nat.gcd q.toNat (dF pts[k] (pts.eraseIdx k) % q).toNat = 1 := by
 have h8 := h.q8
 have h1 : Int.gcd q (dF pts[k] (pts.eraseIdx k)) = 1 := by
  refine zuP fun p hp => ?_
  obtain ⟨i, hi, hne, rfl⟩ := List.mem_eraseIdx_iff_getElem.1 hp
  have hn : pts[k] ≠ pts[i] := fun e => hne ((List.getElem_inj h.nd).1 e).symm
  have b1 := h.bd _ (List.getElem_mem hk)
  have b2 := h.bd _ (List.getElem_mem hi)
  rw [Int.gcd_eq_natAbs_gcd_natAbs, show q.natAbs = q.toNat by omega]
  exact zyw h.pr (by omega) (by omega)
 have h2 : Int.gcd q (dF pts[k] (pts.eraseIdx k) % q) = 1 := by
  rw [Int.gcd_comm, Int.emod_def, Int.mul_comm q, Int.gcd_sub_mul_right_left, Int.gcd_comm]; exact h1
 have := zgk (q := q) (by omega) (dF pts[k] (pts.eraseIdx k))
 rw [Int.gcd_eq_natAbs_gcd_natAbs] at h2
 rw [show q.toNat = q.natAbs by omega, show ∀ z : Int, 0 ≤ z → z.toNat = z.natAbs from fun z hz => by omega, h2]
 exact this.1
noncomputable def zhu (q : Int) (pts : List Int) (x : Int) (k : Nat) : Int := (dF x (pts.eraseIdx k) * ivV q (dF (pts.getD k 0) (pts.eraseIdx k) % q)) % q
theorem zu0 {q : Int} {pts : List Int} (h : LgOk q pts) {k : Nat} (hk : k < pts.length) {d : Int} (hd : d = dF pts[k] (pts.eraseIdx k) % q) : zev d q = some (ivV q d) ∧ zcF d q = some (ivV q d, true) ∧ 0 ≤ ivV q d ∧ ivV q d < q := by
 have h8 := h.q8
 have h2 := h.q2
 have hb := zgk (q := q) (by omega) (dF pts[k] (pts.eraseIdx k))
 have := ztX (q := q.toNat) (v := d.toNat) (by omega) (by omega) (by omega) (by rw [hd]; exact zzf h hk)
 rw [show ((q.toNat : Nat) : Int) = q by omega, show ((d.toNat : Nat) : Int) = d by omega] at this
 exact this
theorem znx {pts : List Int} {k j : Nat} (hj : j < pts.length) : (pts.take (j + 1)).eraseIdx k = if j = k then (pts.take j).eraseIdx k else (pts.take j).eraseIdx k ++ [pts[j]] := by
 rw [List.take_succ_eq_append_getElem hj]
 have hl : (pts.take j).length = j := by simp; omega
 by_cases h1 : j = k
 ·subst h1
  rw [if_pos rfl, List.eraseIdx_append_of_length_le (by omega), hl, Nat.sub_self]
  rw [List.eraseIdx_of_length_le (l := pts.take j) (by omega)]
  simp
 rw [if_neg h1]
 rcases Nat.lt_or_ge k j with h | h
 ·rw [List.eraseIdx_append_of_lt_length (by omega)]
 rw [List.eraseIdx_append_of_length_le (by omega), List.eraseIdx_of_length_le (l := pts.take j) (by omega), List.eraseIdx_of_length_le (by simp; omega)]
theorem zrJ {q x p a : Int} (h : 7 < q) (hq2 : q ≤ 2000000000) (hx : 0 ≤ x ∧ x ≤ 7) (hp : 0 ≤ p ∧ p ≤ 7) : (IntKind.i64.wrap ((a % q) * ((x - p) % q))).tmod q = (a * (x - p)) % q := by
 obtain ⟨b1, b2⟩ := zpO hq2 (zgk (q := q) (by omega) a) (zgk (q := q) (by omega) (x - p))
 rw [zaq (by omega) (by omega), Int.tmod_eq_emod_of_nonneg b1]
 exact zll (zgi _ _) (zgi _ _)
theorem zq1 {q x : Int} {pts : List Int} (h : LgOk q pts) (hx : 0 ≤ x ∧ x ≤ 7) : zeB q pts x = some ((List.range pts.length).map (zhu q pts x)) := by
 have h8 := h.q8
 have h2 := h.q2
 have hln := h.ln
 unfold zeB
 refine zaD (zac (ψ := fun r => r = (List.range pts.length).map (zhu q pts x)) (zat (fun k s => s = (List.range k).map (zhu q pts x)) rfl ?_ ?_) fun r hr => zab hr)
 ·rintro k s hk rfl
  have bk := h.bd _ (List.getElem_mem hk)
  refine zaz hk ?_
  refine zac (ψ := fun r => r = (dF x (pts.eraseIdx k) % q, dF pts[k] (pts.eraseIdx k) % q)) (zat (fun j s => s = (dF x ((pts.take j).eraseIdx k) % q, dF pts[k] ((pts.take j).eraseIdx k) % q)) ?_ ?_ ?_) ?_
  ·simp only [List.take_zero, List.eraseIdx_nil]
   show _ = ((1 : Int) % q, (1 : Int) % q)
   rw [Int.emod_eq_of_lt (by omega) (by omega)]
  ·rintro j s hj rfl
   have bj := h.bd _ (List.getElem_mem hj)
   refine zac (ψ := fun r => r = (dF x ((pts.take (j + 1)).eraseIdx k) % q, dF pts[k] ((pts.take (j + 1)).eraseIdx k) % q)) (zaz hj (zal (fun hv => ?_) fun hv => ?_)) fun r hr => zab hr
   ·have hne : ¬ j = k := by simp at hv; omega
    rw [zaq (n := x - pts[j]) (by omega) (by omega), zaq (n := pts[k] - pts[j]) (by omega) (by omega)]
    refine zaf (zhW (by omega) h2) (zav (by omega) (zaf (zhW (by omega) h2) (zav (by omega) (zab ?_))))
    rw [znx hj, if_neg hne, zn6, zn6, zrJ h8 h2 hx bj, zrJ h8 h2 bk bj]
   have hne : j = k := by simp at hv; omega
   refine zab ?_
   rw [znx hj, if_pos hne]
  ·rintro s rfl
   rw [List.take_length]
  rintro r rfl
  obtain ⟨-, i2, i3, i4⟩ := zu0 h hk rfl
  refine zaf i2 (zav (by omega) (zav (by simp; omega) (zab ?_)))
  show _ = (List.range (k + 1)).map _
  obtain ⟨b1, b2⟩ := zpO h2 (zgk (q := q) (by omega) (dF x (pts.eraseIdx k))) ⟨i3, i4⟩
  dsimp only
  rw [List.range_succ, List.map_append, zaq (by omega) (by omega), Int.tmod_eq_emod_of_nonneg b1]
  congr 1
  simp only [List.map_cons, List.map_nil, zhu, List.getD_eq_getElem?_getD, List.getElem?_eq_getElem hk, Option.getD_some]
  rw [zll (zgi q (dF x (pts.eraseIdx k))) rfl]
 rintro s rfl; rfl
theorem zsL {q x : Int} {pts : List Int} (h : LgOk q pts) (hx : 0 ≤ x ∧ x ≤ 7) : ze5 q pts x = some ((List.range pts.length).map (zhu q pts x)) := by
 have h8 := h.q8
 have h2 := h.q2
 have hln := h.ln
 unfold ze5
 refine zaD (zac (ψ := fun r => r = (List.range pts.length).map (zhu q pts x)) (zat (fun k s => s = (List.range k).map (zhu q pts x)) rfl ?_ ?_) fun r hr => zab hr)
 ·rintro k s hk rfl
  have bk := h.bd _ (List.getElem_mem hk)
  refine zac (ψ := fun r => RgC q r ∧ r.length ≤ 100000000 ∧ evI r x % q = zhu q pts x k) ?_ ?_
  ·unfold zgm zdU zcp
   rw [zaq (by omega) (by omega)]
   refine zaf (zeo (by omega)) (zaf (zeo (by omega)) ?_)
   rw [Int.toNat_natCast, show ((k : Int) + 1).toNat = k + 1 by omega, ← List.eraseIdx_eq_take_drop_succ]
   have hel : (pts.eraseIdx k).length ≤ pts.length := List.length_eraseIdx_le ..
   refine zac (zrc (by omega) h2 (fun p hp => h.bd p (List.mem_of_mem_eraseIdx hp)) (by omega)) ?_
   rintro z5 ⟨g1, g2, g3⟩
   refine zaz hk ?_
   refine zaf (zm3 (by omega) h2 bk.1 (by omega) (fun c hc => by have := g2 c hc; omega) (by omega)) ?_
   rw [zpU, g3]
   obtain ⟨i1, -, i3, i4⟩ := zu0 h hk rfl
   refine zaf i1 (zac (zmU (by omega) h2 g2 (fun c hc => by rw [List.mem_singleton.1 hc]; exact ⟨i3, i4⟩) (by omega) (by simp)) ?_)
   rintro z14 ⟨k1, k2, k3⟩
   refine zab ⟨k2, by simp at k1; omega, ?_⟩
   rw [k3]
   simp only [zhu, List.getD_eq_getElem?_getD, List.getElem?_eq_getElem hk, Option.getD_some]
   exact zll (g3 x) (by simp [evI])
  rintro z17 ⟨k1, k2, k3⟩
  refine zaf (zm3 (by omega) h2 hx.1 (by omega) (fun c hc => by have := k1 c hc; omega) (by omega)) (zav (by simp; omega) (zab ?_))
  show _ = (List.range (k + 1)).map _
  rw [List.range_succ, List.map_append, zpU, k3]; rfl
 rintro s rfl; rfl
theorem zmc (gr : Group) : zdL gr = some (okG gr && decide (7 < gr.Q)) := by
 unfold zdL
 rw [zeK]
 by_cases h : 7 < gr.Q <;> simp [h]
theorem zes {gr : Group} (k : OkG gr) (c : Cipher) : zaK gr c = some (zah gr c.A && zah gr c.B) := by
 unfold zaK
 rw [zlR k, zlR k]
 cases zah gr c.A <;> simp
theorem zgS {gr : Group} (k : OkG gr) (c : Cipher) : zcR gr [c] = some (zah gr c.A && zah gr c.B) := by
 unfold zcR
 rw [if_neg (by simp)]
 refine (zwf [c] (fun c => zah gr c.A && zah gr c.B) false (body := fun i10 s9 => (ix [c] i10).bind fun x19 => (zdo gr [x19.A, x19.B]).bind fun z22 => if (!z22) = true then some (.out (.inr false)) else some (.go ())) fun k' hk => ?_).trans ?_
 ·rw [zea hk, Option.bind_some, zlV k, Option.bind_some]
  refine (zwj _ _ _).trans ?_
  simp
 simp
theorem zyv {gr : Group} (k : OkG gr) (m : Int) : zdo gr [m] = some (zah gr m) := by
 rw [zlV k]; simp
theorem zoS {gr : Group} (h : 0 ≤ gr.Q) (h2 : gr.Q ≤ 2000000000) (l : List Int) : zba gr l = some (l.all (zcQ gr)) := by
 have h1 : zbV l gr = some (l.all (zcQ gr)) := znD (f := fun x => zbl x gr) fun x _ => by
  unfold zbl
  rw [znQ h h2]; rfl
 unfold zba
 rw [h1]; rfl
theorem zhH {a n p e : Nat} (h : a ^ n % p = 1) : a ^ (e % n) % p = a ^ e % p := by
 have hp : 1 % p = 1 := by rw [← h, Nat.mod_mod]
 conv => rhs; rw [← Nat.div_add_mod e n]
 rw [Nat.pow_add, Nat.pow_mul, Nat.mul_mod, Nat.pow_mod (a ^ n), h, Nat.one_pow, hp, Nat.one_mul, Nat.mod_mod]
theorem zjY {gr : Group} {x : Int} (h : zah gr x = true) : 1 ≤ x ∧ x ≤ gr.P - 1 ∧ x.toNat ^ gr.Q.toNat % gr.P.toNat = 1 := by
 unfold zah at h
 simp only [Bool.and_eq_true, decide_eq_true_eq] at h
 exact ⟨h.1.1, h.1.2, h.2⟩
theorem zvO {gr : Group} (k : OkG gr) {x : Int} (h : zah gr x = true) {s l : Int} (hs : 0 ≤ s) (hl : 0 ≤ l) : zaj gr (zaj gr x s) l = zaj gr x (s * l) := by
 obtain ⟨_, _, h3⟩ := zjY h
 have hq := k.q
 obtain ⟨a, rfl⟩ := Int.eq_ofNat_of_zero_le hs
 obtain ⟨b, rfl⟩ := Int.eq_ofNat_of_zero_le hl
 obtain ⟨n, hn⟩ := Int.eq_ofNat_of_zero_le (show 0 ≤ gr.Q by omega)
 unfold zaj
 rw [hn] at h3 ⊢
 rw [Int.toNat_natCast] at h3
 have e : ∀ c : Nat, ((c : Int) % (n : Int)).toNat = c % n := fun c => by rw [← Int.natCast_emod, Int.toNat_natCast]
 rw [zfx, e, e, e, Int.toNat_natCast, zhH h3, zhH h3, ← Nat.pow_mod, ← Nat.pow_mul]
 congr 1
 rw [Nat.pow_mul, Nat.pow_mod, zhH (n := n) (e := b)]
 ·rw [← Nat.pow_mod, ← Nat.pow_mul]
 rw [← Nat.pow_mod, ← Nat.pow_mul, Nat.mul_comm, Nat.pow_mul, Nat.pow_mod, h3, Nat.one_pow, ← h3, Nat.mod_mod]
theorem zlw {gr : Group} (k : OkG gr) {x : Int} (h0 : 0 ≤ x) (h1 : x ≤ 2000000000) : zfi gr x = some (zaj gr x (-1)) := by
 have hq := k.q
 have hp := k.p
 have e : (-1 : Int) % gr.Q = gr.Q - 1 := by
  have := Int.add_mul_emod_self_left (-1) gr.Q 1
  rw [← this, Int.mul_one]
  rw [Int.emod_eq_of_lt (by omega) (by omega)]; omega
 unfold zfi
 rw [zaq (by omega) (by omega), (zgx h0 h1 (by omega) hp.2 (by omega) (by omega)).2]
 unfold zaj
 rw [e]; rfl
theorem zts {gr : Group} (k : OkG gr) {b x : Int} (hb : 0 ≤ b) (hb2 : b ≤ 2000000000) (h0 : 0 ≤ x) (h1 : x ≤ 2000000000) : zdq gr b x = some (zbT gr [b, zaj gr x (-1)]) := by
 have hp := k.p
 obtain ⟨p1, p2⟩ := zdR k x (-1)
 unfold zdq zc5
 rw [(zjb k h0 h1 _).1]
 simp only [Option.bind_some]
 rw [zkq k]; rfl
 intro y hy
 simp only [List.mem_cons, List.not_mem_nil, or_false] at hy
 rcases hy with rfl | rfl <;> omega
structure Bt (code : List Int) : Prop where
 b : ∀ x ∈ code, 0 ≤ x ∧ x ≤ 255
 l : code.length ≤ 1048576
structure Cu (code : List Int) (n : Int) (c : List Int × Int × Int) : Prop where
 e : c.1 = code
 lo : 0 ≤ c.2.1
 hi : c.2.1 ≤ n
theorem Cu.mono {code : List Int} {n m : Int} {c : List Int × Int × Int} (h : Cu code n c) (hn : n ≤ m) : Cu code m c := ⟨h.e, h.lo, Int.le_trans h.hi hn⟩
theorem zyZ (x : BitVec IntKind.u64.bits) : 0 ≤ IntKind.i64.wrap (IntKind.u64.wrap ((x &&& BitVec.ofInt IntKind.u64.bits 255).toNat : Int)) ∧ IntKind.i64.wrap (IntKind.u64.wrap ((x &&& BitVec.ofInt IntKind.u64.bits 255).toNat : Int)) ≤ 255 := by
 have hy : (x &&& BitVec.ofInt IntKind.u64.bits 255).toNat ≤ 255 := by
  rw [BitVec.toNat_and]
  exact Nat.le_trans Nat.and_le_right (by decide)
 generalize (x &&& BitVec.ofInt IntKind.u64.bits 255).toNat = y at hy ⊢
 rw [wrU (by omega) (by omega), zaq (by omega) (by omega)]
 omega
theorem ztG {code c0 : List Int} {at_ seed n : Int} (hb : Bt code) (h : Cu code n (c0, at_, seed)) (hn : n ≤ 9000000000000000) : Rn (zbY c0 at_ seed) (fun z => 0 ≤ z.1 ∧ z.1 ≤ 255 ∧ Cu code (n + 1) z.2) := by
 obtain ⟨h1, h2, h3⟩ := h
 have h1 : c0 = code := h1
 have h2 : 0 ≤ at_ := h2
 have h3 : at_ ≤ n := h3
 subst h1
 have hw : IntKind.i64.wrap (at_ + 1) = at_ + 1 := zaq (by omega) (by omega)
 unfold zbY
 refine zac (ψ := fun v => 0 ≤ v ∧ v ≤ 255) ?_ fun v hv => ?_
 ·refine zal (fun g => ?_) fun g => zab (by omega)
  obtain ⟨k, rfl⟩ := Int.eq_ofNat_of_zero_le h2
  have hk : k < c0.length := by simp at g; omega
  have := hb.b _ (List.getElem_mem hk)
  exact zaz hk (zab (by rw [zaq (by omega) (by omega)]; exact this))
 simp only [hw]
 refine zal (fun g => zab ⟨hv.1, hv.2, rfl, by show 0 ≤ at_ + 1; omega, by show at_ + 1 ≤ n + 1; omega⟩) fun g => zab ?_
 exact ⟨(zyZ _).1, (zyZ _).2, rfl, by show 0 ≤ at_ + 1; omega, by show at_ + 1 ≤ n + 1; omega⟩
theorem zf9 {code c0 : List Int} {at_ seed n m : Int} (hb : Bt code) (h : Cu code n (c0, at_, seed)) (hn : n ≤ 8000000000000000) : Rn (zai c0 at_ seed m) (fun z => 0 ≤ z.1 ∧ (m ≤ 1 → z.1 = 0) ∧ (1 < m → z.1 < m) ∧ z.1 ≤ 65535 ∧ Cu code (n + 2) z.2) := by
 unfold zai
 refine zal (fun g => zab ⟨Int.le_refl 0, fun _ => rfl, fun h => by simp at g; omega, by show (0 : Int) ≤ _; omega, h.mono (by omega)⟩) fun g => ?_
 have g : 1 < m := by simpa using g
 refine zac (ztG hb h (by omega)) fun z ⟨z1, z2, z3⟩ => ?_
 refine zac (ψ := fun x => 0 ≤ x.2 ∧ x.2 ≤ 65535 ∧ Cu code (n + 2) x.1) ?_ fun x ⟨x1, x2, x3⟩ => ?_
 ·refine zal (fun _ => zac (ztG hb z3 (by omega)) fun y ⟨y1, y2, y3⟩ => zab ?_) fun _ => zab ⟨z1, by show z.1 ≤ _; omega, z3.mono (by omega)⟩
  rw [zaq (n := z.1 * 256) (by omega) (by omega), zaq (by omega) (by omega)]
  exact ⟨by show 0 ≤ z.1 * 256 + y.1; omega, by show z.1 * 256 + y.1 ≤ _; omega, y3.mono (by omega)⟩
 refine zav (by omega) (zab ?_)
 rw [Int.tmod_eq_emod_of_nonneg x1]
 have b1 := Int.emod_nonneg x.2 (show m ≠ 0 by omega)
 have b2 := Int.emod_lt_of_pos x.2 (show 0 < m by omega)
 have b3 : x.2 % m ≤ x.2 := by
  rcases Int.lt_or_le x.2 m with h | h
  ·rw [Int.emod_eq_of_lt x1 h]; exact Int.le_refl _
  ·omega
 exact ⟨b1, fun h => by omega, fun _ => b2, by show x.2 % m ≤ _; omega, x3⟩
theorem zlG {code c0 : List Int} {at_ seed n m : Int} (hb : Bt code) (h : Cu code n (c0, at_, seed)) (hn : n ≤ 8000000000000000) : Rn (za0 c0 at_ seed m) (fun z => Cu code (n + 2) z.2) := by
 unfold za0
 exact zac (zf9 hb h hn) fun z hz => zab hz.2.2.2.2
theorem zfg {code c0 : List Int} {at_ seed n : Int} {l : List Int} (hb : Bt code) (h : Cu code n (c0, at_, seed)) (hn : n ≤ 8000000000000000) (hl : l ≠ []) : Rn (zam c0 at_ seed l) (fun z => z.1 ∈ l ∧ Cu code (n + 2) z.2) := by
 unfold zam
 refine zac (zf9 hb h hn) fun z ⟨z1, z2, z3, z4, z5⟩ => ?_
 have h0 : 0 < l.length := List.length_pos_iff.2 hl
 obtain ⟨k, hk⟩ := Int.eq_ofNat_of_zero_le z1
 have hlt : k < l.length := by
  rcases Nat.lt_or_ge 1 l.length with h | h
  ·have := z3 (by omega); omega
  ·have := z2 (by omega); omega
 rw [hk]
 exact zaz hlt (zab ⟨List.getElem_mem hlt, z5⟩)
theorem zzj {n d : Nat} (h : Pr n) (hd : d % n ≠ 0) : Nat.gcd n d = 1 := by
 obtain ⟨k, hk⟩ := Nat.gcd_dvd_left n d
 have hn := h.1
 have h0 : 0 < Nat.gcd n d := Nat.gcd_pos_of_pos_left d (by omega)
 have hdv := Nat.gcd_dvd_right n d
 generalize Nat.gcd n d = g at hk h0 hdv
 apply Classical.byContradiction
 intro hg
 have hg2 : 2 ≤ g := by omega
 have hk2 : 2 ≤ k := by
  rcases Nat.lt_or_ge k 2 with h | h
  ·have : k = 0 ∨ k = 1 := by omega
   rcases this with rfl | rfl
   ·omega
   ·rw [Nat.mul_one] at hk
    rw [← hk] at hdv
    exact absurd (Nat.mod_eq_zero_of_dvd hdv) hd
  ·exact h
 rcases Nat.le_total g k with h' | h'
 ·exact h.2 g hg2 (by rw [hk]; exact Nat.mul_le_mul_left g h') (by rw [hk]; exact Nat.mul_mod_right g k)
 exact h.2 k hk2 (by rw [hk]; exact Nat.mul_le_mul_right k h') (by rw [hk]; exact Nat.mul_mod_left g k)
theorem zyQ {n : Nat} (h : Pr n) {a b : Int} (hab : (a * b) % (n : Int) = 0) : a % (n : Int) = 0 ∨ b % (n : Int) = 0 := by
 have h1 : n ∣ a.natAbs * b.natAbs := by
  rw [← Int.natAbs_mul]
  exact Int.ofNat_dvd_left.1 (Int.dvd_of_emod_eq_zero hab)
 by_cases ha : a.natAbs % n = 0
 ·exact .inl (Int.emod_eq_zero_of_dvd (Int.ofNat_dvd_left.2 (Nat.dvd_of_mod_eq_zero ha)))
 exact .inr (Int.emod_eq_zero_of_dvd (Int.ofNat_dvd_left.2 (Nat.Coprime.dvd_of_dvd_mul_left (zzj h ha) h1)))
def evP (f : List Int) (x : Int) : Int := f.foldr (fun c a => a * x + c) 0
theorem zpY (c : Int) (f : List Int) (x : Int) : evP (c :: f) x = evP f x * x + c := rfl
def dvP (r : Int) : List Int → List Int
 | [] => []
 | [_] => []
 | _ :: c :: f => evP (c :: f) r :: dvP r (c :: f)
theorem zrF (r : Int) : ∀ f : List Int, (dvP r f).length = f.length - 1
 | [] => rfl
 | [_] => rfl
 | _ :: c :: f => by
  show (dvP r (c :: f)).length + 1 = _
  rw [zrF r (c :: f)]; simp
theorem zuo (r x : Int) : ∀ f : List Int, evP f x = evP (dvP r f) x * (x - r) + evP f r
 | [] => by simp [dvP, evP]
 | [c] => by simp [dvP, evP]
 | d :: c :: f => by
  have ih := zuo r x (c :: f)
  show evP (c :: f) x * x + d = (evP (dvP r (c :: f)) x * x + evP (c :: f) r) * (x - r) + (evP (c :: f) r * r + d)
  rw [ih]
  grind
theorem zqB (r : Int) : ∀ f : List Int, 2 ≤ f.length → (dvP r f).getLastD 0 = f.getLastD 0
 | [], h => absurd h (by simp)
 | [_], h => absurd h (by simp)
 | [d, c], _ => by simp [dvP, evP]
 | e :: d :: c :: f, _ => by
  have ih := zqB r (d :: c :: f) (by simp)
  show (evP (d :: c :: f) r :: evP (c :: f) r :: dvP r (c :: f)).getLastD 0 = _
  have : dvP r (d :: c :: f) = evP (c :: f) r :: dvP r (c :: f) := rfl
  rw [this] at ih
  simpa [List.getLastD] using ih
theorem zul {p : Nat} (hp : Pr p) : ∀ (n : Nat) (f : List Int), f.length = n + 1 → f.getLastD 0 % (p : Int) ≠ 0 → ∀ rs : List Int, rs.Pairwise (fun a b => (b - a) % (p : Int) ≠ 0) → (∀ r ∈ rs, evP f r % (p : Int) = 0) → rs.length ≤ n
 | 0, f, hl, hf, rs, hd, hr => by
  match f, hl with
  | [c], _ =>
   cases rs with
   | nil => simp
   | cons r rs =>
    have := hr r (List.mem_cons_self ..)
    simp [evP] at this
    exact absurd (by first | exact this | exact Int.emod_eq_zero_of_dvd this) (by simpa [List.getLastD] using hf)
 | n + 1, f, hl, hf, rs, hd, hr => by
  cases rs with
  | nil => simp
  | cons r rs =>
   have h1 := List.pairwise_cons.1 hd
   have := zul hp n (dvP r f) (by rw [zrF]; omega) (by rw [zqB r f (by omega)]; exact hf) rs h1.2 fun s hs => by
    have e := zuo r s f
    have hs0 := hr s (List.mem_cons_of_mem _ hs)
    have hr0 := hr r (List.mem_cons_self ..)
    have hm : (evP (dvP r f) s * (s - r)) % (p : Int) = 0 := by
     rw [show evP (dvP r f) s * (s - r) = evP f s - evP f r by omega, Int.sub_emod, hs0, hr0]; simp
    rcases zyQ hp hm with h | h
    ·exact h
    ·exact absurd h (h1.1 s hs)
   simpa using this
theorem zvT (k : Nat) (x : Int) : evP (List.replicate k 0 ++ [1]) x = x ^ k := by
 induction k with
 | zero => simp [evP]
 | succ k ih => rw [List.replicate_succ, List.cons_append, zpY, ih, Int.pow_succ]; omega
theorem zqZ {p n : Nat} (hp : Pr p) (hn : 1 ≤ n) (rs : List Int) (hd : rs.Pairwise (fun a b => (b - a) % (p : Int) ≠ 0)) (hr : ∀ r ∈ rs, r ^ n % (p : Int) = 1) : rs.length ≤ n := by
 have h2 := hp.1
 have hone : (1 : Int) % (p : Int) = 1 := Int.emod_eq_of_lt (by omega) (by omega)
 obtain ⟨k, rfl⟩ : ∃ k, n = k + 1 := ⟨n - 1, by omega⟩
 refine zul hp (k + 1) (-1 :: (List.replicate k 0 ++ [1])) (by simp) ?_ rs hd fun r hr' => ?_
 ·have : (-1 :: (List.replicate k (0 : Int) ++ [1])).getLastD 0 = 1 := by
   rw [← List.cons_append, List.getLastD_concat]
  rw [this, hone]; omega
 rw [zpY, zvT, ← Int.pow_succ, Int.add_emod, hr r hr']
 have : ((-1 : Int) % (p : Int)) = p - 1 := by
  have := Int.add_mul_emod_self_left (-1) (p : Int) 1
  rw [← this, Int.mul_one, Int.emod_eq_of_lt (by omega) (by omega)]; omega
 rw [this, show 1 + ((p : Int) - 1) = p by omega, Int.emod_self]
theorem zui {p n : Nat} (hp : Pr p) (hn : 1 ≤ n) (hnp : n < p - 1) : ∃ h : Nat, 2 ≤ h ∧ h < p ∧ h ^ n % p ≠ 1 := by
 apply Classical.byContradiction
 intro hc
 have h2 := hp.1
 have h1 : ∀ h : Nat, 1 ≤ h → h < p → h ^ n % p = 1 := fun h a b => by
  rcases Nat.lt_or_ge h 2 with c | c
  ·have : h = 1 := by omega
   subst this
   rw [Nat.one_pow, Nat.mod_eq_of_lt (by omega)]
  ·exact Classical.byContradiction fun d => hc ⟨h, c, b, d⟩
 have := zqZ hp hn ((List.range (p - 1)).map fun k => ((k + 1 : Nat) : Int)) ?_ ?_
 ·simp at this; omega
 ·rw [List.pairwise_map]
  refine List.Pairwise.imp_of_mem ?_ List.pairwise_lt_range
  intro a b ha hb hab
  have hb := List.mem_range.1 hb
  rw [show ((b + 1 : Nat) : Int) - ((a + 1 : Nat) : Int) = ((b - a : Nat) : Int) by omega, ← Int.natCast_emod, Nat.mod_eq_of_lt (by omega)]
  omega
 intro r hr
 obtain ⟨k, hk, rfl⟩ := List.mem_map.1 hr
 have hk := List.mem_range.1 hk
 rw [← Int.natCast_pow, ← Int.natCast_emod, h1 (k + 1) (by omega) (by omega)]; rfl
structure Gs (gr : Group) : Prop where
 p : 0 ≤ gr.P ∧ gr.P ≤ 2000000000
 q : 0 ≤ gr.Q ∧ gr.Q ≤ 1000000000
 g : 0 ≤ gr.G ∧ gr.G ≤ 2000000000
theorem zyH {q k : Nat} (hq : 2 ≤ q) : ((1 + (k : Int) * (q : Int)) - 1).tdiv (q : Int) = (k : Int) := by
 rw [show (1 + (k : Int) * (q : Int)) - 1 = (k : Int) * (q : Int) by omega, Int.mul_tdiv_cancel _ (by omega)]
theorem zjI {q : Nat} (hq2 : q ≤ 1000000) : Rn (zc3 (q : Int)) (fun z => Gs z.1 ∧ (z.2 = true → z.1.Q = q ∧ 3 ≤ z.1.P) ∧ (∀ k : Nat, 1 ≤ k → Pr (1 + k * q) → 1 + k * q ≤ 2000000000 → Pr q → z.2 = true)) := by
 unfold zc3
 refine zac (ψ := fun b => b = !(decide (2 ≤ q) && prB (q : Int))) ?_ ?_
 ·refine zaf (zf4 _ _ _) ?_
  by_cases h : 2 ≤ q
  ·refine zcU (by simp; omega) (zaf (zks _ (by omega)) (zab ?_))
   simp [h]
  refine zfV (by simp; omega) (zab ?_)
  simp [h]
 rintro _ rfl
 cases hc : (decide (2 ≤ q) && prB (q : Int))
 ·refine zfV rfl (zab ⟨⟨⟨by decide, by decide⟩, ⟨by decide, by decide⟩, by decide, by decide⟩, fun h => (by cases h), fun k h1 h2 h3 h4 => ?_⟩)
  rw [zfW.2 h4] at hc
  have := h4.1
  simp at hc; omega
 have hq : 2 ≤ q := by simp at hc; exact hc.1
 have hpq : Pr q := by simp at hc; exact zfW.1 hc.2
 refine zcU rfl ?_
 refine zac (ψ := fun b => (b = .inl () ∧ ∀ k : Nat, 1 ≤ k → Pr (1 + k * q) → ¬ 1 + k * q ≤ 2000000000) ∨ ∃ z : Group × Bool, b = .inr z ∧ Gs z.1 ∧ z.2 = true ∧ z.1.Q = q ∧ 3 ≤ z.1.P) ?_ ?_
 ·rw [zaq (by omega) (by omega)]
  refine zgh (fun s => ∃ k : Nat, 1 ≤ k ∧ s = 1 + (k : Int) * (q : Int) ∧ s ≤ 2001000001 ∧ ∀ j : Nat, 1 ≤ j → j < k → ¬ Pr (1 + j * q)) (fun s => (2001000001 - s).toNat) ⟨1, by omega, by omega, by omega, fun j h1 h2 => by omega⟩ ?_
  rintro s ⟨k, hk, rfl, hs, hn⟩
  have hkq : k * 2 ≤ k * q := Nat.mul_le_mul_left k hq
  have hkc : (k : Int) * (q : Int) = ((k * q : Nat) : Int) := zfx k q
  refine zal (fun g => ?_) fun g => ?_
  ·have g : 1 + (k : Int) * (q : Int) ≤ 2000000000 := by simpa using g
   refine zaf (zks _ (by omega)) ?_
   have hcast : 1 + (k : Int) * (q : Int) = ((1 + k * q : Nat) : Int) := by omega
   cases hp : prB (1 + (k : Int) * (q : Int))
   ·refine zfV rfl (zab ?_)
    have e : IntKind.i64.wrap (1 + (k : Int) * (q : Int) + (q : Int)) = 1 + ((k + 1 : Nat) : Int) * (q : Int) := by
     rw [zaq (by omega) (by omega)]; grind
    refine ⟨⟨k + 1, by omega, e, by rw [zaq (by omega) (by omega)]; omega, fun j h1 h2 => ?_⟩, ?_⟩
    ·rcases Nat.lt_or_ge j k with h | h
     ·exact hn j h1 h
     have : j = k := by omega
     subst this
     intro hpr
     rw [hcast, zfW.2 hpr] at hp
     cases hp
    rw [zaq (by omega) (by omega)]; omega
   refine zcU rfl ?_
   have hpr : Pr (1 + k * q) := by rw [hcast] at hp; exact zfW.1 hp
   obtain ⟨h0, a1, a2, a3⟩ := zui hpr hk (by omega)
   have hdv : IntKind.i64.wrap ((IntKind.i64.wrap (1 + (k : Int) * (q : Int) - 1)).tdiv (q : Int)) = (k : Int) := by
    rw [zaq (n := 1 + (k : Int) * (q : Int) - 1) (by omega) (by omega), zyH hq, zaq (by omega) (by omega)]
   simp only [hdv]
   simp only [hcast]
   refine zac (ψ := fun h => 2 ≤ h ∧ h ≤ (h0 : Int)) (zgh (fun s => 2 ≤ s ∧ s ≤ (h0 : Int)) (fun s => (h0 - s).toNat) (by omega) ?_) ?_
   ·rintro s ⟨s1, s2⟩
    have hpw := (zgx (a := s) (e := (k : Int)) (m := ((1 + k * q : Nat) : Int)) (by omega) (by omega) (by omega) (by omega) (by omega) (by omega)).2
    refine zav (by omega) (zaf hpw ?_)
    refine zal (fun g => zab ?_) fun g => zab ⟨s1, s2⟩
    rw [zaq (by omega) (by omega)]
    have hne : s ≠ (h0 : Int) := fun e => by
     subst e
     apply a3
     have g : ((((h0 : Int).toNat ^ (k : Int).toNat % ((1 + k * q : Nat) : Int).toNat : Nat)) : Int) = 1 := by simpa only [beq_iff_eq] using g
     rw [Int.toNat_natCast, Int.toNat_natCast, Int.toNat_natCast] at g
     omega
    refine ⟨⟨by omega, by omega⟩, ?_⟩
    omega
   rintro h ⟨s1, s2⟩
   have hpw := (zgx (a := h) (e := (k : Int)) (m := ((1 + k * q : Nat) : Int)) (by omega) (by omega) (by omega) (by omega) (by omega) (by omega)).2
   refine zav (by omega) (zaf hpw (zab ?_))
   have hlt : h.toNat ^ (k : Int).toNat % ((1 + k * q : Nat) : Int).toNat < 1 + k * q := by
    rw [Int.toNat_natCast (1 + k * q)]
    exact Nat.mod_lt _ (by omega)
   refine .inr ⟨_, rfl, ⟨⟨by show (0 : Int) ≤ ((1 + k * q : Nat) : Int); omega, by show ((1 + k * q : Nat) : Int) ≤ _; omega⟩, ⟨by show (0 : Int) ≤ (q : Int); omega, by show (q : Int) ≤ _; omega⟩, ?_, ?_⟩, rfl, rfl, by show (3 : Int) ≤ ((1 + k * q : Nat) : Int); omega⟩
   ·show (0 : Int) ≤ ((_ : Nat) : Int); omega
   show ((_ : Nat) : Int) ≤ 2000000000; omega
  refine zab (.inl ⟨rfl, fun j h1 h2 h3 => ?_⟩)
  have g : ¬ 1 + (k : Int) * (q : Int) ≤ 2000000000 := by simpa using g
  rcases Nat.lt_or_ge j k with h | h
  ·exact hn j h1 h h2
  have : k * q ≤ j * q := Nat.mul_le_mul_right q h
  omega
 rintro b (⟨rfl, h⟩ | ⟨z, rfl, h1, h2, h3, h4⟩)
 ·exact zab ⟨⟨⟨by decide, by decide⟩, ⟨by decide, by decide⟩, by decide, by decide⟩, fun h => (by cases h), fun k h1 h2 h3 h4 => absurd h3 (h k h1 h2)⟩
 exact zab ⟨h1, fun _ => ⟨h3, h4⟩, fun _ _ _ _ _ => h2⟩
theorem zgq {n : Nat} (hn : n < 64) (h2 : 2 ≤ n) (h : ∀ d, d < 8 → 2 ≤ d → d * d ≤ n → n % d ≠ 0) : Pr n := by
 refine ⟨h2, fun d h1 h3 => ?_⟩
 rcases Nat.lt_or_ge d 8 with h8 | h8
 ·exact h d h8 h1 h3
 have : 8 * 8 ≤ d * d := Nat.mul_le_mul h8 h8
 omega
structure Gw (gr : Group) : Prop where
 p : -10 ≤ gr.P ∧ gr.P ≤ 2100000000
 q : -10 ≤ gr.Q ∧ gr.Q ≤ 2100000000
 g : -10 ≤ gr.G ∧ gr.G ≤ 2100000000
theorem Gs.w {gr : Group} (h : Gs gr) : Gw gr := ⟨by have := h.p; omega, by have := h.q; omega, by have := h.g; omega⟩
theorem zyy {x : Int} (hx : x ∈ [(3 : Int), 5, 5, 7, 11, 11, 13, 23]) : ∃ q k : Nat, x = (q : Int) ∧ 3 ≤ q ∧ q ≤ 23 ∧ 1 ≤ k ∧ Pr (1 + k * q) ∧ 1 + k * q ≤ 2000000000 ∧ Pr q := by
 simp only [List.mem_cons, List.not_mem_nil, or_false] at hx
 rcases hx with rfl | rfl | rfl | rfl | rfl | rfl | rfl | rfl
 ·exact ⟨3, 2, rfl, by decide, by decide, by decide, zgq (by decide) (by decide) (by decide), by decide, zgq (by decide) (by decide) (by decide)⟩
 ·exact ⟨5, 2, rfl, by decide, by decide, by decide, zgq (by decide) (by decide) (by decide), by decide, zgq (by decide) (by decide) (by decide)⟩
 ·exact ⟨5, 2, rfl, by decide, by decide, by decide, zgq (by decide) (by decide) (by decide), by decide, zgq (by decide) (by decide) (by decide)⟩
 ·exact ⟨7, 4, rfl, by decide, by decide, by decide, zgq (by decide) (by decide) (by decide), by decide, zgq (by decide) (by decide) (by decide)⟩
 ·exact ⟨11, 2, rfl, by decide, by decide, by decide, zgq (by decide) (by decide) (by decide), by decide, zgq (by decide) (by decide) (by decide)⟩
 ·exact ⟨11, 2, rfl, by decide, by decide, by decide, zgq (by decide) (by decide) (by decide), by decide, zgq (by decide) (by decide) (by decide)⟩
 ·exact ⟨13, 4, rfl, by decide, by decide, by decide, zgq (by decide) (by decide) (by decide), by decide, zgq (by decide) (by decide) (by decide)⟩
 exact ⟨23, 2, rfl, by decide, by decide, by decide, zgq (by decide) (by decide) (by decide), by decide, zgq (by decide) (by decide) (by decide)⟩
theorem zzq {code c0 : List Int} {at_ seed n : Int} (hb : Bt code) (h : Cu code n (c0, at_, seed)) (hn : n ≤ 7000000000000000) : Rn (zcX c0 at_ seed) (fun z => Gs z.1 ∧ 3 ≤ z.1.Q ∧ z.1.Q ≤ 23 ∧ 3 ≤ z.1.P ∧ Cu code (n + 2) z.2) := by
 unfold zcX
 refine zac (zfg hb h (by omega) (by simp)) fun z ⟨z1, z2⟩ => ?_
 obtain ⟨q, k, e, q1, q2, k1, k2, k3, k4⟩ := zyy z1
 rw [e]
 refine zac (zjI (by omega)) fun y ⟨y1, y2, y3⟩ => zab ?_
 have y4 := y2 (y3 k k1 k2 k3 k4)
 exact ⟨y1, by show 3 ≤ y.1.Q; omega, by show y.1.Q ≤ 23; omega, y4.2, z2⟩
theorem zxC {gr : Group} (h : Gs gr) (hq : 1 ≤ gr.Q) (hp : 1 ≤ gr.P) {x : Int} (hx : 0 ≤ x ∧ x ≤ 2000000000) (e : Int) : Rn (zaQ gr x e) (fun v => 0 ≤ v ∧ v ≤ 2000000000) := by
 have h1 := h.p
 have h2 := h.q
 have b1 : 0 ≤ e % gr.Q := Int.emod_nonneg _ (by omega)
 have b2 : e % gr.Q < gr.Q := Int.emod_lt_of_pos _ (by omega)
 have hw := (zgx (a := x) (e := e % gr.Q) (m := gr.P) (by omega) (by omega) (by omega) (by omega) b1 (by omega)).2
 unfold zaQ
 refine zaf (zhW (by omega) (by omega)) (zaf hw (zab ?_))
 have hlt : x.toNat ^ (e % gr.Q).toNat % gr.P.toNat < gr.P.toNat := Nat.mod_lt _ (by omega)
 omega
theorem zBF {x : Int} (hx : x ∈ [(101 : Int), 1009, 1019, 65537, 999983]) : ∃ q : Nat, x = (q : Int) ∧ q ≤ 1000000 := by
 simp only [List.mem_cons, List.not_mem_nil, or_false] at hx
 rcases hx with rfl | rfl | rfl | rfl | rfl
 ·exact ⟨101, rfl, by decide⟩
 ·exact ⟨1009, rfl, by decide⟩
 ·exact ⟨1019, rfl, by decide⟩
 ·exact ⟨65537, rfl, by decide⟩
 exact ⟨999983, rfl, by decide⟩
theorem zy0 : Gs (Group.mk 1000000007 500000003 4) := ⟨⟨by decide, by decide⟩, ⟨by decide, by decide⟩, by decide, by decide⟩
theorem cu0 (code : List Int) : Cu code 0 (code, 0, 0) := ⟨rfl, Int.le_refl 0, Int.le_refl 0⟩
theorem zwE {code c0 : List Int} {at_ seed n : Int} (hb : Bt code) (h : Cu code n (c0, at_, seed)) (hn : n ≤ 6000000000000000) : Rn (zcC c0 at_ seed) (fun z => Gs z.1 ∧ Cu code (n + 6) z.2) := by
 unfold zcC
 refine zac (zf9 hb h (by omega)) fun z ⟨z1, z2, z3, z4, z5⟩ => ?_
 refine zal (fun _ => zab ⟨zy0, z5.mono (by omega)⟩) fun _ => zal (fun _ => ?_) fun _ => ?_
 ·refine zac (zfg hb z5 (by omega) (by simp)) fun y ⟨y1, y2⟩ => ?_
  obtain ⟨q, e, hq⟩ := zBF y1
  rw [e]
  exact zac (zjI hq) fun x ⟨x1, _, _⟩ => zab ⟨x1, y2.mono (by omega)⟩
 refine zac (zzq hb z5 (by omega)) fun y ⟨y1, y2, y3, y4, y5⟩ => ?_
 refine zac (zf9 hb y5 (by omega)) fun x ⟨x1, x2, x3, x4, x5⟩ => ?_
 have hg := y1.g
 refine zac (zxC y1 (by omega) (by omega) hg _) fun v hv => zab ⟨⟨y1.p, y1.q, hv⟩, x5.mono (by omega)⟩
theorem zm4 {code c0 : List Int} {at_ seed n : Int} (hb : Bt code) (h : Cu code n (c0, at_, seed)) (hn : n ≤ 5000000000000000) : Rn (zbv c0 at_ seed) (fun z => Gw z.1 ∧ Cu code (n + 10) z.2) := by
 unfold zbv
 refine zac (zwE hb h (by omega)) fun z ⟨z1, z2⟩ => ?_
 have g1 := z1.p
 have g2 := z1.q
 have g3 := z1.g
 refine zac (zf9 hb z2 (by omega)) fun y ⟨_, _, _, _, y5⟩ => ?_
 rw [zaq (n := z.1.P + 2) (by omega) (by omega), zaq (n := z.1.Q + 1) (by omega) (by omega), zaq (n := z.1.P - 1) (by omega) (by omega), zaq (n := z.1.G + 1) (by omega) (by omega)]
 refine zac (ψ := fun x => Gw (Group.mk x.2.1 x.2.2.1 x.2.2.2) ∧ Cu code (n + 10) x.1) ?_ fun x hx => zab hx
 refine zal (fun _ => ?_) fun _ => zal (fun _ => ?_) fun _ => zal (fun _ => ?_) fun _ => zab ⟨z1.w, y5.mono (by omega)⟩
 ·refine zac (zfg hb y5 (by omega) (by simp)) fun x ⟨x1, x2⟩ => zab ⟨?_, x2.mono (by omega)⟩
  simp only [List.mem_cons, List.not_mem_nil, or_false] at x1
  exact ⟨by show -10 ≤ x.1 ∧ x.1 ≤ _; omega, by show -10 ≤ z.1.Q ∧ z.1.Q ≤ _; omega, by show -10 ≤ z.1.G ∧ z.1.G ≤ _; omega⟩
 ·refine zac (zfg hb y5 (by omega) (by simp)) fun x ⟨x1, x2⟩ => zab ⟨?_, x2.mono (by omega)⟩
  simp only [List.mem_cons, List.not_mem_nil, or_false] at x1
  exact ⟨by show -10 ≤ z.1.P ∧ z.1.P ≤ _; omega, by show -10 ≤ x.1 ∧ x.1 ≤ _; omega, by show -10 ≤ z.1.G ∧ z.1.G ≤ _; omega⟩
 refine zac (zfg hb y5 (by omega) (by simp)) fun x ⟨x1, x2⟩ => zab ⟨?_, x2.mono (by omega)⟩
 simp only [List.mem_cons, List.not_mem_nil, or_false] at x1
 exact ⟨by show -10 ≤ z.1.P ∧ z.1.P ≤ _; omega, by show -10 ≤ z.1.Q ∧ z.1.Q ≤ _; omega, by show -10 ≤ x.1 ∧ x.1 ≤ _; omega⟩
theorem zvw {x : Int} (hx : x ∈ [(11 : Int), 11, 13, 23, 23, 101, 1019]) : ∃ q : Nat, x = (q : Int) ∧ q ≤ 1000000 := by
 simp only [List.mem_cons, List.not_mem_nil, or_false] at hx
 exact ⟨x.toNat, by omega, by omega⟩
theorem zvk {code c0 : List Int} {at_ seed n : Int} (hb : Bt code) (h : Cu code n (c0, at_, seed)) (hn : n ≤ 4000000000000000) : Rn (zcl c0 at_ seed) (fun z => Gw z.1 ∧ Cu code (n + 12) z.2) := by
 unfold zcl
 refine zac (zlG hb h (by omega)) fun z z1 => ?_
 refine zal (fun _ => ?_) fun _ => ?_
 ·exact zac (zm4 hb z1 (by omega)) fun y ⟨y1, y2⟩ => zab ⟨y1, y2.mono (by omega)⟩
 refine zac (zfg hb z1 (by omega) (by simp)) fun y ⟨y1, y2⟩ => ?_
 obtain ⟨q, e, hq⟩ := zvw y1
 rw [e]
 exact zac (zjI hq) fun x ⟨x1, _, _⟩ => zab ⟨x1.w, y2.mono (by omega)⟩
theorem zhY {code c0 : List Int} {at_ seed n : Int} {gr : Group} (hb : Bt code) (h : Cu code n (c0, at_, seed)) (hn : n ≤ 7000000000000000) (hg : gr.Q ≤ 2100000000) : Rn (zaB c0 at_ seed gr) (fun z => 0 ≤ z.1 ∧ z.1 ≤ 2100000000 ∧ (2 ≤ gr.Q → z.1 < gr.Q) ∧ Cu code (n + 4) z.2) := by
 unfold zaB
 refine zal (fun g => zab ⟨Int.le_refl 0, by show (0 : Int) ≤ _; omega, fun h => by simp at g; omega, h.mono (by omega)⟩) fun g => ?_
 have g : 2 ≤ gr.Q := by simp at g; omega
 refine zac (zf9 hb h (by omega)) fun z ⟨z1, z2, z3, z4, z5⟩ => ?_
 refine zac (zf9 hb z5 (by omega)) fun y ⟨y1, y2, y3, y4, y5⟩ => zav (by omega) (zab ?_)
 rw [zaq (n := z.1 * 60000) (by omega) (by omega), zaq (by omega) (by omega), Int.tmod_eq_emod_of_nonneg (by omega)]
 have b1 := Int.emod_nonneg (z.1 * 60000 + y.1) (show gr.Q ≠ 0 by omega)
 have b2 := Int.emod_lt_of_pos (z.1 * 60000 + y.1) (show 0 < gr.Q by omega)
 exact ⟨b1, by show _ % gr.Q ≤ _; omega, fun _ => b2, y5.mono (by omega)⟩
theorem zoG {code c0 : List Int} {at_ seed n : Int} {gr : Group} (hb : Bt code) (h : Cu code n (c0, at_, seed)) (hn : n ≤ 6000000000000000) (hg : Gw gr) : Rn (zbF c0 at_ seed gr) (fun z => -100 ≤ z.1 ∧ z.1 ≤ 2100000000 ∧ Cu code (n + 6) z.2) := by
 have g2 := hg.q
 unfold zbF
 refine zac (zlG hb h (by omega)) fun z z1 => ?_
 rw [zaq (by omega) (by omega)]
 refine zal (fun _ => ?_) fun _ => ?_
 ·refine zac (zfg hb z1 (by omega) (by simp)) fun y ⟨y1, y2⟩ => zab ?_
  simp only [List.mem_cons, List.not_mem_nil, or_false] at y1
  exact ⟨by show -100 ≤ y.1; omega, by show y.1 ≤ _; omega, y2.mono (by omega)⟩
 exact zac (zhY hb z1 (by omega) (by omega)) fun y ⟨y1, y2, _, y3⟩ => zab ⟨by show -100 ≤ y.1; omega, y2, y3.mono (by omega)⟩
theorem zxI {code c0 : List Int} {at_ seed n : Int} {gr : Group} {k : Nat} (hb : Bt code) (h : Cu code n (c0, at_, seed)) (hn : n ≤ 5000000000000000) (hg : Gw gr) (hk : k ≤ 1000000) : Rn (zcA c0 at_ seed gr (k : Int)) (fun z => z.1.length = k ∧ (∀ x ∈ z.1, 0 ≤ x ∧ x ≤ 2100000000 ∧ (2 ≤ gr.Q → x < gr.Q)) ∧ Cu code (n + 4 * k) z.2) := by
 unfold zcA
 refine zac (ψ := fun r => r.2.length = k ∧ (∀ x ∈ r.2, 0 ≤ x ∧ x ≤ 2100000000 ∧ (2 ≤ gr.Q → x < gr.Q)) ∧ Cu code (n + 4 * k) r.1) (zgT k (fun j s => s.2.1 = (k : Int) - j ∧ s.2.2.length = j ∧ (∀ x ∈ s.2.2, 0 ≤ x ∧ x ≤ 2100000000 ∧ (2 ≤ gr.Q → x < gr.Q)) ∧ Cu code (n + 4 * j) s.1) ⟨by show (k : Int) = _; omega, rfl, by simp, h.mono (by omega)⟩ ?_ ?_) fun r hr => zab hr
 ·rintro j s hj ⟨h1, h2, h3, h4⟩
  refine zfV (by rw [h1]; simp; omega) (zac (zhY hb h4 (by omega) hg.q.2) fun z ⟨z1, z2, z3, z4⟩ => zav (by omega) (zab ⟨?_, by simp [h2], fun x hx => ?_, z4.mono (by omega)⟩))
  ·show IntKind.i64.wrap (s.2.1 - 1) = _
   rw [h1, zaq (by omega) (by omega)]; omega
  rcases List.mem_append.1 hx with h | h
  ·exact h3 x h
  rw [List.mem_singleton.1 h]; exact ⟨z1, z2, z3⟩
 rintro s ⟨h1, h2, h3, h4⟩
 exact zcU (by rw [h1]; simp) (zab ⟨h2, h3, h4⟩)
def zh7 (m : Nat) : List Int := (List.range m).map fun i => ((i : Nat) : Int) + 1
theorem zuM (m : Nat) : zh7 (m + 1) = zh7 m ++ [(m : Int) + 1] := by simp [zh7, List.range_succ]
theorem zrM {a q : Int} (h0 : 0 < q) (h1 : q ≤ 4000000000000000000) : zbQ a q = some (a % q) := by
 unfold zbQ
 rw [zeo (by omega), zeo (by omega)]
 have b1 : a.tmod q < q := Int.tmod_lt_of_pos a h0
 have b2 : -q < a.tmod q := by
  have := Int.lt_tmod_of_pos a h0
  omega
 rw [zaq (by omega) (by omega), Int.tmod_eq_emod_of_nonneg (by omega)]
 congr 1
 rw [Int.add_emod_right]
 rw [Int.tmod_def, Int.sub_emod, Int.mul_emod_right, Int.sub_zero, Int.emod_emod]
theorem zr8 (a : Int) {m : Int} (h : 0 < m) : -m < a.tmod m ∧ a.tmod m < m := by
 have h1 := Int.tmod_lt_of_pos a h
 have h2 := Int.lt_tmod_of_pos a h
 omega
theorem ztO (a : Int) {e m : Int} (h1 : 1 ≤ m) (h2 : 0 ≤ e) (h3 : e ≤ 4000000000000000000) : Rn (zbx a e m) (fun v => -m < v ∧ v < m) := by
 unfold zbx
 refine zav (by omega) (zac (ψ := fun v => -m < v ∧ v < m) (zgh (fun s => (-m < s.2.2 ∧ s.2.2 < m) ∧ 0 ≤ s.2.1 ∧ s.2.1 ≤ e) (fun s => s.2.1.toNat) ⟨zr8 _ (by omega), h2, Int.le_refl _⟩ ?_) fun x hx => zab hx)
 rintro s ⟨hs, h4, h5⟩
 refine zal (fun g => ?_) fun _ => zab hs
 have g : 0 < s.2.1 := by simpa using g
 refine zac (ψ := fun v => -m < v ∧ v < m) (zal (fun _ => zav (by omega) (zab (zr8 _ (by omega)))) fun _ => zab hs) fun x hx => zav (by omega) (zab ?_)
 have e1 : s.2.1.tdiv 2 = s.2.1 / 2 := Int.tdiv_eq_ediv_of_nonneg (by omega)
 have e2 : IntKind.i64.wrap (s.2.1.tdiv 2) = s.2.1 / 2 := by rw [e1, zaq (by omega) (by omega)]
 exact ⟨⟨hx, by show 0 ≤ IntKind.i64.wrap _; rw [e2]; omega, by show IntKind.i64.wrap _ ≤ e; rw [e2]; omega⟩, by show (IntKind.i64.wrap _).toNat < _; rw [e2]; omega⟩
theorem zw7 {gr : Group} (hq : 1 ≤ gr.Q ∧ gr.Q ≤ 4000000000000000000) (hp : 1 ≤ gr.P) (x e : Int) : Rn (zaQ gr x e) (fun v => -gr.P < v ∧ v < gr.P) := by
 unfold zaQ
 refine zaf (zrM (by omega) hq.2) (zac (ztO x hp (Int.emod_nonneg _ (by omega)) ?_) fun v hv => zab hv)
 have := Int.emod_lt_of_pos e (show 0 < gr.Q by omega)
 omega
theorem zjo {code c0 : List Int} {at_ seed n : Int} {gr : Group} (hb : Bt code) (h : Cu code n (c0, at_, seed)) (hn : n ≤ 6000000000000000) (hg : Gw gr) : Rn (zay c0 at_ seed gr) (fun z => -2200000000 ≤ z.1 ∧ z.1 ≤ 2200000000 ∧ Cu code (n + 4) z.2) := by
 have g1 := hg.p
 have g2 := hg.q
 unfold zay
 refine zac (ψ := fun b => b = false → 3 ≤ gr.P ∧ 1 ≤ gr.Q) (zal (fun _ => zab fun h => by cases h) fun a => zab fun b => by simp at a b; omega) fun b hb' => zal (fun _ => zab ⟨by show -2200000000 ≤ (1 : Int); decide, by show (1 : Int) ≤ _; decide, h.mono (by omega)⟩) fun e => ?_
 obtain ⟨k1, k2⟩ := hb' e
 refine zaf (zrM (by omega) (by omega)) (zac (zhY hb h (by omega) (by omega)) fun z ⟨z1, z2, _, z3⟩ => zac (zw7 ⟨k2, by omega⟩ (by omega) _ _) fun v hv => zab ⟨by show _ ≤ v; omega, by show v ≤ _; omega, z3⟩)
theorem zhi {code c0 : List Int} {at_ seed n : Int} {gr : Group} (hb : Bt code) (h : Cu code n (c0, at_, seed)) (hn : n ≤ 5000000000000000) (hg : Gw gr) : Rn (zaS c0 at_ seed gr) (fun z => -2200000000 ≤ z.1 ∧ z.1 ≤ 2200000000 ∧ Cu code (n + 6) z.2) := by
 have g1 := hg.p
 unfold zaS
 refine zac (zlG hb h (by omega)) fun z z1 => zal (fun _ => ?_) fun _ => zac (zjo hb z1 (by omega) hg) fun y ⟨y1, y2, y3⟩ => zab ⟨y1, y2, y3.mono (by omega)⟩
 rw [zaq (n := gr.P - 1) (by omega) (by omega)]
 refine zac (zfg hb z1 (by omega) (by simp)) fun y ⟨y1, y2⟩ => zab ?_
 simp only [List.mem_cons, List.not_mem_nil, or_false] at y1
 exact ⟨by show -2200000000 ≤ y.1; omega, by show y.1 ≤ _; omega, y2.mono (by omega)⟩
theorem zwb {l : List Int} : zeF l l = some true := by
 unfold zeF
 refine zaD (zcU (by simp) (zac (ψ := fun v => v = .inl ()) (zat (fun _ _ => True) trivial ?_ fun s _ => rfl) ?_))
 ·rintro k s hk _
  exact zaz hk (zaz hk (zcU (by simp) (zab trivial)))
 rintro _ rfl
 exact zab rfl
def zaX (gr : Group) (c : Cipher) : Bool := zah gr c.A && zah gr c.B
theorem zpG {code c0 : List Int} {at_ seed n : Int} {gr : Group} (hb : Bt code) (h : Cu code n (c0, at_, seed)) (hn : n ≤ 4000000000000000) (hg : Gw gr) : Rn (zbc c0 at_ seed gr) (fun z => Cu code (n + 8) z.2) := by
 unfold zbc
 exact zac (zjo hb h (by omega) hg) fun z ⟨_, _, z3⟩ => zac (zjo hb z3 (by omega) hg) fun y ⟨_, _, y3⟩ => zab (y3.mono (by omega))
theorem zrb {code c0 : List Int} {at_ seed n : Int} {gr : Group} (hb : Bt code) (h : Cu code n (c0, at_, seed)) (hn : n ≤ 4000000000000000) (hg : Gw gr) : Rn (zbR c0 at_ seed gr) (fun z => Cu code (n + 12) z.2) := by
 unfold zbR
 exact zac (zhi hb h (by omega) hg) fun z ⟨_, _, z3⟩ => zac (zhi hb z3 (by omega) hg) fun y ⟨_, _, y3⟩ => zab (y3.mono (by omega))
def byL (s : ByteArray) : List Int := s.data.toList.map fun b => (b.toNat : Int)
theorem zhB (s : ByteArray) : (byL s).length = s.size := by
 show (s.data.toList.map _).length = s.data.size
 rw [List.length_map, Array.length_toList]
theorem ztz (s : ByteArray) : ∀ x ∈ byL s, 0 ≤ x ∧ x ≤ 255 := by
 intro x hx
 obtain ⟨b, _, rfl⟩ := List.mem_map.1 hx
 have := b.toNat_lt
 omega
theorem zyi {s : ByteArray} {k : Nat} (h : k < s.size) : ixs s (k : Int) = some ((byL s)[k]'(by rw [zhB]; exact h)) := by
 have h2 : k < s.data.size := h
 simp [ixs, byL, h]
 rfl
theorem zuU (s : ByteArray) (l : List Int) (hs : s.size ≤ 1000000) (hl : l.length ≤ 1000000000000) : zfK s l = some ((s.size : Int) :: byL s ++ l) := by
 unfold zfK
 refine zaD (zac (ψ := fun x => x = (s.size : Int) :: byL s) (zgT s.size (fun n p => n ≤ s.size ∧ p = ((s.size : Int) :: (byL s).take n, (n : Int))) ⟨by omega, by simp⟩ ?_ ?_) ?_)
 ·rintro n p hn ⟨_, rfl⟩
  have hn2 : n < (byL s).length := by rw [zhB]; exact hn
  have hb := ztz s _ (List.getElem_mem hn2)
  refine zal (fun _ => ?_) fun h => absurd h (by simp; omega)
  refine zaf (zyi hn) (zav ?_ (zab ⟨by omega, ?_⟩))
  ·simp only [List.length_cons, List.length_take, zhB]; omega
  show ((s.size : Int) :: (byL s).take n ++ [_], _) = _
  rw [zaq (by omega) (by omega), zaq (by omega) (by omega), List.cons_append, List.take_append_getElem hn2]
  rfl
 ·rintro p ⟨_, rfl⟩
  refine zal (fun h => absurd h (by simp)) fun _ => zab ?_
  show (s.size : Int) :: (byL s).take s.size = _
  rw [List.take_of_length_le (by rw [zhB]; omega)]
 rintro _ rfl
 refine zav ?_ (zab rfl)
 simp only [List.length_cons, zhB]; omega
theorem zst (s : ByteArray) (l : List Int) (hs : s.size ≤ 1000000) (hl : l.length ≤ 1000000000000) : zfZ s l = some ((s.size : Int) :: byL s ++ l) := zuU s l hs hl
def zb6 (x : Int) : Bool := decide (0 ≤ x) && decide (x ≤ 4611686018427387903)
theorem zeM {x : Int} : zb6 x = true ↔ 0 ≤ x ∧ x ≤ 4611686018427387903 := by simp [zb6]
theorem ztm (x : Int) : zfa x = some (zb6 x) := by
 unfold zfa
 rw [zfd]; rfl
theorem zxs (s : ByteArray) : (byL s).all zb6 = true := by
 rw [List.all_eq_true]
 intro x hx
 have := ztz s x hx
 exact zeM.2 ⟨by omega, by omega⟩
def hs1 (c s k : Int) : Int := (c * s + k + 1) % 2147483647
def ziP (p : Int × Int) (x : Int) : Int × Int := (hs1 48271 (hs1 48271 p.1 (x % 2147483648)) (x / 2147483648), hs1 69621 (hs1 69621 p.2 (x % 2147483648)) (x / 2147483648))
def zlJ (l : List Int) : Int := let p := (((l.length : Int) :: l).foldl ziP (1, 2)); p.1 * 2147483648 + p.2
theorem zjX (c s k : Int) : 0 ≤ hs1 c s k ∧ hs1 c s k ≤ 2147483646 := by unfold hs1; omega
theorem zh1 {c s k : Int} (hc : c = 48271 ∨ c = 69621) (hs : 0 ≤ s ∧ s ≤ 2147483646) (hk : 0 ≤ k ∧ k ≤ 2147483648) : (IntKind.i64.wrap ((IntKind.i64.wrap ((IntKind.i64.wrap (c * s)) + k)) + 1)).tmod 2147483647 = hs1 c s k := by
 rcases hc with rfl | rfl
 ·rw [zaq (n := 48271 * s) (by omega) (by omega), zaq (n := 48271 * s + k) (by omega) (by omega), zaq (by omega) (by omega), Int.tmod_eq_emod_of_nonneg (by omega)]; rfl
 rw [zaq (n := 69621 * s) (by omega) (by omega), zaq (n := 69621 * s + k) (by omega) (by omega), zaq (by omega) (by omega), Int.tmod_eq_emod_of_nonneg (by omega)]; rfl
def okP (p : Int × Int) : Prop := (0 ≤ p.1 ∧ p.1 ≤ 2147483646) ∧ (0 ≤ p.2 ∧ p.2 ≤ 2147483646)
theorem zxr (p : Int × Int) (x : Int) : okP (ziP p x) := ⟨zjX _ _ _, zjX _ _ _⟩
theorem ziy : ∀ (l : List Int) (p : Int × Int), okP p → okP (l.foldl ziP p)
 | [], _, h => h
 | x :: l, p, _ => ziy l _ (zxr p x)
theorem zut (l : List Int) : zb6 (zlJ l) = true := by
 obtain ⟨h1, h2⟩ := ziy ((l.length : Int) :: l) (1, 2) ⟨by decide, by decide⟩
 refine zeM.2 ?_
 unfold zlJ
 dsimp only
 omega
theorem zqC {p : Int × Int} {x : Int} (hp : okP p) (hx : zb6 x = true) : zbw p.1 p.2 x = some (ziP p x) := by
 obtain ⟨h1, h2⟩ := hp
 have hx := zeM.1 hx
 have e1 : x.tmod 2147483648 = x % 2147483648 := Int.tmod_eq_emod_of_nonneg hx.1
 have e2 : IntKind.i64.wrap (x.tdiv 2147483648) = x / 2147483648 := by
  rw [Int.tdiv_eq_ediv_of_nonneg hx.1, zaq (by omega) (by omega)]
 have b1 : 0 ≤ x % 2147483648 ∧ x % 2147483648 ≤ 2147483648 := by omega
 have b2 : 0 ≤ x / 2147483648 ∧ x / 2147483648 ≤ 2147483648 := by omega
 have h0 : ix [x % 2147483648, x / 2147483648] 0 = some (x % 2147483648) := rfl
 have h1' : ix [x % 2147483648, x / 2147483648] 1 = some (x / 2147483648) := rfl
 unfold zbw
 rw [e1, e2, Option.bind_some, ziB]
 simp only [List.length_cons, List.length_nil, show decide ((0 : Int) < ((0 + 1 + 1 : Nat) : Int)) = true from rfl, if_true, h0, Option.bind_some, zh1 (.inl rfl) h1 b1, zh1 (.inr rfl) h2 b1]
 rw [ziB]
 simp only [show IntKind.i64.wrap (0 + 1) = 1 from rfl, show decide ((1 : Int) < ((0 + 1 + 1 : Nat) : Int)) = true from rfl, if_true, h1', Option.bind_some, zh1 (.inl rfl) (zjX _ _ _) b2, zh1 (.inr rfl) (zjX _ _ _) b2]
 rw [ziB]
 simp only [show IntKind.i64.wrap (1 + 1) = 2 from rfl, show decide ((2 : Int) < ((0 + 1 + 1 : Nat) : Int)) = false from rfl, Bool.false_eq_true, if_false, Option.bind_some]
 rfl
theorem zrN {l : List Int} (h : l.all zb6 = true) {k : Nat} (hk : k < l.length) : zb6 l[k] = true := List.all_eq_true.1 h _ (List.getElem_mem hk)
theorem zxE {l : List Int} (hl : l.length ≤ 1000000000000) (hd : l.all zb6 = true) : zf3 l = some (zlJ l) := by
 unfold zf3
 have e0 := zqC (p := (1, 2)) (x := (l.length : Int)) ⟨by decide, by decide⟩ (zeM.2 ⟨by omega, by omega⟩)
 refine zaD (zaf e0 (zac (ψ := fun p => p = ((l.length : Int) :: l).foldl ziP (1, 2)) (zat (fun n p => p = ((l.length : Int) :: l.take n).foldl ziP (1, 2)) rfl ?_ ?_) ?_))
 ·rintro n p hn rfl
  refine zaz hn (zaf (zqC (ziy _ _ ⟨by decide, by decide⟩) (zrN hd hn)) (zab ?_))
  show ziP _ _ = _
  rw [← List.take_append_getElem hn, ← List.cons_append, List.foldl_append]
  rfl
 ·rintro p rfl
  show (((l.length : Int) :: l.take l.length).foldl ziP (1, 2)) = _
  rw [List.take_length]
 rintro p rfl
 obtain ⟨h1, h2⟩ := ziy ((l.length : Int) :: l) (1, 2) ⟨by decide, by decide⟩
 refine zab ?_
 rw [zaq (n := _ * 2147483648) (by omega) (by omega), zaq (by omega) (by omega)]
 rfl
theorem zvg {x : Int} (hx : zb6 x = true) : IntKind.i64.wrap (BitVec.ofInt IntKind.i64.bits x &&& BitVec.ofInt IntKind.i64.bits 2147483647).toNat = x % 2147483648 := by
 have hx := zeM.1 hx
 obtain ⟨n, rfl⟩ := Int.eq_ofNat_of_zero_le hx.1
 have h1 : (BitVec.ofInt IntKind.i64.bits ((n : Nat) : Int) &&& BitVec.ofInt IntKind.i64.bits 2147483647).toNat = n % 2147483648 := by
  rw [BitVec.toNat_and]
  have a1 : (BitVec.ofInt IntKind.i64.bits (n : Int)).toNat = n := by
   rw [BitVec.toNat_ofInt]
   have : IntKind.i64.bits = 64 := rfl
   rw [this]
   omega
  have a2 : (BitVec.ofInt IntKind.i64.bits 2147483647).toNat = 2 ^ 31 - 1 := by decide
  rw [a1, a2, Nat.and_two_pow_sub_one_eq_mod]
 rw [h1, zaq (by omega) (by omega)]
 omega
theorem zza {l : List Int} (hl : l.length ≤ 1000000000000) (hd : l.all zb6 = true) : zgE l = some (zlJ l) := by
 unfold zgE
 have hd2 : ((l.length : Int) :: l).all zb6 = true := by
  rw [List.all_cons, hd, Bool.and_true]
  exact zeM.2 ⟨by omega, by omega⟩
 refine zaD (zav (by simp only [List.length_cons, List.length_nil]; omega) (zaf rfl (zac (ψ := fun p => p = ((l.length : Int) :: l).foldl ziP (1, 2)) (zat (fun n p => p = (((l.length : Int) :: l).take n).foldl ziP (1, 2)) rfl ?_ ?_) ?_)))
 ·rintro n p hn rfl
  have ok := ziy ((((l.length : Int) :: l)).take n) (1, 2) ⟨by decide, by decide⟩
  have dg := zrN hd2 hn
  have b := zeM.1 dg
  have ef : (((l.length : Int) :: l)[n]).fdiv 2147483648 = ((l.length : Int) :: l)[n] / 2147483648 := Int.fdiv_eq_ediv_of_nonneg _ (by omega)
  have hn' : n < ((l.length : Int) :: l).length := hn
  refine zaz hn (zab ?_)
  show (_, _) = _
  simp only [List.singleton_append]
  rw [zvg dg, ef, zh1 (.inl rfl) ok.1 (by omega), zh1 (.inr rfl) ok.2 (by omega), zh1 (.inl rfl) (zjX _ _ _) (by omega), zh1 (.inr rfl) (zjX _ _ _) (by omega),
   ← List.take_append_getElem hn', List.foldl_append]
  rfl
 ·rintro p rfl
  show ((((l.length : Int) :: l).take ([(l.length : Int)] ++ l).length).foldl ziP (1, 2)) = _
  rw [List.singleton_append, List.take_length]
 rintro p rfl
 obtain ⟨h1, h2⟩ := ziy ((l.length : Int) :: l) (1, 2) ⟨by decide, by decide⟩
 refine zab ?_
 rw [zaq (n := _ * 2147483648) (by omega) (by omega), zaq (by omega) (by omega)]
 rfl
def zr9 (s : ByteArray) (l : List Int) : Int := zlJ ((s.size : Int) :: byL s ++ l)
theorem zpX (s : ByteArray) (l : List Int) : zb6 (zr9 s l) = true := zut _
def zi3 (s : ByteArray) (l : List Int) : Bool := decide (s.size ≤ 40) && decide (1 + s.size + l.length ≤ 400) && l.all zb6
theorem zrL {s : ByteArray} {l : List Int} (hs : s.size ≤ 1000000) : ((s.size : Int) :: byL s ++ l).all zb6 = l.all zb6 := by
 rw [List.cons_append, List.all_cons, List.all_append, zxs, zeM.2 ⟨by omega, by omega⟩, Bool.true_and, Bool.true_and]
theorem zqT {s : ByteArray} {l : List Int} (hs : s.size ≤ 1000000) (hl : l.length ≤ 100000000000) (hd : l.all zb6 = true) : zeI s l = some (zr9 s l) := by
 unfold zeI
 rw [zuU s l hs (by omega), Option.bind_some, zxE (by simp [zhB]; omega) (by rw [zrL hs]; exact hd)]
 rfl
theorem zqp (l : List Int) : zej l = some (decide (l.length ≤ 400) && l.all zb6) := by
 unfold zej
 have h1 : zcr l = some (l.all zb6) := znD (f := zbA) fun x _ => by
  unfold zbA
  rw [ztm]; rfl
 rw [h1]
 by_cases h : l.length ≤ 400
 ·rw [if_pos (by simp; omega)]; simp [h]
 rw [if_neg (by simp; omega)]; simp [h]
theorem zsF (l : List Int) : ze6 l = some (if (decide (l.length ≤ 400) && l.all zb6) = true then (zlJ l, true) else (0, false)) := by
 unfold ze6
 rw [zqp, Option.bind_some]
 cases h : (decide (l.length ≤ 400) && l.all zb6) with
 | true =>
  simp only [Bool.and_eq_true, decide_eq_true_eq] at h
  rw [zza (by omega) h.2]; rfl
 | false => rfl
theorem zn4 (s : ByteArray) (l : List Int) : zdD s l = some (if zi3 s l = true then (zr9 s l, true) else (0, false)) := by
 unfold zdD
 by_cases h1 : s.size ≤ 40
 ·by_cases h2 : l.length ≤ 400
  ·rw [if_neg (by simp; omega), Option.bind_some, if_neg (by simp; omega), zst s l (by omega) (by omega), Option.bind_some, zsF, zrL (by omega)]
   have e : ((s.size : Int) :: byL s ++ l).length = 1 + s.size + l.length := by simp [zhB]; omega
   rw [e]
   have e2 : zi3 s l = (decide (1 + s.size + l.length ≤ 400) && l.all zb6) := by simp [zi3, h1]
   rw [e2]
   cases decide (1 + s.size + l.length ≤ 400) <;> cases l.all zb6 <;> rfl
  rw [if_neg (by simp; omega), Option.bind_some, if_pos (by simp; omega)]
  have : zi3 s l = false := by
   have : ¬ 1 + s.size + l.length ≤ 400 := by omega
   simp [zi3, this]
  rw [this]; rfl
 rw [if_pos (by simp; omega), Option.bind_some, if_pos rfl]
 have : zi3 s l = false := by simp [zi3, h1]
 rw [this]; rfl
theorem zqb {α β γ : Type} {l : List α} {f : α → β} {body : Int → List β → Option (Stp (List β) γ)} {stop : List β → γ} (a0 : List β) (hs : ∀ k (h : k < l.length) (s : List β), s.length = a0.length + k → body (k : Int) s = some (.go (s ++ [f l[k]]))) :
 zap body stop l.length 0 a0 = some (stop (a0 ++ l.map f)) := by
 refine zaD (zat (fun k s => s = a0 ++ (l.take k).map f ∧ k ≤ l.length) ⟨by simp, by omega⟩ ?_ ?_)
 ·rintro k s hk ⟨rfl, _⟩
  refine ⟨_, hs k hk _ (by simp; omega), ?_, hk⟩
  rw [List.take_succ_eq_append_getElem hk, List.map_append, List.append_assoc]; rfl
 rintro s ⟨rfl, _⟩
 simp
theorem zuf {γ : Type} {m : Nat} (p : Nat → Bool) (c d : γ) {body : Int → Unit → Option (Stp Unit (Unit ⊕ γ))} (h : ∀ k, k < m → body (k : Int) () = some (if p k = true then .go () else .out (.inr c))) :
 (zap body (fun _ => .inl ()) m 0 ()).bind (Sum.elim (fun _ => some d) some) = some (if (List.range m).all p = true then d else c) := by
 rcases zlF (body := body) m p (fun _ => c) h with ⟨e, h1⟩ | ⟨k, h1, h2, h3, e⟩
 ·have : (List.range m).all p = true := by
   rw [List.all_eq_true]; intro x hx; exact h1 x (List.mem_range.1 hx)
  rw [e, this]; rfl
 have : (List.range m).all p = false := by
  rw [List.all_eq_false]; exact ⟨k, List.mem_range.2 h1, by simp [h2]⟩
 rw [e, this]; rfl
def inB (a b x : Int) : Bool := decide (a ≤ x) && decide (x ≤ b)
theorem zjj {a b x : Int} : inB a b x = true ↔ a ≤ x ∧ x ≤ b := by simp [inB]
theorem zt6 (a b : Bool) : (if a = true then some true else some b) = some (a || b) := by cases a <;> rfl
theorem zpj (x a b : Int) : zbf x a b = some (inB a b x) := zf4 x a b
theorem zye (x a b : Int) : za8 x a b = some (inB a b x) := zfd x a b
theorem zhL {l : List Int} (h : l.length ≤ 1048576) : zcP l = some l := zeo (by omega)
def itr {σ : Type} (f : Nat → σ → σ) : Nat → σ → σ
 | 0, s => s
 | n + 1, s => f n (itr f n s)
theorem zr2 {σ : Type} {f : Nat → σ → σ} {I : Nat → σ → Prop} {s0 : σ} (h0 : I 0 s0) {m : Nat} (h : ∀ k s, k < m → I k s → I (k + 1) (f k s)) : ∀ k, k ≤ m → I k (itr f k s0)
 | 0, _ => h0
 | k + 1, hk => h k _ (by omega) (zr2 h0 h k (by omega))
theorem ztW {σ β : Type} {body : Int → σ → Option (Stp σ β)} {stop : σ → β} {m : Nat} {s0 : σ} (f : Nat → σ → σ) (I : Nat → σ → Prop) (h0 : I 0 s0) (hi : ∀ k s, k < m → I k s → I (k + 1) (f k s)) (hs : ∀ k s, k < m → I k s → body (k : Int) s = some (.go (f k s))) :
 zap body stop m 0 s0 = some (stop (itr f m s0)) := by
 refine zaD (zat (fun k s => s = itr f k s0 ∧ k ≤ m) ⟨rfl, by omega⟩ ?_ ?_)
 ·rintro k s hk ⟨rfl, _⟩
  exact ⟨_, hs k _ hk (zr2 h0 hi k (by omega)), rfl, hk⟩
 rintro s ⟨rfl, _⟩; rfl
theorem zht {α : Type} {L : List (List α)} {i : Nat} (h : i < L.length) : (L.take (i + 1)).flatten = (L.take i).flatten ++ L[i] := by
 rw [List.take_succ_eq_append_getElem h, List.flatten_append]; simp
theorem zmR {α : Type} (L : List (List α)) (i : Nat) : (L.take i).flatten.length ≤ L.flatten.length := by
 have e : L.flatten = (L.take i).flatten ++ (L.drop i).flatten := by rw [← List.flatten_append, List.take_append_drop]
 rw [e, List.length_append]; omega
theorem zji (L : List (List Int)) (h : L.flatten.length ≤ 1000000000000) : zbh L = some L.flatten := by
 unfold zbh
 refine zaD (zac (ψ := fun n => n = (L.flatten.length : Int)) (zat (fun i s => s = ((L.take i).flatten.length : Int)) rfl ?_ ?_) ?_)
 ·rintro i s hi rfl
  have e := congrArg List.length (zht hi)
  rw [List.length_append] at e
  have hl := zmR L (i + 1)
  refine zaz hi ?_
  rw [zaq (by omega) (by omega)]
  refine zcU (by simp only [decide_eq_false_iff_not]; omega) (zab ?_)
  show _ = _
  omega
 ·rintro s rfl
  rw [List.take_length]
 rintro n rfl
 refine zav (by omega) (zac (ψ := fun r => r = L.flatten) (zat (fun i s => s = (L.take i).flatten) rfl ?_ ?_) fun r hr => zab hr)
 ·rintro i s hi rfl
  have e := congrArg List.length (zht hi)
  rw [List.length_append] at e
  have hl := zmR L (i + 1)
  refine zaz hi (zav (by omega) (zab ?_))
  show _ = _
  rw [zht hi]
 rintro s rfl
 rw [List.take_length]
def chG (gr : Group) (s : ByteArray) (l : List Int) : Int := zr9 s ([gr.P, gr.Q, gr.G] ++ l) % gr.Q
theorem zqu {gr : Group} (k : OkG gr) (s : ByteArray) (l : List Int) : 0 ≤ chG gr s l ∧ chG gr s l < gr.Q := by
 have := k.q
 exact ⟨Int.emod_nonneg _ (by omega), Int.emod_lt_of_pos _ (by omega)⟩
theorem zr4 {gr : Group} (k : OkG gr) {l : List Int} : ([gr.P, gr.Q, gr.G] ++ l).all zb6 = l.all zb6 := by
 have hp := k.p
 have hq := k.q
 have hg := k.g
 rw [List.all_append]
 have : [gr.P, gr.Q, gr.G].all zb6 = true := by
  simp only [List.all_cons, List.all_nil, Bool.and_true, Bool.and_eq_true]
  exact ⟨zeM.2 (by omega), zeM.2 (by omega), zeM.2 (by omega)⟩
 rw [this, Bool.true_and]
theorem zf8 {gr : Group} (k : OkG gr) {s : ByteArray} {l : List Int} (hs : s.size ≤ 1000000) (hl : l.length ≤ 10000000000) (hd : l.all zb6 = true) : zcD gr s l = some (chG gr s l) := by
 have hq := k.q
 have hb := zeM.1 (zpX s ([gr.P, gr.Q, gr.G] ++ l))
 unfold zcD
 rw [zeo (by simp only [List.length_cons, List.length_nil]; omega), zqT hs (by simp only [List.length_append, List.length_cons, List.length_nil]; omega) (by rw [zr4 k]; exact hd), Option.bind_some, zeo (by omega), Int.tmod_eq_emod_of_nonneg hb.1]
 rfl
theorem zt9 {gr : Group} (k : OkG gr) (s : ByteArray) {l : List Int} (hl : l.length ≤ 10000000000) : zbD gr s l = some (if zi3 s ([gr.P, gr.Q, gr.G] ++ l) = true then (chG gr s l, true) else (0, false)) := by
 have hq := k.q
 have hb := zeM.1 (zpX s ([gr.P, gr.Q, gr.G] ++ l))
 unfold zbD
 rw [zeo (by simp only [List.length_cons, List.length_nil]; omega), zn4, Option.bind_some]
 cases zi3 s ([gr.P, gr.Q, gr.G] ++ l) with
 | false => rfl
 | true =>
  simp only [if_true, Bool.not_true, Bool.false_eq_true, if_false]
  rw [zeo (by omega), Int.tmod_eq_emod_of_nonneg hb.1]
  rfl
theorem zwc {gr : Group} (k : OkG gr) {s : ByteArray} {l : List Int} (hs : s.size ≤ 40) (hl : 4 + s.size + l.length ≤ 400) (hd : l.all zb6 = true) : zi3 s ([gr.P, gr.Q, gr.G] ++ l) = true := by
 unfold zi3
 rw [zr4 k, hd, Bool.and_true, Bool.and_eq_true, decide_eq_true_eq, decide_eq_true_eq]
 simp only [List.length_append, List.length_cons, List.length_nil]
 omega
theorem zjR {gr : Group} (k : OkG gr) {l : List Int} (h : l.all (zah gr) = true) : l.all zb6 = true := by
 have hp := k.p
 rw [List.all_eq_true] at h ⊢
 intro x hx
 have := ze1 (h x hx)
 exact zeM.2 (by omega)
def zcs (gr : Group) : List Int → List Int → Int → Int
 | x :: l, e :: m, o => zcs gr l m (o * zaj gr x e % gr.P)
 | _, _, o => o
theorem zlp (gr : Group) : ∀ (l m : List Int) (x e o : Int), l.length = m.length → zcs gr (l ++ [x]) (m ++ [e]) o = zcs gr l m o * zaj gr x e % gr.P
 | [], [], x, e, o, _ => rfl
 | y :: l, f :: m, x, e, o, h => zlp gr l m x e _ (by simpa using h)
theorem zmA (gr : Group) : ∀ (l m : List Int) (o : Int), zcs gr l (m.take l.length) o = zcs gr l m o
 | [], m, o => by cases m <;> rfl
 | y :: l, [], o => rfl
 | y :: l, f :: m, o => zmA gr l m _
theorem zod {gr : Group} (h : 0 < gr.P) : ∀ (l m : List Int) (o : Int), 0 ≤ o ∧ o < gr.P → 0 ≤ zcs gr l m o ∧ zcs gr l m o < gr.P
 | x :: l, e :: m, o, _ => zod h l m _ ⟨Int.emod_nonneg _ (by omega), Int.emod_lt_of_pos _ h⟩
 | [], _, o, ho => ho
 | _ :: _, [], o, ho => ho
theorem zgY {gr : Group} (k : OkG gr) {x y : Int} (hx : 0 ≤ x ∧ x < gr.P) (hy : 0 ≤ y) : zbT gr [x, y] = x * y % gr.P := by
 have hp := k.p
 simp only [zbT, List.foldl_cons, List.foldl_nil, Int.one_mul]
 rw [Int.emod_eq_of_lt hx.1 hx.2]
theorem zg2 {gr : Group} (k : OkG gr) {l m : List Int} (hl : ∀ x ∈ l, 0 ≤ x ∧ x ≤ 2000000000) (hm : l.length ≤ m.length) : zcV gr l m = some (zcs gr l m 1) := by
 have hp := k.p
 unfold zcV
 refine zaD (zac (ψ := fun b => b = zcs gr l m 1) (zat (fun i s => s = zcs gr (l.take i) (m.take i) 1) rfl ?_ ?_) fun b hb => zab hb)
 ·rintro i s hi rfl
  have bd := zod (gr := gr) (by omega) (l.take i) (m.take i) 1 (by omega)
  have hx := hl l[i] (List.getElem_mem hi)
  have pb := zdR k l[i] (m[i]'(by omega))
  refine zaz hi (zaz (show i < m.length by omega) (zaf (zk8 k hx.1 hx.2 _) (zav (by omega) (zab ?_))))
  show _ = zcs gr (l.take (i + 1)) (m.take (i + 1)) 1
  rw [List.take_succ_eq_append_getElem hi, List.take_succ_eq_append_getElem (show i < m.length by omega), zlp _ _ _ _ _ _ (by simp; omega)]
  have b1 := Int.mul_nonneg bd.1 pb.1
  have b2 : zcs gr (l.take i) (m.take i) 1 * zaj gr l[i] (m[i]'(by omega)) ≤ 2000000000 * 2000000000 := Int.mul_le_mul (by omega) (by omega) pb.1 (by omega)
  rw [zaq (by omega) (by omega), Int.tmod_eq_emod_of_nonneg b1]
 rintro s rfl
 rw [List.take_length, zmA]
theorem zoE {gr : Group} (k : OkG gr) {l m : List Int} (hl : ∀ x ∈ l, 0 ≤ x ∧ x ≤ 2000000000) (hm : l.length ≤ m.length) : zcK gr l m = some (zcs gr l m 1) := by
 have hp := k.p
 unfold zcK
 refine zaD (zac (ψ := fun b => b = zcs gr l m 1) (zat (fun i s => s = zcs gr (l.take i) (m.take i) 1) rfl ?_ ?_) fun b hb => zab hb)
 ·rintro i s hi rfl
  have bd := zod (gr := gr) (by omega) (l.take i) (m.take i) 1 (by omega)
  have hx := hl l[i] (List.getElem_mem hi)
  have pb := zdR k l[i] (m[i]'(by omega))
  refine zaz hi (zaz (show i < m.length by omega) (zaf (zjb k hx.1 hx.2 _).1 (zaf (zkq k ?_) (zab ?_))))
  ·intro y hy
   simp only [List.mem_cons, List.not_mem_nil, or_false] at hy
   rcases hy with rfl | rfl <;> omega
  show _ = zcs gr (l.take (i + 1)) (m.take (i + 1)) 1
  rw [List.take_succ_eq_append_getElem hi, List.take_succ_eq_append_getElem (show i < m.length by omega), zlp _ _ _ _ _ _ (by simp; omega), zgY k bd pb.1]
 rintro s rfl
 rw [List.take_length, zmA]
structure LinS (gr : Group) (bs : List (List Int)) : Prop where
 n : 1 ≤ bs.length ∧ bs.length ≤ 8
 m : 1 ≤ (bs.headD []).length ∧ (bs.headD []).length ≤ 8
 r : ∀ r ∈ bs, r.length = (bs.headD []).length ∧ r.all (zah gr) = true
theorem zoW : ∀ {bs : List (List Int)} {c : Nat}, (∀ r ∈ bs, r.length ≤ c) → bs.flatten.length ≤ bs.length * c
 | [], _, _ => by simp
 | r :: bs, c, h => by
  have h1 := h r (List.mem_cons_self ..)
  have h2 := zoW fun x hx => h x (List.mem_cons_of_mem r hx)
  rw [List.flatten_cons, List.length_append, List.length_cons, Nat.add_mul]
  omega
theorem LinS.flat {gr : Group} {bs : List (List Int)} (h : LinS gr bs) : bs.flatten.length ≤ 64 := by
 have := zoW (bs := bs) (c := 8) fun r hr => by rw [(h.r r hr).1]; exact h.m.2
 have := h.n
 omega
theorem LinS.dig {gr : Group} (k : OkG gr) {bs : List (List Int)} (h : LinS gr bs) : bs.flatten.all zb6 = true := by
 rw [List.all_eq_true]
 intro x hx
 obtain ⟨r, hr, hx⟩ := List.mem_flatten.1 hx
 exact List.all_eq_true.1 (zjR k (h.r r hr).2) x hx
theorem LinS.hd {gr : Group} {bs : List (List Int)} (h : LinS gr bs) : ix bs 0 = some (bs.headD []) := by
 cases bs with
 | nil => have := h.n; simp at this
 | cons r l => rfl
theorem zhc {gr : Group} (k : OkG gr) {l : List Int} (h : l.all (zah gr) = true) : ∀ x ∈ l, 0 ≤ x ∧ x ≤ 2000000000 := fun x hx => by
 have hp := k.p
 have := ze1 (List.all_eq_true.1 h x hx)
 omega
theorem zlr {bs : List (List Int)} {im cs : List Int} (h1 : bs.flatten.length ≤ 1000000) (h2 : im.length ≤ 1048576) (h3 : cs.length ≤ 1048576) : zdp bs im cs = some (bs.flatten ++ im ++ cs) := by
 unfold zdp
 refine zaD (zac (ψ := fun r => r = bs.flatten) (zat (fun i s => s = (bs.take i).flatten) rfl ?_ ?_) ?_)
 ·rintro i s hi rfl
  have e := congrArg List.length (zht hi)
  rw [List.length_append] at e
  have hl := zmR bs (i + 1)
  refine zaz hi (zav (by omega) (zab ?_))
  show _ = _
  rw [zht hi]
 ·rintro s rfl
  rw [List.take_length]
 rintro r rfl
 exact zav (by omega) (zav (by rw [List.length_append]; omega) (zab rfl))
theorem zqi {gr : Group} (k : OkG gr) {bs : List (List Int)} {es : List Int} (hb : LinS gr bs) (he : es.length = (bs.headD []).length) : zbI gr bs es = some (bs.map fun r => zcs gr r es 1) := by
 unfold zbI
 have hn := hb.n
 rw [zqb (f := fun r => zcs gr r es 1) []]
 ·rfl
 intro i hi s hs
 have hr := hb.r _ (List.getElem_mem hi)
 rw [zea hi, Option.bind_some, zoE k (zhc k hr.2) (by omega), Option.bind_some, zeo (by simp at hs; omega)]
def ziK (gr : Group) (s : ByteArray) (bs : List (List Int)) (im : List Int) (p : Proof) : Bool :=
 !(((p.Commits.length : Int) != (bs.length : Int)) || (((p.Challenges.length : Int) != 1) || (((p.Responses.length : Int) != ((bs.headD []).length : Int)) || (!p.Commits.all (zah gr) || !p.Responses.all (zcQ gr))))) &&
 (!(p.Challenges.headD 0 != chG gr s (bs.flatten ++ im ++ p.Commits)) &&
 (List.range bs.length).all fun i => !(zcs gr (bs.getD i []) p.Responses 1 != zbT gr [p.Commits.getD i 0, zaj gr (im.getD i 0) (p.Challenges.headD 0)]))
theorem zoV {gr : Group} (k : OkG gr) {s : ByteArray} (hs : s.size ≤ 40) {bs : List (List Int)} {im : List Int} {p : Proof} (hb : LinS gr bs) (hi : im.length = bs.length) (hd : im.all (zah gr) = true) (hc : p.Commits.length ≤ 1048576) :
 zdK gr s bs im p = some (ziK gr s bs im p) := by
 have hp := k.p
 have hq := k.q
 unfold zdK ziK
 simp only [hb.hd, zlV k, zjS (gr := gr) (by omega) (by omega), Option.bind_some, zt6]
 cases hg : (((p.Commits.length : Int) != (bs.length : Int)) || (((p.Challenges.length : Int) != 1) || (((p.Responses.length : Int) != ((bs.headD []).length : Int)) || (!p.Commits.all (zah gr) || !p.Responses.all (zcQ gr))))) with
 | true => rfl
 | false =>
  simp only [Bool.or_eq_false_iff, bne_eq_false_iff_eq, Bool.not_eq_false'] at hg
  obtain ⟨g1, g2, g3, g4, g5⟩ := hg
  have hf := hb.flat
  have hn := hb.n
  obtain ⟨c, hce⟩ : ∃ c, p.Challenges = [c] := by
   match h : p.Challenges, g2 with
   | [c], _ => exact ⟨c, rfl⟩
  have hdig : (bs.flatten ++ im ++ p.Commits).all zb6 = true := by
   rw [List.all_append, List.all_append, hb.dig k, zjR k hd, zjR k g4]; rfl
  simp only [Bool.false_eq_true, if_false, hce, show ix [c] 0 = some c from rfl, Option.bind_some, zlr (bs := bs) (im := im) (cs := p.Commits) (by omega) (by omega) hc]
  rw [zf8 k (by omega) (by simp only [List.length_append]; omega) hdig, Option.bind_some]
  show _ = some (!false && (!(c != _) && _))
  by_cases hcc : c = chG gr s (bs.flatten ++ im ++ p.Commits)
  ·have e1 : (c != chG gr s (bs.flatten ++ im ++ p.Commits)) = false := by simpa using hcc
   rw [e1]
   simp only [Bool.false_eq_true, if_false, Bool.not_false, Bool.true_and]
   rw [zuf (fun i => !(zcs gr (bs.getD i []) p.Responses 1 != zbT gr [p.Commits.getD i 0, zaj gr (im.getD i 0) c])) false true]
   ·simp only [Bool.if_true_left, Bool.if_false_right, Bool.and_true, Bool.decide_eq_true, Bool.or_false]
    rfl
   ·intro i hi
    have hr := hb.r _ (List.getElem_mem hi)
    have h1 : i < p.Commits.length := by omega
    have h2 : i < im.length := by omega
    have ic := zhc k g4 _ (List.getElem_mem h1)
    have ii := zhc k hd _ (List.getElem_mem h2)
    have pb := zdR k im[i] c
    rw [zea hi, Option.bind_some, zea h1, Option.bind_some, zea h2, Option.bind_some, zg2 k (zhc k hr.2) (by omega), Option.bind_some, zk8 k ii.1 ii.2, Option.bind_some, zlB k ?_, Option.bind_some]
    ·simp only [List.getD_eq_getElem?_getD, List.getElem?_eq_getElem hi, List.getElem?_eq_getElem h1, List.getElem?_eq_getElem h2, Option.getD_some]
     exact zpd _ _ _
    ·intro y hy
     simp only [List.mem_cons, List.not_mem_nil, or_false] at hy
     rcases hy with rfl | rfl <;> omega
  ·have e1 : (c != chG gr s (bs.flatten ++ im ++ p.Commits)) = true := by simpa using hcc
   rw [e1]; rfl
theorem zoA {gr : Group} (k : OkG gr) {s : ByteArray} (hs : s.size ≤ 40) {bs : List (List Int)} {im : List Int} {p : Proof} (hb : LinS gr bs) (hi : im.length = bs.length) (hd : im.all (zah gr) = true) (hc : p.Commits.length ≤ 1048576) :
 zbG gr s bs im p = some (ziK gr s bs im p) := by
 have hp := k.p
 have hq := k.q
 unfold zbG ziK
 simp only [hb.hd, zhN k, zoS (gr := gr) (by omega) (by omega), Option.bind_some, zt6]
 cases hg : (((p.Commits.length : Int) != (bs.length : Int)) || (((p.Challenges.length : Int) != 1) || (((p.Responses.length : Int) != ((bs.headD []).length : Int)) || (!p.Commits.all (zah gr) || !p.Responses.all (zcQ gr))))) with
 | true => rfl
 | false =>
  simp only [Bool.or_eq_false_iff, bne_eq_false_iff_eq, Bool.not_eq_false'] at hg
  obtain ⟨g1, g2, g3, g4, g5⟩ := hg
  have hf := hb.flat
  have hn := hb.n
  obtain ⟨c, hce⟩ : ∃ c, p.Challenges = [c] := by
   match h : p.Challenges, g2 with
   | [c], _ => exact ⟨c, rfl⟩
  have hdig : (bs.flatten ++ im ++ p.Commits).all zb6 = true := by
   rw [List.all_append, List.all_append, hb.dig k, zjR k hd, zjR k g4]; rfl
  have hfl : [bs.flatten, im, p.Commits].flatten = bs.flatten ++ im ++ p.Commits := by simp
  have hl : (bs.flatten ++ im ++ p.Commits).length ≤ 80 := by simp only [List.length_append]; omega
  simp only [Bool.false_eq_true, if_false, hce, show ix [c] 0 = some c from rfl, Option.bind_some, zji bs (by omega), zji [bs.flatten, im, p.Commits] (by rw [hfl]; omega), hfl]
  rw [zt9 k s (by omega), if_pos (zwc k hs (by omega) hdig), Option.bind_some]
  simp only [Bool.not_true, Bool.false_eq_true, if_false, Option.bind_some]
  show _ = some (!false && (!(c != _) && _))
  by_cases hcc : c = chG gr s (bs.flatten ++ im ++ p.Commits)
  ·have e1 : (c != chG gr s (bs.flatten ++ im ++ p.Commits)) = false := by simpa using hcc
   rw [e1, ← hcc]
   simp only [Bool.false_eq_true, if_false, Bool.not_false, Bool.true_and]
   rw [zqi k hb (by omega), Option.bind_some, zuf (fun i => !(zcs gr (bs.getD i []) p.Responses 1 != zbT gr [p.Commits.getD i 0, zaj gr (im.getD i 0) c])) false true]
   ·simp only [Bool.if_true_left, Bool.if_false_right, Bool.and_true, Bool.decide_eq_true, Bool.or_false, List.length_map]
    rfl
   ·intro i hi
    have hi' : i < bs.length := by simpa using hi
    have h1 : i < p.Commits.length := by omega
    have h2 : i < im.length := by omega
    have ic := zhc k g4 _ (List.getElem_mem h1)
    have ii := zhc k hd _ (List.getElem_mem h2)
    have pb := zdR k im[i] c
    rw [zea hi, Option.bind_some, zea h1, Option.bind_some, zea h2, Option.bind_some, (zjb k ii.1 ii.2 _).1, Option.bind_some, zkq k ?_, Option.bind_some]
    ·simp only [List.getElem_map, List.getD_eq_getElem?_getD, List.getElem?_eq_getElem hi', List.getElem?_eq_getElem h1, List.getElem?_eq_getElem h2, Option.getD_some]
     exact zpd _ _ _
    ·intro y hy
     simp only [List.mem_cons, List.not_mem_nil, or_false] at hy
     rcases hy with rfl | rfl <;> omega
  ·have e1 : (c != chG gr s (bs.flatten ++ im ++ p.Commits)) = true := by simpa using hcc
   rw [e1]; rfl
theorem zeV {gr : Group} (k : OkG gr) : zah gr gr.G = true := by
 have hg := k.g
 simp only [zah, Bool.and_eq_true, decide_eq_true_eq]
 exact ⟨by omega, k.o⟩
theorem zBW {α : Type} {l : List α} {i : Int} (h0 : 0 ≤ i) (h : i < l.length) : ix l i = some (l[i.toNat]'(by omega)) := by
 obtain ⟨k, rfl⟩ := Int.eq_ofNat_of_zero_le h0
 exact zea (by omega)
theorem zxY {gr : Group} (k : OkG gr) {a : Int} (ha : 0 ≤ a) : zaj gr gr.G a = ((gr.G.toNat ^ a.toNat % gr.P.toNat : Nat) : Int) := by
 have hq := k.q
 obtain ⟨n, rfl⟩ := Int.eq_ofNat_of_zero_le ha
 obtain ⟨q, hQ⟩ := Int.eq_ofNat_of_zero_le (show 0 ≤ gr.Q by omega)
 unfold zaj
 have ho := k.o
 rw [hQ] at ho ⊢
 rw [Int.toNat_natCast] at ho
 rw [← Int.natCast_emod, Int.toNat_natCast, Int.toNat_natCast, zhH ho]
def atS (gr : Group) (x : Int) (s : Int × Int) (y : Int) : Int × Int := (zbT gr [s.1, zaj gr y s.2], s.2 * x % gr.Q)
theorem zwy {gr : Group} {x : Int} {l : List Int} (k : OkG gr) (hx : 0 ≤ x) (hx2 : x ≤ 1000) (hl : ∀ y ∈ l, 0 ≤ y ∧ y ≤ 2000000000) : zfD gr l x = some (l.foldl (atS gr x) (1, 1)).1 := by
 have hp := k.p
 have hq := k.q
 unfold zfD
 refine zaD (zon (zat (fun i s => s = (l.take i).foldl (atS gr x) (1, 1) ∧ (0 ≤ s.1 ∧ s.1 ≤ 2000000000) ∧ 0 ≤ s.2 ∧ s.2 ≤ 2000000000) ⟨rfl, by omega, by omega⟩ ?_ ?_))
 ·rintro i s hi ⟨hs, h1, h2⟩
  have hy := hl _ (List.getElem_mem hi)
  have hw := zdR k l[i] s.2
  have hb : ∀ z ∈ [s.1, zaj gr l[i] s.2], 0 ≤ z ∧ z ≤ 2000000000 := by
   intro z hz
   rcases List.mem_cons.1 hz with rfl | hz
   ·exact h1
   ·rw [List.mem_singleton.1 hz]; omega
  have b1 : 0 ≤ s.2 * x := Int.mul_nonneg h2.1 hx
  have b2 : s.2 * x ≤ 2000000000 * 1000 := Int.mul_le_mul h2.2 hx2 hx (by omega)
  have b3 : 0 ≤ s.2 * x % gr.Q := Int.emod_nonneg _ (by omega)
  have b4 : s.2 * x % gr.Q < gr.Q := Int.emod_lt_of_pos _ (by omega)
  have hm := zlH k hb
  rw [zea hi, Option.bind_some, zk8 k hy.1 hy.2, Option.bind_some, zlB k hb, Option.bind_some, zeo (by omega), zaq (by omega) (by omega), Int.tmod_eq_emod_of_nonneg b1]
  refine ⟨_, rfl, ?_, ⟨hm.1, by show zbT gr _ ≤ _; omega⟩, b3, by show s.2 * x % gr.Q ≤ _; omega⟩
  rw [List.take_succ_eq_append_getElem hi, List.foldl_append, ← hs]; rfl
 rintro s ⟨hs, _⟩
 rw [List.take_length] at hs
 subst hs
 exact ⟨_, rfl, rfl⟩
theorem zov {gr : Group} {a b : Int} (x : Int) (h : a % gr.Q = b % gr.Q) : zaj gr x a = zaj gr x b := by
 unfold zaj; rw [h]
theorem zxf {gr : Group} (k : OkG gr) {c : Int} (hc : 0 ≤ c) : zah gr (zaj gr gr.G c) = true := by
 have hb := zdR k gr.G c
 have hp := k.p
 have hq := k.q
 have h3 : (zaj gr gr.G c).toNat ^ gr.Q.toNat % gr.P.toNat = 1 := by
  rw [zxY k hc, Int.toNat_natCast, ← Nat.pow_mod, ← Nat.pow_mul, Nat.mul_comm, Nat.pow_mul, Nat.pow_mod, k.o, Nat.one_pow, Nat.mod_eq_of_lt (by omega)]
 have h1 : 1 ≤ zaj gr gr.G c := by
  by_cases h0 : zaj gr gr.G c = 0
  ·rw [h0, show (0 : Int).toNat = 0 from rfl, Nat.zero_pow (by omega), Nat.zero_mod] at h3
   omega
  ·omega
 simp only [zah, Bool.and_eq_true, decide_eq_true_eq]
 exact ⟨⟨h1, hb.2⟩, h3⟩
theorem zjQ {gr : Group} (k : OkG gr) (x e : Int) : zcs gr [x] [e] 1 = zaj gr x e := by
 have hb := zdR k x e
 show 1 * zaj gr x e % gr.P = _
 rw [Int.one_mul, Int.emod_eq_of_lt hb.1 (by omega)]
structure Gb (gr : Group) : Prop where
 p : 1 ≤ gr.P ∧ gr.P ≤ 2000000000
 q : 1 ≤ gr.Q ∧ gr.Q ≤ 2000000000
 g : 0 ≤ gr.G ∧ gr.G ≤ 2000000000
theorem Gb.w {gr : Group} (k : Gb gr) : Gw gr := by
 have a := k.p
 have b := k.q
 have c := k.g
 exact ⟨by omega, by omega, by omega⟩
theorem zws {a b : Int} (ha : 0 ≤ a ∧ a ≤ 2000000000) (hb : 0 ≤ b ∧ b ≤ 2000000000) : ∀ x ∈ [a, b], 0 ≤ x ∧ x ≤ 2000000000 := by
 intro x hx
 rcases List.mem_cons.1 hx with rfl | hx
 ·exact ha
 rw [List.mem_singleton.1 hx]; exact hb
theorem zwq {gr : Group} (k : OkG gr) {a b : Int} (ha : 0 ≤ a ∧ a ≤ 2000000000) (hb : 0 ≤ b ∧ b ≤ 2000000000) : zbs gr [a, b] = some (zbT gr [a, b]) ∧ 0 ≤ zbT gr [a, b] ∧ zbT gr [a, b] ≤ 2000000000 := by
 have := zlH k (zws ha hb)
 have := k.p
 exact ⟨zlB k (zws ha hb), by omega, by omega⟩
theorem zyb {gr : Group} (k : OkG gr) {l : List Cipher} (hl : ∀ c ∈ l, (0 ≤ c.A ∧ c.A ≤ 2000000000) ∧ (0 ≤ c.B ∧ c.B ≤ 2000000000)) : Rn (zcT gr l) (fun c => (0 ≤ c.A ∧ c.A ≤ 2000000000) ∧ (0 ≤ c.B ∧ c.B ≤ 2000000000)) := by
 unfold zcT
 refine zac (ψ := fun v => (0 ≤ v.1 ∧ v.1 ≤ 2000000000) ∧ (0 ≤ v.2 ∧ v.2 ≤ 2000000000)) (zat (fun _ s => (0 ≤ s.1 ∧ s.1 ≤ 2000000000) ∧ (0 ≤ s.2 ∧ s.2 ≤ 2000000000)) (by simp) ?_ fun _ h => h) fun v hv => zab hv
 rintro i s hi ⟨h1, h2⟩
 obtain ⟨c1, c2⟩ := hl _ (List.getElem_mem hi)
 have m1 := zwq k h1 c1
 have m2 := zwq k h2 c2
 exact zaz hi (zaf m1.1 (zaf m2.1 (zab ⟨m1.2, m2.2⟩)))
theorem zse {gr : Group} {x : Int} {l : List Int} (k : OkG gr) (hx : 0 ≤ x) (hx2 : x ≤ 1000) (hl : ∀ y ∈ l, 0 ≤ y ∧ y ≤ 2000000000) : zca gr l x = some (l.foldl (atS gr x) (1, 1)).1 := by
 have hp := k.p
 have hq := k.q
 unfold zca
 refine zaD (zac (ψ := fun r => r = (l.foldl (atS gr x) (1, 1)).1) (zat (fun i s => s = (l.take i).foldl (atS gr x) (1, 1) ∧ (0 ≤ s.1 ∧ s.1 ≤ 2000000000) ∧ 0 ≤ s.2 ∧ s.2 ≤ 2000000000) ⟨rfl, by omega, by omega⟩ ?_ ?_) fun r hr => zab hr)
 ·rintro i s hi ⟨hs, h1, h2⟩
  have hy := hl _ (List.getElem_mem hi)
  have hw := zdR k l[i] s.2
  have hb : ∀ z ∈ [s.1, zaj gr l[i] s.2], 0 ≤ z ∧ z ≤ 2000000000 := by
   intro z hz
   rcases List.mem_cons.1 hz with rfl | hz
   ·exact h1
   ·rw [List.mem_singleton.1 hz]; omega
  have b1 : 0 ≤ s.2 * x := Int.mul_nonneg h2.1 hx
  have b2 : s.2 * x ≤ 2000000000 * 1000 := Int.mul_le_mul h2.2 hx2 hx (by omega)
  have b3 : 0 ≤ s.2 * x % gr.Q := Int.emod_nonneg _ (by omega)
  have b4 : s.2 * x % gr.Q < gr.Q := Int.emod_lt_of_pos _ (by omega)
  have hm := zlH k hb
  unfold zc2
  rw [zea hi, Option.bind_some, (zjb k hy.1 hy.2 _).1, Option.bind_some, zkq k hb, Option.bind_some, zaq (by omega) (by omega), znA (by omega) (by omega), Option.bind_some, Option.bind_some]
  refine ⟨_, rfl, ?_, ⟨hm.1, by show zbT gr _ ≤ _; omega⟩, b3, by show s.2 * x % gr.Q ≤ _; omega⟩
  rw [List.take_succ_eq_append_getElem hi, List.foldl_append, ← hs]; rfl
 rintro s ⟨hs, _⟩
 rw [List.take_length] at hs
 rw [hs]
def zsw (gr : Group) (l : List Int) (x v : Int) : Bool := zaj gr gr.G v == (l.foldl (atS gr x) (1, 1)).1
theorem zny {gr : Group} {x v : Int} {l : List Int} (k : OkG gr) (hx : 0 ≤ x) (hx2 : x ≤ 1000) (hl : ∀ y ∈ l, 0 ≤ y ∧ y ≤ 2000000000) : zfn gr l x v = some (zsw gr l x v) := by
 have hp := k.p
 have hg := k.g
 unfold zfn
 rw [zk8 k (by omega) (by omega), Option.bind_some, zwy k hx hx2 hl]
 rfl
def zqj (gr : Group) (d : Dealing) (i : Nat) : Bool := !zsw gr d.Commits ((i : Int) + 1) (d.Shares.getD i 0)
def zfA (gr : Group) (d : Dealing) (n : Nat) : List Int := ((List.range n).filter (zqj gr d)).map fun i : Nat => (i : Int) + 1
theorem zuW (gr : Group) (d : Dealing) (n : Nat) : zfA gr d (n + 1) = zfA gr d n ++ (if zqj gr d n = true then [(n : Int) + 1] else []) := by
 unfold zfA
 rw [List.range_succ, List.filter_append, List.map_append]
 congr 1
 by_cases h : zqj gr d n = true
 ·rw [if_pos h]; simp [h]
 rw [if_neg h]; simp [h]
theorem zqy (gr : Group) (d : Dealing) (n : Nat) : (zfA gr d n).length ≤ n := by
 unfold zfA
 rw [List.length_map]
 exact Nat.le_trans (List.length_filter_le _ _) (by simp)
theorem znY {gr : Group} {d : Dealing} {n : Nat} : ∀ x ∈ zfA gr d n, 1 ≤ x ∧ x ≤ n := by
 intro x hx
 unfold zfA at hx
 obtain ⟨i, hi, rfl⟩ := List.mem_map.1 hx
 have := List.mem_range.1 (List.mem_filter.1 hi).1
 omega
theorem zxg {gr : Group} {d : Dealing} (hd : d.Shares.length ≤ 900) (E : Int → Int → Option Bool) (hE : ∀ x v, 0 ≤ x → x ≤ 1000 → E x v = some (zsw gr d.Commits x v)) : Rn (zap (fun i5 s4 =>
 (((ix d.Shares i5).bind fun x14 => (E (IntKind.i64.wrap (i5 + 1)) x14).bind fun z15 =>
   if (!z15) = true then (gd ((s4.length + 1) * 8 ≤ 140737488355328 ∧ s4.length + 1 ≤ 4611686018427387904) <| some (s4 ++ [IntKind.i64.wrap (i5 + 1)])) else (some s4) : Option (List Int))).bind fun x13 => some (.go x13)) (fun s4 => s4) d.Shares.length 0 []) (· = zfA gr d d.Shares.length) := by
 refine zat (fun i s => s = zfA gr d i) rfl ?_ fun s h => h
 rintro i s hi hs
 have hbl := zqy gr d i
 refine zac (ψ := fun r => r = zfA gr d (i + 1)) ?_ fun r hr => zab hr
 rw [zaq (by omega) (by omega)]
 refine zaz hi (zaf (hE _ _ (by omega) (by omega)) ?_)
 have e : zqj gr d i = !zsw gr d.Commits ((i : Int) + 1) d.Shares[i] := by unfold zqj; rw [List.getD_eq_getElem?_getD, List.getElem?_eq_getElem hi]; rfl
 rw [zuW, e, ← hs]
 refine zal (fun h => zav (by rw [hs]; omega) (zab ?_)) fun h => zab ?_
 ·rw [if_pos h]
 rw [if_neg (by rw [h]; decide), List.append_nil]
theorem zur {gr : Group} {d : Dealing} (k : OkG gr) (hd : d.Shares.length ≤ 900) (hl : ∀ y ∈ d.Commits, 0 ≤ y ∧ y ≤ 2000000000) : zfP gr d = some (zfA gr d d.Shares.length) := by
 unfold zfP
 exact zaD (zac (zxg hd _ fun x v h1 h2 => zny k h1 h2 hl) fun r hr => zab hr)
def dlV (gr : Group) (f : List Int) (n : Nat) : Dealing := ⟨f.map (zaj gr gr.G), (zh7 n).map (zbz gr.Q f)⟩
theorem zxq {gr : Group} (k : OkG gr) {f : List Int} (hf : ∀ x ∈ f, 0 ≤ x ∧ x ≤ 2000000000) (hl : f.length ≤ 1000) {n : Nat} (hn : n ≤ 1000) : ∀ (E W : Int → Option Int), (∀ x, E x = some (zaj gr gr.G x)) → (∀ x, 0 ≤ x → x ≤ 1000 → W x = some (zbz gr.Q f x)) → Rn (((zap (σ := (List Int) × List Int) (fun i14 s13 => (ix f i14).bind fun x20 => (E x20).bind fun z21 =>
 gd ((s13.1.length + 1) * 8 ≤ 140737488355328 ∧ s13.1.length + 1 ≤ 4611686018427387904) <| some (.go (s13.1 ++ [z21], s13.2))) (fun s13 => (s13.1, s13.2)) (f.length) 0 ([], []) : Option ((List Int × List Int))).bind fun x3 =>
 ((zbO (σ := (List Int) × List Int × Int) (fun s36 => if decide (s36.2.2 ≤ (n : Int)) = true then ((W s36.2.2).bind fun z42 =>
 gd ((s36.2.1.length + 1) * 8 ≤ 140737488355328 ∧ s36.2.1.length + 1 ≤ 4611686018427387904) <| some (.go (s36.1, s36.2.1 ++ [z42], IntKind.i64.wrap (s36.2.2 + 1)))) else (some (.out (s36.1, s36.2.1)))) (x3.1, x3.2, 1) : Option ((List Int × List Int))).bind fun x28 => some (Dealing.mk x28.1 x28.2)))) (· = dlV gr f n) := by
 have hp := k.p
 have hq := k.q
 have hg := k.g
 intro E W hE hW
 refine zac (ψ := fun r => r = (f.map (zaj gr gr.G), [])) (zat (fun j s => s = ((f.take j).map (zaj gr gr.G), [])) rfl ?_ ?_) fun r hr => ?_
 ·rintro j s hj rfl
  refine zaz hj (zaf (hE _) (zav (by simp; omega) (zab ?_)))
  show (_, _) = (_, _)
  rw [List.take_succ_eq_append_getElem hj, List.map_append]; rfl
 ·rintro s rfl
  rw [List.take_length]
 subst hr
 refine zac (ψ := fun x => x = (f.map (zaj gr gr.G), (zh7 n).map (zbz gr.Q f))) (zgT n (fun j s => s = (f.map (zaj gr gr.G), (zh7 j).map (zbz gr.Q f), (j : Int) + 1)) rfl ?_ ?_) fun x hx => zab (by rw [hx]; rfl)
 ·rintro j s hj rfl
  refine zfV (by simp; omega) (zaf (hW _ (by show 0 ≤ (j : Int) + 1; omega) (by show (j : Int) + 1 ≤ 1000; omega)) (zav (by simp [zh7]; omega) (zab ?_)))
  show (_, _, _) = (_, _, _)
  rw [zaq (by show -9223372036854775808 ≤ (j : Int) + 1 + 1; omega) (by show (j : Int) + 1 + 1 ≤ _; omega), zuM, List.map_append]
  simp
 rintro s rfl
 exact zcU (by simp; omega) (zab rfl)
theorem zw5 {gr : Group} (k : OkG gr) {f : List Int} (hf : ∀ x ∈ f, 0 ≤ x ∧ x ≤ 2000000000) (hl : f.length ≤ 1000) {n : Nat} (hn : n ≤ 1000) : zf6 gr f (n : Int) = some (dlV gr f n) := by
 have hp := k.p
 have hq := k.q
 have hg := k.g
 unfold zf6
 exact zaD (zxq k hf hl hn _ _ (fun x => zk8 k (by omega) (by omega) x) fun x h1 h2 => znN (by omega) (by omega) h1 (by omega) hf (by omega))
structure PlOk (gr : Group) (cs : List (List Int)) (fs : List Fault) : Prop where
 k : OkG gr
 q : 7 < gr.Q
 n : 1 ≤ cs.length ∧ cs.length ≤ 7
 t : 1 ≤ (cs.headD []).length ∧ (cs.headD []).length ≤ cs.length
 fl : fs.length ≤ 20
 c : ∀ f ∈ cs, f.length = (cs.headD []).length ∧ f.all (zcQ gr) = true
 f : ∀ x ∈ fs, (1 ≤ x.Dealer ∧ x.Dealer ≤ cs.length) ∧ (1 ≤ x.Trustee ∧ x.Trustee ≤ cs.length) ∧ zcQ gr x.Delta = true
open Classical in
noncomputable def plB (gr : Group) (cs : List (List Int)) (fs : List Fault) : Bool := decide (PlOk gr cs fs)
theorem zwA {gr : Group} {cs : List (List Int)} {fs : List Fault} : plB gr cs fs = true ↔ PlOk gr cs fs := by
 unfold plB; simp
def upF (gr : Group) (sh : List Int) (f : Fault) : List Int := sh.set (f.Trustee - 1).toNat ((sh.getD (f.Trustee - 1).toNat 0 + f.Delta) % gr.Q)
def zfS (gr : Group) (fs : List Fault) (i : Nat) (sh : List Int) : List Int := fs.foldl (fun s f => if f.Dealer = (i : Int) + 1 then upF gr s f else s) sh
def zfC (fs : List Fault) (i : Nat) : Bool := fs.all fun f => !decide (f.Dealer = (i : Int) + 1) || f.Answers
def plD (gr : Group) (cs : List (List Int)) (fs : List Fault) (i : Nat) : Dealing := ⟨(cs.getD i []).map (zaj gr gr.G), zfS gr fs i ((zh7 cs.length).map (zbz gr.Q (cs.getD i [])))⟩
def plA (gr : Group) (cs : List (List Int)) (fs : List Fault) (i : Nat) : List Int := if zfC fs i = true then (zfA gr (plD gr cs fs i) cs.length).map (zbz gr.Q (cs.getD i [])) else []
noncomputable def plV (gr : Group) (cs : List (List Int)) (fs : List Fault) : List Dealing × List (List Int) × Bool := if plB gr cs fs = true then ((List.range cs.length).map (plD gr cs fs), (List.range cs.length).map (plA gr cs fs), true) else ([], [], false)
theorem zfN {gr : Group} {x : Int} : zcQ gr x = true ↔ 0 ≤ x ∧ x < gr.Q := by
 unfold zcQ
 simp only [Bool.and_eq_true, decide_eq_true_eq]
 omega
theorem zCa {gr : Group} (hq : 0 < gr.Q) {sh : List Int} (h : ∀ x ∈ sh, 0 ≤ x ∧ x < gr.Q) (f : Fault) : (upF gr sh f).length = sh.length ∧ ∀ x ∈ upF gr sh f, 0 ≤ x ∧ x < gr.Q := by
 refine ⟨by simp [upF], fun x hx => ?_⟩
 rcases List.mem_or_eq_of_mem_set hx with h1 | rfl
 ·exact h x h1
 exact ⟨Int.emod_nonneg _ (by omega), Int.emod_lt_of_pos _ hq⟩
theorem zrE {gr : Group} (hq : 0 < gr.Q) (i : Nat) : ∀ (fs : List Fault) {sh : List Int}, (∀ x ∈ sh, 0 ≤ x ∧ x < gr.Q) → (zfS gr fs i sh).length = sh.length ∧ ∀ x ∈ zfS gr fs i sh, 0 ≤ x ∧ x < gr.Q := by
 intro fs
 induction fs with
 | nil => intro sh h; exact ⟨rfl, h⟩
 | cons f fs ih =>
  intro sh h
  have e : zfS gr (f :: fs) i sh = zfS gr fs i (if f.Dealer = (i : Int) + 1 then upF gr sh f else sh) := rfl
  rw [e]
  split
  ·have := zCa hq h f
   have h2 := ih this.2
   exact ⟨h2.1.trans this.1, h2.2⟩
  ·exact ih h
theorem zoJ (gr : Group) (fs : List Fault) (f : Fault) (i : Nat) (sh : List Int) : zfS gr (fs ++ [f]) i sh = if f.Dealer = (i : Int) + 1 then upF gr (zfS gr fs i sh) f else zfS gr fs i sh := by
 unfold zfS; rw [List.foldl_append]; rfl
theorem zqm (fs : List Fault) (f : Fault) (i : Nat) : zfC (fs ++ [f]) i = (zfC fs i && (!decide (f.Dealer = (i : Int) + 1) || f.Answers)) := by
 unfold zfC; rw [List.all_append]; simp
theorem zpK {gr : Group} (hq : 0 < gr.Q) (f : List Int) (n : Nat) : ((zh7 n).map (zbz gr.Q f)).length = n ∧ ∀ x ∈ (zh7 n).map (zbz gr.Q f), 0 ≤ x ∧ x < gr.Q := by
 refine ⟨by simp [zh7], fun x hx => ?_⟩
 obtain ⟨y, _, rfl⟩ := List.mem_map.1 hx
 exact zkF hq f y
theorem ztN {gr : Group} {cs : List (List Int)} {fs : List Fault} (h : PlOk gr cs fs) {i : Nat} (hi : i < cs.length) :
 (plD gr cs fs i).Shares.length = cs.length ∧ (∀ x ∈ (plD gr cs fs i).Shares, 0 ≤ x ∧ x < gr.Q) ∧ (plD gr cs fs i).Commits.length = (cs.headD []).length ∧ ∀ x ∈ (plD gr cs fs i).Commits, zah gr x = true := by
 have hq := h.k.q
 have h1 := zpK (gr := gr) (by omega) (cs.getD i []) cs.length
 have h2 := zrE (gr := gr) (by omega) i fs h1.2
 have e : cs.getD i [] = cs[i] := by rw [List.getD_eq_getElem?_getD, List.getElem?_eq_getElem hi]; rfl
 have hc := h.c _ (List.getElem_mem hi)
 refine ⟨h2.1.trans h1.1, h2.2, by show ((cs.getD i []).map _).length = _; rw [List.length_map, e]; exact hc.1, fun x hx => ?_⟩
 obtain ⟨y, hy, rfl⟩ := List.mem_map.1 (show x ∈ (cs.getD i []).map _ from hx)
 rw [e] at hy
 exact zxf h.k (zfN.1 (List.all_eq_true.1 hc.2 y hy)).1
theorem zhT {gr : Group} (k : OkG gr) {l : List Int} (h : ∀ x ∈ l, zah gr x = true) : ∀ x ∈ l, 0 ≤ x ∧ x ≤ 2000000000 := zhc k (List.all_eq_true.2 h)
theorem zwt {α : Type} {l : List (List α)} (h : 1 ≤ l.length) : ix l 0 = some (l.headD []) := by
 cases l with
 | nil => simp at h
 | cons x l => rfl
theorem zyu {gr : Group} (k : OkG gr) (v : Int) : zc2 gr v = some (v % gr.Q) := by
 have hp := k.p
 have hq := k.q
 unfold zc2
 rw [znA (by omega) (by omega)]; rfl
theorem zph {gr : Group} {cs : List (List Int)} {fs : List Fault} (h : ¬ PlOk gr cs fs) : plV gr cs fs = ([], [], false) := by
 unfold plV
 rw [if_neg fun x => h (zwA.1 x)]
theorem zwl {gr : Group} {cs : List (List Int)} {fs : List Fault} (h : PlOk gr cs fs) : plV gr cs fs = ((List.range cs.length).map (plD gr cs fs), (List.range cs.length).map (plA gr cs fs), true) := by
 unfold plV
 rw [if_pos (zwA.2 h)]
theorem zix {α : Type} {l : List α} {d : α} {i : Nat} (h : i < l.length) : l.getD i d = l[i] := by
 rw [List.getD_eq_getElem?_getD, List.getElem?_eq_getElem h]; rfl
theorem zCd {gr : Group} (k : OkG gr) {f : List Int} (hf : ∀ x ∈ f, 0 ≤ x ∧ x ≤ 2000000000) (hl : f.length ≤ 1000) {l : List Int} (h : ∀ x ∈ l, 1 ≤ x ∧ x ≤ 1000) (hl2 : l.length ≤ 1000) (w : Bool) (E : Int → Option Int) (hE : ∀ x, 0 ≤ x → x ≤ 1000 → E x = some (zbz gr.Q f x)) :
 Rn (zap (fun i196 s195 => (((ix l i196).bind fun x205 => if w = true then ((E x205).bind fun z207 => gd ((s195.length + 1) * 8 ≤ 140737488355328 ∧ s195.length + 1 ≤ 4611686018427387904) <| some (s195 ++ [z207])) else (some s195) : Option (List Int))).bind fun x204 => some (.go x204)) (fun s195 => s195) l.length 0 []) (· = if w = true then l.map (zbz gr.Q f) else []) := by
 refine zat (fun i s => s = if w = true then (l.take i).map (zbz gr.Q f) else []) (by simp) ?_ ?_
 ·rintro i s hi rfl
  have hx := h _ (List.getElem_mem hi)
  refine zac (ψ := fun r => r = if w = true then (l.take (i + 1)).map (zbz gr.Q f) else []) (zaz hi ?_) fun r hr => zab hr
  refine zal (fun hw => zaf (hE _ (by omega) (by omega)) (zav ?_ (zab ?_))) fun hw => zab ?_
  ·rw [if_pos hw]; simp; omega
  ·rw [if_pos hw, if_pos hw, List.take_succ_eq_append_getElem hi, List.map_append]; rfl
  rw [hw]; simp
 rintro s rfl
 rw [List.take_length]
theorem zpN {gr : Group} (k : OkG gr) {l : List Int} (h : l.all (zcQ gr) = true) : ∀ x ∈ l, 0 ≤ x ∧ x ≤ 2000000000 := fun x hx => by
 have hp := k.p
 have hq := k.q
 have := zfN.1 (List.all_eq_true.1 h x hx)
 omega
theorem zkL {α : Type} {f g : Nat → α} {n d : Nat} (h : ∀ i, i < n → i ≠ d → g i = f i) : ((List.range n).map f).set d (g d) = (List.range n).map g := by
 apply List.ext_getElem (by simp)
 intro i h1 h2
 have hi : i < n := by simpa using h2
 rw [List.getElem_set]
 split
 ·rename_i e; subst e; simp
 rename_i e; simp [h i hi fun x => e x.symm]
theorem zwY (gr : Group) (cs : List (List Int)) (fs : List Fault) : zd6 gr cs fs = some (plV gr cs fs) := by
 unfold zd6
 refine zaD (zac (ψ := fun b => b = false ↔ (OkG gr ∧ 7 < gr.Q ∧ (1 ≤ cs.length ∧ cs.length ≤ 7) ∧ (1 ≤ (cs.headD []).length ∧ (cs.headD []).length ≤ cs.length) ∧ fs.length ≤ 20)) ?_ fun b hb => ?_)
 ·refine zaf (zgU gr) (zal (fun h => zab ⟨fun x => (by cases x), fun x => ?_⟩) fun h => ?_)
  ·rw [ze4.2 x.1, decide_eq_true x.2.1] at h; cases h
  have h : okG gr = true ∧ 7 < gr.Q := by simpa using h
  refine zaf (zpj _ _ _) (zal (fun h2 => zab ⟨fun x => (by cases x), fun x => ?_⟩) fun h2 => ?_)
  ·rw [zjj.2 (by omega)] at h2; cases h2
  have h2 := zjj.1 (show inB 1 7 (cs.length : Int) = true by simpa using h2)
  refine zaf (zwt (by omega)) (zaf (zpj _ _ _) (zal (fun h3 => zab ⟨fun x => (by cases x), fun x => ?_⟩) fun h3 => zab ?_))
  ·rw [zjj.2 (by omega)] at h3; cases h3
  have h3 := zjj.1 (show inB 1 (cs.length : Int) (cs.headD []).length = true by simpa using h3)
  rw [decide_eq_false_iff_not]
  exact ⟨fun x => ⟨ze4.1 h.1, h.2, by omega, by omega, by omega⟩, fun x => by omega⟩
 refine zal (fun h => zab ?_) fun h => ?_
 ·rw [zph fun P => by have := hb.2 ⟨P.k, P.q, P.n, P.t, P.fl⟩; rw [h] at this; cases this]
 obtain ⟨k, q7, hn, ht, hfl⟩ := hb.1 h
 have hp := k.p
 have hq := k.q
 let shs : Nat → List Int := fun i => (zh7 cs.length).map (zbz gr.Q (cs.getD i []))
 refine zac (ψ := fun r => (r = .inl ((List.range cs.length).map fun i => dlV gr (cs.getD i []) cs.length) ∧ ∀ f ∈ cs, f.length = (cs.headD []).length ∧ f.all (zcQ gr) = true) ∨ (r = .inr ([], [], false) ∧ ¬ PlOk gr cs fs))
  (zat (fun j s => s = ((List.range j).map fun i => dlV gr (cs.getD i []) cs.length) ∧ ∀ f ∈ cs.take j, f.length = (cs.headD []).length ∧ f.all (zcQ gr) = true) ⟨rfl, fun f hf => by simp at hf⟩ ?_ ?_) fun r hr => ?_
 ·rintro i s hi ⟨rfl, hs⟩
  refine zaz hi (zac (ψ := fun b => b = false ↔ (cs[i].length = (cs.headD []).length ∧ cs[i].all (zcQ gr) = true)) ?_ fun b hb => ?_)
  ·refine zaf (zwt (by omega)) (zal (fun h => zab ⟨fun x => (by cases x), fun x => ?_⟩) fun h => zaf (zjS (by omega) (by omega) _) (zab ?_))
   ·rw [x.1] at h; simp at h
   have h : cs[i].length = (cs.headD []).length := by
    have := bne_eq_false_iff_eq.1 h; omega
   rw [Bool.not_eq_false']
   exact ⟨fun x => ⟨h, x⟩, fun x => x.2⟩
  refine zal (fun h => zab (.inr ⟨rfl, fun P => ?_⟩)) fun h => ?_
  ·have := hb.2 (P.c _ (List.getElem_mem hi)); rw [h] at this; cases this
  have hc := hb.1 h
  refine zaf (zw5 k (zpN k hc.2) (by omega) (by omega)) (zav (by simp; omega) (zab ⟨?_, fun f hf => ?_⟩))
  ·rw [List.range_succ, List.map_append, List.map_singleton, zix hi]
  rw [List.take_succ_eq_append_getElem hi] at hf
  rcases List.mem_append.1 hf with hf | hf
  ·exact hs f hf
  rw [List.mem_singleton.1 hf]; exact hc
 ·rintro s ⟨rfl, hs⟩
  rw [List.take_length] at hs
  exact .inl ⟨rfl, hs⟩
 rcases hr with ⟨rfl, hcs⟩ | ⟨rfl, hno⟩
 case inr => exact zab (by rw [zph hno])
 show Rn (gd _ _) _
 refine zav (by omega) (zaf rfl ?_)
 let ds : List Fault → List Dealing := fun l => (List.range cs.length).map fun i => ⟨(cs.getD i []).map (zaj gr gr.G), zfS gr l i (shs i)⟩
 let sl : List Fault → List Bool := fun l => (List.range cs.length).map fun i => !zfC l i
 refine zac (ψ := fun r => (r = .inl (ds fs, sl fs) ∧ PlOk gr cs fs) ∨ (r = .inr ([], [], false) ∧ ¬ PlOk gr cs fs))
  (zat (fun j s => s = (ds (fs.take j), sl (fs.take j)) ∧ ∀ x ∈ fs.take j, (1 ≤ x.Dealer ∧ x.Dealer ≤ cs.length) ∧ (1 ≤ x.Trustee ∧ x.Trustee ≤ cs.length) ∧ zcQ gr x.Delta = true) ⟨?_, fun f hf => by simp at hf⟩ ?_ ?_) fun r hr => ?_
 ·show (_, _) = (_, _)
  have : sl (fs.take 0) = List.replicate cs.length false := by
   apply List.ext_getElem (by simp [sl])
   intro i h1 h2
   simp [sl, zfC]
  rw [this]; rfl
 ·rintro j s hj ⟨rfl, hs⟩
  refine zac (ψ := fun x => (x = .inl (ds (fs.take (j + 1)), sl (fs.take (j + 1))) ∧ ((1 ≤ fs[j].Dealer ∧ fs[j].Dealer ≤ cs.length) ∧ (1 ≤ fs[j].Trustee ∧ fs[j].Trustee ≤ cs.length) ∧ zcQ gr fs[j].Delta = true)) ∨ (x = .inr (.out (.inr ([], [], false))) ∧ ¬ PlOk gr cs fs)) ?_ fun x hx => ?_
  ·refine zaz hj (zac (ψ := fun b => b = false ↔ ((1 ≤ fs[j].Dealer ∧ fs[j].Dealer ≤ cs.length) ∧ (1 ≤ fs[j].Trustee ∧ fs[j].Trustee ≤ cs.length) ∧ zcQ gr fs[j].Delta = true)) ?_ fun b hb => ?_)
   ·refine zaf (zpj _ _ _) (zal (fun h => zab ⟨fun x => (by cases x), fun x => ?_⟩) fun h => zaf (zpj _ _ _) (zal (fun h2 => zab ⟨fun x => (by cases x), fun x => ?_⟩) fun h2 => zaf (zjS (by omega) (by omega) _) (zab ?_)))
    ·rw [zjj.2 x.1] at h; cases h
    ·rw [zjj.2 x.2.1] at h2; cases h2
    have h := zjj.1 (show inB 1 (cs.length : Int) fs[j].Dealer = true by simpa using h)
    have h2 := zjj.1 (show inB 1 (cs.length : Int) fs[j].Trustee = true by simpa using h2)
    rw [Bool.not_eq_false', List.all_cons, List.all_nil, Bool.and_true]
    exact ⟨fun x => ⟨h, h2, x⟩, fun x => x.2.2⟩
   refine zal (fun h => zab (.inr ⟨rfl, fun P => ?_⟩)) fun h => ?_
   ·have := hb.2 (P.f _ (List.getElem_mem hj)); rw [h] at this; cases this
   obtain ⟨h1, h2, h3⟩ := hb.1 h
   have hd := zfN.1 h3
   obtain ⟨d, hd1⟩ := Int.eq_ofNat_of_zero_le (show 0 ≤ fs[j].Dealer - 1 by omega)
   have hdn : d < cs.length := by omega
   rw [zaq (by omega) (by omega), zaq (n := fs[j].Trustee - 1) (by omega) (by omega), hd1]
   have S := zrE (gr := gr) (by omega) d (fs.take j) (zpK (gr := gr) (by omega) (cs.getD d []) cs.length).2
   rw [(zpK (gr := gr) (by omega) (cs.getD d []) cs.length).1] at S
   have hlt : (fs[j].Trustee - 1).toNat < (zfS gr (fs.take j) d (shs d)).length := by show _ < (zfS _ _ _ _).length; rw [S.1]; omega
   have hv := S.2 _ (List.getElem_mem hlt)
   refine zaz (k := d) (l := ds (fs.take j)) (by simp [ds]; exact hdn) ?_
   have e0 : (ds (fs.take j))[d]'(by simp [ds]; exact hdn) = ⟨(cs.getD d []).map (zaj gr gr.G), zfS gr (fs.take j) d (shs d)⟩ := by simp [ds]
   rw [e0]
   refine zaf (zBW (l := zfS gr (fs.take j) d (shs d)) (by omega) (by omega)) (zav (by omega) ?_)
   refine zaz (k := d) (l := sl (fs.take j)) (by simp [sl]; exact hdn) ?_
   have e1 : (sl (fs.take j))[d]'(by simp [sl]; exact hdn) = !zfC (fs.take j) d := by simp [sl]
   rw [e1, zaq (by omega) (by omega), Int.tmod_eq_emod_of_nonneg (by omega)]
   have hD : ∀ i : Nat, fs[j].Dealer = (i : Int) + 1 ↔ i = d := fun i => by omega
   have g1 : ds (fs.take (j + 1)) = (ds (fs.take j)).set d ⟨(cs.getD d []).map (zaj gr gr.G), (zfS gr (fs.take j) d (shs d)).set (fs[j].Trustee - 1).toNat (((zfS gr (fs.take j) d (shs d))[(fs[j].Trustee - 1).toNat] + fs[j].Delta) % gr.Q)⟩ := by
    have := zkL (n := cs.length) (d := d) (f := fun i => (⟨(cs.getD i []).map (zaj gr gr.G), zfS gr (fs.take j) i (shs i)⟩ : Dealing)) (g := fun i => (⟨(cs.getD i []).map (zaj gr gr.G), zfS gr (fs.take (j + 1)) i (shs i)⟩ : Dealing)) fun i _ hi => by
     rw [List.take_succ_eq_append_getElem hj, zoJ, if_neg fun x => hi ((hD i).1 x)]
    show (List.range cs.length).map _ = _
    rw [← this, List.take_succ_eq_append_getElem hj, zoJ, if_pos ((hD d).2 rfl)]
    unfold upF; rw [zix hlt]
   have g2 : sl (fs.take (j + 1)) = (sl (fs.take j)).set d (!(zfC (fs.take j) d && fs[j].Answers)) := by
    have := zkL (n := cs.length) (d := d) (f := fun i => !zfC (fs.take j) i) (g := fun i => !zfC (fs.take (j + 1)) i) fun i _ hi => by
     rw [List.take_succ_eq_append_getElem hj, zqm, decide_eq_false fun x => hi ((hD i).1 x)]; simp
    show (List.range cs.length).map _ = _
    rw [← this, List.take_succ_eq_append_getElem hj, zqm, decide_eq_true ((hD d).2 rfl)]; rfl
   rw [g1, g2]
   refine zal (fun w => zab (.inl ⟨?_, h1, h2, h3⟩)) fun w => zab (.inl ⟨?_, h1, h2, h3⟩)
   ·have w : zfC (fs.take j) d = false := by simpa using w
    rw [w]; rfl
   have w : zfC (fs.take j) d = true := by simpa using w
   rw [w]; rfl
  rcases hx with ⟨rfl, hv⟩ | ⟨rfl, hno⟩
  ·refine zab ⟨rfl, fun f hf => ?_⟩
   rw [List.take_succ_eq_append_getElem hj] at hf
   rcases List.mem_append.1 hf with hf | hf
   ·exact hs f hf
   rw [List.mem_singleton.1 hf]; exact hv
  exact zab (.inr ⟨rfl, hno⟩)
 ·rintro s ⟨rfl, hs⟩
  rw [List.take_length] at hs ⊢
  exact .inl ⟨rfl, ⟨k, q7, hn, ht, hfl, hcs, hs⟩⟩
 rcases hr with ⟨rfl, P⟩ | ⟨rfl, hno⟩
 case inr => exact zab (by rw [zph hno])
 rw [zwl P]
 have eds : ds fs = (List.range cs.length).map (plD gr cs fs) := rfl
 show Rn (Option.bind _ _) _
 refine zac (ψ := fun r => r = (List.range cs.length).map (plA gr cs fs)) ?_ fun r hr => zab (by rw [hr, eds])
 have hlen : (ds fs).length = cs.length := by simp [ds]
 rw [hlen]
 refine zat (fun i s => s = (List.range i).map (plA gr cs fs)) rfl ?_ fun s hs => hs
 rintro i s hi rfl
 have hc := hcs _ (List.getElem_mem hi)
 have hf := zpN k hc.2
 have e : cs.getD i [] = cs[i] := zix hi
 have D := ztN P hi
 refine zaz (l := ds fs) (by rw [hlen]; exact hi) ?_
 have e0 : (ds fs)[i]'(by rw [hlen]; exact hi) = plD gr cs fs i := by simp [ds]; rfl
 rw [e0]
 refine zaf (zur k (by omega) (zhT k D.2.2.2)) ?_
 rw [D.1]
 have hbl := zqy gr (plD gr cs fs i) cs.length
 have A := zCd k hf (by omega) (l := zfA gr (plD gr cs fs i) cs.length) (fun x hx => by have := znY x hx; omega) (by omega) (zfC fs i) (zeC gr.Q cs[i]) fun x h1 h2 => znN (by omega) (by omega) h1 (by omega) hf (by omega)
 refine zac (ψ := fun r => r = plA gr cs fs i) ?_ fun r hr => zav (by simp; omega) (zab ?_)
 ·have : plA gr cs fs i = if zfC fs i = true then (zfA gr (plD gr cs fs i) cs.length).map (zbz gr.Q cs[i]) else [] := by unfold plA; rw [e]
  rw [this]
  refine (zat (fun j s => s = if zfC fs i = true then ((zfA gr (plD gr cs fs i) cs.length).take j).map (zbz gr.Q cs[i]) else []) (by simp) ?_ ?_)
  ·rintro j s hj rfl
   have hx := znY _ (List.getElem_mem hj)
   refine zac (ψ := fun r => r = if zfC fs i = true then ((zfA gr (plD gr cs fs i) cs.length).take (j + 1)).map (zbz gr.Q cs[i]) else []) (zaz hj (zaz (k := i) (l := sl fs) (by simp [sl]; exact hi) ?_)) fun r hr => zab hr
   have e1 : (sl fs)[i]'(by simp [sl]; exact hi) = !zfC fs i := by simp [sl]
   rw [e1]
   refine zal (fun w => ?_) fun w => zab ?_
   ·have w : zfC fs i = true := by simpa using w
    refine zaz hi (zaf (znN (by omega) (by omega) (by omega) (by omega) hf (by omega)) (zav ?_ (zab ?_)))
    ·rw [if_pos w]; simp; omega
    rw [if_pos w, if_pos w, List.take_succ_eq_append_getElem hj, List.map_append]; rfl
   have w : zfC fs i = false := by simpa using w
   rw [w]; simp
  rintro s rfl
  rw [List.take_length]
 subst hr
 show _ = _
 rw [List.range_succ, List.map_append, List.map_singleton]
theorem ziE {code c0 : List Int} {at_ seed n : Int} {m : Nat} (hb : Bt code) (h : Cu code n (c0, at_, seed)) (hn : n ≤ 8000000000000000) (hm : 1 ≤ m) : Rn (zai c0 at_ seed (m : Int)) (fun z => (∃ i : Nat, z.1 = (i : Int) ∧ i < m) ∧ Cu code (n + 2) z.2) := by
 obtain ⟨z, h1, h2, h3, h4, _, h5⟩ := zf9 (m := (m : Int)) hb h hn
 obtain ⟨i, hi⟩ := Int.eq_ofNat_of_zero_le h2
 refine ⟨z, h1, ⟨i, hi, ?_⟩, h5⟩
 rcases Nat.lt_or_ge 1 m with h6 | h6
 ·have := h4 (by omega); omega
 have := h3 (by omega); omega
def lp (k : Nat) (p : Proof) : Prop := p.Commits.length ≤ k ∧ p.Challenges.length ≤ k ∧ p.Responses.length ≤ k
theorem zk4 {code : List Int} {n : Int} {k : Nat} {c : List Int × Int × Int} {a b d : List Int} (hb : Bt code) (hc : Cu code n c) (hn : n ≤ 5000000000000000) (ha : a.length ≤ k) (hb2 : b.length ≤ k) (hd : d.length ≤ k) (hk : k ≤ 100000) :
 Rn ((zai c.1 c.2.1 c.2.2 10).bind fun z16 =>
  ((if (z16.1 == 0) = true then (gd ((a.length + 1) * 8 ≤ 140737488355328 ∧ a.length + 1 ≤ 4611686018427387904) <| some (a ++ [1], b, d)) else (if (z16.1 == 1) = true then (some (a, b, [])) else (if (z16.1 == 2) = true then (gd ((b.length + 1) * 8 ≤ 140737488355328 ∧ b.length + 1 ≤ 4611686018427387904) <| some (a, b ++ [0], d)) else (some (a, b, d)))) : Option ((List Int × List Int × List Int))).bind fun x19 =>
  some ((Proof.mk x19.1 x19.2.1 x19.2.2), (z16.2.1, z16.2.2.1, z16.2.2.2)))) (fun z => lp (k + 1) z.1 ∧ Cu code (n + 2) z.2) := by
 refine zac (zf9 hb hc (by omega)) fun z ⟨_, _, _, _, z5⟩ => ?_
 refine zac (ψ := fun (r : List Int × List Int × List Int) => r.1.length ≤ k + 1 ∧ r.2.1.length ≤ k + 1 ∧ r.2.2.length ≤ k + 1) (zal (fun _ => zav (by omega) (zab ⟨by simp; omega, by show b.length ≤ _; omega, by show d.length ≤ _; omega⟩)) fun _ => zal (fun _ => zab ⟨by show a.length ≤ _; omega, by show b.length ≤ _; omega, by simp⟩) fun _ => zal (fun _ => zav (by omega) (zab ⟨by show a.length ≤ _; omega, by simp; omega, by show d.length ≤ _; omega⟩)) fun _ => zab ⟨by show a.length ≤ _; omega, by show b.length ≤ _; omega, by show d.length ≤ _; omega⟩) fun r hr => zab ⟨hr, z5⟩
theorem zmp {code : List Int} {n : Int} {gr : Group} {c : List Int × Int × Int} {l : List Int} {β : Type} {f : List Int → β} (hb : Bt code) (hc : Cu code n c) (hn : n ≤ 4000000000000000) (hg : Gw gr) (hl : l.length ≤ 100000) :
 Rn (if decide (0 < (l.length : Int)) = true then ((zai c.1 c.2.1 c.2.2 (l.length : Int)).bind fun z11 => (ix l z11.1).bind fun x12 => (zaB z11.2.1 z11.2.2.1 z11.2.2.2 gr).bind fun z13 => (zay z13.2.1 z13.2.2.1 z13.2.2.2 gr).bind fun z14 =>
  (zam z14.2.1 z14.2.2.1 z14.2.2.2 [z13.1, z14.1, (-1), gr.Q, IntKind.i64.wrap (x12 + 1)]).bind fun z15 => some ((z15.2.1, z15.2.2.1, z15.2.2.2), f (l.set z11.1.toNat z15.1))) else (some ((c.1, c.2.1, c.2.2), f l))) (fun x => (∃ l', l'.length = l.length ∧ x.2 = f l') ∧ Cu code (n + 12) x.1) := by
 have hq := hg.q
 refine zal (fun h => ?_) fun _ => zab ⟨⟨l, rfl, rfl⟩, hc.mono (by omega)⟩
 have h := of_decide_eq_true h
 refine zac (ziE hb hc (by omega) (by omega)) fun z ⟨⟨i, hi, hl'⟩, z2⟩ => ?_
 rw [hi]
 refine zaz hl' (zac (zhY hb z2 (by omega) (by omega)) fun y ⟨_, _, _, y4⟩ => zac (zjo hb y4 (by omega) hg) fun x ⟨_, _, x3⟩ => zac (zfg hb x3 (by omega) (by simp)) fun w ⟨_, w2⟩ => zab ⟨⟨_, ?_, rfl⟩, w2.mono (by omega)⟩)
 simp
theorem zzb {code c0 : List Int} {at_ seed n : Int} {gr : Group} {p : Proof} {k : Nat} (hb : Bt code) (h : Cu code n (c0, at_, seed)) (hn : n ≤ 3000000000000000) (hg : Gw gr) (hp : lp k p) (hk : k ≤ 100000) :
 Rn (zcW c0 at_ seed gr p) (fun z => lp (k + 1) z.1 ∧ Cu code (n + 30) z.2) := by
 obtain ⟨p1, p2, p3⟩ := hp
 unfold zcW
 rw [zhL (by omega), Option.bind_some, zhL (by omega), Option.bind_some, zhL (by omega), Option.bind_some]
 refine zac (zlG hb h (by omega)) fun z z1 => zal (fun _ => zab ⟨⟨by show p.Commits.length ≤ _; omega, by show p.Challenges.length ≤ _; omega, by show p.Responses.length ≤ _; omega⟩, z1.mono (by omega)⟩) fun _ => ?_
 refine zac (ziE (m := 3) hb z1 (by omega) (by omega)) fun y ⟨⟨i, hi, h3⟩, y2⟩ => ?_
 refine zal (fun _ => ?_) fun h0 => zal (fun _ => ?_) fun h1 => zal (fun _ => ?_) fun h2 => ?_
 ·refine zac (zmp (c := y.2) (f := fun l => (l, p.Challenges, p.Responses)) hb y2 (by omega) hg (by omega)) fun x ⟨⟨l, e1, e2⟩, x2⟩ => ?_
  rw [e2]
  exact zlT (zk4 (k := k) hb x2 (by omega) (by show l.length ≤ k; omega) p2 p3 hk) fun z hz => ⟨hz.1, hz.2.mono (by omega)⟩
 ·refine zac (zmp (c := y.2) (f := fun l => (p.Commits, l, p.Responses)) hb y2 (by omega) hg (by omega)) fun x ⟨⟨l, e1, e2⟩, x2⟩ => ?_
  rw [e2]
  exact zlT (zk4 (k := k) hb x2 (by omega) p1 (by show l.length ≤ k; omega) p3 hk) fun z hz => ⟨hz.1, hz.2.mono (by omega)⟩
 ·refine zac (zmp (c := y.2) (f := fun l => (p.Commits, p.Challenges, l)) hb y2 (by omega) hg (by omega)) fun x ⟨⟨l, e1, e2⟩, x2⟩ => ?_
  rw [e2]
  exact zlT (zk4 (k := k) hb x2 (by omega) p1 p2 (by show l.length ≤ k; omega) hk) fun z hz => ⟨hz.1, hz.2.mono (by omega)⟩
 rw [hi] at h0 h1 h2
 have h0 : ¬ (i : Int) = 0 := by simpa using h0
 have h1 : ¬ (i : Int) = 1 := by simpa using h1
 have h2 : ¬ (i : Int) = 2 := by simpa using h2
 omega
def R9 (x : Int) : Prop := 0 ≤ x ∧ x ≤ 2000000000
theorem zdm {gr : Group} (k : OkG gr) {x : Int} (h : zah gr x = true) : R9 x := by
 have := ze1 h; have := k.p; exact ⟨by omega, by omega⟩
theorem zb9 {gr : Group} (k : OkG gr) (x e : Int) : R9 (zaj gr x e) := by
 have := zdR k x e; have := k.p; exact ⟨by omega, by omega⟩
theorem zs1 {x y : Int} (hx : R9 x) (hy : R9 y) : ∀ z ∈ [x, y], 0 ≤ z ∧ z ≤ 2000000000 := by
 intro z hz
 simp only [List.mem_cons, List.not_mem_nil, or_false] at hz
 rcases hz with rfl | rfl
 ·exact hx
 exact hy
theorem zBo {gr : Group} (k : OkG gr) {l : List Int} (h : ∀ x ∈ l, 0 ≤ x ∧ x ≤ 2000000000) : R9 (zbT gr l) := by
 have := zlH k h; have := k.p; exact ⟨by omega, by omega⟩
theorem zjU {gr : Group} (k : OkG gr) {x y : Int} (hx : R9 x) (hy : R9 y) : R9 (zbT gr [x, y]) := zBo k (zs1 hx hy)
theorem zpn {l : List Int} (h : ∀ x ∈ l, R9 x) : l.all zb6 = true := List.all_eq_true.2 fun x hx => zeM.2 ⟨(h x hx).1, by have := (h x hx).2; omega⟩
theorem m2I {gr : Group} (k : OkG gr) {x y : Int} (hx : R9 x) (hy : R9 y) : zaV gr [x, y] = some (zbT gr [x, y]) := zkq k (zs1 hx hy)
theorem m2S {gr : Group} (k : OkG gr) {x y : Int} (hx : R9 x) (hy : R9 y) : zbs gr [x, y] = some (zbT gr [x, y]) := zlB k (zs1 hx hy)
theorem pwI {gr : Group} (k : OkG gr) {x : Int} (hx : R9 x) (e : Int) : za6 gr x e = some (zaj gr x e) := (zjb k hx.1 hx.2 e).1
theorem pwS {gr : Group} (k : OkG gr) {x : Int} (hx : R9 x) (e : Int) : zaQ gr x e = some (zaj gr x e) := (zjb k hx.1 hx.2 e).2
theorem r_G {gr : Group} (k : OkG gr) : R9 gr.G := zdm k (zeV k)
theorem zp5 {gr : Group} (k : OkG gr) {n : Nat} (h0 : n < gr.P.toNat) (h : n ^ gr.Q.toNat % gr.P.toNat = 1) : zah gr (n : Int) = true := by
 have hp := k.p
 have hq := k.q
 have h1 : 1 ≤ n := by
  rcases Nat.eq_zero_or_pos n with h2 | h2
  ·rw [h2, Nat.zero_pow (by omega), Nat.zero_mod] at h; omega
  ·exact h2
 simp only [zah, Bool.and_eq_true, decide_eq_true_eq]
 exact ⟨⟨by omega, by omega⟩, by rw [Int.toNat_natCast]; exact h⟩
theorem zeA {gr : Group} (k : OkG gr) {x : Int} (hx : zah gr x = true) (e : Int) : zah gr (zaj gr x e) = true := by
 have hp := k.p
 refine zp5 k (Nat.mod_lt _ (by omega)) ?_
 rw [← Nat.pow_mod, ← Nat.pow_mul, Nat.mul_comm, Nat.pow_mul, Nat.pow_mod, (zjY hx).2.2, Nat.one_pow, Nat.mod_eq_of_lt (by omega)]
theorem zh4 {gr : Group} (k : OkG gr) {x y : Int} (hx : zah gr x = true) (hy : zah gr y = true) : zah gr (zbT gr [x, y]) = true := by
 have hp := k.p
 have bx := ze1 hx
 have by' := ze1 hy
 rw [zgY k ⟨by omega, by omega⟩ (by omega)]
 obtain ⟨a, rfl⟩ := Int.eq_ofNat_of_zero_le (show 0 ≤ x by omega)
 obtain ⟨b, rfl⟩ := Int.eq_ofNat_of_zero_le (show 0 ≤ y by omega)
 obtain ⟨p, hP⟩ := Int.eq_ofNat_of_zero_le (show 0 ≤ gr.P by omega)
 have h1 := (zjY hx).2.2
 have h2 := (zjY hy).2.2
 rw [Int.toNat_natCast] at h1 h2
 have e : ((a : Int) * (b : Int)) % gr.P = ((a * b % gr.P.toNat : Nat) : Int) := by rw [hP, Int.toNat_natCast, Int.natCast_emod, Int.natCast_mul]
 rw [e]
 refine zp5 k (Nat.mod_lt _ (by omega)) ?_
 rw [← Nat.pow_mod, Nat.mul_pow, Nat.mul_mod, h1, h2, Nat.mod_eq_of_lt (by omega)]
theorem ziq {gr : Group} (k : OkG gr) : zah gr 1 = true := by
 have hp := k.p
 exact zp5 (n := 1) k (by omega) (by rw [Nat.one_pow, Nat.mod_eq_of_lt (by omega)])
def reV (gr : Group) (key : Int) (c : Cipher) (r : Int) : Cipher := ⟨zbT gr [c.A, zaj gr gr.G r], zbT gr [c.B, zbT gr [1, zaj gr key r]]⟩
theorem zpJ {gr : Group} (k : OkG gr) {key : Int} (hk : zah gr key = true) {c : Cipher} (hc : zaX gr c = true) (r : Int) : zaX gr (reV gr key c r) = true := by
 simp only [zaX, Bool.and_eq_true] at hc ⊢
 exact ⟨zh4 k hc.1 (zeA k (zeV k) r), zh4 k hc.2 (zh4 k (ziq k) (zeA k hk r))⟩
theorem znB {gr : Group} (k : OkG gr) {x : Int} (hx : 0 ≤ x ∧ x < gr.P) : zbs gr [1, x] = some x := by
 have hp := k.p
 rw [m2S k (x := 1) (y := x) ⟨by omega, by omega⟩ ⟨by omega, by omega⟩, zgY k ⟨by omega, by omega⟩ (by omega), Int.one_mul, Int.emod_eq_of_lt hx.1 hx.2]
theorem zA6 {gr : Group} (k : OkG gr) {key : Int} (hk : zah gr key = true) {c : Cipher} (hc : zaX gr c = true) (r : Int) : zcS gr key c r = some (reV gr key c r) := by
 have hc2 := hc
 simp only [zaX, Bool.and_eq_true] at hc2
 unfold zcS
 rw [(zlt k hk (ziq k) r).1, Option.bind_some]
 unfold zbJ
 rw [m2I k (zdm k hc2.1) (zb9 k _ _), Option.bind_some, m2I k (zdm k hc2.2) (zjU k ⟨by omega, by omega⟩ (zb9 k _ _))]
 rfl
theorem zBc {gr : Group} (k : OkG gr) {key : Int} (hk : zah gr key = true) {c : Cipher} (hc : zaX gr c = true) (r : Int) : ze2 gr key c r = some (reV gr key c r) := by
 have hc2 := hc
 simp only [zaX, Bool.and_eq_true] at hc2
 have hp := k.p
 have b1 := ze1 hc2.1
 have b2 := ze1 hc2.2
 unfold ze2
 rw [(zlt k hk (ziq k) r).2, Option.bind_some]
 unfold zcT
 simp only [List.length_cons, List.length_nil, zap]
 have e0 : ∀ {a b : Cipher}, ix [a, b] 0 = some a := fun {a b} => rfl
 have e1 : ∀ {a b : Cipher}, ix [a, b] (0 + 1) = some b := fun {a b} => rfl
 simp only [e0, e1, Option.bind_some, znB k (x := c.A) ⟨by omega, by omega⟩, znB k (x := c.B) ⟨by omega, by omega⟩, m2S k (zdm k hc2.1) (zb9 k _ _), m2S k (zdm k hc2.2) (zjU k (x := 1) ⟨by omega, by omega⟩ (zb9 k _ _))]
 rfl
def E9 (q x : Int) : Prop := 0 ≤ x ∧ x < q
theorem zzu {q a z t : Int} (hq : q ≤ 2000000000) (ha : E9 q a) (hz : E9 q z) (ht : E9 q t) : IntKind.i64.wrap (a + IntKind.i64.wrap (z * t)) = a + z * t ∧ (IntKind.i64.wrap (a + IntKind.i64.wrap (z * t))).tmod q = (a + z * t) % q := by
 obtain ⟨a1, a2⟩ := ha
 obtain ⟨z1, z2⟩ := hz
 obtain ⟨t1, t2⟩ := ht
 have h1 : 0 ≤ z * t := Int.mul_nonneg z1 t1
 have h2 : z * t ≤ 2000000000 * 2000000000 := Int.mul_le_mul (by omega) (by omega) t1 (by omega)
 rw [zaq (n := z * t) (by omega) (by omega), zaq (n := a + z * t) (by omega) (by omega)]
 exact ⟨rfl, Int.tmod_eq_emod_of_nonneg (by omega)⟩
theorem zho {α : Type} {l : List α} {P : α → Prop} (h : ∀ x ∈ l, P x) {i : Nat} (hi : i < l.length) : P l[i] := h _ (List.getElem_mem hi)
theorem zwi {gr : Group} (k : OkG gr) : ∀ (l m : List Int) (o : Int), 0 ≤ o ∧ o < gr.P → R9 (zcs gr l m o)
 | [], _, o, h => by have := k.p; unfold zcs; exact ⟨h.1, by omega⟩
 | _ :: _, [], o, h => by have := k.p; unfold zcs; exact ⟨h.1, by omega⟩
 | x :: l, e :: m, o, h => by
  have := k.p
  unfold zcs
  exact zwi k l m _ ⟨Int.emod_nonneg _ (by omega), Int.emod_lt_of_pos _ (by omega)⟩
theorem zyI {gr : Group} (k : OkG gr) (l m : List Int) : R9 (zcs gr l m 1) := zwi k l m 1 (by have := k.p; exact ⟨by omega, by omega⟩)
theorem ztK {gr : Group} (k : OkG gr) {x : Int} (hx : zah gr x = true) {a b : Int} (ha : 0 ≤ a) (hb : 0 ≤ b) : zbT gr [zaj gr x a, zaj gr x b] = zaj gr x (a + b) := by
 have hp := k.p
 have hq := k.q
 have b1 := zdR k x a
 have b2 := zdR k x b
 rw [zgY k ⟨b1.1, by omega⟩ b2.1]
 obtain ⟨A, rfl⟩ := Int.eq_ofNat_of_zero_le ha
 obtain ⟨B, rfl⟩ := Int.eq_ofNat_of_zero_le hb
 obtain ⟨n, hn⟩ := Int.eq_ofNat_of_zero_le (show 0 ≤ gr.Q by omega)
 obtain ⟨P, hP⟩ := Int.eq_ofNat_of_zero_le (show 0 ≤ gr.P by omega)
 have h3 := (zjY hx).2.2
 unfold zaj
 rw [hn] at h3 ⊢
 rw [hP] at h3 ⊢
 rw [Int.toNat_natCast, Int.toNat_natCast] at h3
 have e : ∀ c : Nat, ((c : Int) % (n : Int)).toNat = c % n := fun c => by rw [← Int.natCast_emod, Int.toNat_natCast]
 rw [show ((A : Int) + (B : Int)) = ((A + B : Nat) : Int) from rfl, e, e, e, Int.toNat_natCast, zhH h3, zhH h3, zhH h3, ← Int.natCast_mul, ← Int.natCast_emod, Nat.pow_add, Nat.mul_mod, Nat.mod_mod, Nat.mod_mod, ← Nat.mul_mod]
abbrev zvv : ByteArray := ⟨#[112, 97, 114, 116, 105, 97, 108]⟩
theorem zyK {gr : Group} (k : OkG gr) {A : Int} (hA : zah gr A = true) : LinS gr [[gr.G], [A]] := by
 refine ⟨by simp, by simp, fun r hr => ?_⟩
 simp only [List.mem_cons, List.not_mem_nil, or_false] at hr
 rcases hr with rfl | rfl
 ·simp [zeV k]
 simp [hA]
def atV (gr : Group) (commits : List Int) (x : Int) : Int := (commits.foldl (atS gr x) (1, 1)).1
theorem ztH {gr : Group} (k : OkG gr) (x : Int) : ∀ (l : List Int) (o e : Int), (∀ y ∈ l, zah gr y = true) → zah gr o = true → zah gr (l.foldl (atS gr x) (o, e)).1 = true
 | [], _, _, _, h => h
 | y :: l, o, e, hl, ho => ztH k x l _ _ (fun z hz => hl z (List.mem_cons_of_mem _ hz)) (zh4 k ho (zeA k (hl y (by simp)) e))
def zjD (gr : Group) (cs : List Int) (A : Int) (p : Partial) : Bool := trB p.Index && zah gr p.Value && ziK gr zvv [[gr.G], [A]] [atV gr cs p.Index, p.Value] p.Pi
theorem zwr {gr : Group} (k : OkG gr) {cs : List Int} (hc : ∀ y ∈ cs, zah gr y = true) {c : Cipher} (hA : zah gr c.A = true) {p : Partial} (hp : p.Pi.Commits.length ≤ 1048576) : zb2 gr cs c p = some (zjD gr cs c.A p) ∧ zew gr cs c p = some (zjD gr cs c.A p) := by
 have hr := zhT k hc
 have hi : ∀ v, trB p.Index = true → zah gr v = true → zca gr cs p.Index = some (atV gr cs p.Index) ∧ zfD gr cs p.Index = some (atV gr cs p.Index) ∧ [atV gr cs p.Index, v].all (zah gr) = true := fun v h hv => by
  simp only [trB, Bool.and_eq_true, decide_eq_true_eq] at h
  refine ⟨zse k (by omega) (by omega) hr, zwy k (by omega) (by omega) hr, ?_⟩
  have : zah gr (atV gr cs p.Index) = true := ztH k _ _ _ _ hc (ziq k)
  simp [this, hv]
 unfold zjD
 refine ⟨?_, ?_⟩
 ·unfold zb2
  rw [zme, zlR k]
  cases h1 : trB p.Index
  ·rfl
  cases h2 : zah gr p.Value
  ·rfl
  obtain ⟨a1, _, a3⟩ := hi _ h1 h2
  rw [a1]
  simp [zoA k (s := zvv) (by decide) (zyK k hA) rfl a3 hp]
 unfold zew zcg
 rw [zf4, zyv k, show (decide (1 ≤ p.Index) && decide (p.Index ≤ 7)) = trB p.Index from rfl]
 cases h1 : trB p.Index
 ·rfl
 cases h2 : zah gr p.Value
 ·rfl
 obtain ⟨_, a2, a3⟩ := hi _ h1 h2
 rw [a2]
 simp [zoV k (s := zvv) (by decide) (zyK k hA) rfl a3 hp]
def gdF (gr : Group) (cs : List Int) (A : Int) (l : List Partial) (i : Nat) (s : List Int × List Int) : List Int × List Int :=
 if (!s.2.contains (l.getD i ⟨0, 0, ⟨[], [], []⟩⟩).Index && zjD gr cs A (l.getD i ⟨0, 0, ⟨[], [], []⟩⟩)) = true then (s.1 ++ [(i : Int)], s.2 ++ [(l.getD i ⟨0, 0, ⟨[], [], []⟩⟩).Index]) else s
def gdI (gr : Group) (cs : List Int) (A : Int) (l : List Partial) (n : Nat) : List Int × List Int := itr (gdF gr cs A l) n ([], [])
structure GdOk (gr : Group) (cs : List Int) (A : Int) (l : List Partial) (i : Nat) (s : List Int × List Int) : Prop where
 n : s.1.length ≤ i
 e : s.2 = s.1.map fun j => (l.getD j.toNat ⟨0, 0, ⟨[], [], []⟩⟩).Index
 d : s.2.Nodup
 b : ∀ j ∈ s.1, 0 ≤ j ∧ j < i ∧ zjD gr cs A (l.getD j.toNat ⟨0, 0, ⟨[], [], []⟩⟩) = true
theorem zsG (gr : Group) (cs : List Int) (A : Int) (l : List Partial) : ∀ n, GdOk gr cs A l n (gdI gr cs A l n)
 | 0 => ⟨by simp [gdI, itr], by simp [gdI, itr], by simp [gdI, itr], by simp [gdI, itr]⟩
 | n + 1 => by
  have h := zsG gr cs A l n
  show GdOk gr cs A l (n + 1) (gdF gr cs A l n (gdI gr cs A l n))
  generalize gdI gr cs A l n = s at h
  unfold gdF
  split
  ·rename_i hc
   simp only [Bool.and_eq_true, Bool.not_eq_true'] at hc
   refine ⟨by have := h.n; simp; omega, by simp [h.e], ?_, fun j hj => ?_⟩
   ·refine List.nodup_append.2 ⟨h.d, by simp, fun a ha b hb => ?_⟩
    rw [List.mem_singleton] at hb
    subst hb
    rintro rfl
    have := hc.1
    rw [List.contains_eq_mem] at this
    exact of_decide_eq_false this ha
   ·rcases List.mem_append.1 hj with h1 | h1
    ·obtain ⟨a1, a2, a3⟩ := h.b j h1; exact ⟨a1, by omega, a3⟩
    ·rw [List.mem_singleton] at h1
     subst h1
     exact ⟨by omega, by omega, by rw [Int.toNat_natCast]; exact hc.2⟩
  ·exact ⟨by have := h.n; omega, h.e, h.d, fun j hj => by obtain ⟨a1, a2, a3⟩ := h.b j hj; exact ⟨a1, by omega, a3⟩⟩
theorem zoP {gr : Group} {cs : List Int} {A : Int} {l : List Partial} (hl : l.length ≤ 1000) (C : List Int → Int → Option Bool) (V : Partial → Option Bool) (hC : ∀ l x, C l x = some (l.contains x)) (hV : ∀ p ∈ l, V p = some (zjD gr cs A p)) : zap (σ := (List Int) × List Int) (fun i5 s4 =>
 (((ix l i5).bind fun x14 =>
 (((C s4.2 x14.Index).bind fun z18 =>
 if (!z18) = true then (
 (V x14).bind fun z20 =>
 some z20) else (
 some false) : Option Bool).bind fun x17 =>
 if x17 = true then (
 gd ((s4.1.length + 1) * 8 ≤ 140737488355328 ∧ s4.1.length + 1 ≤ 4611686018427387904) <|
 gd ((s4.2.length + 1) * 8 ≤ 140737488355328 ∧ s4.2.length + 1 ≤ 4611686018427387904) <|
 some (s4.1 ++ [i5], s4.2 ++ [x14.Index])) else (
 some (s4.1, s4.2))) : Option ((List Int × List Int))).bind fun x13 =>
 some (.go (x13.1, x13.2)))) (fun s4 => s4.1) (l.length) 0 ([], []) = some (gdI gr cs A l l.length).1 := by
 refine ztW (gdF gr cs A l) (fun i s => s.1.length ≤ i ∧ s.2.length ≤ i) ⟨by simp, by simp⟩ (fun i s _ h => ?_) fun i s hi h => ?_
 ·unfold gdF; split
  ·exact ⟨by simp; omega, by simp; omega⟩
  exact ⟨by omega, by omega⟩
 rw [zea hi, Option.bind_some, hC, Option.bind_some, hV _ (List.getElem_mem hi)]
 unfold gdF
 rw [zix hi, zeo (by omega), zeo (by omega)]
 cases s.2.contains l[i].Index <;> cases zjD gr cs A l[i] <;> rfl
def bdP (l : List Partial) : Prop := ∀ p ∈ l, p.Pi.Commits.length ≤ 1048576
theorem zyP {gr : Group} (k : OkG gr) {cs : List Int} (hc : ∀ y ∈ cs, zah gr y = true) {c : Cipher} (hA : zah gr c.A = true) {l : List Partial} (hl : l.length ≤ 1000) (hb : bdP l) : zdr gr cs c l = some (gdI gr cs c.A l l.length).1 ∧ zf5 gr cs c l = some (gdI gr cs c.A l l.length).1 := by
 refine ⟨?_, ?_⟩
 ·unfold zdr
  rw [zoP (gr := gr) (cs := cs) (A := c.A) hl za3 (zb2 gr cs c) znl fun p hp => (zwr k hc hA (hb p hp)).1]
  rfl
 unfold zf5
 rw [zoP (gr := gr) (cs := cs) (A := c.A) hl zd5 (zew gr cs c) zn2 fun p hp => (zwr k hc hA (hb p hp)).2]
 rfl
abbrev pt0 : Partial := ⟨0, 0, ⟨[], [], []⟩⟩
def cbX (l : List Partial) (g : List Int) : List Int := g.map fun j => (l.getD j.toNat pt0).Index
def cbY (l : List Partial) (g : List Int) : List Int := g.map fun j => (l.getD j.toNat pt0).Value
theorem zuv {gr : Group} (k : OkG gr) (cs : List Int) : zcB gr cs = some (inB 1 7 cs.length && cs.all (zah gr)) ∧ zeZ gr cs = some (inB 1 7 cs.length && cs.all (zah gr)) := by
 unfold zcB zeZ
 rw [zfd, zf4, zhN k, zlV k, show (decide ((1 : Int) ≤ (cs.length : Int)) && decide ((cs.length : Int) ≤ 7)) = inB 1 7 cs.length from rfl]
 cases inB 1 7 cs.length <;> exact ⟨rfl, rfl⟩
theorem zxi {l : List Partial} {g : List Int} (hg : ∀ j ∈ g, 0 ≤ j ∧ j < l.length) (hl : g.length ≤ 1000) : zap (σ := (List Int) × List Int) (fun i11 s10 =>
 (ix g i11).bind fun x18 =>
 (ix l x18).bind fun x19 =>
 gd ((s10.1.length + 1) * 8 ≤ 140737488355328 ∧ s10.1.length + 1 ≤ 4611686018427387904) <|
 gd ((s10.2.length + 1) * 8 ≤ 140737488355328 ∧ s10.2.length + 1 ≤ 4611686018427387904) <|
 some (.go (s10.1 ++ [x19.Index], s10.2 ++ [x19.Value]))) (fun s10 => (s10.1, s10.2)) g.length 0 ([], []) = some (cbX l g, cbY l g) := by
 refine zaD (zat (fun i s => s = (cbX l (g.take i), cbY l (g.take i))) rfl ?_ (by rintro s rfl; rw [List.take_length]))
 rintro i s hi rfl
 have hx := zho hg hi
 obtain ⟨j, hj⟩ := Int.eq_ofNat_of_zero_le hx.1
 have hj2 : j < l.length := by omega
 refine zaz hi ?_
 rw [hj]
 refine zaz hj2 (zav (by simp [cbX]; omega) (zav (by simp [cbY]; omega) (zab ?_)))
 show _ = _
 rw [List.take_succ_eq_append_getElem hi, hj]
 simp only [cbX, cbY, List.map_append, List.map_cons, List.map_nil, Int.toNat_natCast, zix hj2]
def dcC (gr : Group) (cs : List Int) (c : Cipher) (l : List Partial) : Bool := (inB 1 7 cs.length && cs.all (zah gr)) && ((zah gr c.A && zah gr c.B) && decide (l.length ≤ 14))
noncomputable def cbV (gr : Group) (cs : List Int) (c : Cipher) (l : List Partial) : Int × Bool :=
 if (dcC gr cs c l && decide (cs.length ≤ (gdI gr cs c.A l l.length).1.length)) = true then
  (zbT gr [c.B, zaj gr (zcs gr (cbY l ((gdI gr cs c.A l l.length).1.take cs.length)) ((List.range cs.length).map (zhu gr.Q (cbX l ((gdI gr cs c.A l l.length).1.take cs.length)) 0)) 1) (-1)], true)
 else (0, false)
theorem zwN {l : List Int} (h : l.Nodup) (n : Nat) : (l.take n).Nodup := by
 have : (l.take n ++ l.drop n).Nodup := by rw [List.take_append_drop]; exact h
 exact (List.nodup_append.1 this).1
theorem zCk {gr : Group} (k : OkG gr) (hq : 7 < gr.Q) {cs : List Int} {A : Int} {l : List Partial} (hl : l.length ≤ 1000) (n : Nat) (hn : n ≤ (gdI gr cs A l l.length).1.length) : LgOk gr.Q (cbX l ((gdI gr cs A l l.length).1.take n)) ∧ (cbX l ((gdI gr cs A l l.length).1.take n)).length = n ∧ (∀ y ∈ cbY l ((gdI gr cs A l l.length).1.take n), zah gr y = true) ∧ (cbY l ((gdI gr cs A l l.length).1.take n)).length = n ∧ ∀ j ∈ (gdI gr cs A l l.length).1.take n, 0 ≤ j ∧ j < l.length := by
 have hp := k.p
 have hq2 := k.q
 have h := zsG gr cs A l l.length
 generalize gdI gr cs A l l.length = s at h hn
 have hx : cbX l (s.1.take n) = s.2.take n := by rw [h.e]; exact List.map_take
 have hlen : s.1.length ≤ 1000 := by have := h.n; omega
 have hok : ∀ j ∈ s.1.take n, zjD gr cs A (l.getD j.toNat pt0) = true := fun j hj => (h.b j (List.mem_of_mem_take hj)).2.2
 refine ⟨⟨hq, by omega, k.pq, fun p hp' => ?_, by rw [hx]; exact zwN h.d n, by rw [hx, List.length_take, h.e, List.length_map]; omega⟩, by simp [cbX]; omega, fun y hy => ?_, by simp [cbY]; omega, fun j hj => ?_⟩
 ·obtain ⟨j, hj, rfl⟩ := List.mem_map.1 hp'
  have := hok j hj
  simp only [zjD, Bool.and_eq_true] at this
  have := this.1.1
  simp only [trB, Bool.and_eq_true, decide_eq_true_eq] at this
  omega
 ·obtain ⟨j, hj, rfl⟩ := List.mem_map.1 hy
  have := hok j hj
  simp only [zjD, Bool.and_eq_true] at this
  exact this.1.2
 have := h.b j (List.mem_of_mem_take hj); exact ⟨this.1, this.2.1⟩
theorem zAq {gr : Group} (k : OkG gr) {x : Int} (hx : R9 x) : zc5 gr x = some (zaj gr x (-1)) := by
 unfold zc5
 rw [pwI k hx]; rfl
theorem zwg {gr : Group} (k : OkG gr) (hq : 7 < gr.Q) (cs : List Int) (c : Cipher) {l : List Partial} (hb : bdP l) (hl : l.length ≤ 1000) : zcZ gr cs c l = some (cbV gr cs c l) ∧ zco gr cs c l = some (dcC gr cs c l) ∧ (dcC gr cs c l = true → ze0 gr cs c l = some (cbV gr cs c l)) := by
 have hp := k.p
 have hs : (okG gr && decide (7 < gr.Q)) = true := by rw [ze4.2 k]; simpa using hq
 have e14 : decide ((l.length : Int) ≤ 14) = decide (l.length ≤ 14) := decide_eq_decide.2 (by omega)
 have e15 : decide (14 < (l.length : Int)) = !decide (l.length ≤ 14) := by rw [← decide_not]; exact decide_eq_decide.2 (by omega)
 have hI : zdE gr cs c = some ((inB 1 7 cs.length && cs.all (zah gr)) && (zah gr c.A && zah gr c.B)) := by
  unfold zdE
  rw [zmc, hs, (zuv k cs).1, zes k]
  cases (inB 1 7 cs.length && cs.all (zah gr)) <;> rfl
 have hS : zco gr cs c l = some (dcC gr cs c l) := by
  unfold zco dcC
  rw [zgU, hs, (zuv k cs).2, zgS k, e14]
  cases (inB 1 7 cs.length && cs.all (zah gr)) <;> cases (zah gr c.A && zah gr c.B) <;> rfl
 have hG : ∀ t, ((inB 1 7 cs.length && cs.all (zah gr)) && (zah gr c.A && zah gr c.B)) = t → zdC gr cs c l = if (t && decide (l.length ≤ 14)) = true then (zdr gr cs c l).bind (fun z => some (z, true)) else some ([], false) := by
  rintro t rfl
  unfold zdC
  rw [hI, e15]
  cases ((inB 1 7 cs.length && cs.all (zah gr)) && (zah gr c.A && zah gr c.B)) <;> cases decide (l.length ≤ 14) <;> rfl
 have hG := hG _ rfl
 have hdc : ((inB 1 7 cs.length && cs.all (zah gr)) && (zah gr c.A && zah gr c.B) && decide (l.length ≤ 14)) = dcC gr cs c l := by unfold dcC; rw [Bool.and_assoc]
 rw [hdc] at hG
 unfold zcZ
 rw [hG]
 cases hd : dcC gr cs c l
 ·have e : cbV gr cs c l = (0, false) := by unfold cbV; rw [hd]; rfl
  rw [e]; exact ⟨rfl, hS.trans (by rw [hd]), fun h => Bool.noConfusion h⟩
 have hd2 := hd
 simp only [dcC, Bool.and_eq_true, inB, decide_eq_true_eq] at hd2
 obtain ⟨⟨⟨a1, a2⟩, a3⟩, ⟨a4, a5⟩, a6⟩ := hd2
 have hcs := List.all_eq_true.1 a3
 have g := zyP k hcs a4 hl hb
 rw [if_pos rfl, g.1]
 rw [hd] at hS
 unfold ze0
 rw [g.2]
 have hgl : (gdI gr cs c.A l l.length).1.length ≤ l.length := (zsG gr cs c.A l l.length).n
 by_cases ht : cs.length ≤ (gdI gr cs c.A l l.length).1.length
 ·have e : cbV gr cs c l = (zbT gr [c.B, zaj gr (zcs gr (cbY l ((gdI gr cs c.A l l.length).1.take cs.length)) ((List.range cs.length).map (zhu gr.Q (cbX l ((gdI gr cs c.A l l.length).1.take cs.length)) 0)) 1) (-1)], true) := by
   unfold cbV; rw [hd, if_pos (by simpa using ht)]
  have hlt : decide (((gdI gr cs c.A l l.length).1.length : Int) < (cs.length : Int)) = false := by simp; omega
  obtain ⟨L1, L2, L3, L4, L5⟩ := zCk k hq (cs := cs) (A := c.A) hl cs.length ht
  have hdr : ((gdI gr cs c.A l l.length).1.take cs.length).drop 0 = (gdI gr cs c.A l l.length).1.take cs.length := rfl
  have hxy := zxi (l := l) (g := (gdI gr cs c.A l l.length).1.take cs.length) L5 (by simp; omega)
  have h1 := zsL (x := 0) L1 (by omega)
  have h2 := zq1 (x := 0) L1 (by omega)
  rw [L2] at h1 h2
  have hY := zhT k L3
  have h3 := zoE k hY (m := (List.range cs.length).map (zhu gr.Q (cbX l ((gdI gr cs c.A l l.length).1.take cs.length)) 0)) (by simp [L4])
  have h4 := zg2 k hY (m := (List.range cs.length).map (zhu gr.Q (cbX l ((gdI gr cs c.A l l.length).1.take cs.length)) 0)) (by simp [L4])
  have hr := zyI k (cbY l ((gdI gr cs c.A l l.length).1.take cs.length)) ((List.range cs.length).map (zhu gr.Q (cbX l ((gdI gr cs c.A l l.length).1.take cs.length)) 0))
  rw [e]
  refine ⟨zaD ?_, hS, fun _ => zaD ?_⟩
  ·refine zaf rfl (zac (ψ := (· = false)) (zcU rfl (zab hlt)) ?_)
   rintro _ rfl
   refine zcU rfl ?_
   dsimp only
   exact zav (by omega) (zav (by omega) (zaf hxy (zaf h1 (zaf h3 (zaf (zAq k hr) (zaf (m2I k (zdm k a5) (zb9 k _ _)) (zab rfl)))))))
  exact zaf rfl (zcU hlt (zav (by omega) (zav (by omega) (zaf hxy (zaf h2 (zaf h4 (zaf (zlw k hr.1 hr.2) (zaf (m2S k (zdm k a5) (zb9 k _ _)) (zab rfl)))))))))
 have e : cbV gr cs c l = (0, false) := by unfold cbV; rw [if_neg (by simp [ht])]
 have hlt : decide (((gdI gr cs c.A l l.length).1.length : Int) < (cs.length : Int)) = true := by simp; omega
 rw [e]
 refine ⟨zaD ?_, hS, fun _ => zaD (zaf rfl (zfV hlt (zab rfl)))⟩
 refine zaf rfl (zac (ψ := (· = true)) (zcU rfl (zab hlt)) ?_)
 rintro _ rfl
 exact zfV rfl (zab rfl)
theorem pow_zero {gr : Group} (k : OkG gr) (x : Int) : zaj gr x 0 = 1 := by
 have hp := k.p
 unfold zaj
 rw [Int.zero_emod, Int.toNat_zero, Nat.pow_zero, Nat.mod_eq_of_lt (by omega)]
 rfl
theorem zwK {gr : Group} (k : OkG gr) {y m r : Int} (hy : zah gr y = true) (hm : zah gr m = true) (hr : E9 gr.Q r) : zc8 gr y m r = some (⟨zaj gr gr.G r, zbT gr [m, zaj gr y r]⟩, true) := by
 have hp := k.p
 have hq := k.q
 unfold zc8
 rw [zeK, ze4.2 k, zhN k, znQ (by omega) (by omega), (zlt k hy hm r).1]
 have : zcQ gr r = true := zfN.2 hr
 simp [hy, hm, this]
theorem zvL {code c0 : List Int} {at_ seed n : Int} {gr : Group} {k t : Nat} (hb : Bt code) (h : Cu code n (c0, at_, seed)) (hn : n ≤ 3000000000000000) (hg : Gw gr) (hk : k ≤ 20) (ht : t ≤ 20) :
 Rn (zbH c0 at_ seed gr (k : Int) (t : Int)) (fun z => z.1.length = k ∧ (∀ l ∈ z.1, l.length = t) ∧ Cu code (n + 2000) z.2) := by
 unfold zbH
 refine zac (ψ := fun x => x.2.length = k ∧ (∀ l ∈ x.2, l.length = t) ∧ Cu code (n + 2000) x.1) (zgT k (fun j s => s.2.1 = (k : Int) - j ∧ s.2.2.length = j ∧ (∀ l ∈ s.2.2, l.length = t) ∧ Cu code (n + 80 * j) s.1) ⟨by simp, rfl, fun l hl => by simp at hl, by simpa using h⟩ ?_ ?_) fun x hx => zab hx
 ·rintro j ⟨⟨d0, d1, d2⟩, m, out⟩ hj ⟨h1, h2, h3, h4⟩
  have h1 : m = (k : Int) - j := h1
  subst h1
  refine zfV (by simp; omega) (zac (zxI hb h4 (by omega) hg (by omega)) fun z ⟨z1, z2, z3⟩ => zav (by show (out.length + 1) * 24 ≤ _ ∧ out.length + 1 ≤ _; have : out.length = j := h2; omega) (zab ⟨?_, ?_, ?_, z3.mono (by omega)⟩))
  ·show IntKind.i64.wrap ((k : Int) - j - 1) = _
   rw [zaq (by omega) (by omega)]; omega
  ·show (out ++ [z.1]).length = j + 1
   have : out.length = j := h2
   simp [this]
  intro l hl
  rcases List.mem_append.1 (show l ∈ out ++ [z.1] from hl) with hl | hl
  ·exact h3 l hl
  rw [List.mem_singleton.1 hl]; exact z1
 rintro ⟨⟨d0, d1, d2⟩, m, out⟩ ⟨h1, h2, h3, h4⟩
 have h1 : m = (k : Int) - k := h1
 subst h1
 exact zcU (by simp) (zab ⟨h2, h3, h4.mono (by omega)⟩)
structure DlB (gr : Group) (n t : Nat) (d : Dealing) : Prop where
 s : d.Shares.length = n
 c : d.Commits.length = t
 r : ∀ y ∈ d.Commits, 0 ≤ y ∧ y ≤ 2000000000
 b : ∀ y ∈ d.Shares, 0 ≤ y ∧ y ≤ 2100000000
theorem zv7 {gr : Group} (k : OkG gr) {n t : Nat} (hn : n ≤ 20) (ht : t ≤ 20) {d : Dealing} (D : DlB gr n t d) {a : List Int} (ha : ∀ y ∈ a, 0 ≤ y ∧ y ≤ 2100000000) : Rn (zeX gr d a) (fun z => DlB gr n t z.1) := by
 have h1 := D.s
 have h2 := D.c
 unfold zeX
 refine zaf (zur k (by omega) D.r) ?_
 refine zac (ψ := fun b => b = false → a.length = (zfA gr d d.Shares.length).length) (zal (fun _ => zab fun h => by cases h) fun _ => zab fun h => by simp at h; omega) fun b hb => zal (fun _ => zab D) fun g => ?_
 have hal := hb g
 refine zaf (zhL (by omega)) (zaf (zhL (by omega)) ?_)
 refine zac (ψ := Sum.elim (fun (x : List Int × List Int) => DlB gr n t ⟨x.1, x.2⟩) (fun (z : Dealing × Bool) => DlB gr n t z.1)) (zat (fun i s => DlB gr n t ⟨s.1, s.2⟩) D ?_ fun s h => h) ?_
 ·rintro i ⟨s1, s2⟩ hi D'
  have hx := znY _ (List.getElem_mem hi)
  obtain ⟨j, hj⟩ := Int.eq_ofNat_of_zero_le (show 0 ≤ (zfA gr d d.Shares.length)[i] - 1 by omega)
  have hs2 : s2.length = n := D'.s
  have hai : i < a.length := by omega
  refine zaz hi (zaz hai (zaf (zny k (by omega) (by omega) D.r) (zal (fun _ => zab D) fun _ => ?_)))
  rw [zaq (n := (zfA gr d d.Shares.length)[i] - 1) (by omega) (by omega), hj]
  refine zaz (show j < s2.length by omega) (zab ⟨?_, D'.c, D'.r, fun y hy => ?_⟩)
  ·show (s2.set _ _).length = n
   rw [List.length_set]; exact hs2
  rcases List.mem_or_eq_of_mem_set (show y ∈ s2.set _ _ from hy) with h | h
  ·exact D'.b y h
  rw [h]; exact zho ha hai
 rintro (x | z) hx
 ·exact zab hx
 exact zab hx
theorem zxw {gr : Group} (k : OkG gr) {n t : Nat} (hn : n ≤ 20) (ht : t ≤ 20) {l : List Dealing} {asl : List (List Int)} (hl : l.length ≤ 20) (ha : asl.length = l.length) (D : ∀ d ∈ l, DlB gr n t d) (A : ∀ a ∈ asl, ∀ y ∈ a, 0 ≤ y ∧ y ≤ 2100000000) : Rn (zd1 gr l asl) (fun z => z.1.length ≤ l.length ∧ z.1.length = z.2.length ∧ ∀ d ∈ z.2, DlB gr n t d) := by
 unfold zd1
 refine zac (ψ := fun (z : List Int × List Dealing) => z.1.length ≤ l.length ∧ z.1.length = z.2.length ∧ ∀ d ∈ z.2, DlB gr n t d) (zat (fun i s => s.1.length ≤ i ∧ s.1.length = s.2.length ∧ ∀ d ∈ s.2, DlB gr n t d) ⟨by simp, rfl, fun d hd => by simp at hd⟩ ?_ fun s h => h) fun z hz => zab hz
 rintro i ⟨s1, s2⟩ hi ⟨h1, h2, h3⟩
 have h1 : s1.length ≤ i := h1
 have h2 : s1.length = s2.length := h2
 refine zac (ψ := fun (z : List Int × List Dealing) => z.1.length ≤ i + 1 ∧ z.1.length = z.2.length ∧ ∀ d ∈ z.2, DlB gr n t d) ?_ fun z hz => zab hz
 have hia : i < asl.length := by omega
 refine zaz hi (zaz hia (zac (zv7 k hn ht (zho D hi) (zho A hia)) fun z hz => zal (fun _ => zav (by dsimp only; omega) (zav (by dsimp only; omega) (zab ⟨by simp; omega, by simp [h2], fun d hd => ?_⟩))) fun _ => zab ⟨by dsimp only; omega, h2, h3⟩))
 rcases List.mem_append.1 hd with h | h
 ·exact h3 d h
 rw [List.mem_singleton.1 h]; exact hz
theorem zzn {gr : Group} (k : OkG gr) {n t : Nat} (hn : n ≤ 20) (ht : t ≤ 20) {l : List Dealing} (hl : 1 ≤ l.length ∧ l.length ≤ 20) (D : ∀ d ∈ l, DlB gr n t d) : Rn (zgw gr l) (DlB gr n t) := by
 have hp := k.p
 have hq := k.q
 have h0 := zho (i := 0) D (by omega)
 have h1 := h0.s
 have h2 := h0.c
 unfold zgw
 refine zaz (k := 0) (by omega) (zaf (zhL (by omega)) (zaf (zhL (by omega)) (zav (by omega) ?_)))
 refine zac (ψ := fun (x : List Int × List Int) => DlB gr n t ⟨x.1, x.2⟩) (zat (fun i s => DlB gr n t ⟨s.1, s.2⟩) h0 ?_ fun s h => h) fun x hx => zab hx
 rintro i ⟨s1, s2⟩ hi D'
 have hd : DlB gr n t ((l.take l.length).drop 1)[i] := D _ (by
  have := List.getElem_mem hi
  exact List.mem_of_mem_take (List.mem_of_mem_drop this))
 refine zac (ψ := fun (x : List Int × List Int) => DlB gr n t ⟨x.1, x.2⟩) (zaf (zea hi) ?_) fun x hx => zab hx
 generalize ((l.take l.length).drop 1)[i] = d at hd
 have d1 := hd.s
 have d2 := hd.c
 refine zac (ψ := fun (x : List Int × List Int) => DlB gr n t ⟨x.1, x.2⟩) (zat (fun i s => DlB gr n t ⟨s.1, s.2⟩) D' ?_ fun s h => h) fun x hx => zat (fun i s => DlB gr n t ⟨s.1, s.2⟩) hx ?_ fun s h => h
 ·rintro j ⟨u1, u2⟩ hj E
  have e1 : u1.length = t := E.c
  have hju : j < u1.length := by omega
  have r1 := zho hd.r hj
  have r2 : R9 u1[j] := zho E.r hju
  refine zaz hj (zaz hju (zaf (m2S k r2 r1) (zab ⟨E.s, ?_, fun y hy => ?_, E.b⟩)))
  ·show (u1.set _ _).length = t
   rw [List.length_set]; exact e1
  rcases List.mem_or_eq_of_mem_set (show y ∈ u1.set _ _ from hy) with h | h
  ·exact E.r y h
  rw [h]; exact zjU k r2 r1
 rintro j ⟨u1, u2⟩ hj E
 have e1 : u2.length = n := E.s
 have hju : j < u2.length := by omega
 have r1 := zho hd.b hj
 have r2 : 0 ≤ u2[j] ∧ u2[j] ≤ 2100000000 := zho E.b hju
 refine zaz hj (zaz hju (zav (by omega) (zab ⟨?_, E.c, E.r, fun y hy => ?_⟩)))
 ·show (u2.set _ _).length = n
  rw [List.length_set]; exact e1
 rcases List.mem_or_eq_of_mem_set (show y ∈ u2.set _ _ from hy) with h | h
 ·exact E.b y h
 rw [h, zaq (n := u2[j] + d.Shares[j]) (by omega) (by omega), Int.tmod_eq_emod_of_nonneg (by omega)]
 have a := Int.emod_nonneg (u2[j] + d.Shares[j]) (show gr.Q ≠ 0 by omega)
 have b := Int.emod_lt_of_pos (u2[j] + d.Shares[j]) (show 0 < gr.Q by omega)
 omega
structure KgB (gr : Group) (z : KeyGen) : Prop where
 s : z.Shares.length ≤ 20
 b : ∀ y ∈ z.Shares, 0 ≤ y ∧ y ≤ 2100000000
 y : 0 ≤ z.Key ∧ z.Key ≤ 2000000000
theorem zwn {gr : Group} (k : OkG gr) {n t : Nat} (hn : n ≤ 20) (ht : 1 ≤ t ∧ t ≤ 20) {l : List Dealing} {asl : List (List Int)} (hl : l.length ≤ 20) (ha : asl.length = l.length) (D : ∀ d ∈ l, DlB gr n t d) (A : ∀ a ∈ asl, ∀ y ∈ a, 0 ≤ y ∧ y ≤ 2100000000) : Rn (zey gr l asl) (fun z => KgB gr z.1) := by
 unfold zey
 refine zac (zxw k hn ht.2 hl ha D A) fun z ⟨z0, z1, z2⟩ => zal (fun _ => zab ⟨by simp, fun y hy => by simp at hy, by show (0 : Int) ≤ 0; decide, by show (0 : Int) ≤ _; decide⟩) fun g => ?_
 have g : ¬ (z.1.length : Int) = 0 := by simpa using g
 refine zac (zzn k hn ht.2 (l := z.2) (by omega) z2) fun x hx => ?_
 have hc := hx.c
 refine zaz (k := 0) (by omega) (zab ⟨by have := hx.s; show x.Shares.length ≤ 20; omega, hx.b, hx.r _ (List.getElem_mem _)⟩)
theorem zu7 {code c0 : List Int} {at_ seed n : Int} {gr : Group} (hb : Bt code) (h : Cu code n (c0, at_, seed)) (hn : n ≤ 1000000000000000) (hg : Gw gr) : Rn (zcy c0 at_ seed gr) (fun z => KgB gr z.1 ∧ Cu code (n + 3000) z.2) := by
 unfold zcy
 refine zac (ziE (m := 5) hb h (by omega) (by omega)) fun z ⟨⟨K, hK, hK2⟩, z2⟩ => zaf (zgU gr) (zal (fun _ => zab ⟨⟨by simp, fun y hy => by simp at hy; subst hy; decide, by show (0 : Int) ≤ 1; decide, by show (1 : Int) ≤ _; decide⟩, z2.mono (by omega)⟩) fun g => ?_)
 have g : okG gr = true ∧ 7 < gr.Q := by simpa using g
 have k := ze4.1 g.1
 have e : IntKind.i64.wrap (1 + z.1) = ((K + 1 : Nat) : Int) := by rw [zaq (n := 1 + z.1) (by omega) (by omega)]; omega
 rw [e]
 refine zac (ziE (m := K + 1) hb z2 (by omega) (by omega)) fun y ⟨⟨T, hT, hT2⟩, y2⟩ => ?_
 have e2 : IntKind.i64.wrap (1 + y.1) = ((T + 1 : Nat) : Int) := by rw [zaq (n := 1 + y.1) (by omega) (by omega)]; omega
 rw [e2]
 refine zac (zvL hb y2 (by omega) hg (by omega) (by omega)) fun p ⟨p1, p2, p3⟩ => zaf (zwY gr p.1 []) ?_
 refine zac (ψ := fun z => KgB gr z.1) ?_ fun z hz => zab ⟨hz, p3.mono (by omega)⟩
 by_cases P : PlOk gr p.1 []
 ·rw [zwl P]
  have hq := k.q
  have hp := k.p
  have D := fun i (hi : i < p.1.length) => ztN P hi
  refine zwn k (n := K + 1) (t := (p.1.headD []).length) (by omega) (by have := P.t; omega) (by simp; omega) (by simp) (fun d hd => ?_) fun a ha y hy => ?_
  ·obtain ⟨i, hi, rfl⟩ := List.mem_map.1 hd
   obtain ⟨a1, a2, a3, a4⟩ := D i (List.mem_range.1 hi)
   exact ⟨by omega, a3, zhT k a4, fun y hy => by have := a2 y hy; omega⟩
  obtain ⟨i, hi, rfl⟩ := List.mem_map.1 ha
  have hy : y ∈ plA gr p.1 [] i := hy
  unfold plA at hy
  split at hy
  ·obtain ⟨x, _, rfl⟩ := List.mem_map.1 hy
   have := zkF (q := gr.Q) (by omega) (p.1.getD i []) x
   omega
  simp at hy
 rw [zph P]
 exact zwn k (n := 0) (t := 1) (by omega) (by omega) (by simp) (by simp) (fun d hd => by simp at hd) fun a ha => by simp at ha
theorem znz {code c0 : List Int} {at_ seed n : Int} {gr : Group} (k : OkG gr) (hb : Bt code) (h : Cu code n (c0, at_, seed)) (hn : n ≤ 6000000000000000) : Rn (zay c0 at_ seed gr) (fun z => R9 z.1 ∧ Cu code (n + 4) z.2) := by
 have hp := k.p
 have hq := k.q
 have hG := k.g
 unfold zay
 refine zac (ψ := (· = false)) (zcU (by simp; omega) (zab (by simp; omega))) ?_
 rintro _ rfl
 have e : gr.G % gr.P = gr.G := Int.emod_eq_of_lt (by omega) (by omega)
 refine zcU rfl (zaf (zhW (by omega) (by omega)) (zac (zhY hb h (by omega) (by omega)) fun z ⟨z1, z2, _, z3⟩ => ?_))
 rw [e]
 exact zaf (pwS k (r_G k) _) (zab ⟨zb9 k _ _, z3⟩)
theorem zoB {code c0 : List Int} {at_ seed n : Int} {gr : Group} (k : OkG gr) (hb : Bt code) (h : Cu code n (c0, at_, seed)) (hn : n ≤ 4000000000000000) : Rn (zbc c0 at_ seed gr) (fun z => (R9 z.1.A ∧ R9 z.1.B) ∧ Cu code (n + 8) z.2) := by
 unfold zbc
 exact zac (znz k hb h (by omega)) fun z ⟨z1, z3⟩ => zac (znz k hb z3 (by omega)) fun y ⟨y1, y3⟩ => zab ⟨⟨z1, y1⟩, y3.mono (by omega)⟩
theorem zwP {gr : Group} (k : OkG gr) {c : Cipher} (hA : R9 c.A) (i : Int) {x w : Int} : Rn (zfb gr c i x w) (fun p => lp 2 p.Pi) := by
 have hq := k.q
 have im : ∀ e, zbX gr [[gr.G], [c.A]] [e] = some [zaj gr gr.G e, zaj gr c.A e] := fun e => by
  unfold zbX
  have hr : ∀ r ∈ [[gr.G], [c.A]], zcV gr r [e] = some (zcs gr r [e] 1) := fun r hr => by
   simp only [List.mem_cons, List.not_mem_nil, or_false] at hr
   rcases hr with rfl | rfl
   ·exact zg2 k (fun y hy => by rw [List.mem_singleton] at hy; subst hy; exact r_G k) (by simp)
   ·exact zg2 k (fun y hy => by rw [List.mem_singleton] at hy; subst hy; exact hA) (by simp)
  rw [zqb (l := [[gr.G], [c.A]]) (f := fun r => zcs gr r [e] 1) []]
  ·simp [zjQ k]
  ·intro j hj s hs
   rw [zea hj, Option.bind_some, hr _ (List.getElem_mem hj), Option.bind_some, zeo (by simp at hs hj; omega)]
 have hd : ([[gr.G], [c.A]].flatten ++ [zaj gr gr.G x, zaj gr c.A x] ++ [zaj gr gr.G w, zaj gr c.A w]).all zb6 = true := by
  refine zpn fun z hz => ?_
  simp at hz
  rcases hz with rfl | rfl | rfl | rfl | rfl | rfl
  ·exact r_G k
  ·exact hA
  ·exact zb9 k _ _
  ·exact zb9 k _ _
  ·exact zb9 k _ _
  ·exact zb9 k _ _
 unfold zfb zcm
 refine zaf (pwS k hA _) (zac (ψ := lp 2) ?_ fun p hp => zab hp)
 refine zaf (im w) (zaf (im x) (zaf (zlr (by simp) (by simp) (by simp)) (zaf (zf8 k (by decide) (by simp) hd) ?_)))
 refine zac (ψ := fun (s : List Int × List Int × List Int) => s.1.length ≤ 2 ∧ s.2.1.length ≤ 2 ∧ s.2.2.length ≤ 2) (zat (fun i s => s.1.length ≤ 2 ∧ s.2.1.length ≤ 2 ∧ s.2.2.length ≤ i) (by simp) ?_ fun s h => ⟨h.1, h.2.1, by show s.2.2.length ≤ 2; have := h.2.2; have e : [x].length = 1 := rfl; omega⟩) fun s h => zab h
 rintro j s hj ⟨h1, h2, h3⟩
 have hj' : j < 1 := by simpa using hj
 exact zaz hj (zaz (l := [w]) (show j < [w].length by simpa using hj') (zav (by omega) (zav (by omega) (zab ⟨h1, h2, by simp; omega⟩))))
def PtB (l : List Partial) (n : Nat) : Prop := l.length ≤ n ∧ ∀ p ∈ l, p.Pi.Commits.length ≤ 10
theorem PtB.snoc {l : List Partial} {n : Nat} (h : PtB l n) {p : Partial} (hp : p.Pi.Commits.length ≤ 10) : PtB (l ++ [p]) (n + 1) := ⟨by have := h.1; simp; omega, fun q hq => by
 rcases List.mem_append.1 hq with h1 | h1
 ·exact h.2 q h1
 ·rw [List.mem_singleton.1 h1]; exact hp⟩
def zgp (gr : Group) (a b : Cipher) : Cipher := ⟨zbT gr [a.A, zaj gr b.A (-1)], zbT gr [a.B, zaj gr b.B (-1)]⟩
theorem zbk {gr : Group} {c : Cipher} (h : zaX gr c = true) : zah gr c.A = true ∧ zah gr c.B = true := by simpa [zaX] using h
theorem zpw {gr : Group} (k : OkG gr) {a b : Cipher} (ha : zaX gr a = true) (hb : zaX gr b = true) : zcc gr a b = some (zgp gr a b) ∧ zdX gr a b = some (zgp gr a b) := by
 have a1 := zdm k (zbk ha).1
 have a2 := zdm k (zbk ha).2
 have b1 := zdm k (zbk hb).1
 have b2 := zdm k (zbk hb).2
 refine ⟨?_, ?_⟩
 ·unfold zcc
  rw [zts k a1.1 a1.2 b1.1 b1.2, zts k a2.1 a2.2 b2.1 b2.2]
  rfl
 unfold zdX
 rw [zlw k b1.1 b1.2, zlw k b2.1 b2.2]
 simp only [Option.bind_some, m2S k a1 (zb9 k _ _), m2S k a2 (zb9 k _ _)]
 rfl
theorem zwF {gr : Group} (k : OkG gr) {a b : Cipher} (ha : zaX gr a = true) (hb : zaX gr b = true) : zaX gr (zgp gr a b) = true := by
 simp only [zaX, zgp, zh4 k (zbk ha).1 (zeA k (zbk hb).1 _), zh4 k (zbk ha).2 (zeA k (zbk hb).2 _), Bool.and_self]
theorem zrQ {gr : Group} (k : OkG gr) (a b : Cipher) : zb3 gr a b = some (if (zaX gr a && zaX gr b) = true then (zgp gr a b, true) else (⟨0, 0⟩, false)) := by
 unfold zb3
 rw [zeK, ze4.2 k, zes k, zes k]
 show _ = some (if ((zah gr a.A && zah gr a.B) && (zah gr b.A && zah gr b.B)) = true then (zgp gr a b, true) else (⟨0, 0⟩, false))
 cases h1 : (zah gr a.A && zah gr a.B)
 ·rfl
 cases h2 : (zah gr b.A && zah gr b.B)
 ·rfl
 have := (zpw k (show zaX gr a = true from h1) (show zaX gr b = true from h2)).1
 simp [this]
theorem zvQ {gr : Group} (k : ¬ OkG gr) (a b : Cipher) : zb3 gr a b = some (⟨0, 0⟩, false) := by
 unfold zb3
 rw [zeK, ze9 k]
 rfl
def cmV (gr : Group) (a b : Cipher) : Cipher := ⟨zbT gr [a.A, b.A], zbT gr [a.B, b.B]⟩
theorem zyG {gr : Group} (k : OkG gr) {a b : Cipher} (ha : zaX gr a = true) (hb : zaX gr b = true) : zbJ gr a b = some (cmV gr a b) ∧ zcT gr [a, b] = some (cmV gr a b) := by
 have a1 := zdm k (zbk ha).1
 have a2 := zdm k (zbk ha).2
 have b1 := zdm k (zbk hb).1
 have b2 := zdm k (zbk hb).2
 have hp := k.p
 have c1 := ze1 (zbk ha).1
 have c2 := ze1 (zbk ha).2
 refine ⟨?_, ?_⟩
 ·unfold zbJ
  rw [m2I k a1 b1, m2I k a2 b2]
  rfl
 unfold zcT
 simp only [List.length_cons, List.length_nil, zap]
 have e0 : ∀ {a b : Cipher}, ix [a, b] 0 = some a := fun {a b} => rfl
 have e1 : ∀ {a b : Cipher}, ix [a, b] (0 + 1) = some b := fun {a b} => rfl
 simp only [e0, e1, Option.bind_some, znB k (x := a.A) ⟨by omega, by omega⟩, znB k (x := a.B) ⟨by omega, by omega⟩, m2S k a1 b1, m2S k a2 b2]
 rfl
theorem zup {gr : Group} (k : OkG gr) {a b : Cipher} (ha : zaX gr a = true) (hb : zaX gr b = true) : zaX gr (cmV gr a b) = true := by
 simp only [zaX, cmV, zh4 k (zbk ha).1 (zbk hb).1, zh4 k (zbk ha).2 (zbk hb).2, Bool.and_self]
theorem zsK {gr : Group} {x y : Int} (hx : zah gr x = true) (hy : zah gr y = true) : LinS gr [[x], [y]] := by
 refine ⟨by simp, by simp, fun r hr => ?_⟩
 simp only [List.mem_cons, List.not_mem_nil, or_false] at hr
 rcases hr with rfl | rfl
 ·simp [hx]
 simp [hy]
theorem zqe {gr : Group} (k : OkG gr) {x y : Int} (hx : zah gr x = true) (hy : zah gr y = true) : zbS gr [[x], [y]] = some true := by
 have e : ∀ z, zah gr z = true → zcz [z] [[x], [y]] gr.P gr.Q gr.G = some false := fun z hz => by
  unfold zcz
  have hh : za2 ⟨gr.P, gr.Q, gr.G⟩ [z] = some true := by
   rw [show (⟨gr.P, gr.Q, gr.G⟩ : Group) = gr from rfl, zhN k]
   simp [hz]
  simp [ix, hh]
 have h1 : zaJ [[x], [y]] [[x], [y]] gr.P gr.Q gr.G = some (-1) := by
  unfold zaJ
  refine zaD (zac (ψ := fun v => v = .inl ()) (zat (fun _ _ => True) trivial ?_ fun s _ => rfl) ?_)
  ·rintro i s hi _
   have hi : i < 2 := hi
   rcases (show i = 0 ∨ i = 1 by omega) with rfl | rfl
   ·exact zaz (l := [[x], [y]]) (by simp) (zaf (e x hx) (zcU rfl (zab trivial)))
   ·exact zaz (l := [[x], [y]]) (by simp) (zaf (e y hy) (zcU rfl (zab trivial)))
  ·rintro _ rfl
   exact zab rfl
 unfold zbS zaR
 rw [zye, show ix [[x], [y]] 0 = some [x] from rfl, h1]
 rfl
theorem zok {gr : Group} (k : OkG gr) {s : ByteArray} (hs : s.size ≤ 40) {e : EqualLog} (h1 : zah gr e.G1 = true) (h2 : zah gr e.G2 = true) (h3 : zah gr e.Y1 = true) (h4 : zah gr e.Y2 = true) {p : Proof} (hp : p.Commits.length ≤ 1048576) :
 zc9 gr s e p = some (ziK gr s [[e.G1], [e.G2]] [e.Y1, e.Y2] p, true) ∧ zcg gr s e p = some (ziK gr s [[e.G1], [e.G2]] [e.Y1, e.Y2] p) := by
 have ha : [e.Y1, e.Y2].all (zah gr) = true := by simp [h3, h4]
 refine ⟨?_, ?_⟩
 ·unfold zc9 zdG zeR zdO
  rw [zeK, ze4.2 k, Option.bind_some, zqe k h1 h2, zhN k, ha, zoA k hs (zsK h1 h2) rfl ha hp]
  have : ((s.size : Int) ≤ 40) := by omega
  simp [this]
 unfold zcg
 rw [zoV k hs (zsK h1 h2) rfl ha hp]
 rfl
abbrev blS : ByteArray := ⟨#[98, 108, 105, 110, 100]⟩
def zjs (c : Cipher) : Bool := c.A == 1 && c.B == 1
def blB (gr : Group) (c : Cipher) (b : Blind) : Bool := trB b.Index && (zaX gr b.Value && (!(zjs b.Value && !zjs c) && ziK gr blS [[c.A], [c.B]] [b.Value.A, b.Value.B] b.Pi))
theorem zna (c : Cipher) : zfO c = some (zjs c) := by
 unfold zfO zjs
 cases c.A == 1 <;> rfl
theorem zAX {gr : Group} (k : OkG gr) {c : Cipher} (hc : zaX gr c = true) {b : Blind} (hp : b.Pi.Commits.length ≤ 1048576) : zcv gr c b = some (blB gr c b) := by
 unfold zcv zed blB
 rw [zme, zes k]
 cases h1 : trB b.Index
 ·rfl
 cases h2 : zaX gr b.Value
 ·rw [show (zah gr b.Value.A && zah gr b.Value.B) = false from h2]; rfl
 rw [show (zah gr b.Value.A && zah gr b.Value.B) = true from h2]
 have hv := (zok k (s := blS) (by decide) (e := ⟨c.A, b.Value.A, c.B, b.Value.B⟩) (zbk hc).1 (zbk hc).2 (zbk h2).1 (zbk h2).2 hp).1
 rw [show (b.Value.A == 1 && b.Value.B == 1) = zjs b.Value from rfl, show (c.A == 1 && c.B == 1) = zjs c from rfl]
 cases h3 : zjs b.Value <;> cases h4 : zjs c <;> simp [hv] <;> cases ziK gr blS [[c.A], [c.B]] [b.Value.A, b.Value.B] b.Pi <;> rfl
theorem zAE {gr : Group} (k : OkG gr) {c : Cipher} (hc : zaX gr c = true) {b : Blind} (hp : b.Pi.Commits.length ≤ 1048576) : zda gr c b = some (blB gr c b) := by
 unfold zda blB
 rw [zf4, show (decide (1 ≤ b.Index) && decide (b.Index ≤ 7)) = trB b.Index from rfl, zgS k, zna, zna]
 cases h1 : trB b.Index
 ·rfl
 cases h2 : zaX gr b.Value
 ·rw [show (zah gr b.Value.A && zah gr b.Value.B) = false from h2]; rfl
 rw [show (zah gr b.Value.A && zah gr b.Value.B) = true from h2]
 have hv := (zok k (s := blS) (by decide) (e := ⟨c.A, b.Value.A, c.B, b.Value.B⟩) (zbk hc).1 (zbk hc).2 (zbk h2).1 (zbk h2).2 hp).2
 cases h3 : zjs b.Value <;> cases h4 : zjs c <;> simp [hv]
abbrev bl0 : Blind := ⟨0, ⟨0, 0⟩, ⟨[], [], []⟩⟩
def bcF (gr : Group) (c : Cipher) (l : List Blind) (i : Nat) (s : Int × Int × List Int) : Int × Int × List Int :=
 if (!s.2.2.contains (l.getD i bl0).Index && blB gr c (l.getD i bl0)) = true then ((cmV gr ⟨s.1, s.2.1⟩ (l.getD i bl0).Value).A, (cmV gr ⟨s.1, s.2.1⟩ (l.getD i bl0).Value).B, s.2.2 ++ [(l.getD i bl0).Index]) else s
def bcV (gr : Group) (c : Cipher) (l : List Blind) : Int × Int × List Int := itr (bcF gr c l) l.length (1, 1, [])
theorem znW {gr : Group} {c : Cipher} {b : Blind} (h : blB gr c b = true) : zaX gr b.Value = true := by
 simp only [blB, Bool.and_eq_true] at h
 exact h.2.1
theorem zr3 {gr : Group} (k : OkG gr) : zaX gr ⟨1, 1⟩ = true := by simp [zaX, ziq k]
theorem ztL {gr : Group} (k : OkG gr) (c : Cipher) (l : List Blind) : ∀ n, zaX gr ⟨(itr (bcF gr c l) n (1, 1, [])).1, (itr (bcF gr c l) n (1, 1, [])).2.1⟩ = true
 | 0 => zr3 k
 | n + 1 => by
  have h := ztL k c l n
  show zaX gr ⟨(bcF gr c l n (itr (bcF gr c l) n (1, 1, []))).1, (bcF gr c l n (itr (bcF gr c l) n (1, 1, []))).2.1⟩ = true
  generalize itr (bcF gr c l) n (1, 1, []) = s at h
  unfold bcF
  split
  ·rename_i hc
   simp only [Bool.and_eq_true] at hc
   exact zup k h (znW hc.2)
  ·exact h
theorem zrV {gr : Group} (k : OkG gr) {c : Cipher} {l : List Blind} (hl : l.length ≤ 1000) (C : List Int → Int → Option Bool) (V : Blind → Option Bool) (M : Cipher → Cipher → Option Cipher) (hC : ∀ l x, C l x = some (l.contains x)) (hV : ∀ b ∈ l, V b = some (blB gr c b)) (hM : ∀ x y, zaX gr x = true → zaX gr y = true → M x y = some (cmV gr x y)) :
 (zap (σ := Int × Int × List Int) (fun i32 s31 =>
 (((ix l i32).bind fun x41 =>
 (((C s31.2.2 x41.Index).bind fun z45 =>
 if (!z45) = true then (
 (V x41).bind fun z47 =>
 some z47) else (
 some false) : Option Bool).bind fun x44 =>
 if x44 = true then (
 (M (Cipher.mk s31.1 s31.2.1) x41.Value).bind fun z49 =>
 gd ((s31.2.2.length + 1) * 8 ≤ 140737488355328 ∧ s31.2.2.length + 1 ≤ 4611686018427387904) <|
 some (z49.A, z49.B, s31.2.2 ++ [x41.Index])) else (
 some (s31.1, s31.2.1, s31.2.2))) : Option ((Int × Int × List Int))).bind fun x40 =>
 some (.go (x40.1, x40.2.1, x40.2.2)))) (fun s31 => (s31.1, s31.2.1, s31.2.2)) (l.length) 0 (1, 1, []) : Option ((Int × Int × List Int))) = some (bcV gr c l) := by
 refine ztW (bcF gr c l) (fun i s => s.2.2.length ≤ i ∧ zaX gr ⟨s.1, s.2.1⟩ = true) ⟨by simp, zr3 k⟩ (fun i s _ h => ?_) fun i s hi h => ?_
 ·unfold bcF; split
  ·rename_i hc
   simp only [Bool.and_eq_true] at hc
   exact ⟨by simp; omega, zup k h.2 (znW hc.2)⟩
  exact ⟨by omega, h.2⟩
 rw [zea hi, Option.bind_some, hC, Option.bind_some, hV _ (List.getElem_mem hi)]
 unfold bcF
 rw [zix hi]
 cases h1 : s.2.2.contains l[i].Index
 ·cases h2 : blB gr c l[i]
  ·rfl
  have := hM ⟨s.1, s.2.1⟩ l[i].Value h.2 (znW h2)
  simp only [Bool.not_false, if_true, Option.bind_some, this, Bool.and_self]
  rw [zeo (by omega)]
  rfl
 rfl
def bdB (l : List Blind) : Prop := ∀ b ∈ l, b.Pi.Commits.length ≤ 1048576
def cbB (gr : Group) (c : Cipher) (l : List Blind) : Cipher × List Int × Bool :=
 if (zaX gr c && (decide (l.length ≤ 14) && !(((bcV gr c l).2.2.length : Int) == 0))) = true then (⟨(bcV gr c l).1, (bcV gr c l).2.1⟩, (bcV gr c l).2.2, true) else (⟨0, 0⟩, [], false)
theorem zBZ {gr : Group} (k : OkG gr) (c : Cipher) {l : List Blind} (hb : bdB l) (hl : l.length ≤ 1000) : zdh gr c l = some (cbB gr c l) ∧ zdg gr c l = some (cbB gr c l) := by
 have e15 : decide (14 < (l.length : Int)) = !decide (l.length ≤ 14) := by rw [← decide_not]; exact decide_eq_decide.2 (by omega)
 unfold zdh zdg zdn cbB
 rw [zeK, ziT, ze4.2 k, zes k, zgS k, e15, show (zah gr c.A && zah gr c.B) = zaX gr c from rfl]
 cases h1 : zaX gr c
 ·exact ⟨rfl, rfl⟩
 cases h2 : decide (l.length ≤ 14)
 ·exact ⟨rfl, rfl⟩
 have i1 := zrV k (c := c) hl za3 (zcv gr c) (zbJ gr) znl (fun b hm => zAX k h1 (hb b hm)) fun x y hx hy => (zyG k hx hy).1
 have i2 := zrV k (c := c) hl zd5 (zda gr c) (fun x y => zcT gr [x, y]) zn2 (fun b hm => zAE k h1 (hb b hm)) fun x y hx hy => (zyG k hx hy).2
 simp only [Bool.not_true, Bool.false_eq_true, if_false, Option.bind_some]
 rw [i1, i2]
 simp only [Option.bind_some, Bool.true_and]
 cases h3 : (((bcV gr c l).2.2.length : Int) == 0) <;> exact ⟨rfl, rfl⟩
theorem zxB {gr : Group} (k : OkG gr) {c : Cipher} {l : List Blind} (h : (cbB gr c l).2.2 = true) : zaX gr (cbB gr c l).1 = true := by
 unfold cbB at h ⊢
 split at h
 ·rename_i h1
  rw [if_pos h1]
  exact ztL k c l l.length
 cases h
theorem zyR (gr : Group) (cs : List Int) (a b : Cipher) {l : List Blind} {ps : List Partial} (hl : bdB l) (hl2 : l.length ≤ 1000) (hp : bdP ps) (hp2 : ps.length ≤ 1000) : ∃ v, zeN gr cs a b l ps = some v ∧ zeO gr cs a b l ps = some v := by
 unfold zeN zeO
 by_cases k : OkG gr
 ·rw [zrQ k, zmc, ze4.2 k, zgS k b, show (zah gr b.A && zah gr b.B) = zaX gr b from rfl]
  by_cases hq : 7 < gr.Q
  ·obtain ⟨_, t2, _⟩ := zwg k hq cs a hp hp2
   rw [t2, decide_eq_true hq]
   cases ha : zaX gr a
   ·have : dcC gr cs a ps = false := by
     unfold dcC; rw [show (zah gr a.A && zah gr a.B) = false from ha]; simp
    rw [this]; exact ⟨(false, false), rfl, rfl⟩
   cases hb : zaX gr b
   ·cases dcC gr cs a ps <;> exact ⟨(false, false), rfl, rfl⟩
   have hx := zwF k ha hb
   obtain ⟨c1, c2⟩ := zBZ k (zgp gr a b) hl hl2
   simp only [Bool.and_self, if_true, Option.bind_some, Bool.not_true, Bool.false_eq_true, if_false, (zpw k ha hb).2, c1, c2]
   cases ho : (cbB gr (zgp gr a b) l).2.2
   ·cases dcC gr cs a ps <;> exact ⟨(false, false), rfl, rfl⟩
   have hh := zxB k ho
   obtain ⟨s1, s2, s3⟩ := zwg k hq cs (cbB gr (zgp gr a b) l).1 hp hp2
   have hd : dcC gr cs (cbB gr (zgp gr a b) l).1 ps = dcC gr cs a ps := by
    unfold dcC
    rw [show (zah gr a.A && zah gr a.B) = true from ha, show (zah gr (cbB gr (zgp gr a b) l).1.A && zah gr (cbB gr (zgp gr a b) l).1.B) = true from hh]
   simp only [Bool.not_true, Bool.false_eq_true, if_false, s1, Option.bind_some]
   cases h2 : dcC gr cs a ps
   ·have : cbV gr cs (cbB gr (zgp gr a b) l).1 ps = (0, false) := by unfold cbV; rw [hd, h2]; rfl
    rw [this]; exact ⟨(false, false), rfl, rfl⟩
   rw [s3 (hd.trans h2)]
   generalize cbV gr cs (cbB gr (zgp gr a b) l).1 ps = z
   obtain ⟨z1, z2⟩ := z
   cases z2
   ·exact ⟨(false, false), rfl, rfl⟩
   exact ⟨(z1 == 1, true), rfl, rfl⟩
  have e : decide (7 < gr.Q) = false := decide_eq_false hq
  have t : zco gr cs a ps = some false := by
   unfold zco; rw [zgU, e, Bool.and_false]; rfl
  rw [t, e]
  refine ⟨(false, false), ?_, rfl⟩
  cases (zaX gr a && zaX gr b) <;> rfl
 have t : zco gr cs a ps = some false := by
  unfold zco; rw [zgU, ze9 k]; rfl
 rw [zvQ k, t]
 exact ⟨(false, false), rfl, rfl⟩
def eqE (gr : Group) (s : ByteArray) (g h x w : Int) : Int := chG gr s ([[g], [h]].flatten ++ [zaj gr g x, zaj gr h x] ++ [zaj gr g w, zaj gr h w])
def eqP (gr : Group) (s : ByteArray) (g h x w : Int) : Proof := ⟨[zaj gr g w, zaj gr h w], [eqE gr s g h x w], [(w + eqE gr s g h x w * x) % gr.Q]⟩
theorem zCv {gr : Group} (k : OkG gr) {s : ByteArray} {g h : Int} (hg : zah gr g = true) (hh : zah gr h = true) {x w : Int} (hx : 0 ≤ x) (hw : 0 ≤ w) : ziK gr s [[g], [h]] [zaj gr g x, zaj gr h x] (eqP gr s g h x w) = true := by
 have hq := k.q
 have he : 0 ≤ eqE gr s g h x w ∧ eqE gr s g h x w < gr.Q := zqu k s _
 have hE : chG gr s [g, h, zaj gr g x, zaj gr h x, zaj gr g w, zaj gr h w] = eqE gr s g h x w := rfl
 have h1 : zcQ gr ((w + eqE gr s g h x w * x) % gr.Q) = true := by
  have a := Int.emod_nonneg (w + eqE gr s g h x w * x) (show gr.Q ≠ 0 by omega)
  have b := Int.emod_lt_of_pos (w + eqE gr s g h x w * x) (show 0 < gr.Q by omega)
  simp only [zcQ, Bool.and_eq_true, decide_eq_true_eq]; omega
 have h2 : ∀ y, zah gr y = true → zcs gr [y] [(w + eqE gr s g h x w * x) % gr.Q] 1 = zbT gr [zaj gr y w, zaj gr (zaj gr y x) (eqE gr s g h x w)] := fun y hy => by
  rw [zjQ k, zvO k hy hx he.1, ztK k hy hw (Int.mul_nonneg hx he.1)]
  refine zov _ ?_
  rw [zgi, Int.mul_comm x]
 have h3 := h2 g hg
 have h4 := h2 h hh
 have h5 := zeA k hg w
 have h6 := zeA k hh w
 unfold ziK eqP
 generalize eqE gr s g h x w = c at he hE h1 h3 h4 ⊢
 simp only [List.length_cons, List.length_nil, List.headD_cons, List.all_cons, List.all_nil, h5, h6, h1, Bool.and_true, Bool.not_true, Bool.or_false]
 simp [h3, h4, List.range_succ, hE]
theorem zuc {gr : Group} (k : OkG gr) {g h : Int} (hg : zah gr g = true) (hh : zah gr h = true) (x w : Int) : ([[g], [h]].flatten ++ [zaj gr g x, zaj gr h x] ++ [zaj gr g w, zaj gr h w]).all zb6 = true := by
 refine zpn fun z hz => ?_
 simp at hz
 rcases hz with rfl | rfl | rfl | rfl | rfl | rfl
 ·exact zdm k hg
 ·exact zdm k hh
 ·exact zb9 k _ _
 ·exact zb9 k _ _
 ·exact zb9 k _ _
 exact zb9 k _ _
theorem zA5 {gr : Group} (k : OkG gr) {s : ByteArray} (hs : s.size ≤ 40) {g h : Int} (hg : zah gr g = true) (hh : zah gr h = true) {x w : Int} (hx : E9 gr.Q x) (hw : E9 gr.Q w) : zbM gr s [[g], [h]] [x] [w] = some (eqP gr s g h x w, true) := by
 have hp := k.p
 have hq := k.q
 have hE := zqu k s ([[g], [h]].flatten ++ [zaj gr g x, zaj gr h x] ++ [zaj gr g w, zaj gr h w])
 have hE : E9 gr.Q (eqE gr s g h x w) := hE
 have im : ∀ e, zbI gr [[g], [h]] [e] = some [zaj gr g e, zaj gr h e] := fun e => by
  rw [zqi k (zsK hg hh) (es := [e]) rfl]
  simp [zjQ k]
 have ch : zbD gr s ([[g], [h]].flatten ++ [zaj gr g x, zaj gr h x] ++ [zaj gr g w, zaj gr h w]) = some (eqE gr s g h x w, true) := by
  rw [zt9 k _ (by simp), if_pos (zwc k hs (by simp; omega) (zuc k hg hh x w))]
  rfl
 unfold zbM
 refine zaD (zaf (im w) (zaf (zji _ (by simp)) (zaf (im x) (zaf (zji _ (by simp)) (zaf (a := (eqE gr s g h x w, true)) ?_ (zcU rfl ?_))))))
 ·refine Eq.trans ?_ ch
  congr 1
 refine zac (ψ := (· = ([zaj gr g w, zaj gr h w], [eqE gr s g h x w], [(w + eqE gr s g h x w * x) % gr.Q]))) ?_ (by rintro y rfl; exact zab rfl)
 refine zat (fun i s' => s' = ([zaj gr g w, zaj gr h w], [eqE gr s g h x w], if i = 0 then [] else [(w + eqE gr s g h x w * x) % gr.Q])) rfl ?_ (by rintro s rfl; rfl)
 rintro i s' hi rfl
 have hi0 : i = 0 := by simpa using hi
 subst hi0
 refine zaz (k := 0) (by simp) (zaz (k := 0) (by simp) (zaf (zyu k _) (zav (by simp) (zab ?_))))
 rw [(zzu (q := gr.Q) (by omega) (a := [w][0]) (t := [x][0]) hw hE hx).1]
 rfl
theorem zub {gr : Group} (k : OkG gr) {g h : Int} (hg : zah gr g = true) (hh : zah gr h = true) (e : Int) : zbX gr [[g], [h]] [e] = some [zaj gr g e, zaj gr h e] := by
 have e1 : ∀ y, zah gr y = true → zcV gr [y] [e] = some (zaj gr y e) := fun y hy => by
  rw [zg2 k (l := [y]) (m := [e]) (by intro z hz; rw [List.mem_singleton] at hz; subst hz; exact zdm k hy) (by simp), zjQ k]
 unfold zbX
 simp only [List.length_cons, List.length_nil, zap]
 have i0 : ix [[g], [h]] 0 = some [g] := rfl
 have i1 : ix [[g], [h]] (0 + 1) = some [h] := rfl
 simp only [i0, i1, Option.bind_some, e1 g hg, e1 h hh]
 rw [zeo (by simp)]
 simp only [Option.bind_some]
 rw [zeo (by simp)]
 rfl
theorem zAI {gr : Group} (k : OkG gr) {s : ByteArray} (hs : s.size ≤ 40) {g h : Int} (hg : zah gr g = true) (hh : zah gr h = true) {x w : Int} (hx : E9 gr.Q x) (hw : E9 gr.Q w) : zcm gr s [[g], [h]] [x] [w] = some (eqP gr s g h x w) := by
 have hp := k.p
 have hq := k.q
 have hE := zqu k s ([[g], [h]].flatten ++ [zaj gr g x, zaj gr h x] ++ [zaj gr g w, zaj gr h w])
 have hE : E9 gr.Q (eqE gr s g h x w) := hE
 have ch : zcD gr s ([[g], [h]].flatten ++ [zaj gr g x, zaj gr h x] ++ [zaj gr g w, zaj gr h w]) = some (eqE gr s g h x w) :=
  zf8 k (by omega) (by simp) (zuc k hg hh x w)
 unfold zcm
 refine zaD (zaf (zub k hg hh w) (zaf (zub k hg hh x) (zaf (zlr (by simp) (by simp) (by simp)) (zaf ch ?_))))
 refine zac (ψ := (· = ([zaj gr g w, zaj gr h w], [eqE gr s g h x w], [(w + eqE gr s g h x w * x) % gr.Q]))) ?_ (by rintro y rfl; exact zab rfl)
 refine zat (fun i s' => s' = ([zaj gr g w, zaj gr h w], [eqE gr s g h x w], if i = 0 then [] else [(w + eqE gr s g h x w * x) % gr.Q])) rfl ?_ (by rintro s rfl; rfl)
 rintro i s' hi rfl
 have hi0 : i = 0 := by simpa using hi
 subst hi0
 refine zaz (k := 0) (by simp) (zaz (k := 0) (by simp) (zav (by omega) (zav (by simp) (zab ?_))))
 rw [(zzu (q := gr.Q) (by omega) (a := [w][0]) (t := [x][0]) hw hE hx).2]
 rfl
abbrev samS : ByteArray := ⟨#[115, 97, 109, 101]⟩
theorem zr6 {gr : Group} (k : OkG gr) {a y : Int} (ha : zah gr a = true) (hy : zah gr y = true) : zbT gr [zbT gr [a, y], zaj gr a (-1)] = y := by
 have hp := k.p
 have hq := k.q
 have b1 := ze1 ha
 have b2 := ze1 hy
 have p1 : zaj gr a 1 = a := by
  unfold zaj
  rw [Int.emod_eq_of_lt (by omega) (by omega), show (1 : Int).toNat = 1 from rfl, Nat.pow_one, Nat.mod_eq_of_lt (by omega)]
  omega
 have h1 : a * zaj gr a (-1) % gr.P = 1 := by
  have h := ztK k ha (a := 1) (b := (-1) % gr.Q) (by omega) (Int.emod_nonneg _ (by omega))
  rw [p1, zov (gr := gr) (a := (-1) % gr.Q) (b := -1) a (zgi _ _), zgY k ⟨by omega, by omega⟩ (zdR k _ _).1] at h
  rw [h, zov (gr := gr) (a := 1 + (-1) % gr.Q) (b := 0) a (by rw [Int.add_emod, zgi, ← Int.add_emod]; rfl), pow_zero k]
 rw [zgY k (x := a) ⟨by omega, by omega⟩ (by omega), zgY k ⟨Int.emod_nonneg _ (by omega), Int.emod_lt_of_pos _ (by omega)⟩ (zdR k _ _).1]
 have : (a * y % gr.P) * zaj gr a (-1) % gr.P = (a * zaj gr a (-1) % gr.P) * y % gr.P := by
  rw [Int.mul_emod, zgi, ← Int.mul_emod, Int.mul_emod (a * zaj gr a (-1) % gr.P), zgi, ← Int.mul_emod]
  congr 1
  grind
 rw [this, h1, Int.one_mul, Int.emod_eq_of_lt (by omega) (by omega)]
theorem zuh {gr : Group} (k : OkG gr) {x : Int} (hx : zah gr x = true) : zbT gr [1, x] = x := by
 have hp := k.p
 have b := ze1 hx
 rw [zgY k ⟨by omega, by omega⟩ (by omega), Int.one_mul, Int.emod_eq_of_lt (by omega) (by omega)]
theorem zqK {gr : Group} (k : OkG gr) {key : Int} (hk : zah gr key = true) {c : Cipher} (hc : zaX gr c = true) (r : Int) : zgp gr (reV gr key c r) c = ⟨zaj gr gr.G r, zaj gr key r⟩ := by
 unfold zgp reV
 dsimp only
 rw [zuh k (zeA k hk r), zr6 k (zbk hc).1 (zeA k (zeV k) r), zr6 k (zbk hc).2 (zeA k hk r)]
def psC (gr : Group) (key : Int) (c : Cipher) (r w : Int) : Bool := zah gr key && (zaX gr c && (zcQ gr r && zcQ gr w))
noncomputable def psV (gr : Group) (key : Int) (c : Cipher) (r w : Int) : Cipher × Proof × Bool :=
 if (okG gr && psC gr key c r w) = true then (reV gr key c r, eqP gr samS gr.G key r w, true) else (⟨0, 0⟩, ⟨[], [], []⟩, false)
end Go.Pm
