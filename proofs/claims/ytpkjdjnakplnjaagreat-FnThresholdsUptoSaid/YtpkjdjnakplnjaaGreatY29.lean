/-
  FnThresholds: plain laws.
  No condition.
-/
import Derived.Test.YtpkjdjnakplnjaaGreatM29b
import Derived.Test.YtpkjdjnakplnjaaGreatPmZ
namespace Go.Pm
open Go.Am
set_option linter.unusedVariables false
set_option linter.unusedSimpArgs false
noncomputable section
theorem zer (a b c : Int) : zbk a b c = some (decide (b ≤ a) && decide (a ≤ c)) := by
 unfold zbk
 by_cases h : b ≤ a <;> simp [h]
theorem zf9 (a b c : Int) : zbc a b c = some (decide (b ≤ a) && decide (a ≤ c)) := by
 unfold zbc
 by_cases h : b ≤ a <;> simp [h]
theorem zlP (a : Int) : zem a = some (decide (2 ≤ a) && decide (a ≤ 2000000000)) := by
 unfold zem
 rw [zer]; rfl
theorem zcG (a b : Nat) : (a : Int).tmod (b : Int) = ((a % b : Nat) : Int) := by rw [Int.tmod_eq_emod_of_nonneg (by omega)]; exact (Int.natCast_emod _ _).symm
theorem zoe (a b : Nat) : (a : Int).tdiv (b : Int) = ((a / b : Nat) : Int) := by rw [Int.tdiv_eq_ediv_of_nonneg (by omega)]; exact (Int.natCast_ediv _ _).symm
theorem zfq (a b : Nat) : (a : Int) * (b : Int) = ((a * b : Nat) : Int) := (Int.natCast_mul _ _).symm
theorem zwU {e : Nat} (he : e ≤ 9223372036854775807) : IntKind.i64.wrap (BitVec.ofInt IntKind.i64.bits (e : Int) &&& BitVec.ofInt IntKind.i64.bits 1).toNat = ((e % 2 : Nat) : Int) := by
 have h1 : (BitVec.ofInt IntKind.i64.bits (e : Int) &&& BitVec.ofInt IntKind.i64.bits 1).toNat = e % 2 := by
  rw [BitVec.toNat_and]
  have a1 : (BitVec.ofInt IntKind.i64.bits (e : Int)).toNat = e := by
   rw [BitVec.toNat_ofInt]
   have : IntKind.i64.bits = 64 := rfl
   rw [this]
   omega
  have a2 : (BitVec.ofInt IntKind.i64.bits 1).toNat = 1 := by decide
  rw [a1, a2, Nat.and_one_is_mod]
 rw [h1, zar (by omega) (by omega)]
theorem zw2 {a e m : Nat} (ha : a ≤ 2000000000) (hm : 1 ≤ m) (hm2 : m ≤ 2000000000) (he : e ≤ 9223372036854775807) : zdM (a : Int) (e : Int) (m : Int) = some ((a ^ e % m : Nat) : Int) := by
 unfold zdM
 refine zaw (zas (by omega) (zad (φ := (· = ((a ^ e % m : Nat) : Int))) (zga (φ := (· = ((a ^ e % m : Nat) : Int))) (fun s => ∃ x y o : Nat, s = ((x : Int), (y : Int), (o : Int)) ∧ x ≤ 2000000000 ∧ y ≤ e ∧ o < m ∧ o * x ^ y % m = a ^ e % m) (fun s => s.2.1.toNat)
  ⟨a, e, 1 % m, by rw [show (1 : Int) = ((1 : Nat) : Int) from rfl, zcG], ha, Nat.le_refl _, Nat.mod_lt _ (by omega), by rw [Nat.mod_mul_mod, Nat.one_mul]⟩ ?_) fun x hx => zab hx))
 rintro s ⟨x, y, o, rfl, hx, hy, ho, hi⟩
 refine zao (fun h0 => ?_) fun h0 => ?_
 ·have h0 : 0 < y := by simpa using h0
  have hox : o * x ≤ 4000000000000000000 := Nat.le_trans (Nat.mul_le_mul (show o ≤ 2000000000 by omega) hx) (by decide)
  have hxx : x * x ≤ 4000000000000000000 := Nat.le_trans (Nat.mul_le_mul hx hx) (by decide)
  refine zad (ψ := fun o' => ∃ k : Nat, o' = (k : Int) ∧ k < m ∧ k * (x * x) ^ (y / 2) % m = a ^ e % m) ?_ ?_
  ·simp only [zwU (show y ≤ 9223372036854775807 by omega)]
   refine zao (fun h1 => zas (by omega) (zab ⟨o * x % m, ?_, Nat.mod_lt _ (by omega), ?_⟩)) fun h1 => zab ⟨o, rfl, ho, ?_⟩
   ·rw [zfq, zar (by omega) (by omega), zcG]
   ·have h1 : y % 2 = 1 := by
     have : ((y % 2 : Nat) : Int) = 1 := by simpa using h1
     omega
    rw [Nat.mod_mul_mod, ← hi, ← Nat.pow_two, ← Nat.pow_mul, Nat.mul_assoc, ← Nat.pow_succ']
    congr 3; omega
   have h1 : y % 2 = 0 := by
    have : ¬ ((y % 2 : Nat) : Int) = 1 := by simpa using h1
    omega
   rw [← hi, ← Nat.pow_two, ← Nat.pow_mul]
   congr 3; omega
  rintro o' ⟨k, rfl, hk, hk2⟩
  refine zas (by omega) (zab ⟨⟨x * x % m, y / 2, k, ?_, by have := Nat.mod_lt (x * x) (show 0 < m by omega); omega, by omega, hk, ?_⟩, ?_⟩)
  ·rw [zfq, zar (by omega) (by omega), zcG]
   have e3 : (y : Int).fdiv 2 = ((y / 2 : Nat) : Int) := by rw [Int.fdiv_eq_ediv_of_nonneg _ (by omega)]; rfl
   show (_, (y : Int).fdiv 2, _) = _
   rw [e3]
  ·rw [Nat.mul_mod, ← Nat.pow_mod, ← Nat.mul_mod]
   exact hk2
  show ((y : Int).fdiv 2).toNat < (y : Int).toNat
  rw [Int.fdiv_eq_ediv_of_nonneg _ (by omega)]
  omega
 have h0 : y = 0 := by
  have : ¬ (0 < y) := by simpa using h0
  omega
 subst h0
 refine zab ?_
 show (o : Int) = _
 rw [Nat.pow_zero, Nat.mul_one, Nat.mod_eq_of_lt ho] at hi
 rw [hi]
theorem zvQ {a e m : Nat} (ha : a ≤ 2000000000) (hm : 1 ≤ m) (hm2 : m ≤ 2000000000) (he : e ≤ 9223372036854775807) : zbA (a : Int) (e : Int) (m : Int) = some ((a ^ e % m : Nat) : Int) := by
 unfold zbA
 refine zaw (zas (by omega) (zad (φ := (· = ((a ^ e % m : Nat) : Int))) (zga (φ := (· = ((a ^ e % m : Nat) : Int))) (fun s => ∃ x y o : Nat, s = ((x : Int), (y : Int), (o : Int)) ∧ x ≤ 2000000000 ∧ y ≤ e ∧ o < m ∧ o * x ^ y % m = a ^ e % m) (fun s => s.2.1.toNat)
  ⟨a, e, 1 % m, by rw [show (1 : Int) = ((1 : Nat) : Int) from rfl, zcG], ha, Nat.le_refl _, Nat.mod_lt _ (by omega), by rw [Nat.mod_mul_mod, Nat.one_mul]⟩ ?_) fun x hx => zab hx))
 rintro s ⟨x, y, o, rfl, hx, hy, ho, hi⟩
 refine zao (fun h0 => ?_) fun h0 => ?_
 ·have h0 : 0 < y := by simpa using h0
  have hox : o * x ≤ 4000000000000000000 := Nat.le_trans (Nat.mul_le_mul (show o ≤ 2000000000 by omega) hx) (by decide)
  have hxx : x * x ≤ 4000000000000000000 := Nat.le_trans (Nat.mul_le_mul hx hx) (by decide)
  have e2 : (y : Int).tmod 2 = ((y % 2 : Nat) : Int) := zcG y 2
  refine zad (ψ := fun o' => ∃ k : Nat, o' = (k : Int) ∧ k < m ∧ k * (x * x) ^ (y / 2) % m = a ^ e % m) ?_ ?_
  ·simp only [e2]
   refine zao (fun h1 => zas (by omega) (zab ⟨o * x % m, ?_, Nat.mod_lt _ (by omega), ?_⟩)) fun h1 => zab ⟨o, rfl, ho, ?_⟩
   ·rw [zfq, zar (by omega) (by omega), zcG]
   ·have h1 : y % 2 = 1 := by
     have : ((y % 2 : Nat) : Int) = 1 := by simpa using h1
     omega
    rw [Nat.mod_mul_mod, ← hi, ← Nat.pow_two, ← Nat.pow_mul, Nat.mul_assoc, ← Nat.pow_succ']
    congr 3; omega
   have h1 : y % 2 = 0 := by
    have : ¬ ((y % 2 : Nat) : Int) = 1 := by simpa using h1
    omega
   rw [← hi, ← Nat.pow_two, ← Nat.pow_mul]
   congr 3; omega
  rintro o' ⟨k, rfl, hk, hk2⟩
  have e3 : (y : Int).tdiv 2 = ((y / 2 : Nat) : Int) := zoe y 2
  refine zas (by omega) (zab ⟨⟨x * x % m, y / 2, k, ?_, by have := Nat.mod_lt (x * x) (show 0 < m by omega); omega, by omega, hk, ?_⟩, ?_⟩)
  ·simp only [e3]
   rw [zfq, zar (n := ((x * x : Nat) : Int)) (by omega) (by omega), zcG, zar (n := ((y / 2 : Nat) : Int)) (by omega) (by omega)]
  ·rw [Nat.mul_mod, ← Nat.pow_mod, ← Nat.mul_mod]
   exact hk2
  show (IntKind.i64.wrap ((y : Int).tdiv 2)).toNat < (y : Int).toNat
  rw [e3, zar (by omega) (by omega)]
  omega
 have h0 : y = 0 := by
  have : ¬ (0 < y) := by simpa using h0
  omega
 subst h0
 refine zab ?_
 show (o : Int) = _
 rw [Nat.pow_zero, Nat.mul_one, Nat.mod_eq_of_lt ho] at hi
 rw [hi]
theorem zlC {a q : Int} (h0 : 0 < q) (h1 : q ≤ 2000000000) : zcQ a q = some (a % q) := by
 unfold zcQ
 rw [zdN (by omega), zdN (by omega)]
 have b1 : a.tmod q < q := Int.tmod_lt_of_pos a h0
 have b2 : -q < a.tmod q := by
  have := Int.lt_tmod_of_pos a h0
  omega
 rw [zar (by omega) (by omega), Int.tmod_eq_emod_of_nonneg (by omega)]
 congr 1
 rw [Int.add_emod_right]
 rw [Int.tmod_def, Int.sub_emod, Int.mul_emod_right, Int.sub_zero, Int.emod_emod]
theorem zhY {a q : Int} (h0 : 0 < q) (h1 : q ≤ 2000000000) : zbO a q = some (a % q) := by
 unfold zbO
 rw [zdN (by omega), zdN (by omega)]
 have b1 : a.tmod q < q := Int.tmod_lt_of_pos a h0
 have b2 : -q < a.tmod q := by
  have := Int.lt_tmod_of_pos a h0
  omega
 rw [zar (by omega) (by omega), Int.tmod_eq_emod_of_nonneg (by omega)]
 congr 1
 rw [Int.add_emod_right]
 rw [Int.tmod_def, Int.sub_emod, Int.mul_emod_right, Int.sub_zero, Int.emod_emod]
def Pr (n : Nat) : Prop := 2 ≤ n ∧ ∀ d, 2 ≤ d → d * d ≤ n → n % d ≠ 0
open Classical in
def prB (n : Int) : Bool := decide (Pr n.toNat)
theorem zfU {n : Nat} : prB (n : Int) = true ↔ Pr n := by simp [prB]
theorem zkh (n : Int) (h : n ≤ 2000000000) : zdm n = some (prB n) := by
 unfold zdm
 refine zaw (zao (fun h0 => zab ?_) fun h0 => ?_)
 ·have h0 : n < 2 := by simpa using h0
  symm
  unfold prB
  rw [decide_eq_false_iff_not]
  intro hp
  have := hp.1
  omega
 have h0 : ¬ n < 2 := by simpa using h0
 obtain ⟨n, rfl⟩ := Int.eq_ofNat_of_zero_le (show 0 ≤ n by omega)
 refine zad (ψ := fun b => (b = .inl () ∧ Pr n) ∨ (b = .inr false ∧ ¬ Pr n)) (zga (fun s => ∃ d : Nat, s = (d : Int) ∧ 2 ≤ d ∧ d ≤ 44723 ∧ ∀ k, 2 ≤ k → k < d → k * k ≤ n → n % k ≠ 0) (fun s => 50000 - s.toNat) ⟨2, rfl, by omega, by omega, fun k h1 h2 => by omega⟩ ?_) ?_
 ·rintro s ⟨d, rfl, hd, hd2, hi⟩
  have hdd : d * d ≤ 2000146729 := Nat.le_trans (Nat.mul_le_mul hd2 hd2) (by decide)
  rw [zfq, zar (by omega) (by omega)]
  refine zao (fun h1 => zas (by omega) (zao (fun h2 => zab (.inr ⟨rfl, ?_⟩)) fun h2 => zab ?_)) fun h1 => zab (.inl ⟨rfl, by omega, fun k hk hkn => ?_⟩)
  ·have h1 : d * d ≤ n := by have := of_decide_eq_true h1; omega
   rw [zcG] at h2
   have h2 : n % d = 0 := by have : ((n % d : Nat) : Int) = 0 := by simpa using h2
                             omega
   exact fun hp => hp.2 d hd h1 h2
  ·have h1 : d * d ≤ n := by have := of_decide_eq_true h1; omega
   rw [zcG] at h2
   have h2 : n % d ≠ 0 := by have : ¬ ((n % d : Nat) : Int) = 0 := by simpa using h2
                             omega
   have hd3 : d ≤ 44722 := by
    rcases Nat.lt_or_ge d 44723 with h | h
    ·omega
    ·have : 44723 * 44723 ≤ d * d := Nat.mul_le_mul h h
     omega
   rw [zar (by omega) (by omega)]
   refine ⟨⟨d + 1, rfl, by omega, by omega, fun k h3 h4 h5 => ?_⟩, by omega⟩
   rcases Nat.lt_or_ge k d with h | h
   ·exact hi k h3 h h5
   have : k = d := by omega
   subst this
   exact h2
  have h1 : n < d * d := by have := of_decide_eq_false h1; omega
  rcases Nat.lt_or_ge k d with h | h
  ·exact hi k hk h hkn
  have := Nat.mul_le_mul h h
  omega
 rintro b (⟨rfl, hp⟩ | ⟨rfl, hp⟩)
 ·exact zab (zfU.2 hp).symm
 refine zab ?_
 symm
 unfold prB
 rw [decide_eq_false_iff_not]
 exact hp
theorem zol (n : Int) : zej n = some (decide (n ≤ 2000000000) && prB n) := by
 unfold zej
 by_cases h : 2 ≤ n ∧ n ≤ 2000000000
 ·obtain ⟨n, rfl⟩ := Int.eq_ofNat_of_zero_le (show 0 ≤ n by omega)
  have e2 : ((n : Int)).tmod 2 = ((n % 2 : Nat) : Int) := zcG n 2
  have em : (decide (2 ≤ (n : Int)) && decide ((n : Int) ≤ 2000000000)) = true := by simp only [Bool.and_eq_true, decide_eq_true_eq]; exact h
  rw [show (decide ((n : Int) ≤ 2000000000) && prB (n : Int)) = prB (n : Int) by simp [h.2]]
  refine zaw (zad (ψ := fun b => b = decide (n % 2 = 0 ∧ n ≠ 2)) (zag (zlP _) ?_) ?_)
  ·rw [em]
   refine zbH rfl ?_
   rw [e2]
   refine zao (fun h1 => zab ?_) fun h1 => zab ?_
   ·have h1 : n % 2 = 0 := by have : ((n % 2 : Nat) : Int) = 0 := by simpa using h1
                              omega
    have : ((n : Int) != 2) = decide (n ≠ 2) := by
     by_cases hn : n = 2
     ·subst hn; rfl
     ·have hn' : ¬ (n : Int) = 2 := by omega
      simp [hn, hn']
    rw [this]; simp [h1]
   have h1 : n % 2 ≠ 0 := by have : ¬ ((n % 2 : Nat) : Int) = 0 := by simpa using h1
                             omega
   simp [h1]
  rintro b rfl
  refine zao (fun h1 => zab ?_) fun h1 => ?_
  ·have h1 := of_decide_eq_true h1
   symm
   unfold prB
   rw [decide_eq_false_iff_not]
   intro hp
   have hn : 4 ≤ n := by omega
   exact hp.2 2 (by omega) hn h1.1
  have h1 := of_decide_eq_false h1
  refine zad (ψ := fun b => (b = .inl () ∧ Pr n) ∨ (b = .inr false ∧ ¬ Pr n)) (zga (fun s => ∃ d : Nat, s = (d : Int) ∧ 3 ≤ d ∧ d % 2 = 1 ∧ d ≤ 44725 ∧ ∀ k, 2 ≤ k → k < d → k * k ≤ n → n % k ≠ 0) (fun s => 50000 - s.toNat) ⟨3, rfl, by omega, by omega, by omega, fun k h2 h3 h4 => ?_⟩ ?_) ?_
  ·have : k = 2 := by omega
   subst this
   intro h5
   exact h1 ⟨h5, by omega⟩
  ·rintro s ⟨d, rfl, hd, hodd, hd2, hi⟩
   have hdd : d * d ≤ 2000325625 := Nat.le_trans (Nat.mul_le_mul hd2 hd2) (by decide)
   rw [zfq, zar (by omega) (by omega)]
   refine zao (fun h1 => zas (by omega) (zao (fun h2 => zab (.inr ⟨rfl, ?_⟩)) fun h2 => zab ?_)) fun h1 => zab (.inl ⟨rfl, by omega, fun k hk hkn => ?_⟩)
   ·have h1 : d * d ≤ n := by have := of_decide_eq_true h1; omega
    rw [zcG] at h2
    have h2 : n % d = 0 := by have : ((n % d : Nat) : Int) = 0 := by simpa using h2
                              omega
    exact fun hp => hp.2 d (by omega) h1 h2
   ·have h3 : d * d ≤ n := by have := of_decide_eq_true h1; omega
    rw [zcG] at h2
    have h2 : n % d ≠ 0 := by have : ¬ ((n % d : Nat) : Int) = 0 := by simpa using h2
                              omega
    have hd3 : d ≤ 44722 := by
     rcases Nat.lt_or_ge d 44723 with h | h
     ·omega
     ·have : 44723 * 44723 ≤ d * d := Nat.mul_le_mul h h
      omega
    rw [zar (by omega) (by omega)]
    refine ⟨⟨d + 2, rfl, by omega, by omega, by omega, fun k h4 h5 h6 h7 => ?_⟩, by omega⟩
    rcases Nat.lt_or_ge k d with h | h
    ·exact hi k h4 h h6 h7
    rcases (show k = d ∨ k = d + 1 by omega) with e | e
    ·subst e; exact h2 h7
    have h8 : n % 2 = 0 := by
     have a1 : k ∣ n := Nat.dvd_of_mod_eq_zero h7
     have a2 : 2 ∣ k := Nat.dvd_of_mod_eq_zero (by omega)
     exact Nat.mod_eq_zero_of_dvd (Nat.dvd_trans a2 a1)
    have h9 : 2 * 2 ≤ n := by
     have := Nat.mul_le_mul h4 h4
     omega
    exact hi 2 (by omega) (by omega) h9 h8
   have h1 : n < d * d := by have := of_decide_eq_false h1; omega
   rcases Nat.lt_or_ge k d with h | h
   ·exact hi k hk h hkn
   have := Nat.mul_le_mul h h
   omega
  rintro b (⟨rfl, hp⟩ | ⟨rfl, hp⟩)
  ·exact zab (zfU.2 hp).symm
  refine zab ?_
  symm
  unfold prB
  rw [decide_eq_false_iff_not]
  exact hp
 have em : (decide (2 ≤ n) && decide (n ≤ 2000000000)) = false := by
  rw [Bool.and_eq_false_iff, decide_eq_false_iff_not, decide_eq_false_iff_not]; omega
 rw [zlP, em]
 simp only [Option.bind_some, Bool.not_false, if_true]
 congr 1
 symm
 rw [Bool.and_eq_false_iff, decide_eq_false_iff_not]
 by_cases hn : n ≤ 2000000000
 ·right
  unfold prB
  rw [decide_eq_false_iff_not]
  intro hp
  have := hp.1
  omega
 exact .inl hn
structure OkG (gr : Group) : Prop where
 p : 3 ≤ gr.P ∧ gr.P ≤ 2000000000
 q : 2 ≤ gr.Q ∧ gr.Q ≤ gr.P - 1
 d : (gr.P.toNat - 1) % gr.Q.toNat = 0
 g : 2 ≤ gr.G ∧ gr.G ≤ gr.P - 1
 pp : Pr gr.P.toNat
 pq : Pr gr.Q.toNat
 o : gr.G.toNat ^ gr.Q.toNat % gr.P.toNat = 1
open Classical in
def okG (gr : Group) : Bool := decide (OkG gr)
theorem zgg {gr : Group} : okG gr = true ↔ OkG gr := by simp [okG]
theorem zgd {gr : Group} (h : ¬ OkG gr) : okG gr = false := by simp [okG, h]
theorem ztA {gr : Group} {b : Bool} (h1 : b = true → OkG gr) (h2 : OkG gr → b = true) : b = okG gr := by
 cases hb : b with
 | true => exact (zgg.2 (h1 hb)).symm
 | false => exact (zgd fun h => by rw [h2 h] at hb; cases hb).symm
theorem zdE {a : Int} (h : 0 ≤ a) : a = ((a.toNat : Nat) : Int) := by omega
theorem zgA {a e m : Int} (ha : 0 ≤ a) (ha2 : a ≤ 2000000000) (hm : 1 ≤ m) (hm2 : m ≤ 2000000000) (he : 0 ≤ e) (he2 : e ≤ 9223372036854775807) : zdM a e m = some ((a.toNat ^ e.toNat % m.toNat : Nat) : Int) ∧ zbA a e m = some ((a.toNat ^ e.toNat % m.toNat : Nat) : Int) := by
 have h1 := zw2 (a := a.toNat) (e := e.toNat) (m := m.toNat) (by omega) (by omega) (by omega) (by omega)
 have h2 := zvQ (a := a.toNat) (e := e.toNat) (m := m.toNat) (by omega) (by omega) (by omega) (by omega)
 rw [← zdE ha, ← zdE he, ← zdE (show 0 ≤ m by omega)] at h1 h2
 exact ⟨h1, h2⟩
theorem zi9 {a b : Bool} : (a && b) = true ↔ a = true ∧ b = true := by simp
theorem zpl (gr : Group) : zcJ gr = some (okG gr) := by
 unfold zcJ
 refine zaw (zad (ψ := fun b => b = okG gr) ?_ fun b hb => zab hb)
 refine zag (zer _ _ _) (zao (fun h => ?_) fun h => ?_)
 ·have hp : 3 ≤ gr.P ∧ gr.P ≤ 2000000000 := by simpa using h
  rw [zar (n := gr.P - 1) (by omega) (by omega)]
  refine zag (zer _ _ _) (zao (fun h => ?_) fun h => ?_)
  ·have hq : 2 ≤ gr.Q ∧ gr.Q ≤ gr.P - 1 := by simpa using h
   have ed : (gr.P - 1).tmod gr.Q = (((gr.P.toNat - 1) % gr.Q.toNat : Nat) : Int) := by
    rw [zdE (show 0 ≤ gr.P - 1 by omega), zdE (show 0 ≤ gr.Q by omega), zcG]
    simp only [Int.toNat_natCast]
    congr 2; omega
   refine zas (by omega) ?_
   rw [ed]
   refine zao (fun h => ?_) fun h => ?_
   ·have hd : (gr.P.toNat - 1) % gr.Q.toNat = 0 := by
     have : (((gr.P.toNat - 1) % gr.Q.toNat : Nat) : Int) = 0 := by simpa using h
     omega
    refine zag (zer _ _ _) (zao (fun h => ?_) fun h => ?_)
    ·have hg : 2 ≤ gr.G ∧ gr.G ≤ gr.P - 1 := by simpa using h
     refine zag (zol _) (zao (fun h => ?_) fun h => ?_)
     ·have hpp : Pr gr.P.toNat := by
       rw [zi9, zdE (show 0 ≤ gr.P by omega), zfU] at h
       exact h.2
      refine zag (zol _) (zao (fun h => ?_) fun h => ?_)
      ·have hpq : Pr gr.Q.toNat := by
        rw [zi9, zdE (show 0 ≤ gr.Q by omega), zfU] at h
        exact h.2
       refine zag (zgA (a := gr.G) (e := gr.Q) (m := gr.P) (by omega) (by omega) (by omega) (by omega) (by omega) (by omega)).1 (zab (ztA (fun h => ⟨hp, hq, hd, hg, hpp, hpq, ?_⟩) fun h => ?_))
       ·have : ((gr.G.toNat ^ gr.Q.toNat % gr.P.toNat : Nat) : Int) = 1 := by simpa using h
        omega
       rw [h.o]; rfl
      refine zab (zgd fun hk => ?_).symm
      have : (decide (gr.Q ≤ 2000000000) && prB gr.Q) = true := by
       rw [zi9, zdE (show 0 ≤ gr.Q by omega), zfU]
       exact ⟨by simp; omega, hk.pq⟩
      rw [this] at h; cases h
     refine zab (zgd fun hk => ?_).symm
     have : (decide (gr.P ≤ 2000000000) && prB gr.P) = true := by
      rw [zi9, zdE (show 0 ≤ gr.P by omega), zfU]
      exact ⟨by simp; omega, hk.pp⟩
     rw [this] at h; cases h
    refine zab (zgd fun hk => ?_).symm
    have := hk.g
    simp at h; omega
   refine zab (zgd fun hk => ?_).symm
   rw [hk.d] at h; cases h
  refine zab (zgd fun hk => ?_).symm
  have := hk.q
  simp at h; omega
 refine zab (zgd fun hk => ?_).symm
 have := hk.p
 simp at h; omega
theorem zu2 (gr : Group) : zfx gr = some (okG gr) := by
 unfold zfx
 refine zaw (zad (ψ := fun b => b = okG gr) ?_ fun b hb => zab hb)
 refine zag (zf9 _ _ _) (zao (fun h => ?_) fun h => ?_)
 ·have hp : 3 ≤ gr.P ∧ gr.P ≤ 2000000000 := by simpa using h
  rw [zar (n := gr.P - 1) (by omega) (by omega)]
  refine zag (zf9 _ _ _) (zao (fun h => ?_) fun h => ?_)
  ·have hq : 2 ≤ gr.Q ∧ gr.Q ≤ gr.P - 1 := by simpa using h
   have ed : (gr.P - 1).tmod gr.Q = (((gr.P.toNat - 1) % gr.Q.toNat : Nat) : Int) := by
    rw [zdE (show 0 ≤ gr.P - 1 by omega), zdE (show 0 ≤ gr.Q by omega), zcG]
    simp only [Int.toNat_natCast]
    congr 2; omega
   refine zas (by omega) ?_
   rw [ed]
   refine zao (fun h => ?_) fun h => ?_
   ·have hd : (gr.P.toNat - 1) % gr.Q.toNat = 0 := by
     have : (((gr.P.toNat - 1) % gr.Q.toNat : Nat) : Int) = 0 := by simpa using h
     omega
    refine zag (zf9 _ _ _) (zao (fun h => ?_) fun h => ?_)
    ·have hg : 2 ≤ gr.G ∧ gr.G ≤ gr.P - 1 := by simpa using h
     refine zag (zgA (a := gr.G) (e := gr.Q) (m := gr.P) (by omega) (by omega) (by omega) (by omega) (by omega) (by omega)).2 (zao (fun h => ?_) fun h => ?_)
     ·have ho : gr.G.toNat ^ gr.Q.toNat % gr.P.toNat = 1 := by
       have : ((gr.G.toNat ^ gr.Q.toNat % gr.P.toNat : Nat) : Int) = 1 := by simpa using h
       omega
      refine zag (zkh _ (by omega)) (zao (fun h => ?_) fun h => ?_)
      ·have hpq : Pr gr.Q.toNat := by
        rw [zdE (show 0 ≤ gr.Q by omega), zfU] at h
        exact h
       refine zag (zkh _ (by omega)) (zab (ztA (fun h => ⟨hp, hq, hd, hg, ?_, hpq, ho⟩) fun h => ?_))
       ·rw [zdE (show 0 ≤ gr.P by omega), zfU] at h
        exact h
       rw [zdE (show 0 ≤ gr.P by omega), zfU]
       exact h.pp
      refine zab (zgd fun hk => ?_).symm
      have : prB gr.Q = true := by
       rw [zdE (show 0 ≤ gr.Q by omega), zfU]
       exact hk.pq
      rw [this] at h; cases h
     refine zab (zgd fun hk => ?_).symm
     rw [hk.o] at h; cases h
    refine zab (zgd fun hk => ?_).symm
    have := hk.g
    simp at h; omega
   refine zab (zgd fun hk => ?_).symm
   rw [hk.d] at h; cases h
  refine zab (zgd fun hk => ?_).symm
  have := hk.q
  simp at h; omega
 refine zab (zgd fun hk => ?_).symm
 have := hk.p
 simp at h; omega
def zam (gr : Group) (x : Int) : Bool := decide (1 ≤ x) && decide (x ≤ gr.P - 1) && decide (x.toNat ^ gr.Q.toNat % gr.P.toNat = 1)
def zdo (gr : Group) (x : Int) : Bool := decide (0 ≤ x) && decide (x ≤ gr.Q - 1)
theorem zm9 {gr : Group} (k : OkG gr) (x : Int) : zbZ gr x = some (zam gr x) := by
 have hp := k.p
 have hq := k.q
 unfold zbZ zam
 rw [zar (n := gr.P - 1) (by omega) (by omega), zer]
 refine zaw (zad (ψ := fun b => b = _) ?_ fun b hb => zab hb)
 refine zag rfl (zao (fun h => ?_) fun h => ?_)
 ·have hx : 1 ≤ x ∧ x ≤ gr.P - 1 := by simpa using h
  refine zag (zgA (a := x) (e := gr.Q) (m := gr.P) (by omega) (by omega) (by omega) (by omega) (by omega) (by omega)).1 (zab ?_)
  rw [h, Bool.true_and]
  by_cases h1 : x.toNat ^ gr.Q.toNat % gr.P.toNat = 1
  ·simp [h1]
  have : ¬ ((x.toNat ^ gr.Q.toNat % gr.P.toNat : Nat) : Int) = 1 := by omega
  rw [beq_false_of_ne this, decide_eq_false h1]
 rw [h]; exact zab rfl
theorem zm6 {gr : Group} (k : OkG gr) (l : List Int) : zdK gr l = some (l.all (zam gr)) := by
 have hp := k.p
 have hq := k.q
 unfold zdK
 rw [zar (n := gr.P - 1) (by omega) (by omega)]
 refine zaw (zad (ψ := fun b => (b = .inl () ∧ l.all (zam gr) = true) ∨ (b = .inr false ∧ l.all (zam gr) = false)) (zaB (fun i s => (l.take i).all (zam gr) = true) rfl ?_ ?_) ?_)
 ·rintro i s hi hI
  refine zaH hi (zad (ψ := fun b => b = !zam gr l[i]) ?_ ?_)
  ·refine zag (zf9 _ _ _) (zao (fun h => zab ?_) fun h => ?_)
   ·have h : (decide (1 ≤ l[i]) && decide (l[i] ≤ gr.P - 1)) = false := by rwa [Bool.not_eq_true'] at h
    simp [zam, h]
   have h : (decide (1 ≤ l[i]) && decide (l[i] ≤ gr.P - 1)) = true := by simpa using h
   have hx : 1 ≤ l[i] ∧ l[i] ≤ gr.P - 1 := by simpa using h
   refine zag (zgA (a := l[i]) (e := gr.Q) (m := gr.P) (by omega) (by omega) (by omega) (by omega) (by omega) (by omega)).2 (zab ?_)
   simp only [zam, h, Bool.true_and]
   by_cases h1 : l[i].toNat ^ gr.Q.toNat % gr.P.toNat = 1
   ·simp [h1]
   have : ¬ ((l[i].toNat ^ gr.Q.toNat % gr.P.toNat : Nat) : Int) = 1 := by omega
   simp only [bne, beq_false_of_ne this, decide_eq_false h1]
  rintro b rfl
  refine zao (fun h => zab (.inr ⟨rfl, ?_⟩)) fun h => zab ?_
  ·have h : zam gr l[i] = false := by simpa using h
   rw [List.all_eq_false]
   exact ⟨l[i], List.getElem_mem hi, by simp [h]⟩
  have h : zam gr l[i] = true := by simpa using h
  show (l.take (i + 1)).all (zam gr) = true
  rw [List.take_succ_eq_append_getElem hi, List.all_append, hI]
  simp [h]
 ·rintro s hI
  rw [List.take_length] at hI
  exact .inl ⟨rfl, hI⟩
 rintro b (⟨rfl, h⟩ | ⟨rfl, h⟩)
 ·exact zab h.symm
 exact zab h.symm
theorem zxo (l : List Int) (a b : Int) : zf2 l a b = some (l.all fun x => decide (a ≤ x) && decide (x ≤ b)) := by
 unfold zf2
 refine zaw (zad (ψ := fun c => (c = .inl () ∧ (l.all fun x => decide (a ≤ x) && decide (x ≤ b)) = true) ∨ (c = .inr false ∧ (l.all fun x => decide (a ≤ x) && decide (x ≤ b)) = false)) (zaB (fun i s => ((l.take i).all fun x => decide (a ≤ x) && decide (x ≤ b)) = true) rfl ?_ ?_) ?_)
 ·rintro i s hi hI
  refine zaH hi (zag (zf9 _ _ _) (zao (fun h => zab (.inr ⟨rfl, ?_⟩)) fun h => zab ?_))
  ·rw [List.all_eq_false]
   exact ⟨l[i], List.getElem_mem hi, by rw [Bool.not_eq_true'] at h; rw [h]; simp⟩
  show ((l.take (i + 1)).all fun x => decide (a ≤ x) && decide (x ≤ b)) = true
  rw [List.take_succ_eq_append_getElem hi, List.all_append, hI]
  simpa using h
 ·rintro s hI
  rw [List.take_length] at hI
  exact .inl ⟨rfl, hI⟩
 rintro c (⟨rfl, h⟩ | ⟨rfl, h⟩)
 ·exact zab h.symm
 exact zab h.symm
theorem zln {gr : Group} (h : 0 ≤ gr.Q) (h2 : gr.Q ≤ 2000000000) (l : List Int) : zdR gr l = some (l.all (zdo gr)) := by
 unfold zdR
 rw [zar (by omega) (by omega), zxo]; rfl
theorem zrk {gr : Group} (h : 0 ≤ gr.Q) (h2 : gr.Q ≤ 2000000000) (x : Int) : zc1 gr x = some (zdo gr x) := by
 unfold zc1
 rw [zar (by omega) (by omega), zer]; rfl
def zaf (gr : Group) (x e : Int) : Int := ((x.toNat ^ (e % gr.Q).toNat % gr.P.toNat : Nat) : Int)
theorem zbS {gr : Group} (k : OkG gr) (x e : Int) : 0 ≤ zaf gr x e ∧ zaf gr x e ≤ gr.P - 1 := by
 have hp := k.p
 unfold zaf
 have := Nat.mod_lt (x.toNat ^ (e % gr.Q).toNat) (y := gr.P.toNat) (by omega)
 omega
theorem zgH {gr : Group} (k : OkG gr) {x : Int} (h0 : 0 ≤ x) (h1 : x ≤ 2000000000) (e : Int) : zaP gr x e = some (zaf gr x e) ∧ zaT gr x e = some (zaf gr x e) := by
 have hp := k.p
 have hq := k.q
 have b1 : 0 ≤ e % gr.Q := Int.emod_nonneg _ (by omega)
 have b2 : e % gr.Q < gr.Q := Int.emod_lt_of_pos _ (by omega)
 have hw := zgA (a := x) (e := e % gr.Q) (m := gr.P) (by omega) (by omega) (by omega) (by omega) b1 (by omega)
 unfold zaP zaT
 rw [zlC (by omega) (by omega), zhY (by omega) (by omega), Option.bind_some, Option.bind_some, hw.1, hw.2]
 exact ⟨rfl, rfl⟩
theorem zkU {gr : Group} (k : OkG gr) {x : Int} (h0 : 0 ≤ x) (h1 : x ≤ 2000000000) (e : Int) : zaT gr x e = some (zaf gr x e) := by
 have hp := k.p
 have hq := k.q
 have b1 : 0 ≤ e % gr.Q := Int.emod_nonneg _ (by omega)
 have b2 : e % gr.Q < gr.Q := Int.emod_lt_of_pos _ (by omega)
 have hw := zgA (a := x) (e := e % gr.Q) (m := gr.P) (by omega) (by omega) (by omega) (by omega) b1 (by omega)
 unfold zaT
 rw [zhY (by omega) (by omega), Option.bind_some, hw.2]
 rfl
def zbq (gr : Group) (l : List Int) : Int := l.foldl (fun o x => o * x % gr.P) 1
theorem zpu {gr : Group} (h : 1 ≤ gr.P) : ∀ (l : List Int) (o : Int), 0 ≤ o → o ≤ gr.P → (∀ x ∈ l, 0 ≤ x) → 0 ≤ l.foldl (fun o x => o * x % gr.P) o ∧ l.foldl (fun o x => o * x % gr.P) o ≤ gr.P := by
 intro l
 induction l with
 | nil => intro o h0 h1 _; exact ⟨h0, h1⟩
 | cons x l ih =>
  intro o h0 h1 h2
  exact ih _ (Int.emod_nonneg _ (by omega)) (Int.le_of_lt (Int.emod_lt_of_pos (o * x) (show 0 < gr.P by omega))) fun y hy => h2 y (List.mem_cons_of_mem _ hy)
theorem zyf (gr : Group) (l : List Int) : zc5 gr l = zba gr l := rfl
theorem ziW {gr : Group} (k : OkG gr) {l : List Int} (hl : ∀ x ∈ l, 0 ≤ x ∧ x ≤ 2000000000) : zba gr l = some (zbq gr l) := by
 have hp := k.p
 unfold zba
 refine zaw (zad (ψ := fun b => b = zbq gr l) (zaB (fun i s => s = (l.take i).foldl (fun o x => o * x % gr.P) 1) rfl ?_ ?_) fun b hb => zab hb)
 ·rintro i s hi rfl
  have hb := zpu (gr := gr) (by omega) (l.take i) 1 (by omega) (by omega) fun x hx => (hl x (List.mem_of_mem_take hx)).1
  have hx := hl l[i] (List.getElem_mem hi)
  refine zaH hi (zas (by omega) (zab ?_))
  show _ = (l.take (i + 1)).foldl _ _
  rw [List.take_succ_eq_append_getElem hi, List.foldl_append]
  generalize (l.take i).foldl (fun o x => o * x % gr.P) 1 = o at hb ⊢
  have b1 : 0 ≤ o * l[i] := Int.mul_nonneg hb.1 hx.1
  have b2 : o * l[i] ≤ 2000000000 * 2000000000 := Int.mul_le_mul (by omega) hx.2 hx.1 (by omega)
  show (IntKind.i64.wrap (o * l[i])).tmod gr.P = o * l[i] % gr.P
  rw [zar (by omega) (by omega), Int.tmod_eq_emod_of_nonneg b1]
 rintro s rfl
 rw [List.take_length]; rfl
theorem zmX {gr : Group} (k : OkG gr) {l : List Int} (hl : ∀ x ∈ l, 0 ≤ x ∧ x ≤ 2000000000) : zc5 gr l = some (zbq gr l) := by rw [zyf]; exact ziW k hl
theorem zjF {gr : Group} (k : OkG gr) {l : List Int} (hl : ∀ x ∈ l, 0 ≤ x ∧ x ≤ 2000000000) : 0 ≤ zbq gr l ∧ zbq gr l ≤ gr.P := by
 have hp := k.p
 exact zpu (by omega) l 1 (by omega) (by omega) fun x hx => (hl x hx).1
theorem zmq {gr : Group} (k : OkG gr) (l : List Int) : zcc gr l = some (l.all (zam gr)) := by
 unfold zcc zck zaK zaN
 refine zaw (zad (ψ := fun b => b = l.all (zam gr)) (zad (ψ := fun b => b = !l.all (zam gr)) (zad (ψ := fun j => (j = -1 ∧ l.all (zam gr) = true) ∨ (0 ≤ j ∧ l.all (zam gr) = false)) (zad (ψ := fun b => (b = .inl () ∧ l.all (zam gr) = true) ∨ (∃ j, b = .inr j ∧ 0 ≤ j ∧ l.all (zam gr) = false)) (zaB (fun i s => (l.take i).all (zam gr) = true) rfl ?_ ?_) ?_) ?_) ?_) ?_)
 ·rintro i s hi hI
  have hc : zby l[i] gr = some (!zam gr l[i]) := by
   unfold zby
   rw [zm9 k]; rfl
  refine zaH hi (zag hc (zao (fun h => zab (.inr ⟨i, rfl, by omega, ?_⟩)) fun h => zab ?_))
  ·rw [List.all_eq_false]
   exact ⟨l[i], List.getElem_mem hi, by rw [Bool.not_eq_true'] at h; rw [h]; simp⟩
  show (l.take (i + 1)).all (zam gr) = true
  rw [List.take_succ_eq_append_getElem hi, List.all_append, hI]
  simpa using h
 ·rintro s hI
  rw [List.take_length] at hI
  exact .inl ⟨rfl, hI⟩
 ·rintro b (⟨rfl, h⟩ | ⟨j, rfl, h0, h⟩)
  ·exact zab (.inl ⟨rfl, h⟩)
  exact zab (.inr ⟨h0, h⟩)
 ·rintro j (⟨rfl, h⟩ | ⟨h0, h⟩)
  ·exact zab (by rw [h]; rfl)
  exact zab (by rw [h]; simpa using h0)
 ·rintro b rfl
  exact zab (by simp)
 rintro b rfl
 exact zab rfl
theorem ziI {gr : Group} {x : Int} (h : zam gr x = true) : 1 ≤ x ∧ x ≤ gr.P - 1 := by
 simp only [zam, Bool.and_eq_true, decide_eq_true_eq] at h
 exact h.1
theorem zuj {gr : Group} (k : OkG gr) {y m : Int} (hy : zam gr y = true) (hm : zam gr m = true) (r : Int) :
 zda gr y m r = some (Cipher.mk (zaf gr gr.G r) (zbq gr [m, zaf gr y r])) ∧ zfB gr y m r = some (Cipher.mk (zaf gr gr.G r) (zbq gr [m, zaf gr y r])) := by
 have hp := k.p
 have hg := k.g
 have b1 := ziI hy
 have b2 := ziI hm
 have e1 := zgH k (x := gr.G) (by omega) (by omega) r
 have e2 := zgH k (x := y) (by omega) (by omega) r
 have hl : ∀ x ∈ [m, zaf gr y r], 0 ≤ x ∧ x ≤ 2000000000 := fun x hx => by
  simp only [List.mem_cons, List.not_mem_nil, or_false] at hx
  rcases hx with rfl | rfl
  ·omega
  ·have := zbS k y r; omega
 unfold zda zfB
 rw [e1.1, e1.2, Option.bind_some, Option.bind_some, e2.1, e2.2, Option.bind_some, Option.bind_some, ziW k hl, zmX k hl]
 exact ⟨rfl, rfl⟩
theorem zmK {α : Type} (b : Bool) (u v : α) : (if b = true then some u else some v) = some (if (!b) = true then v else u) := by cases b <;> rfl
theorem zv9 {α : Type} (b : Bool) (u v : α) : (if (!b) = true then some u else some v) = some (if b = true then v else u) := by cases b <;> rfl
theorem zjx {β : Type} {body : Int → Unit → Option (Stp Unit (Unit ⊕ β))} (m : Nat) (p : Nat → Bool) (val : Nat → β) (h : ∀ k, k < m → body (k : Int) () = some (if p k = true then .go () else .out (.inr (val k)))) :
 (zaq body (fun _ => .inl ()) m 0 () = some (.inl ()) ∧ ∀ k, k < m → p k = true) ∨ ∃ k, k < m ∧ p k = false ∧ (∀ j, j < k → p j = true) ∧ zaq body (fun _ => .inl ()) m 0 () = some (.inr (val k)) := by
 have key : Rn (zaq body (fun _ => Sum.inl ()) m 0 ()) (fun b => (b = .inl () ∧ ∀ k, k < m → p k = true) ∨ ∃ k, k < m ∧ p k = false ∧ (∀ j, j < k → p j = true) ∧ b = .inr (val k)) := by
  refine zaB (fun k _ => ∀ j, j < k → p j = true) (fun j hj => by omega) ?_ fun s hs => .inl ⟨rfl, hs⟩
  intro k s hk hI
  refine ⟨_, h k hk, ?_⟩
  cases hp : p k with
  | true =>
   intro j hj
   rcases Nat.lt_or_ge j k with h | h
   ·exact hI j h
   ·have : j = k := by omega
    rw [this]; exact hp
  | false => exact .inr ⟨k, hk, hp, hI, rfl⟩
 obtain ⟨b, e, h1 | ⟨k, h1, h2, h3, h4⟩⟩ := key
 ·exact .inl ⟨by rw [e, h1.1], h1.2⟩
 exact .inr ⟨k, h1, h2, h3, by rw [e, h4]⟩
theorem zsZ {α : Type} (l : List α) (p : α → Bool) (c : Bool) {body : Int → Unit → Option (Stp Unit (Unit ⊕ Bool))} (h : ∀ k (hk : k < l.length), body (k : Int) () = some (if p l[k] = true then .go () else .out (.inr c))) :
 (zaq body (fun _ => .inl ()) l.length 0 ()).bind (Sum.elim (fun _ => some (!c)) some) = some (if l.all p = true then !c else c) := by
 rcases zjx (body := body) l.length (fun k => (l[k]?).any p) (fun _ => c) (fun k hk => by rw [h k hk, List.getElem?_eq_getElem hk]; rfl) with ⟨e, h1⟩ | ⟨k, h1, h2, h3, e⟩
 ·rw [e]
  have : l.all p = true := by
   rw [List.all_eq_true]
   intro x hx
   obtain ⟨k, hk, rfl⟩ := List.mem_iff_getElem.1 hx
   have := h1 k hk
   rw [List.getElem?_eq_getElem hk] at this
   exact this
  rw [this]; rfl
 rw [e]
 have : l.all p = false := by
  rw [List.all_eq_false]
  refine ⟨l[k], List.getElem_mem h1, ?_⟩
  rw [List.getElem?_eq_getElem h1] at h2
  simpa using h2
 rw [this]; rfl
theorem zxH (l : List Int) (x : Int) : ze8 l x = some (l.contains x) := by
 unfold ze8
 have := zsZ l (fun y => !(y == x)) true (body := fun i8 s7 => (ix l i8).bind fun x17 => if (x17 == x) = true then some (.out (.inr true)) else some (.go ())) fun k hk => by
  rw [zcF hk, Option.bind_some]
  exact zmK _ _ _
 rw [show (!true) = false from rfl] at this
 refine this.trans ?_
 congr 1
 cases hc : l.contains x with
 | true =>
  have hm : x ∈ l := by simpa using hc
  have : (l.all fun y => !(y == x)) = false := by
   rw [List.all_eq_false]
   exact ⟨x, hm, by simp⟩
  rw [this]; rfl
 | false =>
  have hm : ¬ x ∈ l := by simpa using hc
  have : (l.all fun y => !(y == x)) = true := by
   rw [List.all_eq_true]
   intro y hy
   have : y ≠ x := fun e => hm (e ▸ hy)
   simp [this]
  rw [this]; rfl
theorem zxC (l : List Int) (x : Int) : (zb8 l x = some (-1) ∧ ¬ x ∈ l) ∨ ∃ k, ∃ h : k < l.length, zb8 l x = some (k : Int) ∧ l[k] = x ∧ ∀ j (hj : j < k), l[j]'(by omega) ≠ x := by
 unfold zb8
 rcases zjx l.length (fun k => (l[k]?).any fun y => !(x == y)) (fun k => (k : Int)) (body := fun i8 s7 => (ix l i8).bind fun x17 => if (x == x17) = true then some (.out (.inr i8)) else some (.go ())) (fun k hk => by
  rw [zcF hk, Option.bind_some, List.getElem?_eq_getElem hk]
  exact zmK _ _ _) with ⟨e, h1⟩ | ⟨k, h1, h2, h3, e⟩
 ·refine .inl ⟨by rw [e]; rfl, fun hx => ?_⟩
  obtain ⟨k, hk, rfl⟩ := List.mem_iff_getElem.1 hx
  have := h1 k hk
  rw [List.getElem?_eq_getElem hk] at this
  simp at this
 refine .inr ⟨k, h1, by rw [e]; rfl, ?_, fun j hj => ?_⟩
 ·rw [List.getElem?_eq_getElem h1] at h2
  simp at h2
  exact h2.symm
 have := h3 j hj
 rw [List.getElem?_eq_getElem (by omega)] at this
 simp at this
 exact fun e => this e.symm
theorem zki (l : List Int) (x : Int) : za8 l x = some (l.contains x) := by
 unfold za8
 rcases zxC l x with ⟨e, h⟩ | ⟨k, hk, e, h, _⟩
 ·rw [e]
  have : l.contains x = false := by simpa using h
  rw [this]; rfl
 rw [e]
 have : l.contains x = true := by
  have := List.getElem_mem hk
  rw [h] at this
  simpa using this
 rw [this]
 simp
open Classical in
def zgN (l : List Int) : Bool := decide l.Nodup
theorem zvL {C : List Int → Int → Option Bool} (hC : ∀ l x, C l x = some (l.contains x)) (l : List Int) (hl : l.length ≤ 1000000000000) :
 ((zaq (σ := Unit) (fun i5 s4 =>
 (ix l i5).bind fun x11 =>
 gd (0 ≤ i5) <|
 gd (0 ≤ i5.toNat ∧ i5.toNat ≤ l.length) <|
 (C ((l.take i5.toNat).drop 0) x11).bind fun z12 =>
 if z12 = true then (
 some (.out (.inr false))) else (
 some (.go ()))) (fun s4 => .inl ()) (l.length) 0 () : Option (Unit ⊕ Bool)).bind (Sum.elim (fun x3 =>
 some true) some)) = some (zgN l) := by
 rcases zjx l.length (fun k => (l[k]?).any fun y => !(l.take k).contains y) (fun _ => false) (body := fun i8 s7 =>
  (ix l i8).bind fun x17 =>
  gd (0 ≤ i8) <|
  gd (0 ≤ i8.toNat ∧ i8.toNat ≤ l.length) <|
  (C ((l.take i8.toNat).drop 0) x17).bind fun z26 =>
  if z26 = true then (
  some (.out (.inr false))) else (
  some (.go ()))) (fun k hk => by
   rw [zcF hk, Option.bind_some, zdN (by omega), zdN (by simp; omega), hC, List.getElem?_eq_getElem hk, Option.bind_some, Int.toNat_natCast, List.drop_zero]
   exact zmK _ _ _) with ⟨e, h1⟩ | ⟨k, h1, h2, h3, e⟩
 ·rw [e]
  have : zgN l = true := by
   unfold zgN
   rw [decide_eq_true_eq, List.nodup_iff_pairwise_ne, List.pairwise_iff_getElem]
   intro i j hi hj hij e
   have := h1 j hj
   rw [List.getElem?_eq_getElem hj] at this
   have hm : l[j] ∈ l.take j := by
    rw [← e]
    exact List.mem_iff_getElem.2 ⟨i, by simp; omega, by simp⟩
   have hc : (l.take j).contains l[j] = true := by simpa using hm
   simp only [Option.any_some, hc] at this
   cases this
  rw [this]; rfl
 rw [e]
 have : zgN l = false := by
  unfold zgN
  rw [decide_eq_false_iff_not, List.nodup_iff_pairwise_ne, List.pairwise_iff_getElem]
  intro hd
  rw [List.getElem?_eq_getElem h1] at h2
  have hc : (l.take k).contains l[k] = true := by simpa using h2
  have hm : l[k] ∈ l.take k := by simpa using hc
  obtain ⟨i, hi, e⟩ := List.mem_iff_getElem.1 hm
  simp at hi e
  exact hd i k (by omega) h1 (by omega) e
 rw [this]; rfl
theorem zyc (l : List Int) (hl : l.length ≤ 1000000000000) : zeG l = some (zgN l) := zvL zki l hl
theorem zka {l : List Int} {p : Int → Bool} {f : Int → Option Bool} (hf : ∀ x ∈ l, f x = some (!p x)) :
 ((((zaq (σ := Unit) (β := Unit ⊕ Int) (fun i8 s7 => (ix l i8).bind fun x17 => (f x17).bind fun z20 => if z20 = true then (some (.out (.inr i8))) else (some (.go ()))) (fun s7 => .inl ()) (l.length) 0 () : Option (Unit ⊕ Int)).bind (Sum.elim (fun (x5 : Unit) => some (-1)) some)).bind fun z1 => some (decide (0 ≤ z1))).bind fun z1 => some (!z1)) = some (l.all p) := by
 rcases zjx l.length (fun k => (l[k]?).any p) (fun k => (k : Int)) (body := fun i8 s7 => (ix l i8).bind fun x17 => (f x17).bind fun z20 => if z20 = true then (some (.out (.inr i8))) else (some (.go ()))) (fun k hk => by
  rw [zcF hk, Option.bind_some, hf _ (List.getElem_mem hk), Option.bind_some, List.getElem?_eq_getElem hk]
  exact zv9 _ _ _) with ⟨e, h1⟩ | ⟨k, h1, h2, h3, e⟩
 ·rw [e]
  have : l.all p = true := by
   rw [List.all_eq_true]
   intro x hx
   obtain ⟨k, hk, rfl⟩ := List.mem_iff_getElem.1 hx
   have := h1 k hk
   rw [List.getElem?_eq_getElem hk] at this
   exact this
  rw [this]; rfl
 rw [e]
 have : l.all p = false := by
  rw [List.all_eq_false]
  refine ⟨l[k], List.getElem_mem h1, ?_⟩
  rw [List.getElem?_eq_getElem h1] at h2
  simpa using h2
 rw [this]
 simp
def trB (x : Int) : Bool := decide (1 ≤ x) && decide (x ≤ 7)
theorem zje (x : Int) : zcS x = some (trB x) := by
 unfold zcS
 rw [zer]; rfl
theorem zkw (l : List Int) (hl : l.length ≤ 1000000000000) : zcZ l = some (l.all trB && zgN l) := by
 have h1 : zcn l = some (l.all trB) := zka (f := zbx) fun x _ => by
  unfold zbx
  rw [zje]; rfl
 unfold zcZ
 rw [h1, zyc l hl]
 cases l.all trB <;> rfl
theorem zgM (gr : Group) : zct gr = some (okG gr && decide (7 < gr.Q)) := by
 unfold zct
 rw [zu2]
 cases okG gr <;> simp
def zav (q : Int) (f : List Int) (x : Int) : Int := f.foldr (fun c a => (a * x + c) % q) 0
theorem zfY {q : Int} (hq : 0 < q) (f : List Int) (x : Int) : 0 ≤ zav q f x ∧ zav q f x < q := by
 cases f with
 | nil => exact ⟨Int.le_refl _, hq⟩
 | cons c f => exact ⟨Int.emod_nonneg _ (by omega), Int.emod_lt_of_pos _ hq⟩
theorem zj6 {q x : Int} {f : List Int} (hq : 0 < q) (hq2 : q ≤ 2000000000) (hx : 0 ≤ x) (hx2 : x ≤ 2000000000) (hf : ∀ c ∈ f, 0 ≤ c ∧ c ≤ 2000000000) (hl : f.length ≤ 1000000000000) : zde q f x = some (zav q f x) := by
 unfold zde
 rw [zar (by omega) (by omega)]
 refine zaw (zad (ψ := fun r => r = zav q f x) (zf8 f.length (fun k s => s = (zav q (f.drop (f.length - k)) x, (f.length : Int) - k - 1)) ?_ ?_ ?_) fun r hr => zab hr)
 ·simp [zav]
 ·rintro k s hk rfl
  have hi : (f.length : Int) - (k : Int) - 1 = ((f.length - k - 1 : Nat) : Int) := by omega
  have hlt : f.length - k - 1 < f.length := by omega
  have hd : f.drop (f.length - (k + 1)) = f[f.length - k - 1] :: f.drop (f.length - k) := by
   have e := List.drop_eq_getElem_cons (l := f) (i := f.length - k - 1) hlt
   rw [show f.length - (k + 1) = f.length - k - 1 by omega, e, show f.length - k - 1 + 1 = f.length - k by omega]
  have hb := zfY hq (f.drop (f.length - k)) x
  have hc := hf _ (List.getElem_mem hlt)
  refine zfn (by simp only [decide_eq_true_eq]; omega) (zas (by omega) ?_)
  simp only [hi]
  refine zaH hlt (zas (by omega) (zab ?_))
  show (_, _) = (_, _)
  rw [hd]
  show (_, _) = ((zav q (f.drop (f.length - k)) x * x + f[f.length - k - 1]) % q, _)
  generalize zav q (f.drop (f.length - k)) x = a at hb ⊢
  have b1 : 0 ≤ a * x := Int.mul_nonneg hb.1 hx
  have b2 : a * x ≤ 2000000000 * 2000000000 := Int.mul_le_mul (by omega) hx2 hx (by omega)
  have b3 : 0 ≤ a * x % q := Int.emod_nonneg _ (by omega)
  have b4 : a * x % q < q := Int.emod_lt_of_pos _ hq
  rw [zar (n := a * x) (by omega) (by omega), Int.tmod_eq_emod_of_nonneg b1, zar (n := a * x % q + _) (by omega) (by omega), Int.tmod_eq_emod_of_nonneg (by omega), Int.emod_add_emod, zar (by omega) (by omega)]
  congr 1
  omega
 rintro s rfl
 refine zbH (by simp only [decide_eq_false_iff_not]; omega) (zab ?_)
 show zav q (f.drop (f.length - f.length)) x = _
 rw [Nat.sub_self, List.drop_zero]
theorem zn7 {q x : Int} {f : List Int} (hq : 0 < q) (hq2 : q ≤ 2000000000) (hx : 0 ≤ x) (hx2 : x ≤ 2000000000) (hf : ∀ c ∈ f, 0 ≤ c ∧ c ≤ 2000000000) (hl : f.length ≤ 1000000000000) : zey q f x = some (zav q f x) := by
 unfold zey
 rw [zar (by omega) (by omega)]
 refine zaw (zad (ψ := fun r => r = zav q f x) (zf8 f.length (fun k s => s = (zav q (f.drop (f.length - k)) x, (f.length : Int) - k - 1)) ?_ ?_ ?_) fun r hr => zab hr)
 ·simp [zav]
 ·rintro k s hk rfl
  have hi : (f.length : Int) - (k : Int) - 1 = ((f.length - k - 1 : Nat) : Int) := by omega
  have hlt : f.length - k - 1 < f.length := by omega
  have hd : f.drop (f.length - (k + 1)) = f[f.length - k - 1] :: f.drop (f.length - k) := by
   have e := List.drop_eq_getElem_cons (l := f) (i := f.length - k - 1) hlt
   rw [show f.length - (k + 1) = f.length - k - 1 by omega, e, show f.length - k - 1 + 1 = f.length - k by omega]
  have hb := zfY hq (f.drop (f.length - k)) x
  have hc := hf _ (List.getElem_mem hlt)
  refine zfn (by simp only [decide_eq_true_eq]; omega) ?_
  simp only [hi]
  refine zaH hlt (zas (by omega) (zab ?_))
  show (_, _) = (_, _)
  rw [hd]
  show (_, _) = ((zav q (f.drop (f.length - k)) x * x + f[f.length - k - 1]) % q, _)
  generalize zav q (f.drop (f.length - k)) x = a at hb ⊢
  have b1 : 0 ≤ a * x := Int.mul_nonneg hb.1 hx
  have b2 : a * x ≤ 2000000000 * 2000000000 := Int.mul_le_mul (by omega) hx2 hx (by omega)
  rw [zar (n := a * x) (by omega) (by omega), zar (n := a * x + _) (by omega) (by omega), Int.tmod_eq_emod_of_nonneg (by omega), zar (by omega) (by omega)]
  congr 1
  omega
 rintro s rfl
 refine zbH (by simp only [decide_eq_false_iff_not]; omega) (zab ?_)
 show zav q (f.drop (f.length - f.length)) x = _
 rw [Nat.sub_self, List.drop_zero]
theorem zCf {σ β : Type} {step : σ → Option (Stp σ β)} {s : σ} {φ : β → Prop} (h : Rn (step s) (so (fun s' => Rn (zbs step s') φ) φ)) : Rn (zbs step s) φ := by
 obtain ⟨x, h1, h2⟩ := h
 rw [zhB, h1]
 cases x with
 | go s' => exact h2
 | out b => exact ⟨b, rfl, h2⟩
def dg (q : Nat) : Nat → Nat → List Int
 | 0, _ => []
 | k + 1, n => ((n % q : Nat) : Int) :: dg q k (n / q)
def evI (f : List Int) (x : Int) : Int := f.foldr (fun c a => a * x + c) 0
theorem zdA (c : Int) (f : List Int) (x : Int) : evI (c :: f) x = evI f x * x + c := rfl
theorem zjG {q a b c d : Int} (h : a % q = b % q) (h' : c % q = d % q) : (a * c) % q = (b * d) % q := by rw [Int.mul_emod, h, h', ← Int.mul_emod]
theorem ziv {q a b c d : Int} (h : a % q = b % q) (h' : c % q = d % q) : (a + c) % q = (b + d) % q := by rw [Int.add_emod, h, h', ← Int.add_emod]
theorem zev (q a : Int) : (a % q) % q = a % q := Int.emod_emod_of_dvd a (Int.dvd_refl q)
theorem zhy (q : Int) (f : List Int) (x : Int) : zav q f x = evI f x % q := by
 induction f with
 | nil => simp [zav, evI]
 | cons c f ih =>
  show (zav q f x * x + c) % q = (evI f x * x + c) % q
  rw [ih]
  exact ziv (zjG (zev _ _) rfl) rfl
theorem zrF (x v : Int) : ∀ (l : List Int) (k : Nat) (hk : k < l.length), evI (l.set k v) x = evI l x + (v - l[k]) * x ^ k
 | [], k, hk => absurd hk (by simp)
 | c :: l, 0, hk => by
  show evI l x * x + v = evI l x * x + c + (v - c) * x ^ 0
  rw [Int.pow_zero]; omega
 | c :: l, k + 1, hk => by
  show evI (l.set k v) x * x + c = evI l x * x + c + (v - l[k]'(by simpa using hk)) * x ^ (k + 1)
  rw [zrF x v l k (by simpa using hk), Int.pow_succ]
  grind
theorem zvi (l : List Int) (c x : Int) : evI (l ++ [c]) x = evI l x + c * x ^ l.length := by
 induction l with
 | nil => simp [evI]
 | cons d l ih =>
  rw [List.cons_append, zdA, zdA, ih, List.length_cons, Int.pow_succ]
  grind
theorem zpt {l : List Int} {k : Nat} (hk : k < l.length) (x : Int) : evI (l.take (k + 1)) x = evI (l.take k) x + l[k] * x ^ k := by
 rw [List.take_succ_eq_append_getElem hk, zvi, List.length_take, Nat.min_eq_left (by omega)]
theorem zuY (n : Nat) (x : Int) : evI (List.replicate n 0) x = 0 := by
 induction n with
 | zero => rfl
 | succ n ih => rw [List.replicate_succ, zdA, ih]; simp
def RgC (q : Int) (f : List Int) : Prop := ∀ c ∈ f, 0 ≤ c ∧ c < q
theorem ze3 {q : Int} (hq : 0 < q) (a : Int) : 0 ≤ a % q ∧ a % q < q := ⟨Int.emod_nonneg _ (by omega), Int.emod_lt_of_pos _ hq⟩
theorem zqd {q a b : Int} (hq2 : q ≤ 2000000000) (ha : 0 ≤ a ∧ a < q) (hb : 0 ≤ b ∧ b < q) : 0 ≤ a * b ∧ a * b ≤ 2000000000 * 2000000000 := ⟨Int.mul_nonneg ha.1 hb.1, Int.mul_le_mul (by omega) (by omega) hb.1 (by omega)⟩
theorem zmF {q : Int} {a b : List Int} (hq : 0 < q) (hq2 : q ≤ 2000000000) (ha : RgC q a) (hb : RgC q b) (la : 1 ≤ a.length ∧ a.length ≤ 1000000000) (lb : 1 ≤ b.length ∧ b.length ≤ 1000000000) :
 Rn (zdX q a b) (fun r => r.length = a.length + b.length - 1 ∧ RgC q r ∧ ∀ x, evI r x % q = (evI a x * evI b x) % q) := by
 unfold zdX
 have hw : IntKind.i64.wrap (IntKind.i64.wrap ((a.length : Int) + (b.length : Int)) - 1) = ((a.length + b.length - 1 : Nat) : Int) := by
  rw [zar (n := (a.length : Int) + (b.length : Int)) (by omega) (by omega), zar (by omega) (by omega)]; omega
 simp only [hw]
 refine zad (ψ := fun v => v = false) (zbH (by rw [beq_eq_false_iff_ne]; omega) (zab (by rw [beq_eq_false_iff_ne]; omega))) ?_
 rintro _ rfl
 refine zbH rfl (zas (by omega) (zag rfl ?_))
 rw [Int.toNat_natCast]
 refine zad (ψ := fun r => r.length = a.length + b.length - 1 ∧ RgC q r ∧ ∀ x, evI r x % q = (evI a x * evI b x) % q) (zaB (fun k s => s.length = a.length + b.length - 1 ∧ RgC q s ∧ ∀ x, evI s x % q = (evI (a.take k) x * evI b x) % q) ?_ ?_ ?_) fun r h => zab h
 ·refine ⟨by simp, fun c hc => ?_, fun x => ?_⟩
  ·rw [List.eq_of_mem_replicate hc]; omega
  rw [zuY, List.take_zero]; simp [evI]
 ·rintro k s hk ⟨h1, h2, h3⟩
  have hak := ha _ (List.getElem_mem hk)
  refine zad (ψ := fun s' => s'.length = a.length + b.length - 1 ∧ RgC q s' ∧ ∀ x, evI s' x % q = (evI s x + a[k] * x ^ k * evI b x) % q) (zaH hk (zaB (fun j s' => s'.length = a.length + b.length - 1 ∧ RgC q s' ∧ ∀ x, evI s' x % q = (evI s x + a[k] * x ^ k * evI (b.take j) x) % q) ⟨h1, h2, fun x => by simp [evI]⟩ ?_ ?_)) ?_
  ·rintro j s' hj ⟨g1, g2, g3⟩
   have hbj := hb _ (List.getElem_mem hj)
   have hlt : k + j < s'.length := by omega
   have hsj := g2 _ (List.getElem_mem hlt)
   have e : IntKind.i64.wrap ((k : Int) + (j : Int)) = ((k + j : Nat) : Int) := by rw [zar (by omega) (by omega)]; omega
   refine zaH hj ?_
   simp only [e]
   refine zaH hlt (zas (by omega) (zas (by omega) (zab ?_)))
   obtain ⟨b1, b2⟩ := zqd hq2 hak hbj
   obtain ⟨b3, b4⟩ := ze3 hq (a[k] * b[j])
   have hv : (IntKind.i64.wrap (s'[k + j] + (IntKind.i64.wrap (a[k] * b[j])).tmod q)).tmod q = (s'[k + j] + a[k] * b[j]) % q := by
    rw [zar (n := a[k] * b[j]) (by omega) (by omega), Int.tmod_eq_emod_of_nonneg b1, zar (by omega) (by omega), Int.tmod_eq_emod_of_nonneg (by omega)]
    exact ziv rfl (zev _ _)
   rw [hv, Int.toNat_natCast]
   refine ⟨by simp [g1], fun c hc => ?_, fun x => ?_⟩
   ·rcases List.mem_or_eq_of_mem_set hc with h | h
    ·exact g2 c h
    rw [h]; exact ze3 hq _
   rw [zrF x _ _ _ hlt, zpt hj]
   have e2 : evI s' x + ((s'[k + j] + a[k] * b[j]) % q - s'[k + j]) * x ^ (k + j) = evI s' x + a[k] * b[j] * x ^ (k + j) + q * (-((s'[k + j] + a[k] * b[j]) / q) * x ^ (k + j)) := by
    rw [Int.emod_def]; grind
   rw [e2, Int.add_mul_emod_self_left, ziv (g3 x) rfl, Int.pow_add]
   congr 1
   grind
  ·rintro s' ⟨g1, g2, g3⟩
   rw [List.take_length] at g3
   exact ⟨g1, g2, g3⟩
  rintro s' ⟨g1, g2, g3⟩
  refine zab ⟨g1, g2, fun x => ?_⟩
  rw [g3, zpt hk, ziv (h3 x) rfl]
  congr 1
  grind
 rintro s ⟨h1, h2, h3⟩
 rw [List.take_length] at h3
 exact ⟨h1, h2, h3⟩
def dF (x : Int) (l : List Int) : Int := l.foldr (fun p a => a * (x - p)) 1
theorem zjR (x p : Int) (l : List Int) : dF x (p :: l) = dF x l * (x - p) := rfl
theorem zn8 (x : Int) (l : List Int) (p : Int) : dF x (l ++ [p]) = dF x l * (x - p) := by
 induction l with
 | nil => rfl
 | cons c l ih => rw [List.cons_append, zjR, zjR, ih]; grind
theorem zq5 {q : Int} {l : List Int} (hq : 2 ≤ q) (hq2 : q ≤ 2000000000) (hl : ∀ p ∈ l, 0 ≤ p ∧ p ≤ 7) (hn : l.length ≤ 100000000) :
 Rn (zeB q l) (fun r => r.length = l.length + 1 ∧ RgC q r ∧ ∀ x, evI r x % q = dF x l % q) := by
 unfold zeB
 refine zad (ψ := fun r => r.length = l.length + 1 ∧ RgC q r ∧ ∀ x, evI r x % q = dF x l % q) (zaB (fun k s => s.length = k + 1 ∧ RgC q s ∧ ∀ x, evI s x % q = dF x (l.take k) % q) ?_ ?_ ?_) fun r h => zab h
 ·refine ⟨rfl, fun c hc => ?_, fun x => ?_⟩
  ·rw [List.mem_singleton.1 hc]; omega
  simp [evI, dF]
 ·rintro k s hk ⟨h1, h2, h3⟩
  have hp := hl _ (List.getElem_mem hk)
  refine zaH hk ?_
  rw [zar (by omega) (by omega)]
  refine zag (zlC (by omega) hq2) ?_
  have hr := ze3 (q := q) (by omega) (0 - l[k])
  refine zad (zmF (by omega) hq2 h2 (fun c hc => ?_) (by omega) (by simp)) ?_
  ·rcases List.mem_cons.1 hc with h | h
   ·rw [h]; exact hr
   rw [List.mem_singleton.1 h]; omega
  rintro r ⟨g1, g2, g3⟩
  refine zab ⟨by simp at g1; omega, g2, fun x => ?_⟩
  rw [g3, List.take_succ_eq_append_getElem hk, zn8]
  refine zjG (h3 x) ?_
  show ((0 * x + 1) * x + (0 - l[k]) % q) % q = _
  rw [show (0 * x + 1) * x = x by grind, show x - l[k] = x + (0 - l[k]) by omega]
  exact ziv rfl (zev _ _)
 rintro s ⟨h1, h2, h3⟩
 rw [List.take_length] at h3
 exact ⟨h1, h2, h3⟩
def zkV (s7 : Int × Int × Int × Int) : Option (Stp (Int × Int × Int × Int) (Int × Int)) :=
 if (s7.2.1 != 0) = true then (
 gd (s7.2.1 ≠ 0) <|
 some (.go (s7.2.1, IntKind.i64.wrap (s7.1 - (IntKind.i64.wrap ((IntKind.i64.wrap (s7.1.tdiv s7.2.1)) * s7.2.1))), s7.2.2.2, IntKind.i64.wrap (s7.2.2.1 - (IntKind.i64.wrap ((IntKind.i64.wrap (s7.1.tdiv s7.2.1)) * s7.2.2.2)))))) else (
 some (.out (s7.1, s7.2.2.1)))
theorem zly {a b : Nat} (h1 : a ≤ 2000000000) (h2 : b ≤ 2000000000) : IntKind.i64.wrap ((a : Int) - (IntKind.i64.wrap ((IntKind.i64.wrap ((a : Int).tdiv (b : Int))) * (b : Int)))) = ((a % b : Nat) : Int) := by
 have h3 : a / b ≤ a := Nat.div_le_self a b
 have h4 : a / b * b ≤ a := Nat.div_mul_le_self a b
 have h5 : b * (a / b) + a % b = a := Nat.div_add_mod a b
 have h6 : b * (a / b) = a / b * b := Nat.mul_comm _ _
 rw [zoe]
 generalize a / b = d at h3 h4 h5 h6 ⊢
 rw [zar (n := (d : Int)) (by omega) (by omega), zfq]
 generalize d * b = f at h4 h6 ⊢
 rw [h6] at h5
 rw [zar (n := (f : Int)) (by omega) (by omega), zar (by omega) (by omega)]
 omega
theorem euc {a b : Nat} {x y : Int} (ha : a ≤ 2000000000) (hb : b ≤ 2000000000) (hg : Nat.gcd a b = 1) : Rn (zbs zkV ((a : Int), (b : Int), x, y)) (fun r => r.1 = 1) := by
 refine zga (fun s => ∃ a b : Nat, ∃ x y : Int, s = ((a : Int), (b : Int), x, y) ∧ a ≤ 2000000000 ∧ b ≤ 2000000000 ∧ Nat.gcd a b = 1) (fun s => s.2.1.toNat) ⟨a, b, x, y, rfl, ha, hb, hg⟩ ?_
 rintro _ ⟨a, b, x, y, rfl, h1, h2, h3⟩
 unfold zkV
 by_cases hb0 : b = 0
 ·subst hb0
  refine zbH (by simp) (zab ?_)
  show (a : Int) = 1
  rw [Nat.gcd_zero_right] at h3
  omega
 refine zfn (by simpa using hb0) (zas (by simpa using hb0) (zab ?_))
 have hlt : a % b < b := Nat.mod_lt _ (by omega)
 refine ⟨⟨b, a % b, y, IntKind.i64.wrap (x - (IntKind.i64.wrap ((IntKind.i64.wrap ((a : Int).tdiv (b : Int))) * y))), ?_, h2, by omega, ?_⟩, ?_⟩
 ·show (_, _, _, _) = _
  rw [zly h1 h2]
 ·rw [Nat.gcd_comm, ← Nat.gcd_rec, Nat.gcd_comm]; exact h3
 show (IntKind.i64.wrap _).toNat < (b : Int).toNat
 rw [zly h1 h2]; omega
def ivV (q b : Int) : Int := ((zcd b q).getD (0, false)).1
theorem zos {q v : Nat} (hq : 2 ≤ q) (hq2 : q ≤ 2000000000) (hv : v < q) (hg : Nat.gcd q v = 1) : zdz (v : Int) (q : Int) = some (ivV q v) ∧ zcd (v : Int) (q : Int) = some (ivV q v, true) ∧ 0 ≤ ivV q v ∧ ivV q v < q := by
 obtain ⟨⟨u, c⟩, h1, h2⟩ := euc (x := 0) (y := 1) hq2 (by omega : v ≤ 2000000000) hg
 have h2 : u = 1 := h2
 subst h2
 have hs : zcd (v : Int) (q : Int) = some (c % (q : Int), true) := by
  unfold zcd
  rw [zhY (by omega) (by omega), Option.bind_some, show (v : Int) % (q : Int) = (v : Int) from Int.emod_eq_of_lt (by omega) (by omega)]
  have e : zbs zkV ((v : Int), (q : Int), 1, 0) = some (1, c) := by
   rw [zhB]
   have : zkV ((v : Int), (q : Int), 1, 0) = some (.go ((q : Int), (v : Int), 0, 1)) := by
    unfold zkV
    rw [if_pos (by simp; omega), zdN (by simp; omega)]
    simp only [zly (by omega : v ≤ 2000000000) hq2, Nat.mod_eq_of_lt hv, Int.mul_zero]
    rfl
   rw [this]
   exact h1
  have e2 := congrArg (fun o : Option (Int × Int) => o.bind fun (x7 : Int × Int) => (zbO x7.2 (q : Int)).bind fun z23 => some (z23, (x7.1 == 1))) e
  refine e2.trans ?_
  show (zbO c (q : Int)).bind _ = _
  rw [zhY (by omega) (by omega)]; rfl
 have hi : ivV q v = c % (q : Int) := by unfold ivV; rw [hs]; rfl
 rw [hi]
 refine ⟨?_, hs, ze3 (by omega) _⟩
 unfold zdz
 have e2 := congrArg (fun o : Option (Int × Int) => o.bind fun (x5 : Int × Int) => if (x5.1 != 1) = true then (some 0) else ((zcQ x5.2 (q : Int)).bind fun z23 => some z23)) h1
 refine e2.trans ?_
 show (zcQ c (q : Int)).bind _ = _
 rw [zlC (by omega) (by omega)]; rfl
theorem zyI {n d : Nat} (h : Pr n) (hd : 0 < d) (hdn : d < n) : Nat.gcd n d = 1 := by
 obtain ⟨k, hk⟩ := Nat.gcd_dvd_left n d
 have h1 : Nat.gcd n d ≤ d := Nat.le_of_dvd hd (Nat.gcd_dvd_right n d)
 have h0 : 0 < Nat.gcd n d := Nat.gcd_pos_of_pos_right n hd
 generalize Nat.gcd n d = g at hk h1 h0
 apply Classical.byContradiction
 intro hg
 have hg2 : 2 ≤ g := by omega
 have hk2 : 2 ≤ k := by
  rcases Nat.lt_or_ge k 2 with h | h
  ·have : k = 0 ∨ k = 1 := by omega
   rcases this with rfl | rfl <;> omega
  ·exact h
 rcases Nat.le_total g k with h' | h'
 ·exact h.2 g hg2 (by rw [hk]; exact Nat.mul_le_mul_left g h') (by rw [hk]; exact Nat.mul_mod_right g k)
 exact h.2 k hk2 (by rw [hk]; exact Nat.mul_le_mul_right k h') (by rw [hk]; exact Nat.mul_mod_left g k)
theorem zux {q x : Int} : ∀ {l : List Int}, (∀ p ∈ l, Int.gcd q (x - p) = 1) → Int.gcd q (dF x l) = 1
 | [], _ => by simp [dF]
 | p :: l, h => by
  rw [zjR, Int.gcd_mul_right_right_of_gcd_eq_one (zux fun p hp => h p (List.mem_cons_of_mem _ hp))]
  exact h p (List.mem_cons_self ..)
structure LgOk (q : Int) (pts : List Int) : Prop where
 q8 : 7 < q
 q2 : q ≤ 2000000000
 pr : Pr q.toNat
 bd : ∀ p ∈ pts, 0 ≤ p ∧ p ≤ 7
 nd : pts.Nodup
 ln : pts.length ≤ 10000000
theorem zuQ {q : Int} {pts : List Int} (h : LgOk q pts) {k : Nat} (hk : k < pts.length) : Nat.gcd q.toNat (dF pts[k] (pts.eraseIdx k) % q).toNat = 1 := by
 have h8 := h.q8
 have h1 : Int.gcd q (dF pts[k] (pts.eraseIdx k)) = 1 := by
  refine zux fun p hp => ?_
  obtain ⟨i, hi, hne, rfl⟩ := List.mem_eraseIdx_iff_getElem.1 hp
  have hn : pts[k] ≠ pts[i] := fun e => hne ((List.getElem_inj h.nd).1 e).symm
  have b1 := h.bd _ (List.getElem_mem hk)
  have b2 := h.bd _ (List.getElem_mem hi)
  rw [Int.gcd_eq_natAbs_gcd_natAbs, show q.natAbs = q.toNat by omega]
  exact zyI h.pr (by omega) (by omega)
 have h2 : Int.gcd q (dF pts[k] (pts.eraseIdx k) % q) = 1 := by
  rw [Int.gcd_comm, Int.emod_def, Int.mul_comm q, Int.gcd_sub_mul_right_left, Int.gcd_comm]; exact h1
 have := ze3 (q := q) (by omega) (dF pts[k] (pts.eraseIdx k))
 rw [Int.gcd_eq_natAbs_gcd_natAbs] at h2
 rw [show q.toNat = q.natAbs by omega, show ∀ z : Int, 0 ≤ z → z.toNat = z.natAbs from fun z hz => by omega, h2]
 exact this.1
def zbR (q : Int) (pts : List Int) (x : Int) (k : Nat) : Int := (dF x (pts.eraseIdx k) * ivV q (dF (pts.getD k 0) (pts.eraseIdx k) % q)) % q
theorem ztV {q : Int} {pts : List Int} (h : LgOk q pts) {k : Nat} (hk : k < pts.length) {d : Int} (hd : d = dF pts[k] (pts.eraseIdx k) % q) : zdz d q = some (ivV q d) ∧ zcd d q = some (ivV q d, true) ∧ 0 ≤ ivV q d ∧ ivV q d < q := by
 have h8 := h.q8
 have h2 := h.q2
 have hb := ze3 (q := q) (by omega) (dF pts[k] (pts.eraseIdx k))
 have := zos (q := q.toNat) (v := d.toNat) (by omega) (by omega) (by omega) (by rw [hd]; exact zuQ h hk)
 rw [show ((q.toNat : Nat) : Int) = q by omega, show ((d.toNat : Nat) : Int) = d by omega] at this
 exact this
theorem zmO {pts : List Int} {k j : Nat} (hj : j < pts.length) : (pts.take (j + 1)).eraseIdx k = if j = k then (pts.take j).eraseIdx k else (pts.take j).eraseIdx k ++ [pts[j]] := by
 rw [List.take_succ_eq_append_getElem hj]
 have hl : (pts.take j).length = j := by simp; omega
 by_cases h1 : j = k
 ·subst h1
  rw [if_pos rfl, List.eraseIdx_append_of_length_le (by omega), hl, Nat.sub_self]
  rw [List.eraseIdx_of_length_le (l := pts.take j) (by omega)]
  simp
 rw [if_neg h1]
 rcases Nat.lt_or_ge k j with h | h
 ·rw [List.eraseIdx_append_of_lt_length (by omega)]
 rw [List.eraseIdx_append_of_length_le (by omega), List.eraseIdx_of_length_le (l := pts.take j) (by omega), List.eraseIdx_of_length_le (by simp; omega)]
theorem zrL {q x p a : Int} (h : 7 < q) (hq2 : q ≤ 2000000000) (hx : 0 ≤ x ∧ x ≤ 7) (hp : 0 ≤ p ∧ p ≤ 7) : (IntKind.i64.wrap ((a % q) * ((x - p) % q))).tmod q = (a * (x - p)) % q := by
 obtain ⟨b1, b2⟩ := zqd hq2 (ze3 (q := q) (by omega) a) (ze3 (q := q) (by omega) (x - p))
 rw [zar (by omega) (by omega), Int.tmod_eq_emod_of_nonneg b1]
 exact zjG (zev _ _) (zev _ _)
theorem zqQ {q x : Int} {pts : List Int} (h : LgOk q pts) (hx : 0 ≤ x ∧ x ≤ 7) : zex q pts x = some ((List.range pts.length).map (zbR q pts x)) := by
 have h8 := h.q8
 have h2 := h.q2
 have hln := h.ln
 unfold zex
 refine zaw (zad (ψ := fun r => r = (List.range pts.length).map (zbR q pts x)) (zaB (fun k s => s = (List.range k).map (zbR q pts x)) rfl ?_ ?_) fun r hr => zab hr)
 ·rintro k s hk rfl
  have bk := h.bd _ (List.getElem_mem hk)
  refine zaH hk ?_
  refine zad (ψ := fun r => r = (dF x (pts.eraseIdx k) % q, dF pts[k] (pts.eraseIdx k) % q)) (zaB (fun j s => s = (dF x ((pts.take j).eraseIdx k) % q, dF pts[k] ((pts.take j).eraseIdx k) % q)) ?_ ?_ ?_) ?_
  ·simp only [List.take_zero, List.eraseIdx_nil]
   show _ = ((1 : Int) % q, (1 : Int) % q)
   rw [Int.emod_eq_of_lt (by omega) (by omega)]
  ·rintro j s hj rfl
   have bj := h.bd _ (List.getElem_mem hj)
   refine zad (ψ := fun r => r = (dF x ((pts.take (j + 1)).eraseIdx k) % q, dF pts[k] ((pts.take (j + 1)).eraseIdx k) % q)) (zaH hj (zao (fun hv => ?_) fun hv => ?_)) fun r hr => zab hr
   ·have hne : ¬ j = k := by simp at hv; omega
    rw [zar (n := x - pts[j]) (by omega) (by omega), zar (n := pts[k] - pts[j]) (by omega) (by omega)]
    refine zag (zhY (by omega) h2) (zas (by omega) (zag (zhY (by omega) h2) (zas (by omega) (zab ?_))))
    rw [zmO hj, if_neg hne, zn8, zn8, zrL h8 h2 hx bj, zrL h8 h2 bk bj]
   have hne : j = k := by simp at hv; omega
   refine zab ?_
   rw [zmO hj, if_pos hne]
  ·rintro s rfl
   rw [List.take_length]
  rintro r rfl
  obtain ⟨-, i2, i3, i4⟩ := ztV h hk rfl
  refine zag i2 (zas (by omega) (zas (by simp; omega) (zab ?_)))
  show _ = (List.range (k + 1)).map _
  obtain ⟨b1, b2⟩ := zqd h2 (ze3 (q := q) (by omega) (dF x (pts.eraseIdx k))) ⟨i3, i4⟩
  dsimp only
  rw [List.range_succ, List.map_append, zar (by omega) (by omega), Int.tmod_eq_emod_of_nonneg b1]
  congr 1
  simp only [List.map_cons, List.map_nil, zbR, List.getD_eq_getElem?_getD, List.getElem?_eq_getElem hk, Option.getD_some]
  rw [zjG (zev q (dF x (pts.eraseIdx k))) rfl]
 rintro s rfl; rfl
theorem zns {q x : Int} {pts : List Int} (h : LgOk q pts) (hx : 0 ≤ x ∧ x ≤ 7) : zdY q pts x = some ((List.range pts.length).map (zbR q pts x)) := by
 have h8 := h.q8
 have h2 := h.q2
 have hln := h.ln
 unfold zdY
 refine zaw (zad (ψ := fun r => r = (List.range pts.length).map (zbR q pts x)) (zaB (fun k s => s = (List.range k).map (zbR q pts x)) rfl ?_ ?_) fun r hr => zab hr)
 ·rintro k s hk rfl
  have bk := h.bd _ (List.getElem_mem hk)
  refine zad (ψ := fun r => RgC q r ∧ r.length ≤ 100000000 ∧ evI r x % q = zbR q pts x k) ?_ ?_
  ·unfold zgi zdJ zcv
   rw [zar (by omega) (by omega)]
   refine zag (zdN (by omega)) (zag (zdN (by omega)) ?_)
   rw [Int.toNat_natCast, show ((k : Int) + 1).toNat = k + 1 by omega, ← List.eraseIdx_eq_take_drop_succ]
   have hel : (pts.eraseIdx k).length ≤ pts.length := List.length_eraseIdx_le ..
   refine zad (zq5 (by omega) h2 (fun p hp => h.bd p (List.mem_of_mem_eraseIdx hp)) (by omega)) ?_
   rintro z5 ⟨g1, g2, g3⟩
   refine zaH hk ?_
   refine zag (zj6 (by omega) h2 bk.1 (by omega) (fun c hc => by have := g2 c hc; omega) (by omega)) ?_
   rw [zhy, g3]
   obtain ⟨i1, -, i3, i4⟩ := ztV h hk rfl
   refine zag i1 (zad (zmF (by omega) h2 g2 (fun c hc => by rw [List.mem_singleton.1 hc]; exact ⟨i3, i4⟩) (by omega) (by simp)) ?_)
   rintro z14 ⟨k1, k2, k3⟩
   refine zab ⟨k2, by simp at k1; omega, ?_⟩
   rw [k3]
   simp only [zbR, List.getD_eq_getElem?_getD, List.getElem?_eq_getElem hk, Option.getD_some]
   exact zjG (g3 x) (by simp [evI])
  rintro z17 ⟨k1, k2, k3⟩
  refine zag (zj6 (by omega) h2 hx.1 (by omega) (fun c hc => by have := k1 c hc; omega) (by omega)) (zas (by simp; omega) (zab ?_))
  show _ = (List.range (k + 1)).map _
  rw [List.range_succ, List.map_append, zhy, k3]; rfl
 rintro s rfl; rfl
theorem zgv (gr : Group) : zbX gr = some (okG gr && decide (7 < gr.Q)) := by
 unfold zbX
 rw [zpl]
 by_cases h : 7 < gr.Q <;> simp [h]
theorem zhP {gr : Group} (k : OkG gr) (c : Cipher) : zbn gr c = some (zam gr c.A && zam gr c.B) := by
 unfold zbn
 rw [zm9 k, zm9 k]
 cases zam gr c.A <;> simp
theorem zvo {gr : Group} (k : OkG gr) (c : Cipher) : zdT gr [c] = some (zam gr c.A && zam gr c.B) := by
 unfold zdT
 rw [if_neg (by simp)]
 refine (zsZ [c] (fun c => zam gr c.A && zam gr c.B) false (body := fun i10 s9 => (ix [c] i10).bind fun x19 => (zdK gr [x19.A, x19.B]).bind fun z22 => if (!z22) = true then some (.out (.inr false)) else some (.go ())) fun k' hk => ?_).trans ?_
 ·rw [zcF hk, Option.bind_some, zm6 k, Option.bind_some]
  refine (zv9 _ _ _).trans ?_
  simp
 simp
theorem zze {gr : Group} (k : OkG gr) (m : Int) : zdK gr [m] = some (zam gr m) := by
 rw [zm6 k]; simp
theorem zhT {gr : Group} (h : 0 ≤ gr.Q) (h2 : gr.Q ≤ 2000000000) (l : List Int) : zbm gr l = some (l.all (zdo gr)) := by
 have h1 : zb4 l gr = some (l.all (zdo gr)) := zka (f := fun x => zbp x gr) fun x _ => by
  unfold zbp
  rw [zrk h h2]; rfl
 unfold zbm
 rw [h1]; rfl
theorem zht {a n p e : Nat} (h : a ^ n % p = 1) : a ^ (e % n) % p = a ^ e % p := by
 have hp : 1 % p = 1 := by rw [← h, Nat.mod_mod]
 conv => rhs; rw [← Nat.div_add_mod e n]
 rw [Nat.pow_add, Nat.pow_mul, Nat.mul_mod, Nat.pow_mod (a ^ n), h, Nat.one_pow, hp, Nat.one_mul, Nat.mod_mod]
theorem zgV {gr : Group} {x : Int} (h : zam gr x = true) : 1 ≤ x ∧ x ≤ gr.P - 1 ∧ x.toNat ^ gr.Q.toNat % gr.P.toNat = 1 := by
 unfold zam at h
 simp only [Bool.and_eq_true, decide_eq_true_eq] at h
 exact ⟨h.1.1, h.1.2, h.2⟩
theorem zeF {gr : Group} (k : OkG gr) {x : Int} (h : zam gr x = true) {s l : Int} (hs : 0 ≤ s) (hl : 0 ≤ l) : zaf gr (zaf gr x s) l = zaf gr x (s * l) := by
 obtain ⟨_, _, h3⟩ := zgV h
 have hq := k.q
 obtain ⟨a, rfl⟩ := Int.eq_ofNat_of_zero_le hs
 obtain ⟨b, rfl⟩ := Int.eq_ofNat_of_zero_le hl
 obtain ⟨n, hn⟩ := Int.eq_ofNat_of_zero_le (show 0 ≤ gr.Q by omega)
 unfold zaf
 rw [hn] at h3 ⊢
 rw [Int.toNat_natCast] at h3
 have e : ∀ c : Nat, ((c : Int) % (n : Int)).toNat = c % n := fun c => by rw [← Int.natCast_emod, Int.toNat_natCast]
 rw [zfq, e, e, e, Int.toNat_natCast, zht h3, zht h3, ← Nat.pow_mod, ← Nat.pow_mul]
 congr 1
 rw [Nat.pow_mul, Nat.pow_mod, zht (n := n) (e := b)]
 ·rw [← Nat.pow_mod, ← Nat.pow_mul]
 rw [← Nat.pow_mod, ← Nat.pow_mul, Nat.mul_comm, Nat.pow_mul, Nat.pow_mod, h3, Nat.one_pow, ← h3, Nat.mod_mod]
theorem zzz {gr : Group} (k : OkG gr) {x : Int} (h0 : 0 ≤ x) (h1 : x ≤ 2000000000) : zgq gr x = some (zaf gr x (-1)) := by
 have hq := k.q
 have hp := k.p
 have e : (-1 : Int) % gr.Q = gr.Q - 1 := by
  have := Int.add_mul_emod_self_left (-1) gr.Q 1
  rw [← this, Int.mul_one]
  rw [Int.emod_eq_of_lt (by omega) (by omega)]; omega
 unfold zgq
 rw [zar (by omega) (by omega), (zgA h0 h1 (by omega) hp.2 (by omega) (by omega)).2]
 unfold zaf
 rw [e]; rfl
theorem zzn {gr : Group} (k : OkG gr) {b x : Int} (hb : 0 ≤ b) (hb2 : b ≤ 2000000000) (h0 : 0 ≤ x) (h1 : x ≤ 2000000000) : zd3 gr b x = some (zbq gr [b, zaf gr x (-1)]) := by
 have hp := k.p
 obtain ⟨p1, p2⟩ := zbS k x (-1)
 unfold zd3 zcV
 rw [(zgH k h0 h1 _).1]
 simp only [Option.bind_some]
 rw [ziW k]; rfl
 intro y hy
 simp only [List.mem_cons, List.not_mem_nil, or_false] at hy
 rcases hy with rfl | rfl <;> omega
theorem zkt {v c : Bool} {e : Option Bool} (h : v = false → Rn e (· = !c)) : Rn (if v = true then some true else e) (· = !(!v && c)) := by
 cases v
 ·exact zbH rfl (by simpa using h rfl)
 exact zfn rfl (zab rfl)
theorem zuv {α : Type} {n k : Nat} {f : Nat → α} (hk : k < n) : ix ((List.range n).map f) (k : Int) = some (f k) := by
 rw [zcF (by simpa using hk)]; simp
def zkn (gr : Group) (A z : Int) (sh : List Int) (lam : Nat → Int) : Nat → Int
 | 0 => z
 | k + 1 => zbq gr [zkn gr A z sh lam k, zaf gr A (sh.getD k 0 * lam (k + 1))]
theorem zrl {gr : Group} (k : OkG gr) {A z : Int} (hz : 0 ≤ z ∧ z ≤ gr.P) {sh : List Int} {lam : Nat → Int} : ∀ n, 0 ≤ zkn gr A z sh lam n ∧ zkn gr A z sh lam n ≤ gr.P
 | 0 => hz
 | n + 1 => by
  have h1 := zrl k hz (sh := sh) (lam := lam) (A := A) n
  have hp := k.p
  refine zjF k fun y hy => ?_
  obtain ⟨p1, p2⟩ := zbS k A (sh.getD n 0 * lam (n + 1))
  simp only [List.mem_cons, List.not_mem_nil, or_false] at hy
  rcases hy with rfl | rfl <;> omega
def zu5 (gr : Group) (c : Cipher) (m : Int) (who sh : List Int) (i : Int) : Int :=
 zkn gr c.A (zaf gr (zbq gr [c.B, zaf gr m (-1)]) (zbR gr.Q ([0] ++ who) i 0)) sh (zbR gr.Q ([0] ++ who) i) sh.length
structure SimOk (gr : Group) (c : Cipher) (m : Int) (who sh : List Int) (i : Int) : Prop where
 k : OkG gr
 q : 7 < gr.Q
 a : zam gr c.A = true
 b : zam gr c.B = true
 m : zam gr m = true
 w : who.all trB = true
 d : zgN who = true
 l : sh.length = who.length
 e : sh.all (zdo gr) = true
 i : trB i = true
theorem SimOk.lg {gr : Group} {c : Cipher} {m : Int} {who sh : List Int} {i : Int} (h : SimOk gr c m who sh i) (hl : who.length ≤ 1048576) : LgOk gr.Q ([0] ++ who) := by
 have hq := h.k.q
 have hp := h.k.p
 have hw : ∀ x ∈ who, 1 ≤ x ∧ x ≤ 7 := fun x hx => by
  have := List.all_eq_true.1 h.w x hx
  simpa [trB] using this
 have hd : who.Nodup := by simpa [zgN] using h.d
 refine ⟨h.q, by omega, h.k.pq, fun p hp => ?_, ?_, by simp; omega⟩
 ·rcases List.mem_append.1 hp with h1 | h1
  ·rw [List.mem_singleton.1 h1]; omega
  have := hw p h1; omega
 show (0 :: who).Nodup
 refine List.nodup_cons.2 ⟨fun h0 => ?_, hd⟩
 have := hw 0 h0
 omega
theorem zpD {q : Int} (hq : 0 < q) (pts : List Int) (x : Int) (k : Nat) : 0 ≤ zbR q pts x k ∧ zbR q pts x k < q := ze3 hq _
theorem zpm {gr : Group} {c : Cipher} {m : Int} {who sh : List Int} {i : Int} (h : (!(!(okG gr && decide (7 < gr.Q))) && (!(!(zam gr c.A && zam gr c.B)) && (!(!(zam gr m)) && (!(!(who.all trB && zgN who)) && (!((sh.length : Int) != (who.length : Int)) && (!(!(sh.all (zdo gr))) && (!(!(trB i)) && !(who.contains i)))))))) = true) : SimOk gr c m who sh i := by
 simp only [Bool.and_eq_true, Bool.not_not, decide_eq_true_eq, Bool.not_eq_true', bne_eq_false_iff_eq] at h
 obtain ⟨⟨h1, h2⟩, ⟨h3, h4⟩, h5, ⟨h6, h7⟩, h8, h9, h10, -⟩ := h
 exact ⟨zgg.1 h1, h2, h3, h4, h5, h6, h7, by omega, h9, h10⟩
def znO (gr : Group) (c : Cipher) (m : Int) (who sh : List Int) (i : Int) : Bool := !(!(okG gr && decide (7 < gr.Q))) && (!(!(zam gr c.A && zam gr c.B)) && (!(!(zam gr m)) && (!(!(who.all trB && zgN who)) && (!((sh.length : Int) != (who.length : Int)) && (!(!(sh.all (zdo gr))) && (!(!(trB i)) && !(who.contains i)))))))
theorem zyM : ∀ a b c d e f g h : Bool, (!(!a) && (!(!b) && (!(!c) && (!(!d) && (!e && (!(!f) && (!(!g) && !h))))))) = (!(!a) && (!(!b) && (!(!c) && (!(!d) && (!(!g) && (!h && (!e && f))))))) := by decide
theorem zzE (gr : Group) (c : Cipher) (m : Int) (who sh : List Int) (i : Int) (hl : who.length ≤ 1048576) : zbD gr c m who sh i = some (if znO gr c m who sh i = true then (zu5 gr c m who sh i, true) else (0, false)) := by
 unfold zbD
 refine zaw (zad (ψ := fun b => b = !znO gr c m who sh i) ?_ ?_)
 ·unfold znO
  rw [zyM]
  refine zag (zgv gr) (zkt fun h1 => ?_)
  have k : OkG gr := zgg.1 (by simp at h1; exact h1.1)
  have hq := k.q
  have hp := k.p
  refine zag (zhP k c) (zkt fun h2 => zag (zm9 k m) (zkt fun h3 => zag (zkw who (by omega)) (zkt fun h4 => zag (zje i) (zkt fun h7 => zag (zki who i) (zkt fun h5 => zkt fun h6 => zag (zhT (by omega) (by omega) sh) (zab rfl))))))
 rintro _ rfl
 cases hc : znO gr c m who sh i
 ·exact zfn rfl (zab rfl)
 refine zbH rfl ?_
 have h := zpm hc
 have k := h.k
 have hq := k.q
 have hp := k.p
 have lg := h.lg hl
 have hi : 0 ≤ i ∧ i ≤ 7 := by have := h.i; simp [trB] at this; omega
 have hA := zgV h.a
 have hB := zgV h.b
 have hm := zgV h.m
 refine zas (by simp; omega) (zag (zns lg hi) ?_)
 refine zag (zuv (k := 0) (by simp)) (zag (zzn k (by omega) (by omega) (by omega) (by omega)) ?_)
 have b1 := zbS k m (-1)
 have l2 : ∀ x ∈ [c.B, zaf gr m (-1)], 0 ≤ x ∧ x ≤ 2000000000 := fun x hx => by
  simp only [List.mem_cons, List.not_mem_nil, or_false] at hx
  rcases hx with rfl | rfl <;> omega
 have b2 := zjF k l2
 refine zag (zgH k b2.1 (by omega) _).1 ?_
 refine zad (ψ := fun r => r = zu5 gr c m who sh i) (zaB (fun n s => s = zkn gr c.A (zaf gr (zbq gr [c.B, zaf gr m (-1)]) (zbR gr.Q ([0] ++ who) i 0)) sh (zbR gr.Q ([0] ++ who) i) n) rfl ?_ ?_) fun r hr => zab (by rw [hr]; rfl)
 ·rintro n s hn rfl
  have hls := h.l
  have e : IntKind.i64.wrap ((n : Int) + 1) = ((n + 1 : Nat) : Int) := by rw [zar (by omega) (by omega)]; omega
  refine zaH hn ?_
  rw [e]
  refine zag (zuv (by simp; omega)) ?_
  have bs : 0 ≤ sh[n] ∧ sh[n] < gr.Q := by
   have := List.all_eq_true.1 h.e _ (List.getElem_mem hn)
   simp [zdo] at this; omega
  have bl := zpD (q := gr.Q) (by omega) ([0] ++ who) i (n + 1)
  have bq := zbS k c.A sh[n]
  refine zag (zgH k (by omega) (by omega) _).1 (zag (zgH k bq.1 (by omega) _).1 ?_)
  rw [zeF k h.a bs.1 bl.1]
  have bz := zbS k (zbq gr [c.B, zaf gr m (-1)]) (zbR gr.Q ([0] ++ who) i 0)
  have bG := zrl k (A := c.A) (z := zaf gr (zbq gr [c.B, zaf gr m (-1)]) (zbR gr.Q ([0] ++ who) i 0)) (by omega) (sh := sh) (lam := zbR gr.Q ([0] ++ who) i) n
  have bp := zbS k c.A (sh[n] * zbR gr.Q ([0] ++ who) i (n + 1))
  refine zag (ziW k fun x hx => ?_) (zab ?_)
  ·simp only [List.mem_cons, List.not_mem_nil, or_false] at hx
   rcases hx with rfl | rfl <;> omega
  show _ = zkn _ _ _ _ _ (n + 1)
  simp only [zkn, List.getD_eq_getElem?_getD, List.getElem?_eq_getElem hn, Option.getD_some]
 rintro s rfl; rfl
structure Bt (code : List Int) : Prop where
 b : ∀ x ∈ code, 0 ≤ x ∧ x ≤ 255
 l : code.length ≤ 1048576
structure Cu (code : List Int) (n : Int) (c : List Int × Int × Int) : Prop where
 e : c.1 = code
 lo : 0 ≤ c.2.1
 hi : c.2.1 ≤ n
theorem Cu.mono {code : List Int} {n m : Int} {c : List Int × Int × Int} (h : Cu code n c) (hn : n ≤ m) : Cu code m c := ⟨h.e, h.lo, Int.le_trans h.hi hn⟩
theorem zx2 (x : BitVec IntKind.u64.bits) : 0 ≤ IntKind.i64.wrap (IntKind.u64.wrap ((x &&& BitVec.ofInt IntKind.u64.bits 255).toNat : Int)) ∧ IntKind.i64.wrap (IntKind.u64.wrap ((x &&& BitVec.ofInt IntKind.u64.bits 255).toNat : Int)) ≤ 255 := by
 have hy : (x &&& BitVec.ofInt IntKind.u64.bits 255).toNat ≤ 255 := by
  rw [BitVec.toNat_and]
  exact Nat.le_trans Nat.and_le_right (by decide)
 generalize (x &&& BitVec.ofInt IntKind.u64.bits 255).toNat = y at hy ⊢
 rw [wrU (by omega) (by omega), zar (by omega) (by omega)]
 omega
theorem zuB {code c0 : List Int} {at_ seed n : Int} (hb : Bt code) (h : Cu code n (c0, at_, seed)) (hn : n ≤ 9000000000000000) : Rn (zb6 c0 at_ seed) (fun z => 0 ≤ z.1 ∧ z.1 ≤ 255 ∧ Cu code (n + 1) z.2) := by
 obtain ⟨h1, h2, h3⟩ := h
 have h1 : c0 = code := h1
 have h2 : 0 ≤ at_ := h2
 have h3 : at_ ≤ n := h3
 subst h1
 have hw : IntKind.i64.wrap (at_ + 1) = at_ + 1 := zar (by omega) (by omega)
 unfold zb6
 refine zad (ψ := fun v => 0 ≤ v ∧ v ≤ 255) ?_ fun v hv => ?_
 ·refine zao (fun g => ?_) fun g => zab (by omega)
  obtain ⟨k, rfl⟩ := Int.eq_ofNat_of_zero_le h2
  have hk : k < c0.length := by simp at g; omega
  have := hb.b _ (List.getElem_mem hk)
  exact zaH hk (zab (by rw [zar (by omega) (by omega)]; exact this))
 simp only [hw]
 refine zao (fun g => zab ⟨hv.1, hv.2, rfl, by show 0 ≤ at_ + 1; omega, by show at_ + 1 ≤ n + 1; omega⟩) fun g => zab ?_
 exact ⟨(zx2 _).1, (zx2 _).2, rfl, by show 0 ≤ at_ + 1; omega, by show at_ + 1 ≤ n + 1; omega⟩
theorem zeU {code c0 : List Int} {at_ seed n m : Int} (hb : Bt code) (h : Cu code n (c0, at_, seed)) (hn : n ≤ 8000000000000000) : Rn (zai c0 at_ seed m) (fun z => 0 ≤ z.1 ∧ (m ≤ 1 → z.1 = 0) ∧ (1 < m → z.1 < m) ∧ z.1 ≤ 65535 ∧ Cu code (n + 2) z.2) := by
 unfold zai
 refine zao (fun g => zab ⟨Int.le_refl 0, fun _ => rfl, fun h => by simp at g; omega, by show (0 : Int) ≤ _; omega, h.mono (by omega)⟩) fun g => ?_
 have g : 1 < m := by simpa using g
 refine zad (zuB hb h (by omega)) fun z ⟨z1, z2, z3⟩ => ?_
 refine zad (ψ := fun x => 0 ≤ x.2 ∧ x.2 ≤ 65535 ∧ Cu code (n + 2) x.1) ?_ fun x ⟨x1, x2, x3⟩ => ?_
 ·refine zao (fun _ => zad (zuB hb z3 (by omega)) fun y ⟨y1, y2, y3⟩ => zab ?_) fun _ => zab ⟨z1, by show z.1 ≤ _; omega, z3.mono (by omega)⟩
  rw [zar (n := z.1 * 256) (by omega) (by omega), zar (by omega) (by omega)]
  exact ⟨by show 0 ≤ z.1 * 256 + y.1; omega, by show z.1 * 256 + y.1 ≤ _; omega, y3.mono (by omega)⟩
 refine zas (by omega) (zab ?_)
 rw [Int.tmod_eq_emod_of_nonneg x1]
 have b1 := Int.emod_nonneg x.2 (show m ≠ 0 by omega)
 have b2 := Int.emod_lt_of_pos x.2 (show 0 < m by omega)
 have b3 : x.2 % m ≤ x.2 := by
  rcases Int.lt_or_le x.2 m with h | h
  ·rw [Int.emod_eq_of_lt x1 h]; exact Int.le_refl _
  ·omega
 exact ⟨b1, fun h => by omega, fun _ => b2, by show x.2 % m ≤ _; omega, x3⟩
theorem zlD {code c0 : List Int} {at_ seed n m : Int} (hb : Bt code) (h : Cu code n (c0, at_, seed)) (hn : n ≤ 8000000000000000) : Rn (za5 c0 at_ seed m) (fun z => Cu code (n + 2) z.2) := by
 unfold za5
 exact zad (zeU hb h hn) fun z hz => zab hz.2.2.2.2
theorem zen {code c0 : List Int} {at_ seed n : Int} {l : List Int} (hb : Bt code) (h : Cu code n (c0, at_, seed)) (hn : n ≤ 8000000000000000) (hl : l ≠ []) : Rn (zal c0 at_ seed l) (fun z => z.1 ∈ l ∧ Cu code (n + 2) z.2) := by
 unfold zal
 refine zad (zeU hb h hn) fun z ⟨z1, z2, z3, z4, z5⟩ => ?_
 have h0 : 0 < l.length := List.length_pos_iff.2 hl
 obtain ⟨k, hk⟩ := Int.eq_ofNat_of_zero_le z1
 have hlt : k < l.length := by
  rcases Nat.lt_or_ge 1 l.length with h | h
  ·have := z3 (by omega); omega
  ·have := z2 (by omega); omega
 rw [hk]
 exact zaH hlt (zab ⟨List.getElem_mem hlt, z5⟩)
theorem zxX {n d : Nat} (h : Pr n) (hd : d % n ≠ 0) : Nat.gcd n d = 1 := by
 obtain ⟨k, hk⟩ := Nat.gcd_dvd_left n d
 have hn := h.1
 have h0 : 0 < Nat.gcd n d := Nat.gcd_pos_of_pos_left d (by omega)
 have hdv := Nat.gcd_dvd_right n d
 generalize Nat.gcd n d = g at hk h0 hdv
 apply Classical.byContradiction
 intro hg
 have hg2 : 2 ≤ g := by omega
 have hk2 : 2 ≤ k := by
  rcases Nat.lt_or_ge k 2 with h | h
  ·have : k = 0 ∨ k = 1 := by omega
   rcases this with rfl | rfl
   ·omega
   ·rw [Nat.mul_one] at hk
    rw [← hk] at hdv
    exact absurd (Nat.mod_eq_zero_of_dvd hdv) hd
  ·exact h
 rcases Nat.le_total g k with h' | h'
 ·exact h.2 g hg2 (by rw [hk]; exact Nat.mul_le_mul_left g h') (by rw [hk]; exact Nat.mul_mod_right g k)
 exact h.2 k hk2 (by rw [hk]; exact Nat.mul_le_mul_right k h') (by rw [hk]; exact Nat.mul_mod_left g k)
theorem ztv {n : Nat} (h : Pr n) {a b : Int} (hab : (a * b) % (n : Int) = 0) : a % (n : Int) = 0 ∨ b % (n : Int) = 0 := by
 have h1 : n ∣ a.natAbs * b.natAbs := by
  rw [← Int.natAbs_mul]
  exact Int.ofNat_dvd_left.1 (Int.dvd_of_emod_eq_zero hab)
 by_cases ha : a.natAbs % n = 0
 ·exact .inl (Int.emod_eq_zero_of_dvd (Int.ofNat_dvd_left.2 (Nat.dvd_of_mod_eq_zero ha)))
 exact .inr (Int.emod_eq_zero_of_dvd (Int.ofNat_dvd_left.2 (Nat.Coprime.dvd_of_dvd_mul_left (zxX h ha) h1)))
def evP (f : List Int) (x : Int) : Int := f.foldr (fun c a => a * x + c) 0
theorem zpa (c : Int) (f : List Int) (x : Int) : evP (c :: f) x = evP f x * x + c := rfl
def dvP (r : Int) : List Int → List Int
 | [] => []
 | [_] => []
 | _ :: c :: f => evP (c :: f) r :: dvP r (c :: f)
theorem zrc (r : Int) : ∀ f : List Int, (dvP r f).length = f.length - 1
 | [] => rfl
 | [_] => rfl
 | _ :: c :: f => by
  show (dvP r (c :: f)).length + 1 = _
  rw [zrc r (c :: f)]; simp
theorem zuJ (r x : Int) : ∀ f : List Int, evP f x = evP (dvP r f) x * (x - r) + evP f r
 | [] => by simp [dvP, evP]
 | [c] => by simp [dvP, evP]
 | d :: c :: f => by
  have ih := zuJ r x (c :: f)
  show evP (c :: f) x * x + d = (evP (dvP r (c :: f)) x * x + evP (c :: f) r) * (x - r) + (evP (c :: f) r * r + d)
  rw [ih]
  grind
theorem zph (r : Int) : ∀ f : List Int, 2 ≤ f.length → (dvP r f).getLastD 0 = f.getLastD 0
 | [], h => absurd h (by simp)
 | [_], h => absurd h (by simp)
 | [d, c], _ => by simp [dvP, evP]
 | e :: d :: c :: f, _ => by
  have ih := zph r (d :: c :: f) (by simp)
  show (evP (d :: c :: f) r :: evP (c :: f) r :: dvP r (c :: f)).getLastD 0 = _
  have : dvP r (d :: c :: f) = evP (c :: f) r :: dvP r (c :: f) := rfl
  rw [this] at ih
  simpa [List.getLastD] using ih
theorem ztQ {p : Nat} (hp : Pr p) : ∀ (n : Nat) (f : List Int), f.length = n + 1 → f.getLastD 0 % (p : Int) ≠ 0 → ∀ rs : List Int, rs.Pairwise (fun a b => (b - a) % (p : Int) ≠ 0) → (∀ r ∈ rs, evP f r % (p : Int) = 0) → rs.length ≤ n
 | 0, f, hl, hf, rs, hd, hr => by
  match f, hl with
  | [c], _ =>
   cases rs with
   | nil => simp
   | cons r rs =>
    have := hr r (List.mem_cons_self ..)
    simp [evP] at this
    exact absurd (by first | exact this | exact Int.emod_eq_zero_of_dvd this) (by simpa [List.getLastD] using hf)
 | n + 1, f, hl, hf, rs, hd, hr => by
  cases rs with
  | nil => simp
  | cons r rs =>
   have h1 := List.pairwise_cons.1 hd
   have := ztQ hp n (dvP r f) (by rw [zrc]; omega) (by rw [zph r f (by omega)]; exact hf) rs h1.2 fun s hs => by
    have e := zuJ r s f
    have hs0 := hr s (List.mem_cons_of_mem _ hs)
    have hr0 := hr r (List.mem_cons_self ..)
    have hm : (evP (dvP r f) s * (s - r)) % (p : Int) = 0 := by
     rw [show evP (dvP r f) s * (s - r) = evP f s - evP f r by omega, Int.sub_emod, hs0, hr0]; simp
    rcases ztv hp hm with h | h
    ·exact h
    ·exact absurd h (h1.1 s hs)
   simpa using this
theorem zve (k : Nat) (x : Int) : evP (List.replicate k 0 ++ [1]) x = x ^ k := by
 induction k with
 | zero => simp [evP]
 | succ k ih => rw [List.replicate_succ, List.cons_append, zpa, ih, Int.pow_succ]; omega
theorem zqS {p n : Nat} (hp : Pr p) (hn : 1 ≤ n) (rs : List Int) (hd : rs.Pairwise (fun a b => (b - a) % (p : Int) ≠ 0)) (hr : ∀ r ∈ rs, r ^ n % (p : Int) = 1) : rs.length ≤ n := by
 have h2 := hp.1
 have hone : (1 : Int) % (p : Int) = 1 := Int.emod_eq_of_lt (by omega) (by omega)
 obtain ⟨k, rfl⟩ : ∃ k, n = k + 1 := ⟨n - 1, by omega⟩
 refine ztQ hp (k + 1) (-1 :: (List.replicate k 0 ++ [1])) (by simp) ?_ rs hd fun r hr' => ?_
 ·have : (-1 :: (List.replicate k (0 : Int) ++ [1])).getLastD 0 = 1 := by
   rw [← List.cons_append, List.getLastD_concat]
  rw [this, hone]; omega
 rw [zpa, zve, ← Int.pow_succ, Int.add_emod, hr r hr']
 have : ((-1 : Int) % (p : Int)) = p - 1 := by
  have := Int.add_mul_emod_self_left (-1) (p : Int) 1
  rw [← this, Int.mul_one, Int.emod_eq_of_lt (by omega) (by omega)]; omega
 rw [this, show 1 + ((p : Int) - 1) = p by omega, Int.emod_self]
theorem zuw {p n : Nat} (hp : Pr p) (hn : 1 ≤ n) (hnp : n < p - 1) : ∃ h : Nat, 2 ≤ h ∧ h < p ∧ h ^ n % p ≠ 1 := by
 apply Classical.byContradiction
 intro hc
 have h2 := hp.1
 have h1 : ∀ h : Nat, 1 ≤ h → h < p → h ^ n % p = 1 := fun h a b => by
  rcases Nat.lt_or_ge h 2 with c | c
  ·have : h = 1 := by omega
   subst this
   rw [Nat.one_pow, Nat.mod_eq_of_lt (by omega)]
  ·exact Classical.byContradiction fun d => hc ⟨h, c, b, d⟩
 have := zqS hp hn ((List.range (p - 1)).map fun k => ((k + 1 : Nat) : Int)) ?_ ?_
 ·simp at this; omega
 ·rw [List.pairwise_map]
  refine List.Pairwise.imp_of_mem ?_ List.pairwise_lt_range
  intro a b ha hb hab
  have hb := List.mem_range.1 hb
  rw [show ((b + 1 : Nat) : Int) - ((a + 1 : Nat) : Int) = ((b - a : Nat) : Int) by omega, ← Int.natCast_emod, Nat.mod_eq_of_lt (by omega)]
  omega
 intro r hr
 obtain ⟨k, hk, rfl⟩ := List.mem_map.1 hr
 have hk := List.mem_range.1 hk
 rw [← Int.natCast_pow, ← Int.natCast_emod, h1 (k + 1) (by omega) (by omega)]; rfl
structure Gs (gr : Group) : Prop where
 p : 0 ≤ gr.P ∧ gr.P ≤ 2000000000
 q : 0 ≤ gr.Q ∧ gr.Q ≤ 1000000000
 g : 0 ≤ gr.G ∧ gr.G ≤ 2000000000
theorem zx7 {q k : Nat} (hq : 2 ≤ q) : ((1 + (k : Int) * (q : Int)) - 1).tdiv (q : Int) = (k : Int) := by
 rw [show (1 + (k : Int) * (q : Int)) - 1 = (k : Int) * (q : Int) by omega, Int.mul_tdiv_cancel _ (by omega)]
theorem zjs {q : Nat} (hq2 : q ≤ 1000000) : Rn (zcW (q : Int)) (fun z => Gs z.1 ∧ (z.2 = true → z.1.Q = q ∧ 3 ≤ z.1.P) ∧ (∀ k : Nat, 1 ≤ k → Pr (1 + k * q) → 1 + k * q ≤ 2000000000 → Pr q → z.2 = true)) := by
 unfold zcW
 refine zad (ψ := fun b => b = !(decide (2 ≤ q) && prB (q : Int))) ?_ ?_
 ·refine zag (zf9 _ _ _) ?_
  by_cases h : 2 ≤ q
  ·refine zbH (by simp; omega) (zag (zkh _ (by omega)) (zab ?_))
   simp [h]
  refine zfn (by simp; omega) (zab ?_)
  simp [h]
 rintro _ rfl
 cases hc : (decide (2 ≤ q) && prB (q : Int))
 ·refine zfn rfl (zab ⟨⟨⟨by decide, by decide⟩, ⟨by decide, by decide⟩, by decide, by decide⟩, fun h => (by cases h), fun k h1 h2 h3 h4 => ?_⟩)
  rw [zfU.2 h4] at hc
  have := h4.1
  simp at hc; omega
 have hq : 2 ≤ q := by simp at hc; exact hc.1
 have hpq : Pr q := by simp at hc; exact zfU.1 hc.2
 refine zbH rfl ?_
 refine zad (ψ := fun b => (b = .inl () ∧ ∀ k : Nat, 1 ≤ k → Pr (1 + k * q) → ¬ 1 + k * q ≤ 2000000000) ∨ ∃ z : Group × Bool, b = .inr z ∧ Gs z.1 ∧ z.2 = true ∧ z.1.Q = q ∧ 3 ≤ z.1.P) ?_ ?_
 ·rw [zar (by omega) (by omega)]
  refine zga (fun s => ∃ k : Nat, 1 ≤ k ∧ s = 1 + (k : Int) * (q : Int) ∧ s ≤ 2001000001 ∧ ∀ j : Nat, 1 ≤ j → j < k → ¬ Pr (1 + j * q)) (fun s => (2001000001 - s).toNat) ⟨1, by omega, by omega, by omega, fun j h1 h2 => by omega⟩ ?_
  rintro s ⟨k, hk, rfl, hs, hn⟩
  have hkq : k * 2 ≤ k * q := Nat.mul_le_mul_left k hq
  have hkc : (k : Int) * (q : Int) = ((k * q : Nat) : Int) := zfq k q
  refine zao (fun g => ?_) fun g => ?_
  ·have g : 1 + (k : Int) * (q : Int) ≤ 2000000000 := by simpa using g
   refine zag (zkh _ (by omega)) ?_
   have hcast : 1 + (k : Int) * (q : Int) = ((1 + k * q : Nat) : Int) := by omega
   cases hp : prB (1 + (k : Int) * (q : Int))
   ·refine zfn rfl (zab ?_)
    have e : IntKind.i64.wrap (1 + (k : Int) * (q : Int) + (q : Int)) = 1 + ((k + 1 : Nat) : Int) * (q : Int) := by
     rw [zar (by omega) (by omega)]; grind
    refine ⟨⟨k + 1, by omega, e, by rw [zar (by omega) (by omega)]; omega, fun j h1 h2 => ?_⟩, ?_⟩
    ·rcases Nat.lt_or_ge j k with h | h
     ·exact hn j h1 h
     have : j = k := by omega
     subst this
     intro hpr
     rw [hcast, zfU.2 hpr] at hp
     cases hp
    rw [zar (by omega) (by omega)]; omega
   refine zbH rfl ?_
   have hpr : Pr (1 + k * q) := by rw [hcast] at hp; exact zfU.1 hp
   obtain ⟨h0, a1, a2, a3⟩ := zuw hpr hk (by omega)
   have hdv : IntKind.i64.wrap ((IntKind.i64.wrap (1 + (k : Int) * (q : Int) - 1)).tdiv (q : Int)) = (k : Int) := by
    rw [zar (n := 1 + (k : Int) * (q : Int) - 1) (by omega) (by omega), zx7 hq, zar (by omega) (by omega)]
   simp only [hdv]
   simp only [hcast]
   refine zad (ψ := fun h => 2 ≤ h ∧ h ≤ (h0 : Int)) (zga (fun s => 2 ≤ s ∧ s ≤ (h0 : Int)) (fun s => (h0 - s).toNat) (by omega) ?_) ?_
   ·rintro s ⟨s1, s2⟩
    have hpw := (zgA (a := s) (e := (k : Int)) (m := ((1 + k * q : Nat) : Int)) (by omega) (by omega) (by omega) (by omega) (by omega) (by omega)).2
    refine zas (by omega) (zag hpw ?_)
    refine zao (fun g => zab ?_) fun g => zab ⟨s1, s2⟩
    rw [zar (by omega) (by omega)]
    have hne : s ≠ (h0 : Int) := fun e => by
     subst e
     apply a3
     have g : ((((h0 : Int).toNat ^ (k : Int).toNat % ((1 + k * q : Nat) : Int).toNat : Nat)) : Int) = 1 := by simpa only [beq_iff_eq] using g
     rw [Int.toNat_natCast, Int.toNat_natCast, Int.toNat_natCast] at g
     omega
    refine ⟨⟨by omega, by omega⟩, ?_⟩
    omega
   rintro h ⟨s1, s2⟩
   have hpw := (zgA (a := h) (e := (k : Int)) (m := ((1 + k * q : Nat) : Int)) (by omega) (by omega) (by omega) (by omega) (by omega) (by omega)).2
   refine zas (by omega) (zag hpw (zab ?_))
   have hlt : h.toNat ^ (k : Int).toNat % ((1 + k * q : Nat) : Int).toNat < 1 + k * q := by
    rw [Int.toNat_natCast (1 + k * q)]
    exact Nat.mod_lt _ (by omega)
   refine .inr ⟨_, rfl, ⟨⟨by show (0 : Int) ≤ ((1 + k * q : Nat) : Int); omega, by show ((1 + k * q : Nat) : Int) ≤ _; omega⟩, ⟨by show (0 : Int) ≤ (q : Int); omega, by show (q : Int) ≤ _; omega⟩, ?_, ?_⟩, rfl, rfl, by show (3 : Int) ≤ ((1 + k * q : Nat) : Int); omega⟩
   ·show (0 : Int) ≤ ((_ : Nat) : Int); omega
   show ((_ : Nat) : Int) ≤ 2000000000; omega
  refine zab (.inl ⟨rfl, fun j h1 h2 h3 => ?_⟩)
  have g : ¬ 1 + (k : Int) * (q : Int) ≤ 2000000000 := by simpa using g
  rcases Nat.lt_or_ge j k with h | h
  ·exact hn j h1 h h2
  have : k * q ≤ j * q := Nat.mul_le_mul_right q h
  omega
 rintro b (⟨rfl, h⟩ | ⟨z, rfl, h1, h2, h3, h4⟩)
 ·exact zab ⟨⟨⟨by decide, by decide⟩, ⟨by decide, by decide⟩, by decide, by decide⟩, fun h => (by cases h), fun k h1 h2 h3 h4 => absurd h3 (h k h1 h2)⟩
 exact zab ⟨h1, fun _ => ⟨h3, h4⟩, fun _ _ _ _ _ => h2⟩
theorem zgm {n : Nat} (hn : n < 64) (h2 : 2 ≤ n) (h : ∀ d, d < 8 → 2 ≤ d → d * d ≤ n → n % d ≠ 0) : Pr n := by
 refine ⟨h2, fun d h1 h3 => ?_⟩
 rcases Nat.lt_or_ge d 8 with h8 | h8
 ·exact h d h8 h1 h3
 have : 8 * 8 ≤ d * d := Nat.mul_le_mul h8 h8
 omega
structure Gw (gr : Group) : Prop where
 p : -10 ≤ gr.P ∧ gr.P ≤ 2100000000
 q : -10 ≤ gr.Q ∧ gr.Q ≤ 2100000000
 g : -10 ≤ gr.G ∧ gr.G ≤ 2100000000
theorem Gs.w {gr : Group} (h : Gs gr) : Gw gr := ⟨by have := h.p; omega, by have := h.q; omega, by have := h.g; omega⟩
theorem zza {x : Int} (hx : x ∈ [(3 : Int), 5, 5, 7, 11, 11, 13, 23]) : ∃ q k : Nat, x = (q : Int) ∧ 3 ≤ q ∧ q ≤ 23 ∧ 1 ≤ k ∧ Pr (1 + k * q) ∧ 1 + k * q ≤ 2000000000 ∧ Pr q := by
 simp only [List.mem_cons, List.not_mem_nil, or_false] at hx
 rcases hx with rfl | rfl | rfl | rfl | rfl | rfl | rfl | rfl
 ·exact ⟨3, 2, rfl, by decide, by decide, by decide, zgm (by decide) (by decide) (by decide), by decide, zgm (by decide) (by decide) (by decide)⟩
 ·exact ⟨5, 2, rfl, by decide, by decide, by decide, zgm (by decide) (by decide) (by decide), by decide, zgm (by decide) (by decide) (by decide)⟩
 ·exact ⟨5, 2, rfl, by decide, by decide, by decide, zgm (by decide) (by decide) (by decide), by decide, zgm (by decide) (by decide) (by decide)⟩
 ·exact ⟨7, 4, rfl, by decide, by decide, by decide, zgm (by decide) (by decide) (by decide), by decide, zgm (by decide) (by decide) (by decide)⟩
 ·exact ⟨11, 2, rfl, by decide, by decide, by decide, zgm (by decide) (by decide) (by decide), by decide, zgm (by decide) (by decide) (by decide)⟩
 ·exact ⟨11, 2, rfl, by decide, by decide, by decide, zgm (by decide) (by decide) (by decide), by decide, zgm (by decide) (by decide) (by decide)⟩
 ·exact ⟨13, 4, rfl, by decide, by decide, by decide, zgm (by decide) (by decide) (by decide), by decide, zgm (by decide) (by decide) (by decide)⟩
 exact ⟨23, 2, rfl, by decide, by decide, by decide, zgm (by decide) (by decide) (by decide), by decide, zgm (by decide) (by decide) (by decide)⟩
theorem zyX {code c0 : List Int} {at_ seed n : Int} (hb : Bt code) (h : Cu code n (c0, at_, seed)) (hn : n ≤ 7000000000000000) : Rn (zcM c0 at_ seed) (fun z => Gs z.1 ∧ 3 ≤ z.1.Q ∧ z.1.Q ≤ 23 ∧ 3 ≤ z.1.P ∧ Cu code (n + 2) z.2) := by
 unfold zcM
 refine zad (zen hb h (by omega) (by simp)) fun z ⟨z1, z2⟩ => ?_
 obtain ⟨q, k, e, q1, q2, k1, k2, k3, k4⟩ := zza z1
 rw [e]
 refine zad (zjs (by omega)) fun y ⟨y1, y2, y3⟩ => zab ?_
 have y4 := y2 (y3 k k1 k2 k3 k4)
 exact ⟨y1, by show 3 ≤ y.1.Q; omega, by show y.1.Q ≤ 23; omega, y4.2, z2⟩
theorem zxk {gr : Group} (h : Gs gr) (hq : 1 ≤ gr.Q) (hp : 1 ≤ gr.P) {x : Int} (hx : 0 ≤ x ∧ x ≤ 2000000000) (e : Int) : Rn (zaT gr x e) (fun v => 0 ≤ v ∧ v ≤ 2000000000) := by
 have h1 := h.p
 have h2 := h.q
 have b1 : 0 ≤ e % gr.Q := Int.emod_nonneg _ (by omega)
 have b2 : e % gr.Q < gr.Q := Int.emod_lt_of_pos _ (by omega)
 have hw := (zgA (a := x) (e := e % gr.Q) (m := gr.P) (by omega) (by omega) (by omega) (by omega) b1 (by omega)).2
 unfold zaT
 refine zag (zhY (by omega) (by omega)) (zag hw (zab ?_))
 have hlt : x.toNat ^ (e % gr.Q).toNat % gr.P.toNat < gr.P.toNat := Nat.mod_lt _ (by omega)
 omega
theorem zAi {x : Int} (hx : x ∈ [(101 : Int), 1009, 1019, 65537, 999983]) : ∃ q : Nat, x = (q : Int) ∧ q ≤ 1000000 := by
 simp only [List.mem_cons, List.not_mem_nil, or_false] at hx
 rcases hx with rfl | rfl | rfl | rfl | rfl
 ·exact ⟨101, rfl, by decide⟩
 ·exact ⟨1009, rfl, by decide⟩
 ·exact ⟨1019, rfl, by decide⟩
 ·exact ⟨65537, rfl, by decide⟩
 exact ⟨999983, rfl, by decide⟩
theorem zyn : Gs (Group.mk 1000000007 500000003 4) := ⟨⟨by decide, by decide⟩, ⟨by decide, by decide⟩, by decide, by decide⟩
theorem cu0 (code : List Int) : Cu code 0 (code, 0, 0) := ⟨rfl, Int.le_refl 0, Int.le_refl 0⟩
theorem zw6 {code c0 : List Int} {at_ seed n : Int} (hb : Bt code) (h : Cu code n (c0, at_, seed)) (hn : n ≤ 6000000000000000) : Rn (zcA c0 at_ seed) (fun z => Gs z.1 ∧ Cu code (n + 6) z.2) := by
 unfold zcA
 refine zad (zeU hb h (by omega)) fun z ⟨z1, z2, z3, z4, z5⟩ => ?_
 refine zao (fun _ => zab ⟨zyn, z5.mono (by omega)⟩) fun _ => zao (fun _ => ?_) fun _ => ?_
 ·refine zad (zen hb z5 (by omega) (by simp)) fun y ⟨y1, y2⟩ => ?_
  obtain ⟨q, e, hq⟩ := zAi y1
  rw [e]
  exact zad (zjs hq) fun x ⟨x1, _, _⟩ => zab ⟨x1, y2.mono (by omega)⟩
 refine zad (zyX hb z5 (by omega)) fun y ⟨y1, y2, y3, y4, y5⟩ => ?_
 refine zad (zeU hb y5 (by omega)) fun x ⟨x1, x2, x3, x4, x5⟩ => ?_
 have hg := y1.g
 refine zad (zxk y1 (by omega) (by omega) hg _) fun v hv => zab ⟨⟨y1.p, y1.q, hv⟩, x5.mono (by omega)⟩
theorem zsg {code c0 : List Int} {at_ seed n : Int} (hb : Bt code) (h : Cu code n (c0, at_, seed)) (hn : n ≤ 5000000000000000) : Rn (zb2 c0 at_ seed) (fun z => Gw z.1 ∧ Cu code (n + 10) z.2) := by
 unfold zb2
 refine zad (zw6 hb h (by omega)) fun z ⟨z1, z2⟩ => ?_
 have g1 := z1.p
 have g2 := z1.q
 have g3 := z1.g
 refine zad (zeU hb z2 (by omega)) fun y ⟨_, _, _, _, y5⟩ => ?_
 rw [zar (n := z.1.P + 2) (by omega) (by omega), zar (n := z.1.Q + 1) (by omega) (by omega), zar (n := z.1.P - 1) (by omega) (by omega), zar (n := z.1.G + 1) (by omega) (by omega)]
 refine zad (ψ := fun x => Gw (Group.mk x.2.1 x.2.2.1 x.2.2.2) ∧ Cu code (n + 10) x.1) ?_ fun x hx => zab hx
 refine zao (fun _ => ?_) fun _ => zao (fun _ => ?_) fun _ => zao (fun _ => ?_) fun _ => zab ⟨z1.w, y5.mono (by omega)⟩
 ·refine zad (zen hb y5 (by omega) (by simp)) fun x ⟨x1, x2⟩ => zab ⟨?_, x2.mono (by omega)⟩
  simp only [List.mem_cons, List.not_mem_nil, or_false] at x1
  exact ⟨by show -10 ≤ x.1 ∧ x.1 ≤ _; omega, by show -10 ≤ z.1.Q ∧ z.1.Q ≤ _; omega, by show -10 ≤ z.1.G ∧ z.1.G ≤ _; omega⟩
 ·refine zad (zen hb y5 (by omega) (by simp)) fun x ⟨x1, x2⟩ => zab ⟨?_, x2.mono (by omega)⟩
  simp only [List.mem_cons, List.not_mem_nil, or_false] at x1
  exact ⟨by show -10 ≤ z.1.P ∧ z.1.P ≤ _; omega, by show -10 ≤ x.1 ∧ x.1 ≤ _; omega, by show -10 ≤ z.1.G ∧ z.1.G ≤ _; omega⟩
 refine zad (zen hb y5 (by omega) (by simp)) fun x ⟨x1, x2⟩ => zab ⟨?_, x2.mono (by omega)⟩
 simp only [List.mem_cons, List.not_mem_nil, or_false] at x1
 exact ⟨by show -10 ≤ z.1.P ∧ z.1.P ≤ _; omega, by show -10 ≤ z.1.Q ∧ z.1.Q ≤ _; omega, by show -10 ≤ x.1 ∧ x.1 ≤ _; omega⟩
theorem zvd {x : Int} (hx : x ∈ [(11 : Int), 11, 13, 23, 23, 101, 1019]) : ∃ q : Nat, x = (q : Int) ∧ q ≤ 1000000 := by
 simp only [List.mem_cons, List.not_mem_nil, or_false] at hx
 exact ⟨x.toNat, by omega, by omega⟩
theorem zpE {code c0 : List Int} {at_ seed n : Int} (hb : Bt code) (h : Cu code n (c0, at_, seed)) (hn : n ≤ 4000000000000000) : Rn (zbJ c0 at_ seed) (fun z => Gw z.1 ∧ Cu code (n + 12) z.2) := by
 unfold zbJ
 refine zad (zlD hb h (by omega)) fun z z1 => ?_
 refine zao (fun _ => ?_) fun _ => ?_
 ·exact zad (zsg hb z1 (by omega)) fun y ⟨y1, y2⟩ => zab ⟨y1, y2.mono (by omega)⟩
 refine zad (zen hb z1 (by omega) (by simp)) fun y ⟨y1, y2⟩ => ?_
 obtain ⟨q, e, hq⟩ := zvd y1
 rw [e]
 exact zad (zjs hq) fun x ⟨x1, _, _⟩ => zab ⟨x1.w, y2.mono (by omega)⟩
theorem zjw {code c0 : List Int} {at_ seed n : Int} {gr : Group} (hb : Bt code) (h : Cu code n (c0, at_, seed)) (hn : n ≤ 7000000000000000) (hg : gr.Q ≤ 2100000000) : Rn (zaM c0 at_ seed gr) (fun z => 0 ≤ z.1 ∧ z.1 ≤ 2100000000 ∧ (2 ≤ gr.Q → z.1 < gr.Q) ∧ Cu code (n + 4) z.2) := by
 unfold zaM
 refine zao (fun g => zab ⟨Int.le_refl 0, by show (0 : Int) ≤ _; omega, fun h => by simp at g; omega, h.mono (by omega)⟩) fun g => ?_
 have g : 2 ≤ gr.Q := by simp at g; omega
 refine zad (zeU hb h (by omega)) fun z ⟨z1, z2, z3, z4, z5⟩ => ?_
 refine zad (zeU hb z5 (by omega)) fun y ⟨y1, y2, y3, y4, y5⟩ => zas (by omega) (zab ?_)
 rw [zar (n := z.1 * 60000) (by omega) (by omega), zar (by omega) (by omega), Int.tmod_eq_emod_of_nonneg (by omega)]
 have b1 := Int.emod_nonneg (z.1 * 60000 + y.1) (show gr.Q ≠ 0 by omega)
 have b2 := Int.emod_lt_of_pos (z.1 * 60000 + y.1) (show 0 < gr.Q by omega)
 exact ⟨b1, by show _ % gr.Q ≤ _; omega, fun _ => b2, y5.mono (by omega)⟩
theorem zrC {code c0 : List Int} {at_ seed n : Int} {gr : Group} {k : Nat} (hb : Bt code) (h : Cu code n (c0, at_, seed)) (hn : n ≤ 5000000000000000) (hg : Gw gr) (hk : k ≤ 1000000) : Rn (zbW c0 at_ seed gr (k : Int)) (fun z => z.1.length = k ∧ (∀ x ∈ z.1, 0 ≤ x ∧ x ≤ 2100000000 ∧ (2 ≤ gr.Q → x < gr.Q)) ∧ Cu code (n + 4 * k) z.2) := by
 unfold zbW
 refine zad (ψ := fun r => r.2.length = k ∧ (∀ x ∈ r.2, 0 ≤ x ∧ x ≤ 2100000000 ∧ (2 ≤ gr.Q → x < gr.Q)) ∧ Cu code (n + 4 * k) r.1) (zf8 k (fun j s => s.2.1 = (k : Int) - j ∧ s.2.2.length = j ∧ (∀ x ∈ s.2.2, 0 ≤ x ∧ x ≤ 2100000000 ∧ (2 ≤ gr.Q → x < gr.Q)) ∧ Cu code (n + 4 * j) s.1) ⟨by show (k : Int) = _; omega, rfl, by simp, h.mono (by omega)⟩ ?_ ?_) fun r hr => zab hr
 ·rintro j s hj ⟨h1, h2, h3, h4⟩
  refine zfn (by rw [h1]; simp; omega) (zad (zjw hb h4 (by omega) hg.q.2) fun z ⟨z1, z2, z3, z4⟩ => zas (by omega) (zab ⟨?_, by simp [h2], fun x hx => ?_, z4.mono (by omega)⟩))
  ·show IntKind.i64.wrap (s.2.1 - 1) = _
   rw [h1, zar (by omega) (by omega)]; omega
  rcases List.mem_append.1 hx with h | h
  ·exact h3 x h
  rw [List.mem_singleton.1 h]; exact ⟨z1, z2, z3⟩
 rintro s ⟨h1, h2, h3, h4⟩
 exact zbH (by rw [h1]; simp) (zab ⟨h2, h3, h4⟩)
def zbg (m : Nat) : List Int := (List.range m).map fun i => ((i : Nat) : Int) + 1
theorem zoo (m : Nat) : zbg (m + 1) = zbg m ++ [(m : Int) + 1] := by simp [zbg, List.range_succ]
theorem zry {a q : Int} (h0 : 0 < q) (h1 : q ≤ 4000000000000000000) : zbO a q = some (a % q) := by
 unfold zbO
 rw [zdN (by omega), zdN (by omega)]
 have b1 : a.tmod q < q := Int.tmod_lt_of_pos a h0
 have b2 : -q < a.tmod q := by
  have := Int.lt_tmod_of_pos a h0
  omega
 rw [zar (by omega) (by omega), Int.tmod_eq_emod_of_nonneg (by omega)]
 congr 1
 rw [Int.add_emod_right]
 rw [Int.tmod_def, Int.sub_emod, Int.mul_emod_right, Int.sub_zero, Int.emod_emod]
theorem zrw (a : Int) {m : Int} (h : 0 < m) : -m < a.tmod m ∧ a.tmod m < m := by
 have h1 := Int.tmod_lt_of_pos a h
 have h2 := Int.lt_tmod_of_pos a h
 omega
theorem ztw (a : Int) {e m : Int} (h1 : 1 ≤ m) (h2 : 0 ≤ e) (h3 : e ≤ 4000000000000000000) : Rn (zbA a e m) (fun v => -m < v ∧ v < m) := by
 unfold zbA
 refine zas (by omega) (zad (ψ := fun v => -m < v ∧ v < m) (zga (fun s => (-m < s.2.2 ∧ s.2.2 < m) ∧ 0 ≤ s.2.1 ∧ s.2.1 ≤ e) (fun s => s.2.1.toNat) ⟨zrw _ (by omega), h2, Int.le_refl _⟩ ?_) fun x hx => zab hx)
 rintro s ⟨hs, h4, h5⟩
 refine zao (fun g => ?_) fun _ => zab hs
 have g : 0 < s.2.1 := by simpa using g
 refine zad (ψ := fun v => -m < v ∧ v < m) (zao (fun _ => zas (by omega) (zab (zrw _ (by omega)))) fun _ => zab hs) fun x hx => zas (by omega) (zab ?_)
 have e1 : s.2.1.tdiv 2 = s.2.1 / 2 := Int.tdiv_eq_ediv_of_nonneg (by omega)
 have e2 : IntKind.i64.wrap (s.2.1.tdiv 2) = s.2.1 / 2 := by rw [e1, zar (by omega) (by omega)]
 exact ⟨⟨hx, by show 0 ≤ IntKind.i64.wrap _; rw [e2]; omega, by show IntKind.i64.wrap _ ≤ e; rw [e2]; omega⟩, by show (IntKind.i64.wrap _).toNat < _; rw [e2]; omega⟩
theorem zxh {gr : Group} (hq : 1 ≤ gr.Q ∧ gr.Q ≤ 4000000000000000000) (hp : 1 ≤ gr.P) (x e : Int) : Rn (zaT gr x e) (fun v => -gr.P < v ∧ v < gr.P) := by
 unfold zaT
 refine zag (zry (by omega) hq.2) (zad (ztw x hp (Int.emod_nonneg _ (by omega)) ?_) fun v hv => zab hv)
 have := Int.emod_lt_of_pos e (show 0 < gr.Q by omega)
 omega
theorem ziZ {code c0 : List Int} {at_ seed n : Int} {gr : Group} (hb : Bt code) (h : Cu code n (c0, at_, seed)) (hn : n ≤ 6000000000000000) (hg : Gw gr) : Rn (zaE c0 at_ seed gr) (fun z => -2200000000 ≤ z.1 ∧ z.1 ≤ 2200000000 ∧ Cu code (n + 4) z.2) := by
 have g1 := hg.p
 have g2 := hg.q
 unfold zaE
 refine zad (ψ := fun b => b = false → 3 ≤ gr.P ∧ 1 ≤ gr.Q) (zao (fun _ => zab fun h => by cases h) fun a => zab fun b => by simp at a b; omega) fun b hb' => zao (fun _ => zab ⟨by show -2200000000 ≤ (1 : Int); decide, by show (1 : Int) ≤ _; decide, h.mono (by omega)⟩) fun e => ?_
 obtain ⟨k1, k2⟩ := hb' e
 refine zag (zry (by omega) (by omega)) (zad (zjw hb h (by omega) (by omega)) fun z ⟨z1, z2, _, z3⟩ => zad (zxh ⟨k2, by omega⟩ (by omega) _ _) fun v hv => zab ⟨by show _ ≤ v; omega, by show v ≤ _; omega, z3⟩)
theorem zpW {code c0 : List Int} {at_ seed n : Int} {gr : Group} (hb : Bt code) (h : Cu code n (c0, at_, seed)) (hn : n ≤ 5000000000000000) (hg : Gw gr) : Rn (zbL c0 at_ seed gr) (fun z => -2200000000 ≤ z.1 ∧ z.1 ≤ 2200000000 ∧ Cu code (n + 6) z.2) := by
 have g1 := hg.p
 unfold zbL
 refine zad (zlD hb h (by omega)) fun z z1 => zao (fun _ => ?_) fun _ => zad (ziZ hb z1 (by omega) hg) fun y ⟨y1, y2, y3⟩ => zab ⟨y1, y2, y3.mono (by omega)⟩
 rw [zar (n := gr.P - 1) (by omega) (by omega)]
 refine zad (zen hb z1 (by omega) (by simp)) fun y ⟨y1, y2⟩ => zab ?_
 simp only [List.mem_cons, List.not_mem_nil, or_false] at y1
 exact ⟨by show -2200000000 ≤ y.1; omega, by show y.1 ≤ _; omega, y2.mono (by omega)⟩
theorem zvR {l : List Int} : zeu l l = some true := by
 unfold zeu
 refine zaw (zbH (by simp) (zad (ψ := fun v => v = .inl ()) (zaB (fun _ _ => True) trivial ?_ fun s _ => rfl) ?_))
 ·rintro k s hk _
  exact zaH hk (zaH hk (zbH (by simp) (zab trivial)))
 rintro _ rfl
 exact zab rfl
def ze7 (gr : Group) (c : Cipher) : Bool := zam gr c.A && zam gr c.B
theorem zzp {gr : Group} (k : OkG gr) (l : List Cipher) : Rn (zat l gr.P gr.Q gr.G) (fun x => (x = -1 ∧ l.all (ze7 gr) = true) ∨ (0 ≤ x ∧ l.all (ze7 gr) = false)) := by
 unfold zat
 refine zad (ψ := fun x => (x = .inl () ∧ l.all (ze7 gr) = true) ∨ (∃ j : Nat, x = .inr (j : Int) ∧ l.all (ze7 gr) = false)) (zaB (fun n _ => ∀ m, m < n → ∀ h : m < l.length, ze7 gr l[m] = true) (fun m hm => by omega) ?_ fun s hs => .inl ⟨rfl, ?_⟩) ?_
 ·rintro n s hn hI
  refine zaH hn ?_
  unfold zcR
  refine zad (ψ := fun b => b = !ze7 gr l[n]) (zag (zhP k l[n]) (zab rfl)) ?_
  rintro _ rfl
  refine zao (fun h => zab (.inr ⟨n, rfl, ?_⟩)) fun h => zab fun m hm hl => ?_
  ·rw [List.all_eq_false]
   exact ⟨l[n], List.getElem_mem hn, by simpa using h⟩
  rcases Nat.lt_or_ge m n with h1 | h1
  ·exact hI m h1 hl
  have : m = n := by omega
  subst this
  simpa using h
 ·rw [List.all_eq_true]
  intro x hx
  obtain ⟨m, hm, rfl⟩ := List.mem_iff_getElem.1 hx
  exact hs m hm hm
 rintro x (⟨rfl, h⟩ | ⟨j, rfl, h⟩)
 ·exact zab (.inl ⟨rfl, h⟩)
 exact zab (.inr ⟨by show (0 : Int) ≤ (j : Int); omega, h⟩)
theorem zqj {gr : Group} (k : OkG gr) (l : List Cipher) : zcy gr l = some (decide (l.length ≤ 24) && l.all (ze7 gr)) := by
 unfold zcy
 refine zaw (zad (ψ := fun b => b = (decide (l.length ≤ 24) && l.all (ze7 gr))) (zao (fun h => ?_) fun h => zab ?_) fun b hb => zab hb)
 ·have h : l.length ≤ 24 := by simp at h; omega
  unfold zaD
  refine zad (ψ := fun b => b = !l.all (ze7 gr)) (zad (zzp k l) fun x hx => zab ?_) ?_
  ·rcases hx with ⟨rfl, h⟩ | ⟨h0, h⟩
   ·rw [h]; rfl
   rw [h]; simpa using h0
  rintro _ rfl
  exact zab (by simp [h])
 have h : ¬ l.length ≤ 24 := by simp at h; omega
 simp [h]
theorem zwO {gr : Group} (k : OkG gr) (l : List Cipher) : zdT gr l = some (decide (l.length ≤ 24) && l.all (ze7 gr)) := by
 unfold zdT
 by_cases h : 24 < (l.length : Int)
 ·rw [if_pos (by simpa using h)]
  have h : ¬ l.length ≤ 24 := by omega
  simp [h]
 rw [if_neg (by simpa using h)]
 refine (zsZ l (ze7 gr) false (fun n hn => ?_)).trans ?_
 ·rw [zcF hn, Option.bind_some, zm6 k, Option.bind_some]
  have e : ([l[n].A, l[n].B].all (zam gr)) = ze7 gr l[n] := by simp [ze7]
  rw [e]
  cases ze7 gr l[n] <;> rfl
 have h : l.length ≤ 24 := by omega
 cases l.all (ze7 gr) <;> simp [h]
theorem zvC {code c0 : List Int} {at_ seed n : Int} {gr : Group} (hb : Bt code) (h : Cu code n (c0, at_, seed)) (hn : n ≤ 4000000000000000) (hg : Gw gr) : Rn (zbt c0 at_ seed gr) (fun z => Cu code (n + 8) z.2) := by
 unfold zbt
 exact zad (ziZ hb h (by omega) hg) fun z ⟨_, _, z3⟩ => zad (ziZ hb z3 (by omega) hg) fun y ⟨_, _, y3⟩ => zab (y3.mono (by omega))
theorem zta {code c0 : List Int} {at_ seed n : Int} {gr : Group} {k : Nat} (hb : Bt code) (h : Cu code n (c0, at_, seed)) (hn : n ≤ 3000000000000000) (hg : Gw gr) (hk : k ≤ 1000) : Rn (zb1 c0 at_ seed gr (k : Int)) (fun z => z.1.length ≤ k + 1 ∧ Cu code (n + 4 * k + 20) z.2) := by
 unfold zb1
 refine zad (zrC hb h (by omega) hg (by omega)) fun z ⟨z1, _, z3⟩ => ?_
 refine zad (zeU hb z3 (by omega)) fun p ⟨_, _, _, _, p5⟩ => ?_
 refine zad (ψ := fun v => Sum.elim (fun x => x.2.length ≤ k + 1 ∧ Cu code (n + 4 * k + 20) x.1) (fun y => y.1.length ≤ k + 1 ∧ Cu code (n + 4 * k + 20) y.2) v) ?_ ?_
 ·refine zao (fun _ => zas (by omega) (zab ⟨by simp [z1], p5.mono (by omega)⟩)) fun _ => zao (fun _ => zao (fun g => ?_) fun _ => zab ⟨by dsimp only; omega, p5.mono (by omega)⟩) fun _ => zao (fun _ => zao (fun g => ?_) fun _ => zab ⟨by dsimp only; omega, p5.mono (by omega)⟩) fun _ => zab ⟨by dsimp only; omega, p5.mono (by omega)⟩
  ·have g : 0 < (k : Int) := by simpa using g
   exact zas (by omega) (zab ⟨by simp [z1]; omega, p5.mono (by omega)⟩)
  have g : 0 < (k : Int) := by simpa using g
  refine zad (zeU hb p5 (by omega)) fun q ⟨q1, q2, q3, _, q5⟩ => ?_
  refine zad (zen hb q5 (by omega) (by simp)) fun w ⟨_, w2⟩ => ?_
  obtain ⟨j, hj⟩ := Int.eq_ofNat_of_zero_le q1
  have hlt : j < z.1.length := by
   rcases Nat.lt_or_ge 1 k with h | h
   ·have := q3 (by omega); omega
   ·have := q2 (by omega); omega
  rw [hj]
  exact zaH hlt (zab ⟨by show (z.1.set _ _).length ≤ _; rw [List.length_set]; omega, w2.mono (by omega)⟩)
 rintro (x | y) hx
 ·exact zab hx
 exact zab hx
def byL (s : ByteArray) : List Int := s.data.toList.map fun b => (b.toNat : Int)
theorem zhE (s : ByteArray) : (byL s).length = s.size := by
 show (s.data.toList.map _).length = s.data.size
 rw [List.length_map, Array.length_toList]
theorem zuA (s : ByteArray) : ∀ x ∈ byL s, 0 ≤ x ∧ x ≤ 255 := by
 intro x hx
 obtain ⟨b, _, rfl⟩ := List.mem_map.1 hx
 have := b.toNat_lt
 omega
theorem zzj {s : ByteArray} {k : Nat} (h : k < s.size) : ixs s (k : Int) = some ((byL s)[k]'(by rw [zhE]; exact h)) := by
 have h2 : k < s.data.size := h
 simp [ixs, byL, h]
 rfl
theorem ztH (s : ByteArray) (l : List Int) (hs : s.size ≤ 1000000) (hl : l.length ≤ 1000000000000) : zfA s l = some ((s.size : Int) :: byL s ++ l) := by
 unfold zfA
 refine zaw (zad (ψ := fun x => x = (s.size : Int) :: byL s) (zf8 s.size (fun n p => n ≤ s.size ∧ p = ((s.size : Int) :: (byL s).take n, (n : Int))) ⟨by omega, by simp⟩ ?_ ?_) ?_)
 ·rintro n p hn ⟨_, rfl⟩
  have hn2 : n < (byL s).length := by rw [zhE]; exact hn
  have hb := zuA s _ (List.getElem_mem hn2)
  refine zao (fun _ => ?_) fun h => absurd h (by simp; omega)
  refine zag (zzj hn) (zas ?_ (zab ⟨by omega, ?_⟩))
  ·simp only [List.length_cons, List.length_take, zhE]; omega
  show ((s.size : Int) :: (byL s).take n ++ [_], _) = _
  rw [zar (by omega) (by omega), zar (by omega) (by omega), List.cons_append, List.take_append_getElem hn2]
  rfl
 ·rintro p ⟨_, rfl⟩
  refine zao (fun h => absurd h (by simp)) fun _ => zab ?_
  show (s.size : Int) :: (byL s).take s.size = _
  rw [List.take_of_length_le (by rw [zhE]; omega)]
 rintro _ rfl
 refine zas ?_ (zab rfl)
 simp only [List.length_cons, zhE]; omega
theorem zsR (s : ByteArray) (l : List Int) (hs : s.size ≤ 1000000) (hl : l.length ≤ 1000000000000) : zfR s l = some ((s.size : Int) :: byL s ++ l) := ztH s l hs hl
def zcr (x : Int) : Bool := decide (0 ≤ x) && decide (x ≤ 4611686018427387903)
theorem zet {x : Int} : zcr x = true ↔ 0 ≤ x ∧ x ≤ 4611686018427387903 := by simp [zcr]
theorem zsx (x : Int) : zeQ x = some (zcr x) := by
 unfold zeQ
 rw [zer]; rfl
theorem zxK (s : ByteArray) : (byL s).all zcr = true := by
 rw [List.all_eq_true]
 intro x hx
 have := zuA s x hx
 exact zet.2 ⟨by omega, by omega⟩
def hs1 (c s k : Int) : Int := (c * s + k + 1) % 2147483647
def ziy (p : Int × Int) (x : Int) : Int × Int := (hs1 48271 (hs1 48271 p.1 (x % 2147483648)) (x / 2147483648), hs1 69621 (hs1 69621 p.2 (x % 2147483648)) (x / 2147483648))
def zlx (l : List Int) : Int := let p := (((l.length : Int) :: l).foldl ziy (1, 2)); p.1 * 2147483648 + p.2
theorem zjH (c s k : Int) : 0 ≤ hs1 c s k ∧ hs1 c s k ≤ 2147483646 := by unfold hs1; omega
theorem zhU {c s k : Int} (hc : c = 48271 ∨ c = 69621) (hs : 0 ≤ s ∧ s ≤ 2147483646) (hk : 0 ≤ k ∧ k ≤ 2147483648) : (IntKind.i64.wrap ((IntKind.i64.wrap ((IntKind.i64.wrap (c * s)) + k)) + 1)).tmod 2147483647 = hs1 c s k := by
 rcases hc with rfl | rfl
 ·rw [zar (n := 48271 * s) (by omega) (by omega), zar (n := 48271 * s + k) (by omega) (by omega), zar (by omega) (by omega), Int.tmod_eq_emod_of_nonneg (by omega)]; rfl
 rw [zar (n := 69621 * s) (by omega) (by omega), zar (n := 69621 * s + k) (by omega) (by omega), zar (by omega) (by omega), Int.tmod_eq_emod_of_nonneg (by omega)]; rfl
def okP (p : Int × Int) : Prop := (0 ≤ p.1 ∧ p.1 ≤ 2147483646) ∧ (0 ≤ p.2 ∧ p.2 ≤ 2147483646)
theorem zxx (p : Int × Int) (x : Int) : okP (ziy p x) := ⟨zjH _ _ _, zjH _ _ _⟩
theorem zij : ∀ (l : List Int) (p : Int × Int), okP p → okP (l.foldl ziy p)
 | [], _, h => h
 | x :: l, p, _ => zij l _ (zxx p x)
theorem ztl (l : List Int) : zcr (zlx l) = true := by
 obtain ⟨h1, h2⟩ := zij ((l.length : Int) :: l) (1, 2) ⟨by decide, by decide⟩
 refine zet.2 ?_
 unfold zlx
 dsimp only
 omega
theorem zp8 {p : Int × Int} {x : Int} (hp : okP p) (hx : zcr x = true) : zbB p.1 p.2 x = some (ziy p x) := by
 obtain ⟨h1, h2⟩ := hp
 have hx := zet.1 hx
 have e1 : x.tmod 2147483648 = x % 2147483648 := Int.tmod_eq_emod_of_nonneg hx.1
 have e2 : IntKind.i64.wrap (x.tdiv 2147483648) = x / 2147483648 := by
  rw [Int.tdiv_eq_ediv_of_nonneg hx.1, zar (by omega) (by omega)]
 have b1 : 0 ≤ x % 2147483648 ∧ x % 2147483648 ≤ 2147483648 := by omega
 have b2 : 0 ≤ x / 2147483648 ∧ x / 2147483648 ≤ 2147483648 := by omega
 have h0 : ix [x % 2147483648, x / 2147483648] 0 = some (x % 2147483648) := rfl
 have h1' : ix [x % 2147483648, x / 2147483648] 1 = some (x / 2147483648) := rfl
 unfold zbB
 rw [e1, e2, Option.bind_some, zhB]
 simp only [List.length_cons, List.length_nil, show decide ((0 : Int) < ((0 + 1 + 1 : Nat) : Int)) = true from rfl, if_true, h0, Option.bind_some, zhU (.inl rfl) h1 b1, zhU (.inr rfl) h2 b1]
 rw [zhB]
 simp only [show IntKind.i64.wrap (0 + 1) = 1 from rfl, show decide ((1 : Int) < ((0 + 1 + 1 : Nat) : Int)) = true from rfl, if_true, h1', Option.bind_some, zhU (.inl rfl) (zjH _ _ _) b2, zhU (.inr rfl) (zjH _ _ _) b2]
 rw [zhB]
 simp only [show IntKind.i64.wrap (1 + 1) = 2 from rfl, show decide ((2 : Int) < ((0 + 1 + 1 : Nat) : Int)) = false from rfl, Bool.false_eq_true, if_false, Option.bind_some]
 rfl
theorem zru {l : List Int} (h : l.all zcr = true) {k : Nat} (hk : k < l.length) : zcr l[k] = true := List.all_eq_true.1 h _ (List.getElem_mem hk)
theorem zxw {l : List Int} (hl : l.length ≤ 1000000000000) (hd : l.all zcr = true) : zfZ l = some (zlx l) := by
 unfold zfZ
 have e0 := zp8 (p := (1, 2)) (x := (l.length : Int)) ⟨by decide, by decide⟩ (zet.2 ⟨by omega, by omega⟩)
 refine zaw (zag e0 (zad (ψ := fun p => p = ((l.length : Int) :: l).foldl ziy (1, 2)) (zaB (fun n p => p = ((l.length : Int) :: l.take n).foldl ziy (1, 2)) rfl ?_ ?_) ?_))
 ·rintro n p hn rfl
  refine zaH hn (zag (zp8 (zij _ _ ⟨by decide, by decide⟩) (zru hd hn)) (zab ?_))
  show ziy _ _ = _
  rw [← List.take_append_getElem hn, ← List.cons_append, List.foldl_append]
  rfl
 ·rintro p rfl
  show (((l.length : Int) :: l.take l.length).foldl ziy (1, 2)) = _
  rw [List.take_length]
 rintro p rfl
 obtain ⟨h1, h2⟩ := zij ((l.length : Int) :: l) (1, 2) ⟨by decide, by decide⟩
 refine zab ?_
 rw [zar (n := _ * 2147483648) (by omega) (by omega), zar (by omega) (by omega)]
 rfl
theorem zv7 {x : Int} (hx : zcr x = true) : IntKind.i64.wrap (BitVec.ofInt IntKind.i64.bits x &&& BitVec.ofInt IntKind.i64.bits 2147483647).toNat = x % 2147483648 := by
 have hx := zet.1 hx
 obtain ⟨n, rfl⟩ := Int.eq_ofNat_of_zero_le hx.1
 have h1 : (BitVec.ofInt IntKind.i64.bits ((n : Nat) : Int) &&& BitVec.ofInt IntKind.i64.bits 2147483647).toNat = n % 2147483648 := by
  rw [BitVec.toNat_and]
  have a1 : (BitVec.ofInt IntKind.i64.bits (n : Int)).toNat = n := by
   rw [BitVec.toNat_ofInt]
   have : IntKind.i64.bits = 64 := rfl
   rw [this]
   omega
  have a2 : (BitVec.ofInt IntKind.i64.bits 2147483647).toNat = 2 ^ 31 - 1 := by decide
  rw [a1, a2, Nat.and_two_pow_sub_one_eq_mod]
 rw [h1, zar (by omega) (by omega)]
 omega
theorem zy8 {l : List Int} (hl : l.length ≤ 1000000000000) (hd : l.all zcr = true) : zgx l = some (zlx l) := by
 unfold zgx
 have hd2 : ((l.length : Int) :: l).all zcr = true := by
  rw [List.all_cons, hd, Bool.and_true]
  exact zet.2 ⟨by omega, by omega⟩
 refine zaw (zas (by simp only [List.length_cons, List.length_nil]; omega) (zag rfl (zad (ψ := fun p => p = ((l.length : Int) :: l).foldl ziy (1, 2)) (zaB (fun n p => p = (((l.length : Int) :: l).take n).foldl ziy (1, 2)) rfl ?_ ?_) ?_)))
 ·rintro n p hn rfl
  have ok := zij ((((l.length : Int) :: l)).take n) (1, 2) ⟨by decide, by decide⟩
  have dg := zru hd2 hn
  have b := zet.1 dg
  have ef : (((l.length : Int) :: l)[n]).fdiv 2147483648 = ((l.length : Int) :: l)[n] / 2147483648 := Int.fdiv_eq_ediv_of_nonneg _ (by omega)
  have hn' : n < ((l.length : Int) :: l).length := hn
  refine zaH hn (zab ?_)
  show (_, _) = _
  simp only [List.singleton_append]
  rw [zv7 dg, ef, zhU (.inl rfl) ok.1 (by omega), zhU (.inr rfl) ok.2 (by omega), zhU (.inl rfl) (zjH _ _ _) (by omega), zhU (.inr rfl) (zjH _ _ _) (by omega),
   ← List.take_append_getElem hn', List.foldl_append]
  rfl
 ·rintro p rfl
  show ((((l.length : Int) :: l).take ([(l.length : Int)] ++ l).length).foldl ziy (1, 2)) = _
  rw [List.singleton_append, List.take_length]
 rintro p rfl
 obtain ⟨h1, h2⟩ := zij ((l.length : Int) :: l) (1, 2) ⟨by decide, by decide⟩
 refine zab ?_
 rw [zar (n := _ * 2147483648) (by omega) (by omega), zar (by omega) (by omega)]
 rfl
def zsE (s : ByteArray) (l : List Int) : Int := zlx ((s.size : Int) :: byL s ++ l)
theorem zpi (s : ByteArray) (l : List Int) : zcr (zsE s l) = true := ztl _
def ziE (s : ByteArray) (l : List Int) : Bool := decide (s.size ≤ 40) && decide (1 + s.size + l.length ≤ 400) && l.all zcr
theorem zrp {s : ByteArray} {l : List Int} (hs : s.size ≤ 1000000) : ((s.size : Int) :: byL s ++ l).all zcr = l.all zcr := by
 rw [List.cons_append, List.all_cons, List.all_append, zxK, zet.2 ⟨by omega, by omega⟩, Bool.true_and, Bool.true_and]
theorem zqx {s : ByteArray} {l : List Int} (hs : s.size ≤ 1000000) (hl : l.length ≤ 100000000000) (hd : l.all zcr = true) : zes s l = some (zsE s l) := by
 unfold zes
 rw [ztH s l hs (by omega), Option.bind_some, zxw (by simp [zhE]; omega) (by rw [zrp hs]; exact hd)]
 rfl
theorem zpY (l : List Int) : zea l = some (decide (l.length ≤ 400) && l.all zcr) := by
 unfold zea
 have h1 : zcw l = some (l.all zcr) := zka (f := zbC) fun x _ => by
  unfold zbC
  rw [zsx]; rfl
 rw [h1]
 by_cases h : l.length ≤ 400
 ·rw [if_pos (by simp; omega)]; simp [h]
 rw [if_neg (by simp; omega)]; simp [h]
theorem zsK (l : List Int) : zeT l = some (if (decide (l.length ≤ 400) && l.all zcr) = true then (zlx l, true) else (0, false)) := by
 unfold zeT
 rw [zpY, Option.bind_some]
 cases h : (decide (l.length ≤ 400) && l.all zcr) with
 | true =>
  simp only [Bool.and_eq_true, decide_eq_true_eq] at h
  rw [zy8 (by omega) h.2]; rfl
 | false => rfl
theorem znJ (s : ByteArray) (l : List Int) : zdr s l = some (if ziE s l = true then (zsE s l, true) else (0, false)) := by
 unfold zdr
 by_cases h1 : s.size ≤ 40
 ·by_cases h2 : l.length ≤ 400
  ·rw [if_neg (by simp; omega), Option.bind_some, if_neg (by simp; omega), zsR s l (by omega) (by omega), Option.bind_some, zsK, zrp (by omega)]
   have e : ((s.size : Int) :: byL s ++ l).length = 1 + s.size + l.length := by simp [zhE]; omega
   rw [e]
   have e2 : ziE s l = (decide (1 + s.size + l.length ≤ 400) && l.all zcr) := by simp [ziE, h1]
   rw [e2]
   cases decide (1 + s.size + l.length ≤ 400) <;> cases l.all zcr <;> rfl
  rw [if_neg (by simp; omega), Option.bind_some, if_pos (by simp; omega)]
  have : ziE s l = false := by
   have : ¬ 1 + s.size + l.length ≤ 400 := by omega
   simp [ziE, this]
  rw [this]; rfl
 rw [if_pos (by simp; omega), Option.bind_some, if_pos rfl]
 have : ziE s l = false := by simp [ziE, h1]
 rw [this]; rfl
theorem zp0 {α β γ : Type} {l : List α} {f : α → β} {body : Int → List β → Option (Stp (List β) γ)} {stop : List β → γ} (a0 : List β) (hs : ∀ k (h : k < l.length) (s : List β), s.length = a0.length + k → body (k : Int) s = some (.go (s ++ [f l[k]]))) :
 zaq body stop l.length 0 a0 = some (stop (a0 ++ l.map f)) := by
 refine zaw (zaB (fun k s => s = a0 ++ (l.take k).map f ∧ k ≤ l.length) ⟨by simp, by omega⟩ ?_ ?_)
 ·rintro k s hk ⟨rfl, _⟩
  refine ⟨_, hs k hk _ (by simp; omega), ?_, hk⟩
  rw [List.take_succ_eq_append_getElem hk, List.map_append, List.append_assoc]; rfl
 rintro s ⟨rfl, _⟩
 simp
theorem ztT {γ : Type} {m : Nat} (p : Nat → Bool) (c d : γ) {body : Int → Unit → Option (Stp Unit (Unit ⊕ γ))} (h : ∀ k, k < m → body (k : Int) () = some (if p k = true then .go () else .out (.inr c))) :
 (zaq body (fun _ => .inl ()) m 0 ()).bind (Sum.elim (fun _ => some d) some) = some (if (List.range m).all p = true then d else c) := by
 rcases zjx (body := body) m p (fun _ => c) h with ⟨e, h1⟩ | ⟨k, h1, h2, h3, e⟩
 ·have : (List.range m).all p = true := by
   rw [List.all_eq_true]; intro x hx; exact h1 x (List.mem_range.1 hx)
  rw [e, this]; rfl
 have : (List.range m).all p = false := by
  rw [List.all_eq_false]; exact ⟨k, List.mem_range.2 h1, by simp [h2]⟩
 rw [e, this]; rfl
def inB (a b x : Int) : Bool := decide (a ≤ x) && decide (x ≤ b)
theorem zi8 {a b x : Int} : inB a b x = true ↔ a ≤ x ∧ x ≤ b := by simp [inB]
theorem zuD (a b : Bool) : (if a = true then some true else some b) = some (a || b) := by cases a <;> rfl
theorem zoN (x a b : Int) : zbc x a b = some (inB a b x) := zf9 x a b
theorem zhA {l : List Int} (h : l.length ≤ 1048576) : zcP l = some l := zdN (by omega)
def itr {σ : Type} (f : Nat → σ → σ) : Nat → σ → σ
 | 0, s => s
 | n + 1, s => f n (itr f n s)
theorem zrH {σ : Type} {f : Nat → σ → σ} {I : Nat → σ → Prop} {s0 : σ} (h0 : I 0 s0) {m : Nat} (h : ∀ k s, k < m → I k s → I (k + 1) (f k s)) : ∀ k, k ≤ m → I k (itr f k s0)
 | 0, _ => h0
 | k + 1, hk => h k _ (by omega) (zrH h0 h k (by omega))
theorem zx6 {σ β : Type} {body : Int → σ → Option (Stp σ β)} {stop : σ → β} {m : Nat} {s0 : σ} (f : Nat → σ → σ) (I : Nat → σ → Prop) (h0 : I 0 s0) (hi : ∀ k s, k < m → I k s → I (k + 1) (f k s)) (hs : ∀ k s, k < m → I k s → body (k : Int) s = some (.go (f k s))) :
 zaq body stop m 0 s0 = some (stop (itr f m s0)) := by
 refine zaw (zaB (fun k s => s = itr f k s0 ∧ k ≤ m) ⟨rfl, by omega⟩ ?_ ?_)
 ·rintro k s hk ⟨rfl, _⟩
  exact ⟨_, hs k _ hk (zrH h0 hi k (by omega)), rfl, hk⟩
 rintro s ⟨rfl, _⟩; rfl
theorem zhl {α : Type} {L : List (List α)} {i : Nat} (h : i < L.length) : (L.take (i + 1)).flatten = (L.take i).flatten ++ L[i] := by
 rw [List.take_succ_eq_append_getElem h, List.flatten_append]; simp
theorem zmz {α : Type} (L : List (List α)) (i : Nat) : (L.take i).flatten.length ≤ L.flatten.length := by
 have e : L.flatten = (L.take i).flatten ++ (L.drop i).flatten := by rw [← List.flatten_append, List.take_append_drop]
 rw [e, List.length_append]; omega
theorem zi4 (L : List (List Int)) (h : L.flatten.length ≤ 1000000000000) : zaU L = some L.flatten := by
 unfold zaU
 refine zaw (zad (ψ := fun n => n = (L.flatten.length : Int)) (zaB (fun i s => s = ((L.take i).flatten.length : Int)) rfl ?_ ?_) ?_)
 ·rintro i s hi rfl
  have e := congrArg List.length (zhl hi)
  rw [List.length_append] at e
  have hl := zmz L (i + 1)
  refine zaH hi ?_
  rw [zar (by omega) (by omega)]
  refine zbH (by simp only [decide_eq_false_iff_not]; omega) (zab ?_)
  show _ = _
  omega
 ·rintro s rfl
  rw [List.take_length]
 rintro n rfl
 refine zas (by omega) (zad (ψ := fun r => r = L.flatten) (zaB (fun i s => s = (L.take i).flatten) rfl ?_ ?_) fun r hr => zab hr)
 ·rintro i s hi rfl
  have e := congrArg List.length (zhl hi)
  rw [List.length_append] at e
  have hl := zmz L (i + 1)
  refine zaH hi (zas (by omega) (zab ?_))
  show _ = _
  rw [zhl hi]
 rintro s rfl
 rw [List.take_length]
def chG (gr : Group) (s : ByteArray) (l : List Int) : Int := zsE s ([gr.P, gr.Q, gr.G] ++ l) % gr.Q
theorem ztq {gr : Group} (k : OkG gr) (s : ByteArray) (l : List Int) : 0 ≤ chG gr s l ∧ chG gr s l < gr.Q := by
 have := k.q
 exact ⟨Int.emod_nonneg _ (by omega), Int.emod_lt_of_pos _ (by omega)⟩
theorem zri {gr : Group} (k : OkG gr) {l : List Int} : ([gr.P, gr.Q, gr.G] ++ l).all zcr = l.all zcr := by
 have hp := k.p
 have hq := k.q
 have hg := k.g
 rw [List.all_append]
 have : [gr.P, gr.Q, gr.G].all zcr = true := by
  simp only [List.all_cons, List.all_nil, Bool.and_true, Bool.and_eq_true]
  exact ⟨zet.2 (by omega), zet.2 (by omega), zet.2 (by omega)⟩
 rw [this, Bool.true_and]
theorem zkY {gr : Group} (k : OkG gr) {s : ByteArray} {l : List Int} (hs : s.size ≤ 1000000) (hl : l.length ≤ 10000000000) (hd : l.all zcr = true) : zdg gr s l = some (chG gr s l) := by
 have hq := k.q
 have hb := zet.1 (zpi s ([gr.P, gr.Q, gr.G] ++ l))
 unfold zdg
 rw [zdN (by simp only [List.length_cons, List.length_nil]; omega), zqx hs (by simp only [List.length_append, List.length_cons, List.length_nil]; omega) (by rw [zri k]; exact hd), Option.bind_some, zdN (by omega), Int.tmod_eq_emod_of_nonneg hb.1]
 rfl
theorem zt6 {gr : Group} (k : OkG gr) (s : ByteArray) {l : List Int} (hl : l.length ≤ 10000000000) : zbo gr s l = some (if ziE s ([gr.P, gr.Q, gr.G] ++ l) = true then (chG gr s l, true) else (0, false)) := by
 have hq := k.q
 have hb := zet.1 (zpi s ([gr.P, gr.Q, gr.G] ++ l))
 unfold zbo
 rw [zdN (by simp only [List.length_cons, List.length_nil]; omega), znJ, Option.bind_some]
 cases ziE s ([gr.P, gr.Q, gr.G] ++ l) with
 | false => rfl
 | true =>
  simp only [if_true, Bool.not_true, Bool.false_eq_true, if_false]
  rw [zdN (by omega), Int.tmod_eq_emod_of_nonneg hb.1]
  rfl
theorem zwq {gr : Group} (k : OkG gr) {s : ByteArray} {l : List Int} (hs : s.size ≤ 40) (hl : 4 + s.size + l.length ≤ 400) (hd : l.all zcr = true) : ziE s ([gr.P, gr.Q, gr.G] ++ l) = true := by
 unfold ziE
 rw [zri k, hd, Bool.and_true, Bool.and_eq_true, decide_eq_true_eq, decide_eq_true_eq]
 simp only [List.length_append, List.length_cons, List.length_nil]
 omega
theorem zjC {gr : Group} (k : OkG gr) {l : List Int} (h : l.all (zam gr) = true) : l.all zcr = true := by
 have hp := k.p
 rw [List.all_eq_true] at h ⊢
 intro x hx
 have := ziI (h x hx)
 exact zet.2 (by omega)
def zch (gr : Group) : List Int → List Int → Int → Int
 | x :: l, e :: m, o => zch gr l m (o * zaf gr x e % gr.P)
 | _, _, o => o
theorem zld (gr : Group) : ∀ (l m : List Int) (x e o : Int), l.length = m.length → zch gr (l ++ [x]) (m ++ [e]) o = zch gr l m o * zaf gr x e % gr.P
 | [], [], x, e, o, _ => rfl
 | y :: l, f :: m, x, e, o, h => zld gr l m x e _ (by simpa using h)
theorem zmx (gr : Group) : ∀ (l m : List Int) (o : Int), zch gr l (m.take l.length) o = zch gr l m o
 | [], m, o => by cases m <;> rfl
 | y :: l, [], o => rfl
 | y :: l, f :: m, o => zmx gr l m _
theorem zn9 {gr : Group} (h : 0 < gr.P) : ∀ (l m : List Int) (o : Int), 0 ≤ o ∧ o < gr.P → 0 ≤ zch gr l m o ∧ zch gr l m o < gr.P
 | x :: l, e :: m, o, _ => zn9 h l m _ ⟨Int.emod_nonneg _ (by omega), Int.emod_lt_of_pos _ h⟩
 | [], _, o, ho => ho
 | _ :: _, [], o, ho => ho
theorem zjD {gr : Group} (k : OkG gr) {x y : Int} (hx : 0 ≤ x ∧ x < gr.P) (hy : 0 ≤ y) : zbq gr [x, y] = x * y % gr.P := by
 have hp := k.p
 simp only [zbq, List.foldl_cons, List.foldl_nil, Int.one_mul]
 rw [Int.emod_eq_of_lt hx.1 hx.2]
theorem zlq {gr : Group} (k : OkG gr) {l m : List Int} (hl : ∀ x ∈ l, 0 ≤ x ∧ x ≤ 2000000000) (hm : l.length ≤ m.length) : zdU gr l m = some (zch gr l m 1) := by
 have hp := k.p
 unfold zdU
 refine zaw (zad (ψ := fun b => b = zch gr l m 1) (zaB (fun i s => s = zch gr (l.take i) (m.take i) 1) rfl ?_ ?_) fun b hb => zab hb)
 ·rintro i s hi rfl
  have bd := zn9 (gr := gr) (by omega) (l.take i) (m.take i) 1 (by omega)
  have hx := hl l[i] (List.getElem_mem hi)
  have pb := zbS k l[i] (m[i]'(by omega))
  refine zaH hi (zaH (show i < m.length by omega) (zag (zkU k hx.1 hx.2 _) (zas (by omega) (zab ?_))))
  show _ = zch gr (l.take (i + 1)) (m.take (i + 1)) 1
  rw [List.take_succ_eq_append_getElem hi, List.take_succ_eq_append_getElem (show i < m.length by omega), zld _ _ _ _ _ _ (by simp; omega)]
  have b1 := Int.mul_nonneg bd.1 pb.1
  have b2 : zch gr (l.take i) (m.take i) 1 * zaf gr l[i] (m[i]'(by omega)) ≤ 2000000000 * 2000000000 := Int.mul_le_mul (by omega) (by omega) pb.1 (by omega)
  rw [zar (by omega) (by omega), Int.tmod_eq_emod_of_nonneg b1]
 rintro s rfl
 rw [List.take_length, zmx]
theorem zog {gr : Group} (k : OkG gr) {l m : List Int} (hl : ∀ x ∈ l, 0 ≤ x ∧ x ≤ 2000000000) (hm : l.length ≤ m.length) : zcL gr l m = some (zch gr l m 1) := by
 have hp := k.p
 unfold zcL
 refine zaw (zad (ψ := fun b => b = zch gr l m 1) (zaB (fun i s => s = zch gr (l.take i) (m.take i) 1) rfl ?_ ?_) fun b hb => zab hb)
 ·rintro i s hi rfl
  have bd := zn9 (gr := gr) (by omega) (l.take i) (m.take i) 1 (by omega)
  have hx := hl l[i] (List.getElem_mem hi)
  have pb := zbS k l[i] (m[i]'(by omega))
  refine zaH hi (zaH (show i < m.length by omega) (zag (zgH k hx.1 hx.2 _).1 (zag (ziW k ?_) (zab ?_))))
  ·intro y hy
   simp only [List.mem_cons, List.not_mem_nil, or_false] at hy
   rcases hy with rfl | rfl <;> omega
  show _ = zch gr (l.take (i + 1)) (m.take (i + 1)) 1
  rw [List.take_succ_eq_append_getElem hi, List.take_succ_eq_append_getElem (show i < m.length by omega), zld _ _ _ _ _ _ (by simp; omega), zjD k bd pb.1]
 rintro s rfl
 rw [List.take_length, zmx]
structure LinS (gr : Group) (bs : List (List Int)) : Prop where
 n : 1 ≤ bs.length ∧ bs.length ≤ 8
 m : 1 ≤ (bs.headD []).length ∧ (bs.headD []).length ≤ 8
 r : ∀ r ∈ bs, r.length = (bs.headD []).length ∧ r.all (zam gr) = true
theorem zou : ∀ {bs : List (List Int)} {c : Nat}, (∀ r ∈ bs, r.length ≤ c) → bs.flatten.length ≤ bs.length * c
 | [], _, _ => by simp
 | r :: bs, c, h => by
  have h1 := h r (List.mem_cons_self ..)
  have h2 := zou fun x hx => h x (List.mem_cons_of_mem r hx)
  rw [List.flatten_cons, List.length_append, List.length_cons, Nat.add_mul]
  omega
theorem LinS.flat {gr : Group} {bs : List (List Int)} (h : LinS gr bs) : bs.flatten.length ≤ 64 := by
 have := zou (bs := bs) (c := 8) fun r hr => by rw [(h.r r hr).1]; exact h.m.2
 have := h.n
 omega
theorem LinS.dig {gr : Group} (k : OkG gr) {bs : List (List Int)} (h : LinS gr bs) : bs.flatten.all zcr = true := by
 rw [List.all_eq_true]
 intro x hx
 obtain ⟨r, hr, hx⟩ := List.mem_flatten.1 hx
 exact List.all_eq_true.1 (zjC k (h.r r hr).2) x hx
theorem LinS.hd {gr : Group} {bs : List (List Int)} (h : LinS gr bs) : ix bs 0 = some (bs.headD []) := by
 cases bs with
 | nil => have := h.n; simp at this
 | cons r l => rfl
theorem zhF {gr : Group} (k : OkG gr) {l : List Int} (h : l.all (zam gr) = true) : ∀ x ∈ l, 0 ≤ x ∧ x ≤ 2000000000 := fun x hx => by
 have hp := k.p
 have := ziI (List.all_eq_true.1 h x hx)
 omega
theorem zuR {bs : List (List Int)} {im cs : List Int} (h1 : bs.flatten.length ≤ 1000000) (h2 : im.length ≤ 1048576) (h3 : cs.length ≤ 1048576) : zdf bs im cs = some (bs.flatten ++ im ++ cs) := by
 unfold zdf
 refine zaw (zad (ψ := fun r => r = bs.flatten) (zaB (fun i s => s = (bs.take i).flatten) rfl ?_ ?_) ?_)
 ·rintro i s hi rfl
  have e := congrArg List.length (zhl hi)
  rw [List.length_append] at e
  have hl := zmz bs (i + 1)
  refine zaH hi (zas (by omega) (zab ?_))
  show _ = _
  rw [zhl hi]
 ·rintro s rfl
  rw [List.take_length]
 rintro r rfl
 exact zas (by omega) (zas (by rw [List.length_append]; omega) (zab rfl))
theorem zp9 {gr : Group} (k : OkG gr) {bs : List (List Int)} {es : List Int} (hb : LinS gr bs) (he : es.length = (bs.headD []).length) : zbj gr bs es = some (bs.map fun r => zch gr r es 1) := by
 unfold zbj
 have hn := hb.n
 rw [zp0 (f := fun r => zch gr r es 1) []]
 ·rfl
 intro i hi s hs
 have hr := hb.r _ (List.getElem_mem hi)
 rw [zcF hi, Option.bind_some, zog k (zhF k hr.2) (by omega), Option.bind_some, zdN (by simp at hs; omega)]
def zkF (gr : Group) (s : ByteArray) (bs : List (List Int)) (im : List Int) (p : Proof) : Bool :=
 !(((p.Commits.length : Int) != (bs.length : Int)) || (((p.Challenges.length : Int) != 1) || (((p.Responses.length : Int) != ((bs.headD []).length : Int)) || (!p.Commits.all (zam gr) || !p.Responses.all (zdo gr))))) &&
 (!(p.Challenges.headD 0 != chG gr s (bs.flatten ++ im ++ p.Commits)) &&
 (List.range bs.length).all fun i => !(zch gr (bs.getD i []) p.Responses 1 != zbq gr [p.Commits.getD i 0, zaf gr (im.getD i 0) (p.Challenges.headD 0)]))
theorem zt4 {gr : Group} (k : OkG gr) {s : ByteArray} (hs : s.size ≤ 40) {bs : List (List Int)} {im : List Int} {p : Proof} (hb : LinS gr bs) (hi : im.length = bs.length) (hd : im.all (zam gr) = true) (hc : p.Commits.length ≤ 1048576) :
 zfh gr s bs im p = some (zkF gr s bs im p) := by
 have hp := k.p
 have hq := k.q
 unfold zfh zkF
 simp only [hb.hd, zm6 k, zln (gr := gr) (by omega) (by omega), Option.bind_some, zuD]
 cases hg : (((p.Commits.length : Int) != (bs.length : Int)) || (((p.Challenges.length : Int) != 1) || (((p.Responses.length : Int) != ((bs.headD []).length : Int)) || (!p.Commits.all (zam gr) || !p.Responses.all (zdo gr))))) with
 | true => rfl
 | false =>
  simp only [Bool.or_eq_false_iff, bne_eq_false_iff_eq, Bool.not_eq_false'] at hg
  obtain ⟨g1, g2, g3, g4, g5⟩ := hg
  have hf := hb.flat
  have hn := hb.n
  obtain ⟨c, hce⟩ : ∃ c, p.Challenges = [c] := by
   match h : p.Challenges, g2 with
   | [c], _ => exact ⟨c, rfl⟩
  have hdig : (bs.flatten ++ im ++ p.Commits).all zcr = true := by
   rw [List.all_append, List.all_append, hb.dig k, zjC k hd, zjC k g4]; rfl
  simp only [Bool.false_eq_true, if_false, hce, show ix [c] 0 = some c from rfl, Option.bind_some, zuR (bs := bs) (im := im) (cs := p.Commits) (by omega) (by omega) hc]
  rw [zkY k (by omega) (by simp only [List.length_append]; omega) hdig, Option.bind_some]
  show _ = some (!false && (!(c != _) && _))
  by_cases hcc : c = chG gr s (bs.flatten ++ im ++ p.Commits)
  ·have e1 : (c != chG gr s (bs.flatten ++ im ++ p.Commits)) = false := by simpa using hcc
   rw [e1]
   simp only [Bool.false_eq_true, if_false, Bool.not_false, Bool.true_and]
   rw [ztT (fun i => !(zch gr (bs.getD i []) p.Responses 1 != zbq gr [p.Commits.getD i 0, zaf gr (im.getD i 0) c])) false true]
   ·simp only [Bool.if_true_left, Bool.if_false_right, Bool.and_true, Bool.decide_eq_true, Bool.or_false]
    rfl
   ·intro i hi
    have hr := hb.r _ (List.getElem_mem hi)
    have h1 : i < p.Commits.length := by omega
    have h2 : i < im.length := by omega
    have ic := zhF k g4 _ (List.getElem_mem h1)
    have ii := zhF k hd _ (List.getElem_mem h2)
    have pb := zbS k im[i] c
    rw [zcF hi, Option.bind_some, zcF h1, Option.bind_some, zcF h2, Option.bind_some, zlq k (zhF k hr.2) (by omega), Option.bind_some, zkU k ii.1 ii.2, Option.bind_some, zmX k ?_, Option.bind_some]
    ·simp only [List.getD_eq_getElem?_getD, List.getElem?_eq_getElem hi, List.getElem?_eq_getElem h1, List.getElem?_eq_getElem h2, Option.getD_some]
     exact zmK _ _ _
    ·intro y hy
     simp only [List.mem_cons, List.not_mem_nil, or_false] at hy
     rcases hy with rfl | rfl <;> omega
  ·have e1 : (c != chG gr s (bs.flatten ++ im ++ p.Commits)) = true := by simpa using hcc
   rw [e1]; rfl
theorem ztU {gr : Group} (k : OkG gr) {s : ByteArray} (hs : s.size ≤ 40) {bs : List (List Int)} {im : List Int} {p : Proof} (hb : LinS gr bs) (hi : im.length = bs.length) (hd : im.all (zam gr) = true) (hc : p.Commits.length ≤ 1048576) :
 zcg gr s bs im p = some (zkF gr s bs im p) := by
 have hp := k.p
 have hq := k.q
 unfold zcg zkF
 simp only [hb.hd, zmq k, zhT (gr := gr) (by omega) (by omega), Option.bind_some, zuD]
 cases hg : (((p.Commits.length : Int) != (bs.length : Int)) || (((p.Challenges.length : Int) != 1) || (((p.Responses.length : Int) != ((bs.headD []).length : Int)) || (!p.Commits.all (zam gr) || !p.Responses.all (zdo gr))))) with
 | true => rfl
 | false =>
  simp only [Bool.or_eq_false_iff, bne_eq_false_iff_eq, Bool.not_eq_false'] at hg
  obtain ⟨g1, g2, g3, g4, g5⟩ := hg
  have hf := hb.flat
  have hn := hb.n
  obtain ⟨c, hce⟩ : ∃ c, p.Challenges = [c] := by
   match h : p.Challenges, g2 with
   | [c], _ => exact ⟨c, rfl⟩
  have hdig : (bs.flatten ++ im ++ p.Commits).all zcr = true := by
   rw [List.all_append, List.all_append, hb.dig k, zjC k hd, zjC k g4]; rfl
  have hfl : [bs.flatten, im, p.Commits].flatten = bs.flatten ++ im ++ p.Commits := by simp
  have hl : (bs.flatten ++ im ++ p.Commits).length ≤ 80 := by simp only [List.length_append]; omega
  simp only [Bool.false_eq_true, if_false, hce, show ix [c] 0 = some c from rfl, Option.bind_some, zi4 bs (by omega), zi4 [bs.flatten, im, p.Commits] (by rw [hfl]; omega), hfl]
  rw [zt6 k s (by omega), if_pos (zwq k hs (by omega) hdig), Option.bind_some]
  simp only [Bool.not_true, Bool.false_eq_true, if_false, Option.bind_some]
  show _ = some (!false && (!(c != _) && _))
  by_cases hcc : c = chG gr s (bs.flatten ++ im ++ p.Commits)
  ·have e1 : (c != chG gr s (bs.flatten ++ im ++ p.Commits)) = false := by simpa using hcc
   rw [e1, ← hcc]
   simp only [Bool.false_eq_true, if_false, Bool.not_false, Bool.true_and]
   rw [zp9 k hb (by omega), Option.bind_some, ztT (fun i => !(zch gr (bs.getD i []) p.Responses 1 != zbq gr [p.Commits.getD i 0, zaf gr (im.getD i 0) c])) false true]
   ·simp only [Bool.if_true_left, Bool.if_false_right, Bool.and_true, Bool.decide_eq_true, Bool.or_false, List.length_map]
    rfl
   ·intro i hi
    have hi' : i < bs.length := by simpa using hi
    have h1 : i < p.Commits.length := by omega
    have h2 : i < im.length := by omega
    have ic := zhF k g4 _ (List.getElem_mem h1)
    have ii := zhF k hd _ (List.getElem_mem h2)
    have pb := zbS k im[i] c
    rw [zcF hi, Option.bind_some, zcF h1, Option.bind_some, zcF h2, Option.bind_some, (zgH k ii.1 ii.2 _).1, Option.bind_some, ziW k ?_, Option.bind_some]
    ·simp only [List.getElem_map, List.getD_eq_getElem?_getD, List.getElem?_eq_getElem hi', List.getElem?_eq_getElem h1, List.getElem?_eq_getElem h2, Option.getD_some]
     exact zmK _ _ _
    ·intro y hy
     simp only [List.mem_cons, List.not_mem_nil, or_false] at hy
     rcases hy with rfl | rfl <;> omega
  ·have e1 : (c != chG gr s (bs.flatten ++ im ++ p.Commits)) = true := by simpa using hcc
   rw [e1]; rfl
theorem zgc {gr : Group} (k : OkG gr) : zam gr gr.G = true := by
 have hg := k.g
 simp only [zam, Bool.and_eq_true, decide_eq_true_eq]
 exact ⟨by omega, k.o⟩
theorem zBp {α : Type} {l : List α} {i : Int} (h0 : 0 ≤ i) (h : i < l.length) : ix l i = some (l[i.toNat]'(by omega)) := by
 obtain ⟨k, rfl⟩ := Int.eq_ofNat_of_zero_le h0
 exact zcF (by omega)
theorem zyv {β γ : Type} {n : Nat} {f : Nat → β} {body : Int → List β → Option (Stp (List β) γ)} {stop : List β → γ} (hs : ∀ k (s : List β), k < n → s.length = k → body (k : Int) s = some (.go (s ++ [f k]))) :
 zaq body stop n 0 [] = some (stop ((List.range n).map f)) := by
 refine zaw (zaB (fun k s => s = (List.range k).map f) rfl ?_ ?_)
 ·rintro k s hk rfl
  refine ⟨_, hs k _ hk (by simp), ?_⟩
  show _ = _
  rw [List.range_succ, List.map_append]; rfl
 rintro s rfl; rfl
theorem znr {gr : Group} (k : OkG gr) {a : Int} (ha : 0 ≤ a) : zaf gr gr.G a = ((gr.G.toNat ^ a.toNat % gr.P.toNat : Nat) : Int) := by
 have hq := k.q
 obtain ⟨n, rfl⟩ := Int.eq_ofNat_of_zero_le ha
 obtain ⟨q, hQ⟩ := Int.eq_ofNat_of_zero_le (show 0 ≤ gr.Q by omega)
 unfold zaf
 have ho := k.o
 rw [hQ] at ho ⊢
 rw [Int.toNat_natCast] at ho
 rw [← Int.natCast_emod, Int.toNat_natCast, Int.toNat_natCast, zht ho]
theorem zv4 {gr : Group} (k : OkG gr) {a b : Int} (ha : 0 ≤ a) (hb : 0 ≤ b) : zbq gr [zaf gr gr.G a, zaf gr gr.G b] = zaf gr gr.G (a + b) := by
 have hp := k.p
 obtain ⟨P, hP⟩ := Int.eq_ofNat_of_zero_le (show 0 ≤ gr.P by omega)
 have hx := zbS k gr.G a
 rw [zjD k (by omega) (zbS k gr.G b).1, znr k ha, znr k hb, znr k (by omega), hP]
 rw [← Int.natCast_mul, ← Int.natCast_emod, Int.toNat_natCast, ← Nat.mul_mod, ← Nat.pow_add, Int.toNat_add ha hb]
def atS (gr : Group) (x : Int) (s : Int × Int) (y : Int) : Int × Int := (zbq gr [s.1, zaf gr y s.2], s.2 * x % gr.Q)
theorem zwx {gr : Group} {x : Int} {l : List Int} (k : OkG gr) (hx : 0 ≤ x) (hx2 : x ≤ 1000) (hl : ∀ y ∈ l, 0 ≤ y ∧ y ≤ 2000000000) : zfl gr l x = some (l.foldl (atS gr x) (1, 1)).1 := by
 have hp := k.p
 have hq := k.q
 unfold zfl
 refine zaw (znK (zaB (fun i s => s = (l.take i).foldl (atS gr x) (1, 1) ∧ (0 ≤ s.1 ∧ s.1 ≤ 2000000000) ∧ 0 ≤ s.2 ∧ s.2 ≤ 2000000000) ⟨rfl, by omega, by omega⟩ ?_ ?_))
 ·rintro i s hi ⟨hs, h1, h2⟩
  have hy := hl _ (List.getElem_mem hi)
  have hw := zbS k l[i] s.2
  have hb : ∀ z ∈ [s.1, zaf gr l[i] s.2], 0 ≤ z ∧ z ≤ 2000000000 := by
   intro z hz
   rcases List.mem_cons.1 hz with rfl | hz
   ·exact h1
   ·rw [List.mem_singleton.1 hz]; omega
  have b1 : 0 ≤ s.2 * x := Int.mul_nonneg h2.1 hx
  have b2 : s.2 * x ≤ 2000000000 * 1000 := Int.mul_le_mul h2.2 hx2 hx (by omega)
  have b3 : 0 ≤ s.2 * x % gr.Q := Int.emod_nonneg _ (by omega)
  have b4 : s.2 * x % gr.Q < gr.Q := Int.emod_lt_of_pos _ (by omega)
  have hm := zjF k hb
  rw [zcF hi, Option.bind_some, zkU k hy.1 hy.2, Option.bind_some, zmX k hb, Option.bind_some, zdN (by omega), zar (by omega) (by omega), Int.tmod_eq_emod_of_nonneg b1]
  refine ⟨_, rfl, ?_, ⟨hm.1, by show zbq gr _ ≤ _; omega⟩, b3, by show s.2 * x % gr.Q ≤ _; omega⟩
  rw [List.take_succ_eq_append_getElem hi, List.foldl_append, ← hs]; rfl
 rintro s ⟨hs, _⟩
 rw [List.take_length] at hs
 subst hs
 exact ⟨_, rfl, rfl⟩
def pvE (q x : Int) : List Int → Int → Int
 | [], _ => 0
 | c :: l, e => c * e + pvE q x l (e * x % q)
theorem zt9 (q x : Int) : ∀ (l : List Int) (e : Int), pvE q x l e % q = (e * evI l x) % q
 | [], e => by simp [pvE, evI]
 | c :: l, e => by
  show (c * e + pvE q x l (e * x % q)) % q = (e * (evI l x * x + c)) % q
  rw [ziv (a := c * e) (b := c * e) rfl ((zt9 q x l (e * x % q)).trans (zjG (b := e * x) (d := evI l x) (zev _ _) rfl))]
  congr 1
  grind
theorem ztc {gr : Group} (k : OkG gr) (x : Int) : ∀ (l : List Int) (a e : Int), (∀ c ∈ l, 0 ≤ c) → 0 ≤ a → 0 ≤ e → ((l.map (zaf gr gr.G)).foldl (atS gr x) (zaf gr gr.G a, e)).1 = zaf gr gr.G (a + pvE gr.Q x l e)
 | [], a, e, _, _, _ => by show zaf gr gr.G a = zaf gr gr.G (a + 0); rw [Int.add_zero]
 | c :: l, a, e, hl, ha, he => by
  have hq := k.q
  have hc := hl c (by simp)
  have h1 : 0 ≤ c * e := Int.mul_nonneg hc he
  show ((l.map (zaf gr gr.G)).foldl (atS gr x) (zbq gr [zaf gr gr.G a, zaf gr (zaf gr gr.G c) e], e * x % gr.Q)).1 = zaf gr gr.G (a + (c * e + pvE gr.Q x l (e * x % gr.Q)))
  rw [zeF k (zgc k) hc he, zv4 k ha h1, ztc k x l (a + c * e) _ (fun y hy => hl y (List.mem_cons_of_mem _ hy)) (by omega) (Int.emod_nonneg _ (by omega)), Int.add_assoc]
theorem zfE {gr : Group} {a b : Int} (x : Int) (h : a % gr.Q = b % gr.Q) : zaf gr x a = zaf gr x b := by
 unfold zaf; rw [h]
theorem zw1 {gr : Group} (k : OkG gr) {c : Int} (hc : 0 ≤ c) : zam gr (zaf gr gr.G c) = true := by
 have hb := zbS k gr.G c
 have hp := k.p
 have hq := k.q
 have h3 : (zaf gr gr.G c).toNat ^ gr.Q.toNat % gr.P.toNat = 1 := by
  rw [znr k hc, Int.toNat_natCast, ← Nat.pow_mod, ← Nat.pow_mul, Nat.mul_comm, Nat.pow_mul, Nat.pow_mod, k.o, Nat.one_pow, Nat.mod_eq_of_lt (by omega)]
 have h1 : 1 ≤ zaf gr gr.G c := by
  by_cases h0 : zaf gr gr.G c = 0
  ·rw [h0, show (0 : Int).toNat = 0 from rfl, Nat.zero_pow (by omega), Nat.zero_mod] at h3
   omega
  ·omega
 simp only [zam, Bool.and_eq_true, decide_eq_true_eq]
 exact ⟨⟨h1, hb.2⟩, h3⟩
theorem zn4 {gr : Group} (k : OkG gr) (x e : Int) : zch gr [x] [e] 1 = zaf gr x e := by
 have hb := zbS k x e
 show 1 * zaf gr x e % gr.P = _
 rw [Int.one_mul, Int.emod_eq_of_lt hb.1 (by omega)]
structure Gb (gr : Group) : Prop where
 p : 1 ≤ gr.P ∧ gr.P ≤ 2000000000
 q : 1 ≤ gr.Q ∧ gr.Q ≤ 2000000000
 g : 0 ≤ gr.G ∧ gr.G ≤ 2000000000
theorem Gb.w {gr : Group} (k : Gb gr) : Gw gr := by
 have a := k.p
 have b := k.q
 have c := k.g
 exact ⟨by omega, by omega, by omega⟩
theorem zxu (a b : Int) : zfw a b = some (if b < a then a else b) := by unfold zfw; by_cases h : b < a <;> simp [h]
theorem zsr {gr : Group} {x : Int} {l : List Int} (k : OkG gr) (hx : 0 ≤ x) (hx2 : x ≤ 1000) (hl : ∀ y ∈ l, 0 ≤ y ∧ y ≤ 2000000000) : zci gr l x = some (l.foldl (atS gr x) (1, 1)).1 := by
 have hp := k.p
 have hq := k.q
 unfold zci
 refine zaw (zad (ψ := fun r => r = (l.foldl (atS gr x) (1, 1)).1) (zaB (fun i s => s = (l.take i).foldl (atS gr x) (1, 1) ∧ (0 ≤ s.1 ∧ s.1 ≤ 2000000000) ∧ 0 ≤ s.2 ∧ s.2 ≤ 2000000000) ⟨rfl, by omega, by omega⟩ ?_ ?_) fun r hr => zab hr)
 ·rintro i s hi ⟨hs, h1, h2⟩
  have hy := hl _ (List.getElem_mem hi)
  have hw := zbS k l[i] s.2
  have hb : ∀ z ∈ [s.1, zaf gr l[i] s.2], 0 ≤ z ∧ z ≤ 2000000000 := by
   intro z hz
   rcases List.mem_cons.1 hz with rfl | hz
   ·exact h1
   ·rw [List.mem_singleton.1 hz]; omega
  have b1 : 0 ≤ s.2 * x := Int.mul_nonneg h2.1 hx
  have b2 : s.2 * x ≤ 2000000000 * 1000 := Int.mul_le_mul h2.2 hx2 hx (by omega)
  have b3 : 0 ≤ s.2 * x % gr.Q := Int.emod_nonneg _ (by omega)
  have b4 : s.2 * x % gr.Q < gr.Q := Int.emod_lt_of_pos _ (by omega)
  have hm := zjF k hb
  unfold zcq
  rw [zcF hi, Option.bind_some, (zgH k hy.1 hy.2 _).1, Option.bind_some, ziW k hb, Option.bind_some, zar (by omega) (by omega), zlC (by omega) (by omega), Option.bind_some, Option.bind_some]
  refine ⟨_, rfl, ?_, ⟨hm.1, by show zbq gr _ ≤ _; omega⟩, b3, by show s.2 * x % gr.Q ≤ _; omega⟩
  rw [List.take_succ_eq_append_getElem hi, List.foldl_append, ← hs]; rfl
 rintro s ⟨hs, _⟩
 rw [List.take_length] at hs
 rw [hs]
def zr1 (gr : Group) (l : List Int) (x v : Int) : Bool := zaf gr gr.G v == (l.foldl (atS gr x) (1, 1)).1
theorem zmV {gr : Group} {x v : Int} {l : List Int} (k : OkG gr) (hx : 0 ≤ x) (hx2 : x ≤ 1000) (hl : ∀ y ∈ l, 0 ≤ y ∧ y ≤ 2000000000) : ze4 gr l x v = some (zr1 gr l x v) := by
 have hp := k.p
 have hg := k.g
 unfold ze4
 rw [zkU k (by omega) (by omega), Option.bind_some, zwx k hx hx2 hl]
 rfl
def zp2 (gr : Group) (d : Dealing) (i : Nat) : Bool := !zr1 gr d.Commits ((i : Int) + 1) (d.Shares.getD i 0)
def zfp (gr : Group) (d : Dealing) (n : Nat) : List Int := ((List.range n).filter (zp2 gr d)).map fun i : Nat => (i : Int) + 1
theorem ztO (gr : Group) (d : Dealing) (n : Nat) : zfp gr d (n + 1) = zfp gr d n ++ (if zp2 gr d n = true then [(n : Int) + 1] else []) := by
 unfold zfp
 rw [List.range_succ, List.filter_append, List.map_append]
 congr 1
 by_cases h : zp2 gr d n = true
 ·rw [if_pos h]; simp [h]
 rw [if_neg h]; simp [h]
theorem zp7 (gr : Group) (d : Dealing) (n : Nat) : (zfp gr d n).length ≤ n := by
 unfold zfp
 rw [List.length_map]
 exact Nat.le_trans (List.length_filter_le _ _) (by simp)
theorem znQ {gr : Group} {d : Dealing} {n : Nat} : ∀ x ∈ zfp gr d n, 1 ≤ x ∧ x ≤ n := by
 intro x hx
 unfold zfp at hx
 obtain ⟨i, hi, rfl⟩ := List.mem_map.1 hx
 have := List.mem_range.1 (List.mem_filter.1 hi).1
 omega
theorem zwL {gr : Group} {d : Dealing} (hd : d.Shares.length ≤ 900) (E : Int → Int → Option Bool) (hE : ∀ x v, 0 ≤ x → x ≤ 1000 → E x v = some (zr1 gr d.Commits x v)) : Rn (zaq (fun i5 s4 =>
 (((ix d.Shares i5).bind fun x14 => (E (IntKind.i64.wrap (i5 + 1)) x14).bind fun z15 =>
   if (!z15) = true then (gd ((s4.length + 1) * 8 ≤ 140737488355328 ∧ s4.length + 1 ≤ 4611686018427387904) <| some (s4 ++ [IntKind.i64.wrap (i5 + 1)])) else (some s4) : Option (List Int))).bind fun x13 => some (.go x13)) (fun s4 => s4) d.Shares.length 0 []) (· = zfp gr d d.Shares.length) := by
 refine zaB (fun i s => s = zfp gr d i) rfl ?_ fun s h => h
 rintro i s hi hs
 have hbl := zp7 gr d i
 refine zad (ψ := fun r => r = zfp gr d (i + 1)) ?_ fun r hr => zab hr
 rw [zar (by omega) (by omega)]
 refine zaH hi (zag (hE _ _ (by omega) (by omega)) ?_)
 have e : zp2 gr d i = !zr1 gr d.Commits ((i : Int) + 1) d.Shares[i] := by unfold zp2; rw [List.getD_eq_getElem?_getD, List.getElem?_eq_getElem hi]; rfl
 rw [ztO, e, ← hs]
 refine zao (fun h => zas (by rw [hs]; omega) (zab ?_)) fun h => zab ?_
 ·rw [if_pos h]
 rw [if_neg (by rw [h]; decide), List.append_nil]
theorem ztI {gr : Group} {d : Dealing} (k : OkG gr) (hd : d.Shares.length ≤ 900) (hl : ∀ y ∈ d.Commits, 0 ≤ y ∧ y ≤ 2000000000) : zfH gr d = some (zfp gr d d.Shares.length) := by
 unfold zfH
 exact zaw (zad (zwL hd _ fun x v h1 h2 => zmV k h1 h2 hl) fun r hr => zab hr)
def dlV (gr : Group) (f : List Int) (n : Nat) : Dealing := ⟨f.map (zaf gr gr.G), (zbg n).map (zav gr.Q f)⟩
theorem zrN {gr : Group} (k : OkG gr) {f : List Int} (hf : ∀ x ∈ f, 0 ≤ x ∧ x ≤ 2000000000) (hl : f.length ≤ 1000) {n : Nat} (hn : n ≤ 1000) : zd5 gr f (n : Int) = some (dlV gr f n) ∧ ze5 gr f (n : Int) = some (dlV gr f n) := by
 have hp := k.p
 have hq := k.q
 have hg := k.g
 have gen : ∀ (E W : Int → Option Int), (∀ x, E x = some (zaf gr gr.G x)) → (∀ x, 0 ≤ x → x ≤ 1000 → W x = some (zav gr.Q f x)) → Rn (((zaq (σ := (List Int) × List Int) (fun i14 s13 => (ix f i14).bind fun x20 => (E x20).bind fun z21 =>
  gd ((s13.1.length + 1) * 8 ≤ 140737488355328 ∧ s13.1.length + 1 ≤ 4611686018427387904) <| some (.go (s13.1 ++ [z21], s13.2))) (fun s13 => (s13.1, s13.2)) (f.length) 0 ([], []) : Option ((List Int × List Int))).bind fun x3 =>
  ((zbs (σ := (List Int) × List Int × Int) (fun s36 => if decide (s36.2.2 ≤ (n : Int)) = true then ((W s36.2.2).bind fun z42 =>
  gd ((s36.2.1.length + 1) * 8 ≤ 140737488355328 ∧ s36.2.1.length + 1 ≤ 4611686018427387904) <| some (.go (s36.1, s36.2.1 ++ [z42], IntKind.i64.wrap (s36.2.2 + 1)))) else (some (.out (s36.1, s36.2.1)))) (x3.1, x3.2, 1) : Option ((List Int × List Int))).bind fun x28 => some (Dealing.mk x28.1 x28.2)))) (· = dlV gr f n) := by
  intro E W hE hW
  refine zad (ψ := fun r => r = (f.map (zaf gr gr.G), [])) (zaB (fun j s => s = ((f.take j).map (zaf gr gr.G), [])) rfl ?_ ?_) fun r hr => ?_
  ·rintro j s hj rfl
   refine zaH hj (zag (hE _) (zas (by simp; omega) (zab ?_)))
   show (_, _) = (_, _)
   rw [List.take_succ_eq_append_getElem hj, List.map_append]; rfl
  ·rintro s rfl
   rw [List.take_length]
  subst hr
  refine zad (ψ := fun x => x = (f.map (zaf gr gr.G), (zbg n).map (zav gr.Q f))) (zf8 n (fun j s => s = (f.map (zaf gr gr.G), (zbg j).map (zav gr.Q f), (j : Int) + 1)) rfl ?_ ?_) fun x hx => zab (by rw [hx]; rfl)
  ·rintro j s hj rfl
   refine zfn (by simp; omega) (zag (hW _ (by show 0 ≤ (j : Int) + 1; omega) (by show (j : Int) + 1 ≤ 1000; omega)) (zas (by simp [zbg]; omega) (zab ?_)))
   show (_, _, _) = (_, _, _)
   rw [zar (by show -9223372036854775808 ≤ (j : Int) + 1 + 1; omega) (by show (j : Int) + 1 + 1 ≤ _; omega), zoo, List.map_append]
   simp
  ·rintro s rfl
   exact zbH (by simp; omega) (zab rfl)
 constructor
 ·unfold zd5
  exact zaw (gen _ _ (fun x => (zgH k (by omega) (by omega) x).1) fun x h1 h2 => zj6 (by omega) (by omega) h1 (by omega) hf (by omega))
 unfold ze5
 exact zaw (gen _ _ (fun x => zkU k (by omega) (by omega) x) fun x h1 h2 => zn7 (by omega) (by omega) h1 (by omega) hf (by omega))
structure PlOk (gr : Group) (cs : List (List Int)) (fs : List Fault) : Prop where
 k : OkG gr
 q : 7 < gr.Q
 n : 1 ≤ cs.length ∧ cs.length ≤ 7
 t : 1 ≤ (cs.headD []).length ∧ (cs.headD []).length ≤ cs.length
 fl : fs.length ≤ 20
 c : ∀ f ∈ cs, f.length = (cs.headD []).length ∧ f.all (zdo gr) = true
 f : ∀ x ∈ fs, (1 ≤ x.Dealer ∧ x.Dealer ≤ cs.length) ∧ (1 ≤ x.Trustee ∧ x.Trustee ≤ cs.length) ∧ zdo gr x.Delta = true
open Classical in
def plB (gr : Group) (cs : List (List Int)) (fs : List Fault) : Bool := decide (PlOk gr cs fs)
theorem zwm {gr : Group} {cs : List (List Int)} {fs : List Fault} : plB gr cs fs = true ↔ PlOk gr cs fs := by
 unfold plB; simp
def upF (gr : Group) (sh : List Int) (f : Fault) : List Int := sh.set (f.Trustee - 1).toNat ((sh.getD (f.Trustee - 1).toNat 0 + f.Delta) % gr.Q)
def zfI (gr : Group) (fs : List Fault) (i : Nat) (sh : List Int) : List Int := fs.foldl (fun s f => if f.Dealer = (i : Int) + 1 then upF gr s f else s) sh
def zfu (fs : List Fault) (i : Nat) : Bool := fs.all fun f => !decide (f.Dealer = (i : Int) + 1) || f.Answers
def plD (gr : Group) (cs : List (List Int)) (fs : List Fault) (i : Nat) : Dealing := ⟨(cs.getD i []).map (zaf gr gr.G), zfI gr fs i ((zbg cs.length).map (zav gr.Q (cs.getD i [])))⟩
def plA (gr : Group) (cs : List (List Int)) (fs : List Fault) (i : Nat) : List Int := if zfu fs i = true then (zfp gr (plD gr cs fs i) cs.length).map (zav gr.Q (cs.getD i [])) else []
def plV (gr : Group) (cs : List (List Int)) (fs : List Fault) : List Dealing × List (List Int) × Bool := if plB gr cs fs = true then ((List.range cs.length).map (plD gr cs fs), (List.range cs.length).map (plA gr cs fs), true) else ([], [], false)
theorem zgY {gr : Group} {x : Int} : zdo gr x = true ↔ 0 ≤ x ∧ x < gr.Q := by
 unfold zdo
 simp only [Bool.and_eq_true, decide_eq_true_eq]
 omega
theorem zBM {gr : Group} (hq : 0 < gr.Q) {sh : List Int} (h : ∀ x ∈ sh, 0 ≤ x ∧ x < gr.Q) (f : Fault) : (upF gr sh f).length = sh.length ∧ ∀ x ∈ upF gr sh f, 0 ≤ x ∧ x < gr.Q := by
 refine ⟨by simp [upF], fun x hx => ?_⟩
 rcases List.mem_or_eq_of_mem_set hx with h1 | rfl
 ·exact h x h1
 exact ⟨Int.emod_nonneg _ (by omega), Int.emod_lt_of_pos _ hq⟩
theorem zrt {gr : Group} (hq : 0 < gr.Q) (i : Nat) : ∀ (fs : List Fault) {sh : List Int}, (∀ x ∈ sh, 0 ≤ x ∧ x < gr.Q) → (zfI gr fs i sh).length = sh.length ∧ ∀ x ∈ zfI gr fs i sh, 0 ≤ x ∧ x < gr.Q := by
 intro fs
 induction fs with
 | nil => intro sh h; exact ⟨rfl, h⟩
 | cons f fs ih =>
  intro sh h
  have e : zfI gr (f :: fs) i sh = zfI gr fs i (if f.Dealer = (i : Int) + 1 then upF gr sh f else sh) := rfl
  rw [e]
  split
  ·have := zBM hq h f
   have h2 := ih this.2
   exact ⟨h2.1.trans this.1, h2.2⟩
  ·exact ih h
theorem zof (gr : Group) (fs : List Fault) (f : Fault) (i : Nat) (sh : List Int) : zfI gr (fs ++ [f]) i sh = if f.Dealer = (i : Int) + 1 then upF gr (zfI gr fs i sh) f else zfI gr fs i sh := by
 unfold zfI; rw [List.foldl_append]; rfl
theorem zqi (fs : List Fault) (f : Fault) (i : Nat) : zfu (fs ++ [f]) i = (zfu fs i && (!decide (f.Dealer = (i : Int) + 1) || f.Answers)) := by
 unfold zfu; rw [List.all_append]; simp
theorem zqn {gr : Group} (hq : 0 < gr.Q) (f : List Int) (n : Nat) : ((zbg n).map (zav gr.Q f)).length = n ∧ ∀ x ∈ (zbg n).map (zav gr.Q f), 0 ≤ x ∧ x < gr.Q := by
 refine ⟨by simp [zbg], fun x hx => ?_⟩
 obtain ⟨y, _, rfl⟩ := List.mem_map.1 hx
 exact zfY hq f y
theorem ztr {gr : Group} {cs : List (List Int)} {fs : List Fault} (h : PlOk gr cs fs) {i : Nat} (hi : i < cs.length) :
 (plD gr cs fs i).Shares.length = cs.length ∧ (∀ x ∈ (plD gr cs fs i).Shares, 0 ≤ x ∧ x < gr.Q) ∧ (plD gr cs fs i).Commits.length = (cs.headD []).length ∧ ∀ x ∈ (plD gr cs fs i).Commits, zam gr x = true := by
 have hq := h.k.q
 have h1 := zqn (gr := gr) (by omega) (cs.getD i []) cs.length
 have h2 := zrt (gr := gr) (by omega) i fs h1.2
 have e : cs.getD i [] = cs[i] := by rw [List.getD_eq_getElem?_getD, List.getElem?_eq_getElem hi]; rfl
 have hc := h.c _ (List.getElem_mem hi)
 refine ⟨h2.1.trans h1.1, h2.2, by show ((cs.getD i []).map _).length = _; rw [List.length_map, e]; exact hc.1, fun x hx => ?_⟩
 obtain ⟨y, hy, rfl⟩ := List.mem_map.1 (show x ∈ (cs.getD i []).map _ from hx)
 rw [e] at hy
 exact zw1 h.k (zgY.1 (List.all_eq_true.1 hc.2 y hy)).1
theorem zhM {gr : Group} (k : OkG gr) {l : List Int} (h : ∀ x ∈ l, zam gr x = true) : ∀ x ∈ l, 0 ≤ x ∧ x ≤ 2000000000 := zhF k (List.all_eq_true.2 h)
theorem zwu {α : Type} {l : List (List α)} (h : 1 ≤ l.length) : ix l 0 = some (l.headD []) := by
 cases l with
 | nil => simp at h
 | cons x l => rfl
theorem zzw {gr : Group} (k : OkG gr) (v : Int) : zcq gr v = some (v % gr.Q) := by
 have hp := k.p
 have hq := k.q
 unfold zcq
 rw [zlC (by omega) (by omega)]; rfl
theorem zoP {gr : Group} {cs : List (List Int)} {fs : List Fault} (h : ¬ PlOk gr cs fs) : plV gr cs fs = ([], [], false) := by
 unfold plV
 rw [if_neg fun x => h (zwm.1 x)]
theorem zwd {gr : Group} {cs : List (List Int)} {fs : List Fault} (h : PlOk gr cs fs) : plV gr cs fs = ((List.range cs.length).map (plD gr cs fs), (List.range cs.length).map (plA gr cs fs), true) := by
 unfold plV
 rw [if_pos (zwm.2 h)]
theorem zbF {α : Type} {l : List α} {d : α} {i : Nat} (h : i < l.length) : l.getD i d = l[i] := by
 rw [List.getD_eq_getElem?_getD, List.getElem?_eq_getElem h]; rfl
theorem zAO {gr : Group} (k : OkG gr) {f : List Int} (hf : ∀ x ∈ f, 0 ≤ x ∧ x ≤ 2000000000) (hl : f.length ≤ 1000) {l : List Int} (h : ∀ x ∈ l, 1 ≤ x ∧ x ≤ 1000) (hl2 : l.length ≤ 1000) (w : Bool) (E : Int → Option Int) (hE : ∀ x, 0 ≤ x → x ≤ 1000 → E x = some (zav gr.Q f x)) :
 Rn (zaq (fun i196 s195 => (((ix l i196).bind fun x205 => if w = true then ((E x205).bind fun z207 => gd ((s195.length + 1) * 8 ≤ 140737488355328 ∧ s195.length + 1 ≤ 4611686018427387904) <| some (s195 ++ [z207])) else (some s195) : Option (List Int))).bind fun x204 => some (.go x204)) (fun s195 => s195) l.length 0 []) (· = if w = true then l.map (zav gr.Q f) else []) := by
 refine zaB (fun i s => s = if w = true then (l.take i).map (zav gr.Q f) else []) (by simp) ?_ ?_
 ·rintro i s hi rfl
  have hx := h _ (List.getElem_mem hi)
  refine zad (ψ := fun r => r = if w = true then (l.take (i + 1)).map (zav gr.Q f) else []) (zaH hi ?_) fun r hr => zab hr
  refine zao (fun hw => zag (hE _ (by omega) (by omega)) (zas ?_ (zab ?_))) fun hw => zab ?_
  ·rw [if_pos hw]; simp; omega
  ·rw [if_pos hw, if_pos hw, List.take_succ_eq_append_getElem hi, List.map_append]; rfl
  rw [hw]; simp
 rintro s rfl
 rw [List.take_length]
theorem zo7 {gr : Group} (k : OkG gr) {l : List Int} (h : l.all (zdo gr) = true) : ∀ x ∈ l, 0 ≤ x ∧ x ≤ 2000000000 := fun x hx => by
 have hp := k.p
 have hq := k.q
 have := zgY.1 (List.all_eq_true.1 h x hx)
 omega
theorem zkv {α : Type} {f g : Nat → α} {n d : Nat} (h : ∀ i, i < n → i ≠ d → g i = f i) : ((List.range n).map f).set d (g d) = (List.range n).map g := by
 apply List.ext_getElem (by simp)
 intro i h1 h2
 have hi : i < n := by simpa using h2
 rw [List.getElem_set]
 split
 ·rename_i e; subst e; simp
 rename_i e; simp [h i hi fun x => e x.symm]
theorem zwC (gr : Group) (cs : List (List Int)) (fs : List Fault) : zdQ gr cs fs = some (plV gr cs fs) := by
 unfold zdQ
 refine zaw (zad (ψ := fun b => b = false ↔ (OkG gr ∧ 7 < gr.Q ∧ (1 ≤ cs.length ∧ cs.length ≤ 7) ∧ (1 ≤ (cs.headD []).length ∧ (cs.headD []).length ≤ cs.length) ∧ fs.length ≤ 20)) ?_ fun b hb => ?_)
 ·refine zag (zgM gr) (zao (fun h => zab ⟨fun x => (by cases x), fun x => ?_⟩) fun h => ?_)
  ·rw [zgg.2 x.1, decide_eq_true x.2.1] at h; cases h
  have h : okG gr = true ∧ 7 < gr.Q := by simpa using h
  refine zag (zoN _ _ _) (zao (fun h2 => zab ⟨fun x => (by cases x), fun x => ?_⟩) fun h2 => ?_)
  ·rw [zi8.2 (by omega)] at h2; cases h2
  have h2 := zi8.1 (show inB 1 7 (cs.length : Int) = true by simpa using h2)
  refine zag (zwu (by omega)) (zag (zoN _ _ _) (zao (fun h3 => zab ⟨fun x => (by cases x), fun x => ?_⟩) fun h3 => zab ?_))
  ·rw [zi8.2 (by omega)] at h3; cases h3
  have h3 := zi8.1 (show inB 1 (cs.length : Int) (cs.headD []).length = true by simpa using h3)
  rw [decide_eq_false_iff_not]
  exact ⟨fun x => ⟨zgg.1 h.1, h.2, by omega, by omega, by omega⟩, fun x => by omega⟩
 refine zao (fun h => zab ?_) fun h => ?_
 ·rw [zoP fun P => by have := hb.2 ⟨P.k, P.q, P.n, P.t, P.fl⟩; rw [h] at this; cases this]
 obtain ⟨k, q7, hn, ht, hfl⟩ := hb.1 h
 have hp := k.p
 have hq := k.q
 let shs : Nat → List Int := fun i => (zbg cs.length).map (zav gr.Q (cs.getD i []))
 refine zad (ψ := fun r => (r = .inl ((List.range cs.length).map fun i => dlV gr (cs.getD i []) cs.length) ∧ ∀ f ∈ cs, f.length = (cs.headD []).length ∧ f.all (zdo gr) = true) ∨ (r = .inr ([], [], false) ∧ ¬ PlOk gr cs fs))
  (zaB (fun j s => s = ((List.range j).map fun i => dlV gr (cs.getD i []) cs.length) ∧ ∀ f ∈ cs.take j, f.length = (cs.headD []).length ∧ f.all (zdo gr) = true) ⟨rfl, fun f hf => by simp at hf⟩ ?_ ?_) fun r hr => ?_
 ·rintro i s hi ⟨rfl, hs⟩
  refine zaH hi (zad (ψ := fun b => b = false ↔ (cs[i].length = (cs.headD []).length ∧ cs[i].all (zdo gr) = true)) ?_ fun b hb => ?_)
  ·refine zag (zwu (by omega)) (zao (fun h => zab ⟨fun x => (by cases x), fun x => ?_⟩) fun h => zag (zln (by omega) (by omega) _) (zab ?_))
   ·rw [x.1] at h; simp at h
   have h : cs[i].length = (cs.headD []).length := by
    have := bne_eq_false_iff_eq.1 h; omega
   rw [Bool.not_eq_false']
   exact ⟨fun x => ⟨h, x⟩, fun x => x.2⟩
  refine zao (fun h => zab (.inr ⟨rfl, fun P => ?_⟩)) fun h => ?_
  ·have := hb.2 (P.c _ (List.getElem_mem hi)); rw [h] at this; cases this
  have hc := hb.1 h
  refine zag (zrN k (zo7 k hc.2) (by omega) (by omega)).2 (zas (by simp; omega) (zab ⟨?_, fun f hf => ?_⟩))
  ·rw [List.range_succ, List.map_append, List.map_singleton, zbF hi]
  rw [List.take_succ_eq_append_getElem hi] at hf
  rcases List.mem_append.1 hf with hf | hf
  ·exact hs f hf
  rw [List.mem_singleton.1 hf]; exact hc
 ·rintro s ⟨rfl, hs⟩
  rw [List.take_length] at hs
  exact .inl ⟨rfl, hs⟩
 rcases hr with ⟨rfl, hcs⟩ | ⟨rfl, hno⟩
 case inr => exact zab (by rw [zoP hno])
 show Rn (gd _ _) _
 refine zas (by omega) (zag rfl ?_)
 let ds : List Fault → List Dealing := fun l => (List.range cs.length).map fun i => ⟨(cs.getD i []).map (zaf gr gr.G), zfI gr l i (shs i)⟩
 let sl : List Fault → List Bool := fun l => (List.range cs.length).map fun i => !zfu l i
 refine zad (ψ := fun r => (r = .inl (ds fs, sl fs) ∧ PlOk gr cs fs) ∨ (r = .inr ([], [], false) ∧ ¬ PlOk gr cs fs))
  (zaB (fun j s => s = (ds (fs.take j), sl (fs.take j)) ∧ ∀ x ∈ fs.take j, (1 ≤ x.Dealer ∧ x.Dealer ≤ cs.length) ∧ (1 ≤ x.Trustee ∧ x.Trustee ≤ cs.length) ∧ zdo gr x.Delta = true) ⟨?_, fun f hf => by simp at hf⟩ ?_ ?_) fun r hr => ?_
 ·show (_, _) = (_, _)
  have : sl (fs.take 0) = List.replicate cs.length false := by
   apply List.ext_getElem (by simp [sl])
   intro i h1 h2
   simp [sl, zfu]
  rw [this]; rfl
 ·rintro j s hj ⟨rfl, hs⟩
  refine zad (ψ := fun x => (x = .inl (ds (fs.take (j + 1)), sl (fs.take (j + 1))) ∧ ((1 ≤ fs[j].Dealer ∧ fs[j].Dealer ≤ cs.length) ∧ (1 ≤ fs[j].Trustee ∧ fs[j].Trustee ≤ cs.length) ∧ zdo gr fs[j].Delta = true)) ∨ (x = .inr (.out (.inr ([], [], false))) ∧ ¬ PlOk gr cs fs)) ?_ fun x hx => ?_
  ·refine zaH hj (zad (ψ := fun b => b = false ↔ ((1 ≤ fs[j].Dealer ∧ fs[j].Dealer ≤ cs.length) ∧ (1 ≤ fs[j].Trustee ∧ fs[j].Trustee ≤ cs.length) ∧ zdo gr fs[j].Delta = true)) ?_ fun b hb => ?_)
   ·refine zag (zoN _ _ _) (zao (fun h => zab ⟨fun x => (by cases x), fun x => ?_⟩) fun h => zag (zoN _ _ _) (zao (fun h2 => zab ⟨fun x => (by cases x), fun x => ?_⟩) fun h2 => zag (zln (by omega) (by omega) _) (zab ?_)))
    ·rw [zi8.2 x.1] at h; cases h
    ·rw [zi8.2 x.2.1] at h2; cases h2
    have h := zi8.1 (show inB 1 (cs.length : Int) fs[j].Dealer = true by simpa using h)
    have h2 := zi8.1 (show inB 1 (cs.length : Int) fs[j].Trustee = true by simpa using h2)
    rw [Bool.not_eq_false', List.all_cons, List.all_nil, Bool.and_true]
    exact ⟨fun x => ⟨h, h2, x⟩, fun x => x.2.2⟩
   refine zao (fun h => zab (.inr ⟨rfl, fun P => ?_⟩)) fun h => ?_
   ·have := hb.2 (P.f _ (List.getElem_mem hj)); rw [h] at this; cases this
   obtain ⟨h1, h2, h3⟩ := hb.1 h
   have hd := zgY.1 h3
   obtain ⟨d, hd1⟩ := Int.eq_ofNat_of_zero_le (show 0 ≤ fs[j].Dealer - 1 by omega)
   have hdn : d < cs.length := by omega
   rw [zar (by omega) (by omega), zar (n := fs[j].Trustee - 1) (by omega) (by omega), hd1]
   have S := zrt (gr := gr) (by omega) d (fs.take j) (zqn (gr := gr) (by omega) (cs.getD d []) cs.length).2
   rw [(zqn (gr := gr) (by omega) (cs.getD d []) cs.length).1] at S
   have hlt : (fs[j].Trustee - 1).toNat < (zfI gr (fs.take j) d (shs d)).length := by show _ < (zfI _ _ _ _).length; rw [S.1]; omega
   have hv := S.2 _ (List.getElem_mem hlt)
   refine zaH (k := d) (l := ds (fs.take j)) (by simp [ds]; exact hdn) ?_
   have e0 : (ds (fs.take j))[d]'(by simp [ds]; exact hdn) = ⟨(cs.getD d []).map (zaf gr gr.G), zfI gr (fs.take j) d (shs d)⟩ := by simp [ds]
   rw [e0]
   refine zag (zBp (l := zfI gr (fs.take j) d (shs d)) (by omega) (by omega)) (zas (by omega) ?_)
   refine zaH (k := d) (l := sl (fs.take j)) (by simp [sl]; exact hdn) ?_
   have e1 : (sl (fs.take j))[d]'(by simp [sl]; exact hdn) = !zfu (fs.take j) d := by simp [sl]
   rw [e1, zar (by omega) (by omega), Int.tmod_eq_emod_of_nonneg (by omega)]
   have hD : ∀ i : Nat, fs[j].Dealer = (i : Int) + 1 ↔ i = d := fun i => by omega
   have g1 : ds (fs.take (j + 1)) = (ds (fs.take j)).set d ⟨(cs.getD d []).map (zaf gr gr.G), (zfI gr (fs.take j) d (shs d)).set (fs[j].Trustee - 1).toNat (((zfI gr (fs.take j) d (shs d))[(fs[j].Trustee - 1).toNat] + fs[j].Delta) % gr.Q)⟩ := by
    have := zkv (n := cs.length) (d := d) (f := fun i => (⟨(cs.getD i []).map (zaf gr gr.G), zfI gr (fs.take j) i (shs i)⟩ : Dealing)) (g := fun i => (⟨(cs.getD i []).map (zaf gr gr.G), zfI gr (fs.take (j + 1)) i (shs i)⟩ : Dealing)) fun i _ hi => by
     rw [List.take_succ_eq_append_getElem hj, zof, if_neg fun x => hi ((hD i).1 x)]
    show (List.range cs.length).map _ = _
    rw [← this, List.take_succ_eq_append_getElem hj, zof, if_pos ((hD d).2 rfl)]
    unfold upF; rw [zbF hlt]
   have g2 : sl (fs.take (j + 1)) = (sl (fs.take j)).set d (!(zfu (fs.take j) d && fs[j].Answers)) := by
    have := zkv (n := cs.length) (d := d) (f := fun i => !zfu (fs.take j) i) (g := fun i => !zfu (fs.take (j + 1)) i) fun i _ hi => by
     rw [List.take_succ_eq_append_getElem hj, zqi, decide_eq_false fun x => hi ((hD i).1 x)]; simp
    show (List.range cs.length).map _ = _
    rw [← this, List.take_succ_eq_append_getElem hj, zqi, decide_eq_true ((hD d).2 rfl)]; rfl
   rw [g1, g2]
   refine zao (fun w => zab (.inl ⟨?_, h1, h2, h3⟩)) fun w => zab (.inl ⟨?_, h1, h2, h3⟩)
   ·have w : zfu (fs.take j) d = false := by simpa using w
    rw [w]; rfl
   have w : zfu (fs.take j) d = true := by simpa using w
   rw [w]; rfl
  rcases hx with ⟨rfl, hv⟩ | ⟨rfl, hno⟩
  ·refine zab ⟨rfl, fun f hf => ?_⟩
   rw [List.take_succ_eq_append_getElem hj] at hf
   rcases List.mem_append.1 hf with hf | hf
   ·exact hs f hf
   rw [List.mem_singleton.1 hf]; exact hv
  exact zab (.inr ⟨rfl, hno⟩)
 ·rintro s ⟨rfl, hs⟩
  rw [List.take_length] at hs ⊢
  exact .inl ⟨rfl, ⟨k, q7, hn, ht, hfl, hcs, hs⟩⟩
 rcases hr with ⟨rfl, P⟩ | ⟨rfl, hno⟩
 case inr => exact zab (by rw [zoP hno])
 rw [zwd P]
 have eds : ds fs = (List.range cs.length).map (plD gr cs fs) := rfl
 show Rn (Option.bind _ _) _
 refine zad (ψ := fun r => r = (List.range cs.length).map (plA gr cs fs)) ?_ fun r hr => zab (by rw [hr, eds])
 have hlen : (ds fs).length = cs.length := by simp [ds]
 rw [hlen]
 refine zaB (fun i s => s = (List.range i).map (plA gr cs fs)) rfl ?_ fun s hs => hs
 rintro i s hi rfl
 have hc := hcs _ (List.getElem_mem hi)
 have hf := zo7 k hc.2
 have e : cs.getD i [] = cs[i] := zbF hi
 have D := ztr P hi
 refine zaH (l := ds fs) (by rw [hlen]; exact hi) ?_
 have e0 : (ds fs)[i]'(by rw [hlen]; exact hi) = plD gr cs fs i := by simp [ds]; rfl
 rw [e0]
 refine zag (ztI k (by omega) (zhM k D.2.2.2)) ?_
 rw [D.1]
 have hbl := zp7 gr (plD gr cs fs i) cs.length
 have A := zAO k hf (by omega) (l := zfp gr (plD gr cs fs i) cs.length) (fun x hx => by have := znQ x hx; omega) (by omega) (zfu fs i) (zey gr.Q cs[i]) fun x h1 h2 => zn7 (by omega) (by omega) h1 (by omega) hf (by omega)
 refine zad (ψ := fun r => r = plA gr cs fs i) ?_ fun r hr => zas (by simp; omega) (zab ?_)
 ·have : plA gr cs fs i = if zfu fs i = true then (zfp gr (plD gr cs fs i) cs.length).map (zav gr.Q cs[i]) else [] := by unfold plA; rw [e]
  rw [this]
  refine (zaB (fun j s => s = if zfu fs i = true then ((zfp gr (plD gr cs fs i) cs.length).take j).map (zav gr.Q cs[i]) else []) (by simp) ?_ ?_)
  ·rintro j s hj rfl
   have hx := znQ _ (List.getElem_mem hj)
   refine zad (ψ := fun r => r = if zfu fs i = true then ((zfp gr (plD gr cs fs i) cs.length).take (j + 1)).map (zav gr.Q cs[i]) else []) (zaH hj (zaH (k := i) (l := sl fs) (by simp [sl]; exact hi) ?_)) fun r hr => zab hr
   have e1 : (sl fs)[i]'(by simp [sl]; exact hi) = !zfu fs i := by simp [sl]
   rw [e1]
   refine zao (fun w => ?_) fun w => zab ?_
   ·have w : zfu fs i = true := by simpa using w
    refine zaH hi (zag (zn7 (by omega) (by omega) (by omega) (by omega) hf (by omega)) (zas ?_ (zab ?_)))
    ·rw [if_pos w]; simp; omega
    rw [if_pos w, if_pos w, List.take_succ_eq_append_getElem hj, List.map_append]; rfl
   have w : zfu fs i = false := by simpa using w
   rw [w]; simp
  rintro s rfl
  rw [List.take_length]
 subst hr
 show _ = _
 rw [List.range_succ, List.map_append, List.map_singleton]
theorem ziR {code c0 : List Int} {at_ seed n : Int} {m : Nat} (hb : Bt code) (h : Cu code n (c0, at_, seed)) (hn : n ≤ 8000000000000000) (hm : 1 ≤ m) : Rn (zai c0 at_ seed (m : Int)) (fun z => (∃ i : Nat, z.1 = (i : Int) ∧ i < m) ∧ Cu code (n + 2) z.2) := by
 obtain ⟨z, h1, h2, h3, h4, _, h5⟩ := zeU (m := (m : Int)) hb h hn
 obtain ⟨i, hi⟩ := Int.eq_ofNat_of_zero_le h2
 refine ⟨z, h1, ⟨i, hi, ?_⟩, h5⟩
 rcases Nat.lt_or_ge 1 m with h6 | h6
 ·have := h4 (by omega); omega
 have := h3 (by omega); omega
def lp (k : Nat) (p : Proof) : Prop := p.Commits.length ≤ k ∧ p.Challenges.length ≤ k ∧ p.Responses.length ≤ k
theorem zkL {code : List Int} {n : Int} {k : Nat} {c : List Int × Int × Int} {a b d : List Int} (hb : Bt code) (hc : Cu code n c) (hn : n ≤ 5000000000000000) (ha : a.length ≤ k) (hb2 : b.length ≤ k) (hd : d.length ≤ k) (hk : k ≤ 100000) :
 Rn ((zai c.1 c.2.1 c.2.2 10).bind fun z16 =>
  ((if (z16.1 == 0) = true then (gd ((a.length + 1) * 8 ≤ 140737488355328 ∧ a.length + 1 ≤ 4611686018427387904) <| some (a ++ [1], b, d)) else (if (z16.1 == 1) = true then (some (a, b, [])) else (if (z16.1 == 2) = true then (gd ((b.length + 1) * 8 ≤ 140737488355328 ∧ b.length + 1 ≤ 4611686018427387904) <| some (a, b ++ [0], d)) else (some (a, b, d)))) : Option ((List Int × List Int × List Int))).bind fun x19 =>
  some ((Proof.mk x19.1 x19.2.1 x19.2.2), (z16.2.1, z16.2.2.1, z16.2.2.2)))) (fun z => lp (k + 1) z.1 ∧ Cu code (n + 2) z.2) := by
 refine zad (zeU hb hc (by omega)) fun z ⟨_, _, _, _, z5⟩ => ?_
 refine zad (ψ := fun (r : List Int × List Int × List Int) => r.1.length ≤ k + 1 ∧ r.2.1.length ≤ k + 1 ∧ r.2.2.length ≤ k + 1) (zao (fun _ => zas (by omega) (zab ⟨by simp; omega, by show b.length ≤ _; omega, by show d.length ≤ _; omega⟩)) fun _ => zao (fun _ => zab ⟨by show a.length ≤ _; omega, by show b.length ≤ _; omega, by simp⟩) fun _ => zao (fun _ => zas (by omega) (zab ⟨by show a.length ≤ _; omega, by simp; omega, by show d.length ≤ _; omega⟩)) fun _ => zab ⟨by show a.length ≤ _; omega, by show b.length ≤ _; omega, by show d.length ≤ _; omega⟩) fun r hr => zab ⟨hr, z5⟩
theorem zl4 {code : List Int} {n : Int} {gr : Group} {c : List Int × Int × Int} {l : List Int} {β : Type} {f : List Int → β} (hb : Bt code) (hc : Cu code n c) (hn : n ≤ 4000000000000000) (hg : Gw gr) (hl : l.length ≤ 100000) :
 Rn (if decide (0 < (l.length : Int)) = true then ((zai c.1 c.2.1 c.2.2 (l.length : Int)).bind fun z11 => (ix l z11.1).bind fun x12 => (zaM z11.2.1 z11.2.2.1 z11.2.2.2 gr).bind fun z13 => (zaE z13.2.1 z13.2.2.1 z13.2.2.2 gr).bind fun z14 =>
  (zal z14.2.1 z14.2.2.1 z14.2.2.2 [z13.1, z14.1, (-1), gr.Q, IntKind.i64.wrap (x12 + 1)]).bind fun z15 => some ((z15.2.1, z15.2.2.1, z15.2.2.2), f (l.set z11.1.toNat z15.1))) else (some ((c.1, c.2.1, c.2.2), f l))) (fun x => (∃ l', l'.length = l.length ∧ x.2 = f l') ∧ Cu code (n + 12) x.1) := by
 have hq := hg.q
 refine zao (fun h => ?_) fun _ => zab ⟨⟨l, rfl, rfl⟩, hc.mono (by omega)⟩
 have h := of_decide_eq_true h
 refine zad (ziR hb hc (by omega) (by omega)) fun z ⟨⟨i, hi, hl'⟩, z2⟩ => ?_
 rw [hi]
 refine zaH hl' (zad (zjw hb z2 (by omega) (by omega)) fun y ⟨_, _, _, y4⟩ => zad (ziZ hb y4 (by omega) hg) fun x ⟨_, _, x3⟩ => zad (zen hb x3 (by omega) (by simp)) fun w ⟨_, w2⟩ => zab ⟨⟨_, ?_, rfl⟩, w2.mono (by omega)⟩)
 simp
theorem zxZ {code c0 : List Int} {at_ seed n : Int} {gr : Group} {p : Proof} {k : Nat} (hb : Bt code) (h : Cu code n (c0, at_, seed)) (hn : n ≤ 3000000000000000) (hg : Gw gr) (hp : lp k p) (hk : k ≤ 100000) :
 Rn (zcN c0 at_ seed gr p) (fun z => lp (k + 1) z.1 ∧ Cu code (n + 30) z.2) := by
 obtain ⟨p1, p2, p3⟩ := hp
 unfold zcN
 rw [zhA (by omega), Option.bind_some, zhA (by omega), Option.bind_some, zhA (by omega), Option.bind_some]
 refine zad (zlD hb h (by omega)) fun z z1 => zao (fun _ => zab ⟨⟨by show p.Commits.length ≤ _; omega, by show p.Challenges.length ≤ _; omega, by show p.Responses.length ≤ _; omega⟩, z1.mono (by omega)⟩) fun _ => ?_
 refine zad (ziR (m := 3) hb z1 (by omega) (by omega)) fun y ⟨⟨i, hi, h3⟩, y2⟩ => ?_
 refine zao (fun _ => ?_) fun h0 => zao (fun _ => ?_) fun h1 => zao (fun _ => ?_) fun h2 => ?_
 ·refine zad (zl4 (c := y.2) (f := fun l => (l, p.Challenges, p.Responses)) hb y2 (by omega) hg (by omega)) fun x ⟨⟨l, e1, e2⟩, x2⟩ => ?_
  rw [e2]
  exact zlo (zkL (k := k) hb x2 (by omega) (by show l.length ≤ k; omega) p2 p3 hk) fun z hz => ⟨hz.1, hz.2.mono (by omega)⟩
 ·refine zad (zl4 (c := y.2) (f := fun l => (p.Commits, l, p.Responses)) hb y2 (by omega) hg (by omega)) fun x ⟨⟨l, e1, e2⟩, x2⟩ => ?_
  rw [e2]
  exact zlo (zkL (k := k) hb x2 (by omega) p1 (by show l.length ≤ k; omega) p3 hk) fun z hz => ⟨hz.1, hz.2.mono (by omega)⟩
 ·refine zad (zl4 (c := y.2) (f := fun l => (p.Commits, p.Challenges, l)) hb y2 (by omega) hg (by omega)) fun x ⟨⟨l, e1, e2⟩, x2⟩ => ?_
  rw [e2]
  exact zlo (zkL (k := k) hb x2 (by omega) p1 p2 (by show l.length ≤ k; omega) hk) fun z hz => ⟨hz.1, hz.2.mono (by omega)⟩
 rw [hi] at h0 h1 h2
 have h0 : ¬ (i : Int) = 0 := by simpa using h0
 have h1 : ¬ (i : Int) = 1 := by simpa using h1
 have h2 : ¬ (i : Int) = 2 := by simpa using h2
 omega
theorem zGP {d : Dealing} : zeP d d = some true := by
 unfold zeP
 rw [zvR, Option.bind_some, zvR]; rfl
def R9 (x : Int) : Prop := 0 ≤ x ∧ x ≤ 2000000000
theorem zmR {gr : Group} (k : OkG gr) {x : Int} (h : zam gr x = true) : R9 x := by
 have := ziI h; have := k.p; exact ⟨by omega, by omega⟩
theorem zfr {gr : Group} (k : OkG gr) (x e : Int) : R9 (zaf gr x e) := by
 have := zbS k x e; have := k.p; exact ⟨by omega, by omega⟩
theorem zr6 {x y : Int} (hx : R9 x) (hy : R9 y) : ∀ z ∈ [x, y], 0 ≤ z ∧ z ≤ 2000000000 := by
 intro z hz
 simp only [List.mem_cons, List.not_mem_nil, or_false] at hz
 rcases hz with rfl | rfl
 ·exact hx
 exact hy
theorem zCO {gr : Group} (k : OkG gr) {l : List Int} (h : ∀ x ∈ l, 0 ≤ x ∧ x ≤ 2000000000) : R9 (zbq gr l) := by
 have := zjF k h; have := k.p; exact ⟨by omega, by omega⟩
theorem zzG {gr : Group} (k : OkG gr) {x y : Int} (hx : R9 x) (hy : R9 y) : R9 (zbq gr [x, y]) := zCO k (zr6 hx hy)
theorem zwi {l : List Int} (h : ∀ x ∈ l, R9 x) : l.all zcr = true := List.all_eq_true.2 fun x hx => zet.2 ⟨(h x hx).1, by have := (h x hx).2; omega⟩
theorem m2I {gr : Group} (k : OkG gr) {x y : Int} (hx : R9 x) (hy : R9 y) : zba gr [x, y] = some (zbq gr [x, y]) := ziW k (zr6 hx hy)
theorem m2S {gr : Group} (k : OkG gr) {x y : Int} (hx : R9 x) (hy : R9 y) : zc5 gr [x, y] = some (zbq gr [x, y]) := zmX k (zr6 hx hy)
theorem pwI {gr : Group} (k : OkG gr) {x : Int} (hx : R9 x) (e : Int) : zaP gr x e = some (zaf gr x e) := (zgH k hx.1 hx.2 e).1
theorem pwS {gr : Group} (k : OkG gr) {x : Int} (hx : R9 x) (e : Int) : zaT gr x e = some (zaf gr x e) := (zgH k hx.1 hx.2 e).2
theorem r_G {gr : Group} (k : OkG gr) : R9 gr.G := zmR k (zgc k)
theorem zqq {gr : Group} (k : OkG gr) {n : Nat} (h0 : n < gr.P.toNat) (h : n ^ gr.Q.toNat % gr.P.toNat = 1) : zam gr (n : Int) = true := by
 have hp := k.p
 have hq := k.q
 have h1 : 1 ≤ n := by
  rcases Nat.eq_zero_or_pos n with h2 | h2
  ·rw [h2, Nat.zero_pow (by omega), Nat.zero_mod] at h; omega
  ·exact h2
 simp only [zam, Bool.and_eq_true, decide_eq_true_eq]
 exact ⟨⟨by omega, by omega⟩, by rw [Int.toNat_natCast]; exact h⟩
theorem zek {gr : Group} (k : OkG gr) {x : Int} (hx : zam gr x = true) (e : Int) : zam gr (zaf gr x e) = true := by
 have hp := k.p
 refine zqq k (Nat.mod_lt _ (by omega)) ?_
 rw [← Nat.pow_mod, ← Nat.pow_mul, Nat.mul_comm, Nat.pow_mul, Nat.pow_mod, (zgV hx).2.2, Nat.one_pow, Nat.mod_eq_of_lt (by omega)]
theorem zmT {gr : Group} (k : OkG gr) {x y : Int} (hx : zam gr x = true) (hy : zam gr y = true) : zam gr (zbq gr [x, y]) = true := by
 have hp := k.p
 have bx := ziI hx
 have by' := ziI hy
 rw [zjD k ⟨by omega, by omega⟩ (by omega)]
 obtain ⟨a, rfl⟩ := Int.eq_ofNat_of_zero_le (show 0 ≤ x by omega)
 obtain ⟨b, rfl⟩ := Int.eq_ofNat_of_zero_le (show 0 ≤ y by omega)
 obtain ⟨p, hP⟩ := Int.eq_ofNat_of_zero_le (show 0 ≤ gr.P by omega)
 have h1 := (zgV hx).2.2
 have h2 := (zgV hy).2.2
 rw [Int.toNat_natCast] at h1 h2
 have e : ((a : Int) * (b : Int)) % gr.P = ((a * b % gr.P.toNat : Nat) : Int) := by rw [hP, Int.toNat_natCast, Int.natCast_emod, Int.natCast_mul]
 rw [e]
 refine zqq k (Nat.mod_lt _ (by omega)) ?_
 rw [← Nat.pow_mod, Nat.mul_pow, Nat.mul_mod, h1, h2, Nat.mod_eq_of_lt (by omega)]
theorem zxr {gr : Group} (k : OkG gr) : zam gr 1 = true := by
 have hp := k.p
 exact zqq (n := 1) k (by omega) (by rw [Nat.one_pow, Nat.mod_eq_of_lt (by omega)])
theorem zvr {p a b : Int} (h : a % p = b % p) : (a - b) % p = 0 := by rw [Int.sub_emod, h, Int.sub_self, Int.zero_emod]
def E9 (q x : Int) : Prop := 0 ≤ x ∧ x < q
theorem zF8 {gr : Group} {l : List Int} (h : l.all (zdo gr) = true) : ∀ x ∈ l, E9 gr.Q x := fun x hx => zgY.1 (List.all_eq_true.1 h x hx)
theorem zHm {q a z t : Int} (hq : q ≤ 2000000000) (ha : E9 q a) (hz : E9 q z) (ht : E9 q t) : IntKind.i64.wrap (a + IntKind.i64.wrap (z * t)) = a + z * t ∧ (IntKind.i64.wrap (a + IntKind.i64.wrap (z * t))).tmod q = (a + z * t) % q := by
 obtain ⟨a1, a2⟩ := ha
 obtain ⟨z1, z2⟩ := hz
 obtain ⟨t1, t2⟩ := ht
 have h1 : 0 ≤ z * t := Int.mul_nonneg z1 t1
 have h2 : z * t ≤ 2000000000 * 2000000000 := Int.mul_le_mul (by omega) (by omega) t1 (by omega)
 rw [zar (n := z * t) (by omega) (by omega), zar (n := a + z * t) (by omega) (by omega)]
 exact ⟨rfl, Int.tmod_eq_emod_of_nonneg (by omega)⟩
theorem zCJ {q : Int} (hq : 0 < q) (x : Int) : E9 q (x % q) := ⟨Int.emod_nonneg _ (by omega), Int.emod_lt_of_pos _ hq⟩
theorem zeS {α : Type} {l : List α} {P : α → Prop} (h : ∀ x ∈ l, P x) {i : Nat} (hi : i < l.length) : P l[i] := h _ (List.getElem_mem hi)
theorem zwh {gr : Group} (k : OkG gr) : ∀ (l m : List Int) (o : Int), 0 ≤ o ∧ o < gr.P → R9 (zch gr l m o)
 | [], _, o, h => by have := k.p; unfold zch; exact ⟨h.1, by omega⟩
 | _ :: _, [], o, h => by have := k.p; unfold zch; exact ⟨h.1, by omega⟩
 | x :: l, e :: m, o, h => by
  have := k.p
  unfold zch
  exact zwh k l m _ ⟨Int.emod_nonneg _ (by omega), Int.emod_lt_of_pos _ (by omega)⟩
theorem zyT {gr : Group} (k : OkG gr) (l m : List Int) : R9 (zch gr l m 1) := zwh k l m 1 (by have := k.p; exact ⟨by omega, by omega⟩)
theorem zrI {gr : Group} (k : OkG gr) {x : Int} (h : zam gr x = true) {s : Int} (hs : 0 ≤ s) : zaf gr (zaf gr x s) (-1) = zaf gr x (0 - s) := by
 have hq := k.q
 have e1 : (-1 : Int) % gr.Q = (gr.Q - 1) % gr.Q := by rw [show gr.Q - 1 = -1 + gr.Q by omega, Int.add_emod_right]
 have h1 : zaf gr (zaf gr x s) (-1) = zaf gr (zaf gr x s) (gr.Q - 1) := zfE _ e1
 rw [h1, zeF k h hs (by omega)]
 refine zfE _ ?_
 rw [show s * (gr.Q - 1) = (0 - s) + gr.Q * s by grind, Int.add_mul_emod_self_left]
def IsP (n : Nat) (h : Int → Int) : Prop := ∃ c : List Int, c.length ≤ n ∧ ∀ x, evI c x = h x
theorem zue : ∀ (a b : List Int), ∃ c : List Int, c.length = max a.length b.length ∧ ∀ x, evI c x = evI a x + evI b x
 | [], b => ⟨b, by simp, fun x => by simp [evI]⟩
 | a :: l, [] => ⟨a :: l, by simp, fun x => by simp [evI]⟩
 | a :: l, b :: m => by
  obtain ⟨c, h1, h2⟩ := zue l m
  refine ⟨(a + b) :: c, by simp [h1], fun x => ?_⟩
  rw [zdA, zdA, zdA, h2]
  grind
theorem zt7 (k : Int) : ∀ (a : List Int) (x : Int), evI (a.map (k * ·)) x = k * evI a x
 | [], x => by simp [evI]
 | a :: l, x => by
  rw [List.map_cons, zdA, zdA, zt7 k l x]
  grind
theorem IsP.add {n : Nat} {g h : Int → Int} (hg : IsP n g) (hh : IsP n h) : IsP n (fun x => g x + h x) := by
 obtain ⟨a, a1, a2⟩ := hg
 obtain ⟨b, b1, b2⟩ := hh
 obtain ⟨c, c1, c2⟩ := zue a b
 exact ⟨c, by omega, fun x => by rw [c2, a2, b2]⟩
theorem IsP.mul {n : Nat} {h : Int → Int} (k : Int) (hh : IsP n h) : IsP n (fun x => k * h x) := by
 obtain ⟨b, b1, b2⟩ := hh
 exact ⟨b.map (k * ·), by simpa using b1, fun x => by rw [zt7, b2]⟩
theorem IsP.up {n m : Nat} {h : Int → Int} (hh : IsP n h) (hm : n ≤ m) : IsP m h := by
 obtain ⟨b, b1, b2⟩ := hh
 exact ⟨b, by omega, b2⟩
theorem IsP.step {n : Nat} {h : Int → Int} (p : Int) (hh : IsP n h) : IsP (n + 1) (fun x => h x * (x - p)) := by
 obtain ⟨b, b1, b2⟩ := hh
 have h1 : IsP (n + 1) (fun x => h x * x) := ⟨0 :: b, by simpa using b1, fun x => by rw [zdA, b2]; show h x * x + 0 = h x * x; omega⟩
 have h2 := h1.add ((show IsP n h from ⟨b, b1, b2⟩).mul (-p) |>.up (Nat.le_succ n))
 obtain ⟨c, c1, c2⟩ := h2
 exact ⟨c, c1, fun x => by rw [c2]; grind⟩
theorem IsP.df : ∀ l : List Int, IsP (l.length + 1) (fun x => dF x l)
 | [] => ⟨[1], by simp, fun x => by simp [evI, dF]⟩
 | p :: l => by
  obtain ⟨c, c1, c2⟩ := (IsP.df l).step p
  exact ⟨c, c1, fun x => (c2 x).trans (zjR x p l).symm⟩
def qd (p : Int) : List Int → List Int
 | [] => []
 | [_] => []
 | _ :: d :: f => evI (d :: f) p :: qd p (d :: f)
theorem zut (p : Int) : ∀ l : List Int, (qd p l).length = l.length - 1
 | [] => rfl
 | [_] => rfl
 | _ :: d :: f => by have := zut p (d :: f); simp [qd, this]
theorem zsS (p x : Int) : ∀ l : List Int, evI l x - evI l p = (x - p) * evI (qd p l) x
 | [] => by simp [evI, qd]
 | [c] => by simp [evI, qd]
 | c :: d :: f => by
  have h := zsS p x (d :: f)
  show evI (c :: d :: f) x - evI (c :: d :: f) p = (x - p) * evI (evI (d :: f) p :: qd p (d :: f)) x
  rw [zdA c, zdA c, zdA (evI (d :: f) p)]
  generalize evI (d :: f) x = u at *
  generalize evI (d :: f) p = v at *
  grind
theorem zul {q : Nat} (hq : Pr q) : ∀ (pts c : List Int), c.length ≤ pts.length → pts.Pairwise (fun a b => (b - a) % (q : Int) ≠ 0) → (∀ p ∈ pts, evI c p % (q : Int) = 0) → ∀ x, evI c x % (q : Int) = 0
 | [], c, h, _, _, x => by
  have : c = [] := List.length_eq_zero_iff.1 (by simpa using h)
  rw [this]; simp [evI]
 | p :: pts, c, h, hd, hz, x => by
  obtain ⟨d1, d2⟩ := List.pairwise_cons.1 hd
  have hp := hz p (by simp)
  have h2 := zul hq pts (qd p c) (by rw [zut]; simp at h; omega) d2 (fun r hr => by
   have e := zsS p r c
   have e2 : ((r - p) * evI (qd p c) r) % (q : Int) = 0 := by
    rw [← e, Int.sub_emod, hp, hz r (List.mem_cons_of_mem _ hr)]; simp
   rcases ztv hq e2 with e3 | e3
   ·exact absurd e3 (d1 r hr)
   ·exact e3) x
  have e := zsS p x c
  rw [show evI c x = evI c p + (x - p) * evI (qd p c) x by omega, Int.add_emod, hp, Int.mul_emod, h2]
  simp
def smL (f : Nat → Int) : Nat → Int
 | 0 => 0
 | n + 1 => smL f n + f n
theorem zwA {m : Nat} {f : Nat → Int → Int} : ∀ n, (∀ k, k < n → IsP m (f k)) → IsP m (fun x => smL (fun k => f k x) n)
 | 0, _ => ⟨[], by simp, fun x => by simp [evI, smL]⟩
 | n + 1, h => (zwA n fun k hk => h k (by omega)).add (h n (by omega))
theorem zpd {q : Int} {f g : Nat → Int} : ∀ n, (∀ k, k < n → f k % q = g k % q) → smL f n % q = smL g n % q
 | 0, _ => rfl
 | n + 1, h => by
  show (smL f n + f n) % q = (smL g n + g n) % q
  exact ziv (zpd n fun k hk => h k (by omega)) (h n (by omega))
theorem zrd {f : Nat → Int} {j : Nat} : ∀ n, (∀ k, k < n → k ≠ j → f k = 0) → smL f n = if j < n then f j else 0
 | 0, _ => by simp [smL]
 | n + 1, h => by
  show smL f n + f n = _
  rw [zrd n fun k hk => h k (by omega)]
  by_cases e : n = j
  ·subst e; simp
  ·rw [h n (by omega) e]
   by_cases e2 : j < n
   ·rw [if_pos e2, if_pos (by omega)]; omega
   ·rw [if_neg e2, if_neg (by omega)]; omega
theorem zrv {x : Int} : ∀ {l : List Int}, x ∈ l → dF x l = 0
 | p :: l, h => by
  rw [zjR]
  rcases List.mem_cons.1 h with rfl | h
  ·rw [Int.sub_self, Int.mul_zero]
  ·rw [zrv h, Int.zero_mul]
theorem ztG {l : List Int} {j k : Nat} (hj : j < l.length) (h : k ≠ j) : l[j] ∈ l.eraseIdx k := by
 rw [List.mem_eraseIdx_iff_getElem]
 exact ⟨j, hj, fun e => h e.symm, rfl⟩
theorem zAp {q : Int} {pts : List Int} (h : LgOk q pts) : pts.Pairwise (fun a b => (b - a) % ((q.toNat : Nat) : Int) ≠ 0) := by
 have h8 := h.q8
 have e : ((q.toNat : Nat) : Int) = q := by omega
 rw [e]
 refine List.Pairwise.imp_of_mem ?_ h.nd
 intro a b ha hb hne hz
 have := h.bd a ha
 have := h.bd b hb
 rcases Int.lt_trichotomy a b with hl | hl | hl
 ·rw [Int.emod_eq_of_lt (by omega) (by omega)] at hz; omega
 ·exact hne hl
 have : (b - a + q) % q = 0 := by rw [Int.add_emod_right]; exact hz
 rw [Int.emod_eq_of_lt (by omega) (by omega)] at this; omega
theorem zEC {q : Int} {pts f : List Int} (h : LgOk q pts) (hf : f.length ≤ pts.length) (hi : ∀ k (hk : k < pts.length), (dF pts[k] (pts.eraseIdx k) * ivV q (dF pts[k] (pts.eraseIdx k) % q)) % q = 1 % q) (x : Int) : smL (fun k => zbR q pts x k * evI f (pts.getD k 0)) pts.length % q = evI f x % q := by
 have h8 := h.q8
 have eq : ((q.toNat : Nat) : Int) = q := by omega
 let w : Nat → Int := fun k => ivV q (dF (pts.getD k 0) (pts.eraseIdx k) % q) * evI f (pts.getD k 0)
 have hG : IsP pts.length (fun x => smL (fun k => w k * dF x (pts.eraseIdx k)) pts.length + (-1) * evI f x) := by
  refine IsP.add (zwA (f := fun k x => w k * dF x (pts.eraseIdx k)) pts.length fun k hk => ?_) (IsP.mul (-1) ⟨f, hf, fun _ => rfl⟩)
  refine IsP.mul (w k) ((IsP.df (pts.eraseIdx k)).up ?_)
  rw [List.length_eraseIdx_of_lt hk]; omega
 obtain ⟨c, c1, c2⟩ := hG
 have c2 : ∀ x, evI c x = smL (fun k => w k * dF x (pts.eraseIdx k)) pts.length + (-1) * evI f x := c2
 have hv := zul h.pr pts c c1 (zAp h) (fun p hp => by
  obtain ⟨j, hj, rfl⟩ := List.getElem_of_mem hp
  rw [c2, eq, zrd (j := j) pts.length fun k hk hne => by rw [zrv (ztG hj hne), Int.mul_zero], if_pos hj]
  show (ivV q (dF (pts.getD j 0) (pts.eraseIdx j) % q) * evI f (pts.getD j 0) * dF pts[j] (pts.eraseIdx j) + -1 * evI f pts[j]) % q = 0
  rw [zbF hj]
  have e1 := hi j hj
  have e2 : (ivV q (dF pts[j] (pts.eraseIdx j) % q) * evI f pts[j] * dF pts[j] (pts.eraseIdx j)) % q = evI f pts[j] % q := by
   rw [show ivV q (dF pts[j] (pts.eraseIdx j) % q) * evI f pts[j] * dF pts[j] (pts.eraseIdx j) = (dF pts[j] (pts.eraseIdx j) * ivV q (dF pts[j] (pts.eraseIdx j) % q)) * evI f pts[j] by grind]
   rw [Int.mul_emod, e1, ← Int.mul_emod, Int.one_mul]
  rw [show ∀ a b : Int, a + -1 * b = a - b by intros; omega]
  exact zvr e2) x
 rw [c2, eq] at hv
 have h1 : smL (fun k => zbR q pts x k * evI f (pts.getD k 0)) pts.length % q = smL (fun k => w k * dF x (pts.eraseIdx k)) pts.length % q := by
  refine zpd _ fun k hk => ?_
  show ((dF x (pts.eraseIdx k) * ivV q (dF (pts.getD k 0) (pts.eraseIdx k) % q)) % q * evI f (pts.getD k 0)) % q = (ivV q (dF (pts.getD k 0) (pts.eraseIdx k) % q) * evI f (pts.getD k 0) * dF x (pts.eraseIdx k)) % q
  rw [Int.mul_emod, Int.emod_emod, ← Int.mul_emod]
  congr 1
  grind
 rw [h1]
 have h2 := Int.emod_emod_of_dvd (smL (fun k => w k * dF x (pts.eraseIdx k)) pts.length) (Int.dvd_refl q)
 obtain ⟨d, hd⟩ := Int.dvd_of_emod_eq_zero hv
 rw [show smL (fun k => w k * dF x (pts.eraseIdx k)) pts.length = evI f x + q * d by omega, Int.add_mul_emod_self_left]
theorem zxG {q v : Nat} (hq2 : q ≤ 2000000000) : ∀ (b a X Y : Nat) (s : Int), s = 1 ∨ s = -1 → X * b + Y * a = q → a ≤ 2000000000 → b ≤ 2000000000 → (∃ d : Int, (a : Int) = s * X * v + q * d) → (∃ d : Int, (b : Int) = -s * Y * v + q * d) → Rn (zbs zkV ((a : Int), (b : Int), s * X, -s * Y)) (fun r => ∃ d : Int, r.1 = r.2 * v + q * d) := by
 intro b
 induction b using Nat.strongRecOn with
 | _ b ih =>
  intro a X Y s hs hX ha hb h1 h2
  refine zCf ?_
  unfold zkV
  by_cases hb0 : b = 0
  ·subst hb0
   exact zbH (by simp) (zab h1)
  ·have hk : a / b * b ≤ a := Nat.div_mul_le_self a b
   have kY : a / b * Y * b ≤ q := by
    calc a / b * Y * b = Y * (a / b * b) := by grind
     _ ≤ Y * a := Nat.mul_le_mul_left _ hk
     _ ≤ q := by omega
   have kY2 : a / b * Y ≤ q := Nat.le_trans (Nat.le_mul_of_pos_right _ (by omega)) kY
   have hX2 : X ≤ q := Nat.le_trans (Nat.le_mul_of_pos_right X (show 0 < b by omega)) (by omega)
   have hab : a / b ≤ a := Nat.div_le_self a b
   refine zfn (by simpa using hb0) (zas (by simpa using hb0) (zab ?_))
   show Rn (zbs zkV _) _
   dsimp only
   rw [zly ha hb]
   have e1 : ((a : Int).tdiv (b : Int)) = ((a / b : Nat) : Int) := rfl
   have hn0 : (0 : Int) ≤ ((a / b : Nat) : Int) := Int.natCast_nonneg _
   have hn1 : ((a / b : Nat) : Int) ≤ 2000000000 := Int.ofNat_le.2 (Nat.le_trans hab ha)
   have e2 : IntKind.i64.wrap ((a / b : Nat) : Int) = ((a / b : Nat) : Int) := zar (Int.le_trans (by decide) hn0) (Int.le_trans hn1 (by decide))
   have e3 : ((a / b : Nat) : Int) * (-s * (Y : Int)) = -s * ((a / b * Y : Nat) : Int) := by push_cast; grind
   have hab2 : ((a / b * Y : Nat) : Int) ≤ 2000000000 := by omega
   have hX3 : (X : Int) ≤ 2000000000 := by omega
   have e4 : IntKind.i64.wrap (-s * ((a / b * Y : Nat) : Int)) = -s * ((a / b * Y : Nat) : Int) := by
    rcases hs with rfl | rfl <;> exact zar (by omega) (by omega)
   have e5 : IntKind.i64.wrap (s * (X : Int) - -s * ((a / b * Y : Nat) : Int)) = s * ((X + a / b * Y : Nat) : Int) := by
    have : s * (X : Int) - -s * ((a / b * Y : Nat) : Int) = s * ((X + a / b * Y : Nat) : Int) := by push_cast; grind
    rw [this]
    rcases hs with rfl | rfl <;> exact zar (by omega) (by omega)
   rw [e1, e2, e3, e4, e5]
   have hm : a % b < b := Nat.mod_lt _ (by omega)
   have hdm := Nat.div_add_mod a b
   have := ih (a % b) hm b Y (X + a / b * Y) (-s) (by rcases hs with rfl | rfl <;> simp) (by
    calc Y * (a % b) + (X + a / b * Y) * b = X * b + Y * (b * (a / b) + a % b) := by grind
     _ = q := by rw [hdm]; exact hX) hb (by omega) h2 (by
    obtain ⟨d1, h1⟩ := h1
    obtain ⟨d2, h2⟩ := h2
    refine ⟨d1 - ((a / b : Nat) : Int) * d2, ?_⟩
    have hd : ((a % b : Nat) : Int) = (a : Int) - (b : Int) * ((a / b : Nat) : Int) := by omega
    rw [hd, h1, h2]
    push_cast
    grind)
   rw [Int.neg_neg] at this
   exact this
theorem zAJ {q v : Nat} (hq : 2 ≤ q) (hq2 : q ≤ 2000000000) (hv : v < q) (hg : Nat.gcd q v = 1) : ((v : Int) * ivV q v) % (q : Int) = 1 := by
 obtain ⟨⟨u, c⟩, h1, h2⟩ := euc (x := 0) (y := 1) hq2 (by omega : v ≤ 2000000000) hg
 have h2 : u = 1 := h2
 subst h2
 have h3 := zxG (q := q) (v := v) hq2 v q 0 1 (-1) (.inr rfl) (by simp) hq2 (by omega) ⟨1, by simp⟩ ⟨0, by simp⟩
 have e0 : ((q : Int), (v : Int), (-1 : Int) * ((0 : Nat) : Int), -(-1 : Int) * ((1 : Nat) : Int)) = ((q : Int), (v : Int), 0, 1) := by simp
 rw [e0] at h3
 obtain ⟨r, h4, d, h5⟩ := h3
 rw [h1] at h4
 cases h4
 have hs : zcd (v : Int) (q : Int) = some (c % (q : Int), true) := by
  obtain ⟨i1, i2, _⟩ := zos hq hq2 hv hg
  unfold zdz at i1
  have e2 := congrArg (fun o : Option (Int × Int) => o.bind fun (x5 : Int × Int) => if (x5.1 != 1) = true then (some 0) else ((zcQ x5.2 (q : Int)).bind fun z23 => some z23)) h1
  have e3 := i1.symm.trans e2
  have e4 : (some (ivV q v) : Option Int) = some (c % (q : Int)) := e3.trans (by
   show (zcQ c (q : Int)).bind _ = _
   rw [zlC (by omega) (by omega)]; rfl)
  rw [← Option.some.inj e4]
  exact i2
 have hi : ivV q v = c % (q : Int) := by unfold ivV; rw [hs]; rfl
 rw [hi, Int.mul_emod, Int.emod_emod, ← Int.mul_emod]
 have h5 : (1 : Int) = c * v + q * d := h5
 rw [show (v : Int) * c = 1 + q * (-d) by grind, Int.add_mul_emod_self_left, Int.emod_eq_of_lt (by omega) (by omega)]
theorem zBx {q : Int} {pts : List Int} (h : LgOk q pts) : ∀ k (hk : k < pts.length), (dF pts[k] (pts.eraseIdx k) * ivV q (dF pts[k] (pts.eraseIdx k) % q)) % q = 1 % q := by
 intro k hk
 have h8 := h.q8
 have h2 := h.q2
 have hc := zuQ h hk
 obtain ⟨Q, hQ⟩ := Int.eq_ofNat_of_zero_le (show 0 ≤ q by omega)
 subst hQ
 have hr := ze3 (q := (Q : Int)) (by omega) (dF pts[k] (pts.eraseIdx k))
 obtain ⟨v, hv⟩ := Int.eq_ofNat_of_zero_le hr.1
 rw [hv] at hc hr
 rw [Int.toNat_natCast, Int.toNat_natCast] at hc
 have := zAJ (q := Q) (v := v) (by omega) (by omega) (by omega) hc
 have e := Int.mul_emod (v : Int) (ivV (Q : Int) v) (Q : Int)
 rw [Int.emod_eq_of_lt (show (0 : Int) ≤ v by omega) (by omega)] at e
 rw [Int.mul_emod, hv, ← e, this, Int.emod_eq_of_lt (by omega) (by omega)]
theorem zk4 {q : Int} {pts f : List Int} (h : LgOk q pts) (hf : f.length ≤ pts.length) (x : Int) : smL (fun k => zbR q pts x k * zav q f (pts.getD k 0)) pts.length % q = zav q f x := by
 have h1 := zEC h hf (zBx h) x
 rw [zhy, ← h1]
 refine zpd _ fun k _ => ?_
 rw [zhy, Int.mul_emod, Int.emod_emod, ← Int.mul_emod]
theorem ziP {gr : Group} (k : OkG gr) {x : Int} (hx : zam gr x = true) {a b : Int} (ha : 0 ≤ a) (hb : 0 ≤ b) : zbq gr [zaf gr x a, zaf gr x b] = zaf gr x (a + b) := by
 have hp := k.p
 have hq := k.q
 have b1 := zbS k x a
 have b2 := zbS k x b
 rw [zjD k ⟨b1.1, by omega⟩ b2.1]
 obtain ⟨A, rfl⟩ := Int.eq_ofNat_of_zero_le ha
 obtain ⟨B, rfl⟩ := Int.eq_ofNat_of_zero_le hb
 obtain ⟨n, hn⟩ := Int.eq_ofNat_of_zero_le (show 0 ≤ gr.Q by omega)
 obtain ⟨P, hP⟩ := Int.eq_ofNat_of_zero_le (show 0 ≤ gr.P by omega)
 have h3 := (zgV hx).2.2
 unfold zaf
 rw [hn] at h3 ⊢
 rw [hP] at h3 ⊢
 rw [Int.toNat_natCast, Int.toNat_natCast] at h3
 have e : ∀ c : Nat, ((c : Int) % (n : Int)).toNat = c % n := fun c => by rw [← Int.natCast_emod, Int.toNat_natCast]
 rw [show ((A : Int) + (B : Int)) = ((A + B : Nat) : Int) from rfl, e, e, e, Int.toNat_natCast, zht h3, zht h3, zht h3, ← Int.natCast_mul, ← Int.natCast_emod, Nat.pow_add, Nat.mul_mod, Nat.mod_mod, Nat.mod_mod, ← Nat.mul_mod]
theorem zrs {gr : Group} (k : OkG gr) {A : Int} (hA : zam gr A = true) : ∀ (ys ls : List Int) (s : Int), 0 ≤ s → (∀ y ∈ ys, 0 ≤ y) → (∀ l ∈ ls, 0 ≤ l) → ys.length = ls.length → zch gr (ys.map (zaf gr A)) ls (zaf gr A s) = zaf gr A (s + smL (fun k => ls.getD k 0 * ys.getD k 0) ys.length)
 | [], _, s, _, _, _, _ => by simp [zch, smL]
 | y :: ys, [], s, _, _, _, h => by simp at h
 | y :: ys, l :: ls, s, hs, hy, hl, h => by
  have hy0 := hy y (by simp)
  have hl0 := hl l (by simp)
  have hm := Int.mul_nonneg hy0 hl0
  have b1 := zbS k A s
  have b2 := zbS k (zaf gr A y) l
  have hp := k.p
  show zch gr (ys.map (zaf gr A)) ls (zaf gr A s * zaf gr (zaf gr A y) l % gr.P) = _
  rw [← zjD k ⟨b1.1, by omega⟩ b2.1, zeF k hA hy0 hl0, ziP k hA hs hm, zrs k hA ys ls _ (by omega) (fun z hz => hy z (List.mem_cons_of_mem _ hz)) (fun z hz => hl z (List.mem_cons_of_mem _ hz)) (by simpa using h)]
  congr 1
  rw [show (y :: ys).length = ys.length + 1 from rfl]
  have : ∀ n, smL (fun k => (l :: ls).getD k 0 * (y :: ys).getD k 0) (n + 1) = l * y + smL (fun k => ls.getD k 0 * ys.getD k 0) n := by
   intro n
   induction n with
   | zero => show 0 + l * y = l * y + 0; omega
   | succ n ih => show smL _ (n + 1) + ls.getD n 0 * ys.getD n 0 = l * y + (smL _ n + ls.getD n 0 * ys.getD n 0); rw [ih]; omega
  rw [this, Int.mul_comm y l]; omega
abbrev prtS : ByteArray := ⟨#[112, 97, 114, 116, 105, 97, 108]⟩
def zfK (gr : Group) (A x w : Int) : Int := chG gr prtS ([[gr.G], [A]].flatten ++ [zaf gr gr.G x, zaf gr A x] ++ [zaf gr gr.G w, zaf gr A w])
def zqh (gr : Group) (A x w : Int) : Proof := ⟨[zaf gr gr.G w, zaf gr A w], [zfK gr A x w], [(w + zfK gr A x w * x) % gr.Q]⟩
def zp1 (gr : Group) (A i x w : Int) : Partial := ⟨i, zaf gr A x, zqh gr A x w⟩
theorem zvP {gr : Group} (k : OkG gr) {A : Int} (hA : zam gr A = true) : LinS gr [[gr.G], [A]] := by
 refine ⟨by simp, by simp, fun r hr => ?_⟩
 simp only [List.mem_cons, List.not_mem_nil, or_false] at hr
 rcases hr with rfl | rfl
 ·simp [zgc k]
 simp [hA]
theorem zud {gr : Group} (k : OkG gr) {c : Cipher} (hA : zam gr c.A = true) {i x w : Int} (hx : E9 gr.Q x) (hw : E9 gr.Q w) : zdc gr c i x w = some (zp1 gr c.A i x w) := by
 have hp := k.p
 have hq := k.q
 have hE := ztq k prtS ([[gr.G], [c.A]].flatten ++ [zaf gr gr.G x, zaf gr c.A x] ++ [zaf gr gr.G w, zaf gr c.A w])
 have hE : E9 gr.Q (zfK gr c.A x w) := hE
 have im : ∀ e, zbj gr [[gr.G], [c.A]] [e] = some [zaf gr gr.G e, zaf gr c.A e] := fun e => by
  rw [zp9 k (zvP k hA) (es := [e]) rfl]
  simp [zn4 k]
 have hd : ([[gr.G], [c.A]].flatten ++ [zaf gr gr.G x, zaf gr c.A x] ++ [zaf gr gr.G w, zaf gr c.A w]).all zcr = true := by
  have h := fun e => zfr k gr.G e
  refine zwi fun z hz => ?_
  simp at hz
  rcases hz with rfl | rfl | rfl | rfl | rfl | rfl
  ·exact r_G k
  ·exact zmR k hA
  ·exact zfr k _ _
  ·exact zfr k _ _
  ·exact zfr k _ _
  ·exact zfr k _ _
 have ch : zbo gr prtS ([[gr.G], [c.A]].flatten ++ [zaf gr gr.G x, zaf gr c.A x] ++ [zaf gr gr.G w, zaf gr c.A w]) = some (zfK gr c.A x w, true) := by
  rw [zt6 k _ (by simp), if_pos (zwq k (by decide) (by rw [show prtS.size = 7 from rfl]; simp) hd)]
  rfl
 unfold zdc zbP
 refine zaw (zag (pwI k (zmR k hA) _) (zag (a := (zqh gr c.A x w, true)) (zaw ?_) (zab rfl)))
 refine zag (im w) (zag (zi4 _ (by simp)) (zag (im x) (zag (zi4 _ (by simp)) (zag (a := (zfK gr c.A x w, true)) ?_ (zbH rfl ?_)))))
 ·refine Eq.trans ?_ ch
  congr 1
 refine zad (ψ := (· = ([zaf gr gr.G w, zaf gr c.A w], [zfK gr c.A x w], [(w + zfK gr c.A x w * x) % gr.Q]))) ?_ (by rintro y rfl; exact zab rfl)
 refine zaB (fun i s => s = ([zaf gr gr.G w, zaf gr c.A w], [zfK gr c.A x w], if i = 0 then [] else [(w + zfK gr c.A x w * x) % gr.Q])) rfl ?_ (by rintro s rfl; rfl)
 rintro i s hi rfl
 have hi0 : i = 0 := by simpa using hi
 subst hi0
 refine zaH (k := 0) (by simp) (zaH (k := 0) (by simp) (zag (zzw k _) (zas (by simp) (zab ?_))))
 rw [(zHm (q := gr.Q) (by omega) (a := [w][0]) (t := [x][0]) hw hE hx).1]
 rfl
theorem zyD {gr : Group} (k : OkG gr) {A : Int} (hA : zam gr A = true) {x w : Int} (hx : 0 ≤ x) (hw : 0 ≤ w) : zkF gr prtS [[gr.G], [A]] [zaf gr gr.G x, zaf gr A x] (zqh gr A x w) = true := by
 have hq := k.q
 have he : 0 ≤ zfK gr A x w ∧ zfK gr A x w < gr.Q := ztq k prtS _
 have hE : chG gr prtS [gr.G, A, zaf gr gr.G x, zaf gr A x, zaf gr gr.G w, zaf gr A w] = zfK gr A x w := rfl
 have h1 : zdo gr ((w + zfK gr A x w * x) % gr.Q) = true := by
  have a := Int.emod_nonneg (w + zfK gr A x w * x) (show gr.Q ≠ 0 by omega)
  have b := Int.emod_lt_of_pos (w + zfK gr A x w * x) (show 0 < gr.Q by omega)
  simp only [zdo, Bool.and_eq_true, decide_eq_true_eq]; omega
 have h2 : ∀ y, zam gr y = true → zch gr [y] [(w + zfK gr A x w * x) % gr.Q] 1 = zbq gr [zaf gr y w, zaf gr (zaf gr y x) (zfK gr A x w)] := fun y hy => by
  rw [zn4 k, zeF k hy hx he.1, ziP k hy hw (Int.mul_nonneg hx he.1)]
  refine zfE _ ?_
  rw [zev, Int.mul_comm x]
 have h3 := h2 gr.G (zgc k)
 have h4 := h2 A hA
 have h5 := zek k (zgc k) w
 have h6 := zek k hA w
 unfold zkF zqh
 generalize zfK gr A x w = c at he hE h1 h3 h4 ⊢
 simp only [List.length_cons, List.length_nil, List.headD_cons, List.all_cons, List.all_nil, h5, h6, h1, Bool.and_true, Bool.not_true, Bool.or_false]
 simp [h3, h4, List.range_succ, hE]
def atV (gr : Group) (commits : List Int) (x : Int) : Int := (commits.foldl (atS gr x) (1, 1)).1
theorem zun {gr : Group} (k : OkG gr) (x : Int) : ∀ (l : List Int) (o e : Int), (∀ y ∈ l, zam gr y = true) → zam gr o = true → zam gr (l.foldl (atS gr x) (o, e)).1 = true
 | [], _, _, _, h => h
 | y :: l, o, e, hl, ho => zun k x l _ _ (fun z hz => hl z (List.mem_cons_of_mem _ hz)) (zmT k ho (zek k (hl y (by simp)) e))
theorem zzf {gr : Group} (k : OkG gr) {f : List Int} (hf : ∀ c ∈ f, 0 ≤ c) (x : Int) : atV gr (f.map (zaf gr gr.G)) x = zaf gr gr.G (zav gr.Q f x) := by
 have hp := k.p
 have hq := k.q
 have h0 : zaf gr gr.G 0 = 1 := by
  unfold zaf
  rw [Int.zero_emod, Int.toNat_zero, Nat.pow_zero, Nat.mod_eq_of_lt (by omega)]
  rfl
 have h := ztc k x f 0 1 hf (Int.le_refl 0) (by omega)
 rw [h0] at h
 unfold atV
 rw [h, Int.zero_add]
 refine zfE _ ?_
 rw [zt9, Int.one_mul, zhy, zev]
def ziN (gr : Group) (cs : List Int) (A : Int) (p : Partial) : Bool := trB p.Index && zam gr p.Value && zkF gr prtS [[gr.G], [A]] [atV gr cs p.Index, p.Value] p.Pi
theorem zwg {gr : Group} (k : OkG gr) {cs : List Int} (hc : ∀ y ∈ cs, zam gr y = true) {c : Cipher} (hA : zam gr c.A = true) {p : Partial} (hp : p.Pi.Commits.length ≤ 1048576) : zb9 gr cs c p = some (ziN gr cs c.A p) ∧ zeh gr cs c p = some (ziN gr cs c.A p) := by
 have hr := zhM k hc
 have hi : ∀ v, trB p.Index = true → zam gr v = true → zci gr cs p.Index = some (atV gr cs p.Index) ∧ zfl gr cs p.Index = some (atV gr cs p.Index) ∧ [atV gr cs p.Index, v].all (zam gr) = true := fun v h hv => by
  simp only [trB, Bool.and_eq_true, decide_eq_true_eq] at h
  refine ⟨zsr k (by omega) (by omega) hr, zwx k (by omega) (by omega) hr, ?_⟩
  have : zam gr (atV gr cs p.Index) = true := zun k _ _ _ _ hc (zxr k)
  simp [this, hv]
 unfold ziN
 refine ⟨?_, ?_⟩
 ·unfold zb9
  rw [zje, zm9 k]
  cases h1 : trB p.Index
  ·rfl
  cases h2 : zam gr p.Value
  ·rfl
  obtain ⟨a1, _, a3⟩ := hi _ h1 h2
  rw [a1]
  simp [ztU k (s := prtS) (by decide) (zvP k hA) rfl a3 hp]
 unfold zeh zfs
 rw [zf9, zze k, show (decide (1 ≤ p.Index) && decide (p.Index ≤ 7)) = trB p.Index from rfl]
 cases h1 : trB p.Index
 ·rfl
 cases h2 : zam gr p.Value
 ·rfl
 obtain ⟨_, a2, a3⟩ := hi _ h1 h2
 rw [a2]
 simp [zt4 k (s := prtS) (by decide) (zvP k hA) rfl a3 hp]
def gdF (gr : Group) (cs : List Int) (A : Int) (l : List Partial) (i : Nat) (s : List Int × List Int) : List Int × List Int :=
 if (!s.2.contains (l.getD i ⟨0, 0, ⟨[], [], []⟩⟩).Index && ziN gr cs A (l.getD i ⟨0, 0, ⟨[], [], []⟩⟩)) = true then (s.1 ++ [(i : Int)], s.2 ++ [(l.getD i ⟨0, 0, ⟨[], [], []⟩⟩).Index]) else s
def gdI (gr : Group) (cs : List Int) (A : Int) (l : List Partial) (n : Nat) : List Int × List Int := itr (gdF gr cs A l) n ([], [])
structure GdOk (gr : Group) (cs : List Int) (A : Int) (l : List Partial) (i : Nat) (s : List Int × List Int) : Prop where
 n : s.1.length ≤ i
 e : s.2 = s.1.map fun j => (l.getD j.toNat ⟨0, 0, ⟨[], [], []⟩⟩).Index
 d : s.2.Nodup
 b : ∀ j ∈ s.1, 0 ≤ j ∧ j < i ∧ ziN gr cs A (l.getD j.toNat ⟨0, 0, ⟨[], [], []⟩⟩) = true
theorem zsO (gr : Group) (cs : List Int) (A : Int) (l : List Partial) : ∀ n, GdOk gr cs A l n (gdI gr cs A l n)
 | 0 => ⟨by simp [gdI, itr], by simp [gdI, itr], by simp [gdI, itr], by simp [gdI, itr]⟩
 | n + 1 => by
  have h := zsO gr cs A l n
  show GdOk gr cs A l (n + 1) (gdF gr cs A l n (gdI gr cs A l n))
  generalize gdI gr cs A l n = s at h
  unfold gdF
  split
  ·rename_i hc
   simp only [Bool.and_eq_true, Bool.not_eq_true'] at hc
   refine ⟨by have := h.n; simp; omega, by simp [h.e], ?_, fun j hj => ?_⟩
   ·refine List.nodup_append.2 ⟨h.d, by simp, fun a ha b hb => ?_⟩
    rw [List.mem_singleton] at hb
    subst hb
    rintro rfl
    have := hc.1
    rw [List.contains_eq_mem] at this
    exact of_decide_eq_false this ha
   ·rcases List.mem_append.1 hj with h1 | h1
    ·obtain ⟨a1, a2, a3⟩ := h.b j h1; exact ⟨a1, by omega, a3⟩
    ·rw [List.mem_singleton] at h1
     subst h1
     exact ⟨by omega, by omega, by rw [Int.toNat_natCast]; exact hc.2⟩
  ·exact ⟨by have := h.n; omega, h.e, h.d, fun j hj => by obtain ⟨a1, a2, a3⟩ := h.b j hj; exact ⟨a1, by omega, a3⟩⟩
theorem zoa {gr : Group} {cs : List Int} {A : Int} {l : List Partial} (hl : l.length ≤ 1000) (C : List Int → Int → Option Bool) (V : Partial → Option Bool) (hC : ∀ l x, C l x = some (l.contains x)) (hV : ∀ p ∈ l, V p = some (ziN gr cs A p)) : zaq (σ := (List Int) × List Int) (fun i5 s4 =>
 (((ix l i5).bind fun x14 =>
 (((C s4.2 x14.Index).bind fun z18 =>
 if (!z18) = true then (
 (V x14).bind fun z20 =>
 some z20) else (
 some false) : Option Bool).bind fun x17 =>
 if x17 = true then (
 gd ((s4.1.length + 1) * 8 ≤ 140737488355328 ∧ s4.1.length + 1 ≤ 4611686018427387904) <|
 gd ((s4.2.length + 1) * 8 ≤ 140737488355328 ∧ s4.2.length + 1 ≤ 4611686018427387904) <|
 some (s4.1 ++ [i5], s4.2 ++ [x14.Index])) else (
 some (s4.1, s4.2))) : Option ((List Int × List Int))).bind fun x13 =>
 some (.go (x13.1, x13.2)))) (fun s4 => s4.1) (l.length) 0 ([], []) = some (gdI gr cs A l l.length).1 := by
 refine zx6 (gdF gr cs A l) (fun i s => s.1.length ≤ i ∧ s.2.length ≤ i) ⟨by simp, by simp⟩ (fun i s _ h => ?_) fun i s hi h => ?_
 ·unfold gdF; split
  ·exact ⟨by simp; omega, by simp; omega⟩
  exact ⟨by omega, by omega⟩
 rw [zcF hi, Option.bind_some, hC, Option.bind_some, hV _ (List.getElem_mem hi)]
 unfold gdF
 rw [zbF hi, zdN (by omega), zdN (by omega)]
 cases s.2.contains l[i].Index <;> cases ziN gr cs A l[i] <;> rfl
def bdP (l : List Partial) : Prop := ∀ p ∈ l, p.Pi.Commits.length ≤ 1048576
theorem zzu {gr : Group} (k : OkG gr) {cs : List Int} (hc : ∀ y ∈ cs, zam gr y = true) {c : Cipher} (hA : zam gr c.A = true) {l : List Partial} (hl : l.length ≤ 1000) (hb : bdP l) : zdh gr cs c l = some (gdI gr cs c.A l l.length).1 ∧ zf7 gr cs c l = some (gdI gr cs c.A l l.length).1 := by
 refine ⟨?_, ?_⟩
 ·unfold zdh
  rw [zoa (gr := gr) (cs := cs) (A := c.A) hl za8 (zb9 gr cs c) zki fun p hp => (zwg k hc hA (hb p hp)).1]
  rfl
 unfold zf7
 rw [zoa (gr := gr) (cs := cs) (A := c.A) hl ze8 (zeh gr cs c) zxH fun p hp => (zwg k hc hA (hb p hp)).2]
 rfl
abbrev pt0 : Partial := ⟨0, 0, ⟨[], [], []⟩⟩
def cbX (l : List Partial) (g : List Int) : List Int := g.map fun j => (l.getD j.toNat pt0).Index
def cbY (l : List Partial) (g : List Int) : List Int := g.map fun j => (l.getD j.toNat pt0).Value
theorem zni {gr : Group} (k : OkG gr) (cs : List Int) : zbU gr cs = some (inB 1 7 cs.length && cs.all (zam gr)) ∧ zdZ gr cs = some (inB 1 7 cs.length && cs.all (zam gr)) := by
 unfold zbU zdZ
 rw [zer, zf9, zmq k, zm6 k, show (decide ((1 : Int) ≤ (cs.length : Int)) && decide ((cs.length : Int) ≤ 7)) = inB 1 7 cs.length from rfl]
 cases inB 1 7 cs.length <;> exact ⟨rfl, rfl⟩
theorem zwJ {l : List Partial} {g : List Int} (hg : ∀ j ∈ g, 0 ≤ j ∧ j < l.length) (hl : g.length ≤ 1000) : zaq (σ := (List Int) × List Int) (fun i11 s10 =>
 (ix g i11).bind fun x18 =>
 (ix l x18).bind fun x19 =>
 gd ((s10.1.length + 1) * 8 ≤ 140737488355328 ∧ s10.1.length + 1 ≤ 4611686018427387904) <|
 gd ((s10.2.length + 1) * 8 ≤ 140737488355328 ∧ s10.2.length + 1 ≤ 4611686018427387904) <|
 some (.go (s10.1 ++ [x19.Index], s10.2 ++ [x19.Value]))) (fun s10 => (s10.1, s10.2)) g.length 0 ([], []) = some (cbX l g, cbY l g) := by
 refine zaw (zaB (fun i s => s = (cbX l (g.take i), cbY l (g.take i))) rfl ?_ (by rintro s rfl; rw [List.take_length]))
 rintro i s hi rfl
 have hx := zeS hg hi
 obtain ⟨j, hj⟩ := Int.eq_ofNat_of_zero_le hx.1
 have hj2 : j < l.length := by omega
 refine zaH hi ?_
 rw [hj]
 refine zaH hj2 (zas (by simp [cbX]; omega) (zas (by simp [cbY]; omega) (zab ?_)))
 show _ = _
 rw [List.take_succ_eq_append_getElem hi, hj]
 simp only [cbX, cbY, List.map_append, List.map_cons, List.map_nil, Int.toNat_natCast, zbF hj2]
def dcC (gr : Group) (cs : List Int) (c : Cipher) (l : List Partial) : Bool := (inB 1 7 cs.length && cs.all (zam gr)) && ((zam gr c.A && zam gr c.B) && decide (l.length ≤ 14))
def cbV (gr : Group) (cs : List Int) (c : Cipher) (l : List Partial) : Int × Bool :=
 if (dcC gr cs c l && decide (cs.length ≤ (gdI gr cs c.A l l.length).1.length)) = true then
  (zbq gr [c.B, zaf gr (zch gr (cbY l ((gdI gr cs c.A l l.length).1.take cs.length)) ((List.range cs.length).map (zbR gr.Q (cbX l ((gdI gr cs c.A l l.length).1.take cs.length)) 0)) 1) (-1)], true)
 else (0, false)
theorem zxe {l : List Int} (h : l.Nodup) (n : Nat) : (l.take n).Nodup := by
 have : (l.take n ++ l.drop n).Nodup := by rw [List.take_append_drop]; exact h
 exact (List.nodup_append.1 this).1
theorem zA5 {gr : Group} (k : OkG gr) (hq : 7 < gr.Q) {cs : List Int} {A : Int} {l : List Partial} (hl : l.length ≤ 1000) (n : Nat) (hn : n ≤ (gdI gr cs A l l.length).1.length) : LgOk gr.Q (cbX l ((gdI gr cs A l l.length).1.take n)) ∧ (cbX l ((gdI gr cs A l l.length).1.take n)).length = n ∧ (∀ y ∈ cbY l ((gdI gr cs A l l.length).1.take n), zam gr y = true) ∧ (cbY l ((gdI gr cs A l l.length).1.take n)).length = n ∧ ∀ j ∈ (gdI gr cs A l l.length).1.take n, 0 ≤ j ∧ j < l.length := by
 have hp := k.p
 have hq2 := k.q
 have h := zsO gr cs A l l.length
 generalize gdI gr cs A l l.length = s at h hn
 have hx : cbX l (s.1.take n) = s.2.take n := by rw [h.e]; exact List.map_take
 have hlen : s.1.length ≤ 1000 := by have := h.n; omega
 have hok : ∀ j ∈ s.1.take n, ziN gr cs A (l.getD j.toNat pt0) = true := fun j hj => (h.b j (List.mem_of_mem_take hj)).2.2
 refine ⟨⟨hq, by omega, k.pq, fun p hp' => ?_, by rw [hx]; exact zxe h.d n, by rw [hx, List.length_take, h.e, List.length_map]; omega⟩, by simp [cbX]; omega, fun y hy => ?_, by simp [cbY]; omega, fun j hj => ?_⟩
 ·obtain ⟨j, hj, rfl⟩ := List.mem_map.1 hp'
  have := hok j hj
  simp only [ziN, Bool.and_eq_true] at this
  have := this.1.1
  simp only [trB, Bool.and_eq_true, decide_eq_true_eq] at this
  omega
 ·obtain ⟨j, hj, rfl⟩ := List.mem_map.1 hy
  have := hok j hj
  simp only [ziN, Bool.and_eq_true] at this
  exact this.1.2
 have := h.b j (List.mem_of_mem_take hj); exact ⟨this.1, this.2.1⟩
theorem zBg {gr : Group} (k : OkG gr) {x : Int} (hx : R9 x) : zcV gr x = some (zaf gr x (-1)) := by
 unfold zcV
 rw [pwI k hx]; rfl
theorem zCS {gr : Group} (k : OkG gr) (hq : 7 < gr.Q) (cs : List Int) (c : Cipher) {l : List Partial} (hb : bdP l) (hl : l.length ≤ 1000) : zbd gr cs c l = some (cbV gr cs c l) ∧ zeM gr cs c l = some (dcC gr cs c l) ∧ (dcC gr cs c l = true → zeV gr cs c l = some (cbV gr cs c l)) := by
 have hp := k.p
 have hs : (okG gr && decide (7 < gr.Q)) = true := by rw [zgg.2 k]; simpa using hq
 have e14 : decide ((l.length : Int) ≤ 14) = decide (l.length ≤ 14) := decide_eq_decide.2 (by omega)
 have e15 : decide (14 < (l.length : Int)) = !decide (l.length ≤ 14) := by rw [← decide_not]; exact decide_eq_decide.2 (by omega)
 have hI : zdu gr cs c = some ((inB 1 7 cs.length && cs.all (zam gr)) && (zam gr c.A && zam gr c.B)) := by
  unfold zdu
  rw [zgv, hs, (zni k cs).1, zhP k]
  cases (inB 1 7 cs.length && cs.all (zam gr)) <;> rfl
 have hS : zeM gr cs c l = some (dcC gr cs c l) := by
  unfold zeM dcC
  rw [zgM, hs, (zni k cs).2, zvo k, e14]
  cases (inB 1 7 cs.length && cs.all (zam gr)) <;> cases (zam gr c.A && zam gr c.B) <;> rfl
 have hG : ∀ t, ((inB 1 7 cs.length && cs.all (zam gr)) && (zam gr c.A && zam gr c.B)) = t → zdt gr cs c l = if (t && decide (l.length ≤ 14)) = true then (zdh gr cs c l).bind (fun z => some (z, true)) else some ([], false) := by
  rintro t rfl
  unfold zdt
  rw [hI, e15]
  cases ((inB 1 7 cs.length && cs.all (zam gr)) && (zam gr c.A && zam gr c.B)) <;> cases decide (l.length ≤ 14) <;> rfl
 have hG := hG _ rfl
 have hdc : ((inB 1 7 cs.length && cs.all (zam gr)) && (zam gr c.A && zam gr c.B) && decide (l.length ≤ 14)) = dcC gr cs c l := by unfold dcC; rw [Bool.and_assoc]
 rw [hdc] at hG
 unfold zbd
 rw [hG]
 cases hd : dcC gr cs c l
 ·have e : cbV gr cs c l = (0, false) := by unfold cbV; rw [hd]; rfl
  rw [e]; exact ⟨rfl, hS.trans (by rw [hd]), fun h => Bool.noConfusion h⟩
 have hd2 := hd
 simp only [dcC, Bool.and_eq_true, inB, decide_eq_true_eq] at hd2
 obtain ⟨⟨⟨a1, a2⟩, a3⟩, ⟨a4, a5⟩, a6⟩ := hd2
 have hcs := List.all_eq_true.1 a3
 have g := zzu k hcs a4 hl hb
 rw [if_pos rfl, g.1]
 rw [hd] at hS
 unfold zeV
 rw [g.2]
 have hgl : (gdI gr cs c.A l l.length).1.length ≤ l.length := (zsO gr cs c.A l l.length).n
 by_cases ht : cs.length ≤ (gdI gr cs c.A l l.length).1.length
 ·have e : cbV gr cs c l = (zbq gr [c.B, zaf gr (zch gr (cbY l ((gdI gr cs c.A l l.length).1.take cs.length)) ((List.range cs.length).map (zbR gr.Q (cbX l ((gdI gr cs c.A l l.length).1.take cs.length)) 0)) 1) (-1)], true) := by
   unfold cbV; rw [hd, if_pos (by simpa using ht)]
  have hlt : decide (((gdI gr cs c.A l l.length).1.length : Int) < (cs.length : Int)) = false := by simp; omega
  obtain ⟨L1, L2, L3, L4, L5⟩ := zA5 k hq (cs := cs) (A := c.A) hl cs.length ht
  have hdr : ((gdI gr cs c.A l l.length).1.take cs.length).drop 0 = (gdI gr cs c.A l l.length).1.take cs.length := rfl
  have hxy := zwJ (l := l) (g := (gdI gr cs c.A l l.length).1.take cs.length) L5 (by simp; omega)
  have h1 := zns (x := 0) L1 (by omega)
  have h2 := zqQ (x := 0) L1 (by omega)
  rw [L2] at h1 h2
  have hY := zhM k L3
  have h3 := zog k hY (m := (List.range cs.length).map (zbR gr.Q (cbX l ((gdI gr cs c.A l l.length).1.take cs.length)) 0)) (by simp [L4])
  have h4 := zlq k hY (m := (List.range cs.length).map (zbR gr.Q (cbX l ((gdI gr cs c.A l l.length).1.take cs.length)) 0)) (by simp [L4])
  have hr := zyT k (cbY l ((gdI gr cs c.A l l.length).1.take cs.length)) ((List.range cs.length).map (zbR gr.Q (cbX l ((gdI gr cs c.A l l.length).1.take cs.length)) 0))
  rw [e]
  refine ⟨zaw ?_, hS, fun _ => zaw ?_⟩
  ·refine zag rfl (zad (ψ := (· = false)) (zbH rfl (zab hlt)) ?_)
   rintro _ rfl
   refine zbH rfl ?_
   dsimp only
   exact zas (by omega) (zas (by omega) (zag hxy (zag h1 (zag h3 (zag (zBg k hr) (zag (m2I k (zmR k a5) (zfr k _ _)) (zab rfl)))))))
  exact zag rfl (zbH hlt (zas (by omega) (zas (by omega) (zag hxy (zag h2 (zag h4 (zag (zzz k hr.1 hr.2) (zag (m2S k (zmR k a5) (zfr k _ _)) (zab rfl)))))))))
 have e : cbV gr cs c l = (0, false) := by unfold cbV; rw [if_neg (by simp [ht])]
 have hlt : decide (((gdI gr cs c.A l l.length).1.length : Int) < (cs.length : Int)) = true := by simp; omega
 rw [e]
 refine ⟨zaw ?_, hS, fun _ => zaw (zag rfl (zfn hlt (zab rfl)))⟩
 refine zag rfl (zad (ψ := (· = true)) (zbH rfl (zab hlt)) ?_)
 rintro _ rfl
 exact zfn rfl (zab rfl)
theorem zsB {gr : Group} (k : OkG gr) (hq : 7 < gr.Q) (cs : List Int) (c : Cipher) {l : List Partial} (hb : bdP l) (hl : l.length ≤ 1000) : zbd gr cs c l = some (cbV gr cs c l) ∧ zb7 gr cs c l = some (cbV gr cs c l) := by
 obtain ⟨h1, h2, h3⟩ := zCS k hq cs c hb hl
 refine ⟨h1, ?_⟩
 unfold zb7
 rw [h2]
 cases hd : dcC gr cs c l
 ·have e : cbV gr cs c l = (0, false) := by unfold cbV; rw [hd]; rfl
  rw [e]; rfl
 simp [h3 hd]
def rtL (gr : Group) (A : Int) (f pts ws : List Int) : List Partial := (List.range pts.length).map fun i => zp1 gr A (pts.getD i 0) (zav gr.Q f (pts.getD i 0)) (ws.getD i 0)
structure RtOk (gr : Group) (f pts : List Int) : Prop where
 k : OkG gr
 q : 7 < gr.Q
 fe : ∀ c ∈ f, E9 gr.Q c
 n : 1 ≤ f.length ∧ f.length ≤ 7
 p : ∀ x ∈ pts, 1 ≤ x ∧ x ≤ 7
 d : pts.Nodup
 l : pts.length = f.length
theorem zm0 {gr : Group} {A : Int} {f pts ws : List Int} {i : Nat} (hi : i < pts.length) : (rtL gr A f pts ws).getD i pt0 = zp1 gr A pts[i] (zav gr.Q f pts[i]) (ws.getD i 0) := by
 have h : i < (rtL gr A f pts ws).length := by simp [rtL, hi]
 rw [zbF h]
 simp only [rtL, List.getElem_map, List.getElem_range, zbF hi]
theorem zAC {gr : Group} {A : Int} {f pts ws : List Int} (R : RtOk gr f pts) (hA : zam gr A = true) (hw : ∀ w ∈ ws, E9 gr.Q w) {i : Nat} (hi : i < pts.length) : ziN gr (f.map (zaf gr gr.G)) A ((rtL gr A f pts ws).getD i pt0) = true := by
 have k := R.k
 have hq := k.q
 rw [zm0 hi]
 have hp := zeS R.p hi
 have h0 : ∀ c ∈ f, 0 ≤ c := fun c hc => (R.fe c hc).1
 have hpv := zfY (q := gr.Q) (by omega) f pts[i]
 have hw0 : 0 ≤ ws.getD i 0 := by
  by_cases h : i < ws.length
  ·rw [zbF h]; exact (zeS hw h).1
  ·rw [List.getD_eq_getElem?_getD, List.getElem?_eq_none (by omega)]; exact Int.le_refl 0
 have ht : trB pts[i] = true := by simp only [trB, Bool.and_eq_true, decide_eq_true_eq]; omega
 have hv := zyD k hA hpv.1 hw0
 show (trB pts[i] && zam gr (zaf gr A _) && zkF gr prtS [[gr.G], [A]] [atV gr (f.map (zaf gr gr.G)) pts[i], zaf gr A _] (zqh gr A _ _)) = true
 rw [zzf k h0, ht, zek k hA, hv]
 rfl
theorem zv8 {gr : Group} {A : Int} {f pts ws : List Int} (R : RtOk gr f pts) (hA : zam gr A = true) (hw : ∀ w ∈ ws, E9 gr.Q w) : ∀ n, n ≤ pts.length → gdI gr (f.map (zaf gr gr.G)) A (rtL gr A f pts ws) n = ((List.range n).map fun (i : Nat) => (i : Int), pts.take n)
 | 0, _ => rfl
 | n + 1, h => by
  show gdF gr _ A _ n (gdI gr _ A _ n) = _
  rw [zv8 R hA hw n (by omega)]
  have h1 := zAC R hA hw (i := n) (by omega)
  have hc : (pts.take n).contains pts[n] = false := by
   rw [List.contains_eq_mem]
   refine decide_eq_false fun hm => ?_
   have hd := R.d
   rw [← List.take_append_drop n pts, List.drop_eq_getElem_cons (by omega)] at hd
   exact (List.nodup_append.1 hd).2.2 _ hm _ List.mem_cons_self rfl
  unfold gdF
  have hi : ((rtL gr A f pts ws).getD n ⟨0, 0, ⟨[], [], []⟩⟩).Index = pts[n] := by
   have := zm0 (gr := gr) (A := A) (f := f) (ws := ws) (show n < pts.length by omega)
   rw [show (⟨0, 0, ⟨[], [], []⟩⟩ : Partial) = pt0 from rfl, this]; rfl
  rw [hi, hc, h1]
  simp only [Bool.not_false, Bool.and_self, if_true]
  rw [List.range_succ, List.map_append, List.take_succ_eq_append_getElem (by omega)]
  rfl
theorem pow_zero {gr : Group} (k : OkG gr) (x : Int) : zaf gr x 0 = 1 := by
 have hp := k.p
 unfold zaf
 rw [Int.zero_emod, Int.toNat_zero, Nat.pow_zero, Nat.mod_eq_of_lt (by omega)]
 rfl
theorem zqm {f g : Nat → Int} : ∀ n, (∀ k, k < n → f k = g k) → smL f n = smL g n
 | 0, _ => rfl
 | n + 1, h => by show smL f n + f n = smL g n + g n; rw [zqm n fun k hk => h k (by omega), h n (by omega)]
theorem zz9 {gr : Group} {f pts : List Int} (R : RtOk gr f pts) : LgOk gr.Q pts := by
 have hp := R.k.p
 have hq := R.k.q
 have := R.q
 have := R.n
 have := R.l
 exact ⟨by omega, by omega, R.k.pq, fun p hp => by have := R.p p hp; omega, R.d, by omega⟩
theorem zyE {gr : Group} {A : Int} {f pts : List Int} (R : RtOk gr f pts) (hA : zam gr A = true) (x : Int) : zch gr (pts.map fun p => zaf gr A (zav gr.Q f p)) ((List.range pts.length).map (zbR gr.Q pts x)) 1 = zaf gr A (zav gr.Q f x) := by
 have k := R.k
 have hq := k.q
 have hb := fun p => zfY (q := gr.Q) (by omega) f p
 have h := zrs k hA (pts.map (zav gr.Q f)) ((List.range pts.length).map (zbR gr.Q pts x)) 0 (Int.le_refl 0) (fun y hy => by
  obtain ⟨p, _, rfl⟩ := List.mem_map.1 hy; exact (hb p).1) (fun y hy => by
  obtain ⟨p, _, rfl⟩ := List.mem_map.1 hy; exact (zpD (by omega) pts x p).1) (by simp)
 rw [pow_zero k, List.map_map] at h
 refine h.trans (zfE _ ?_)
 rw [Int.zero_add, List.length_map]
 have h2 := zk4 (zz9 R) (f := f) (by rw [R.l]; exact Nat.le_refl _) x
 rw [← h2, zev]
 congr 1
 refine zqm _ fun j hj => ?_
 rw [zbF (show j < ((List.range pts.length).map (zbR gr.Q pts x)).length by simp [hj]), zbF (show j < (pts.map (zav gr.Q f)).length by simp [hj]), zbF hj]
 simp
theorem zww {q : Int} (c : Int) (f : List Int) : zav q (c :: f) 0 = c % q := by
 rw [zhy, zdA]; simp
end
end Go.Pm
