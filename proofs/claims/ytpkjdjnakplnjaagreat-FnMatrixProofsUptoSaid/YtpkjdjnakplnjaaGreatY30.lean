/-
  FnMatrixProofs: plain laws.
  No condition.
-/
import Derived.Test.YtpkjdjnakplnjaaGreatM30b
import Derived.Test.YtpkjdjnakplnjaaGreatPmZ
namespace Go.Pm
open Go.Am
set_option linter.unusedVariables false
set_option linter.unusedSimpArgs false
theorem zet (a b c : Int) : zbv a b c = some (decide (b ≤ a) && decide (a ≤ c)) := by
 unfold zbv
 by_cases h : b ≤ a <;> simp [h]
theorem zgl (a b c : Int) : zb8 a b c = some (decide (b ≤ a) && decide (a ≤ c)) := by
 unfold zb8
 by_cases h : b ≤ a <;> simp [h]
theorem zlH (a : Int) : zew a = some (decide (2 ≤ a) && decide (a ≤ 2000000000)) := by
 unfold zew
 rw [zet]; rfl
theorem zcU (a b : Nat) : (a : Int).tmod (b : Int) = ((a % b : Nat) : Int) := by rw [Int.tmod_eq_emod_of_nonneg (by omega)]; exact (Int.natCast_emod _ _).symm
theorem zsR (a b : Nat) : (a : Int).tdiv (b : Int) = ((a / b : Nat) : Int) := by rw [Int.tdiv_eq_ediv_of_nonneg (by omega)]; exact (Int.natCast_ediv _ _).symm
theorem zf0 (a b : Nat) : (a : Int) * (b : Int) = ((a * b : Nat) : Int) := (Int.natCast_mul _ _).symm
theorem zvu {e : Nat} (he : e ≤ 9223372036854775807) : IntKind.i64.wrap (BitVec.ofInt IntKind.i64.bits (e : Int) &&& BitVec.ofInt IntKind.i64.bits 1).toNat = ((e % 2 : Nat) : Int) := by
 have h1 : (BitVec.ofInt IntKind.i64.bits (e : Int) &&& BitVec.ofInt IntKind.i64.bits 1).toNat = e % 2 := by
  rw [BitVec.toNat_and]
  have a1 : (BitVec.ofInt IntKind.i64.bits (e : Int)).toNat = e := by
   rw [BitVec.toNat_ofInt]
   have : IntKind.i64.bits = 64 := rfl
   rw [this]
   omega
  have a2 : (BitVec.ofInt IntKind.i64.bits 1).toNat = 1 := by decide
  rw [a1, a2, Nat.and_one_is_mod]
 rw [h1, zaz (by omega) (by omega)]
theorem zv3 {a e m : Nat} (ha : a ≤ 2000000000) (hm : 1 ≤ m) (hm2 : m ≤ 2000000000) (he : e ≤ 9223372036854775807) : zc7 (a : Int) (e : Int) (m : Int) = some ((a ^ e % m : Nat) : Int) := by
 unfold zc7
 refine zau (zam (by omega) (zaf (φ := (· = ((a ^ e % m : Nat) : Int))) (zfm (φ := (· = ((a ^ e % m : Nat) : Int))) (fun s => ∃ x y o : Nat, s = ((x : Int), (y : Int), (o : Int)) ∧ x ≤ 2000000000 ∧ y ≤ e ∧ o < m ∧ o * x ^ y % m = a ^ e % m) (fun s => s.2.1.toNat)
  ⟨a, e, 1 % m, by rw [show (1 : Int) = ((1 : Nat) : Int) from rfl, zcU], ha, Nat.le_refl _, Nat.mod_lt _ (by omega), by rw [Nat.mod_mul_mod, Nat.one_mul]⟩ ?_) fun x hx => zab hx))
 rintro s ⟨x, y, o, rfl, hx, hy, ho, hi⟩
 refine zaj (fun h0 => ?_) fun h0 => ?_
 ·have h0 : 0 < y := by simpa using h0
  have hox : o * x ≤ 4000000000000000000 := Nat.le_trans (Nat.mul_le_mul (show o ≤ 2000000000 by omega) hx) (by decide)
  have hxx : x * x ≤ 4000000000000000000 := Nat.le_trans (Nat.mul_le_mul hx hx) (by decide)
  refine zaf (ψ := fun o' => ∃ k : Nat, o' = (k : Int) ∧ k < m ∧ k * (x * x) ^ (y / 2) % m = a ^ e % m) ?_ ?_
  ·simp only [zvu (show y ≤ 9223372036854775807 by omega)]
   refine zaj (fun h1 => zam (by omega) (zab ⟨o * x % m, ?_, Nat.mod_lt _ (by omega), ?_⟩)) fun h1 => zab ⟨o, rfl, ho, ?_⟩
   ·rw [zf0, zaz (by omega) (by omega), zcU]
   ·have h1 : y % 2 = 1 := by
     have : ((y % 2 : Nat) : Int) = 1 := by simpa using h1
     omega
    rw [Nat.mod_mul_mod, ← hi, ← Nat.pow_two, ← Nat.pow_mul, Nat.mul_assoc, ← Nat.pow_succ']
    congr 3; omega
   have h1 : y % 2 = 0 := by
    have : ¬ ((y % 2 : Nat) : Int) = 1 := by simpa using h1
    omega
   rw [← hi, ← Nat.pow_two, ← Nat.pow_mul]
   congr 3; omega
  rintro o' ⟨k, rfl, hk, hk2⟩
  refine zam (by omega) (zab ⟨⟨x * x % m, y / 2, k, ?_, by have := Nat.mod_lt (x * x) (show 0 < m by omega); omega, by omega, hk, ?_⟩, ?_⟩)
  ·rw [zf0, zaz (by omega) (by omega), zcU]
   have e3 : (y : Int).fdiv 2 = ((y / 2 : Nat) : Int) := by rw [Int.fdiv_eq_ediv_of_nonneg _ (by omega)]; rfl
   show (_, (y : Int).fdiv 2, _) = _
   rw [e3]
  ·rw [Nat.mul_mod, ← Nat.pow_mod, ← Nat.mul_mod]
   exact hk2
  show ((y : Int).fdiv 2).toNat < (y : Int).toNat
  rw [Int.fdiv_eq_ediv_of_nonneg _ (by omega)]
  omega
 have h0 : y = 0 := by
  have : ¬ (0 < y) := by simpa using h0
  omega
 subst h0
 refine zab ?_
 show (o : Int) = _
 rw [Nat.pow_zero, Nat.mul_one, Nat.mod_eq_of_lt ho] at hi
 rw [hi]
theorem zum {a e m : Nat} (ha : a ≤ 2000000000) (hm : 1 ≤ m) (hm2 : m ≤ 2000000000) (he : e ≤ 9223372036854775807) : zbw (a : Int) (e : Int) (m : Int) = some ((a ^ e % m : Nat) : Int) := by
 unfold zbw
 refine zau (zam (by omega) (zaf (φ := (· = ((a ^ e % m : Nat) : Int))) (zfm (φ := (· = ((a ^ e % m : Nat) : Int))) (fun s => ∃ x y o : Nat, s = ((x : Int), (y : Int), (o : Int)) ∧ x ≤ 2000000000 ∧ y ≤ e ∧ o < m ∧ o * x ^ y % m = a ^ e % m) (fun s => s.2.1.toNat)
  ⟨a, e, 1 % m, by rw [show (1 : Int) = ((1 : Nat) : Int) from rfl, zcU], ha, Nat.le_refl _, Nat.mod_lt _ (by omega), by rw [Nat.mod_mul_mod, Nat.one_mul]⟩ ?_) fun x hx => zab hx))
 rintro s ⟨x, y, o, rfl, hx, hy, ho, hi⟩
 refine zaj (fun h0 => ?_) fun h0 => ?_
 ·have h0 : 0 < y := by simpa using h0
  have hox : o * x ≤ 4000000000000000000 := Nat.le_trans (Nat.mul_le_mul (show o ≤ 2000000000 by omega) hx) (by decide)
  have hxx : x * x ≤ 4000000000000000000 := Nat.le_trans (Nat.mul_le_mul hx hx) (by decide)
  have e2 : (y : Int).tmod 2 = ((y % 2 : Nat) : Int) := zcU y 2
  refine zaf (ψ := fun o' => ∃ k : Nat, o' = (k : Int) ∧ k < m ∧ k * (x * x) ^ (y / 2) % m = a ^ e % m) ?_ ?_
  ·simp only [e2]
   refine zaj (fun h1 => zam (by omega) (zab ⟨o * x % m, ?_, Nat.mod_lt _ (by omega), ?_⟩)) fun h1 => zab ⟨o, rfl, ho, ?_⟩
   ·rw [zf0, zaz (by omega) (by omega), zcU]
   ·have h1 : y % 2 = 1 := by
     have : ((y % 2 : Nat) : Int) = 1 := by simpa using h1
     omega
    rw [Nat.mod_mul_mod, ← hi, ← Nat.pow_two, ← Nat.pow_mul, Nat.mul_assoc, ← Nat.pow_succ']
    congr 3; omega
   have h1 : y % 2 = 0 := by
    have : ¬ ((y % 2 : Nat) : Int) = 1 := by simpa using h1
    omega
   rw [← hi, ← Nat.pow_two, ← Nat.pow_mul]
   congr 3; omega
  rintro o' ⟨k, rfl, hk, hk2⟩
  have e3 : (y : Int).tdiv 2 = ((y / 2 : Nat) : Int) := zsR y 2
  refine zam (by omega) (zab ⟨⟨x * x % m, y / 2, k, ?_, by have := Nat.mod_lt (x * x) (show 0 < m by omega); omega, by omega, hk, ?_⟩, ?_⟩)
  ·simp only [e3]
   rw [zf0, zaz (n := ((x * x : Nat) : Int)) (by omega) (by omega), zcU, zaz (n := ((y / 2 : Nat) : Int)) (by omega) (by omega)]
  ·rw [Nat.mul_mod, ← Nat.pow_mod, ← Nat.mul_mod]
   exact hk2
  show (IntKind.i64.wrap ((y : Int).tdiv 2)).toNat < (y : Int).toNat
  rw [e3, zaz (by omega) (by omega)]
  omega
 have h0 : y = 0 := by
  have : ¬ (0 < y) := by simpa using h0
  omega
 subst h0
 refine zab ?_
 show (o : Int) = _
 rw [Nat.pow_zero, Nat.mul_one, Nat.mod_eq_of_lt ho] at hi
 rw [hi]
theorem zu9 {a q : Int} (h0 : 0 < q) (h1 : q ≤ 2000000000) : zgf a q = some (a % q) := by
 unfold zgf
 rw [zdV (by omega), zdV (by omega)]
 have b1 : a.tmod q < q := Int.tmod_lt_of_pos a h0
 have b2 : -q < a.tmod q := by
  have := Int.lt_tmod_of_pos a h0
  omega
 rw [zaz (by omega) (by omega), Int.tmod_eq_emod_of_nonneg (by omega)]
 congr 1
 rw [Int.add_emod_right]
 rw [Int.tmod_def, Int.sub_emod, Int.mul_emod_right, Int.sub_zero, Int.emod_emod]
theorem zpv {a q : Int} (h0 : 0 < q) (h1 : q ≤ 2000000000) : zem a q = some (a % q) := by
 unfold zem
 rw [zdV (by omega), zdV (by omega)]
 have b1 : a.tmod q < q := Int.tmod_lt_of_pos a h0
 have b2 : -q < a.tmod q := by
  have := Int.lt_tmod_of_pos a h0
  omega
 rw [zaz (by omega) (by omega), Int.tmod_eq_emod_of_nonneg (by omega)]
 congr 1
 rw [Int.add_emod_right]
 rw [Int.tmod_def, Int.sub_emod, Int.mul_emod_right, Int.sub_zero, Int.emod_emod]
def Pr (n : Nat) : Prop := 2 ≤ n ∧ ∀ d, 2 ≤ d → d * d ≤ n → n % d ≠ 0
open Classical in
noncomputable def prB (n : Int) : Bool := decide (Pr n.toNat)
theorem zfP {n : Nat} : prB (n : Int) = true ↔ Pr n := by simp [prB]
theorem zkd (n : Int) (h : n ≤ 2000000000) : zdG n = some (prB n) := by
 unfold zdG
 refine zau (zaj (fun h0 => zab ?_) fun h0 => ?_)
 ·have h0 : n < 2 := by simpa using h0
  symm
  unfold prB
  rw [decide_eq_false_iff_not]
  intro hp
  have := hp.1
  omega
 have h0 : ¬ n < 2 := by simpa using h0
 obtain ⟨n, rfl⟩ := Int.eq_ofNat_of_zero_le (show 0 ≤ n by omega)
 refine zaf (ψ := fun b => (b = .inl () ∧ Pr n) ∨ (b = .inr false ∧ ¬ Pr n)) (zfm (fun s => ∃ d : Nat, s = (d : Int) ∧ 2 ≤ d ∧ d ≤ 44723 ∧ ∀ k, 2 ≤ k → k < d → k * k ≤ n → n % k ≠ 0) (fun s => 50000 - s.toNat) ⟨2, rfl, by omega, by omega, fun k h1 h2 => by omega⟩ ?_) ?_
 ·rintro s ⟨d, rfl, hd, hd2, hi⟩
  have hdd : d * d ≤ 2000146729 := Nat.le_trans (Nat.mul_le_mul hd2 hd2) (by decide)
  rw [zf0, zaz (by omega) (by omega)]
  refine zaj (fun h1 => zam (by omega) (zaj (fun h2 => zab (.inr ⟨rfl, ?_⟩)) fun h2 => zab ?_)) fun h1 => zab (.inl ⟨rfl, by omega, fun k hk hkn => ?_⟩)
  ·have h1 : d * d ≤ n := by have := of_decide_eq_true h1; omega
   rw [zcU] at h2
   have h2 : n % d = 0 := by have : ((n % d : Nat) : Int) = 0 := by simpa using h2
                             omega
   exact fun hp => hp.2 d hd h1 h2
  ·have h1 : d * d ≤ n := by have := of_decide_eq_true h1; omega
   rw [zcU] at h2
   have h2 : n % d ≠ 0 := by have : ¬ ((n % d : Nat) : Int) = 0 := by simpa using h2
                             omega
   have hd3 : d ≤ 44722 := by
    rcases Nat.lt_or_ge d 44723 with h | h
    ·omega
    ·have : 44723 * 44723 ≤ d * d := Nat.mul_le_mul h h
     omega
   rw [zaz (by omega) (by omega)]
   refine ⟨⟨d + 1, rfl, by omega, by omega, fun k h3 h4 h5 => ?_⟩, by omega⟩
   rcases Nat.lt_or_ge k d with h | h
   ·exact hi k h3 h h5
   have : k = d := by omega
   subst this
   exact h2
  have h1 : n < d * d := by have := of_decide_eq_false h1; omega
  rcases Nat.lt_or_ge k d with h | h
  ·exact hi k hk h hkn
  have := Nat.mul_le_mul h h
  omega
 rintro b (⟨rfl, hp⟩ | ⟨rfl, hp⟩)
 ·exact zab (zfP.2 hp).symm
 refine zab ?_
 symm
 unfold prB
 rw [decide_eq_false_iff_not]
 exact hp
theorem znT (n : Int) : zer n = some (decide (n ≤ 2000000000) && prB n) := by
 unfold zer
 by_cases h : 2 ≤ n ∧ n ≤ 2000000000
 ·obtain ⟨n, rfl⟩ := Int.eq_ofNat_of_zero_le (show 0 ≤ n by omega)
  have e2 : ((n : Int)).tmod 2 = ((n % 2 : Nat) : Int) := zcU n 2
  have em : (decide (2 ≤ (n : Int)) && decide ((n : Int) ≤ 2000000000)) = true := by simp only [Bool.and_eq_true, decide_eq_true_eq]; exact h
  rw [show (decide ((n : Int) ≤ 2000000000) && prB (n : Int)) = prB (n : Int) by simp [h.2]]
  refine zau (zaf (ψ := fun b => b = decide (n % 2 = 0 ∧ n ≠ 2)) (zac (zlH _) ?_) ?_)
  ·rw [em]
   refine zcP rfl ?_
   rw [e2]
   refine zaj (fun h1 => zab ?_) fun h1 => zab ?_
   ·have h1 : n % 2 = 0 := by have : ((n % 2 : Nat) : Int) = 0 := by simpa using h1
                              omega
    have : ((n : Int) != 2) = decide (n ≠ 2) := by
     by_cases hn : n = 2
     ·subst hn; rfl
     ·have hn' : ¬ (n : Int) = 2 := by omega
      simp [hn, hn']
    rw [this]; simp [h1]
   have h1 : n % 2 ≠ 0 := by have : ¬ ((n % 2 : Nat) : Int) = 0 := by simpa using h1
                             omega
   simp [h1]
  rintro b rfl
  refine zaj (fun h1 => zab ?_) fun h1 => ?_
  ·have h1 := of_decide_eq_true h1
   symm
   unfold prB
   rw [decide_eq_false_iff_not]
   intro hp
   have hn : 4 ≤ n := by omega
   exact hp.2 2 (by omega) hn h1.1
  have h1 := of_decide_eq_false h1
  refine zaf (ψ := fun b => (b = .inl () ∧ Pr n) ∨ (b = .inr false ∧ ¬ Pr n)) (zfm (fun s => ∃ d : Nat, s = (d : Int) ∧ 3 ≤ d ∧ d % 2 = 1 ∧ d ≤ 44725 ∧ ∀ k, 2 ≤ k → k < d → k * k ≤ n → n % k ≠ 0) (fun s => 50000 - s.toNat) ⟨3, rfl, by omega, by omega, by omega, fun k h2 h3 h4 => ?_⟩ ?_) ?_
  ·have : k = 2 := by omega
   subst this
   intro h5
   exact h1 ⟨h5, by omega⟩
  ·rintro s ⟨d, rfl, hd, hodd, hd2, hi⟩
   have hdd : d * d ≤ 2000325625 := Nat.le_trans (Nat.mul_le_mul hd2 hd2) (by decide)
   rw [zf0, zaz (by omega) (by omega)]
   refine zaj (fun h1 => zam (by omega) (zaj (fun h2 => zab (.inr ⟨rfl, ?_⟩)) fun h2 => zab ?_)) fun h1 => zab (.inl ⟨rfl, by omega, fun k hk hkn => ?_⟩)
   ·have h1 : d * d ≤ n := by have := of_decide_eq_true h1; omega
    rw [zcU] at h2
    have h2 : n % d = 0 := by have : ((n % d : Nat) : Int) = 0 := by simpa using h2
                              omega
    exact fun hp => hp.2 d (by omega) h1 h2
   ·have h3 : d * d ≤ n := by have := of_decide_eq_true h1; omega
    rw [zcU] at h2
    have h2 : n % d ≠ 0 := by have : ¬ ((n % d : Nat) : Int) = 0 := by simpa using h2
                              omega
    have hd3 : d ≤ 44722 := by
     rcases Nat.lt_or_ge d 44723 with h | h
     ·omega
     ·have : 44723 * 44723 ≤ d * d := Nat.mul_le_mul h h
      omega
    rw [zaz (by omega) (by omega)]
    refine ⟨⟨d + 2, rfl, by omega, by omega, by omega, fun k h4 h5 h6 h7 => ?_⟩, by omega⟩
    rcases Nat.lt_or_ge k d with h | h
    ·exact hi k h4 h h6 h7
    rcases (show k = d ∨ k = d + 1 by omega) with e | e
    ·subst e; exact h2 h7
    have h8 : n % 2 = 0 := by
     have a1 : k ∣ n := Nat.dvd_of_mod_eq_zero h7
     have a2 : 2 ∣ k := Nat.dvd_of_mod_eq_zero (by omega)
     exact Nat.mod_eq_zero_of_dvd (Nat.dvd_trans a2 a1)
    have h9 : 2 * 2 ≤ n := by
     have := Nat.mul_le_mul h4 h4
     omega
    exact hi 2 (by omega) (by omega) h9 h8
   have h1 : n < d * d := by have := of_decide_eq_false h1; omega
   rcases Nat.lt_or_ge k d with h | h
   ·exact hi k hk h hkn
   have := Nat.mul_le_mul h h
   omega
  rintro b (⟨rfl, hp⟩ | ⟨rfl, hp⟩)
  ·exact zab (zfP.2 hp).symm
  refine zab ?_
  symm
  unfold prB
  rw [decide_eq_false_iff_not]
  exact hp
 have em : (decide (2 ≤ n) && decide (n ≤ 2000000000)) = false := by
  rw [Bool.and_eq_false_iff, decide_eq_false_iff_not, decide_eq_false_iff_not]; omega
 rw [zlH, em]
 simp only [Option.bind_some, Bool.not_false, if_true]
 congr 1
 symm
 rw [Bool.and_eq_false_iff, decide_eq_false_iff_not]
 by_cases hn : n ≤ 2000000000
 ·right
  unfold prB
  rw [decide_eq_false_iff_not]
  intro hp
  have := hp.1
  omega
 exact .inl hn
structure OkG (gr : Group) : Prop where
 p : 3 ≤ gr.P ∧ gr.P ≤ 2000000000
 q : 2 ≤ gr.Q ∧ gr.Q ≤ gr.P - 1
 d : (gr.P.toNat - 1) % gr.Q.toNat = 0
 g : 2 ≤ gr.G ∧ gr.G ≤ gr.P - 1
 pp : Pr gr.P.toNat
 pq : Pr gr.Q.toNat
 o : gr.G.toNat ^ gr.Q.toNat % gr.P.toNat = 1
open Classical in
noncomputable def okG (gr : Group) : Bool := decide (OkG gr)
theorem zls {gr : Group} : okG gr = true ↔ OkG gr := by simp [okG]
theorem zft {gr : Group} (h : ¬ OkG gr) : okG gr = false := by simp [okG, h]
theorem zti {gr : Group} {b : Bool} (h1 : b = true → OkG gr) (h2 : OkG gr → b = true) : b = okG gr := by
 cases hb : b with
 | true => exact (zls.2 (h1 hb)).symm
 | false => exact (zft fun h => by rw [h2 h] at hb; cases hb).symm
theorem zdU {a : Int} (h : 0 ≤ a) : a = ((a.toNat : Nat) : Int) := by omega
theorem zfY {a e m : Int} (ha : 0 ≤ a) (ha2 : a ≤ 2000000000) (hm : 1 ≤ m) (hm2 : m ≤ 2000000000) (he : 0 ≤ e) (he2 : e ≤ 9223372036854775807) : zc7 a e m = some ((a.toNat ^ e.toNat % m.toNat : Nat) : Int) ∧ zbw a e m = some ((a.toNat ^ e.toNat % m.toNat : Nat) : Int) := by
 have h1 := zv3 (a := a.toNat) (e := e.toNat) (m := m.toNat) (by omega) (by omega) (by omega) (by omega)
 have h2 := zum (a := a.toNat) (e := e.toNat) (m := m.toNat) (by omega) (by omega) (by omega) (by omega)
 rw [← zdU ha, ← zdU he, ← zdU (show 0 ≤ m by omega)] at h1 h2
 exact ⟨h1, h2⟩
theorem ziQ {a b : Bool} : (a && b) = true ↔ a = true ∧ b = true := by simp
theorem zj7 (gr : Group) : zcp gr = some (okG gr) := by
 unfold zcp
 refine zau (zaf (ψ := fun b => b = okG gr) ?_ fun b hb => zab hb)
 refine zac (zet _ _ _) (zaj (fun h => ?_) fun h => ?_)
 ·have hp : 3 ≤ gr.P ∧ gr.P ≤ 2000000000 := by simpa using h
  rw [zaz (n := gr.P - 1) (by omega) (by omega)]
  refine zac (zet _ _ _) (zaj (fun h => ?_) fun h => ?_)
  ·have hq : 2 ≤ gr.Q ∧ gr.Q ≤ gr.P - 1 := by simpa using h
   have ed : (gr.P - 1).tmod gr.Q = (((gr.P.toNat - 1) % gr.Q.toNat : Nat) : Int) := by
    rw [zdU (show 0 ≤ gr.P - 1 by omega), zdU (show 0 ≤ gr.Q by omega), zcU]
    simp only [Int.toNat_natCast]
    congr 2; omega
   refine zam (by omega) ?_
   rw [ed]
   refine zaj (fun h => ?_) fun h => ?_
   ·have hd : (gr.P.toNat - 1) % gr.Q.toNat = 0 := by
     have : (((gr.P.toNat - 1) % gr.Q.toNat : Nat) : Int) = 0 := by simpa using h
     omega
    refine zac (zet _ _ _) (zaj (fun h => ?_) fun h => ?_)
    ·have hg : 2 ≤ gr.G ∧ gr.G ≤ gr.P - 1 := by simpa using h
     refine zac (znT _) (zaj (fun h => ?_) fun h => ?_)
     ·have hpp : Pr gr.P.toNat := by
       rw [ziQ, zdU (show 0 ≤ gr.P by omega), zfP] at h
       exact h.2
      refine zac (znT _) (zaj (fun h => ?_) fun h => ?_)
      ·have hpq : Pr gr.Q.toNat := by
        rw [ziQ, zdU (show 0 ≤ gr.Q by omega), zfP] at h
        exact h.2
       refine zac (zfY (a := gr.G) (e := gr.Q) (m := gr.P) (by omega) (by omega) (by omega) (by omega) (by omega) (by omega)).1 (zab (zti (fun h => ⟨hp, hq, hd, hg, hpp, hpq, ?_⟩) fun h => ?_))
       ·have : ((gr.G.toNat ^ gr.Q.toNat % gr.P.toNat : Nat) : Int) = 1 := by simpa using h
        omega
       rw [h.o]; rfl
      refine zab (zft fun hk => ?_).symm
      have : (decide (gr.Q ≤ 2000000000) && prB gr.Q) = true := by
       rw [ziQ, zdU (show 0 ≤ gr.Q by omega), zfP]
       exact ⟨by simp; omega, hk.pq⟩
      rw [this] at h; cases h
     refine zab (zft fun hk => ?_).symm
     have : (decide (gr.P ≤ 2000000000) && prB gr.P) = true := by
      rw [ziQ, zdU (show 0 ≤ gr.P by omega), zfP]
      exact ⟨by simp; omega, hk.pp⟩
     rw [this] at h; cases h
    refine zab (zft fun hk => ?_).symm
    have := hk.g
    simp at h; omega
   refine zab (zft fun hk => ?_).symm
   rw [hk.d] at h; cases h
  refine zab (zft fun hk => ?_).symm
  have := hk.q
  simp at h; omega
 refine zab (zft fun hk => ?_).symm
 have := hk.p
 simp at h; omega
theorem ziu (gr : Group) : zdF gr = some (okG gr) := by
 unfold zdF
 refine zau (zaf (ψ := fun b => b = okG gr) ?_ fun b hb => zab hb)
 refine zac (zgl _ _ _) (zaj (fun h => ?_) fun h => ?_)
 ·have hp : 3 ≤ gr.P ∧ gr.P ≤ 2000000000 := by simpa using h
  rw [zaz (n := gr.P - 1) (by omega) (by omega)]
  refine zac (zgl _ _ _) (zaj (fun h => ?_) fun h => ?_)
  ·have hq : 2 ≤ gr.Q ∧ gr.Q ≤ gr.P - 1 := by simpa using h
   have ed : (gr.P - 1).tmod gr.Q = (((gr.P.toNat - 1) % gr.Q.toNat : Nat) : Int) := by
    rw [zdU (show 0 ≤ gr.P - 1 by omega), zdU (show 0 ≤ gr.Q by omega), zcU]
    simp only [Int.toNat_natCast]
    congr 2; omega
   refine zam (by omega) ?_
   rw [ed]
   refine zaj (fun h => ?_) fun h => ?_
   ·have hd : (gr.P.toNat - 1) % gr.Q.toNat = 0 := by
     have : (((gr.P.toNat - 1) % gr.Q.toNat : Nat) : Int) = 0 := by simpa using h
     omega
    refine zac (zgl _ _ _) (zaj (fun h => ?_) fun h => ?_)
    ·have hg : 2 ≤ gr.G ∧ gr.G ≤ gr.P - 1 := by simpa using h
     refine zac (zfY (a := gr.G) (e := gr.Q) (m := gr.P) (by omega) (by omega) (by omega) (by omega) (by omega) (by omega)).2 (zaj (fun h => ?_) fun h => ?_)
     ·have ho : gr.G.toNat ^ gr.Q.toNat % gr.P.toNat = 1 := by
       have : ((gr.G.toNat ^ gr.Q.toNat % gr.P.toNat : Nat) : Int) = 1 := by simpa using h
       omega
      refine zac (zkd _ (by omega)) (zaj (fun h => ?_) fun h => ?_)
      ·have hpq : Pr gr.Q.toNat := by
        rw [zdU (show 0 ≤ gr.Q by omega), zfP] at h
        exact h
       refine zac (zkd _ (by omega)) (zab (zti (fun h => ⟨hp, hq, hd, hg, ?_, hpq, ho⟩) fun h => ?_))
       ·rw [zdU (show 0 ≤ gr.P by omega), zfP] at h
        exact h
       rw [zdU (show 0 ≤ gr.P by omega), zfP]
       exact h.pp
      refine zab (zft fun hk => ?_).symm
      have : prB gr.Q = true := by
       rw [zdU (show 0 ≤ gr.Q by omega), zfP]
       exact hk.pq
      rw [this] at h; cases h
     refine zab (zft fun hk => ?_).symm
     rw [hk.o] at h; cases h
    refine zab (zft fun hk => ?_).symm
    have := hk.g
    simp at h; omega
   refine zab (zft fun hk => ?_).symm
   rw [hk.d] at h; cases h
  refine zab (zft fun hk => ?_).symm
  have := hk.q
  simp at h; omega
 refine zab (zft fun hk => ?_).symm
 have := hk.p
 simp at h; omega
def zaw (gr : Group) (x : Int) : Bool := decide (1 ≤ x) && decide (x ≤ gr.P - 1) && decide (x.toNat ^ gr.Q.toNat % gr.P.toNat = 1)
def zez (gr : Group) (x : Int) : Bool := decide (0 ≤ x) && decide (x ≤ gr.Q - 1)
theorem zon {gr : Group} (k : OkG gr) (x : Int) : zcD gr x = some (zaw gr x) := by
 have hp := k.p
 have hq := k.q
 unfold zcD zaw
 rw [zaz (n := gr.P - 1) (by omega) (by omega), zet]
 refine zau (zaf (ψ := fun b => b = _) ?_ fun b hb => zab hb)
 refine zac rfl (zaj (fun h => ?_) fun h => ?_)
 ·have hx : 1 ≤ x ∧ x ≤ gr.P - 1 := by simpa using h
  refine zac (zfY (a := x) (e := gr.Q) (m := gr.P) (by omega) (by omega) (by omega) (by omega) (by omega) (by omega)).1 (zab ?_)
  rw [h, Bool.true_and]
  by_cases h1 : x.toNat ^ gr.Q.toNat % gr.P.toNat = 1
  ·simp [h1]
  have : ¬ ((x.toNat ^ gr.Q.toNat % gr.P.toNat : Nat) : Int) = 1 := by omega
  rw [beq_false_of_ne this, decide_eq_false h1]
 rw [h]; exact zab rfl
theorem zmA {gr : Group} (k : OkG gr) (l : List Int) : zdZ gr l = some (l.all (zaw gr)) := by
 have hp := k.p
 have hq := k.q
 unfold zdZ
 rw [zaz (n := gr.P - 1) (by omega) (by omega)]
 refine zau (zaf (ψ := fun b => (b = .inl () ∧ l.all (zaw gr) = true) ∨ (b = .inr false ∧ l.all (zaw gr) = false)) (zaV (fun i s => (l.take i).all (zaw gr) = true) rfl ?_ ?_) ?_)
 ·rintro i s hi hI
  refine zav hi (zaf (ψ := fun b => b = !zaw gr l[i]) ?_ ?_)
  ·refine zac (zgl _ _ _) (zaj (fun h => zab ?_) fun h => ?_)
   ·have h : (decide (1 ≤ l[i]) && decide (l[i] ≤ gr.P - 1)) = false := by rwa [Bool.not_eq_true'] at h
    simp [zaw, h]
   have h : (decide (1 ≤ l[i]) && decide (l[i] ≤ gr.P - 1)) = true := by simpa using h
   have hx : 1 ≤ l[i] ∧ l[i] ≤ gr.P - 1 := by simpa using h
   refine zac (zfY (a := l[i]) (e := gr.Q) (m := gr.P) (by omega) (by omega) (by omega) (by omega) (by omega) (by omega)).2 (zab ?_)
   simp only [zaw, h, Bool.true_and]
   by_cases h1 : l[i].toNat ^ gr.Q.toNat % gr.P.toNat = 1
   ·simp [h1]
   have : ¬ ((l[i].toNat ^ gr.Q.toNat % gr.P.toNat : Nat) : Int) = 1 := by omega
   simp only [bne, beq_false_of_ne this, decide_eq_false h1]
  rintro b rfl
  refine zaj (fun h => zab (.inr ⟨rfl, ?_⟩)) fun h => zab ?_
  ·have h : zaw gr l[i] = false := by simpa using h
   rw [List.all_eq_false]
   exact ⟨l[i], List.getElem_mem hi, by simp [h]⟩
  have h : zaw gr l[i] = true := by simpa using h
  show (l.take (i + 1)).all (zaw gr) = true
  rw [List.take_succ_eq_append_getElem hi, List.all_append, hI]
  simp [h]
 ·rintro s hI
  rw [List.take_length] at hI
  exact .inl ⟨rfl, hI⟩
 rintro b (⟨rfl, h⟩ | ⟨rfl, h⟩)
 ·exact zab h.symm
 exact zab h.symm
theorem zqA (l : List Int) (a b : Int) : ze3 l a b = some (l.all fun x => decide (a ≤ x) && decide (x ≤ b)) := by
 unfold ze3
 refine zau (zaf (ψ := fun c => (c = .inl () ∧ (l.all fun x => decide (a ≤ x) && decide (x ≤ b)) = true) ∨ (c = .inr false ∧ (l.all fun x => decide (a ≤ x) && decide (x ≤ b)) = false)) (zaV (fun i s => ((l.take i).all fun x => decide (a ≤ x) && decide (x ≤ b)) = true) rfl ?_ ?_) ?_)
 ·rintro i s hi hI
  refine zav hi (zac (zgl _ _ _) (zaj (fun h => zab (.inr ⟨rfl, ?_⟩)) fun h => zab ?_))
  ·rw [List.all_eq_false]
   exact ⟨l[i], List.getElem_mem hi, by rw [Bool.not_eq_true'] at h; rw [h]; simp⟩
  show ((l.take (i + 1)).all fun x => decide (a ≤ x) && decide (x ≤ b)) = true
  rw [List.take_succ_eq_append_getElem hi, List.all_append, hI]
  simpa using h
 ·rintro s hI
  rw [List.take_length] at hI
  exact .inl ⟨rfl, hI⟩
 rintro c (⟨rfl, h⟩ | ⟨rfl, h⟩)
 ·exact zab h.symm
 exact zab h.symm
theorem zjp {gr : Group} (h : 0 ≤ gr.Q) (h2 : gr.Q ≤ 2000000000) (l : List Int) : zdw gr l = some (l.all (zez gr)) := by
 unfold zdw
 rw [zaz (by omega) (by omega), zqA]; rfl
theorem zwa {gr : Group} (h : 0 ≤ gr.Q) (h2 : gr.Q ≤ 2000000000) (x : Int) : zd1 gr x = some (zez gr x) := by
 unfold zd1
 rw [zaz (by omega) (by omega), zet]; rfl
def zaJ (gr : Group) (x e : Int) : Int := ((x.toNat ^ (e % gr.Q).toNat % gr.P.toNat : Nat) : Int)
theorem zjw {gr : Group} (k : OkG gr) (x e : Int) : 0 ≤ zaJ gr x e ∧ zaJ gr x e ≤ gr.P - 1 := by
 have hp := k.p
 unfold zaJ
 have := Nat.mod_lt (x.toNat ^ (e % gr.Q).toNat) (y := gr.P.toNat) (by omega)
 omega
theorem zlk {gr : Group} (k : OkG gr) {x : Int} (h0 : 0 ≤ x) (h1 : x ≤ 2000000000) (e : Int) : zai gr x e = some (zaJ gr x e) ∧ zaq gr x e = some (zaJ gr x e) := by
 have hp := k.p
 have hq := k.q
 have b1 : 0 ≤ e % gr.Q := Int.emod_nonneg _ (by omega)
 have b2 : e % gr.Q < gr.Q := Int.emod_lt_of_pos _ (by omega)
 have hw := zfY (a := x) (e := e % gr.Q) (m := gr.P) (by omega) (by omega) (by omega) (by omega) b1 (by omega)
 unfold zai zaq
 rw [zu9 (by omega) (by omega), zpv (by omega) (by omega), Option.bind_some, Option.bind_some, hw.1, hw.2]
 exact ⟨rfl, rfl⟩
theorem zwF {gr : Group} (k : OkG gr) {x : Int} (h0 : 0 ≤ x) (h1 : x ≤ 2000000000) (e : Int) : zaq gr x e = some (zaJ gr x e) := by
 have hp := k.p
 have hq := k.q
 have b1 : 0 ≤ e % gr.Q := Int.emod_nonneg _ (by omega)
 have b2 : e % gr.Q < gr.Q := Int.emod_lt_of_pos _ (by omega)
 have hw := zfY (a := x) (e := e % gr.Q) (m := gr.P) (by omega) (by omega) (by omega) (by omega) b1 (by omega)
 unfold zaq
 rw [zpv (by omega) (by omega), Option.bind_some, hw.2]
 rfl
def zbc (gr : Group) (l : List Int) : Int := l.foldl (fun o x => o * x % gr.P) 1
theorem zpk {gr : Group} (h : 1 ≤ gr.P) : ∀ (l : List Int) (o : Int), 0 ≤ o → o ≤ gr.P → (∀ x ∈ l, 0 ≤ x) → 0 ≤ l.foldl (fun o x => o * x % gr.P) o ∧ l.foldl (fun o x => o * x % gr.P) o ≤ gr.P := by
 intro l
 induction l with
 | nil => intro o h0 h1 _; exact ⟨h0, h1⟩
 | cons x l ih =>
  intro o h0 h1 h2
  exact ih _ (Int.emod_nonneg _ (by omega)) (Int.le_of_lt (Int.emod_lt_of_pos (o * x) (show 0 < gr.P by omega))) fun y hy => h2 y (List.mem_cons_of_mem _ hy)
theorem zyk (gr : Group) (l : List Int) : zaP gr l = zan gr l := rfl
theorem zjY {gr : Group} (k : OkG gr) {l : List Int} (hl : ∀ x ∈ l, 0 ≤ x ∧ x ≤ 2000000000) : zan gr l = some (zbc gr l) := by
 have hp := k.p
 unfold zan
 refine zau (zaf (ψ := fun b => b = zbc gr l) (zaV (fun i s => s = (l.take i).foldl (fun o x => o * x % gr.P) 1) rfl ?_ ?_) fun b hb => zab hb)
 ·rintro i s hi rfl
  have hb := zpk (gr := gr) (by omega) (l.take i) 1 (by omega) (by omega) fun x hx => (hl x (List.mem_of_mem_take hx)).1
  have hx := hl l[i] (List.getElem_mem hi)
  refine zav hi (zam (by omega) (zab ?_))
  show _ = (l.take (i + 1)).foldl _ _
  rw [List.take_succ_eq_append_getElem hi, List.foldl_append]
  generalize (l.take i).foldl (fun o x => o * x % gr.P) 1 = o at hb ⊢
  have b1 : 0 ≤ o * l[i] := Int.mul_nonneg hb.1 hx.1
  have b2 : o * l[i] ≤ 2000000000 * 2000000000 := Int.mul_le_mul (by omega) hx.2 hx.1 (by omega)
  show (IntKind.i64.wrap (o * l[i])).tmod gr.P = o * l[i] % gr.P
  rw [zaz (by omega) (by omega), Int.tmod_eq_emod_of_nonneg b1]
 rintro s rfl
 rw [List.take_length]; rfl
theorem zmX {gr : Group} (k : OkG gr) {l : List Int} (hl : ∀ x ∈ l, 0 ≤ x ∧ x ≤ 2000000000) : zaP gr l = some (zbc gr l) := by rw [zyk]; exact zjY k hl
theorem zvQ {gr : Group} (k : OkG gr) {l : List Int} (hl : ∀ x ∈ l, 0 ≤ x ∧ x ≤ 2000000000) : 0 ≤ zbc gr l ∧ zbc gr l ≤ gr.P := by
 have hp := k.p
 exact zpk (by omega) l 1 (by omega) (by omega) fun x hx => (hl x hx).1
theorem zka {gr : Group} (k : OkG gr) (l : List Int) : zbW gr l = some (l.all (zaw gr)) := by
 unfold zbW zcx zaS zaU
 refine zau (zaf (ψ := fun b => b = l.all (zaw gr)) (zaf (ψ := fun b => b = !l.all (zaw gr)) (zaf (ψ := fun j => (j = -1 ∧ l.all (zaw gr) = true) ∨ (0 ≤ j ∧ l.all (zaw gr) = false)) (zaf (ψ := fun b => (b = .inl () ∧ l.all (zaw gr) = true) ∨ (∃ j, b = .inr j ∧ 0 ≤ j ∧ l.all (zaw gr) = false)) (zaV (fun i s => (l.take i).all (zaw gr) = true) rfl ?_ ?_) ?_) ?_) ?_) ?_)
 ·rintro i s hi hI
  have hc : zbN l[i] gr = some (!zaw gr l[i]) := by
   unfold zbN
   rw [zon k]; rfl
  refine zav hi (zac hc (zaj (fun h => zab (.inr ⟨i, rfl, by omega, ?_⟩)) fun h => zab ?_))
  ·rw [List.all_eq_false]
   exact ⟨l[i], List.getElem_mem hi, by rw [Bool.not_eq_true'] at h; rw [h]; simp⟩
  show (l.take (i + 1)).all (zaw gr) = true
  rw [List.take_succ_eq_append_getElem hi, List.all_append, hI]
  simpa using h
 ·rintro s hI
  rw [List.take_length] at hI
  exact .inl ⟨rfl, hI⟩
 ·rintro b (⟨rfl, h⟩ | ⟨j, rfl, h0, h⟩)
  ·exact zab (.inl ⟨rfl, h⟩)
  exact zab (.inr ⟨h0, h⟩)
 ·rintro j (⟨rfl, h⟩ | ⟨h0, h⟩)
  ·exact zab (by rw [h]; rfl)
  exact zab (by rw [h]; simpa using h0)
 ·rintro b rfl
  exact zab (by simp)
 rintro b rfl
 exact zab rfl
theorem zf2 {gr : Group} {x : Int} (h : zaw gr x = true) : 1 ≤ x ∧ x ≤ gr.P - 1 := by
 simp only [zaw, Bool.and_eq_true, decide_eq_true_eq] at h
 exact h.1
theorem zn4 {gr : Group} (k : OkG gr) {y m : Int} (hy : zaw gr y = true) (hm : zaw gr m = true) (r : Int) :
 zdx gr y m r = some (Cipher.mk (zaJ gr gr.G r) (zbc gr [m, zaJ gr y r])) ∧ zgn gr y m r = some (Cipher.mk (zaJ gr gr.G r) (zbc gr [m, zaJ gr y r])) := by
 have hp := k.p
 have hg := k.g
 have b1 := zf2 hy
 have b2 := zf2 hm
 have e1 := zlk k (x := gr.G) (by omega) (by omega) r
 have e2 := zlk k (x := y) (by omega) (by omega) r
 have hl : ∀ x ∈ [m, zaJ gr y r], 0 ≤ x ∧ x ≤ 2000000000 := fun x hx => by
  simp only [List.mem_cons, List.not_mem_nil, or_false] at hx
  rcases hx with rfl | rfl
  ·omega
  ·have := zjw k y r; omega
 unfold zdx zgn
 rw [e1.1, e1.2, Option.bind_some, Option.bind_some, e2.1, e2.2, Option.bind_some, Option.bind_some, zjY k hl, zmX k hl]
 exact ⟨rfl, rfl⟩
theorem zsm {α : Type} (b : Bool) (u v : α) : (if b = true then some u else some v) = some (if (!b) = true then v else u) := by cases b <;> rfl
theorem zzD {α : Type} (b : Bool) (u v : α) : (if (!b) = true then some u else some v) = some (if b = true then v else u) := by cases b <;> rfl
theorem zjB {β : Type} {body : Int → Unit → Option (Stp Unit (Unit ⊕ β))} (m : Nat) (p : Nat → Bool) (val : Nat → β) (h : ∀ k, k < m → body (k : Int) () = some (if p k = true then .go () else .out (.inr (val k)))) :
 (zar body (fun _ => .inl ()) m 0 () = some (.inl ()) ∧ ∀ k, k < m → p k = true) ∨ ∃ k, k < m ∧ p k = false ∧ (∀ j, j < k → p j = true) ∧ zar body (fun _ => .inl ()) m 0 () = some (.inr (val k)) := by
 have key : Rn (zar body (fun _ => Sum.inl ()) m 0 ()) (fun b => (b = .inl () ∧ ∀ k, k < m → p k = true) ∨ ∃ k, k < m ∧ p k = false ∧ (∀ j, j < k → p j = true) ∧ b = .inr (val k)) := by
  refine zaV (fun k _ => ∀ j, j < k → p j = true) (fun j hj => by omega) ?_ fun s hs => .inl ⟨rfl, hs⟩
  intro k s hk hI
  refine ⟨_, h k hk, ?_⟩
  cases hp : p k with
  | true =>
   intro j hj
   rcases Nat.lt_or_ge j k with h | h
   ·exact hI j h
   ·have : j = k := by omega
    rw [this]; exact hp
  | false => exact .inr ⟨k, hk, hp, hI, rfl⟩
 obtain ⟨b, e, h1 | ⟨k, h1, h2, h3, h4⟩⟩ := key
 ·exact .inl ⟨by rw [e, h1.1], h1.2⟩
 exact .inr ⟨k, h1, h2, h3, by rw [e, h4]⟩
theorem zu1 {α : Type} (l : List α) (p : α → Bool) (c : Bool) {body : Int → Unit → Option (Stp Unit (Unit ⊕ Bool))} (h : ∀ k (hk : k < l.length), body (k : Int) () = some (if p l[k] = true then .go () else .out (.inr c))) :
 (zar body (fun _ => .inl ()) l.length 0 ()).bind (Sum.elim (fun _ => some (!c)) some) = some (if l.all p = true then !c else c) := by
 rcases zjB (body := body) l.length (fun k => (l[k]?).any p) (fun _ => c) (fun k hk => by rw [h k hk, List.getElem?_eq_getElem hk]; rfl) with ⟨e, h1⟩ | ⟨k, h1, h2, h3, e⟩
 ·rw [e]
  have : l.all p = true := by
   rw [List.all_eq_true]
   intro x hx
   obtain ⟨k, hk, rfl⟩ := List.mem_iff_getElem.1 hx
   have := h1 k hk
   rw [List.getElem?_eq_getElem hk] at this
   exact this
  rw [this]; rfl
 rw [e]
 have : l.all p = false := by
  rw [List.all_eq_false]
  refine ⟨l[k], List.getElem_mem h1, ?_⟩
  rw [List.getElem?_eq_getElem h1] at h2
  simpa using h2
 rw [this]; rfl
theorem zvP (l : List Int) (x : Int) : zf1 l x = some (l.contains x) := by
 unfold zf1
 have := zu1 l (fun y => !(y == x)) true (body := fun i8 s7 => (ix l i8).bind fun x17 => if (x17 == x) = true then some (.out (.inr true)) else some (.go ())) fun k hk => by
  rw [zei hk, Option.bind_some]
  exact zsm _ _ _
 rw [show (!true) = false from rfl] at this
 refine this.trans ?_
 congr 1
 cases hc : l.contains x with
 | true =>
  have hm : x ∈ l := by simpa using hc
  have : (l.all fun y => !(y == x)) = false := by
   rw [List.all_eq_false]
   exact ⟨x, hm, by simp⟩
  rw [this]; rfl
 | false =>
  have hm : ¬ x ∈ l := by simpa using hc
  have : (l.all fun y => !(y == x)) = true := by
   rw [List.all_eq_true]
   intro y hy
   have : y ≠ x := fun e => hm (e ▸ hy)
   simp [this]
  rw [this]; rfl
theorem zvs (l : List Int) (x : Int) : (zcl l x = some (-1) ∧ ¬ x ∈ l) ∨ ∃ k, ∃ h : k < l.length, zcl l x = some (k : Int) ∧ l[k] = x ∧ ∀ j (hj : j < k), l[j]'(by omega) ≠ x := by
 unfold zcl
 rcases zjB l.length (fun k => (l[k]?).any fun y => !(x == y)) (fun k => (k : Int)) (body := fun i8 s7 => (ix l i8).bind fun x17 => if (x == x17) = true then some (.out (.inr i8)) else some (.go ())) (fun k hk => by
  rw [zei hk, Option.bind_some, List.getElem?_eq_getElem hk]
  exact zsm _ _ _) with ⟨e, h1⟩ | ⟨k, h1, h2, h3, e⟩
 ·refine .inl ⟨by rw [e]; rfl, fun hx => ?_⟩
  obtain ⟨k, hk, rfl⟩ := List.mem_iff_getElem.1 hx
  have := h1 k hk
  rw [List.getElem?_eq_getElem hk] at this
  simp at this
 refine .inr ⟨k, h1, by rw [e]; rfl, ?_, fun j hj => ?_⟩
 ·rw [List.getElem?_eq_getElem h1] at h2
  simp at h2
  exact h2.symm
 have := h3 j hj
 rw [List.getElem?_eq_getElem (by omega)] at this
 simp at this
 exact fun e => this e.symm
theorem zm7 (l : List Int) (x : Int) : zcs l x = some (l.contains x) := by
 unfold zcs
 rcases zvs l x with ⟨e, h⟩ | ⟨k, hk, e, h, _⟩
 ·rw [e]
  have : l.contains x = false := by simpa using h
  rw [this]; rfl
 rw [e]
 have : l.contains x = true := by
  have := List.getElem_mem hk
  rw [h] at this
  simpa using this
 rw [this]
 simp
theorem zvr (l : List Int) : zeq l = zc0 l := by
 unfold zeq zc0
 simp only [zvP, zm7]
open Classical in
noncomputable def zjj (l : List Int) : Bool := decide l.Nodup
theorem zt1 {C : List Int → Int → Option Bool} (hC : ∀ l x, C l x = some (l.contains x)) (l : List Int) (hl : l.length ≤ 1000000000000) :
 ((zar (σ := Unit) (fun i5 s4 =>
 (ix l i5).bind fun x11 =>
 gd (0 ≤ i5) <|
 gd (0 ≤ i5.toNat ∧ i5.toNat ≤ l.length) <|
 (C ((l.take i5.toNat).drop 0) x11).bind fun z12 =>
 if z12 = true then (
 some (.out (.inr false))) else (
 some (.go ()))) (fun s4 => .inl ()) (l.length) 0 () : Option (Unit ⊕ Bool)).bind (Sum.elim (fun x3 =>
 some true) some)) = some (zjj l) := by
 rcases zjB l.length (fun k => (l[k]?).any fun y => !(l.take k).contains y) (fun _ => false) (body := fun i8 s7 =>
  (ix l i8).bind fun x17 =>
  gd (0 ≤ i8) <|
  gd (0 ≤ i8.toNat ∧ i8.toNat ≤ l.length) <|
  (C ((l.take i8.toNat).drop 0) x17).bind fun z26 =>
  if z26 = true then (
  some (.out (.inr false))) else (
  some (.go ()))) (fun k hk => by
   rw [zei hk, Option.bind_some, zdV (by omega), zdV (by simp; omega), hC, List.getElem?_eq_getElem hk, Option.bind_some, Int.toNat_natCast, List.drop_zero]
   exact zsm _ _ _) with ⟨e, h1⟩ | ⟨k, h1, h2, h3, e⟩
 ·rw [e]
  have : zjj l = true := by
   unfold zjj
   rw [decide_eq_true_eq, List.nodup_iff_pairwise_ne, List.pairwise_iff_getElem]
   intro i j hi hj hij e
   have := h1 j hj
   rw [List.getElem?_eq_getElem hj] at this
   have hm : l[j] ∈ l.take j := by
    rw [← e]
    exact List.mem_iff_getElem.2 ⟨i, by simp; omega, by simp⟩
   have hc : (l.take j).contains l[j] = true := by simpa using hm
   simp only [Option.any_some, hc] at this
   cases this
  rw [this]; rfl
 rw [e]
 have : zjj l = false := by
  unfold zjj
  rw [decide_eq_false_iff_not, List.nodup_iff_pairwise_ne, List.pairwise_iff_getElem]
  intro hd
  rw [List.getElem?_eq_getElem h1] at h2
  have hc : (l.take k).contains l[k] = true := by simpa using h2
  have hm : l[k] ∈ l.take k := by simpa using hc
  obtain ⟨i, hi, e⟩ := List.mem_iff_getElem.1 hm
  simp at hi e
  exact hd i k (by omega) h1 (by omega) e
 rw [this]; rfl
theorem zts (l : List Int) (hl : l.length ≤ 1000000000000) : zc0 l = some (zjj l) := zt1 zm7 l hl
theorem zsX (l : List Int) (hl : l.length ≤ 1000000000000) : zeq l = some (zjj l) := by rw [zvr, zts l hl]
theorem zjS {l : List Int} {p : Int → Bool} {f : Int → Option Bool} (hf : ∀ x ∈ l, f x = some (!p x)) :
 ((((zar (σ := Unit) (β := Unit ⊕ Int) (fun i8 s7 => (ix l i8).bind fun x17 => (f x17).bind fun z20 => if z20 = true then (some (.out (.inr i8))) else (some (.go ()))) (fun s7 => .inl ()) (l.length) 0 () : Option (Unit ⊕ Int)).bind (Sum.elim (fun (x5 : Unit) => some (-1)) some)).bind fun z1 => some (decide (0 ≤ z1))).bind fun z1 => some (!z1)) = some (l.all p) := by
 rcases zjB l.length (fun k => (l[k]?).any p) (fun k => (k : Int)) (body := fun i8 s7 => (ix l i8).bind fun x17 => (f x17).bind fun z20 => if z20 = true then (some (.out (.inr i8))) else (some (.go ()))) (fun k hk => by
  rw [zei hk, Option.bind_some, hf _ (List.getElem_mem hk), Option.bind_some, List.getElem?_eq_getElem hk]
  exact zzD _ _ _) with ⟨e, h1⟩ | ⟨k, h1, h2, h3, e⟩
 ·rw [e]
  have : l.all p = true := by
   rw [List.all_eq_true]
   intro x hx
   obtain ⟨k, hk, rfl⟩ := List.mem_iff_getElem.1 hx
   have := h1 k hk
   rw [List.getElem?_eq_getElem hk] at this
   exact this
  rw [this]; rfl
 rw [e]
 have : l.all p = false := by
  rw [List.all_eq_false]
  refine ⟨l[k], List.getElem_mem h1, ?_⟩
  rw [List.getElem?_eq_getElem h1] at h2
  simpa using h2
 rw [this]
 simp
def dg (q : Nat) : Nat → Nat → List Int
 | 0, _ => []
 | k + 1, n => ((n % q : Nat) : Int) :: dg q k (n / q)
theorem zqc {gr : Group} (k : OkG gr) (c : Cipher) : zc8 gr c = some (zaw gr c.A && zaw gr c.B) := by
 unfold zc8
 rw [zon k, zon k]
 cases zaw gr c.A <;> simp
theorem zye {gr : Group} (k : OkG gr) (m : Int) : zdZ gr [m] = some (zaw gr m) := by
 rw [zmA k]; simp
theorem zhD {gr : Group} (h : 0 ≤ gr.Q) (h2 : gr.Q ≤ 2000000000) (l : List Int) : zbm gr l = some (l.all (zez gr)) := by
 have h1 : zcj l gr = some (l.all (zez gr)) := zjS (f := fun x => zbA x gr) fun x _ => by
  unfold zbA
  rw [zwa h h2]; rfl
 unfold zbm
 rw [h1]; rfl
theorem znL {a n p e : Nat} (h : a ^ n % p = 1) : a ^ (e % n) % p = a ^ e % p := by
 have hp : 1 % p = 1 := by rw [← h, Nat.mod_mod]
 conv => rhs; rw [← Nat.div_add_mod e n]
 rw [Nat.pow_add, Nat.pow_mul, Nat.mul_mod, Nat.pow_mod (a ^ n), h, Nat.one_pow, hp, Nat.one_mul, Nat.mod_mod]
theorem zk9 {gr : Group} {x : Int} (h : zaw gr x = true) : 1 ≤ x ∧ x ≤ gr.P - 1 ∧ x.toNat ^ gr.Q.toNat % gr.P.toNat = 1 := by
 unfold zaw at h
 simp only [Bool.and_eq_true, decide_eq_true_eq] at h
 exact ⟨h.1.1, h.1.2, h.2⟩
theorem zui {gr : Group} (k : OkG gr) {x : Int} (h : zaw gr x = true) {s l : Int} (hs : 0 ≤ s) (hl : 0 ≤ l) : zaJ gr (zaJ gr x s) l = zaJ gr x (s * l) := by
 obtain ⟨_, _, h3⟩ := zk9 h
 have hq := k.q
 obtain ⟨a, rfl⟩ := Int.eq_ofNat_of_zero_le hs
 obtain ⟨b, rfl⟩ := Int.eq_ofNat_of_zero_le hl
 obtain ⟨n, hn⟩ := Int.eq_ofNat_of_zero_le (show 0 ≤ gr.Q by omega)
 unfold zaJ
 rw [hn] at h3 ⊢
 rw [Int.toNat_natCast] at h3
 have e : ∀ c : Nat, ((c : Int) % (n : Int)).toNat = c % n := fun c => by rw [← Int.natCast_emod, Int.toNat_natCast]
 rw [zf0, e, e, e, Int.toNat_natCast, znL h3, znL h3, ← Nat.pow_mod, ← Nat.pow_mul]
 congr 1
 rw [Nat.pow_mul, Nat.pow_mod, znL (n := n) (e := b)]
 ·rw [← Nat.pow_mod, ← Nat.pow_mul]
 rw [← Nat.pow_mod, ← Nat.pow_mul, Nat.mul_comm, Nat.pow_mul, Nat.pow_mod, h3, Nat.one_pow, ← h3, Nat.mod_mod]
theorem zw5 {gr : Group} (k : OkG gr) {x : Int} (h0 : 0 ≤ x) (h1 : x ≤ 2000000000) : zgv gr x = some (zaJ gr x (-1)) := by
 have hq := k.q
 have hp := k.p
 have e : (-1 : Int) % gr.Q = gr.Q - 1 := by
  have := Int.add_mul_emod_self_left (-1) gr.Q 1
  rw [← this, Int.mul_one]
  rw [Int.emod_eq_of_lt (by omega) (by omega)]; omega
 unfold zgv
 rw [zaz (by omega) (by omega), (zfY h0 h1 (by omega) hp.2 (by omega) (by omega)).2]
 unfold zaJ
 rw [e]; rfl
theorem zsY {gr : Group} (k : OkG gr) {b x : Int} (hb : 0 ≤ b) (hb2 : b ≤ 2000000000) (h0 : 0 ≤ x) (h1 : x ≤ 2000000000) : zdD gr b x = some (zbc gr [b, zaJ gr x (-1)]) := by
 have hp := k.p
 obtain ⟨p1, p2⟩ := zjw k x (-1)
 unfold zdD zfn
 rw [(zlk k h0 h1 _).1]
 simp only [Option.bind_some]
 rw [zjY k]; rfl
 intro y hy
 simp only [List.mem_cons, List.not_mem_nil, or_false] at hy
 rcases hy with rfl | rfl <;> omega
structure Bt (code : List Int) : Prop where
 b : ∀ x ∈ code, 0 ≤ x ∧ x ≤ 255
 l : code.length ≤ 1048576
structure Cu (code : List Int) (n : Int) (c : List Int × Int × Int) : Prop where
 e : c.1 = code
 lo : 0 ≤ c.2.1
 hi : c.2.1 ≤ n
theorem Cu.mono {code : List Int} {n m : Int} {c : List Int × Int × Int} (h : Cu code n c) (hn : n ≤ m) : Cu code m c := ⟨h.e, h.lo, Int.le_trans h.hi hn⟩
theorem zxb (x : BitVec IntKind.u64.bits) : 0 ≤ IntKind.i64.wrap (IntKind.u64.wrap ((x &&& BitVec.ofInt IntKind.u64.bits 255).toNat : Int)) ∧ IntKind.i64.wrap (IntKind.u64.wrap ((x &&& BitVec.ofInt IntKind.u64.bits 255).toNat : Int)) ≤ 255 := by
 have hy : (x &&& BitVec.ofInt IntKind.u64.bits 255).toNat ≤ 255 := by
  rw [BitVec.toNat_and]
  exact Nat.le_trans Nat.and_le_right (by decide)
 generalize (x &&& BitVec.ofInt IntKind.u64.bits 255).toNat = y at hy ⊢
 rw [wrU (by omega) (by omega), zaz (by omega) (by omega)]
 omega
theorem zsw {code c0 : List Int} {at_ seed n : Int} (hb : Bt code) (h : Cu code n (c0, at_, seed)) (hn : n ≤ 9000000000000000) : Rn (zcm c0 at_ seed) (fun z => 0 ≤ z.1 ∧ z.1 ≤ 255 ∧ Cu code (n + 1) z.2) := by
 obtain ⟨h1, h2, h3⟩ := h
 have h1 : c0 = code := h1
 have h2 : 0 ≤ at_ := h2
 have h3 : at_ ≤ n := h3
 subst h1
 have hw : IntKind.i64.wrap (at_ + 1) = at_ + 1 := zaz (by omega) (by omega)
 unfold zcm
 refine zaf (ψ := fun v => 0 ≤ v ∧ v ≤ 255) ?_ fun v hv => ?_
 ·refine zaj (fun g => ?_) fun g => zab (by omega)
  obtain ⟨k, rfl⟩ := Int.eq_ofNat_of_zero_le h2
  have hk : k < c0.length := by simp at g; omega
  have := hb.b _ (List.getElem_mem hk)
  exact zav hk (zab (by rw [zaz (by omega) (by omega)]; exact this))
 simp only [hw]
 refine zaj (fun g => zab ⟨hv.1, hv.2, rfl, by show 0 ≤ at_ + 1; omega, by show at_ + 1 ≤ n + 1; omega⟩) fun g => zab ?_
 exact ⟨(zxb _).1, (zxb _).2, rfl, by show 0 ≤ at_ + 1; omega, by show at_ + 1 ≤ n + 1; omega⟩
theorem zev {code c0 : List Int} {at_ seed n m : Int} (hb : Bt code) (h : Cu code n (c0, at_, seed)) (hn : n ≤ 8000000000000000) : Rn (zag c0 at_ seed m) (fun z => 0 ≤ z.1 ∧ (m ≤ 1 → z.1 = 0) ∧ (1 < m → z.1 < m) ∧ z.1 ≤ 65535 ∧ Cu code (n + 2) z.2) := by
 unfold zag
 refine zaj (fun g => zab ⟨Int.le_refl 0, fun _ => rfl, fun h => by simp at g; omega, by show (0 : Int) ≤ _; omega, h.mono (by omega)⟩) fun g => ?_
 have g : 1 < m := by simpa using g
 refine zaf (zsw hb h (by omega)) fun z ⟨z1, z2, z3⟩ => ?_
 refine zaf (ψ := fun x => 0 ≤ x.2 ∧ x.2 ≤ 65535 ∧ Cu code (n + 2) x.1) ?_ fun x ⟨x1, x2, x3⟩ => ?_
 ·refine zaj (fun _ => zaf (zsw hb z3 (by omega)) fun y ⟨y1, y2, y3⟩ => zab ?_) fun _ => zab ⟨z1, by show z.1 ≤ _; omega, z3.mono (by omega)⟩
  rw [zaz (n := z.1 * 256) (by omega) (by omega), zaz (by omega) (by omega)]
  exact ⟨by show 0 ≤ z.1 * 256 + y.1; omega, by show z.1 * 256 + y.1 ≤ _; omega, y3.mono (by omega)⟩
 refine zam (by omega) (zab ?_)
 rw [Int.tmod_eq_emod_of_nonneg x1]
 have b1 := Int.emod_nonneg x.2 (show m ≠ 0 by omega)
 have b2 := Int.emod_lt_of_pos x.2 (show 0 < m by omega)
 have b3 : x.2 % m ≤ x.2 := by
  rcases Int.lt_or_le x.2 m with h | h
  ·rw [Int.emod_eq_of_lt x1 h]; exact Int.le_refl _
  ·omega
 exact ⟨b1, fun h => by omega, fun _ => b2, by show x.2 % m ≤ _; omega, x3⟩
theorem zoq {code c0 : List Int} {at_ seed n m : Int} (hb : Bt code) (h : Cu code n (c0, at_, seed)) (hn : n ≤ 8000000000000000) : Rn (zbK c0 at_ seed m) (fun z => Cu code (n + 2) z.2) := by
 unfold zbK
 exact zaf (zev hb h hn) fun z hz => zab hz.2.2.2.2
theorem zfj {code c0 : List Int} {at_ seed n : Int} {l : List Int} (hb : Bt code) (h : Cu code n (c0, at_, seed)) (hn : n ≤ 8000000000000000) (hl : l ≠ []) : Rn (zao c0 at_ seed l) (fun z => z.1 ∈ l ∧ Cu code (n + 2) z.2) := by
 unfold zao
 refine zaf (zev hb h hn) fun z ⟨z1, z2, z3, z4, z5⟩ => ?_
 have h0 : 0 < l.length := List.length_pos_iff.2 hl
 obtain ⟨k, hk⟩ := Int.eq_ofNat_of_zero_le z1
 have hlt : k < l.length := by
  rcases Nat.lt_or_ge 1 l.length with h | h
  ·have := z3 (by omega); omega
  ·have := z2 (by omega); omega
 rw [hk]
 exact zav hlt (zab ⟨List.getElem_mem hlt, z5⟩)
theorem zxX {n d : Nat} (h : Pr n) (hd : d % n ≠ 0) : Nat.gcd n d = 1 := by
 obtain ⟨k, hk⟩ := Nat.gcd_dvd_left n d
 have hn := h.1
 have h0 : 0 < Nat.gcd n d := Nat.gcd_pos_of_pos_left d (by omega)
 have hdv := Nat.gcd_dvd_right n d
 generalize Nat.gcd n d = g at hk h0 hdv
 apply Classical.byContradiction
 intro hg
 have hg2 : 2 ≤ g := by omega
 have hk2 : 2 ≤ k := by
  rcases Nat.lt_or_ge k 2 with h | h
  ·have : k = 0 ∨ k = 1 := by omega
   rcases this with rfl | rfl
   ·omega
   ·rw [Nat.mul_one] at hk
    rw [← hk] at hdv
    exact absurd (Nat.mod_eq_zero_of_dvd hdv) hd
  ·exact h
 rcases Nat.le_total g k with h' | h'
 ·exact h.2 g hg2 (by rw [hk]; exact Nat.mul_le_mul_left g h') (by rw [hk]; exact Nat.mul_mod_right g k)
 exact h.2 k hk2 (by rw [hk]; exact Nat.mul_le_mul_right k h') (by rw [hk]; exact Nat.mul_mod_left g k)
theorem zjz {n : Nat} (h : Pr n) {a b : Int} (hab : (a * b) % (n : Int) = 0) : a % (n : Int) = 0 ∨ b % (n : Int) = 0 := by
 have h1 : n ∣ a.natAbs * b.natAbs := by
  rw [← Int.natAbs_mul]
  exact Int.ofNat_dvd_left.1 (Int.dvd_of_emod_eq_zero hab)
 by_cases ha : a.natAbs % n = 0
 ·exact .inl (Int.emod_eq_zero_of_dvd (Int.ofNat_dvd_left.2 (Nat.dvd_of_mod_eq_zero ha)))
 exact .inr (Int.emod_eq_zero_of_dvd (Int.ofNat_dvd_left.2 (Nat.Coprime.dvd_of_dvd_mul_left (zxX h ha) h1)))
def evP (f : List Int) (x : Int) : Int := f.foldr (fun c a => a * x + c) 0
theorem zpr (c : Int) (f : List Int) (x : Int) : evP (c :: f) x = evP f x * x + c := rfl
def dvP (r : Int) : List Int → List Int
 | [] => []
 | [_] => []
 | _ :: c :: f => evP (c :: f) r :: dvP r (c :: f)
theorem zqP (r : Int) : ∀ f : List Int, (dvP r f).length = f.length - 1
 | [] => rfl
 | [_] => rfl
 | _ :: c :: f => by
  show (dvP r (c :: f)).length + 1 = _
  rw [zqP r (c :: f)]; simp
theorem ztL (r x : Int) : ∀ f : List Int, evP f x = evP (dvP r f) x * (x - r) + evP f r
 | [] => by simp [dvP, evP]
 | [c] => by simp [dvP, evP]
 | d :: c :: f => by
  have ih := ztL r x (c :: f)
  show evP (c :: f) x * x + d = (evP (dvP r (c :: f)) x * x + evP (c :: f) r) * (x - r) + (evP (c :: f) r * r + d)
  rw [ih]
  grind
theorem zpC (r : Int) : ∀ f : List Int, 2 ≤ f.length → (dvP r f).getLastD 0 = f.getLastD 0
 | [], h => absurd h (by simp)
 | [_], h => absurd h (by simp)
 | [d, c], _ => by simp [dvP, evP]
 | e :: d :: c :: f, _ => by
  have ih := zpC r (d :: c :: f) (by simp)
  show (evP (d :: c :: f) r :: evP (c :: f) r :: dvP r (c :: f)).getLastD 0 = _
  have : dvP r (d :: c :: f) = evP (c :: f) r :: dvP r (c :: f) := rfl
  rw [this] at ih
  simpa [List.getLastD] using ih
theorem ztJ {p : Nat} (hp : Pr p) : ∀ (n : Nat) (f : List Int), f.length = n + 1 → f.getLastD 0 % (p : Int) ≠ 0 → ∀ rs : List Int, rs.Pairwise (fun a b => (b - a) % (p : Int) ≠ 0) → (∀ r ∈ rs, evP f r % (p : Int) = 0) → rs.length ≤ n
 | 0, f, hl, hf, rs, hd, hr => by
  match f, hl with
  | [c], _ =>
   cases rs with
   | nil => simp
   | cons r rs =>
    have := hr r (List.mem_cons_self ..)
    simp [evP] at this
    exact absurd (by first | exact this | exact Int.emod_eq_zero_of_dvd this) (by simpa [List.getLastD] using hf)
 | n + 1, f, hl, hf, rs, hd, hr => by
  cases rs with
  | nil => simp
  | cons r rs =>
   have h1 := List.pairwise_cons.1 hd
   have := ztJ hp n (dvP r f) (by rw [zqP]; omega) (by rw [zpC r f (by omega)]; exact hf) rs h1.2 fun s hs => by
    have e := ztL r s f
    have hs0 := hr s (List.mem_cons_of_mem _ hs)
    have hr0 := hr r (List.mem_cons_self ..)
    have hm : (evP (dvP r f) s * (s - r)) % (p : Int) = 0 := by
     rw [show evP (dvP r f) s * (s - r) = evP f s - evP f r by omega, Int.sub_emod, hs0, hr0]; simp
    rcases zjz hp hm with h | h
    ·exact h
    ·exact absurd h (h1.1 s hs)
   simpa using this
theorem zuT (k : Nat) (x : Int) : evP (List.replicate k 0 ++ [1]) x = x ^ k := by
 induction k with
 | zero => simp [evP]
 | succ k ih => rw [List.replicate_succ, List.cons_append, zpr, ih, Int.pow_succ]; omega
theorem zqp {p n : Nat} (hp : Pr p) (hn : 1 ≤ n) (rs : List Int) (hd : rs.Pairwise (fun a b => (b - a) % (p : Int) ≠ 0)) (hr : ∀ r ∈ rs, r ^ n % (p : Int) = 1) : rs.length ≤ n := by
 have h2 := hp.1
 have hone : (1 : Int) % (p : Int) = 1 := Int.emod_eq_of_lt (by omega) (by omega)
 obtain ⟨k, rfl⟩ : ∃ k, n = k + 1 := ⟨n - 1, by omega⟩
 refine ztJ hp (k + 1) (-1 :: (List.replicate k 0 ++ [1])) (by simp) ?_ rs hd fun r hr' => ?_
 ·have : (-1 :: (List.replicate k (0 : Int) ++ [1])).getLastD 0 = 1 := by
   rw [← List.cons_append, List.getLastD_concat]
  rw [this, hone]; omega
 rw [zpr, zuT, ← Int.pow_succ, Int.add_emod, hr r hr']
 have : ((-1 : Int) % (p : Int)) = p - 1 := by
  have := Int.add_mul_emod_self_left (-1) (p : Int) 1
  rw [← this, Int.mul_one, Int.emod_eq_of_lt (by omega) (by omega)]; omega
 rw [this, show 1 + ((p : Int) - 1) = p by omega, Int.emod_self]
theorem zsV {p n : Nat} (hp : Pr p) (hn : 1 ≤ n) (hnp : n < p - 1) : ∃ h : Nat, 2 ≤ h ∧ h < p ∧ h ^ n % p ≠ 1 := by
 apply Classical.byContradiction
 intro hc
 have h2 := hp.1
 have h1 : ∀ h : Nat, 1 ≤ h → h < p → h ^ n % p = 1 := fun h a b => by
  rcases Nat.lt_or_ge h 2 with c | c
  ·have : h = 1 := by omega
   subst this
   rw [Nat.one_pow, Nat.mod_eq_of_lt (by omega)]
  ·exact Classical.byContradiction fun d => hc ⟨h, c, b, d⟩
 have := zqp hp hn ((List.range (p - 1)).map fun k => ((k + 1 : Nat) : Int)) ?_ ?_
 ·simp at this; omega
 ·rw [List.pairwise_map]
  refine List.Pairwise.imp_of_mem ?_ List.pairwise_lt_range
  intro a b ha hb hab
  have hb := List.mem_range.1 hb
  rw [show ((b + 1 : Nat) : Int) - ((a + 1 : Nat) : Int) = ((b - a : Nat) : Int) by omega, ← Int.natCast_emod, Nat.mod_eq_of_lt (by omega)]
  omega
 intro r hr
 obtain ⟨k, hk, rfl⟩ := List.mem_map.1 hr
 have hk := List.mem_range.1 hk
 rw [← Int.natCast_pow, ← Int.natCast_emod, h1 (k + 1) (by omega) (by omega)]; rfl
structure Gs (gr : Group) : Prop where
 p : 0 ≤ gr.P ∧ gr.P ≤ 2000000000
 q : 0 ≤ gr.Q ∧ gr.Q ≤ 1000000000
 g : 0 ≤ gr.G ∧ gr.G ≤ 2000000000
theorem zxF {q k : Nat} (hq : 2 ≤ q) : ((1 + (k : Int) * (q : Int)) - 1).tdiv (q : Int) = (k : Int) := by
 rw [show (1 + (k : Int) * (q : Int)) - 1 = (k : Int) * (q : Int) by omega, Int.mul_tdiv_cancel _ (by omega)]
theorem zlB {q : Nat} (hq2 : q ≤ 1000000) : Rn (zdS (q : Int)) (fun z => Gs z.1 ∧ (z.2 = true → z.1.Q = q ∧ 3 ≤ z.1.P) ∧ (∀ k : Nat, 1 ≤ k → Pr (1 + k * q) → 1 + k * q ≤ 2000000000 → Pr q → z.2 = true)) := by
 unfold zdS
 refine zaf (ψ := fun b => b = !(decide (2 ≤ q) && prB (q : Int))) ?_ ?_
 ·refine zac (zgl _ _ _) ?_
  by_cases h : 2 ≤ q
  ·refine zcP (by simp; omega) (zac (zkd _ (by omega)) (zab ?_))
   simp [h]
  refine zjh (by simp; omega) (zab ?_)
  simp [h]
 rintro _ rfl
 cases hc : (decide (2 ≤ q) && prB (q : Int))
 ·refine zjh rfl (zab ⟨⟨⟨by decide, by decide⟩, ⟨by decide, by decide⟩, by decide, by decide⟩, fun h => (by cases h), fun k h1 h2 h3 h4 => ?_⟩)
  rw [zfP.2 h4] at hc
  have := h4.1
  simp at hc; omega
 have hq : 2 ≤ q := by simp at hc; exact hc.1
 have hpq : Pr q := by simp at hc; exact zfP.1 hc.2
 refine zcP rfl ?_
 refine zaf (ψ := fun b => (b = .inl () ∧ ∀ k : Nat, 1 ≤ k → Pr (1 + k * q) → ¬ 1 + k * q ≤ 2000000000) ∨ ∃ z : Group × Bool, b = .inr z ∧ Gs z.1 ∧ z.2 = true ∧ z.1.Q = q ∧ 3 ≤ z.1.P) ?_ ?_
 ·rw [zaz (by omega) (by omega)]
  refine zfm (fun s => ∃ k : Nat, 1 ≤ k ∧ s = 1 + (k : Int) * (q : Int) ∧ s ≤ 2001000001 ∧ ∀ j : Nat, 1 ≤ j → j < k → ¬ Pr (1 + j * q)) (fun s => (2001000001 - s).toNat) ⟨1, by omega, by omega, by omega, fun j h1 h2 => by omega⟩ ?_
  rintro s ⟨k, hk, rfl, hs, hn⟩
  have hkq : k * 2 ≤ k * q := Nat.mul_le_mul_left k hq
  have hkc : (k : Int) * (q : Int) = ((k * q : Nat) : Int) := zf0 k q
  refine zaj (fun g => ?_) fun g => ?_
  ·have g : 1 + (k : Int) * (q : Int) ≤ 2000000000 := by simpa using g
   refine zac (zkd _ (by omega)) ?_
   have hcast : 1 + (k : Int) * (q : Int) = ((1 + k * q : Nat) : Int) := by omega
   cases hp : prB (1 + (k : Int) * (q : Int))
   ·refine zjh rfl (zab ?_)
    have e : IntKind.i64.wrap (1 + (k : Int) * (q : Int) + (q : Int)) = 1 + ((k + 1 : Nat) : Int) * (q : Int) := by
     rw [zaz (by omega) (by omega)]; grind
    refine ⟨⟨k + 1, by omega, e, by rw [zaz (by omega) (by omega)]; omega, fun j h1 h2 => ?_⟩, ?_⟩
    ·rcases Nat.lt_or_ge j k with h | h
     ·exact hn j h1 h
     have : j = k := by omega
     subst this
     intro hpr
     rw [hcast, zfP.2 hpr] at hp
     cases hp
    rw [zaz (by omega) (by omega)]; omega
   refine zcP rfl ?_
   have hpr : Pr (1 + k * q) := by rw [hcast] at hp; exact zfP.1 hp
   obtain ⟨h0, a1, a2, a3⟩ := zsV hpr hk (by omega)
   have hdv : IntKind.i64.wrap ((IntKind.i64.wrap (1 + (k : Int) * (q : Int) - 1)).tdiv (q : Int)) = (k : Int) := by
    rw [zaz (n := 1 + (k : Int) * (q : Int) - 1) (by omega) (by omega), zxF hq, zaz (by omega) (by omega)]
   simp only [hdv]
   simp only [hcast]
   refine zaf (ψ := fun h => 2 ≤ h ∧ h ≤ (h0 : Int)) (zfm (fun s => 2 ≤ s ∧ s ≤ (h0 : Int)) (fun s => (h0 - s).toNat) (by omega) ?_) ?_
   ·rintro s ⟨s1, s2⟩
    have hpw := (zfY (a := s) (e := (k : Int)) (m := ((1 + k * q : Nat) : Int)) (by omega) (by omega) (by omega) (by omega) (by omega) (by omega)).2
    refine zam (by omega) (zac hpw ?_)
    refine zaj (fun g => zab ?_) fun g => zab ⟨s1, s2⟩
    rw [zaz (by omega) (by omega)]
    have hne : s ≠ (h0 : Int) := fun e => by
     subst e
     apply a3
     have g : ((((h0 : Int).toNat ^ (k : Int).toNat % ((1 + k * q : Nat) : Int).toNat : Nat)) : Int) = 1 := by simpa only [beq_iff_eq] using g
     rw [Int.toNat_natCast, Int.toNat_natCast, Int.toNat_natCast] at g
     omega
    refine ⟨⟨by omega, by omega⟩, ?_⟩
    omega
   rintro h ⟨s1, s2⟩
   have hpw := (zfY (a := h) (e := (k : Int)) (m := ((1 + k * q : Nat) : Int)) (by omega) (by omega) (by omega) (by omega) (by omega) (by omega)).2
   refine zam (by omega) (zac hpw (zab ?_))
   have hlt : h.toNat ^ (k : Int).toNat % ((1 + k * q : Nat) : Int).toNat < 1 + k * q := by
    rw [Int.toNat_natCast (1 + k * q)]
    exact Nat.mod_lt _ (by omega)
   refine .inr ⟨_, rfl, ⟨⟨by show (0 : Int) ≤ ((1 + k * q : Nat) : Int); omega, by show ((1 + k * q : Nat) : Int) ≤ _; omega⟩, ⟨by show (0 : Int) ≤ (q : Int); omega, by show (q : Int) ≤ _; omega⟩, ?_, ?_⟩, rfl, rfl, by show (3 : Int) ≤ ((1 + k * q : Nat) : Int); omega⟩
   ·show (0 : Int) ≤ ((_ : Nat) : Int); omega
   show ((_ : Nat) : Int) ≤ 2000000000; omega
  refine zab (.inl ⟨rfl, fun j h1 h2 h3 => ?_⟩)
  have g : ¬ 1 + (k : Int) * (q : Int) ≤ 2000000000 := by simpa using g
  rcases Nat.lt_or_ge j k with h | h
  ·exact hn j h1 h h2
  have : k * q ≤ j * q := Nat.mul_le_mul_right q h
  omega
 rintro b (⟨rfl, h⟩ | ⟨z, rfl, h1, h2, h3, h4⟩)
 ·exact zab ⟨⟨⟨by decide, by decide⟩, ⟨by decide, by decide⟩, by decide, by decide⟩, fun h => (by cases h), fun k h1 h2 h3 h4 => absurd h3 (h k h1 h2)⟩
 exact zab ⟨h1, fun _ => ⟨h3, h4⟩, fun _ _ _ _ _ => h2⟩
theorem zgj {n : Nat} (hn : n < 64) (h2 : 2 ≤ n) (h : ∀ d, d < 8 → 2 ≤ d → d * d ≤ n → n % d ≠ 0) : Pr n := by
 refine ⟨h2, fun d h1 h3 => ?_⟩
 rcases Nat.lt_or_ge d 8 with h8 | h8
 ·exact h d h8 h1 h3
 have : 8 * 8 ≤ d * d := Nat.mul_le_mul h8 h8
 omega
structure Gw (gr : Group) : Prop where
 p : -10 ≤ gr.P ∧ gr.P ≤ 2100000000
 q : -10 ≤ gr.Q ∧ gr.Q ≤ 2100000000
 g : -10 ≤ gr.G ∧ gr.G ≤ 2100000000
theorem Gs.w {gr : Group} (h : Gs gr) : Gw gr := ⟨by have := h.p; omega, by have := h.q; omega, by have := h.g; omega⟩
theorem zx6 {x : Int} (hx : x ∈ [(3 : Int), 5, 5, 7, 11, 11, 13, 23]) : ∃ q k : Nat, x = (q : Int) ∧ 3 ≤ q ∧ q ≤ 23 ∧ 1 ≤ k ∧ Pr (1 + k * q) ∧ 1 + k * q ≤ 2000000000 ∧ Pr q := by
 simp only [List.mem_cons, List.not_mem_nil, or_false] at hx
 rcases hx with rfl | rfl | rfl | rfl | rfl | rfl | rfl | rfl
 ·exact ⟨3, 2, rfl, by decide, by decide, by decide, zgj (by decide) (by decide) (by decide), by decide, zgj (by decide) (by decide) (by decide)⟩
 ·exact ⟨5, 2, rfl, by decide, by decide, by decide, zgj (by decide) (by decide) (by decide), by decide, zgj (by decide) (by decide) (by decide)⟩
 ·exact ⟨5, 2, rfl, by decide, by decide, by decide, zgj (by decide) (by decide) (by decide), by decide, zgj (by decide) (by decide) (by decide)⟩
 ·exact ⟨7, 4, rfl, by decide, by decide, by decide, zgj (by decide) (by decide) (by decide), by decide, zgj (by decide) (by decide) (by decide)⟩
 ·exact ⟨11, 2, rfl, by decide, by decide, by decide, zgj (by decide) (by decide) (by decide), by decide, zgj (by decide) (by decide) (by decide)⟩
 ·exact ⟨11, 2, rfl, by decide, by decide, by decide, zgj (by decide) (by decide) (by decide), by decide, zgj (by decide) (by decide) (by decide)⟩
 ·exact ⟨13, 4, rfl, by decide, by decide, by decide, zgj (by decide) (by decide) (by decide), by decide, zgj (by decide) (by decide) (by decide)⟩
 exact ⟨23, 2, rfl, by decide, by decide, by decide, zgj (by decide) (by decide) (by decide), by decide, zgj (by decide) (by decide) (by decide)⟩
theorem zxt {code c0 : List Int} {at_ seed n : Int} (hb : Bt code) (h : Cu code n (c0, at_, seed)) (hn : n ≤ 7000000000000000) : Rn (zc2 c0 at_ seed) (fun z => Gs z.1 ∧ 3 ≤ z.1.Q ∧ z.1.Q ≤ 23 ∧ 3 ≤ z.1.P ∧ Cu code (n + 2) z.2) := by
 unfold zc2
 refine zaf (zfj hb h (by omega) (by simp)) fun z ⟨z1, z2⟩ => ?_
 obtain ⟨q, k, e, q1, q2, k1, k2, k3, k4⟩ := zx6 z1
 rw [e]
 refine zaf (zlB (by omega)) fun y ⟨y1, y2, y3⟩ => zab ?_
 have y4 := y2 (y3 k k1 k2 k3 k4)
 exact ⟨y1, by show 3 ≤ y.1.Q; omega, by show y.1.Q ≤ 23; omega, y4.2, z2⟩
theorem zv5 {gr : Group} (h : Gs gr) (hq : 1 ≤ gr.Q) (hp : 1 ≤ gr.P) {x : Int} (hx : 0 ≤ x ∧ x ≤ 2000000000) (e : Int) : Rn (zaq gr x e) (fun v => 0 ≤ v ∧ v ≤ 2000000000) := by
 have h1 := h.p
 have h2 := h.q
 have b1 : 0 ≤ e % gr.Q := Int.emod_nonneg _ (by omega)
 have b2 : e % gr.Q < gr.Q := Int.emod_lt_of_pos _ (by omega)
 have hw := (zfY (a := x) (e := e % gr.Q) (m := gr.P) (by omega) (by omega) (by omega) (by omega) b1 (by omega)).2
 unfold zaq
 refine zac (zpv (by omega) (by omega)) (zac hw (zab ?_))
 have hlt : x.toNat ^ (e % gr.Q).toNat % gr.P.toNat < gr.P.toNat := Nat.mod_lt _ (by omega)
 omega
theorem zzk {x : Int} (hx : x ∈ [(101 : Int), 1009, 1019, 65537, 999983]) : ∃ q : Nat, x = (q : Int) ∧ q ≤ 1000000 := by
 simp only [List.mem_cons, List.not_mem_nil, or_false] at hx
 rcases hx with rfl | rfl | rfl | rfl | rfl
 ·exact ⟨101, rfl, by decide⟩
 ·exact ⟨1009, rfl, by decide⟩
 ·exact ⟨1019, rfl, by decide⟩
 ·exact ⟨65537, rfl, by decide⟩
 exact ⟨999983, rfl, by decide⟩
theorem zxP : Gs (Group.mk 1000000007 500000003 4) := ⟨⟨by decide, by decide⟩, ⟨by decide, by decide⟩, by decide, by decide⟩
theorem cu0 (code : List Int) : Cu code 0 (code, 0, 0) := ⟨rfl, Int.le_refl 0, Int.le_refl 0⟩
theorem zqM {code c0 : List Int} {at_ seed n : Int} (hb : Bt code) (h : Cu code n (c0, at_, seed)) (hn : n ≤ 6000000000000000) : Rn (zcd c0 at_ seed) (fun z => Gs z.1 ∧ Cu code (n + 6) z.2) := by
 unfold zcd
 refine zaf (zev hb h (by omega)) fun z ⟨z1, z2, z3, z4, z5⟩ => ?_
 refine zaj (fun _ => zab ⟨zxP, z5.mono (by omega)⟩) fun _ => zaj (fun _ => ?_) fun _ => ?_
 ·refine zaf (zfj hb z5 (by omega) (by simp)) fun y ⟨y1, y2⟩ => ?_
  obtain ⟨q, e, hq⟩ := zzk y1
  rw [e]
  exact zaf (zlB hq) fun x ⟨x1, _, _⟩ => zab ⟨x1, y2.mono (by omega)⟩
 refine zaf (zxt hb z5 (by omega)) fun y ⟨y1, y2, y3, y4, y5⟩ => ?_
 refine zaf (zev hb y5 (by omega)) fun x ⟨x1, x2, x3, x4, x5⟩ => ?_
 have hg := y1.g
 refine zaf (zv5 y1 (by omega) (by omega) hg _) fun v hv => zab ⟨⟨y1.p, y1.q, hv⟩, x5.mono (by omega)⟩
theorem zrs {code c0 : List Int} {at_ seed n : Int} (hb : Bt code) (h : Cu code n (c0, at_, seed)) (hn : n ≤ 5000000000000000) : Rn (zcg c0 at_ seed) (fun z => Gw z.1 ∧ Cu code (n + 10) z.2) := by
 unfold zcg
 refine zaf (zqM hb h (by omega)) fun z ⟨z1, z2⟩ => ?_
 have g1 := z1.p
 have g2 := z1.q
 have g3 := z1.g
 refine zaf (zev hb z2 (by omega)) fun y ⟨_, _, _, _, y5⟩ => ?_
 rw [zaz (n := z.1.P + 2) (by omega) (by omega), zaz (n := z.1.Q + 1) (by omega) (by omega), zaz (n := z.1.P - 1) (by omega) (by omega), zaz (n := z.1.G + 1) (by omega) (by omega)]
 refine zaf (ψ := fun x => Gw (Group.mk x.2.1 x.2.2.1 x.2.2.2) ∧ Cu code (n + 10) x.1) ?_ fun x hx => zab hx
 refine zaj (fun _ => ?_) fun _ => zaj (fun _ => ?_) fun _ => zaj (fun _ => ?_) fun _ => zab ⟨z1.w, y5.mono (by omega)⟩
 ·refine zaf (zfj hb y5 (by omega) (by simp)) fun x ⟨x1, x2⟩ => zab ⟨?_, x2.mono (by omega)⟩
  simp only [List.mem_cons, List.not_mem_nil, or_false] at x1
  exact ⟨by show -10 ≤ x.1 ∧ x.1 ≤ _; omega, by show -10 ≤ z.1.Q ∧ z.1.Q ≤ _; omega, by show -10 ≤ z.1.G ∧ z.1.G ≤ _; omega⟩
 ·refine zaf (zfj hb y5 (by omega) (by simp)) fun x ⟨x1, x2⟩ => zab ⟨?_, x2.mono (by omega)⟩
  simp only [List.mem_cons, List.not_mem_nil, or_false] at x1
  exact ⟨by show -10 ≤ z.1.P ∧ z.1.P ≤ _; omega, by show -10 ≤ x.1 ∧ x.1 ≤ _; omega, by show -10 ≤ z.1.G ∧ z.1.G ≤ _; omega⟩
 refine zaf (zfj hb y5 (by omega) (by simp)) fun x ⟨x1, x2⟩ => zab ⟨?_, x2.mono (by omega)⟩
 simp only [List.mem_cons, List.not_mem_nil, or_false] at x1
 exact ⟨by show -10 ≤ z.1.P ∧ z.1.P ≤ _; omega, by show -10 ≤ z.1.Q ∧ z.1.Q ≤ _; omega, by show -10 ≤ x.1 ∧ x.1 ≤ _; omega⟩
theorem zpE {code c0 : List Int} {at_ seed n : Int} {gr : Group} (hb : Bt code) (h : Cu code n (c0, at_, seed)) (hn : n ≤ 7000000000000000) (hg : gr.Q ≤ 2100000000) : Rn (zbb c0 at_ seed gr) (fun z => 0 ≤ z.1 ∧ z.1 ≤ 2100000000 ∧ (2 ≤ gr.Q → z.1 < gr.Q) ∧ Cu code (n + 4) z.2) := by
 unfold zbb
 refine zaj (fun g => zab ⟨Int.le_refl 0, by show (0 : Int) ≤ _; omega, fun h => by simp at g; omega, h.mono (by omega)⟩) fun g => ?_
 have g : 2 ≤ gr.Q := by simp at g; omega
 refine zaf (zev hb h (by omega)) fun z ⟨z1, z2, z3, z4, z5⟩ => ?_
 refine zaf (zev hb z5 (by omega)) fun y ⟨y1, y2, y3, y4, y5⟩ => zam (by omega) (zab ?_)
 rw [zaz (n := z.1 * 60000) (by omega) (by omega), zaz (by omega) (by omega), Int.tmod_eq_emod_of_nonneg (by omega)]
 have b1 := Int.emod_nonneg (z.1 * 60000 + y.1) (show gr.Q ≠ 0 by omega)
 have b2 := Int.emod_lt_of_pos (z.1 * 60000 + y.1) (show 0 < gr.Q by omega)
 exact ⟨b1, by show _ % gr.Q ≤ _; omega, fun _ => b2, y5.mono (by omega)⟩
theorem zv1 {code c0 : List Int} {at_ seed n : Int} {gr : Group} {k : Nat} (hb : Bt code) (h : Cu code n (c0, at_, seed)) (hn : n ≤ 5000000000000000) (hg : Gw gr) (hk : k ≤ 1000000) : Rn (zcK c0 at_ seed gr (k : Int)) (fun z => z.1.length = k ∧ (∀ x ∈ z.1, 0 ≤ x ∧ x ≤ 2100000000 ∧ (2 ≤ gr.Q → x < gr.Q)) ∧ Cu code (n + 4 * k) z.2) := by
 unfold zcK
 refine zaf (ψ := fun r => r.2.length = k ∧ (∀ x ∈ r.2, 0 ≤ x ∧ x ≤ 2100000000 ∧ (2 ≤ gr.Q → x < gr.Q)) ∧ Cu code (n + 4 * k) r.1) (zeY k (fun j s => s.2.1 = (k : Int) - j ∧ s.2.2.length = j ∧ (∀ x ∈ s.2.2, 0 ≤ x ∧ x ≤ 2100000000 ∧ (2 ≤ gr.Q → x < gr.Q)) ∧ Cu code (n + 4 * j) s.1) ⟨by show (k : Int) = _; omega, rfl, by simp, h.mono (by omega)⟩ ?_ ?_) fun r hr => zab hr
 ·rintro j s hj ⟨h1, h2, h3, h4⟩
  refine zjh (by rw [h1]; simp; omega) (zaf (zpE hb h4 (by omega) hg.q.2) fun z ⟨z1, z2, z3, z4⟩ => zam (by omega) (zab ⟨?_, by simp [h2], fun x hx => ?_, z4.mono (by omega)⟩))
  ·show IntKind.i64.wrap (s.2.1 - 1) = _
   rw [h1, zaz (by omega) (by omega)]; omega
  rcases List.mem_append.1 hx with h | h
  ·exact h3 x h
  rw [List.mem_singleton.1 h]; exact ⟨z1, z2, z3⟩
 rintro s ⟨h1, h2, h3, h4⟩
 exact zcP (by rw [h1]; simp) (zab ⟨h2, h3, h4⟩)
theorem zqB {a q : Int} (h0 : 0 < q) (h1 : q ≤ 4000000000000000000) : zem a q = some (a % q) := by
 unfold zem
 rw [zdV (by omega), zdV (by omega)]
 have b1 : a.tmod q < q := Int.tmod_lt_of_pos a h0
 have b2 : -q < a.tmod q := by
  have := Int.lt_tmod_of_pos a h0
  omega
 rw [zaz (by omega) (by omega), Int.tmod_eq_emod_of_nonneg (by omega)]
 congr 1
 rw [Int.add_emod_right]
 rw [Int.tmod_def, Int.sub_emod, Int.mul_emod_right, Int.sub_zero, Int.emod_emod]
theorem zqR (a : Int) {m : Int} (h : 0 < m) : -m < a.tmod m ∧ a.tmod m < m := by
 have h1 := Int.tmod_lt_of_pos a h
 have h2 := Int.lt_tmod_of_pos a h
 omega
theorem ztT (a : Int) {e m : Int} (h1 : 1 ≤ m) (h2 : 0 ≤ e) (h3 : e ≤ 4000000000000000000) : Rn (zbw a e m) (fun v => -m < v ∧ v < m) := by
 unfold zbw
 refine zam (by omega) (zaf (ψ := fun v => -m < v ∧ v < m) (zfm (fun s => (-m < s.2.2 ∧ s.2.2 < m) ∧ 0 ≤ s.2.1 ∧ s.2.1 ≤ e) (fun s => s.2.1.toNat) ⟨zqR _ (by omega), h2, Int.le_refl _⟩ ?_) fun x hx => zab hx)
 rintro s ⟨hs, h4, h5⟩
 refine zaj (fun g => ?_) fun _ => zab hs
 have g : 0 < s.2.1 := by simpa using g
 refine zaf (ψ := fun v => -m < v ∧ v < m) (zaj (fun _ => zam (by omega) (zab (zqR _ (by omega)))) fun _ => zab hs) fun x hx => zam (by omega) (zab ?_)
 have e1 : s.2.1.tdiv 2 = s.2.1 / 2 := Int.tdiv_eq_ediv_of_nonneg (by omega)
 have e2 : IntKind.i64.wrap (s.2.1.tdiv 2) = s.2.1 / 2 := by rw [e1, zaz (by omega) (by omega)]
 exact ⟨⟨hx, by show 0 ≤ IntKind.i64.wrap _; rw [e2]; omega, by show IntKind.i64.wrap _ ≤ e; rw [e2]; omega⟩, by show (IntKind.i64.wrap _).toNat < _; rw [e2]; omega⟩
theorem zv9 {gr : Group} (hq : 1 ≤ gr.Q ∧ gr.Q ≤ 4000000000000000000) (hp : 1 ≤ gr.P) (x e : Int) : Rn (zaq gr x e) (fun v => -gr.P < v ∧ v < gr.P) := by
 unfold zaq
 refine zac (zqB (by omega) hq.2) (zaf (ztT x hp (Int.emod_nonneg _ (by omega)) ?_) fun v hv => zab hv)
 have := Int.emod_lt_of_pos e (show 0 < gr.Q by omega)
 omega
theorem ziX {code c0 : List Int} {at_ seed n : Int} {gr : Group} (hb : Bt code) (h : Cu code n (c0, at_, seed)) (hn : n ≤ 6000000000000000) (hg : Gw gr) : Rn (zaR c0 at_ seed gr) (fun z => -2200000000 ≤ z.1 ∧ z.1 ≤ 2200000000 ∧ Cu code (n + 4) z.2) := by
 have g1 := hg.p
 have g2 := hg.q
 unfold zaR
 refine zaf (ψ := fun b => b = false → 3 ≤ gr.P ∧ 1 ≤ gr.Q) (zaj (fun _ => zab fun h => by cases h) fun a => zab fun b => by simp at a b; omega) fun b hb' => zaj (fun _ => zab ⟨by show -2200000000 ≤ (1 : Int); decide, by show (1 : Int) ≤ _; decide, h.mono (by omega)⟩) fun e => ?_
 obtain ⟨k1, k2⟩ := hb' e
 refine zac (zqB (by omega) (by omega)) (zaf (zpE hb h (by omega) (by omega)) fun z ⟨z1, z2, _, z3⟩ => zaf (zv9 ⟨k2, by omega⟩ (by omega) _ _) fun v hv => zab ⟨by show _ ≤ v; omega, by show v ≤ _; omega, z3⟩)
theorem zfU {code c0 : List Int} {at_ seed n : Int} {gr : Group} (hb : Bt code) (h : Cu code n (c0, at_, seed)) (hn : n ≤ 5000000000000000) (hg : Gw gr) : Rn (zaW c0 at_ seed gr) (fun z => -2200000000 ≤ z.1 ∧ z.1 ≤ 2200000000 ∧ Cu code (n + 6) z.2) := by
 have g1 := hg.p
 unfold zaW
 refine zaf (zoq hb h (by omega)) fun z z1 => zaj (fun _ => ?_) fun _ => zaf (ziX hb z1 (by omega) hg) fun y ⟨y1, y2, y3⟩ => zab ⟨y1, y2, y3.mono (by omega)⟩
 rw [zaz (n := gr.P - 1) (by omega) (by omega)]
 refine zaf (zfj hb z1 (by omega) (by simp)) fun y ⟨y1, y2⟩ => zab ?_
 simp only [List.mem_cons, List.not_mem_nil, or_false] at y1
 exact ⟨by show -2200000000 ≤ y.1; omega, by show y.1 ≤ _; omega, y2.mono (by omega)⟩
theorem zl4 {l : List Int} : zcz l l = some true := by
 unfold zcz
 refine zau (zcP (by simp) (zaf (ψ := fun v => v = .inl ()) (zaV (fun _ _ => True) trivial ?_ fun s _ => rfl) ?_))
 ·rintro k s hk _
  exact zav hk (zav hk (zcP (by simp) (zab trivial)))
 rintro _ rfl
 exact zab rfl
def zbr (gr : Group) (c : Cipher) : Bool := zaw gr c.A && zaw gr c.B
theorem zvD {gr : Group} (k : OkG gr) {c : Cipher} (h : zbr gr c = true) : 0 ≤ c.A ∧ c.A ≤ 2000000000 ∧ 0 ≤ c.B ∧ c.B ≤ 2000000000 := by
 simp only [zbr, Bool.and_eq_true] at h
 have h1 := zf2 h.1
 have h2 := zf2 h.2
 have hp := k.p
 omega
theorem zyc {gr : Group} (k : OkG gr) (l : List Cipher) : Rn (zax l gr.P gr.Q gr.G) (fun x => (x = -1 ∧ l.all (zbr gr) = true) ∨ (0 ≤ x ∧ l.all (zbr gr) = false)) := by
 unfold zax
 refine zaf (ψ := fun x => (x = .inl () ∧ l.all (zbr gr) = true) ∨ (∃ j : Nat, x = .inr (j : Int) ∧ l.all (zbr gr) = false)) (zaV (fun n _ => ∀ m, m < n → ∀ h : m < l.length, zbr gr l[m] = true) (fun m hm => by omega) ?_ fun s hs => .inl ⟨rfl, ?_⟩) ?_
 ·rintro n s hn hI
  refine zav hn ?_
  unfold zdb
  refine zaf (ψ := fun b => b = !zbr gr l[n]) (zac (zqc k l[n]) (zab rfl)) ?_
  rintro _ rfl
  refine zaj (fun h => zab (.inr ⟨n, rfl, ?_⟩)) fun h => zab fun m hm hl => ?_
  ·rw [List.all_eq_false]
   exact ⟨l[n], List.getElem_mem hn, by simpa using h⟩
  rcases Nat.lt_or_ge m n with h1 | h1
  ·exact hI m h1 hl
  have : m = n := by omega
  subst this
  simpa using h
 ·rw [List.all_eq_true]
  intro x hx
  obtain ⟨m, hm, rfl⟩ := List.mem_iff_getElem.1 hx
  exact hs m hm hm
 rintro x (⟨rfl, h⟩ | ⟨j, rfl, h⟩)
 ·exact zab (.inl ⟨rfl, h⟩)
 exact zab (.inr ⟨by show (0 : Int) ≤ (j : Int); omega, h⟩)
theorem zoH {gr : Group} (k : OkG gr) (l : List Cipher) : zcH gr l = some (decide (l.length ≤ 24) && l.all (zbr gr)) := by
 unfold zcH
 refine zau (zaf (ψ := fun b => b = (decide (l.length ≤ 24) && l.all (zbr gr))) (zaj (fun h => ?_) fun h => zab ?_) fun b hb => zab hb)
 ·have h : l.length ≤ 24 := by simp at h; omega
  unfold zaF
  refine zaf (ψ := fun b => b = !l.all (zbr gr)) (zaf (zyc k l) fun x hx => zab ?_) ?_
  ·rcases hx with ⟨rfl, h⟩ | ⟨h0, h⟩
   ·rw [h]; rfl
   rw [h]; simpa using h0
  rintro _ rfl
  exact zab (by simp [h])
 have h : ¬ l.length ≤ 24 := by simp at h; omega
 simp [h]
theorem zvp {gr : Group} (k : OkG gr) (l : List Cipher) : zfV gr l = some (decide (l.length ≤ 24) && l.all (zbr gr)) := by
 unfold zfV
 by_cases h : 24 < (l.length : Int)
 ·rw [if_pos (by simpa using h)]
  have h : ¬ l.length ≤ 24 := by omega
  simp [h]
 rw [if_neg (by simpa using h)]
 refine (zu1 l (zbr gr) false (fun n hn => ?_)).trans ?_
 ·rw [zei hn, Option.bind_some, zmA k, Option.bind_some]
  have e : ([l[n].A, l[n].B].all (zaw gr)) = zbr gr l[n] := by simp [zbr]
  rw [e]
  cases zbr gr l[n] <;> rfl
 have h : l.length ≤ 24 := by omega
 cases l.all (zbr gr) <;> simp [h]
theorem zup {code c0 : List Int} {at_ seed n : Int} {gr : Group} (hb : Bt code) (h : Cu code n (c0, at_, seed)) (hn : n ≤ 4000000000000000) (hg : Gw gr) : Rn (zcA c0 at_ seed gr) (fun z => Cu code (n + 8) z.2) := by
 unfold zcA
 exact zaf (ziX hb h (by omega) hg) fun z ⟨_, _, z3⟩ => zaf (ziX hb z3 (by omega) hg) fun y ⟨_, _, y3⟩ => zab (y3.mono (by omega))
theorem zlG {code c0 : List Int} {at_ seed n : Int} {gr : Group} (hb : Bt code) (h : Cu code n (c0, at_, seed)) (hn : n ≤ 4000000000000000) (hg : Gw gr) : Rn (zbI c0 at_ seed gr) (fun z => Cu code (n + 12) z.2) := by
 unfold zbI
 exact zaf (zfU hb h (by omega) hg) fun z ⟨_, _, z3⟩ => zaf (zfU hb z3 (by omega) hg) fun y ⟨_, _, y3⟩ => zab (y3.mono (by omega))
theorem zwx {code c0 : List Int} {at_ seed n : Int} {k : Nat} (hb : Bt code) (h : Cu code n (c0, at_, seed)) (hn : n ≤ 4000000000000000) (hk : k ≤ 1000) : Rn (zc3 c0 at_ seed (k : Int)) (fun z => z.1.length = k ∧ Cu code (n + 2 * k + 2) z.2) := by
 unfold zc3
 refine zaf (ψ := fun l => l.length = k) (zeY k (fun j s => s.2 = (j : Int) ∧ s.1.length = j) ⟨rfl, rfl⟩ ?_ ?_) fun l hl => ?_
 ·rintro j ⟨l, i⟩ hj ⟨h1, h2⟩
  have h1 : i = (j : Int) := h1
  have h2 : l.length = j := h2
  subst h1
  refine zjh (by simp; omega) (zam (by dsimp only; omega) (zab ⟨?_, by simp [h2]⟩))
  show IntKind.i64.wrap ((j : Int) + 1) = _
  rw [zaz (by omega) (by omega)]; push_cast; rfl
 ·rintro ⟨l, i⟩ ⟨h1, h2⟩
  have h1 : i = (k : Int) := h1
  subst h1
  exact zcP (by simp) (zab h2)
 rw [zaz (n := (k : Int) - 1) (by omega) (by omega)]
 refine zaf (ψ := fun x => x.2.length = k ∧ Cu code (n + 2 * k + 2) x.1) (zfm (fun s => s.2.1.length = k ∧ -1 ≤ s.2.2 ∧ s.2.2 ≤ (k : Int) - 1 ∧ Cu code (n + 2 * ((k : Int) - 1 - s.2.2)) s.1) (fun s => s.2.2.toNat) ⟨hl, by dsimp only; omega, by dsimp only; omega, h.mono (by dsimp only; omega)⟩ ?_) fun x hx => zab hx
 rintro ⟨c, l, i⟩ ⟨h1, h2, h3, h4⟩
 have h1 : l.length = k := h1
 have h2 : -1 ≤ i := h2
 have h3 : i ≤ (k : Int) - 1 := h3
 have h4 : Cu code (n + 2 * ((k : Int) - 1 - i)) c := h4
 refine zaj (fun g => ?_) fun g => zab ⟨h1, h4.mono (by omega)⟩
 have g : 0 < i := by simpa using g
 obtain ⟨m, rfl⟩ := Int.eq_ofNat_of_zero_le (show 0 ≤ i by omega)
 dsimp only
 rw [zaz (n := (m : Int) + 1) (by omega) (by omega)]
 refine zaf (zev hb h4 (by omega)) fun z ⟨z1, _, z3, _, z5⟩ => ?_
 have z3 := z3 (by omega)
 obtain ⟨j, hj⟩ := Int.eq_ofNat_of_zero_le z1
 rw [hj]
 refine zav (show m < l.length by omega) (zav (show j < l.length by omega) (zav (show j < (l.set _ _).length by rw [List.length_set]; omega) (zab ⟨⟨by simp [h1], ?_, ?_, z5.mono ?_⟩, ?_⟩)))
 ·show -1 ≤ IntKind.i64.wrap ((m : Int) - 1)
  rw [zaz (by omega) (by omega)]; omega
 ·show IntKind.i64.wrap ((m : Int) - 1) ≤ _
  rw [zaz (by omega) (by omega)]; omega
 ·show _ ≤ n + 2 * ((k : Int) - 1 - IntKind.i64.wrap ((m : Int) - 1))
  rw [zaz (by omega) (by omega)]; omega
 show (IntKind.i64.wrap ((m : Int) - 1)).toNat < (m : Int).toNat
 rw [zaz (by omega) (by omega)]; omega
theorem zmB {code c0 : List Int} {at_ seed n : Int} {gr : Group} {k : Nat} (hb : Bt code) (h : Cu code n (c0, at_, seed)) (hn : n ≤ 3000000000000000) (hg : Gw gr) (hk : k ≤ 1000) : Rn (zbP c0 at_ seed gr (k : Int)) (fun z => z.1.length ≤ k + 1 ∧ Cu code (n + 4 * k + 20) z.2) := by
 unfold zbP
 refine zaf (zv1 hb h (by omega) hg (by omega)) fun z ⟨z1, _, z3⟩ => ?_
 refine zaf (zev hb z3 (by omega)) fun p ⟨_, _, _, _, p5⟩ => ?_
 refine zaf (ψ := fun v => Sum.elim (fun x => x.2.length ≤ k + 1 ∧ Cu code (n + 4 * k + 20) x.1) (fun y => y.1.length ≤ k + 1 ∧ Cu code (n + 4 * k + 20) y.2) v) ?_ ?_
 ·refine zaj (fun _ => zam (by omega) (zab ⟨by simp [z1], p5.mono (by omega)⟩)) fun _ => zaj (fun _ => zaj (fun g => ?_) fun _ => zab ⟨by dsimp only; omega, p5.mono (by omega)⟩) fun _ => zaj (fun _ => zaj (fun g => ?_) fun _ => zab ⟨by dsimp only; omega, p5.mono (by omega)⟩) fun _ => zab ⟨by dsimp only; omega, p5.mono (by omega)⟩
  ·have g : 0 < (k : Int) := by simpa using g
   exact zam (by omega) (zab ⟨by simp [z1]; omega, p5.mono (by omega)⟩)
  have g : 0 < (k : Int) := by simpa using g
  refine zaf (zev hb p5 (by omega)) fun q ⟨q1, q2, q3, _, q5⟩ => ?_
  refine zaf (zfj hb q5 (by omega) (by simp)) fun w ⟨_, w2⟩ => ?_
  obtain ⟨j, hj⟩ := Int.eq_ofNat_of_zero_le q1
  have hlt : j < z.1.length := by
   rcases Nat.lt_or_ge 1 k with h | h
   ·have := q3 (by omega); omega
   ·have := q2 (by omega); omega
  rw [hj]
  exact zav hlt (zab ⟨by show (z.1.set _ _).length ≤ _; rw [List.length_set]; omega, w2.mono (by omega)⟩)
 rintro (x | y) hx
 ·exact zab hx
 exact zab hx
theorem zvW {code c0 : List Int} {at_ seed n : Int} (hb : Bt code) (h : Cu code n (c0, at_, seed)) (hn : n ≤ 1000000000000000) : Rn (zcM c0 at_ seed) (fun z => Gw z.1 ∧ z.2.2.1.length ≤ 13 ∧ Cu code (n + 400) z.2.2.2.2.2) := by
 unfold zcM
 refine zaf (zqM hb h (by omega)) fun z ⟨z1, z2⟩ => zaf (zoq hb z2 (by omega)) fun y y1 => ?_
 refine zaf (ψ := fun x => Gw (Group.mk x.2.1 x.2.2.1 x.2.2.2) ∧ Cu code (n + 20) x.1) (zaj (fun _ => zaf (zrs hb y1 (by omega)) fun w ⟨w1, w2⟩ => zab ⟨w1, w2.mono (by omega)⟩) fun _ => zab ⟨z1.w, y1.mono (by omega)⟩) fun x ⟨x1, x2⟩ => ?_
 refine zaf (zev hb x2 (by omega)) fun p ⟨p1, _, p3, _, p5⟩ => ?_
 have p3 := p3 (by omega)
 obtain ⟨K, hK⟩ := Int.eq_ofNat_of_zero_le p1
 rw [hK, zaz (n := 1 + (K : Int)) (by omega) (by omega)]
 refine zaf (ψ := fun r => r.2.length = K + 1 ∧ Cu code (n + 60) r.1) (zeY (K + 1) (fun j s => s.2.2 = (K : Int) + 1 - j ∧ s.2.1.length = j ∧ Cu code (n + 22 + 8 * j) s.1) ⟨by dsimp only; omega, rfl, p5.mono (by omega)⟩ ?_ ?_) fun r ⟨r1, r2⟩ => ?_
 ·rintro j ⟨c, l, i⟩ hj ⟨h1, h2, h3⟩
  have h1 : i = (K : Int) + 1 - j := h1
  have h2 : l.length = j := h2
  refine zjh (by simp; omega) (zaf (zup hb h3 (by omega) x1) fun w w1 => zam (by dsimp only; omega) (zab ⟨?_, by simp [h2], w1.mono (by push_cast; omega)⟩))
  show IntKind.i64.wrap (i - 1) = _
  rw [zaz (by omega) (by omega)]; push_cast; omega
 ·rintro ⟨c, l, i⟩ ⟨h1, h2, h3⟩
  have h1 : i = (K : Int) + 1 - ((K + 1 : Nat) : Int) := h1
  exact zcP (by simp; omega) (zab ⟨h2, h3.mono (by omega)⟩)
 refine zaf (zwx hb r2 (by omega) (by omega)) fun u ⟨u1, u2⟩ => ?_
 refine zaf (zmB hb u2 (by omega) x1 (by omega)) fun v ⟨v1, v2⟩ => ?_
 refine zaf (zev hb v2 (by omega)) fun q ⟨_, _, _, _, q5⟩ => ?_
 refine zaf (ψ := fun x => x.2.1.length ≤ 13 ∧ Cu code (n + 300) x.1) (zaj (fun _ => ?_) fun _ => zaj (fun _ => ?_) fun _ => zaj (fun _ => zab ⟨by simp, q5.mono (by omega)⟩) fun _ => zaj (fun _ => ?_) fun _ => zab ⟨by dsimp only; omega, q5.mono (by omega)⟩) fun w ⟨w1, w2⟩ => ?_
 ·exact zaf (zlG hb q5 (by omega) x1) fun w w1 => zav (k := 0) (by omega) (zab ⟨by show (r.2.set _ _).length ≤ _; rw [List.length_set]; omega, w1.mono (by omega)⟩)
 ·exact zaf (zfj hb q5 (by omega) (by simp)) fun w ⟨_, w1⟩ => zav (k := 0) (by omega) (zab ⟨by dsimp only; omega, w1.mono (by omega)⟩)
 ·refine zfm (fun s => 1 ≤ s.2.length ∧ s.2.length ≤ 13 ∧ Cu code (n + 200 + 2 * s.2.length) s.1) (fun s => 13 - s.2.length) ⟨by dsimp only; omega, by dsimp only; omega, q5.mono (by dsimp only; omega)⟩ ?_
  rintro ⟨c, l⟩ ⟨h1, h2, h3⟩
  have h1 : 1 ≤ l.length := h1
  have h2 : l.length ≤ 13 := h2
  have h3 : Cu code (n + 200 + 2 * l.length) c := h3
  refine zaf (zev hb h3 (by omega)) fun w ⟨w1, _, w3, _, w5⟩ => ?_
  have w3 := w3 (by omega)
  dsimp only
  rw [zaz (n := 12 + w.1) (by omega) (by omega)]
  refine zaj (fun g => ?_) fun _ => zab ⟨by dsimp only; omega, w5.mono (by omega)⟩
  have g : (l.length : Int) < 12 + w.1 := by simpa using g
  exact zav (k := 0) (by omega) (zam (by omega) (zab ⟨⟨by simp, by simp; omega, w5.mono (by simp; omega)⟩, by simp; omega⟩))
 exact zaf (zfU hb w2 (by omega) x1) fun t ⟨_, _, t3⟩ => zab ⟨x1, w1, t3.mono (by omega)⟩
def byL (s : ByteArray) : List Int := s.data.toList.map fun b => (b.toNat : Int)
theorem zhh (s : ByteArray) : (byL s).length = s.size := by
 show (s.data.toList.map _).length = s.data.size
 rw [List.length_map, Array.length_toList]
theorem zs5 (s : ByteArray) : ∀ x ∈ byL s, 0 ≤ x ∧ x ≤ 255 := by
 intro x hx
 obtain ⟨b, _, rfl⟩ := List.mem_map.1 hx
 have := b.toNat_lt
 omega
theorem zyj {s : ByteArray} {k : Nat} (h : k < s.size) : ixs s (k : Int) = some ((byL s)[k]'(by rw [zhh]; exact h)) := by
 have h2 : k < s.data.size := h
 simp [ixs, byL, h]
 rfl
theorem zs3 (s : ByteArray) (l : List Int) (hs : s.size ≤ 1000000) (hl : l.length ≤ 1000000000000) : zfx s l = some ((s.size : Int) :: byL s ++ l) := by
 unfold zfx
 refine zau (zaf (ψ := fun x => x = (s.size : Int) :: byL s) (zeY s.size (fun n p => n ≤ s.size ∧ p = ((s.size : Int) :: (byL s).take n, (n : Int))) ⟨by omega, by simp⟩ ?_ ?_) ?_)
 ·rintro n p hn ⟨_, rfl⟩
  have hn2 : n < (byL s).length := by rw [zhh]; exact hn
  have hb := zs5 s _ (List.getElem_mem hn2)
  refine zaj (fun _ => ?_) fun h => absurd h (by simp; omega)
  refine zac (zyj hn) (zam ?_ (zab ⟨by omega, ?_⟩))
  ·simp only [List.length_cons, List.length_take, zhh]; omega
  show ((s.size : Int) :: (byL s).take n ++ [_], _) = _
  rw [zaz (by omega) (by omega), zaz (by omega) (by omega), List.cons_append, List.take_append_getElem hn2]
  rfl
 ·rintro p ⟨_, rfl⟩
  refine zaj (fun h => absurd h (by simp)) fun _ => zab ?_
  show (s.size : Int) :: (byL s).take s.size = _
  rw [List.take_of_length_le (by rw [zhh]; omega)]
 rintro _ rfl
 refine zam ?_ (zab rfl)
 simp only [List.length_cons, zhh]; omega
theorem zrz (s : ByteArray) (l : List Int) (hs : s.size ≤ 1000000) (hl : l.length ≤ 1000000000000) : zfO s l = some ((s.size : Int) :: byL s ++ l) := zs3 s l hs hl
def zbz (x : Int) : Bool := decide (0 ≤ x) && decide (x ≤ 4611686018427387903)
theorem zcI {x : Int} : zbz x = true ↔ 0 ≤ x ∧ x ≤ 4611686018427387903 := by simp [zbz]
theorem zrP (x : Int) : zeU x = some (zbz x) := by
 unfold zeU
 rw [zet]; rfl
theorem zro (x : Int) : zeQ x = some (zbz x) := by
 unfold zeQ
 rw [zgl]; rfl
theorem zvn (s : ByteArray) : (byL s).all zbz = true := by
 rw [List.all_eq_true]
 intro x hx
 have := zs5 s x hx
 exact zcI.2 ⟨by omega, by omega⟩
def hs1 (c s k : Int) : Int := (c * s + k + 1) % 2147483647
def ziq (p : Int × Int) (x : Int) : Int × Int := (hs1 48271 (hs1 48271 p.1 (x % 2147483648)) (x / 2147483648), hs1 69621 (hs1 69621 p.2 (x % 2147483648)) (x / 2147483648))
def zla (l : List Int) : Int := let p := (((l.length : Int) :: l).foldl ziq (1, 2)); p.1 * 2147483648 + p.2
theorem zjs (c s k : Int) : 0 ≤ hs1 c s k ∧ hs1 c s k ≤ 2147483646 := by unfold hs1; omega
theorem zhF {c s k : Int} (hc : c = 48271 ∨ c = 69621) (hs : 0 ≤ s ∧ s ≤ 2147483646) (hk : 0 ≤ k ∧ k ≤ 2147483648) : (IntKind.i64.wrap ((IntKind.i64.wrap ((IntKind.i64.wrap (c * s)) + k)) + 1)).tmod 2147483647 = hs1 c s k := by
 rcases hc with rfl | rfl
 ·rw [zaz (n := 48271 * s) (by omega) (by omega), zaz (n := 48271 * s + k) (by omega) (by omega), zaz (by omega) (by omega), Int.tmod_eq_emod_of_nonneg (by omega)]; rfl
 rw [zaz (n := 69621 * s) (by omega) (by omega), zaz (n := 69621 * s + k) (by omega) (by omega), zaz (by omega) (by omega), Int.tmod_eq_emod_of_nonneg (by omega)]; rfl
def okP (p : Int × Int) : Prop := (0 ≤ p.1 ∧ p.1 ≤ 2147483646) ∧ (0 ≤ p.2 ∧ p.2 ≤ 2147483646)
theorem zwh (p : Int × Int) (x : Int) : okP (ziq p x) := ⟨zjs _ _ _, zjs _ _ _⟩
theorem zig : ∀ (l : List Int) (p : Int × Int), okP p → okP (l.foldl ziq p)
 | [], _, h => h
 | x :: l, p, _ => zig l _ (zwh p x)
theorem ztz (l : List Int) : zbz (zla l) = true := by
 obtain ⟨h1, h2⟩ := zig ((l.length : Int) :: l) (1, 2) ⟨by decide, by decide⟩
 refine zcI.2 ?_
 unfold zla
 dsimp only
 omega
theorem zpm {p : Int × Int} {x : Int} (hp : okP p) (hx : zbz x = true) : zbR p.1 p.2 x = some (ziq p x) := by
 obtain ⟨h1, h2⟩ := hp
 have hx := zcI.1 hx
 have e1 : x.tmod 2147483648 = x % 2147483648 := Int.tmod_eq_emod_of_nonneg hx.1
 have e2 : IntKind.i64.wrap (x.tdiv 2147483648) = x / 2147483648 := by
  rw [Int.tdiv_eq_ediv_of_nonneg hx.1, zaz (by omega) (by omega)]
 have b1 : 0 ≤ x % 2147483648 ∧ x % 2147483648 ≤ 2147483648 := by omega
 have b2 : 0 ≤ x / 2147483648 ∧ x / 2147483648 ≤ 2147483648 := by omega
 have h0 : ix [x % 2147483648, x / 2147483648] 0 = some (x % 2147483648) := rfl
 have h1' : ix [x % 2147483648, x / 2147483648] 1 = some (x / 2147483648) := rfl
 unfold zbR
 rw [e1, e2, Option.bind_some, zjX]
 simp only [List.length_cons, List.length_nil, show decide ((0 : Int) < ((0 + 1 + 1 : Nat) : Int)) = true from rfl, if_true, h0, Option.bind_some, zhF (.inl rfl) h1 b1, zhF (.inr rfl) h2 b1]
 rw [zjX]
 simp only [show IntKind.i64.wrap (0 + 1) = 1 from rfl, show decide ((1 : Int) < ((0 + 1 + 1 : Nat) : Int)) = true from rfl, if_true, h1', Option.bind_some, zhF (.inl rfl) (zjs _ _ _) b2, zhF (.inr rfl) (zjs _ _ _) b2]
 rw [zjX]
 simp only [show IntKind.i64.wrap (1 + 1) = 2 from rfl, show decide ((2 : Int) < ((0 + 1 + 1 : Nat) : Int)) = false from rfl, Bool.false_eq_true, if_false, Option.bind_some]
 rfl
theorem zqx {l : List Int} (h : l.all zbz = true) {k : Nat} (hk : k < l.length) : zbz l[k] = true := List.all_eq_true.1 h _ (List.getElem_mem hk)
theorem zvF {l : List Int} (hl : l.length ≤ 1000000000000) (hd : l.all zbz = true) : zf3 l = some (zla l) := by
 unfold zf3
 have e0 := zpm (p := (1, 2)) (x := (l.length : Int)) ⟨by decide, by decide⟩ (zcI.2 ⟨by omega, by omega⟩)
 refine zau (zac e0 (zaf (ψ := fun p => p = ((l.length : Int) :: l).foldl ziq (1, 2)) (zaV (fun n p => p = ((l.length : Int) :: l.take n).foldl ziq (1, 2)) rfl ?_ ?_) ?_))
 ·rintro n p hn rfl
  refine zav hn (zac (zpm (zig _ _ ⟨by decide, by decide⟩) (zqx hd hn)) (zab ?_))
  show ziq _ _ = _
  rw [← List.take_append_getElem hn, ← List.cons_append, List.foldl_append]
  rfl
 ·rintro p rfl
  show (((l.length : Int) :: l.take l.length).foldl ziq (1, 2)) = _
  rw [List.take_length]
 rintro p rfl
 obtain ⟨h1, h2⟩ := zig ((l.length : Int) :: l) (1, 2) ⟨by decide, by decide⟩
 refine zab ?_
 rw [zaz (n := _ * 2147483648) (by omega) (by omega), zaz (by omega) (by omega)]
 rfl
theorem zuz {x : Int} (hx : zbz x = true) : IntKind.i64.wrap (BitVec.ofInt IntKind.i64.bits x &&& BitVec.ofInt IntKind.i64.bits 2147483647).toNat = x % 2147483648 := by
 have hx := zcI.1 hx
 obtain ⟨n, rfl⟩ := Int.eq_ofNat_of_zero_le hx.1
 have h1 : (BitVec.ofInt IntKind.i64.bits ((n : Nat) : Int) &&& BitVec.ofInt IntKind.i64.bits 2147483647).toNat = n % 2147483648 := by
  rw [BitVec.toNat_and]
  have a1 : (BitVec.ofInt IntKind.i64.bits (n : Int)).toNat = n := by
   rw [BitVec.toNat_ofInt]
   have : IntKind.i64.bits = 64 := rfl
   rw [this]
   omega
  have a2 : (BitVec.ofInt IntKind.i64.bits 2147483647).toNat = 2 ^ 31 - 1 := by decide
  rw [a1, a2, Nat.and_two_pow_sub_one_eq_mod]
 rw [h1, zaz (by omega) (by omega)]
 omega
theorem zyl {l : List Int} (hl : l.length ≤ 1000000000000) (hd : l.all zbz = true) : zgm l = some (zla l) := by
 unfold zgm
 have hd2 : ((l.length : Int) :: l).all zbz = true := by
  rw [List.all_cons, hd, Bool.and_true]
  exact zcI.2 ⟨by omega, by omega⟩
 refine zau (zam (by simp only [List.length_cons, List.length_nil]; omega) (zac rfl (zaf (ψ := fun p => p = ((l.length : Int) :: l).foldl ziq (1, 2)) (zaV (fun n p => p = (((l.length : Int) :: l).take n).foldl ziq (1, 2)) rfl ?_ ?_) ?_)))
 ·rintro n p hn rfl
  have ok := zig ((((l.length : Int) :: l)).take n) (1, 2) ⟨by decide, by decide⟩
  have dg := zqx hd2 hn
  have b := zcI.1 dg
  have ef : (((l.length : Int) :: l)[n]).fdiv 2147483648 = ((l.length : Int) :: l)[n] / 2147483648 := Int.fdiv_eq_ediv_of_nonneg _ (by omega)
  have hn' : n < ((l.length : Int) :: l).length := hn
  refine zav hn (zab ?_)
  show (_, _) = _
  simp only [List.singleton_append]
  rw [zuz dg, ef, zhF (.inl rfl) ok.1 (by omega), zhF (.inr rfl) ok.2 (by omega), zhF (.inl rfl) (zjs _ _ _) (by omega), zhF (.inr rfl) (zjs _ _ _) (by omega),
   ← List.take_append_getElem hn', List.foldl_append]
  rfl
 ·rintro p rfl
  show ((((l.length : Int) :: l).take ([(l.length : Int)] ++ l).length).foldl ziq (1, 2)) = _
  rw [List.singleton_append, List.take_length]
 rintro p rfl
 obtain ⟨h1, h2⟩ := zig ((l.length : Int) :: l) (1, 2) ⟨by decide, by decide⟩
 refine zab ?_
 rw [zaz (n := _ * 2147483648) (by omega) (by omega), zaz (by omega) (by omega)]
 rfl
def ziA (s : ByteArray) (l : List Int) : Int := zla ((s.size : Int) :: byL s ++ l)
theorem zmm (s : ByteArray) (l : List Int) : zbz (ziA s l) = true := ztz _
def zht (s : ByteArray) (l : List Int) : Bool := decide (s.size ≤ 40) && decide (1 + s.size + l.length ≤ 400) && l.all zbz
theorem zqZ {s : ByteArray} {l : List Int} (hs : s.size ≤ 1000000) : ((s.size : Int) :: byL s ++ l).all zbz = l.all zbz := by
 rw [List.cons_append, List.all_cons, List.all_append, zvn, zcI.2 ⟨by omega, by omega⟩, Bool.true_and, Bool.true_and]
theorem zlN {s : ByteArray} {l : List Int} (hs : s.size ≤ 1000000) (hl : l.length ≤ 100000000000) (hd : l.all zbz = true) : zdP s l = some (ziA s l) := by
 unfold zdP
 rw [zs3 s l hs (by omega), Option.bind_some, zvF (by simp [zhh]; omega) (by rw [zqZ hs]; exact hd)]
 rfl
theorem zpt (l : List Int) : zed l = some (decide (l.length ≤ 400) && l.all zbz) := by
 unfold zed
 have h1 : zcE l = some (l.all zbz) := zjS (f := zbU) fun x _ => by
  unfold zbU
  rw [zrP]; rfl
 rw [h1]
 by_cases h : l.length ≤ 400
 ·rw [if_pos (by simp; omega)]; simp [h]
 rw [if_neg (by simp; omega)]; simp [h]
theorem zrX (l : List Int) : zeS l = some (if (decide (l.length ≤ 400) && l.all zbz) = true then (zla l, true) else (0, false)) := by
 unfold zeS
 rw [zpt, Option.bind_some]
 cases h : (decide (l.length ≤ 400) && l.all zbz) with
 | true =>
  simp only [Bool.and_eq_true, decide_eq_true_eq] at h
  rw [zyl (by omega) h.2]; rfl
 | false => rfl
theorem zjG (s : ByteArray) (l : List Int) : zcr s l = some (if zht s l = true then (ziA s l, true) else (0, false)) := by
 unfold zcr
 by_cases h1 : s.size ≤ 40
 ·by_cases h2 : l.length ≤ 400
  ·rw [if_neg (by simp; omega), Option.bind_some, if_neg (by simp; omega), zrz s l (by omega) (by omega), Option.bind_some, zrX, zqZ (by omega)]
   have e : ((s.size : Int) :: byL s ++ l).length = 1 + s.size + l.length := by simp [zhh]; omega
   rw [e]
   have e2 : zht s l = (decide (1 + s.size + l.length ≤ 400) && l.all zbz) := by simp [zht, h1]
   rw [e2]
   cases decide (1 + s.size + l.length ≤ 400) <;> cases l.all zbz <;> rfl
  rw [if_neg (by simp; omega), Option.bind_some, if_pos (by simp; omega)]
  have : zht s l = false := by
   have : ¬ 1 + s.size + l.length ≤ 400 := by omega
   simp [zht, this]
  rw [this]; rfl
 rw [if_pos (by simp; omega), Option.bind_some, if_pos rfl]
 have : zht s l = false := by simp [zht, h1]
 rw [this]; rfl
theorem ztg {p : Nat} (hp : Pr p) {b : Nat} (h1 : 1 ≤ b) (h2 : b < p) : ∀ e : Nat, b ^ e % p ≠ 0
 | 0 => by
  have := hp.1
  rw [Nat.pow_zero, Nat.mod_eq_of_lt (by omega)]; omega
 | e + 1 => fun h => by
  have hb : ((b ^ e : Nat) : Int) % (p : Int) = 0 ∨ (b : Int) % (p : Int) = 0 := zjz hp (by
   rw [← Int.natCast_mul, ← Nat.pow_succ, ← Int.natCast_emod, h]; rfl)
  rcases hb with h3 | h3
  ·exact ztg hp h1 h2 e (by rw [← Int.natCast_emod] at h3; omega)
  ·rw [← Int.natCast_emod, Nat.mod_eq_of_lt h2] at h3; omega
def zky (gr : Group) (s : ByteArray) (k c : Int) : Int := 1 + ziA s [gr.P, gr.Q, gr.G, k, c] % (gr.P - 1)
def zfk (gr : Group) (s : ByteArray) (k c : Int) : Int := (((zky gr s k c).toNat ^ ((gr.P - 1) / gr.Q).toNat % gr.P.toNat : Nat) : Int)
theorem znl {gr : Group} (k : OkG gr) (s : ByteArray) (i c : Int) : 1 ≤ zky gr s i c ∧ zky gr s i c ≤ gr.P - 1 := by
 have hp := k.p
 have h1 := Int.emod_nonneg (ziA s [gr.P, gr.Q, gr.G, i, c]) (show gr.P - 1 ≠ 0 by omega)
 have h2 := Int.emod_lt_of_pos (ziA s [gr.P, gr.Q, gr.G, i, c]) (show 0 < gr.P - 1 by omega)
 unfold zky
 omega
theorem zqs {gr : Group} (k : OkG gr) (s : ByteArray) (i c : Int) : 1 ≤ zfk gr s i c ∧ zfk gr s i c ≤ gr.P - 1 := by
 have hp := k.p
 have hx := znl k s i c
 have h1 := ztg k.pp (b := (zky gr s i c).toNat) (by omega) (by omega) ((gr.P - 1) / gr.Q).toNat
 have h2 := Nat.mod_lt ((zky gr s i c).toNat ^ ((gr.P - 1) / gr.Q).toNat) (show 0 < gr.P.toNat by omega)
 unfold zfk
 omega
theorem zq1 {gr : Group} (k : OkG gr) (s : ByteArray) (i c : Int) :
 zc7 (IntKind.i64.wrap (1 + ((ziA s [gr.P, gr.Q, gr.G, i, c]).tmod (IntKind.i64.wrap (gr.P - 1))))) (IntKind.i64.wrap ((IntKind.i64.wrap (gr.P - 1)).tdiv gr.Q)) gr.P = some (zfk gr s i c) ∧
 zbw (IntKind.i64.wrap (1 + ((ziA s [gr.P, gr.Q, gr.G, i, c]).tmod (IntKind.i64.wrap (gr.P - 1))))) (IntKind.i64.wrap ((IntKind.i64.wrap (gr.P - 1)).tdiv gr.Q)) gr.P = some (zfk gr s i c) := by
 have hp := k.p
 have hq := k.q
 have hd := zcI.1 (zmm s [gr.P, gr.Q, gr.G, i, c])
 have hx := znl k s i c
 have e1 : IntKind.i64.wrap (gr.P - 1) = gr.P - 1 := zaz (by omega) (by omega)
 have e2 : IntKind.i64.wrap (1 + ((ziA s [gr.P, gr.Q, gr.G, i, c]).tmod (gr.P - 1))) = zky gr s i c := by
  rw [Int.tmod_eq_emod_of_nonneg hd.1]
  unfold zky at hx ⊢
  exact zaz (by omega) (by omega)
 have h3 : (gr.P - 1) / gr.Q ≤ gr.P - 1 := Int.ediv_le_self _ (by omega)
 have h4 : 0 ≤ (gr.P - 1) / gr.Q := Int.ediv_nonneg (by omega) (by omega)
 have e3 : IntKind.i64.wrap ((gr.P - 1).tdiv gr.Q) = (gr.P - 1) / gr.Q := by
  rw [Int.tdiv_eq_ediv_of_nonneg (by omega), zaz (by omega) (by omega)]
 rw [e1, e2, e3]
 exact zfY (by omega) (by omega) (by omega) (by omega) h4 (by omega)
theorem zq4 {gr : Group} (k : OkG gr) {i c : Int} (hi : zbz i = true) (hc : 0 ≤ c ∧ c ≤ 1000) : [gr.P, gr.Q, gr.G, i, c].all zbz = true := by
 have hp := k.p
 have hq := k.q
 have hg := k.g
 simp only [List.all_cons, List.all_nil, Bool.and_true, Bool.and_eq_true]
 exact ⟨zcI.2 (by omega), zcI.2 (by omega), zcI.2 (by omega), hi, zcI.2 (by omega)⟩
def zhL (gr : Group) (s : ByteArray) (i y : Int) : Prop := (∃ c : Nat, c < 1000 ∧ y = zfk gr s i c ∧ zfk gr s i c ≠ 1 ∧ ∀ j : Nat, j < c → zfk gr s i j = 1) ∨ (y = 0 ∧ ∀ j : Nat, j < 1000 → zfk gr s i j = 1)
theorem zko {gr : Group} (k : OkG gr) {s : ByteArray} {i x y : Int} (h1 : zhL gr s i x) (h2 : zhL gr s i y) : x = y := by
 rcases h1 with ⟨c, hc, rfl, h3, h4⟩ | ⟨rfl, h4⟩ <;> rcases h2 with ⟨d, hd, rfl, h5, h6⟩ | ⟨rfl, h6⟩
 ·rcases Nat.lt_trichotomy c d with h | h | h
  ·exact absurd (h6 c h) h3
  ·rw [h]
  exact absurd (h4 d h) h5
 ·exact absurd (h6 c hc) h3
 ·exact absurd (h4 d hd) h5
 rfl
theorem zwi {gr : Group} (k : OkG gr) {s : ByteArray} {i x : Int} (h1 : zhL gr s i x) : 0 ≤ x ∧ x ≤ gr.P - 1 := by
 have hp := k.p
 rcases h1 with ⟨c, hc, rfl, h3, h4⟩ | ⟨rfl, h4⟩
 ·have := zqs k s i c; omega
 omega
theorem zsa {gr : Group} (k : OkG gr) {s : ByteArray} (hs : s.size ≤ 40) {i : Int} (hi : zbz i = true) : Rn (zcS gr s i) (zhL gr s i) := by
 have hp := k.p
 have hq := k.q
 unfold zcS
 refine zaf (ψ := fun x => (x = .inl () ∧ ∀ j : Nat, j < 1000 → zfk gr s i j = 1) ∨ ∃ c : Nat, c < 1000 ∧ x = .inr (zfk gr s i c) ∧ zfk gr s i c ≠ 1 ∧ ∀ j : Nat, j < c → zfk gr s i j = 1)
  (zeY 1000 (fun n p => p = (n : Int) ∧ n ≤ 1000 ∧ ∀ j : Nat, j < n → zfk gr s i j = 1) ⟨rfl, by omega, fun j hj => by omega⟩ ?_ ?_) ?_
 ·rintro n p hn ⟨rfl, _, hI⟩
  refine zaj (fun _ => ?_) fun h => absurd h (by simp; omega)
  refine zac (zlN (by omega) (by simp) (zq4 k hi (by omega))) (zam (by rw [zaz (by omega) (by omega)]; omega) (zam (by omega) (zac (zq1 k s i n).2 (zaj (fun h => zab (.inr ⟨n, hn, rfl, by simpa using h, hI⟩)) fun h => zab ⟨by rw [zaz (by omega) (by omega)]; rfl, hn, fun j hj => ?_⟩))))
  rcases Nat.lt_or_ge j n with h1 | h1
  ·exact hI j h1
  have : j = n := by omega
  subst this
  simpa using h
 ·rintro p ⟨rfl, _, hI⟩
  refine zaj (fun h => absurd h (by simp)) fun _ => zab (.inl ⟨rfl, hI⟩)
 rintro x (⟨rfl, h⟩ | ⟨c, hc, rfl, h⟩)
 ·exact zab (.inr ⟨rfl, h⟩)
 exact zab (.inl ⟨c, hc, rfl, h⟩)
theorem zuH {gr : Group} (k : OkG gr) {s : ByteArray} (hs : s.size ≤ 40) {i : Int} (hi : zbz i = true) : Rn (zbG gr s i) (fun x => zhL gr s i x.1 ∧ x.2 = decide (0 < x.1)) := by
 have hp := k.p
 have hq := k.q
 unfold zbG
 refine zaf (ψ := fun x => (x = .inl () ∧ ∀ j : Nat, j < 1000 → zfk gr s i j = 1) ∨ ∃ c : Nat, c < 1000 ∧ x = .inr (zfk gr s i c, true) ∧ zfk gr s i c ≠ 1 ∧ ∀ j : Nat, j < c → zfk gr s i j = 1)
  (zeY 1000 (fun n p => p = (n : Int) ∧ n ≤ 1000 ∧ ∀ j : Nat, j < n → zfk gr s i j = 1) ⟨rfl, by omega, fun j hj => by omega⟩ ?_ ?_) ?_
 ·rintro n p hn ⟨rfl, _, hI⟩
  refine zaj (fun _ => ?_) fun h => absurd h (by simp; omega)
  have hl : zht s [gr.P, gr.Q, gr.G, i, (n : Int)] = true := by
   have := zq4 k (i := i) (c := n) hi (by omega)
   simp only [zht, this, Bool.and_true, List.length_cons, List.length_nil, Bool.and_eq_true, decide_eq_true_eq]
   omega
  have eh : zcr s [gr.P, gr.Q, gr.G, i, (n : Int)] = some (ziA s [gr.P, gr.Q, gr.G, i, (n : Int)], true) := by rw [zjG, if_pos hl]
  refine zac eh (zcP rfl (zam (by rw [zaz (by omega) (by omega)]; omega) (zam (by omega) (zac (zq1 k s i n).1 (zaj (fun h => zab (.inr ⟨n, hn, rfl, by simpa using h, hI⟩)) fun h => zab ⟨by rw [zaz (by omega) (by omega)]; rfl, hn, fun j hj => ?_⟩)))))
  rcases Nat.lt_or_ge j n with h1 | h1
  ·exact hI j h1
  have : j = n := by omega
  subst this
  simpa using h
 ·rintro p ⟨rfl, _, hI⟩
  refine zaj (fun h => absurd h (by simp)) fun _ => zab (.inl ⟨rfl, hI⟩)
 rintro x (⟨rfl, h⟩ | ⟨c, hc, rfl, h⟩)
 ·exact zab ⟨.inr ⟨rfl, h⟩, rfl⟩
 have := zqs k s i c
 exact zab ⟨.inl ⟨c, hc, rfl, h⟩, by symm; simp; omega⟩
theorem zva {gr : Group} (k : OkG gr) {s : ByteArray} (hs : s.size ≤ 40) {i : Int} (hi : zbz i = true) : ∃ y, zcS gr s i = some y ∧ zbG gr s i = some (y, decide (0 < y)) ∧ zhL gr s i y := by
 obtain ⟨y, h1, h2⟩ := zsa k hs hi
 obtain ⟨⟨z, t⟩, h3, h4, h5⟩ := zuH k hs hi
 refine ⟨y, h1, ?_, h2⟩
 simp only at h4 h5
 have : z = y := zko k h4 h2
 subst this
 rw [h3, h5]
theorem zqv {α : Type} {R : Nat → α → Prop} {l : List α} {n : Nat} {z : α} (hl : l.length = n) (h : ∀ j (h : j < l.length), R j l[j]) (hz : R n z) : ∀ j (h : j < (l ++ [z]).length), R j (l ++ [z])[j] := by
 intro j hj
 rw [List.getElem_append]
 split
 ·exact h j _
 have hj : j < n + 1 := by simpa [hl] using hj
 have e : j = n := by omega
 subst e
 simpa [hl] using hz
def znd (gr : Group) (n : Nat) (l : List Int) : Prop := l.length = n ∧ ∀ j (h : j < l.length), zhL gr ⟨#[104, 115]⟩ j l[j]
theorem zvw {gr : Group} (k : OkG gr) {n : Nat} (hn : n ≤ 24) : ∃ b t, zdn gr (n : Int) = some (b, t) ∧ zaM gr (n : Int) = some (b, t) ∧
 (t = true → zhL gr ⟨#[104]⟩ 0 b.H ∧ 0 < b.H ∧ znd gr n b.Hs ∧ ∀ x ∈ b.Hs, 0 < x) := by
 have hp := k.p
 obtain ⟨y, hy1, hy2, hy3⟩ := zva k (s := ⟨#[104]⟩) (by decide) (i := 0) rfl
 have hok : okG gr = true := zls.2 k
 have D : ∀ m : Nat, m < 24 → ∃ z, zcS gr ⟨#[104, 115]⟩ m = some z ∧ zbG gr ⟨#[104, 115]⟩ m = some (z, decide (0 < z)) ∧ zhL gr ⟨#[104, 115]⟩ m z := fun m hm => zva k (by decide) (zcI.2 ⟨by omega, by omega⟩)
 have S : Rn (zdk gr ⟨#[104, 115]⟩ (n : Int)) (fun x => (x.2 = true ∧ znd gr n x.1 ∧ ∀ z ∈ x.1, 0 < z) ∨ (x = ([], false) ∧ ∃ m : Nat, m < n ∧ zhL gr ⟨#[104, 115]⟩ m 0)) := by
  unfold zdk
  refine zaf (ψ := fun b => b = false) ?_ ?_
  ·refine zac (ziu gr) (zcP (by rw [hok]; rfl) (zcP rfl (zac (zgl _ _ _) (zab ?_))))
   simp; omega
  ·rintro _ rfl
   refine zcP rfl (zaf (ψ := fun x => (∃ l, x = .inl l ∧ znd gr n l ∧ ∀ z ∈ l, 0 < z) ∨ (x = .inr ([], false) ∧ ∃ m : Nat, m < n ∧ zhL gr ⟨#[104, 115]⟩ m 0)) (zeY n (fun m p => p.2 = (m : Int) ∧ m ≤ n ∧ znd gr m p.1 ∧ ∀ z ∈ p.1, 0 < z) ⟨rfl, by omega, ⟨rfl, fun j hj => by simp at hj⟩, fun z hz => by simp at hz⟩ ?_ ?_) ?_)
   ·rintro m ⟨l, c⟩ hm ⟨h1, _, hD, hpos⟩
    simp only at h1 hD hpos
    subst h1
    obtain ⟨z, z1, z2, z3⟩ := D m (by omega)
    have zb := zwi k z3
    refine zaj (fun _ => ?_) fun h => absurd h (by simp; omega)
    refine zac z1 (zaj (fun h => zab (.inr ⟨rfl, m, hm, ?_⟩)) fun h => zam ?_ (zab ⟨?_, hm, ⟨by simp [hD.1], zqv hD.1 hD.2 z3⟩, fun w hw => ?_⟩))
    ·have : z = 0 := by simpa using h
     rw [← this]; exact z3
    ·have := hD.1; simp only; omega
    ·show IntKind.i64.wrap _ = _
     rw [zaz (by omega) (by omega)]; rfl
    ·rcases List.mem_append.1 hw with h1 | h1
     ·exact hpos w h1
     ·have : w = z := by simpa using h1
      subst this
      have : ¬ w = 0 := by simpa using h
      omega
   ·rintro ⟨l, _⟩ ⟨rfl, _, hD⟩
    exact zaj (fun h => absurd h (by simp)) fun _ => zab (.inl ⟨l, rfl, hD⟩)
   ·rintro x (⟨l, rfl, h⟩ | ⟨rfl, h⟩)
    ·exact zab (.inl ⟨rfl, h⟩)
    ·exact zab (.inr ⟨rfl, h⟩)
 have I : Rn (zbX (σ := Int × List Int × Bool × Int) (β := Int × List Int × Bool) (fun s16 =>
 if decide (s16.2.2.2 < (n : Int)) = true then (
 (zbG gr (⟨#[104, 115]⟩ : ByteArray) s16.2.2.2).bind fun z22 =>
 ((if s16.2.2.1 = true then (
 some z22.2) else (
 some false) : Option Bool).bind fun x25 =>
 gd ((s16.2.1.length + 1) * 8 ≤ 140737488355328 ∧ s16.2.1.length + 1 ≤ 4611686018427387904) <|
 some (.go (s16.1, s16.2.1 ++ [z22.1], x25, IntKind.i64.wrap (s16.2.2.2 + 1))))) else (
 some (.out (s16.1, s16.2.1, s16.2.2.1)))) (y, [], true, 0)) (fun x => x.1 = y ∧ znd gr n x.2.1 ∧ x.2.2 = x.2.1.all (fun z => decide (0 < z))) := by
  refine zeY n (fun m p => p.1 = y ∧ p.2.2.2 = (m : Int) ∧ m ≤ n ∧ znd gr m p.2.1 ∧ p.2.2.1 = p.2.1.all (fun z => decide (0 < z))) ⟨rfl, rfl, by omega, ⟨rfl, fun j hj => by simp at hj⟩, rfl⟩ ?_ ?_
  ·rintro m ⟨w, l, t, c⟩ hm ⟨h1, h2, _, hD, h3⟩
   simp only at h1 h2 hD h3
   subst h1 h2 h3
   obtain ⟨z, z1, z2, z3⟩ := D m (by omega)
   refine zaj (fun _ => ?_) fun h => absurd h (by simp; omega)
   refine zac z2 (zaf (ψ := fun b => b = (l.all (fun z => decide (0 < z)) && decide (0 < z))) (zaj (fun h => zab ?_) fun h => zab ?_) ?_)
   ·simp only at h; rw [h]; rfl
   ·simp only at h; rw [h]; rfl
   ·rintro _ rfl
    refine zam (by have := hD.1; dsimp only; omega) (zab ⟨rfl, ?_, hm, ⟨by simp [hD.1], zqv hD.1 hD.2 z3⟩, ?_⟩)
    ·show IntKind.i64.wrap ((m : Int) + 1) = _
     rw [zaz (by omega) (by omega)]; rfl
    ·show _ = (l ++ [z]).all _
     simp
  ·rintro ⟨w, l, t, c⟩ ⟨h1, h2, _, hD, h3⟩
   simp only at h1 h2 hD h3
   subst h1 h2 h3
   exact zaj (fun h => absurd h (by simp)) fun _ => zab ⟨rfl, hD, rfl⟩
 obtain ⟨⟨b, l, t⟩, i1, i2, i3, i4⟩ := I
 simp only at i2 i3 i4
 subst i2
 obtain ⟨⟨l2, t2⟩, s1, s2⟩ := S
 have E : t2 = t ∧ (t = true → l2 = l ∧ ∀ z ∈ l, 0 < z) := by
  rcases s2 with ⟨h1, h2, h3⟩ | ⟨h1, m, hm, h3⟩
  ·simp only at h1 h2 h3
   have e : l2 = l := List.ext_getElem (h2.1.trans i3.1.symm) fun j a c => zko k (h2.2 j a) (i3.2 j c)
   subst e
   have : l2.all (fun z => decide (0 < z)) = true := by simpa using h3
   rw [this] at i4
   exact ⟨by rw [h1, i4], fun _ => ⟨rfl, h3⟩⟩
  ·cases h1
   have hml : m < l.length := by rw [i3.1]; exact hm
   have : l[m] = 0 := zko k (i3.2 m hml) h3
   have hf : l.all (fun z => decide (0 < z)) = false := by
    rw [List.all_eq_false]
    exact ⟨l[m], List.getElem_mem hml, by simp [this]⟩
   rw [hf] at i4
   exact ⟨i4.symm, fun h => by rw [i4] at h; cases h⟩
 have S0 : zdn gr (n : Int) = some (if (decide (0 < b) && t2) = true then (⟨b, l2⟩, true) else (⟨0, []⟩, false)) := by
  have hD : zdt gr ⟨#[104]⟩ 0 = some (b, decide (0 < b)) := by
   unfold zdt
   rw [ziu, hok]
   simp only [Option.bind_some, Bool.not_true, Bool.false_eq_true, if_false]
   rw [if_neg (show ¬ (decide (40 < (((⟨#[104]⟩ : ByteArray).size : Nat) : Int)) = true) by decide), zro, Option.bind_some, Option.bind_some, if_neg (by decide), hy1, Option.bind_some]
  unfold zdn
  rw [ziu, hok]
  simp only [Option.bind_some, Bool.not_true, Bool.false_eq_true, if_false]
  rw [zgl, Option.bind_some, Option.bind_some, if_neg (by simp; omega), hD, Option.bind_some, s1, Option.bind_some]
  cases decide (0 < b) <;> cases t2 <;> rfl
 have I0 : zaM gr (n : Int) = some (if (decide (0 < b) && t) = true then (⟨b, l⟩, true) else (⟨0, []⟩, false)) := by
  unfold zaM
  rw [hy2, Option.bind_some, i1, Option.bind_some]
  cases decide (0 < b) <;> cases t <;> rfl
 obtain ⟨rfl, E2⟩ := E
 cases hb : (decide (0 < b) && t2) with
 | false =>
  rw [hb] at S0 I0
  exact ⟨_, _, S0, I0, fun h => by cases h⟩
 | true =>
  rw [hb] at S0 I0
  simp only [Bool.and_eq_true, decide_eq_true_eq] at hb
  obtain ⟨rfl, hpos⟩ := E2 hb.2
  exact ⟨_, _, S0, I0, fun _ => ⟨hy3, hb.1, i3, hpos⟩⟩
theorem zwC {α β γ : Type} {l : List α} {f : α → β} {body : Int → List β → Option (Stp (List β) γ)} {stop : List β → γ} (a0 : List β) (hs : ∀ k (h : k < l.length) (s : List β), s.length = a0.length + k → body (k : Int) s = some (.go (s ++ [f l[k]]))) :
 zar body stop l.length 0 a0 = some (stop (a0 ++ l.map f)) := by
 refine zau (zaV (fun k s => s = a0 ++ (l.take k).map f ∧ k ≤ l.length) ⟨by simp, by omega⟩ ?_ ?_)
 ·rintro k s hk ⟨rfl, _⟩
  refine ⟨_, hs k hk _ (by simp; omega), ?_, hk⟩
  rw [List.take_succ_eq_append_getElem hk, List.map_append, List.append_assoc]; rfl
 rintro s ⟨rfl, _⟩
 simp
theorem zwL {γ : Type} {m : Nat} (p : Nat → Bool) (c d : γ) {body : Int → Unit → Option (Stp Unit (Unit ⊕ γ))} (h : ∀ k, k < m → body (k : Int) () = some (if p k = true then .go () else .out (.inr c))) :
 (zar body (fun _ => .inl ()) m 0 ()).bind (Sum.elim (fun _ => some d) some) = some (if (List.range m).all p = true then d else c) := by
 rcases zjB (body := body) m p (fun _ => c) h with ⟨e, h1⟩ | ⟨k, h1, h2, h3, e⟩
 ·have : (List.range m).all p = true := by
   rw [List.all_eq_true]; intro x hx; exact h1 x (List.mem_range.1 hx)
  rw [e, this]; rfl
 have : (List.range m).all p = false := by
  rw [List.all_eq_false]; exact ⟨k, List.mem_range.2 h1, by simp [h2]⟩
 rw [e, this]; rfl
def inB (a b x : Int) : Bool := decide (a ≤ x) && decide (x ≤ b)
theorem zic {l : List Int} (h : l.length ≤ 1048576) : zdy l = some l := zdV (by omega)
def itr {σ : Type} (f : Nat → σ → σ) : Nat → σ → σ
 | 0, s => s
 | n + 1, s => f n (itr f n s)
theorem zni {σ : Type} {f : Nat → σ → σ} {I : Nat → σ → Prop} {s0 : σ} (h0 : I 0 s0) {m : Nat} (h : ∀ k s, k < m → I k s → I (k + 1) (f k s)) : ∀ k, k ≤ m → I k (itr f k s0)
 | 0, _ => h0
 | k + 1, hk => h k _ (by omega) (zni h0 h k (by omega))
theorem zxg {σ β : Type} {body : Int → σ → Option (Stp σ β)} {stop : σ → β} {m : Nat} {s0 : σ} (f : Nat → σ → σ) (I : Nat → σ → Prop) (h0 : I 0 s0) (hi : ∀ k s, k < m → I k s → I (k + 1) (f k s)) (hs : ∀ k s, k < m → I k s → body (k : Int) s = some (.go (f k s))) :
 zar body stop m 0 s0 = some (stop (itr f m s0)) := by
 refine zau (zaV (fun k s => s = itr f k s0 ∧ k ≤ m) ⟨rfl, by omega⟩ ?_ ?_)
 ·rintro k s hk ⟨rfl, _⟩
  exact ⟨_, hs k _ hk (zni h0 hi k (by omega)), rfl, hk⟩
 rintro s ⟨rfl, _⟩; rfl
theorem zke {α : Type} {L : List (List α)} {i : Nat} (h : i < L.length) : (L.take (i + 1)).flatten = (L.take i).flatten ++ L[i] := by
 rw [List.take_succ_eq_append_getElem h, List.flatten_append]; simp
theorem zoN {α : Type} (L : List (List α)) (i : Nat) : (L.take i).flatten.length ≤ L.flatten.length := by
 have e : L.flatten = (L.take i).flatten ++ (L.drop i).flatten := by rw [← List.flatten_append, List.take_append_drop]
 rw [e, List.length_append]; omega
theorem zn5 (L : List (List Int)) (h : L.flatten.length ≤ 1000000000000) : zbx L = some L.flatten := by
 unfold zbx
 refine zau (zaf (ψ := fun n => n = (L.flatten.length : Int)) (zaV (fun i s => s = ((L.take i).flatten.length : Int)) rfl ?_ ?_) ?_)
 ·rintro i s hi rfl
  have e := congrArg List.length (zke hi)
  rw [List.length_append] at e
  have hl := zoN L (i + 1)
  refine zav hi ?_
  rw [zaz (by omega) (by omega)]
  refine zcP (by simp only [decide_eq_false_iff_not]; omega) (zab ?_)
  show _ = _
  omega
 ·rintro s rfl
  rw [List.take_length]
 rintro n rfl
 refine zam (by omega) (zaf (ψ := fun r => r = L.flatten) (zaV (fun i s => s = (L.take i).flatten) rfl ?_ ?_) fun r hr => zab hr)
 ·rintro i s hi rfl
  have e := congrArg List.length (zke hi)
  rw [List.length_append] at e
  have hl := zoN L (i + 1)
  refine zav hi (zam (by omega) (zab ?_))
  show _ = _
  rw [zke hi]
 rintro s rfl
 rw [List.take_length]
def chG (gr : Group) (s : ByteArray) (l : List Int) : Int := ziA s ([gr.P, gr.Q, gr.G] ++ l) % gr.Q
theorem ztG {gr : Group} (k : OkG gr) (s : ByteArray) (l : List Int) : 0 ≤ chG gr s l ∧ chG gr s l < gr.Q := by
 have := k.q
 exact ⟨Int.emod_nonneg _ (by omega), Int.emod_lt_of_pos _ (by omega)⟩
theorem zqH {gr : Group} (k : OkG gr) {l : List Int} : ([gr.P, gr.Q, gr.G] ++ l).all zbz = l.all zbz := by
 have hp := k.p
 have hq := k.q
 have hg := k.g
 rw [List.all_append]
 have : [gr.P, gr.Q, gr.G].all zbz = true := by
  simp only [List.all_cons, List.all_nil, Bool.and_true, Bool.and_eq_true]
  exact ⟨zcI.2 (by omega), zcI.2 (by omega), zcI.2 (by omega)⟩
 rw [this, Bool.true_and]
theorem zit {gr : Group} (k : OkG gr) {s : ByteArray} {l : List Int} (hs : s.size ≤ 1000000) (hl : l.length ≤ 10000000000) (hd : l.all zbz = true) : zcQ gr s l = some (chG gr s l) := by
 have hq := k.q
 have hb := zcI.1 (zmm s ([gr.P, gr.Q, gr.G] ++ l))
 unfold zcQ
 rw [zdV (by simp only [List.length_cons, List.length_nil]; omega), zlN hs (by simp only [List.length_append, List.length_cons, List.length_nil]; omega) (by rw [zqH k]; exact hd), Option.bind_some, zdV (by omega), Int.tmod_eq_emod_of_nonneg hb.1]
 rfl
theorem zo6 {gr : Group} (k : OkG gr) (s : ByteArray) {l : List Int} (hl : l.length ≤ 10000000000) : zbl gr s l = some (if zht s ([gr.P, gr.Q, gr.G] ++ l) = true then (chG gr s l, true) else (0, false)) := by
 have hq := k.q
 have hb := zcI.1 (zmm s ([gr.P, gr.Q, gr.G] ++ l))
 unfold zbl
 rw [zdV (by simp only [List.length_cons, List.length_nil]; omega), zjG, Option.bind_some]
 cases zht s ([gr.P, gr.Q, gr.G] ++ l) with
 | false => rfl
 | true =>
  simp only [if_true, Bool.not_true, Bool.false_eq_true, if_false]
  rw [zdV (by omega), Int.tmod_eq_emod_of_nonneg hb.1]
  rfl
theorem zrE {gr : Group} (k : OkG gr) {s : ByteArray} {l : List Int} (hs : s.size ≤ 40) (hl : 4 + s.size + l.length ≤ 400) (hd : l.all zbz = true) : zht s ([gr.P, gr.Q, gr.G] ++ l) = true := by
 unfold zht
 rw [zqH k, hd, Bool.and_true, Bool.and_eq_true, decide_eq_true_eq, decide_eq_true_eq]
 simp only [List.length_append, List.length_cons, List.length_nil]
 omega
theorem zgK {gr : Group} (k : OkG gr) {l : List Int} (h : l.all (zaw gr) = true) : l.all zbz = true := by
 have hp := k.p
 rw [List.all_eq_true] at h ⊢
 intro x hx
 have := zf2 (h x hx)
 exact zcI.2 (by omega)
def zbq (gr : Group) : List Int → List Int → Int → Int
 | x :: l, e :: m, o => zbq gr l m (o * zaJ gr x e % gr.P)
 | _, _, o => o
theorem zkq (gr : Group) : ∀ (l m : List Int) (x e o : Int), l.length = m.length → zbq gr (l ++ [x]) (m ++ [e]) o = zbq gr l m o * zaJ gr x e % gr.P
 | [], [], x, e, o, _ => rfl
 | y :: l, f :: m, x, e, o, h => zkq gr l m x e _ (by simpa using h)
theorem zmg (gr : Group) : ∀ (l m : List Int) (o : Int), zbq gr l (m.take l.length) o = zbq gr l m o
 | [], m, o => by cases m <;> rfl
 | y :: l, [], o => rfl
 | y :: l, f :: m, o => zmg gr l m _
theorem znE {gr : Group} (h : 0 < gr.P) : ∀ (l m : List Int) (o : Int), 0 ≤ o ∧ o < gr.P → 0 ≤ zbq gr l m o ∧ zbq gr l m o < gr.P
 | x :: l, e :: m, o, _ => znE h l m _ ⟨Int.emod_nonneg _ (by omega), Int.emod_lt_of_pos _ h⟩
 | [], _, o, ho => ho
 | _ :: _, [], o, ho => ho
theorem znA {gr : Group} (k : OkG gr) {x y : Int} (hx : 0 ≤ x ∧ x < gr.P) (hy : 0 ≤ y) : zbc gr [x, y] = x * y % gr.P := by
 have hp := k.p
 simp only [zbc, List.foldl_cons, List.foldl_nil, Int.one_mul]
 rw [Int.emod_eq_of_lt hx.1 hx.2]
theorem zgc {gr : Group} (k : OkG gr) {l m : List Int} (hl : ∀ x ∈ l, 0 ≤ x ∧ x ≤ 2000000000) (hm : l.length ≤ m.length) : zbZ gr l m = some (zbq gr l m 1) := by
 have hp := k.p
 unfold zbZ
 refine zau (zaf (ψ := fun b => b = zbq gr l m 1) (zaV (fun i s => s = zbq gr (l.take i) (m.take i) 1) rfl ?_ ?_) fun b hb => zab hb)
 ·rintro i s hi rfl
  have bd := znE (gr := gr) (by omega) (l.take i) (m.take i) 1 (by omega)
  have hx := hl l[i] (List.getElem_mem hi)
  have pb := zjw k l[i] (m[i]'(by omega))
  refine zav hi (zav (show i < m.length by omega) (zac (zwF k hx.1 hx.2 _) (zam (by omega) (zab ?_))))
  show _ = zbq gr (l.take (i + 1)) (m.take (i + 1)) 1
  rw [List.take_succ_eq_append_getElem hi, List.take_succ_eq_append_getElem (show i < m.length by omega), zkq _ _ _ _ _ _ (by simp; omega)]
  have b1 := Int.mul_nonneg bd.1 pb.1
  have b2 : zbq gr (l.take i) (m.take i) 1 * zaJ gr l[i] (m[i]'(by omega)) ≤ 2000000000 * 2000000000 := Int.mul_le_mul (by omega) (by omega) pb.1 (by omega)
  rw [zaz (by omega) (by omega), Int.tmod_eq_emod_of_nonneg b1]
 rintro s rfl
 rw [List.take_length, zmg]
theorem zeN {gr : Group} (k : OkG gr) {l m : List Int} (hl : ∀ x ∈ l, 0 ≤ x ∧ x ≤ 2000000000) (hm : l.length ≤ m.length) : zaZ gr l m = some (zbq gr l m 1) := by
 have hp := k.p
 unfold zaZ
 refine zau (zaf (ψ := fun b => b = zbq gr l m 1) (zaV (fun i s => s = zbq gr (l.take i) (m.take i) 1) rfl ?_ ?_) fun b hb => zab hb)
 ·rintro i s hi rfl
  have bd := znE (gr := gr) (by omega) (l.take i) (m.take i) 1 (by omega)
  have hx := hl l[i] (List.getElem_mem hi)
  have pb := zjw k l[i] (m[i]'(by omega))
  refine zav hi (zav (show i < m.length by omega) (zac (zlk k hx.1 hx.2 _).1 (zac (zjY k ?_) (zab ?_))))
  ·intro y hy
   simp only [List.mem_cons, List.not_mem_nil, or_false] at hy
   rcases hy with rfl | rfl <;> omega
  show _ = zbq gr (l.take (i + 1)) (m.take (i + 1)) 1
  rw [List.take_succ_eq_append_getElem hi, List.take_succ_eq_append_getElem (show i < m.length by omega), zkq _ _ _ _ _ _ (by simp; omega), znA k bd pb.1]
 rintro s rfl
 rw [List.take_length, zmg]
structure LinS (gr : Group) (bs : List (List Int)) : Prop where
 n : 1 ≤ bs.length ∧ bs.length ≤ 8
 m : 1 ≤ (bs.headD []).length ∧ (bs.headD []).length ≤ 8
 r : ∀ r ∈ bs, r.length = (bs.headD []).length ∧ r.all (zaw gr) = true
theorem LinS.dig {gr : Group} (k : OkG gr) {bs : List (List Int)} (h : LinS gr bs) : bs.flatten.all zbz = true := by
 rw [List.all_eq_true]
 intro x hx
 obtain ⟨r, hr, hx⟩ := List.mem_flatten.1 hx
 exact List.all_eq_true.1 (zgK k (h.r r hr).2) x hx
theorem zv8 {gr : Group} (k : OkG gr) {l : List Int} (h : l.all (zaw gr) = true) : ∀ x ∈ l, 0 ≤ x ∧ x ≤ 2000000000 := fun x hx => by
 have hp := k.p
 have := zf2 (List.all_eq_true.1 h x hx)
 omega
theorem zlm {gr : Group} (k : OkG gr) : zaw gr gr.G = true := by
 have hg := k.g
 simp only [zaw, Bool.and_eq_true, decide_eq_true_eq]
 exact ⟨by omega, k.o⟩
theorem zwN {β γ : Type} {n : Nat} {f : Nat → β} {body : Int → List β → Option (Stp (List β) γ)} {stop : List β → γ} (hs : ∀ k (s : List β), k < n → s.length = k → body (k : Int) s = some (.go (s ++ [f k]))) :
 zar body stop n 0 [] = some (stop ((List.range n).map f)) := by
 refine zau (zaV (fun k s => s = (List.range k).map f) rfl ?_ ?_)
 ·rintro k s hk rfl
  refine ⟨_, hs k _ hk (by simp), ?_⟩
  show _ = _
  rw [List.range_succ, List.map_append]; rfl
 rintro s rfl; rfl
def zAZ {α : Type} (f : α → Int) (L : List α) (T : Nat) : List α := (List.range T).flatMap fun i => L.filter fun e => f e == ((i + 1 : Nat) : Int)
theorem zqF {gr : Group} {a b : Int} (x : Int) (h : a % gr.Q = b % gr.Q) : zaJ gr x a = zaJ gr x b := by
 unfold zaJ; rw [h]
structure Gb (gr : Group) : Prop where
 p : 1 ≤ gr.P ∧ gr.P ≤ 2000000000
 q : 1 ≤ gr.Q ∧ gr.Q ≤ 2000000000
 g : 0 ≤ gr.G ∧ gr.G ≤ 2000000000
theorem Gb.w {gr : Group} (k : Gb gr) : Gw gr := by
 have a := k.p
 have b := k.q
 have c := k.g
 exact ⟨by omega, by omega, by omega⟩
theorem ztf : ∀ {l v : List Int}, l.Nodup → (∀ x ∈ l, x ∈ v) → l.length ≤ v.length
 | [], v, _, _ => by simp
 | x :: l, v, hn, hs => by
  obtain ⟨h1, h2⟩ := List.nodup_cons.1 hn
  have hx := hs x (by simp)
  have := ztf (l := l) (v := v.erase x) h2 fun y hy => (List.mem_erase_of_ne (show y ≠ x from fun e => h1 (e ▸ hy))).2 (hs y (List.mem_cons_of_mem _ hy))
  rw [List.length_erase_of_mem hx] at this
  have := List.length_pos_of_mem hx
  rw [List.length_cons]; omega
theorem zqK {gr : Group} {x : Int} : zez gr x = true ↔ 0 ≤ x ∧ x < gr.Q := by
 unfold zez
 simp only [Bool.and_eq_true, decide_eq_true_eq]
 omega
theorem zfG {gr : Group} (k : OkG gr) {l : List Int} (h : ∀ x ∈ l, zaw gr x = true) : ∀ x ∈ l, 0 ≤ x ∧ x ≤ 2000000000 := zv8 k (List.all_eq_true.2 h)
theorem ziC {gr : Group} (k : OkG gr) (v : Int) : za4 gr v = some (v % gr.Q) := by
 have hp := k.p
 have hq := k.q
 unfold za4
 rw [zu9 (by omega) (by omega)]; rfl
theorem zal {α : Type} {l : List α} {d : α} {i : Nat} (h : i < l.length) : l.getD i d = l[i] := by
 rw [List.getD_eq_getElem?_getD, List.getElem?_eq_getElem h]; rfl
theorem zhp {code c0 : List Int} {at_ seed n : Int} {m : Nat} (hb : Bt code) (h : Cu code n (c0, at_, seed)) (hn : n ≤ 8000000000000000) (hm : 1 ≤ m) : Rn (zag c0 at_ seed (m : Int)) (fun z => (∃ i : Nat, z.1 = (i : Int) ∧ i < m) ∧ Cu code (n + 2) z.2) := by
 obtain ⟨z, h1, h2, h3, h4, _, h5⟩ := zev (m := (m : Int)) hb h hn
 obtain ⟨i, hi⟩ := Int.eq_ofNat_of_zero_le h2
 refine ⟨z, h1, ⟨i, hi, ?_⟩, h5⟩
 rcases Nat.lt_or_ge 1 m with h6 | h6
 ·have := h4 (by omega); omega
 have := h3 (by omega); omega
def lp (k : Nat) (p : Proof) : Prop := p.Commits.length ≤ k ∧ p.Challenges.length ≤ k ∧ p.Responses.length ≤ k
theorem zkA {code : List Int} {n : Int} {k : Nat} {c : List Int × Int × Int} {a b d : List Int} (hb : Bt code) (hc : Cu code n c) (hn : n ≤ 5000000000000000) (ha : a.length ≤ k) (hb2 : b.length ≤ k) (hd : d.length ≤ k) (hk : k ≤ 100000) :
 Rn ((zag c.1 c.2.1 c.2.2 10).bind fun z16 =>
  ((if (z16.1 == 0) = true then (gd ((a.length + 1) * 8 ≤ 140737488355328 ∧ a.length + 1 ≤ 4611686018427387904) <| some (a ++ [1], b, d)) else (if (z16.1 == 1) = true then (some (a, b, [])) else (if (z16.1 == 2) = true then (gd ((b.length + 1) * 8 ≤ 140737488355328 ∧ b.length + 1 ≤ 4611686018427387904) <| some (a, b ++ [0], d)) else (some (a, b, d)))) : Option ((List Int × List Int × List Int))).bind fun x19 =>
  some ((Proof.mk x19.1 x19.2.1 x19.2.2), (z16.2.1, z16.2.2.1, z16.2.2.2)))) (fun z => lp (k + 1) z.1 ∧ Cu code (n + 2) z.2) := by
 refine zaf (zev hb hc (by omega)) fun z ⟨_, _, _, _, z5⟩ => ?_
 refine zaf (ψ := fun (r : List Int × List Int × List Int) => r.1.length ≤ k + 1 ∧ r.2.1.length ≤ k + 1 ∧ r.2.2.length ≤ k + 1) (zaj (fun _ => zam (by omega) (zab ⟨by simp; omega, by show b.length ≤ _; omega, by show d.length ≤ _; omega⟩)) fun _ => zaj (fun _ => zab ⟨by show a.length ≤ _; omega, by show b.length ≤ _; omega, by simp⟩) fun _ => zaj (fun _ => zam (by omega) (zab ⟨by show a.length ≤ _; omega, by simp; omega, by show d.length ≤ _; omega⟩)) fun _ => zab ⟨by show a.length ≤ _; omega, by show b.length ≤ _; omega, by show d.length ≤ _; omega⟩) fun r hr => zab ⟨hr, z5⟩
theorem zl5 {code : List Int} {n : Int} {gr : Group} {c : List Int × Int × Int} {l : List Int} {β : Type} {f : List Int → β} (hb : Bt code) (hc : Cu code n c) (hn : n ≤ 4000000000000000) (hg : Gw gr) (hl : l.length ≤ 100000) :
 Rn (if decide (0 < (l.length : Int)) = true then ((zag c.1 c.2.1 c.2.2 (l.length : Int)).bind fun z11 => (ix l z11.1).bind fun x12 => (zbb z11.2.1 z11.2.2.1 z11.2.2.2 gr).bind fun z13 => (zaR z13.2.1 z13.2.2.1 z13.2.2.2 gr).bind fun z14 =>
  (zao z14.2.1 z14.2.2.1 z14.2.2.2 [z13.1, z14.1, (-1), gr.Q, IntKind.i64.wrap (x12 + 1)]).bind fun z15 => some ((z15.2.1, z15.2.2.1, z15.2.2.2), f (l.set z11.1.toNat z15.1))) else (some ((c.1, c.2.1, c.2.2), f l))) (fun x => (∃ l', l'.length = l.length ∧ x.2 = f l') ∧ Cu code (n + 12) x.1) := by
 have hq := hg.q
 refine zaj (fun h => ?_) fun _ => zab ⟨⟨l, rfl, rfl⟩, hc.mono (by omega)⟩
 have h := of_decide_eq_true h
 refine zaf (zhp hb hc (by omega) (by omega)) fun z ⟨⟨i, hi, hl'⟩, z2⟩ => ?_
 rw [hi]
 refine zav hl' (zaf (zpE hb z2 (by omega) (by omega)) fun y ⟨_, _, _, y4⟩ => zaf (ziX hb y4 (by omega) hg) fun x ⟨_, _, x3⟩ => zaf (zfj hb x3 (by omega) (by simp)) fun w ⟨_, w2⟩ => zab ⟨⟨_, ?_, rfl⟩, w2.mono (by omega)⟩)
 simp
theorem zya {code c0 : List Int} {at_ seed n : Int} {gr : Group} {p : Proof} {k : Nat} (hb : Bt code) (h : Cu code n (c0, at_, seed)) (hn : n ≤ 3000000000000000) (hg : Gw gr) (hp : lp k p) (hk : k ≤ 100000) :
 Rn (zc6 c0 at_ seed gr p) (fun z => lp (k + 1) z.1 ∧ Cu code (n + 30) z.2) := by
 obtain ⟨p1, p2, p3⟩ := hp
 unfold zc6
 rw [zic (by omega), Option.bind_some, zic (by omega), Option.bind_some, zic (by omega), Option.bind_some]
 refine zaf (zoq hb h (by omega)) fun z z1 => zaj (fun _ => zab ⟨⟨by show p.Commits.length ≤ _; omega, by show p.Challenges.length ≤ _; omega, by show p.Responses.length ≤ _; omega⟩, z1.mono (by omega)⟩) fun _ => ?_
 refine zaf (zhp (m := 3) hb z1 (by omega) (by omega)) fun y ⟨⟨i, hi, h3⟩, y2⟩ => ?_
 refine zaj (fun _ => ?_) fun h0 => zaj (fun _ => ?_) fun h1 => zaj (fun _ => ?_) fun h2 => ?_
 ·refine zaf (zl5 (c := y.2) (f := fun l => (l, p.Challenges, p.Responses)) hb y2 (by omega) hg (by omega)) fun x ⟨⟨l, e1, e2⟩, x2⟩ => ?_
  rw [e2]
  exact zlc (zkA (k := k) hb x2 (by omega) (by show l.length ≤ k; omega) p2 p3 hk) fun z hz => ⟨hz.1, hz.2.mono (by omega)⟩
 ·refine zaf (zl5 (c := y.2) (f := fun l => (p.Commits, l, p.Responses)) hb y2 (by omega) hg (by omega)) fun x ⟨⟨l, e1, e2⟩, x2⟩ => ?_
  rw [e2]
  exact zlc (zkA (k := k) hb x2 (by omega) p1 (by show l.length ≤ k; omega) p3 hk) fun z hz => ⟨hz.1, hz.2.mono (by omega)⟩
 ·refine zaf (zl5 (c := y.2) (f := fun l => (p.Commits, p.Challenges, l)) hb y2 (by omega) hg (by omega)) fun x ⟨⟨l, e1, e2⟩, x2⟩ => ?_
  rw [e2]
  exact zlc (zkA (k := k) hb x2 (by omega) p1 p2 (by show l.length ≤ k; omega) hk) fun z hz => ⟨hz.1, hz.2.mono (by omega)⟩
 rw [hi] at h0 h1 h2
 have h0 : ¬ (i : Int) = 0 := by simpa using h0
 have h1 : ¬ (i : Int) = 1 := by simpa using h1
 have h2 : ¬ (i : Int) = 2 := by simpa using h2
 omega
def R9 (x : Int) : Prop := 0 ≤ x ∧ x ≤ 2000000000
theorem zdo {gr : Group} (k : OkG gr) {x : Int} (h : zaw gr x = true) : R9 x := by
 have := zf2 h; have := k.p; exact ⟨by omega, by omega⟩
theorem za8 {gr : Group} (k : OkG gr) (x e : Int) : R9 (zaJ gr x e) := by
 have := zjw k x e; have := k.p; exact ⟨by omega, by omega⟩
theorem zrh {x y : Int} (hx : R9 x) (hy : R9 y) : ∀ z ∈ [x, y], 0 ≤ z ∧ z ≤ 2000000000 := by
 intro z hz
 simp only [List.mem_cons, List.not_mem_nil, or_false] at hz
 rcases hz with rfl | rfl
 ·exact hx
 exact hy
theorem zmq {gr : Group} (k : OkG gr) {l : List Int} (h : ∀ x ∈ l, 0 ≤ x ∧ x ≤ 2000000000) : R9 (zbc gr l) := by
 have := zvQ k h; have := k.p; exact ⟨by omega, by omega⟩
theorem zf4 {gr : Group} (k : OkG gr) {x y : Int} (hx : R9 x) (hy : R9 y) : R9 (zbc gr [x, y]) := zmq k (zrh hx hy)
theorem zBL {l : List Int} (h : ∀ x ∈ l, R9 x) : l.all zbz = true := List.all_eq_true.2 fun x hx => zcI.2 ⟨(h x hx).1, by have := (h x hx).2; omega⟩
theorem m2I {gr : Group} (k : OkG gr) {x y : Int} (hx : R9 x) (hy : R9 y) : zan gr [x, y] = some (zbc gr [x, y]) := zjY k (zrh hx hy)
theorem m2S {gr : Group} (k : OkG gr) {x y : Int} (hx : R9 x) (hy : R9 y) : zaP gr [x, y] = some (zbc gr [x, y]) := zmX k (zrh hx hy)
theorem pwI {gr : Group} (k : OkG gr) {x : Int} (hx : R9 x) (e : Int) : zai gr x e = some (zaJ gr x e) := (zlk k hx.1 hx.2 e).1
theorem pwS {gr : Group} (k : OkG gr) {x : Int} (hx : R9 x) (e : Int) : zaq gr x e = some (zaJ gr x e) := (zlk k hx.1 hx.2 e).2
theorem r_G {gr : Group} (k : OkG gr) : R9 gr.G := zdo k (zlm k)
theorem zmV {gr : Group} (k : OkG gr) {n : Nat} (h0 : n < gr.P.toNat) (h : n ^ gr.Q.toNat % gr.P.toNat = 1) : zaw gr (n : Int) = true := by
 have hp := k.p
 have hq := k.q
 have h1 : 1 ≤ n := by
  rcases Nat.eq_zero_or_pos n with h2 | h2
  ·rw [h2, Nat.zero_pow (by omega), Nat.zero_mod] at h; omega
  ·exact h2
 simp only [zaw, Bool.and_eq_true, decide_eq_true_eq]
 exact ⟨⟨by omega, by omega⟩, by rw [Int.toNat_natCast]; exact h⟩
theorem zkP {gr : Group} (k : OkG gr) {x : Int} (hx : zaw gr x = true) (e : Int) : zaw gr (zaJ gr x e) = true := by
 have hp := k.p
 refine zmV k (Nat.mod_lt _ (by omega)) ?_
 rw [← Nat.pow_mod, ← Nat.pow_mul, Nat.mul_comm, Nat.pow_mul, Nat.pow_mod, (zk9 hx).2.2, Nat.one_pow, Nat.mod_eq_of_lt (by omega)]
theorem zkU {gr : Group} (k : OkG gr) {x y : Int} (hx : zaw gr x = true) (hy : zaw gr y = true) : zaw gr (zbc gr [x, y]) = true := by
 have hp := k.p
 have bx := zf2 hx
 have by' := zf2 hy
 rw [znA k ⟨by omega, by omega⟩ (by omega)]
 obtain ⟨a, rfl⟩ := Int.eq_ofNat_of_zero_le (show 0 ≤ x by omega)
 obtain ⟨b, rfl⟩ := Int.eq_ofNat_of_zero_le (show 0 ≤ y by omega)
 obtain ⟨p, hP⟩ := Int.eq_ofNat_of_zero_le (show 0 ≤ gr.P by omega)
 have h1 := (zk9 hx).2.2
 have h2 := (zk9 hy).2.2
 rw [Int.toNat_natCast] at h1 h2
 have e : ((a : Int) * (b : Int)) % gr.P = ((a * b % gr.P.toNat : Nat) : Int) := by rw [hP, Int.toNat_natCast, Int.natCast_emod, Int.natCast_mul]
 rw [e]
 refine zmV k (Nat.mod_lt _ (by omega)) ?_
 rw [← Nat.pow_mod, Nat.mul_pow, Nat.mul_mod, h1, h2, Nat.mod_eq_of_lt (by omega)]
theorem znz {gr : Group} (k : OkG gr) : zaw gr 1 = true := by
 have hp := k.p
 exact zmV (n := 1) k (by omega) (by rw [Nat.one_pow, Nat.mod_eq_of_lt (by omega)])
theorem zpq {p a b : Int} (h : a % p = b % p) : (a - b) % p = 0 := by rw [Int.sub_emod, h, Int.sub_self, Int.zero_emod]
def prI (l : List Int) : Int := l.foldr (· * ·) 1
theorem zuy {l m : List Int} (h : l.Perm m) : prI l = prI m := by
 induction h with
 | nil => rfl
 | cons x _ ih => show x * prI _ = x * prI _; rw [ih]
 | swap x y l => show y * (x * prI l) = x * (y * prI l); rw [← Int.mul_assoc, ← Int.mul_assoc, Int.mul_comm y x]
 | trans _ _ h1 h2 => rw [h1, h2]
theorem zqt : ∀ {l m : List Int}, l.Nodup → (∀ x ∈ l, x ∈ m) → m.length ≤ l.length → l.Perm m
 | [], m, _, _, h => by rw [List.length_eq_zero_iff.1 (show m.length = 0 by simpa using h)]
 | x :: l, m, hn, hs, h => by
  obtain ⟨h1, h2⟩ := List.nodup_cons.1 hn
  have hx := hs x (by simp)
  have hl : (m.erase x).length = m.length - 1 := List.length_erase_of_mem hx
  have := zqt (l := l) (m := m.erase x) h2 (fun y hy => by
   have hy2 := hs y (List.mem_cons_of_mem _ hy)
   exact (List.mem_erase_of_ne (fun e => h1 (by rw [← e]; exact hy))).2 hy2) (by rw [List.length_cons] at h; omega)
  exact (this.cons x).trans (List.perm_cons_erase hx).symm
theorem zqJ {p a : Int} : ∀ l : List Int, prI (l.map fun i => (a * i) % p) % p = (a ^ l.length * prI l) % p
 | [] => by simp [prI]
 | x :: l => by
  have ih := zqJ (p := p) (a := a) l
  show ((a * x) % p * prI (l.map fun i => (a * i) % p)) % p = (a ^ (l.length + 1) * (x * prI l)) % p
  rw [Int.mul_emod, Int.emod_emod, ih, ← Int.mul_emod]
  congr 1
  rw [Int.pow_succ]
  grind
theorem ztr {p : Nat} (hp : Pr p) (h2 : 2 ≤ p) : ∀ {l : List Int}, (∀ x ∈ l, x % (p : Int) ≠ 0) → prI l % (p : Int) ≠ 0
 | [], _ => by show (1 : Int) % (p : Int) ≠ 0; rw [Int.emod_eq_of_lt (by omega) (by omega)]; omega
 | x :: l, h => fun e => by
  rcases zjz hp (a := x) (b := prI l) e with e | e
  ·exact h x (by simp) e
  ·exact ztr hp h2 (fun y hy => h y (List.mem_cons_of_mem _ hy)) e
theorem zw7 {p : Nat} (hp : Pr p) (h2 : 2 ≤ p) {a : Nat} (ha : 1 ≤ a) (hap : a < p) : a ^ (p - 1) % p = 1 := by
 let L : List Int := (List.range (p - 1)).map fun (i : Nat) => (i : Int) + 1
 have hL : ∀ x, x ∈ L ↔ 1 ≤ x ∧ x ≤ (p : Int) - 1 := by
  intro x
  simp only [L, List.mem_map, List.mem_range]
  constructor
  ·rintro ⟨i, hi, rfl⟩; omega
  ·rintro ⟨h1, h2⟩; exact ⟨(x - 1).toNat, by omega, by omega⟩
 have hN : L.Nodup := List.Pairwise.map _ (fun a b (h : a ≠ b) => by omega) List.nodup_range
 have inj : ∀ x ∈ L, ∀ y ∈ L, ((a : Int) * x) % p = ((a : Int) * y) % p → x = y := by
  intro x hx y hy e
  have hx := (hL x).1 hx
  have hy := (hL y).1 hy
  have e2 : ((a : Int) * (x - y)) % (p : Int) = 0 := by
   rw [Int.mul_sub]; exact zpq e
  rcases zjz hp e2 with e3 | e3
  ·rw [Int.emod_eq_of_lt (by omega) (by omega)] at e3; omega
  ·obtain ⟨c, hc⟩ := Int.dvd_of_emod_eq_zero e3
   have : c = 0 := by
    rcases Int.lt_trichotomy c 0 with h | h | h
    ·have : (p : Int) * c ≤ (p : Int) * (-1) := Int.mul_le_mul_of_nonneg_left (by omega) (by omega)
     omega
    ·exact h
    ·have : (p : Int) * 1 ≤ (p : Int) * c := Int.mul_le_mul_of_nonneg_left (by omega) (by omega)
     omega
   rw [this, Int.mul_zero] at hc; omega
 have hM : (L.map fun i => ((a : Int) * i) % (p : Int)).Perm L := by
  refine zqt ?_ ?_ (by simp)
  ·refine List.pairwise_map.2 (List.Pairwise.imp_of_mem ?_ hN)
   intro x y hx hy hne e
   exact hne (inj x hx y hy e)
  ·intro z hz
   obtain ⟨x, hx, rfl⟩ := List.mem_map.1 hz
   refine (hL _).2 ?_
   have h1 := Int.emod_nonneg ((a : Int) * x) (show (p : Int) ≠ 0 by omega)
   have h3 := Int.emod_lt_of_pos ((a : Int) * x) (show (0 : Int) < p by omega)
   have : ((a : Int) * x) % (p : Int) ≠ 0 := fun e => by
    have hx := (hL x).1 hx
    rcases zjz hp e with e | e <;> rw [Int.emod_eq_of_lt (by omega) (by omega)] at e <;> omega
   omega
 have h4 := zqJ (p := (p : Int)) (a := (a : Int)) L
 rw [zuy hM] at h4
 have hne : prI L % (p : Int) ≠ 0 := ztr hp h2 fun x hx => by
  have hx := (hL x).1 hx
  rw [Int.emod_eq_of_lt (by omega) (by omega)]; omega
 have hlen : L.length = p - 1 := by simp [L]
 rw [hlen] at h4
 have e5 : (((a : Int) ^ (p - 1) - 1) * prI L) % (p : Int) = 0 := by
  rw [Int.sub_mul, Int.one_mul]; exact zpq h4.symm
 rcases zjz hp e5 with e | e
 ·obtain ⟨c, hc⟩ := Int.dvd_of_emod_eq_zero e
  have e6 : (a : Int) ^ (p - 1) % (p : Int) = 1 := by
   rw [show (a : Int) ^ (p - 1) = 1 + (p : Int) * c by omega, Int.add_mul_emod_self_left, Int.emod_eq_of_lt (by omega) (by omega)]
  have : ((a ^ (p - 1) % p : Nat) : Int) = 1 := by rw [Int.natCast_emod, Int.natCast_pow]; exact e6
  omega
 exact absurd e hne
theorem zqW {gr : Group} (k : OkG gr) {s : ByteArray} {i y : Int} (h : zhL gr s i y) (h0 : 0 < y) : zaw gr y = true := by
 have hp := k.p
 have hq := k.q
 rcases h with ⟨c, _, hy, _, _⟩ | ⟨hy, _⟩
 ·rw [hy]
  have hx := znl k s i c
  refine zmV k (Nat.mod_lt _ (by omega)) ?_
  rw [← Nat.pow_mod, ← Nat.pow_mul]
  have e : ((gr.P - 1) / gr.Q).toNat * gr.Q.toNat = gr.P.toNat - 1 := by
   obtain ⟨P, hP⟩ := Int.eq_ofNat_of_zero_le (show 0 ≤ gr.P - 1 by omega)
   obtain ⟨Q, hQ⟩ := Int.eq_ofNat_of_zero_le (show 0 ≤ gr.Q by omega)
   have hd := k.d
   have hPn : gr.P.toNat - 1 = P := by omega
   rw [hPn, hQ, Int.toNat_natCast] at hd
   rw [hP, hQ, hPn, Int.toNat_natCast, ← Int.natCast_ediv, Int.toNat_natCast]
   exact Nat.div_mul_cancel (Nat.dvd_of_mod_eq_zero hd)
  rw [e]
  exact zw7 k.pp (by omega) (by omega) (by omega)
 omega
def reV (gr : Group) (key : Int) (c : Cipher) (r : Int) : Cipher := ⟨zbc gr [c.A, zaJ gr gr.G r], zbc gr [c.B, zbc gr [1, zaJ gr key r]]⟩
theorem zw2 {gr : Group} (k : OkG gr) {key : Int} (hk : zaw gr key = true) {c : Cipher} (hc : zbr gr c = true) (r : Int) : zbr gr (reV gr key c r) = true := by
 simp only [zbr, Bool.and_eq_true] at hc ⊢
 exact ⟨zkU k hc.1 (zkP k (zlm k) r), zkU k hc.2 (zkU k (znz k) (zkP k hk r))⟩
theorem zs0 {gr : Group} (k : OkG gr) {x : Int} (hx : 0 ≤ x ∧ x < gr.P) : zaP gr [1, x] = some x := by
 have hp := k.p
 rw [m2S k (x := 1) (y := x) ⟨by omega, by omega⟩ ⟨by omega, by omega⟩, znA k ⟨by omega, by omega⟩ (by omega), Int.one_mul, Int.emod_eq_of_lt hx.1 hx.2]
theorem zzz {gr : Group} (k : OkG gr) {key : Int} (hk : zaw gr key = true) {c : Cipher} (hc : zbr gr c = true) (r : Int) : zck gr key c r = some (reV gr key c r) := by
 have hc2 := hc
 simp only [zbr, Bool.and_eq_true] at hc2
 unfold zck
 rw [(zn4 k hk (znz k) r).1, Option.bind_some]
 unfold zeC
 rw [m2I k (zdo k hc2.1) (za8 k _ _), Option.bind_some, m2I k (zdo k hc2.2) (zf4 k ⟨by omega, by omega⟩ (za8 k _ _))]
 rfl
theorem zAH {gr : Group} (k : OkG gr) {key : Int} (hk : zaw gr key = true) {c : Cipher} (hc : zbr gr c = true) (r : Int) : zgd gr key c r = some (reV gr key c r) := by
 have hc2 := hc
 simp only [zbr, Bool.and_eq_true] at hc2
 have hp := k.p
 have b1 := zf2 hc2.1
 have b2 := zf2 hc2.2
 unfold zgd
 rw [(zn4 k hk (znz k) r).2, Option.bind_some]
 unfold zhy
 simp only [List.length_cons, List.length_nil, zar]
 have e0 : ∀ {a b : Cipher}, ix [a, b] 0 = some a := fun {a b} => rfl
 have e1 : ∀ {a b : Cipher}, ix [a, b] (0 + 1) = some b := fun {a b} => rfl
 simp only [e0, e1, Option.bind_some, zs0 k (x := c.A) ⟨by omega, by omega⟩, zs0 k (x := c.B) ⟨by omega, by omega⟩, m2S k (zdo k hc2.1) (za8 k _ _), m2S k (zdo k hc2.2) (zf4 k (x := 1) ⟨by omega, by omega⟩ (za8 k _ _))]
 rfl
theorem zii {gr : Group} (k : OkG gr) (key : Int) (l : List Cipher) : zc4 gr key l = some (zaw gr key && (inB 1 12 l.length && l.all (zbr gr))) := by
 unfold zc4 zgt
 rw [ziu, zls.2 k, Option.bind_some, if_pos rfl, zye k]
 simp only [Option.bind_some]
 cases zaw gr key
 ·rfl
 simp only [if_pos, zgl, Option.bind_some, Bool.true_and]
 show Option.bind (if inB 1 12 l.length = true then _ else _) _ = _
 by_cases h : inB 1 12 l.length = true
 ·rw [if_pos h, zvp k, h]
  have h2 : l.length ≤ 24 := by simp only [inB, Bool.and_eq_true, decide_eq_true_eq] at h; omega
  simp [h2]
 rw [if_neg h]; simp only [Bool.not_eq_true] at h; rw [h]; rfl
theorem zlQ {gr : Group} (k : ¬ OkG gr) (key : Int) (l : List Cipher) : zc4 gr key l = some false := by
 unfold zc4 zgt
 rw [ziu, zft k, Option.bind_some, if_neg (by simp)]
 rfl
theorem zj9 {gr : Group} (k : OkG gr) (l : List Cipher) : zb2 gr l = some (inB 1 12 l.length && l.all (zbr gr)) := by
 unfold zb2
 rw [zet, Option.bind_some]
 show Option.bind (if inB 1 12 l.length = true then _ else _) _ = _
 by_cases h : inB 1 12 l.length = true
 ·rw [if_pos h, zoH k, h]
  have h2 : l.length ≤ 24 := by simp only [inB, Bool.and_eq_true, decide_eq_true_eq] at h; omega
  simp [h2]
 rw [if_neg h]; simp only [Bool.not_eq_true] at h; rw [h]; rfl
noncomputable def zeX (l : List Int) : Bool := l.all (inB 0 ((l.length : Int) - 1)) && zjj l
theorem zna (l : List Int) (m : Nat) (hm : m ≤ 1000) : zfd l (m : Int) = some (decide (l.length = m) && zeX l) := by
 unfold zfd
 by_cases h : l.length = m
 ·subst h
  rw [zaz (n := (l.length : Int) - 1) (by omega) (by omega), zqA, zsX l (by omega)]
  simp only [beq_self_eq_true, if_true, Option.bind_some, decide_true, Bool.true_and]
  show Option.bind (if l.all (inB 0 ((l.length : Int) - 1)) = true then _ else _) _ = _
  unfold zeX
  cases l.all (inB 0 ((l.length : Int) - 1)) <;> rfl
 have h2 : ((l.length : Int) == (m : Int)) = false := by simp; omega
 simp [h2, h]
theorem zt9 (l : List Int) : zdC l = some (decide (l.length ≤ 24) && zeX l) := by
 unfold zdC
 by_cases h : l.length ≤ 24
 ·have h2 : decide ((l.length : Int) ≤ 24) = true := by simp; omega
  rw [h2, if_pos rfl]
  have e : zbt l l = some (l.all (inB 0 ((l.length : Int) - 1))) := by
   unfold zbt zaK zaO
   refine zjS (p := inB 0 ((l.length : Int) - 1)) (f := fun x => zbj x l) fun x _ => ?_
   unfold zbj zdL
   rw [zaz (n := (l.length : Int) - 1) (by omega) (by omega), zet]
   rfl
  rw [e, zts l (by omega)]
  unfold zeX
  cases l.all (inB 0 ((l.length : Int) - 1)) <;> simp [h]
 have h2 : decide ((l.length : Int) ≤ 24) = false := by simp; omega
 simp [h2, h]
theorem zh2 {gr : Group} (k : OkG gr) {n : Nat} (hn : n ≤ 24) (perm rs : List Int) : zb5 gr perm rs (n : Int) = some (decide (perm.length = n) && zeX perm && (decide (rs.length = n) && rs.all (zez gr))) := by
 have hq := k.q
 have hp := k.p
 unfold zb5
 rw [zt9, zhD (by omega) (by omega)]
 have e1 : ((perm.length : Int) == (n : Int)) = decide (perm.length = n) := by by_cases h : perm.length = n <;> simp [h]; omega
 have e2 : ((rs.length : Int) == (n : Int)) = decide (rs.length = n) := by by_cases h : rs.length = n <;> simp [h]; omega
 rw [e1, e2]
 by_cases h1 : perm.length = n
 ·have h24 : decide (perm.length ≤ 24) = true := by simp; omega
  rw [h24]
  simp only [h1, decide_true, Bool.true_and]
  cases zeX perm <;> by_cases h3 : rs.length = n <;> simp [h3]
 simp only [h1, decide_false, Bool.false_and]
 cases (decide (perm.length ≤ 24) && zeX perm) <;> simp
theorem zvX {l : List Int} (h : zeX l = true) {j : Int} (hj : 0 ≤ j ∧ j < l.length) : j ∈ l := by
 simp only [zeX, Bool.and_eq_true, zjj, decide_eq_true_eq, List.all_eq_true, inB] at h
 refine Classical.byContradiction fun hn => ?_
 have := ztf (l := j :: l) (v := (List.range l.length).map fun (i : Nat) => (i : Int)) (List.nodup_cons.2 ⟨hn, h.2⟩) (fun x hx => by
  simp only [List.mem_map, List.mem_range]
  rcases List.mem_cons.1 hx with rfl | hx
  ·exact ⟨x.toNat, by omega, by omega⟩
  ·have := h.1 x hx; exact ⟨x.toNat, by omega, by omega⟩)
 simp at this
 omega
structure MxOk (gr : Group) (key : Int) (l : List Cipher) (perm rs : List Int) : Prop where
 key : zaw gr key = true
 n : 1 ≤ l.length ∧ l.length ≤ 12
 c : ∀ x ∈ l, zbr gr x = true
 pl : perm.length = l.length
 pr : ∀ x ∈ perm, 0 ≤ x ∧ x < l.length
 pb : zeX perm = true
 rl : rs.length = l.length
 re : rs.all (zez gr) = true
theorem zA3 {gr : Group} {key : Int} {l : List Cipher} {perm rs : List Int} : ((zaw gr key && (inB 1 12 l.length && l.all (zbr gr))) && (decide (perm.length = l.length) && zeX perm && (decide (rs.length = l.length) && rs.all (zez gr)))) = true ↔ MxOk gr key l perm rs := by
 constructor
 ·intro h
  simp only [Bool.and_eq_true, decide_eq_true_eq, inB] at h
  obtain ⟨⟨h1, ⟨h2, h3⟩, h4⟩, ⟨h5, h6⟩, h7, h8⟩ := h
  refine ⟨h1, by omega, List.all_eq_true.1 h4, h5, fun x hx => ?_, h6, h7, h8⟩
  simp only [zeX, Bool.and_eq_true] at h6
  have := List.all_eq_true.1 h6.1 x hx
  simp only [inB, Bool.and_eq_true, decide_eq_true_eq] at this
  omega
 intro h
 simp only [Bool.and_eq_true, decide_eq_true_eq, inB]
 have := h.n
 exact ⟨⟨h.key, ⟨by omega, by omega⟩, List.all_eq_true.2 h.c⟩, ⟨h.pl, h.pb⟩, h.rl, h.re⟩
def zdd (gr : Group) (key : Int) (l : List Cipher) (perm rs : List Int) : List Cipher := (List.range perm.length).map fun i => reV gr key (l.getD (perm.getD i 0).toNat ⟨0, 0⟩) (rs.getD i 0)
theorem zoG {gr : Group} (k : OkG gr) {key : Int} {l : List Cipher} {perm rs : List Int} (m : MxOk gr key l perm rs) (E : Cipher → Int → Option Cipher) (hE : ∀ c r, zbr gr c = true → E c r = some (reV gr key c r)) : zar (σ := List Cipher) (fun i5 s4 =>
 (ix perm i5).bind fun x11 =>
 (ix l x11).bind fun x12 =>
 (ix rs i5).bind fun x13 =>
 (E x12 x13).bind fun z14 =>
 gd ((s4.length + 1) * 16 ≤ 140737488355328 ∧ s4.length + 1 ≤ 4611686018427387904) <|
 some (.go (s4 ++ [z14]))) (fun s4 => s4) perm.length 0 [] = some (zdd gr key l perm rs) := by
 have hn := m.n
 have hpl := m.pl
 have hrl := m.rl
 refine zwN (f := fun i => reV gr key (l.getD (perm.getD i 0).toNat ⟨0, 0⟩) (rs.getD i 0)) fun i s hi hs => ?_
 have hx := m.pr _ (List.getElem_mem hi)
 obtain ⟨j, hj⟩ := Int.eq_ofNat_of_zero_le hx.1
 have hj2 : j < l.length := by omega
 rw [zei hi, Option.bind_some, hj, zei hj2, Option.bind_some, zei (show i < rs.length by omega), Option.bind_some, hE _ _ (m.c _ (List.getElem_mem hj2)), Option.bind_some, zdV (by omega), zal hi, hj, Int.toNat_natCast, zal hj2, zal (show i < rs.length by omega)]
theorem ztd {gr : Group} (k : OkG gr) {key : Int} {l : List Cipher} {perm rs : List Int} (m : MxOk gr key l perm rs) : zdR gr key l perm rs = some (zdd gr key l perm rs) := by
 unfold zdR
 rw [zoG k m (zck gr key) fun c r hc => zzz k m.key hc r]
 rfl
theorem zsA {gr : Group} (k : OkG gr) {key : Int} {l : List Cipher} {perm rs : List Int} (m : MxOk gr key l perm rs) : zfF gr key l perm rs = some (zdd gr key l perm rs) := by
 unfold zfF
 rw [zoG k m (zgd gr key) fun c r hc => zAH k m.key hc r]
 rfl
theorem zhv (gr : Group) (key : Int) (l : List Cipher) (perm rs : List Int) : (zdd gr key l perm rs).length = perm.length := by simp [zdd]
theorem zlg {gr : Group} (k : OkG gr) {key : Int} {l : List Cipher} {perm rs : List Int} (m : MxOk gr key l perm rs) : ∀ c ∈ zdd gr key l perm rs, zbr gr c = true := by
 intro c hc
 obtain ⟨i, hi, rfl⟩ := List.mem_map.1 hc
 have hi := List.mem_range.1 hi
 refine zw2 k m.key ?_ _
 have hx := m.pr _ (List.getElem_mem hi)
 rw [zal hi, zal (show (perm[i]).toNat < l.length by omega)]
 exact m.c _ (List.getElem_mem _)
structure BsOk (gr : Group) (n : Nat) (b : Bases) : Prop where
 h : zaw gr b.H = true
 l : b.Hs.length = n
 s : ∀ x ∈ b.Hs, zaw gr x = true
theorem zxq {gr : Group} (k : OkG gr) {n : Nat} (hn : n ≤ 24) : ∃ b t, zdn gr (n : Int) = some (b, t) ∧ zaM gr (n : Int) = some (b, t) ∧ (t = true → BsOk gr n b) := by
 obtain ⟨b, t, h1, h2, h3⟩ := zvw k hn
 refine ⟨b, t, h1, h2, fun ht => ?_⟩
 obtain ⟨c1, c2, c3, c4⟩ := h3 ht
 refine ⟨zqW k c1 c2, c3.1, fun x hx => ?_⟩
 obtain ⟨j, hj, rfl⟩ := List.getElem_of_mem hx
 exact zqW k (c3.2 j hj) (c4 _ hx)
def zkT (gr : Group) (Hs perm ss : List Int) (i : Nat) (s : List Int) : List Int := s.set (perm.getD i 0).toNat (zbc gr [zaJ gr gr.G (ss.getD (perm.getD i 0).toNat 0), Hs.getD i 0])
def zdJ (gr : Group) (Hs perm ss : List Int) : List Int := itr (zkT gr Hs perm ss) perm.length (List.replicate perm.length 0)
theorem zpi {gr : Group} (k : OkG gr) {perm ss Hs : List Int} (hp : ∀ x ∈ perm, 0 ≤ x ∧ x < perm.length) (hs : ss.length = perm.length) (hH : Hs.length = perm.length) (hb : ∀ x ∈ Hs, zaw gr x = true) (P : Int → Int → Option Int) (M : List Int → Option Int) (hP : ∀ x e, R9 x → P x e = some (zaJ gr x e)) (hM : ∀ x y, R9 x → R9 y → M [x, y] = some (zbc gr [x, y])) : zar (σ := (List Int)) (fun i21 s20 =>
 (ix perm i21).bind fun x27 =>
 (ix ss x27).bind fun x28 =>
 (ix Hs i21).bind fun x29 =>
 (P gr.G x28).bind fun z30 =>
 (M [z30, x29]).bind fun z31 =>
 (ix s20 x27).bind fun x32 =>
 some (.go (s20.set x27.toNat z31))) (fun s20 => s20) perm.length 0 (List.replicate perm.length 0) = some (zdJ gr Hs perm ss) := by
 refine zxg (zkT gr Hs perm ss) (fun _ s => s.length = perm.length) (by simp) (fun i s _ h => by simp [zkT, h]) fun i s hi h => ?_
 have hx := hp _ (List.getElem_mem hi)
 obtain ⟨j, hj⟩ := Int.eq_ofNat_of_zero_le hx.1
 have hj2 : j < perm.length := by omega
 have hc := hb _ (List.getElem_mem (show i < Hs.length by omega))
 rw [zei hi, Option.bind_some, hj, zei (show j < ss.length by omega), Option.bind_some, zei (show i < Hs.length by omega), Option.bind_some, hP _ _ (r_G k), Option.bind_some, hM _ _ (za8 k _ _) (zdo k hc), Option.bind_some, zei (show j < s.length by omega), Option.bind_some]
 unfold zkT
 rw [zal hi, hj, Int.toNat_natCast, zal (show j < ss.length by omega), zal (show i < Hs.length by omega)]
theorem zte {gr : Group} (k : OkG gr) {perm ss : List Int} {b : Bases} (hp : ∀ x ∈ perm, 0 ≤ x ∧ x < perm.length) (hl : perm.length ≤ 1000) (hs : ss.length = perm.length) (hb : BsOk gr perm.length b) : zbQ gr b perm ss = some (zdJ gr b.Hs perm ss) := by
 unfold zbQ
 rw [zdV (by omega), Option.bind_some, zpi k hp hs hb.l hb.s (zai gr) (zan gr) (fun x e hx => pwI k hx e) fun x y hx hy => m2I k hx hy]
 rfl
theorem zx7 {gr : Group} (k : OkG gr) {perm ss : List Int} {b : Bases} (hp : ∀ x ∈ perm, 0 ≤ x ∧ x < perm.length) (hl : perm.length ≤ 1000) (hs : ss.length = perm.length) (hb : BsOk gr perm.length b) : zeP gr b perm ss = some (zdJ gr b.Hs perm ss) := by
 unfold zeP
 rw [zdV (by omega), Option.bind_some, zpi k hp hs hb.l hb.s (zaq gr) (zaP gr) (fun x e hx => pwS k hx e) fun x y hx hy => m2S k hx hy]
 rfl
theorem zvl {gr : Group} (k : OkG gr) {perm ss Hs : List Int} (hp : zeX perm = true) (hH : Hs.length = perm.length) (hb : ∀ x ∈ Hs, zaw gr x = true) : (zdJ gr Hs perm ss).length = perm.length ∧ ∀ x ∈ zdJ gr Hs perm ss, zaw gr x = true := by
 have h := zni (f := zkT gr Hs perm ss) (I := fun m s => s.length = perm.length ∧ ∀ i (hi : i < m) (hi2 : i < perm.length), zaw gr (s.getD (perm[i]).toNat 0) = true) (s0 := List.replicate perm.length 0) (m := perm.length) ⟨by simp, fun i hi => by omega⟩ (fun m s hm ⟨h1, h2⟩ => by
  refine ⟨by simp [zkT, h1], fun i hi hi2 => ?_⟩
  unfold zkT
  rw [zal hm]
  by_cases e : (perm[m]).toNat = (perm[i]).toNat
  ·by_cases hlt : (perm[i]).toNat < s.length
   ·rw [e, List.getD_eq_getElem?_getD, List.getElem?_set_self hlt, Option.getD_some]
    refine zkU k (zkP k (zlm k) _) ?_
    rw [zal (show m < Hs.length by omega)]
    exact hb _ (List.getElem_mem _)
   ·have hx := List.all_eq_true.1 (Bool.and_eq_true _ _ ▸ hp : perm.all _ = true ∧ zjj perm = true).1 _ (List.getElem_mem hi2)
    simp only [inB, Bool.and_eq_true, decide_eq_true_eq] at hx
    omega
  ·rw [List.getD_eq_getElem?_getD, List.getElem?_set_ne e, ← List.getD_eq_getElem?_getD]
   rcases Nat.lt_or_ge i m with h | h
   ·exact h2 i h hi2
   ·have : i = m := by omega
    subst this; exact absurd rfl e) perm.length (Nat.le_refl _)
 refine ⟨h.1, fun x hx => ?_⟩
 obtain ⟨j, hj, rfl⟩ := List.getElem_of_mem hx
 have hj' : j < (zdJ gr Hs perm ss).length := hj
 have hl : (zdJ gr Hs perm ss).length = perm.length := h.1
 have hm := zvX hp (j := (j : Int)) ⟨by omega, by omega⟩
 obtain ⟨i, hi, he⟩ := List.getElem_of_mem hm
 have := h.2 i hi hi
 rw [he, Int.toNat_natCast] at this
 have e : (itr (zkT gr Hs perm ss) perm.length (List.replicate perm.length 0)).getD j 0 = (zdJ gr Hs perm ss)[j] := zal hj'
 rwa [e] at this
def hN (gr : Group) (h : Int) (es ts : List Int) : Nat → Int
 | 0 => h
 | i + 1 => zbc gr [zaJ gr gr.G (ts.getD i 0), zaJ gr (hN gr h es ts i) (es.getD i 0)]
theorem zsh {gr : Group} (k : OkG gr) {h : Int} (hh : R9 h) (es ts : List Int) : ∀ i, R9 (hN gr h es ts i)
 | 0 => hh
 | i + 1 => zf4 k (za8 k _ _) (za8 k _ _)
theorem zs1 {gr : Group} (k : OkG gr) {h : Int} (hh : zaw gr h = true) (es ts : List Int) : ∀ i, zaw gr (hN gr h es ts i) = true
 | 0 => hh
 | i + 1 => zkU k (zkP k (zlm k) _) (zkP k (zs1 k hh es ts i) _)
def zb3 (gr : Group) (h : Int) (es ts : List Int) : List Int := (List.range es.length).map fun i => hN gr h es ts (i + 1)
theorem ztw {gr : Group} (k : OkG gr) {h : Int} (hh : R9 h) {es ts : List Int} (hl : es.length ≤ 1000) (ht : ts.length = es.length) : zde gr h es ts = some (zb3 gr h es ts) := by
 unfold zde
 refine zau (zaf (ψ := (· = zb3 gr h es ts)) (zaV (fun i s => s = (hN gr h es ts i, (List.range i).map fun i => hN gr h es ts (i + 1))) rfl ?_ ?_) fun x hx => zab hx)
 ·rintro i s hi rfl
  refine zav hi (zav (show i < ts.length by omega) (zac (pwI k (r_G k) _) (zac (pwI k (zsh k hh es ts i) _) (zac (m2I k (za8 k _ _) (za8 k _ _)) (zam (by simp; omega) (zab ?_))))))
  show _ = _
  rw [List.range_succ, List.map_append]
  simp only [List.map_cons, List.map_nil, hN, zal hi, zal (show i < ts.length by omega)]
 rintro s rfl; rfl
theorem zxN {gr : Group} (k : OkG gr) {b : Bases} (hh : R9 b.H) {es ts : List Int} (hl : es.length ≤ 1000) (ht : ts.length = es.length) : zfv gr b es ts = some (zb3 gr b.H es ts) := by
 unfold zfv
 refine zau (zaf (ψ := (· = zb3 gr b.H es ts)) (zaV (fun i s => s = ((List.range i).map fun i => hN gr b.H es ts (i + 1), hN gr b.H es ts i)) rfl ?_ ?_) fun x hx => zab hx)
 ·rintro i s hi rfl
  refine zav hi (zav (show i < ts.length by omega) (zac (pwS k (r_G k) _) (zac (pwS k (zsh k hh es ts i) _) (zac (m2S k (za8 k _ _) (za8 k _ _)) (zam (by simp; omega) (zab ?_))))))
  show _ = _
  rw [List.range_succ, List.map_append]
  simp only [List.map_cons, List.map_nil, hN, zal hi, zal (show i < ts.length by omega)]
 rintro s rfl; rfl
def abL (l : List Cipher) : List Int := l.flatMap fun c => [c.A, c.B]
def zg2 (key : Int) (l out : List Cipher) (m : List Int) : List Int := key :: (abL l ++ (abL out ++ m))
theorem zks (l : List Cipher) : (abL l).length = 2 * l.length := by
 induction l with
 | nil => rfl
 | cons c l ih => show ([c.A, c.B] ++ abL l).length = _; simp [ih]; omega
theorem zwd (l : List Cipher) (c : Cipher) : abL (l ++ [c]) = abL l ++ [c.A, c.B] := by simp [abL]
theorem zwG (l m : List Cipher) : abL (l ++ m) = abL l ++ abL m := by simp [abL]
theorem znm {l : List Cipher} (h0 : List Int) (hl : l.length ≤ 100000) (hh : h0.length ≤ 1000000) : zar (σ := List Int) (fun i5 s4 =>
 (ix l i5).bind fun x11 =>
 gd ((s4.length + 2) * 8 ≤ 140737488355328 ∧ s4.length + 2 ≤ 4611686018427387904) <|
 some (.go (s4 ++ [x11.A, x11.B]))) (fun s4 => s4) l.length 0 h0 = some (h0 ++ abL l) := by
 refine zau (zaV (fun i s => s = h0 ++ abL (l.take i)) (by simp [abL]) ?_ ?_)
 ·rintro i s hi rfl
  refine zav hi (zam ?_ (zab ?_))
  ·rw [List.length_append, zks, List.length_take]; omega
  show _ = _
  rw [List.take_succ_eq_append_getElem hi, zwd, List.append_assoc]
 rintro s rfl; rw [List.take_length]
theorem ztU {key : Int} {l out : List Cipher} {m : List Int} (h1 : l.length ≤ 1000) (h2 : out.length ≤ 1000) (h3 : m.length ≤ 1000000) : zcG key l out m = some (zg2 key l out m) := by
 unfold zcG zbH
 rw [zdV (by omega), Option.bind_some, zdV (by omega), Option.bind_some, znm [key] (by simp; omega) (by simp), Option.bind_some, zdV (by simp [zks]; omega)]
 simp [zg2, zwG]
theorem zsO {key : Int} {l out : List Cipher} {m : List Int} (h1 : l.length ≤ 1000) (h2 : out.length ≤ 1000) (h3 : m.length ≤ 1000000) : zdm key l out m = some (zg2 key l out m) := by
 unfold zdm
 rw [znm [key] (by omega) (by simp), Option.bind_some, znm _ (by omega) (by simp [zks]; omega), Option.bind_some, zdV (by simp [zks]; omega)]
 simp [zg2]
theorem zqL {key : Int} {l out : List Cipher} {m : List Int} : (zg2 key l out m).length = 1 + 2 * l.length + 2 * out.length + m.length := by
 simp [zg2, zks]; omega
theorem zqE {gr : Group} (k : OkG gr) {key : Int} (hk : zaw gr key = true) {l out : List Cipher} (h1 : ∀ c ∈ l, zbr gr c = true) (h2 : ∀ c ∈ out, zbr gr c = true) {m : List Int} (h3 : m.all zbz = true) : (zg2 key l out m).all zbz = true := by
 have A : ∀ l : List Cipher, (∀ c ∈ l, zbr gr c = true) → (abL l).all zbz = true := fun l h => by
  refine zgK k (List.all_eq_true.2 fun x hx => ?_)
  obtain ⟨c, hc, hx⟩ := List.mem_flatMap.1 hx
  have := h c hc
  simp only [zbr, Bool.and_eq_true] at this
  simp only [List.mem_cons, List.not_mem_nil, or_false] at hx
  rcases hx with rfl | rfl
  ·exact this.1
  ·exact this.2
 have hd : zbz key = true := by have := zgK k (l := [key]) (by simp [hk]); simpa using this
 simp only [zg2, List.all_cons, List.all_append, hd, A l h1, A out h2, h3, Bool.and_self]
abbrev znw : ByteArray := ⟨#[109, 105, 120, 32, 99, 111, 108, 117, 109, 110, 115]⟩
abbrev endS : ByteArray := ⟨#[109, 105, 120, 32, 112, 114, 111, 111, 102]⟩
def zgG (gr : Group) (s : ByteArray) (l : List Int) (n : Nat) : List Int := (List.range n).map fun (i : Nat) => chG gr s (l ++ [(i : Int)])
theorem zpz {l : List Int} (hd : l.all zbz = true) {i : Nat} (hi : i ≤ 1000000) : (l ++ [(i : Int)]).all zbz = true := by
 have : zbz (i : Int) = true := zcI.2 ⟨by omega, by omega⟩
 simp [hd, this]
theorem zs8 {gr : Group} (k : OkG gr) {s : ByteArray} (hs : s.size ≤ 40) {l : List Int} (hl : l.length ≤ 300) (hd : l.all zbz = true) {n : Nat} (h1 : 1 ≤ n) (hn : n ≤ 1000) : za5 gr s l (n : Int) = some (zgG gr s l n, true) := by
 unfold za5
 rw [if_neg (show ¬ ((n : Int) < 1) by omega)]
 refine zau (zaf (ψ := (· = .inl (zgG gr s l n))) (zeY n (fun i t => t = ((List.range i).map fun (i : Nat) => chG gr s (l ++ [(i : Int)]), (i : Int))) rfl ?_ ?_) ?_)
 ·rintro i t hi rfl
  refine zjh (by simp; omega) (zac (a := l) ?_ (zam (by omega) (zac (zo6 k s (by simp; omega)) ?_)))
  ·unfold zdX; rw [zdV (by omega)]
  rw [if_pos (zrE k hs (by simp; omega) (zpz hd (by omega)))]
  refine zcP rfl (zam (by simp; omega) (zab ?_))
  show _ = _
  rw [List.range_succ, List.map_append, zaz (by omega) (by omega)]
  rfl
 ·rintro t rfl
  exact zcP (by simp) (zab rfl)
 rintro t rfl
 refine zam (by omega) (zam (by simp [zgG]) (zab ?_))
 rw [Int.toNat_natCast, List.take_of_length_le (by simp [zgG])]
theorem zsU {gr : Group} (k : OkG gr) {s : ByteArray} (hs : s.size ≤ 40) {l : List Int} (hl : l.length ≤ 300) (hd : l.all zbz = true) {n : Nat} (hn : n ≤ 1000) : zdf gr s l (n : Int) = some (zgG gr s l n) := by
 unfold zdf
 refine zau (zaf (ψ := (· = zgG gr s l n)) (zeY n (fun i t => t = ((List.range i).map fun (i : Nat) => chG gr s (l ++ [(i : Int)]), (i : Int))) rfl ?_ ?_) fun x hx => zab hx)
 ·rintro i t hi rfl
  refine zjh (by simp; omega) (zac (zic (by omega)) (zam (by omega) (zac (zit k (by omega) (by simp; omega) (zpz hd (by omega))) (zam (by simp; omega) (zab ?_)))))
  show _ = _
  rw [List.range_succ, List.map_append, zaz (by omega) (by omega)]
  rfl
 rintro t rfl
 exact zcP (by simp) (zab rfl)
theorem ztk {gr : Group} (k : OkG gr) (s : ByteArray) (l : List Int) (n : Nat) : (zgG gr s l n).length = n ∧ ∀ x ∈ zgG gr s l n, 0 ≤ x ∧ x < gr.Q := by
 refine ⟨by simp [zgG], fun x hx => ?_⟩
 obtain ⟨i, _, rfl⟩ := List.mem_map.1 hx
 exact ztG k s _
def E9 (q x : Int) : Prop := 0 ≤ x ∧ x < q
theorem zrB {gr : Group} {l : List Int} (h : l.all (zez gr) = true) : ∀ x ∈ l, E9 gr.Q x := fun x hx => zqK.1 (List.all_eq_true.1 h x hx)
theorem zgV {q a z t : Int} (hq : q ≤ 2000000000) (ha : E9 q a) (hz : E9 q z) (ht : E9 q t) : IntKind.i64.wrap (a + IntKind.i64.wrap (z * t)) = a + z * t ∧ (IntKind.i64.wrap (a + IntKind.i64.wrap (z * t))).tmod q = (a + z * t) % q := by
 obtain ⟨a1, a2⟩ := ha
 obtain ⟨z1, z2⟩ := hz
 obtain ⟨t1, t2⟩ := ht
 have h1 : 0 ≤ z * t := Int.mul_nonneg z1 t1
 have h2 : z * t ≤ 2000000000 * 2000000000 := Int.mul_le_mul (by omega) (by omega) t1 (by omega)
 rw [zaz (n := z * t) (by omega) (by omega), zaz (n := a + z * t) (by omega) (by omega)]
 exact ⟨rfl, Int.tmod_eq_emod_of_nonneg (by omega)⟩
theorem zmD {q : Int} (hq : 0 < q) (x : Int) : E9 q (x % q) := ⟨Int.emod_nonneg _ (by omega), Int.emod_lt_of_pos _ hq⟩
def dtN (q : Int) (l m : List Int) : Nat → Int
 | 0 => 0
 | i + 1 => (dtN q l m i + l.getD i 0 * m.getD i 0) % q
theorem zlf {q : Int} (hq : 0 < q) (l m : List Int) : ∀ i, E9 q (dtN q l m i)
 | 0 => ⟨by show (0 : Int) ≤ 0; omega, hq⟩
 | i + 1 => zmD hq _
theorem zch {α : Type} {l : List α} {P : α → Prop} (h : ∀ x ∈ l, P x) {i : Nat} (hi : i < l.length) : P l[i] := h _ (List.getElem_mem hi)
theorem ztC {q : Int} (hq : 0 < q ∧ q ≤ 2000000000) {l m : List Int} (hl : ∀ x ∈ l, E9 q x) (hm : ∀ x ∈ m, E9 q x) (hn : m.length = l.length) : zeO l m q = some (dtN q l m l.length) := by
 unfold zeO
 refine zau (zaf (ψ := (· = dtN q l m l.length)) (zaV (fun i s => s = dtN q l m i) rfl ?_ fun s h => h) fun x hx => zab hx)
 rintro i s hi rfl
 have ha := zlf hq.1 l m i
 have h1 := zch hl hi
 have h2 := zch hm (show i < m.length by omega)
 refine zav hi (zav (show i < m.length by omega) (zam (by omega) (zam (by omega) (zab ?_))))
 show _ = (dtN q l m i + l.getD i 0 * m.getD i 0) % q
 rw [zal hi, zal (show i < m.length by omega)]
 have e := zgV hq.2 ⟨Int.le_refl 0, hq.1⟩ h1 h2
 rw [Int.zero_add, Int.zero_add] at e
 have e2 : IntKind.i64.wrap (l[i] * m[i]) = l[i] * m[i] := by
  have h3 : 0 ≤ l[i] * m[i] := Int.mul_nonneg h1.1 h2.1
  have h4 : l[i] * m[i] ≤ 2000000000 * 2000000000 := Int.mul_le_mul (by have := h1.2; omega) (by have := h2.2; omega) h2.1 (by omega)
  exact zaz (by omega) (by omega)
 rw [e2, Int.tmod_eq_emod_of_nonneg (Int.mul_nonneg h1.1 h2.1)]
 have h5 := zmD hq.1 (l[i] * m[i])
 rw [zaz (by have := ha.1; have := h5.1; omega) (by have := ha.2; have := h5.2; omega), Int.tmod_eq_emod_of_nonneg (by have := ha.1; have := h5.1; omega)]
 rw [Int.add_emod, Int.emod_emod, ← Int.add_emod]
theorem ztj {q : Int} (hq : 0 < q ∧ q ≤ 2000000000) {l m : List Int} (hl : ∀ x ∈ l, E9 q x) (hm : ∀ x ∈ m, E9 q x) (hn : m.length = l.length) : zeo l m q = some (dtN q l m l.length) := by
 unfold zeo
 refine zau (zaf (ψ := (· = dtN q l m l.length)) (zaV (fun i s => s = dtN q l m i) rfl ?_ fun s h => h) fun x hx => zab hx)
 rintro i s hi rfl
 refine zav hi (zav (show i < m.length by omega) (zam (by omega) (zab ?_)))
 show _ = (dtN q l m i + l.getD i 0 * m.getD i 0) % q
 rw [zal hi, zal (show i < m.length by omega)]
 exact (zgV hq.2 (zlf hq.1 l m i) (zch hl hi) (zch hm (show i < m.length by omega))).2
def smN (q : Int) (l : List Int) : Nat → Int
 | 0 => 0
 | i + 1 => (smN q l i + l.getD i 0) % q
theorem zox {q : Int} (hq : 0 < q) (l : List Int) : ∀ i, E9 q (smN q l i)
 | 0 => ⟨by show (0 : Int) ≤ 0; omega, hq⟩
 | i + 1 => zmD hq _
theorem ztb {q : Int} (hq : 0 < q ∧ q ≤ 2000000000) {l : List Int} (hl : ∀ x ∈ l, E9 q x) : zf8 l q = some (smN q l l.length) ∧ zfE l q = some (smN q l l.length) := by
 refine ⟨?_, ?_⟩
 ·unfold zf8
  refine zau (zaf (ψ := (· = smN q l l.length)) (zaV (fun i s => s = smN q l i) rfl ?_ fun s h => h) fun x hx => zab hx)
  rintro i s hi rfl
  have ha := zox hq.1 l i
  have h1 := zch hl hi
  refine zav hi (zam (by omega) (zab ?_))
  show _ = (smN q l i + l.getD i 0) % q
  rw [zal hi, zaz (by have := ha.1; have := h1.1; omega) (by have := ha.2; have := h1.2; omega), Int.tmod_eq_emod_of_nonneg (by have := ha.1; have := h1.1; omega)]
 unfold zfE
 refine zau (zaf (ψ := (· = smN q l l.length)) (zaV (fun i s => s = smN q l i) rfl ?_ fun s h => h) fun x hx => zab hx)
 rintro i s hi rfl
 have ha := zox hq.1 l i
 have h1 := zch hl hi
 refine zav hi (zam (by omega) (zab ?_))
 show _ = (smN q l i + l.getD i 0) % q
 rw [zal hi, zaz (by have := ha.1; have := h1.1; omega) (by have := ha.2; have := h1.2; omega), Int.tmod_eq_emod_of_nonneg (by have := ha.1; have := h1.1; omega)]
def yN (q : Int) (own t : List Int) : Nat → Int
 | 0 => 0
 | i + 1 => (t.getD i 0 + own.getD i 0 * yN q own t i) % q
theorem zsq {q : Int} (hq : 0 < q) (own t : List Int) : ∀ i, E9 q (yN q own t i)
 | 0 => ⟨by show (0 : Int) ≤ 0; omega, hq⟩
 | i + 1 => zmD hq _
def zmf (e perm : List Int) : List Int := perm.map fun j => e.getD j.toNat 0
theorem zDm {e perm : List Int} (hp : ∀ x ∈ perm, 0 ≤ x ∧ x < e.length) (hl : perm.length ≤ 1000) : zfZ e perm = some (zmf e perm) := by
 unfold zfZ
 rw [zwC (l := perm) (f := fun j => e.getD j.toNat 0) []]
 ·rw [List.nil_append]; rfl
 intro i hi s hs
 have hx := zch hp hi
 obtain ⟨j, hj⟩ := Int.eq_ofNat_of_zero_le hx.1
 rw [zei hi, Option.bind_some, hj, zei (show j < e.length by omega), Option.bind_some, zdV (by simp at hs; omega), Int.toNat_natCast, zal (show j < e.length by omega)]
def sdV (l : List Cipher) : List Int × List Int := (l.map (·.A), l.map (·.B))
theorem zh7 {l : List Cipher} (hl : l.length ≤ 1000) : zey l = some (sdV l) ∧ zd8 l = some (sdV l) := by
 have h : zar (σ := (List Int) × List Int) (fun i5 s4 =>
  (ix l i5).bind fun x11 =>
  gd ((s4.1.length + 1) * 8 ≤ 140737488355328 ∧ s4.1.length + 1 ≤ 4611686018427387904) <|
  gd ((s4.2.length + 1) * 8 ≤ 140737488355328 ∧ s4.2.length + 1 ≤ 4611686018427387904) <|
  some (.go (s4.1 ++ [x11.A], s4.2 ++ [x11.B]))) (fun s4 => (s4.1, s4.2)) (l.length) 0 ([], []) = some (sdV l) := by
  refine zau (zaV (fun i s => s = sdV (l.take i)) rfl ?_ ?_)
  ·rintro i s hi rfl
   refine zav hi (zam (by simp [sdV]; omega) (zam (by simp [sdV]; omega) (zab ?_)))
   show _ = _
   rw [List.take_succ_eq_append_getElem hi]
   simp only [sdV, List.map_append, List.map_cons, List.map_nil]
  ·rintro s rfl; rw [List.take_length]
 unfold zey zd8
 rw [h]
 exact ⟨rfl, rfl⟩
theorem zlj {gr : Group} (k : OkG gr) {l : List Cipher} (h : ∀ c ∈ l, zbr gr c = true) : (∀ x ∈ (sdV l).1, 0 ≤ x ∧ x ≤ 2000000000) ∧ ∀ x ∈ (sdV l).2, 0 ≤ x ∧ x ≤ 2000000000 := by
 refine ⟨fun x hx => ?_, fun x hx => ?_⟩ <;> obtain ⟨c, hc, rfl⟩ := List.mem_map.1 hx <;> obtain ⟨b1, b2, b3, b4⟩ := zvD k (h c hc)
 ·exact ⟨b1, b2⟩
 exact ⟨b3, b4⟩
theorem zu2 {gr : Group} (k : OkG gr) : ∀ (l m : List Int) (o : Int), 0 ≤ o ∧ o < gr.P → R9 (zbq gr l m o)
 | [], _, o, h => by have := k.p; unfold zbq; exact ⟨h.1, by omega⟩
 | _ :: _, [], o, h => by have := k.p; unfold zbq; exact ⟨h.1, by omega⟩
 | x :: l, e :: m, o, h => by
  have := k.p
  unfold zbq
  exact zu2 k l m _ ⟨Int.emod_nonneg _ (by omega), Int.emod_lt_of_pos _ (by omega)⟩
theorem zc1 {gr : Group} (k : OkG gr) (l m : List Int) : R9 (zbq gr l m 1) := zu2 k l m 1 (by have := k.p; exact ⟨by omega, by omega⟩)
theorem zkV {a r : List Int} {n : Nat} (h : a.length = n) : za1 (a ++ r) (n : Int) = some (a, r) := by
 unfold za1
 rw [Int.toNat_natCast, zdV (by omega), zdV (by simp; omega), zdV (by omega), zdV (by simp; omega)]
 simp [h, List.take_of_length_le]
theorem zvA {a : List Int} {n : Nat} (h : a.length = n) : za1 a (n : Int) = some (a, []) := by
 have := zkV (r := []) h
 rwa [List.append_nil] at this
theorem zmz (x : Int) (r : List Int) : zbL (x :: r) = some (x, r) := by
 unfold zbL
 have h := zkV (a := [x]) (r := r) (n := 1) rfl
 show (za1 ([x] ++ r) ((1 : Nat) : Int)).bind _ = _
 rw [h]
 rfl
structure Coins (gr : Group) (n : Nat) (s t w x : List Int) (a b d f : Int) : Prop where
 s : s.length = n ∧ ∀ z ∈ s, E9 gr.Q z
 t : t.length = n ∧ ∀ z ∈ t, E9 gr.Q z
 w : w.length = n ∧ ∀ z ∈ w, E9 gr.Q z
 x : x.length = n ∧ ∀ z ∈ x, E9 gr.Q z
 a : E9 gr.Q a
 b : E9 gr.Q b
 d : E9 gr.Q d
 f : E9 gr.Q f
theorem zuJ {gr : Group} {n : Nat} {coins : List Int} (hl : coins.length = 4 * n + 4) (he : coins.all (zez gr) = true) : ∃ s t w x a b d f, coins = s ++ (t ++ (a :: b :: d :: f :: (w ++ x))) ∧ Coins gr n s t w x a b d f := by
 have h := zrB he
 obtain ⟨s, r, rfl, hs⟩ : ∃ s r, coins = s ++ r ∧ s.length = n := ⟨coins.take n, coins.drop n, (List.take_append_drop n coins).symm, by simp; omega⟩
 obtain ⟨t, r, rfl, ht⟩ : ∃ t r', r = t ++ r' ∧ t.length = n := ⟨r.take n, r.drop n, (List.take_append_drop n r).symm, by simp at hl ⊢; omega⟩
 simp only [List.length_append] at hl
 match r, hl with
 | a :: b :: d :: f :: r, hl =>
  obtain ⟨w, x, rfl, hw⟩ : ∃ w x, r = w ++ x ∧ w.length = n := ⟨r.take n, r.drop n, (List.take_append_drop n r).symm, by simp at hl ⊢; omega⟩
  simp only [List.length_cons, List.length_append] at hl
  refine ⟨s, t, w, x, a, b, d, f, rfl, ⟨hs, fun z hz => h z ?_⟩, ⟨ht, fun z hz => h z ?_⟩, ⟨hw, fun z hz => h z ?_⟩, ⟨by omega, fun z hz => h z ?_⟩, h a ?_, h b ?_, h d ?_, h f ?_⟩ <;> simp_all
 | [], hl => simp at hl; omega
 | [_], hl => simp at hl; omega
 | [_, _], hl => simp at hl; omega
 | [_, _, _], hl => simp at hl; omega
section
attribute [local irreducible] chG zgG zdJ zdd zg2 zb3 zbq dtN smN yN
def pmL (gr : Group) (key : Int) (B : Bases) (l : List Cipher) (perm rs s : List Int) : List Int := zg2 key l (zdd gr key l perm rs) (zdJ gr B.Hs perm s)
def pmE (gr : Group) (key : Int) (B : Bases) (l : List Cipher) (perm rs s : List Int) : List Int := zgG gr znw (pmL gr key B l perm rs s) l.length
def pmO (gr : Group) (key : Int) (B : Bases) (l : List Cipher) (perm rs s : List Int) : List Int := zmf (pmE gr key B l perm rs s) perm
def zjg (gr : Group) (h : Int) (own t w x : List Int) (i : Nat) : Int := zbc gr [zaJ gr gr.G (w.getD i 0), zaJ gr (hN gr h own t i) (x.getD i 0)]
def zns (gr : Group) (key : Int) (Hs : List Int) (out : List Cipher) (x : List Int) (a b d f : Int) : List Int := [zaJ gr gr.G a, zbc gr [zaJ gr gr.G b, zbq gr Hs x 1], zaJ gr gr.G d, zbc gr [zaJ gr gr.G (IntKind.i64.wrap (0 - f)), zbq gr (sdV out).1 x 1], zbc gr [zaJ gr key (IntKind.i64.wrap (0 - f)), zbq gr (sdV out).2 x 1]]
def pmC (gr : Group) (key : Int) (B : Bases) (l : List Cipher) (perm rs s t w x : List Int) (a b d f : Int) : List Int := zns gr key B.Hs (zdd gr key l perm rs) x a b d f ++ (List.range l.length).map (zjg gr B.H (pmO gr key B l perm rs s) t w x)
def pmZ (gr : Group) (key : Int) (B : Bases) (l : List Cipher) (perm rs s t w x : List Int) (a b d f : Int) : Int := chG gr endS (pmL gr key B l perm rs s ++ zb3 gr B.H (pmO gr key B l perm rs s) t ++ pmC gr key B l perm rs s t w x a b d f)
def rsF (q z : Int) (w t : List Int) (i : Nat) : Int := (w.getD i 0 + z * t.getD i 0) % q
def pmR (gr : Group) (z : Int) (n : Nat) (e own rs s t w x : List Int) (a b d f : Int) : List Int := [(a + z * smN gr.Q s n) % gr.Q, (b + z * dtN gr.Q s e n) % gr.Q, (d + z * yN gr.Q own t n) % gr.Q, (f + z * dtN gr.Q rs own n) % gr.Q] ++ (List.range n).map (rsF gr.Q z w t) ++ (List.range n).map (rsF gr.Q z x own)
def pmV (gr : Group) (key : Int) (B : Bases) (l : List Cipher) (perm rs s t w x : List Int) (a b d f : Int) : MatrixProof :=
 ⟨zdJ gr B.Hs perm s, zb3 gr B.H (pmO gr key B l perm rs s) t, ⟨pmC gr key B l perm rs s t w x a b d f, [pmZ gr key B l perm rs s t w x a b d f], pmR gr (pmZ gr key B l perm rs s t w x a b d f) l.length (pmE gr key B l perm rs s) (pmO gr key B l perm rs s) rs s t w x a b d f⟩⟩
structure PmOk (gr : Group) (key : Int) (B : Bases) (l : List Cipher) (perm rs s t w x : List Int) (a b d f : Int) : Prop where
 m : MxOk gr key l perm rs
 bs : BsOk gr l.length B
 c : Coins gr l.length s t w x a b d f
section
variable {gr : Group} {key : Int} {B : Bases} {l : List Cipher} {perm rs s t w x : List Int} {a b d f : Int}
theorem PmOk.prn (P : PmOk gr key B l perm rs s t w x a b d f) : ∀ z ∈ perm, 0 ≤ z ∧ z < perm.length := fun z hz => by have := P.m.pr z hz; have := P.m.pl; omega
theorem PmOk.bl (P : PmOk gr key B l perm rs s t w x a b d f) : BsOk gr perm.length B := by rw [P.m.pl]; exact P.bs
theorem PmOk.cols (k : OkG gr) (P : PmOk gr key B l perm rs s t w x a b d f) : (zdJ gr B.Hs perm s).length = l.length ∧ ∀ z ∈ zdJ gr B.Hs perm s, zaw gr z = true := by
 have h := zvl k (ss := s) P.m.pb (by rw [P.m.pl]; exact P.bs.l) P.bs.s
 exact ⟨by rw [h.1, P.m.pl], h.2⟩
theorem PmOk.len (k : OkG gr) (P : PmOk gr key B l perm rs s t w x a b d f) : (pmL gr key B l perm rs s).length = 1 + 5 * l.length := by
 have h1 := (P.cols k).1
 have h2 := P.m.pl
 unfold pmL
 rw [zqL, zhv, h1]; omega
theorem PmOk.dig (k : OkG gr) (P : PmOk gr key B l perm rs s t w x a b d f) : (pmL gr key B l perm rs s).all zbz = true :=
 zqE k P.m.key P.m.c (zlg k P.m) (zgK k (List.all_eq_true.2 (P.cols k).2))
theorem PmOk.e (k : OkG gr) (P : PmOk gr key B l perm rs s t w x a b d f) : (pmE gr key B l perm rs s).length = l.length ∧ ∀ z ∈ pmE gr key B l perm rs s, E9 gr.Q z := ztk k _ _ _
theorem PmOk.o (k : OkG gr) (P : PmOk gr key B l perm rs s t w x a b d f) : (pmO gr key B l perm rs s).length = l.length ∧ ∀ z ∈ pmO gr key B l perm rs s, E9 gr.Q z := by
 obtain ⟨h1, h2⟩ := P.e k
 refine ⟨by rw [← P.m.pl]; simp [pmO, zmf], fun z hz => ?_⟩
 obtain ⟨j, hj, rfl⟩ := List.mem_map.1 hz
 have := P.m.pr j hj
 rw [zal (show j.toNat < _ by omega)]
 exact h2 _ (List.getElem_mem _)
theorem PmOk.chn (k : OkG gr) (P : PmOk gr key B l perm rs s t w x a b d f) : (zb3 gr B.H (pmO gr key B l perm rs s) t).length = l.length ∧ ∀ z ∈ zb3 gr B.H (pmO gr key B l perm rs s) t, zaw gr z = true := by
 unfold zb3
 refine ⟨by simp [(P.o k).1], fun z hz => ?_⟩
 obtain ⟨j, hj, rfl⟩ := List.mem_map.1 hz
 exact zs1 k P.bs.h _ _ _
theorem zyh {h : Int} {es ts : List Int} {i : Nat} (hi : i < es.length) : ix ([h] ++ zb3 gr h es ts) (i : Int) = some (hN gr h es ts i) := by
 unfold zb3
 cases i with
 | zero => rfl
 | succ i => exact zu3 (by simp [show i < es.length by omega])
theorem PmOk.com (k : OkG gr) (P : PmOk gr key B l perm rs s t w x a b d f) : (pmC gr key B l perm rs s t w x a b d f).length = l.length + 5 ∧ ∀ z ∈ pmC gr key B l perm rs s t w x a b d f, R9 z := by
 have hh := zdo k P.bs.h
 refine ⟨by simp [pmC, zns], fun z hz => ?_⟩
 rcases List.mem_append.1 hz with h | h
 ·simp only [zns, List.mem_cons, List.not_mem_nil, or_false] at h
  rcases h with rfl | rfl | rfl | rfl | rfl
  ·exact za8 k _ _
  ·exact zf4 k (za8 k _ _) (zc1 k _ _)
  ·exact za8 k _ _
  ·exact zf4 k (za8 k _ _) (zc1 k _ _)
  exact zf4 k (za8 k _ _) (zc1 k _ _)
 obtain ⟨i, _, rfl⟩ := List.mem_map.1 h
 exact zf4 k (za8 k _ _) (za8 k _ _)
theorem PmOk.lend (k : OkG gr) (P : PmOk gr key B l perm rs s t w x a b d f) : (pmL gr key B l perm rs s ++ zb3 gr B.H (pmO gr key B l perm rs s) t ++ pmC gr key B l perm rs s t w x a b d f).length = 6 + 7 * l.length ∧ (pmL gr key B l perm rs s ++ zb3 gr B.H (pmO gr key B l perm rs s) t ++ pmC gr key B l perm rs s t w x a b d f).all zbz = true := by
 have h1 := P.len k
 have h2 := (P.chn k).1
 have h3 := (P.com k).1
 refine ⟨by rw [List.length_append, List.length_append, h1, h2, h3]; omega, ?_⟩
 rw [List.all_append, List.all_append, P.dig k, zgK k (List.all_eq_true.2 (P.chn k).2), zBL (P.com k).2]
 rfl
theorem zmI (P : PmOk gr key B l perm rs s t w x a b d f) (k : OkG gr) : zcG key l (zdd gr key l perm rs) (zdJ gr B.Hs perm s) = some (pmL gr key B l perm rs s) ∧ zdm key l (zdd gr key l perm rs) (zdJ gr B.Hs perm s) = some (pmL gr key B l perm rs s) := by
 have hn := P.m.n
 have hpl := P.m.pl
 exact ⟨ztU (by omega) (by rw [zhv]; omega) (by rw [(P.cols k).1]; omega), zsO (by omega) (by rw [zhv]; omega) (by rw [(P.cols k).1]; omega)⟩
theorem zpI (P : PmOk gr key B l perm rs s t w x a b d f) (k : OkG gr) : za5 gr znw (pmL gr key B l perm rs s) (l.length : Int) = some (pmE gr key B l perm rs s, true) ∧ zdf gr znw (pmL gr key B l perm rs s) (l.length : Int) = some (pmE gr key B l perm rs s) := by
 have hn := P.m.n
 exact ⟨zs8 k (by decide) (by rw [P.len k]; omega) (P.dig k) (by omega) (by omega), zsU k (by decide) (by rw [P.len k]; omega) (P.dig k) (by omega)⟩
theorem zvd (P : PmOk gr key B l perm rs s t w x a b d f) (k : OkG gr) : zfZ (pmE gr key B l perm rs s) perm = some (pmO gr key B l perm rs s) := by
 have hn := P.m.n
 have hpl := P.m.pl
 have h := (P.e k).1
 exact zDm (e := pmE gr key B l perm rs s) (fun z hz => by have := P.m.pr z hz; omega) (by omega)
theorem zwO (P : PmOk gr key B l perm rs s t w x a b d f) (k : OkG gr) : zbx [pmL gr key B l perm rs s, zb3 gr B.H (pmO gr key B l perm rs s) t, pmC gr key B l perm rs s t w x a b d f] = some (pmL gr key B l perm rs s ++ zb3 gr B.H (pmO gr key B l perm rs s) t ++ pmC gr key B l perm rs s t w x a b d f) := by
 have hfl : [pmL gr key B l perm rs s, zb3 gr B.H (pmO gr key B l perm rs s) t, pmC gr key B l perm rs s t w x a b d f].flatten = pmL gr key B l perm rs s ++ zb3 gr B.H (pmO gr key B l perm rs s) t ++ pmC gr key B l perm rs s t w x a b d f := by simp
 have h := P.lend k
 have hn := P.m.n
 rw [zn5 _ (by rw [hfl]; omega), hfl]
theorem ztq (P : PmOk gr key B l perm rs s t w x a b d f) (k : OkG gr) : zbl gr endS (pmL gr key B l perm rs s ++ zb3 gr B.H (pmO gr key B l perm rs s) t ++ pmC gr key B l perm rs s t w x a b d f) = some (pmZ gr key B l perm rs s t w x a b d f, true) ∧ zcQ gr endS (pmL gr key B l perm rs s ++ zb3 gr B.H (pmO gr key B l perm rs s) t ++ pmC gr key B l perm rs s t w x a b d f) = some (pmZ gr key B l perm rs s t w x a b d f) := by
 have h := P.lend k
 have hn := P.m.n
 refine ⟨?_, zit k (by decide) (by omega) h.2⟩
 rw [zo6 k _ (by omega), if_pos (zrE k (by decide) (by rw [show endS.size = 9 from rfl]; omega) h.2)]
 rfl
theorem PmOk.z (P : PmOk gr key B l perm rs s t w x a b d f) (k : OkG gr) : E9 gr.Q (pmZ gr key B l perm rs s t w x a b d f) := ztG k _ _
theorem zth : zns gr key B.Hs (zdd gr key l perm rs) x a b d f ++ (List.range l.length).map (zjg gr B.H (pmO gr key B l perm rs s) t w x) = pmC gr key B l perm rs s t w x a b d f := rfl
end
theorem zwM {gr : Group} (k : OkG gr) {own t : List Int} {n : Nat} (ho : own.length = n) (ht : t.length = n) (hoe : ∀ z ∈ own, E9 gr.Q z) (hte : ∀ z ∈ t, E9 gr.Q z) : zar (σ := Int) (fun i20 s19 =>
 (ix t i20).bind fun x26 =>
 (ix own i20).bind fun x27 =>
 (za4 gr (IntKind.i64.wrap (x26 + (IntKind.i64.wrap (x27 * s19))))).bind fun z28 =>
 some (.go z28)) (fun s19 => s19) n 0 0 = some (yN gr.Q own t n) := by
 have hp := k.p
 have hq := k.q
 refine zau (zaV (fun i y => y = yN gr.Q own t i) (by unfold yN; rfl) ?_ fun y h => h)
 rintro i y hi rfl
 refine zav (show i < t.length by omega) (zav (show i < own.length by omega) (zac (ziC k _) (zab ?_)))
 rw [(zgV (q := gr.Q) (by omega) (zch hte (by omega)) (zch hoe (by omega)) (zsq (by omega) _ _ _)).1]
 show _ = yN gr.Q own t (i + 1)
 conv => rhs; unfold yN
 rw [zal (show i < t.length by omega), zal (show i < own.length by omega)]
theorem zsP {gr : Group} (k : OkG gr) {h : Int} (hh : R9 h) {own t w x A D E c5 : List Int} {n : Nat} (ho : own.length = n) (hw : w.length = n) (hx : x.length = n) (h5 : c5.length = 5) (hn : n ≤ 100) : zar (σ := (List Int) × List Int × List Int × List Int × List Int) (fun i62 s61 =>
 (ix w i62).bind fun x68 =>
 (ix ([h] ++ zb3 gr h own t) i62).bind fun x69 =>
 (ix x i62).bind fun x70 =>
 (zai gr gr.G x68).bind fun z71 =>
 (zai gr x69 x70).bind fun z72 =>
 (zan gr [z71, z72]).bind fun z73 =>
 gd ((s61.2.2.1.length + 1) * 8 ≤ 140737488355328 ∧ s61.2.2.1.length + 1 ≤ 4611686018427387904) <|
 some (.go (s61.1, s61.2.1, s61.2.2.1 ++ [z73], s61.2.2.2.1, s61.2.2.2.2))) (fun s61 => (s61.1, s61.2.1, s61.2.2.1, s61.2.2.2.1, s61.2.2.2.2)) n 0 (A, zb3 gr h own t, c5, D, E) = some (A, zb3 gr h own t, c5 ++ (List.range n).map (zjg gr h own t w x), D, E) := by
 refine zau (zaV (fun i y => y = (A, zb3 gr h own t, c5 ++ (List.range i).map (zjg gr h own t w x), D, E)) (by simp) ?_ (by rintro y rfl; rfl))
 rintro i y hi rfl
 refine zav (show i < w.length by omega) (zac (zyh (by omega)) (zav (show i < x.length by omega) (zac (pwI k (r_G k) _) (zac (pwI k (zsh k hh _ _ _) _) (zac (m2I k (za8 k _ _) (za8 k _ _)) (zam (by simp; omega) (zab ?_)))))))
 show _ = _
 rw [List.range_succ, List.map_append, ← List.append_assoc]
 simp only [List.map_cons, List.map_nil, zjg, zal (show i < w.length by omega), zal (show i < x.length by omega)]
theorem ztx {gr : Group} (k : OkG gr) {h : Int} (hh : R9 h) {own t w x A D E c5 : List Int} {n : Nat} (ho : own.length = n) (hw : w.length = n) (hx : x.length = n) (h5 : c5.length = 5) (hn : n ≤ 100) : zar (σ := (List Int) × List Int × List Int × List Int × List Int × Int) (fun i55 s54 =>
 (ix w i55).bind fun x61 =>
 (ix x i55).bind fun x62 =>
 (zaq gr gr.G x61).bind fun z63 =>
 (zaq gr s54.2.2.2.2.2 x62).bind fun z64 =>
 (zaP gr [z63, z64]).bind fun z65 =>
 gd ((s54.2.2.1.length + 1) * 8 ≤ 140737488355328 ∧ s54.2.2.1.length + 1 ≤ 4611686018427387904) <|
 (ix s54.2.1 i55).bind fun x66 =>
 some (.go (s54.1, s54.2.1, s54.2.2.1 ++ [z65], s54.2.2.2.1, s54.2.2.2.2.1, x66))) (fun s54 => (s54.1, s54.2.1, s54.2.2.1, s54.2.2.2.1, s54.2.2.2.2.1)) n 0 (A, zb3 gr h own t, c5, D, E, h) = some (A, zb3 gr h own t, c5 ++ (List.range n).map (zjg gr h own t w x), D, E) := by
 have hcl : (zb3 gr h own t).length = n := by simp [zb3, ho]
 refine zau (zaV (fun i y => y = (A, zb3 gr h own t, c5 ++ (List.range i).map (zjg gr h own t w x), D, E, hN gr h own t i)) (by simp [hN]) ?_ (by rintro y rfl; rfl))
 rintro i y hi rfl
 have hc2 : (zb3 gr h own t)[i]'(by omega) = hN gr h own t (i + 1) := by simp [zb3]
 refine zav (show i < w.length by omega) (zav (show i < x.length by omega) (zac (pwS k (r_G k) _) (zac (pwS k (zsh k hh _ _ _) _) (zac (m2S k (za8 k _ _) (za8 k _ _)) (zam (by simp; omega) (zav (l := zb3 gr h own t) (show i < _ by omega) (zab ?_)))))))
 show _ = _
 rw [hc2, List.range_succ, List.map_append, ← List.append_assoc]
 simp only [List.map_cons, List.map_nil, zjg, zal (show i < w.length by omega), zal (show i < x.length by omega)]
theorem zpf {gr : Group} (k : OkG gr) {z : Int} (hz : E9 gr.Q z) {w t A B C D R : List Int} {n : Nat} (hw : w.length = n ∧ ∀ z ∈ w, E9 gr.Q z) (ht : t.length = n ∧ ∀ z ∈ t, E9 gr.Q z) (hR : R.length ≤ 1000) (hn : n ≤ 100) : zar (σ := (List Int) × List Int × List Int × List Int × List Int) (fun i102 s101 =>
 (ix w i102).bind fun x108 =>
 (ix t i102).bind fun x109 =>
 (za4 gr (IntKind.i64.wrap (x108 + (IntKind.i64.wrap (z * x109))))).bind fun z110 =>
 gd ((s101.2.2.2.2.length + 1) * 8 ≤ 140737488355328 ∧ s101.2.2.2.2.length + 1 ≤ 4611686018427387904) <|
 some (.go (s101.1, s101.2.1, s101.2.2.1, s101.2.2.2.1, s101.2.2.2.2 ++ [z110]))) (fun s101 => (s101.1, s101.2.1, s101.2.2.1, s101.2.2.2.1, s101.2.2.2.2)) n 0 (A, B, C, D, R) = some (A, B, C, D, R ++ (List.range n).map (rsF gr.Q z w t)) := by
 have hp := k.p
 have hq := k.q
 refine zau (zaV (fun i y => y = (A, B, C, D, R ++ (List.range i).map (rsF gr.Q z w t))) (by simp) ?_ (by rintro y rfl; rfl))
 rintro i y hi rfl
 refine zav (show i < w.length by omega) (zav (show i < t.length by omega) (zac (ziC k _) (zam (by simp; omega) (zab ?_))))
 rw [(zgV (q := gr.Q) (by omega) (zch (i := i) hw.2 (by omega)) hz (zch (i := i) ht.2 (by omega))).1]
 show _ = _
 rw [List.range_succ, List.map_append, ← List.append_assoc]
 simp only [List.map_cons, List.map_nil, rsF, zal (show i < w.length by omega), zal (show i < t.length by omega)]
theorem zph {gr : Group} (k : OkG gr) {z : Int} (hz : E9 gr.Q z) {w t A B C D R : List Int} {n : Nat} (hw : w.length = n ∧ ∀ z ∈ w, E9 gr.Q z) (ht : t.length = n ∧ ∀ z ∈ t, E9 gr.Q z) (hR : R.length ≤ 1000) (hn : n ≤ 100) : zar (σ := (List Int) × List Int × List Int × List Int × List Int) (fun i88 s87 =>
 (ix w i88).bind fun x94 =>
 (ix t i88).bind fun x95 =>
 gd (gr.Q ≠ 0) <|
 gd ((s87.2.2.2.2.length + 1) * 8 ≤ 140737488355328 ∧ s87.2.2.2.2.length + 1 ≤ 4611686018427387904) <|
 some (.go (s87.1, s87.2.1, s87.2.2.1, s87.2.2.2.1, s87.2.2.2.2 ++ [(IntKind.i64.wrap (x94 + (IntKind.i64.wrap (z * x95)))).tmod gr.Q]))) (fun s87 => (s87.1, s87.2.1, s87.2.2.1, s87.2.2.2.1, s87.2.2.2.2)) n 0 (A, B, C, D, R) = some (A, B, C, D, R ++ (List.range n).map (rsF gr.Q z w t)) := by
 have hp := k.p
 have hq := k.q
 refine zau (zaV (fun i y => y = (A, B, C, D, R ++ (List.range i).map (rsF gr.Q z w t))) (by simp) ?_ (by rintro y rfl; rfl))
 rintro i y hi rfl
 refine zav (show i < w.length by omega) (zav (show i < t.length by omega) (zam (by omega) (zam (by simp; omega) (zab ?_))))
 rw [(zgV (q := gr.Q) (by omega) (zch (i := i) hw.2 (by omega)) hz (zch (i := i) ht.2 (by omega))).2]
 show _ = _
 rw [List.range_succ, List.map_append, ← List.append_assoc]
 simp only [List.map_cons, List.map_nil, rsF, zal (show i < w.length by omega), zal (show i < t.length by omega)]
theorem zuW {gr : Group} (k : OkG gr) {e t perm own : List Int} {n : Nat} (hp : perm.length = n) (ht : t.length = n ∧ ∀ z ∈ t, E9 gr.Q z) (hb : ∀ z ∈ perm, 0 ≤ z ∧ z < e.length) (hoe : ∀ z ∈ e, E9 gr.Q z) (ho : own = zmf e perm) (hn : n ≤ 100) : zar (σ := (List Int) × Int) (fun i12 s11 =>
 (ix perm i12).bind fun x18 =>
 (ix e x18).bind fun x19 =>
 gd ((s11.1.length + 1) * 8 ≤ 140737488355328 ∧ s11.1.length + 1 ≤ 4611686018427387904) <|
 (ix t i12).bind fun x20 =>
 gd (gr.Q ≠ 0) <|
 some (.go (s11.1 ++ [x19], (IntKind.i64.wrap (x20 + (IntKind.i64.wrap (x19 * s11.2)))).tmod gr.Q))) (fun s11 => (s11.1, s11.2)) perm.length 0 ([], 0) = some (own, yN gr.Q own t n) := by
 have hP := k.p
 have hq := k.q
 have hol : own.length = n := by rw [ho]; simp [zmf, hp]
 refine zau (zaV (fun i y => y = (own.take i, yN gr.Q own t i)) (by unfold yN; rfl) ?_ ?_)
 ·rintro i y hi rfl
  have hx' := zch hb hi
  obtain ⟨j, hj⟩ := Int.eq_ofNat_of_zero_le hx'.1
  have hj2 : j < e.length := by omega
  have ho2 : own[i]'(by omega) = e[j] := by
   simp only [ho, zmf, List.getElem_map, hj, Int.toNat_natCast]
   exact zal hj2
  refine zav hi ?_
  rw [hj]
  refine zav hj2 (zam (by simp; omega) (zav (show i < t.length by omega) (zam (by omega) (zab ?_))))
  rw [(zgV (q := gr.Q) (by omega) (zch (i := i) ht.2 (by omega)) (zch (i := j) hoe hj2) (zsq (by omega) _ _ _)).2]
  show _ = (own.take (i + 1), yN gr.Q own t (i + 1))
  conv => rhs; unfold yN
  rw [zal (show i < t.length by omega), zal (show i < own.length by omega), List.take_succ_eq_append_getElem (show i < own.length by omega), ho2]
 rintro y rfl
 rw [List.take_of_length_le (by omega), hp]
attribute [local irreducible] pmL pmE pmO pmC pmZ zjg rsF sdV hN
section
variable {gr : Group} {key : Int} {B : Bases} {l : List Cipher} {perm rs s t w x : List Int} {a b d f : Int}
theorem zjx (l : List Cipher) : (sdV l).1.length = l.length ∧ (sdV l).2.length = l.length := by unfold sdV; simp
set_option maxHeartbeats 4000000 in
theorem zAl (k : OkG gr) (P : PmOk gr key B l perm rs s t w x a b d f) : zb1 gr B key l perm rs (s ++ (t ++ (a :: b :: d :: f :: (w ++ x)))) = some (pmV gr key B l perm rs s t w x a b d f, true) := by
 have hp := k.p
 have hq := k.q
 have hq2 : 0 < gr.Q ∧ gr.Q ≤ 2000000000 := by omega
 have hn := P.m.n
 have hpl := P.m.pl
 have hrl := P.m.rl
 have hk := zdo k P.m.key
 have hH := zdo k P.bs.h
 have hmh := zlg k P.m
 have hml : (zdd gr key l perm rs).length = l.length := by rw [zhv, P.m.pl]
 have hsd := zlj k hmh
 have hsl := zjx (zdd gr key l perm rs)
 rw [hml] at hsl
 obtain ⟨hol, hoe⟩ := P.o k
 obtain ⟨hel, hee⟩ := P.e k
 have hz := P.z k
 have hXl := P.c.x.1
 have hWl := P.c.w.1
 have hTl := P.c.t.1
 have hSl := P.c.s.1
 have hB := zfG k P.bs.s
 have hBl := P.bs.l
 have c1 := ztd k P.m
 have c2 := zte (ss := s) k P.prn (by omega) (by omega) P.bl
 have c3 := (zmI P k).1
 have c4 := (zpI P k).1
 have c5 := zvd P k
 have c6 := ztw k hH (es := pmO gr key B l perm rs s) (ts := t) (by omega) (by omega)
 have c7 := zwM k hol hTl hoe P.c.t.2
 have c8 := (zh7 (l := zdd gr key l perm rs) (by omega)).1
 have c9 := zwO P k
 have c10 := (ztq P k).1
 have c11 := zsP (A := zdJ gr B.Hs perm s) (D := []) (E := []) (t := t) k hH hol hWl hXl (show (zns gr key B.Hs (zdd gr key l perm rs) x a b d f).length = 5 from rfl) (by omega)
 rw [zth] at c11
 have p1 := zeN (m := x) k hB (by omega)
 have p2 := zeN (m := x) k hsd.1 (by omega)
 have p3 := zeN (m := x) k hsd.2 (by omega)
 have d1 := ((ztb hq2 P.c.s.2).1.trans (by rw [hSl]) : zf8 s gr.Q = some (smN gr.Q s l.length))
 have d2 := ((ztC hq2 (m := pmE gr key B l perm rs s) P.c.s.2 hee (by omega)).trans (by rw [hSl]) : zeO s (pmE gr key B l perm rs s) gr.Q = some (dtN gr.Q s (pmE gr key B l perm rs s) l.length))
 have d3 := ((ztC hq2 (l := rs) (m := pmO gr key B l perm rs s) (zrB P.m.re) hoe (by omega)).trans (by rw [P.m.rl]) : zeO rs (pmO gr key B l perm rs s) gr.Q = some (dtN gr.Q rs (pmO gr key B l perm rs s) l.length))
 have hsm := zox hq2.1 s l.length
 have hd1 := zlf hq2.1 s (pmE gr key B l perm rs s) l.length
 have hd2 := zlf hq2.1 rs (pmO gr key B l perm rs s) l.length
 have hy := zsq hq2.1 (pmO gr key B l perm rs s) t l.length
 have hcn : (zb3 gr B.H (pmO gr key B l perm rs s) t).length = l.length := (P.chn k).1
 have x1 := (ziC k _).trans (congrArg (fun v => some (v % gr.Q)) (zgV (by omega) P.c.a hz hsm).1)
 have x2 := (ziC k _).trans (congrArg (fun v => some (v % gr.Q)) (zgV (by omega) P.c.b hz hd1).1)
 have x3 := (ziC k _).trans (congrArg (fun v => some (v % gr.Q)) (zgV (by omega) P.c.d hz hy).1)
 have x4 := (ziC k _).trans (congrArg (fun v => some (v % gr.Q)) (zgV (by omega) P.c.f hz hd2).1)
 have r1 := fun R hR => zpf (A := zdJ gr B.Hs perm s) (B := zb3 gr B.H (pmO gr key B l perm rs s) t) (C := pmC gr key B l perm rs s t w x a b d f) (D := [pmZ gr key B l perm rs s t w x a b d f]) (R := R) k hz P.c.w P.c.t hR (by omega)
 have r2 := fun R hR => zpf (A := zdJ gr B.Hs perm s) (B := zb3 gr B.H (pmO gr key B l perm rs s) t) (C := pmC gr key B l perm rs s t w x a b d f) (D := [pmZ gr key B l perm rs s t w x a b d f]) (R := R) k hz P.c.x ⟨hol, hoe⟩ hR (by omega)
 clear hsl hsd hmh hB
 unfold zb1
 refine zau (zac (zkV hSl) (zac (zkV hTl) (zac (zmz _ _) (zac (zmz _ _) (zac (zmz _ _) (zac (zmz _ _) (zac (zkV hWl) (zac (zvA hXl) ?_))))))))
 dsimp only
 refine zac c1 (zac c2 (zac c3 (zac c4 (zcP rfl (zac c5 (zac c6 (zac c7 (zac c8 ?_))))))))
 refine zac (pwI k (r_G k) _) (zac (pwI k (r_G k) _) (zac p1 (zac (m2I k (za8 k _ _) (zc1 k _ _)) (zac (pwI k (r_G k) _) (zac (pwI k (r_G k) _) (zac p2 (zac (m2I k (za8 k _ _) (zc1 k _ _)) (zac (pwI k hk _) (zac p3 (zac (m2I k (za8 k _ _) (zc1 k _ _)) (zam ?_ (zac rfl (zac c11 (zac c9 (zac c10 (zcP rfl ?_))))))))))))))))
 ·simp only [List.length_cons, List.length_nil]; omega
 refine zac d1 (zac x1 (zac d2 (zac x2 (zac x3 (zac d3 (zac x4 (zac (r1 _ ?_) (zac (r2 _ ?_) (zab ?_)))))))))
 ·simp
 ·simp; omega
 unfold pmV pmR; rfl
end
end
section
attribute [local irreducible] chG zgG zdJ zdd zg2 zb3 zbq dtN smN yN
section
variable {gr : Group} {key : Int} {B : Bases} {l : List Cipher} {perm rs s t w x : List Int} {a b d f : Int}
theorem zeV {m : Nat} (h : m ≤ 1000000) {z : Int} (e : z = (m : Int)) : IntKind.i64.wrap z = (m : Int) := by rw [e]; exact zaz (by omega) (by omega)
theorem zxD (k : OkG gr) (P : PmOk gr key B l perm rs s t w x a b d f) : zca gr key l (zdd gr key l perm rs) (zdJ gr B.Hs perm s) = some (pmE gr key B l perm rs s) := by
 unfold zca
 exact zau (zac (zmI P k).2 (zac (zpI P k).2 (zab rfl)))
theorem zyn (k : OkG gr) (P : PmOk gr key B l perm rs s t w x a b d f) {ch rr : List Int} : zco gr key l (zdd gr key l perm rs) ⟨zdJ gr B.Hs perm s, zb3 gr B.H (pmO gr key B l perm rs s) t, ⟨pmC gr key B l perm rs s t w x a b d f, ch, rr⟩⟩ = some (pmZ gr key B l perm rs s t w x a b d f) := by
 have hn := P.m.n
 have h1 := P.len k
 have h2 := (P.chn k).1
 have h3 := (P.com k).1
 unfold zco
 dsimp only
 exact zau (zac (zmI P k).2 (zam (by rw [h1, h2]; omega) (zam (by rw [List.length_append, h1, h2, h3]; omega) (zac (ztq P k).2 (zab rfl)))))
theorem zxY : pmO gr key B l perm rs s = zmf (pmE gr key B l perm rs s) perm := rfl
attribute [local irreducible] pmL pmE pmO pmC pmZ zjg rsF sdV hN
set_option maxHeartbeats 4000000 in
theorem zA1 (k : OkG gr) (P : PmOk gr key B l perm rs s t w x a b d f) : zeH gr key B l perm rs (s ++ (t ++ (a :: b :: d :: f :: (w ++ x)))) = some (pmV gr key B l perm rs s t w x a b d f) := by
 have hp := k.p
 have hq := k.q
 have hq2 : 0 < gr.Q ∧ gr.Q ≤ 2000000000 := by omega
 have hn := P.m.n
 have hpl := P.m.pl
 have hrl := P.m.rl
 have hk := zdo k P.m.key
 have hH := zdo k P.bs.h
 have hmh := zlg k P.m
 have hml : (zdd gr key l perm rs).length = l.length := by rw [zhv, P.m.pl]
 have hsd := zlj k hmh
 have hsl := zjx (zdd gr key l perm rs)
 rw [hml] at hsl
 obtain ⟨hol, hoe⟩ := P.o k
 obtain ⟨hel, hee⟩ := P.e k
 have hz := P.z k
 have hXl := P.c.x.1
 have hWl := P.c.w.1
 have hTl := P.c.t.1
 have hSl := P.c.s.1
 have hB := zfG k P.bs.s
 have hBl := P.bs.l
 have c1 := zsA k P.m
 have c2 := zx7 (ss := s) k P.prn (by omega) (by omega) P.bl
 have c3 := zxD k P
 have c6 := zxN k hH (es := pmO gr key B l perm rs s) (ts := t) (by omega) (by omega)
 have c7 := zuW (e := pmE gr key B l perm rs s) (own := pmO gr key B l perm rs s) k hpl P.c.t (fun z hz => by have := P.m.pr z hz; omega) hee zxY (by omega)
 have c8 := (zh7 (l := zdd gr key l perm rs) (by omega)).2
 have c9 := zyn k P (ch := []) (rr := [])
 have c11 := ztx (A := zdJ gr B.Hs perm s) (D := []) (E := []) (t := t) k hH hol hWl hXl (show (zns gr key B.Hs (zdd gr key l perm rs) x a b d f).length = 5 from rfl) (by omega)
 rw [zth] at c11
 have p1 := zgc (m := x) k hB (by omega)
 have p2 := zgc (m := x) k hsd.1 (by omega)
 have p3 := zgc (m := x) k hsd.2 (by omega)
 have d1 := ((ztb hq2 P.c.s.2).2.trans (by rw [hSl]) : zfE s gr.Q = some (smN gr.Q s l.length))
 have d2 := ((ztj hq2 (m := pmE gr key B l perm rs s) P.c.s.2 hee (by omega)).trans (by rw [hSl]) : zeo s (pmE gr key B l perm rs s) gr.Q = some (dtN gr.Q s (pmE gr key B l perm rs s) l.length))
 have d3 := ((ztj hq2 (l := rs) (m := pmO gr key B l perm rs s) (zrB P.m.re) hoe (by omega)).trans (by rw [P.m.rl]) : zeo rs (pmO gr key B l perm rs s) gr.Q = some (dtN gr.Q rs (pmO gr key B l perm rs s) l.length))
 have hsm := zox hq2.1 s l.length
 have hd1 := zlf hq2.1 s (pmE gr key B l perm rs s) l.length
 have hd2 := zlf hq2.1 rs (pmO gr key B l perm rs s) l.length
 have hy := zsq hq2.1 (pmO gr key B l perm rs s) t l.length
 have x1 := (zgV (by omega) P.c.a hz hsm).2
 have x2 := (zgV (by omega) P.c.b hz hd1).2
 have x3 := (zgV (by omega) P.c.d hz hy).2
 have x4 := (zgV (by omega) P.c.f hz hd2).2
 have r1 := fun R hR => zph (A := zdJ gr B.Hs perm s) (B := zb3 gr B.H (pmO gr key B l perm rs s) t) (C := pmC gr key B l perm rs s t w x a b d f) (D := [pmZ gr key B l perm rs s t w x a b d f]) (R := R) k hz P.c.w P.c.t hR (by omega)
 have r2 := fun R hR => zph (A := zdJ gr B.Hs perm s) (B := zb3 gr B.H (pmO gr key B l perm rs s) t) (C := pmC gr key B l perm rs s t w x a b d f) (D := [pmZ gr key B l perm rs s t w x a b d f]) (R := R) k hz P.c.x ⟨hol, hoe⟩ hR (by omega)
 have hQ : gr.Q ≠ 0 := by omega
 clear hsl hsd hmh hB
 have w2 : IntKind.i64.wrap (2 * (l.length : Int)) = ((2 * l.length : Nat) : Int) := zeV (by omega) (by omega)
 have w21 : IntKind.i64.wrap (((2 * l.length : Nat) : Int) + 1) = ((2 * l.length + 1 : Nat) : Int) := zeV (by omega) (by omega)
 have w22 : IntKind.i64.wrap (((2 * l.length : Nat) : Int) + 2) = ((2 * l.length + 2 : Nat) : Int) := zeV (by omega) (by omega)
 have w23 : IntKind.i64.wrap (((2 * l.length : Nat) : Int) + 3) = ((2 * l.length + 3 : Nat) : Int) := zeV (by omega) (by omega)
 have w24 : IntKind.i64.wrap (((2 * l.length : Nat) : Int) + 4) = ((2 * l.length + 4 : Nat) : Int) := zeV (by omega) (by omega)
 have w3 : IntKind.i64.wrap (3 * (l.length : Int)) = ((3 * l.length : Nat) : Int) := zeV (by omega) (by omega)
 have w34 : IntKind.i64.wrap (((3 * l.length : Nat) : Int) + 4) = ((3 * l.length + 4 : Nat) : Int) := zeV (by omega) (by omega)
 generalize hc : s ++ (t ++ (a :: b :: d :: f :: (w ++ x))) = coins
 have hcl2 : coins.length = 4 * l.length + 4 := by rw [← hc]; simp; omega
 have hs : (coins.take l.length).drop 0 = s := by rw [← hc, ← hSl]; simp
 have ht : (coins.take (2 * l.length)).drop l.length = t := by
  rw [← hc, ← List.append_assoc, List.take_left' (by simp; omega), List.drop_left' hSl]
 have hw : (coins.take (3 * l.length + 4)).drop (2 * l.length + 4) = w := by
  have e : coins = (s ++ (t ++ [a, b, d, f])) ++ (w ++ x) := by rw [← hc]; simp
  rw [e, ← List.append_assoc, List.take_left' (by simp; omega), List.drop_left' (by simp; omega)]
 have hx : (coins.take coins.length).drop (3 * l.length + 4) = x := by
  have e : coins = (s ++ (t ++ ([a, b, d, f] ++ w))) ++ x := by rw [← hc]; simp
  rw [List.take_length, e, List.drop_left' (by simp; omega)]
 have hat : ∀ (i : Nat) (y : Int), i < 4 → [a, b, d, f][i]? = some y → ix coins ((2 * l.length + i : Nat) : Int) = some y := fun i y hi hy => by
  have e : coins = (s ++ t) ++ ([a, b, d, f] ++ (w ++ x)) := by rw [← hc]; simp
  refine zu3 ?_
  have h0 : (s ++ t).length = 2 * l.length := by simp; omega
  rw [e, List.getElem?_append_right (by omega), h0, Nat.add_sub_cancel_left, List.getElem?_append_left (by simpa using hi), hy]
 unfold zeH
 simp only [w2, w21, w22, w23, w24, w3, w34, Int.toNat_natCast, hs, ht, hw, hx]
 refine zau (zac c1 (zam (by omega) (zam (by omega) (zam (by omega) (zam (by omega) (zam (by omega) (zac (hat 0 a (by omega) rfl) (zac (hat 1 b (by omega) rfl) (zac (hat 2 d (by omega) rfl) (zac (hat 3 f (by omega) rfl) (zam (by omega) (zam (by omega) (zam (by omega) (zam (by omega) (zam (by omega) ?_)))))))))))))))
 refine zac c2 (zac c3 (zac c7 (zac c6 (zac c8 ?_))))
 refine zac (pwS k (r_G k) _) (zac (pwS k (r_G k) _) (zac p1 (zac (m2S k (za8 k _ _) (zc1 k _ _)) (zac (pwS k (r_G k) _) (zac (pwS k (r_G k) _) (zac p2 (zac (m2S k (za8 k _ _) (zc1 k _ _)) (zac (pwS k hk _) (zac p3 (zac (m2S k (za8 k _ _) (zc1 k _ _)) (zac c11 (zac c9 ?_))))))))))))
 refine zam hQ (zac d1 (zam hQ (zac d2 (zam hQ (zac d3 (zam hQ ?_))))))
 dsimp only
 rw [x1, x2, x3, x4]
 refine zac (r1 _ ?_) (zac (r2 _ ?_) (zab ?_))
 ·simp
 ·simp; omega
 unfold pmV pmR; rfl
end
end
abbrev pm0 : MatrixProof := ⟨[], [], ⟨[], [], []⟩⟩
def mkB (gr : Group) (key : Int) (l : List Cipher) : Bool := zaw gr key && (inB 1 12 l.length && l.all (zbr gr))
noncomputable def pkB (gr : Group) (n : Nat) (perm rs : List Int) : Bool := decide (perm.length = n) && zeX perm && (decide (rs.length = n) && rs.all (zez gr))
theorem zgb {gr : Group} (k : OkG gr) (key : Int) (l : List Cipher) {B : Bases} {tb : Bool} (hB : zaM gr (l.length : Int) = some (B, tb)) : zb9 gr key l = some (if mkB gr key l = true then (B, tb) else (⟨0, []⟩, false)) := by
 unfold zb9
 rw [zj7, zls.2 k, zon k, zj9 k, hB]
 unfold mkB
 cases zaw gr key <;> cases (inB 1 12 l.length && l.all (zbr gr)) <;> rfl
theorem zlA {gr : Group} (k : ¬ OkG gr) (key : Int) (l : List Cipher) : zb9 gr key l = some (⟨0, []⟩, false) := by
 unfold zb9
 rw [zj7, zft k]
 rfl
theorem zjo {gr : Group} {key : Int} {l : List Cipher} {perm rs : List Int} : (mkB gr key l && pkB gr l.length perm rs) = true ↔ MxOk gr key l perm rs := zA3
theorem zyf {gr : Group} (k : OkG gr) (key : Int) {l : List Cipher} (hl : l.length ≤ 20) (perm rs : List Int) {B : Bases} {tb : Bool} (hB : zaM gr (l.length : Int) = some (B, tb)) : zeb gr key l perm rs = some (if (tb && (mkB gr key l && pkB gr l.length perm rs)) = true then (zdd gr key l perm rs, true) else ([], false)) := by
 unfold zeb
 rw [zgb k key l hB, zh2 k (by omega)]
 show Option.bind _ _ = _
 rw [show (decide (perm.length = l.length) && zeX perm && (decide (rs.length = l.length) && rs.all (zez gr))) = pkB gr l.length perm rs from rfl]
 cases h1 : mkB gr key l <;> cases tb <;> cases h2 : pkB gr l.length perm rs <;> try rfl
 have m := zjo.1 (show (mkB gr key l && pkB gr l.length perm rs) = true by rw [h1, h2]; rfl)
 simp [ztd k m]
theorem zw3 {gr : Group} (k : OkG gr) (key : Int) {l : List Cipher} (hl : l.length ≤ 20) (perm rs : List Int) : zcO gr key l perm rs = some (if (mkB gr key l && pkB gr l.length perm rs) = true then (zdd gr key l perm rs, true) else ([], false)) := by
 have hq := k.q
 have hp := k.p
 unfold zcO
 rw [zii k, zna perm l.length (by omega), zjp (by omega) (by omega)]
 have e2 : ((rs.length : Int) != (l.length : Int)) = !decide (rs.length = l.length) := by by_cases h : rs.length = l.length <;> simp [h]; omega
 rw [e2, show (zaw gr key && (inB 1 12 l.length && l.all (zbr gr))) = mkB gr key l from rfl]
 cases h1 : mkB gr key l
 ·rfl
 cases h2 : (decide (perm.length = l.length) && zeX perm)
 ·simp [pkB, h2]
 cases h3 : decide (rs.length = l.length)
 ·simp [pkB, h3]
 cases h4 : rs.all (zez gr)
 ·simp [pkB, h4]
 have m := zjo.1 (show (mkB gr key l && pkB gr l.length perm rs) = true by simp only [pkB, h1, h2, h3, h4, Bool.and_self])
 simp [pkB, h2, h3, h4, zsA k m]
theorem zvx {gr : Group} (k : ¬ OkG gr) (key : Int) (l : List Cipher) (perm rs : List Int) : zcO gr key l perm rs = some ([], false) := by
 unfold zcO
 rw [zlQ k]
 rfl
structure PmX (gr : Group) (key : Int) (l : List Cipher) (perm rs coins : List Int) (p : MatrixProof) : Prop where
 k : OkG gr
 x : ∃ (B : Bases) (s t w x : List Int) (a b d f : Int), coins = s ++ (t ++ (a :: b :: d :: f :: (w ++ x))) ∧ PmOk gr key B l perm rs s t w x a b d f ∧ p = pmV gr key B l perm rs s t w x a b d f ∧ zaM gr (l.length : Int) = some (B, true)
theorem zwT (gr : Group) (key : Int) {l : List Cipher} (hl : l.length ≤ 20) (perm rs coins : List Int) : ∃ p t, zbS gr key l perm rs coins = some (p, t) ∧ zbB gr key l perm rs coins = some (p, t) ∧ (t = false → p = pm0) ∧ (t = true → PmX gr key l perm rs coins p) := by
 have w4 : IntKind.i64.wrap (IntKind.i64.wrap (4 * (l.length : Int)) + 4) = ((4 * l.length + 4 : Nat) : Int) := by
  rw [zaz (n := 4 * (l.length : Int)) (by omega) (by omega)]; exact zeV (by omega) (by omega)
 by_cases k : OkG gr
 ·have hq := k.q
  have hp := k.p
  obtain ⟨B, tb, b1, b2, b3⟩ := zxq k (n := l.length) (by omega)
  have e2 : ((rs.length : Int) != (l.length : Int)) = !decide (rs.length = l.length) := by by_cases h : rs.length = l.length <;> simp [h]; omega
  have e3 : ((coins.length : Int) != ((4 * l.length + 4 : Nat) : Int)) = !decide (coins.length = 4 * l.length + 4) := by by_cases h : coins.length = 4 * l.length + 4 <;> simp [h]; omega
  cases h1 : mkB gr key l
  ·refine ⟨pm0, false, ?_, ?_, fun _ => rfl, fun h => by cases h⟩
   ·unfold zbS
    rw [zgb k key l b2, h1]; rfl
   unfold zbB
   rw [zii k, show (zaw gr key && (inB 1 12 l.length && l.all (zbr gr))) = mkB gr key l from rfl, h1]; rfl
  cases h2 : pkB gr l.length perm rs
  ·refine ⟨pm0, false, ?_, ?_, fun _ => rfl, fun h => by cases h⟩
   ·unfold zbS
    rw [zgb k key l b2, h1, zh2 k (by omega), show (decide (perm.length = l.length) && zeX perm && (decide (rs.length = l.length) && rs.all (zez gr))) = pkB gr l.length perm rs from rfl, h2]
    cases tb <;> rfl
   unfold zbB
   rw [zii k, show (zaw gr key && (inB 1 12 l.length && l.all (zbr gr))) = mkB gr key l from rfl, h1, zna perm l.length (by omega), zjp (by omega) (by omega), e2]
   unfold pkB at h2
   cases h3 : (decide (perm.length = l.length) && zeX perm)
   ·simp
   cases h4 : decide (rs.length = l.length)
   ·simp
   rw [h3, h4] at h2
   have h2 : rs.all (zez gr) = false := by simpa using h2
   simp [h2]
  have m := zjo.1 (show (mkB gr key l && pkB gr l.length perm rs) = true by rw [h1, h2]; rfl)
  have I : ∀ cc, zbm gr coins = some cc → zbS gr key l perm rs coins = if (tb && (decide (coins.length = 4 * l.length + 4) && cc)) = true then (zb1 gr B key l perm rs coins).bind (fun z => some (z.1, z.2)) else some (pm0, false) := by
   intro cc hcc
   unfold zbS
   rw [zgb k key l b2, h1, zh2 k (by omega), show (decide (perm.length = l.length) && zeX perm && (decide (rs.length = l.length) && rs.all (zez gr))) = pkB gr l.length perm rs from rfl, h2, w4, e3, hcc]
   cases tb <;> cases decide (coins.length = 4 * l.length + 4) <;> cases cc <;> rfl
  have S : ∀ cc, zdw gr coins = some cc → zbB gr key l perm rs coins = if (tb && (decide (coins.length = 4 * l.length + 4) && cc)) = true then (zeH gr key B l perm rs coins).bind (fun z => some (z, true)) else some (pm0, false) := by
   intro cc hcc
   unfold zbB
   have h4 : decide (rs.length = l.length) = true := by simp [m.rl]
   have h5 : (decide (perm.length = l.length) && zeX perm) = true := by simp [m.pl, m.pb]
   rw [zii k, show (zaw gr key && (inB 1 12 l.length && l.all (zbr gr))) = mkB gr key l from rfl, h1, zna perm l.length (by omega), zjp (l := rs) (by omega) (by omega), e2, h4, h5, m.re, w4, e3, hcc, b1]
   cases tb <;> cases decide (coins.length = 4 * l.length + 4) <;> cases cc <;> rfl
  have I2 := I _ (zhD (by omega) (by omega) coins)
  have S2 := S _ (zjp (by omega) (by omega) coins)
  by_cases hc : (tb && (decide (coins.length = 4 * l.length + 4) && coins.all (zez gr))) = true
  ·rw [if_pos hc] at I2 S2
   simp only [Bool.and_eq_true, decide_eq_true_eq] at hc
   obtain ⟨ht, hc1, hc2⟩ := hc
   subst ht
   obtain ⟨s, t, w, x, a, b, d, f, rfl, hC⟩ := zuJ hc1 hc2
   have P : PmOk gr key B l perm rs s t w x a b d f := ⟨m, b3 rfl, hC⟩
   rw [zAl k P] at I2
   rw [zA1 k P] at S2
   refine ⟨pmV gr key B l perm rs s t w x a b d f, true, I2, S2, fun h => (by cases h), fun _ => ⟨k, B, s, t, w, x, a, b, d, f, rfl, P, rfl, b2⟩⟩
  rw [if_neg hc] at I2 S2
  refine ⟨pm0, false, I2, S2, fun _ => rfl, fun h => by cases h⟩
 refine ⟨pm0, false, ?_, ?_, fun _ => rfl, fun h => by cases h⟩
 ·unfold zbS
  rw [zlA k]; rfl
 unfold zbB
 rw [zlQ k]; rfl
theorem zyp {gr : Group} {key : Int} {l : List Cipher} (hl : l.length ≤ 20) {perm rs coins : List Int} {p : MatrixProof} (h : PmX gr key l perm rs coins p) : p.Columns.length ≤ 1000 ∧ p.Chain.length ≤ 1000 ∧ p.Pi.Commits.length ≤ 1000 ∧ p.Pi.Challenges.length ≤ 1000 ∧ p.Pi.Responses.length ≤ 1000 := by
 obtain ⟨k, B, s, t, w, x, a, b, d, f, _, P, rfl, _⟩ := h
 have h1 := (P.cols k).1
 have h2 := (P.chn k).1
 have h3 := (P.com k).1
 refine ⟨?_, ?_, ?_, by simp [pmV], by simp [pmV, pmR]; omega⟩
 ·show (zdJ gr B.Hs perm s).length ≤ _; omega
 ·show (zb3 gr B.H (pmO gr key B l perm rs s) t).length ≤ _; omega
 show (pmC gr key B l perm rs s t w x a b d f).length ≤ _; omega
def shB (gr : Group) (n : Nat) (p : MatrixProof) : Bool := decide (p.Columns.length = n) && (decide (p.Chain.length = n) && (decide (p.Pi.Commits.length = n + 5) && (decide (p.Pi.Challenges.length = 1) && (decide (p.Pi.Responses.length = 2 * n + 4) && (p.Columns.all (zaw gr) && (p.Chain.all (zaw gr) && (p.Pi.Commits.all (zaw gr) && p.Pi.Responses.all (zez gr))))))))
theorem zdT (a b : Nat) : ((a : Int) == (b : Int)) = decide (a = b) := by by_cases h : a = b <;> simp [h]; omega
theorem zzw {gr : Group} (k : OkG gr) {n : Nat} (hn : n ≤ 1000) (p : MatrixProof) : zct gr p (n : Int) = some (shB gr n p) := by
 have hq := k.q
 have hp := k.p
 have e1 : IntKind.i64.wrap ((n : Int) + 5) = ((n + 5 : Nat) : Int) := zeV (by omega) (by omega)
 have e2 : IntKind.i64.wrap (IntKind.i64.wrap (2 * (n : Int)) + 4) = ((2 * n + 4 : Nat) : Int) := by
  rw [zaz (n := 2 * (n : Int)) (by omega) (by omega)]; exact zeV (by omega) (by omega)
 unfold zct
 have e3 : ((p.Pi.Challenges.length : Int) == 1) = decide (p.Pi.Challenges.length = 1) := zdT _ 1
 rw [e1, e2, zdT, zdT, zdT, zdT, e3, zka k, zka k, zka k, zhD (by omega) (by omega)]
 unfold shB
 generalize decide (p.Columns.length = n) = a1
 generalize decide (p.Chain.length = n) = a2
 generalize decide (p.Pi.Commits.length = n + 5) = a3
 generalize decide (p.Pi.Challenges.length = 1) = a4
 generalize decide (p.Pi.Responses.length = 2 * n + 4) = a5
 generalize p.Columns.all (zaw gr) = a6
 generalize p.Chain.all (zaw gr) = a7
 generalize p.Pi.Commits.all (zaw gr) = a8
 generalize p.Pi.Responses.all (zez gr) = a9
 cases a1 <;> cases a2 <;> cases a3 <;> cases a4 <;> cases a5 <;> cases a6 <;> cases a7 <;> cases a8 <;> rfl
theorem zAn {gr : Group} (k : OkG gr) {n : Nat} (hn : n ≤ 1000) (p : MatrixProof) : zfw gr (n : Int) p = some (shB gr n p) := by
 have hq := k.q
 have hp := k.p
 have e1 : IntKind.i64.wrap ((n : Int) + 5) = ((n + 5 : Nat) : Int) := zeV (by omega) (by omega)
 have e2 : IntKind.i64.wrap (IntKind.i64.wrap (2 * (n : Int)) + 4) = ((2 * n + 4 : Nat) : Int) := by
  rw [zaz (n := 2 * (n : Int)) (by omega) (by omega)]; exact zeV (by omega) (by omega)
 unfold zfw
 have e3 : ((p.Pi.Challenges.length : Int) == 1) = decide (p.Pi.Challenges.length = 1) := zdT _ 1
 rw [e1, e2, zdT, zdT, zdT, zdT, e3, zmA k, zmA k, zmA k, zjp (by omega) (by omega)]
 unfold shB
 generalize decide (p.Columns.length = n) = a1
 generalize decide (p.Chain.length = n) = a2
 generalize decide (p.Pi.Commits.length = n + 5) = a3
 generalize decide (p.Pi.Challenges.length = 1) = a4
 generalize decide (p.Pi.Responses.length = 2 * n + 4) = a5
 generalize p.Columns.all (zaw gr) = a6
 generalize p.Chain.all (zaw gr) = a7
 generalize p.Pi.Commits.all (zaw gr) = a8
 generalize p.Pi.Responses.all (zez gr) = a9
 cases a1 <;> cases a2 <;> cases a3 <;> cases a4 <;> cases a5 <;> cases a6 <;> cases a7 <;> cases a8 <;> rfl
def alN (q : Int) (e : List Int) : Nat → Int
 | 0 => 1
 | i + 1 => (alN q e i * e.getD i 0) % q
theorem zoz {q : Int} (hq : 1 < q) (e : List Int) : ∀ i, E9 q (alN q e i)
 | 0 => ⟨by show (0 : Int) ≤ 1; omega, hq⟩
 | i + 1 => zmD (by omega) _
theorem e_m {q a b : Int} (hq : q ≤ 2000000000) (ha : E9 q a) (hb : E9 q b) : IntKind.i64.wrap (a * b) = a * b ∧ (IntKind.i64.wrap (a * b)).tmod q = (a * b) % q := by
 have h1 : 0 ≤ a * b := Int.mul_nonneg ha.1 hb.1
 have h2 : a * b ≤ 2000000000 * 2000000000 := Int.mul_le_mul (by have := ha.2; omega) (by have := hb.2; omega) hb.1 (by omega)
 rw [zaz (n := a * b) (by omega) (by omega)]
 exact ⟨rfl, Int.tmod_eq_emod_of_nonneg h1⟩
theorem zuE {gr : Group} (k : OkG gr) {e : List Int} (he : ∀ z ∈ e, E9 gr.Q z) : zar (σ := Int) (fun i22 s21 =>
 (ix e i22).bind fun x28 =>
 (za4 gr (IntKind.i64.wrap (s21 * x28))).bind fun z29 =>
 some (.go z29)) (fun s21 => s21) e.length 0 1 = some (alN gr.Q e e.length) := by
 have hp := k.p
 have hq := k.q
 refine zau (zaV (fun i y => y = alN gr.Q e i) rfl ?_ fun y h => h)
 rintro i y hi rfl
 refine zav hi (zac (ziC k _) (zab ?_))
 rw [(e_m (q := gr.Q) (by omega) (zoz (by omega) _ _) (zch he hi)).1]
 show _ = (alN gr.Q e i * e.getD i 0) % gr.Q
 rw [zal hi]
theorem zuD {gr : Group} (k : OkG gr) {e : List Int} (he : ∀ z ∈ e, E9 gr.Q z) : zar (σ := Int) (fun i16 s15 =>
 (ix e i16).bind fun x22 =>
 gd (gr.Q ≠ 0) <|
 some (.go ((IntKind.i64.wrap (s15 * x22)).tmod gr.Q))) (fun s15 => s15) e.length 0 1 = some (alN gr.Q e e.length) := by
 have hp := k.p
 have hq := k.q
 refine zau (zaV (fun i y => y = alN gr.Q e i) rfl ?_ fun y h => h)
 rintro i y hi rfl
 refine zav hi (zam (by omega) (zab ?_))
 rw [(e_m (q := gr.Q) (by omega) (zoz (by omega) _ _) (zch he hi)).2]
 show _ = (alN gr.Q e i * e.getD i 0) % gr.Q
 rw [zal hi]
theorem zvV {gr : Group} (k : OkG gr) {x : Int} (h : zaw gr x = true) {s : Int} (hs : 0 ≤ s) : zaJ gr (zaJ gr x s) (-1) = zaJ gr x (0 - s) := by
 have hq := k.q
 have e1 : (-1 : Int) % gr.Q = (gr.Q - 1) % gr.Q := by rw [show gr.Q - 1 = -1 + gr.Q by omega, Int.add_emod_right]
 have h1 : zaJ gr (zaJ gr x s) (-1) = zaJ gr (zaJ gr x s) (gr.Q - 1) := zqF _ e1
 rw [h1, zui k h hs (by omega)]
 refine zqF _ ?_
 rw [show s * (gr.Q - 1) = (0 - s) + gr.Q * s by grind, Int.add_mul_emod_self_left]
section
attribute [local irreducible] chG zgG zg2 zbq alN sdV
def wvL (key : Int) (l out : List Cipher) (p : MatrixProof) : List Int := zg2 key l out p.Columns
def wvE (gr : Group) (key : Int) (l out : List Cipher) (p : MatrixProof) : List Int := zgG gr znw (wvL key l out p) l.length
def wvZ (gr : Group) (key : Int) (l out : List Cipher) (p : MatrixProof) : Int := chG gr endS (wvL key l out p ++ p.Chain ++ p.Pi.Commits)
def bef (h : Int) (ch : List Int) (i : Nat) : Int := ([h] ++ ch).getD i 0
def lf5 (gr : Group) (B : Bases) (l : List Cipher) (e cols : List Int) (last al : Int) : List Int := [zbc gr [zbc gr cols, zaJ gr (zbc gr B.Hs) (-1)], zbq gr cols e 1, zbc gr [last, zaJ gr B.H (0 - al)], zbq gr (sdV l).1 e 1, zbq gr (sdV l).2 e 1]
def rt5 (gr : Group) (key : Int) (B : Bases) (out : List Cipher) (x r : List Int) : List Int := [zaJ gr gr.G (r.getD 0 0), zbc gr [zaJ gr gr.G (r.getD 1 0), zbq gr B.Hs x 1], zaJ gr gr.G (r.getD 2 0), zbc gr [zaJ gr gr.G (IntKind.i64.wrap (0 - r.getD 3 0)), zbq gr (sdV out).1 x 1], zbc gr [zaJ gr key (IntKind.i64.wrap (0 - r.getD 3 0)), zbq gr (sdV out).2 x 1]]
def zhN (gr : Group) (h : Int) (ch x r : List Int) (i : Nat) : Int := zbc gr [zaJ gr gr.G (r.getD (4 + i) 0), zaJ gr (bef h ch i) (x.getD i 0)]
def hlB (gr : Group) (z c b d : Int) : Bool := zbc gr [c, zaJ gr b z] == d
def vfB (gr : Group) (z : Int) (c left right : List Int) (i : Nat) : Bool := hlB gr z (c.getD i 0) (left.getD i 0) (right.getD i 0)
def vLf (gr : Group) (B : Bases) (l : List Cipher) (e : List Int) (p : MatrixProof) : List Int := lf5 gr B l e p.Columns (p.Chain.getD (l.length - 1) 0) (alN gr.Q e e.length) ++ p.Chain
def vRt (gr : Group) (key : Int) (B : Bases) (n : Nat) (out : List Cipher) (p : MatrixProof) : List Int := rt5 gr key B out (p.Pi.Responses.drop (n + 4)) p.Pi.Responses ++ (List.range n).map (zhN gr B.H p.Chain (p.Pi.Responses.drop (n + 4)) p.Pi.Responses)
def vmB (gr : Group) (key : Int) (B : Bases) (l out : List Cipher) (p : MatrixProof) : Bool :=
 decide (out.length = l.length) && (shB gr l.length p && ((p.Pi.Challenges.getD 0 0 == wvZ gr key l out p) && (List.range (5 + l.length)).all (vfB gr (wvZ gr key l out p) p.Pi.Commits (vLf gr B l (wvE gr key l out p) p) (vRt gr key B l.length out p))))
structure VmOk (gr : Group) (key : Int) (B : Bases) (l out : List Cipher) (p : MatrixProof) : Prop where
 key : zaw gr key = true
 n : 1 ≤ l.length ∧ l.length ≤ 12
 lc : ∀ c ∈ l, zbr gr c = true
 oc : ∀ c ∈ out, zbr gr c = true
 ol : out.length = l.length
 bs : BsOk gr l.length B
 cols : p.Columns.length = l.length ∧ ∀ z ∈ p.Columns, zaw gr z = true
 chn : p.Chain.length = l.length ∧ ∀ z ∈ p.Chain, zaw gr z = true
 com : p.Pi.Commits.length = l.length + 5 ∧ ∀ z ∈ p.Pi.Commits, zaw gr z = true
 chl : p.Pi.Challenges.length = 1
 rsp : p.Pi.Responses.length = 2 * l.length + 4 ∧ ∀ z ∈ p.Pi.Responses, E9 gr.Q z
section
variable {gr : Group} {key : Int} {B : Bases} {l out : List Cipher} {p : MatrixProof}
theorem VmOk.len (V : VmOk gr key B l out p) : (wvL key l out p).length = 1 + 5 * l.length := by
 have h1 := V.cols.1
 have h2 := V.ol
 unfold wvL
 rw [zqL, h1]; omega
theorem VmOk.dig (k : OkG gr) (V : VmOk gr key B l out p) : (wvL key l out p).all zbz = true := zqE k V.key V.lc V.oc (zgK k (List.all_eq_true.2 V.cols.2))
theorem VmOk.lst (V : VmOk gr key B l out p) : zcG key l out p.Columns = some (wvL key l out p) ∧ zdm key l out p.Columns = some (wvL key l out p) := by
 have hn := V.n
 have h1 := V.cols.1
 have h2 := V.ol
 exact ⟨ztU (by omega) (by omega) (by omega), zsO (by omega) (by omega) (by omega)⟩
theorem VmOk.chs (k : OkG gr) (V : VmOk gr key B l out p) : za5 gr znw (wvL key l out p) (l.length : Int) = some (wvE gr key l out p, true) ∧ zca gr key l out p.Columns = some (wvE gr key l out p) := by
 have hn := V.n
 refine ⟨zs8 k (by decide) (by rw [V.len]; omega) (V.dig k) (by omega) (by omega), ?_⟩
 unfold zca
 exact zau (zac V.lst.2 (zac (zsU k (by decide) (by rw [V.len]; omega) (V.dig k) (by omega)) (zab rfl)))
theorem VmOk.e (k : OkG gr) (V : VmOk gr key B l out p) : (wvE gr key l out p).length = l.length ∧ ∀ z ∈ wvE gr key l out p, E9 gr.Q z := ztk k _ _ _
theorem VmOk.lend (k : OkG gr) (V : VmOk gr key B l out p) : (wvL key l out p ++ p.Chain ++ p.Pi.Commits).length = 6 + 7 * l.length ∧ (wvL key l out p ++ p.Chain ++ p.Pi.Commits).all zbz = true := by
 have h1 := V.len
 have h2 := V.chn.1
 have h3 := V.com.1
 refine ⟨by rw [List.length_append, List.length_append, h1, h2, h3]; omega, ?_⟩
 rw [List.all_append, List.all_append, V.dig k, zgK k (List.all_eq_true.2 V.chn.2), zgK k (List.all_eq_true.2 V.com.2)]
 rfl
theorem VmOk.cat (k : OkG gr) (V : VmOk gr key B l out p) : zbx [wvL key l out p, p.Chain, p.Pi.Commits] = some (wvL key l out p ++ p.Chain ++ p.Pi.Commits) := by
 have hfl : [wvL key l out p, p.Chain, p.Pi.Commits].flatten = wvL key l out p ++ p.Chain ++ p.Pi.Commits := by simp
 have h := V.lend k
 have hn := V.n
 rw [zn5 _ (by rw [hfl]; omega), hfl]
theorem VmOk.chlI (k : OkG gr) (V : VmOk gr key B l out p) : zbl gr endS (wvL key l out p ++ p.Chain ++ p.Pi.Commits) = some (wvZ gr key l out p, true) := by
 have h := V.lend k
 have hn := V.n
 rw [zo6 k _ (by omega), if_pos (zrE k (by decide) (by rw [show endS.size = 9 from rfl]; omega) h.2)]
 rfl
theorem VmOk.chlS (k : OkG gr) (V : VmOk gr key B l out p) : zco gr key l out p = some (wvZ gr key l out p) := by
 have h := V.lend k
 have hn := V.n
 have h1 := V.len
 have h2 := V.chn.1
 have h3 := V.com.1
 unfold zco
 exact zau (zac V.lst.2 (zam (by rw [h1, h2]; omega) (zam (by rw [List.length_append, h1, h2, h3]; omega) (zac (zit k (by decide) (by omega) h.2) (zab rfl)))))
theorem zre (hk : zaw gr key = true) (hn : 1 ≤ l.length ∧ l.length ≤ 12) (lc : ∀ c ∈ l, zbr gr c = true) (oc : ∀ c ∈ out, zbr gr c = true) (hb : BsOk gr l.length B) (ho : out.length = l.length) (hs : shB gr l.length p = true) : VmOk gr key B l out p := by
 simp only [shB, Bool.and_eq_true, decide_eq_true_eq] at hs
 obtain ⟨a1, a2, a3, a4, a5, a6, a7, a8, a9⟩ := hs
 exact ⟨hk, hn, lc, oc, ho, hb, ⟨a1, List.all_eq_true.1 a6⟩, ⟨a2, List.all_eq_true.1 a7⟩, ⟨a3, List.all_eq_true.1 a8⟩, a4, ⟨a5, zrB a9⟩⟩
theorem znj (k : OkG gr) {x y w z : Int} (hx : R9 x) (hy : R9 y) : zaI x y w gr.P gr.Q gr.G z = some (hlB gr z x y w) := by
 unfold zaI
 show (zai gr y z).bind _ = _
 rw [pwI k hy, Option.bind_some]
 show (zan gr _).bind _ = _
 rw [m2I k hx (za8 k _ _), Option.bind_some]
 rfl
theorem zu6 (k : OkG gr) {h : Int} (hh : zaw gr h = true) {ch : List Int} (hc : ∀ z ∈ ch, zaw gr z = true) (i : Nat) (hi : i ≤ ch.length) : ix ([h] ++ ch) (i : Int) = some (bef h ch i) ∧ R9 (bef h ch i) := by
 have hl : i < ([h] ++ ch).length := by simp; omega
 unfold bef
 rw [zei hl, zal hl]
 refine ⟨rfl, zdo k ?_⟩
 rcases List.mem_append.1 (List.getElem_mem hl) with h1 | h1
 ·rw [List.mem_singleton] at h1; rw [h1]; exact hh
 exact hc _ h1
theorem zsC (k : OkG gr) {h z : Int} (hh : zaw gr h = true) {ch c x r : List Int} {n : Nat} (hc : c.length = n + 5 ∧ ∀ z ∈ c, zaw gr z = true) (hch : ch.length = n ∧ ∀ z ∈ ch, zaw gr z = true) (hx : x.length = n) (hr : r.length = 2 * n + 4) (hn : n ≤ 100) (b : Bool) : zar (σ := Bool) (fun i81 s80 =>
 ((if s80 = true then (
 (ix c (IntKind.i64.wrap (5 + i81))).bind fun x91 =>
 (ix ch i81).bind fun x92 =>
 (ix r (IntKind.i64.wrap (4 + i81))).bind fun x93 =>
 (ix ([h] ++ ch) i81).bind fun x94 =>
 (ix x i81).bind fun x95 =>
 (zai gr gr.G x93).bind fun z96 =>
 (zai gr x94 x95).bind fun z97 =>
 (zan gr [z96, z97]).bind fun z98 =>
 (zaI x91 x92 z98 gr.P gr.Q gr.G z).bind fun z99 =>
 some z99) else (
 some false) : Option Bool).bind fun x89 =>
 some (.go x89))) (fun s80 => s80) n 0 b = some (b && (List.range n).all fun i => hlB gr z (c.getD (5 + i) 0) (ch.getD i 0) (zhN gr h ch x r i)) := by
 refine zau (zaV (fun i y => y = (b && (List.range i).all fun i => hlB gr z (c.getD (5 + i) 0) (ch.getD i 0) (zhN gr h ch x r i))) (by simp) ?_ fun y h => h)
 rintro i y hi hy
 have h5 : 5 + i < c.length := by omega
 have h4 : 4 + i < r.length := by omega
 have hci : i < ch.length := by omega
 have hxi : i < x.length := by omega
 have hb := zu6 k hh hch.2 i (by omega)
 refine zaf (ψ := fun y' => y' = (y && hlB gr z (c.getD (5 + i) 0) (ch.getD i 0) (zhN gr h ch x r i))) (zaj (fun g => ?_) fun g => zab (by rw [g]; rfl)) fun y' hy' => zab ?_
 ·rw [show IntKind.i64.wrap (5 + (i : Int)) = ((5 + i : Nat) : Int) from zeV (by omega) (by omega), show IntKind.i64.wrap (4 + (i : Int)) = ((4 + i : Nat) : Int) from zeV (by omega) (by omega)]
  refine zav h5 (zav hci (zav h4 (zac hb.1 (zav hxi (zac (pwI k (r_G k) _) (zac (pwI k hb.2 _) (zac (m2I k (za8 k _ _) (za8 k _ _)) (zac (znj k (zdo k (zch hc.2 h5)) (zdo k (zch hch.2 hci))) (zab ?_)))))))))
  rw [g, Bool.true_and, zal h5, zal hci]
  unfold zhN
  rw [zal h4, zal hxi]
 show y' = _
 rw [hy', hy, List.range_succ, List.all_append]
 simp [Bool.and_assoc]
theorem ztm (p : Nat → Bool) (n : Nat) : (List.range (5 + n)).all p = ((p 0 && (p 1 && (p 2 && (p 3 && p 4)))) && (List.range n).all fun i => p (5 + i)) := by
 rw [List.range_add, List.all_append, List.all_map]
 have : (List.range 5).all p = (p 0 && (p 1 && (p 2 && (p 3 && p 4)))) := by
  show (p 0 && (p 1 && (p 2 && (p 3 && (p 4 && true))))) = _
  rw [Bool.and_true]
 rw [this]; rfl
end
attribute [local irreducible] wvL wvE wvZ hlB zhN bef
section
variable {gr : Group} {key : Int} {B : Bases} {l out : List Cipher} {p : MatrixProof}
set_option maxHeartbeats 4000000 in
theorem zA7 (k : OkG gr) (hk : zaw gr key = true) (hn : 1 ≤ l.length ∧ l.length ≤ 12) (lc : ∀ c ∈ l, zbr gr c = true) (oc : ∀ c ∈ out, zbr gr c = true) (hb : BsOk gr l.length B) : zcu gr B key l out p = some (vmB gr key B l out p) := by
 have hp := k.p
 have hq := k.q
 unfold zcu
 refine zau (zaf (ψ := (· = !(decide (out.length = l.length) && shB gr l.length p))) ?_ ?_)
 ·rw [show ((out.length : Int) != (l.length : Int)) = !decide (out.length = l.length) by rw [bne, zdT]]
  refine zaj (fun g => zab ?_) fun g => zac (zzw k (by omega) p) (zab ?_)
  ·have : decide (out.length = l.length) = false := by simpa using g
   rw [this]; rfl
  have : decide (out.length = l.length) = true := by simpa using g
  rw [this]; rfl
 rintro b rfl
 refine zaj (fun g => zab ?_) fun g => ?_
 ·rw [Bool.not_eq_true'] at g
  unfold vmB
  rw [← Bool.and_assoc, g]; rfl
 have g : (decide (out.length = l.length) && shB gr l.length p) = true := by simpa using g
 obtain ⟨g1, g2⟩ := Bool.and_eq_true_iff.1 g
 have V := zre (p := p) hk hn lc oc hb (of_decide_eq_true g1) g2
 have hv : vmB gr key B l out p = ((p.Pi.Challenges.getD 0 0 == wvZ gr key l out p) && (List.range (5 + l.length)).all (vfB gr (wvZ gr key l out p) p.Pi.Commits (vLf gr B l (wvE gr key l out p) p) (vRt gr key B l.length out p))) := by unfold vmB; rw [g1, g2]; rfl
 rw [hv]
 obtain ⟨hel, hee⟩ := V.e k
 have hc0 : 0 < p.Pi.Challenges.length := by rw [V.chl]; omega
 refine zac V.lst.1 (zac (V.chs k).1 (zac (V.cat k) (zac (V.chlI k) (zaf (ψ := (· = (p.Pi.Challenges.getD 0 0 != wvZ gr key l out p))) (zcP rfl (zcP rfl (zav (k := 0) hc0 (zab (by rw [zal hc0]))))) ?_))))
 rintro b rfl
 refine zaj (fun g => zab ?_) fun g => ?_
 ·rw [bne, Bool.not_eq_true'] at g; rw [g]; rfl
 rw [bne, Bool.not_eq_false'] at g
 rw [g, Bool.true_and]
 have w4 : IntKind.i64.wrap ((l.length : Int) + 4) = ((l.length + 4 : Nat) : Int) := zeV (by omega) (by omega)
 have w1 : IntKind.i64.wrap ((l.length : Int) - 1) = ((l.length - 1 : Nat) : Int) := zeV (by omega) (by omega)
 have hdr : (p.Pi.Responses.take p.Pi.Responses.length).drop (l.length + 4) = p.Pi.Responses.drop (l.length + 4) := by rw [List.take_length]
 have hrl := V.rsp.1
 have hxl : (p.Pi.Responses.drop (l.length + 4)).length = l.length := by rw [List.length_drop, hrl]; omega
 rw [w4, w1, Int.toNat_natCast, hdr]
 generalize hX : p.Pi.Responses.drop (l.length + 4) = x at hxl
 refine zam (by omega) (zam (by omega) (zac (zuE k hee) (zac (zh7 (by omega)).1 (zac (zh7 (by rw [V.ol]; omega)).1 ?_))))
 have hsl := zlj k lc
 have hso := zlj k oc
 have hll := zjx l
 have hol := zjx out
 rw [V.ol] at hol
 have hH := zdo k hb.h
 have hK := zdo k hk
 have hBr := zfG k hb.s
 have hCr := zfG k V.cols.2
 have hBl := hb.l
 have hcl := V.cols.1
 have hchl := V.chn.1
 have hcm : ∀ i, i < 5 → ∃ h : i < p.Pi.Commits.length, R9 p.Pi.Commits[i] := fun i hi => ⟨by rw [V.com.1]; omega, zdo k (zch V.com.2 (by rw [V.com.1]; omega))⟩
 obtain ⟨m0, t0⟩ := hcm 0 (by omega)
 obtain ⟨m1, t1⟩ := hcm 1 (by omega)
 obtain ⟨m2, t2⟩ := hcm 2 (by omega)
 obtain ⟨m3, t3⟩ := hcm 3 (by omega)
 obtain ⟨m4, t4⟩ := hcm 4 (by omega)
 have r0 : 0 < p.Pi.Responses.length := by omega
 have r1 : 1 < p.Pi.Responses.length := by omega
 have r2 : 2 < p.Pi.Responses.length := by omega
 have r3 : 3 < p.Pi.Responses.length := by omega
 have hla : l.length - 1 < p.Chain.length := by omega
 have hal := zoz (show 1 < gr.Q by omega) (wvE gr key l out p) (wvE gr key l out p).length
 have hlb := zdo k (zch V.chn.2 hla)
 have qB := zmq k hBr
 have qC := zmq k hCr
 have f0 : vfB gr (wvZ gr key l out p) p.Pi.Commits (vLf gr B l (wvE gr key l out p) p) (vRt gr key B l.length out p) 0 = hlB gr (wvZ gr key l out p) p.Pi.Commits[0] (zbc gr [zbc gr p.Columns, zaJ gr (zbc gr B.Hs) (-1)]) (zaJ gr gr.G p.Pi.Responses[0]) := by
  rw [← zal (d := 0) m0, ← zal (d := 0) r0]; rfl
 have f1 : vfB gr (wvZ gr key l out p) p.Pi.Commits (vLf gr B l (wvE gr key l out p) p) (vRt gr key B l.length out p) 1 = hlB gr (wvZ gr key l out p) p.Pi.Commits[1] (zbq gr p.Columns (wvE gr key l out p) 1) (zbc gr [zaJ gr gr.G p.Pi.Responses[1], zbq gr B.Hs x 1]) := by
  rw [← zal (d := 0) m1, ← zal (d := 0) r1, ← hX]; rfl
 have f2 : vfB gr (wvZ gr key l out p) p.Pi.Commits (vLf gr B l (wvE gr key l out p) p) (vRt gr key B l.length out p) 2 = hlB gr (wvZ gr key l out p) p.Pi.Commits[2] (zbc gr [p.Chain[l.length - 1], zaJ gr (zaJ gr B.H (alN gr.Q (wvE gr key l out p) (wvE gr key l out p).length)) (-1)]) (zaJ gr gr.G p.Pi.Responses[2]) := by
  rw [zvV k hb.h hal.1, ← zal (d := 0) m2, ← zal (d := 0) r2, ← zal (d := 0) hla]; rfl
 have f3 : vfB gr (wvZ gr key l out p) p.Pi.Commits (vLf gr B l (wvE gr key l out p) p) (vRt gr key B l.length out p) 3 = hlB gr (wvZ gr key l out p) p.Pi.Commits[3] (zbq gr (sdV l).1 (wvE gr key l out p) 1) (zbc gr [zaJ gr gr.G (IntKind.i64.wrap (0 - p.Pi.Responses[3])), zbq gr (sdV out).1 x 1]) := by
  rw [← zal (d := 0) m3, ← zal (d := 0) r3, ← hX]; rfl
 have f4 : vfB gr (wvZ gr key l out p) p.Pi.Commits (vLf gr B l (wvE gr key l out p) p) (vRt gr key B l.length out p) 4 = hlB gr (wvZ gr key l out p) p.Pi.Commits[4] (zbq gr (sdV l).2 (wvE gr key l out p) 1) (zbc gr [zaJ gr key (IntKind.i64.wrap (0 - p.Pi.Responses[3])), zbq gr (sdV out).2 x 1]) := by
  rw [← zal (d := 0) m4, ← zal (d := 0) r3, ← hX]; rfl
 have f5 : ((List.range l.length).all fun i => vfB gr (wvZ gr key l out p) p.Pi.Commits (vLf gr B l (wvE gr key l out p) p) (vRt gr key B l.length out p) (5 + i)) = (List.range l.length).all fun i => hlB gr (wvZ gr key l out p) (p.Pi.Commits.getD (5 + i) 0) (p.Chain.getD i 0) (zhN gr B.H p.Chain x p.Pi.Responses i) := by
  rw [Bool.eq_iff_iff, List.all_eq_true, List.all_eq_true]
  refine forall_congr' fun i => forall_congr' fun hi => ?_
  have hi := List.mem_range.1 hi
  have a1 : (vLf gr B l (wvE gr key l out p) p).getD (5 + i) 0 = p.Chain.getD i 0 := by
   unfold vLf
   rw [List.getD_eq_getElem?_getD, List.getElem?_append_right (by simp [lf5]), List.getD_eq_getElem?_getD]
   congr 2; simp [lf5]
  have a2 : (vRt gr key B l.length out p).getD (5 + i) 0 = zhN gr B.H p.Chain x p.Pi.Responses i := by
   unfold vRt
   rw [List.getD_eq_getElem?_getD, List.getElem?_append_right (by simp [rt5]), hX]
   have : 5 + i - (rt5 gr key B out x p.Pi.Responses).length = i := by simp [rt5]
   rw [this]; simp [hi]
  unfold vfB
  rw [a1, a2]
 rw [ztm, f0, f1, f2, f3, f4, f5]
 have p0 := zsY k (b := zbc gr p.Columns) (x := zbc gr B.Hs) qC.1 qC.2 qB.1 qB.2
 have p2 := zsY k (b := p.Chain[l.length - 1]) (x := zaJ gr B.H (alN gr.Q (wvE gr key l out p) (wvE gr key l out p).length)) hlb.1 hlb.2 (za8 k _ _).1 (za8 k _ _).2
 have u1 := zeN k (m := wvE gr key l out p) hCr (by omega)
 have u2 := zeN k (m := x) hBr (by omega)
 have u3 := zeN k (m := wvE gr key l out p) hsl.1 (by omega)
 have u4 := zeN k (m := wvE gr key l out p) hsl.2 (by omega)
 have u5 := zeN k (m := x) hso.1 (by omega)
 have u6 := zeN k (m := x) hso.2 (by omega)
 have mm := fun a b ha hb => m2I k (x := a) (y := b) ha hb
 generalize hb0 : hlB gr (wvZ gr key l out p) p.Pi.Commits[0] (zbc gr [zbc gr p.Columns, zaJ gr (zbc gr B.Hs) (-1)]) (zaJ gr gr.G p.Pi.Responses[0]) = b0
 generalize hb1 : hlB gr (wvZ gr key l out p) p.Pi.Commits[1] (zbq gr p.Columns (wvE gr key l out p) 1) (zbc gr [zaJ gr gr.G p.Pi.Responses[1], zbq gr B.Hs x 1]) = b1
 generalize hb2 : hlB gr (wvZ gr key l out p) p.Pi.Commits[2] (zbc gr [p.Chain[l.length - 1], zaJ gr (zaJ gr B.H (alN gr.Q (wvE gr key l out p) (wvE gr key l out p).length)) (-1)]) (zaJ gr gr.G p.Pi.Responses[2]) = b2
 generalize hb3 : hlB gr (wvZ gr key l out p) p.Pi.Commits[3] (zbq gr (sdV l).1 (wvE gr key l out p) 1) (zbc gr [zaJ gr gr.G (IntKind.i64.wrap (0 - p.Pi.Responses[3])), zbq gr (sdV out).1 x 1]) = b3
 generalize hb4 : hlB gr (wvZ gr key l out p) p.Pi.Commits[4] (zbq gr (sdV l).2 (wvE gr key l out p) 1) (zbc gr [zaJ gr key (IntKind.i64.wrap (0 - p.Pi.Responses[3])), zbq gr (sdV out).2 x 1]) = b4
 refine zaf (ψ := (· = (b0 && (b1 && (b2 && (b3 && b4)))))) ?_ ?_
 ·refine zav (k := 0) m0 (zav (k := 0) r0 (zac (zjY k hCr) (zac (zjY k hBr) (zac p0 (zac (pwI k (r_G k) _) (zac ((znj k t0 (zf4 k qC (za8 k _ _))).trans (congrArg some hb0)) (zaj (fun g => ?_) fun g => zab (by rw [g]; rfl))))))))
  rw [g, Bool.true_and]
  refine zav (k := 1) m1 (zav (k := 1) r1 (zac u1 (zac (pwI k (r_G k) _) (zac u2 (zac (m2I k (za8 k _ _) (zc1 k _ _)) (zac ((znj k t1 (zc1 k _ _)).trans (congrArg some hb1)) (zaj (fun g => ?_) fun g => zab (by rw [g]; rfl))))))))
  rw [g, Bool.true_and]
  refine zav (k := 2) m2 (zav hla (zav (k := 2) r2 (zac (pwI k hH _) (zac p2 (zac (pwI k (r_G k) _) (zac ((znj k t2 (zf4 k hlb (za8 k _ _))).trans (congrArg some hb2)) (zaj (fun g => ?_) fun g => zab (by rw [g]; rfl))))))))
  rw [g, Bool.true_and]
  refine zav (k := 3) m3 (zav (k := 3) r3 (zac u3 (zac (pwI k (r_G k) _) (zac u5 (zac (m2I k (za8 k _ _) (zc1 k _ _)) (zac ((znj k t3 (zc1 k _ _)).trans (congrArg some hb3)) (zaj (fun g => ?_) fun g => zab (by rw [g]; rfl))))))))
  rw [g, Bool.true_and]
  exact zav (k := 4) m4 (zac u4 (zac (pwI k hK _) (zac u6 (zac (m2I k (za8 k _ _) (zc1 k _ _)) (zac ((znj k t4 (zc1 k _ _)).trans (congrArg some hb4)) (zab rfl))))))
 rintro b rfl
 exact zam (by simp only [List.length_cons, List.length_nil]; omega) (zac rfl (zac (zsC k hb.h V.com V.chn hxl hrl (by omega) _) (zab rfl)))
end
end
end Go.Pm
