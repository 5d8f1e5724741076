/-
  FnPartials: plain laws.
  No condition.
-/
import Derived.Test.YtikiohlamlipnaaGreatM39b
import Derived.Test.YtikiohlamlipnaaGreatPmZ
namespace Go.Pm
open Go.Am
set_option linter.unusedVariables false
set_option linter.unusedSimpArgs false
theorem zeX (a b c : Int) : zbs a b c = some (decide (b ≤ a) && decide (a ≤ c)) := by
 unfold zbs
 by_cases h : b ≤ a <;> simp [h]
theorem zfG (a b c : Int) : za3 a b c = some (decide (b ≤ a) && decide (a ≤ c)) := by
 unfold za3
 by_cases h : b ≤ a <;> simp [h]
theorem zlg (a : Int) : zd2 a = some (decide (2 ≤ a) && decide (a ≤ 2000000000)) := by
 unfold zd2
 rw [zeX]; rfl
theorem zcv (a b : Nat) : (a : Int).tmod (b : Int) = ((a % b : Nat) : Int) := by rw [Int.tmod_eq_emod_of_nonneg (by omega)]; exact (Int.natCast_emod _ _).symm
theorem znL (a b : Nat) : (a : Int).tdiv (b : Int) = ((a / b : Nat) : Int) := by rw [Int.tdiv_eq_ediv_of_nonneg (by omega)]; exact (Int.natCast_ediv _ _).symm
theorem ze5 (a b : Nat) : (a : Int) * (b : Int) = ((a * b : Nat) : Int) := (Int.natCast_mul _ _).symm
theorem zvZ {e : Nat} (he : e ≤ 9223372036854775807) : IntKind.i64.wrap (BitVec.ofInt IntKind.i64.bits (e : Int) &&& BitVec.ofInt IntKind.i64.bits 1).toNat = ((e % 2 : Nat) : Int) := by
 have h1 : (BitVec.ofInt IntKind.i64.bits (e : Int) &&& BitVec.ofInt IntKind.i64.bits 1).toNat = e % 2 := by
  rw [BitVec.toNat_and]
  have a1 : (BitVec.ofInt IntKind.i64.bits (e : Int)).toNat = e := by
   rw [BitVec.toNat_ofInt]
   have : IntKind.i64.bits = 64 := rfl
   rw [this]
   omega
  have a2 : (BitVec.ofInt IntKind.i64.bits 1).toNat = 1 := by decide
  rw [a1, a2, Nat.and_one_is_mod]
 rw [h1, zap (by omega) (by omega)]
theorem zwg {a e m : Nat} (ha : a ≤ 2000000000) (hm : 1 ≤ m) (hm2 : m ≤ 2000000000) (he : e ≤ 9223372036854775807) : zdB (a : Int) (e : Int) (m : Int) = some ((a ^ e % m : Nat) : Int) := by
 unfold zdB
 refine zaA (zaq (by omega) (zac (φ := (· = ((a ^ e % m : Nat) : Int))) (zeC (φ := (· = ((a ^ e % m : Nat) : Int))) (fun s => ∃ x y o : Nat, s = ((x : Int), (y : Int), (o : Int)) ∧ x ≤ 2000000000 ∧ y ≤ e ∧ o < m ∧ o * x ^ y % m = a ^ e % m) (fun s => s.2.1.toNat)
  ⟨a, e, 1 % m, by rw [show (1 : Int) = ((1 : Nat) : Int) from rfl, zcv], ha, Nat.le_refl _, Nat.mod_lt _ (by omega), by rw [Nat.mod_mul_mod, Nat.one_mul]⟩ ?_) fun x hx => zab hx))
 rintro s ⟨x, y, o, rfl, hx, hy, ho, hi⟩
 refine zam (fun h0 => ?_) fun h0 => ?_
 ·have h0 : 0 < y := by simpa using h0
  have hox : o * x ≤ 4000000000000000000 := Nat.le_trans (Nat.mul_le_mul (show o ≤ 2000000000 by omega) hx) (by decide)
  have hxx : x * x ≤ 4000000000000000000 := Nat.le_trans (Nat.mul_le_mul hx hx) (by decide)
  refine zac (ψ := fun o' => ∃ k : Nat, o' = (k : Int) ∧ k < m ∧ k * (x * x) ^ (y / 2) % m = a ^ e % m) ?_ ?_
  ·simp only [zvZ (show y ≤ 9223372036854775807 by omega)]
   refine zam (fun h1 => zaq (by omega) (zab ⟨o * x % m, ?_, Nat.mod_lt _ (by omega), ?_⟩)) fun h1 => zab ⟨o, rfl, ho, ?_⟩
   ·rw [ze5, zap (by omega) (by omega), zcv]
   ·have h1 : y % 2 = 1 := by
     have : ((y % 2 : Nat) : Int) = 1 := by simpa using h1
     omega
    rw [Nat.mod_mul_mod, ← hi, ← Nat.pow_two, ← Nat.pow_mul, Nat.mul_assoc, ← Nat.pow_succ']
    congr 3; omega
   have h1 : y % 2 = 0 := by
    have : ¬ ((y % 2 : Nat) : Int) = 1 := by simpa using h1
    omega
   rw [← hi, ← Nat.pow_two, ← Nat.pow_mul]
   congr 3; omega
  rintro o' ⟨k, rfl, hk, hk2⟩
  refine zaq (by omega) (zab ⟨⟨x * x % m, y / 2, k, ?_, by have := Nat.mod_lt (x * x) (show 0 < m by omega); omega, by omega, hk, ?_⟩, ?_⟩)
  ·rw [ze5, zap (by omega) (by omega), zcv]
   have e3 : (y : Int).fdiv 2 = ((y / 2 : Nat) : Int) := by rw [Int.fdiv_eq_ediv_of_nonneg _ (by omega)]; rfl
   show (_, (y : Int).fdiv 2, _) = _
   rw [e3]
  ·rw [Nat.mul_mod, ← Nat.pow_mod, ← Nat.mul_mod]
   exact hk2
  show ((y : Int).fdiv 2).toNat < (y : Int).toNat
  rw [Int.fdiv_eq_ediv_of_nonneg _ (by omega)]
  omega
 have h0 : y = 0 := by
  have : ¬ (0 < y) := by simpa using h0
  omega
 subst h0
 refine zab ?_
 show (o : Int) = _
 rw [Nat.pow_zero, Nat.mul_one, Nat.mod_eq_of_lt ho] at hi
 rw [hi]
theorem zvi {a e m : Nat} (ha : a ≤ 2000000000) (hm : 1 ≤ m) (hm2 : m ≤ 2000000000) (he : e ≤ 9223372036854775807) : zbt (a : Int) (e : Int) (m : Int) = some ((a ^ e % m : Nat) : Int) := by
 unfold zbt
 refine zaA (zaq (by omega) (zac (φ := (· = ((a ^ e % m : Nat) : Int))) (zeC (φ := (· = ((a ^ e % m : Nat) : Int))) (fun s => ∃ x y o : Nat, s = ((x : Int), (y : Int), (o : Int)) ∧ x ≤ 2000000000 ∧ y ≤ e ∧ o < m ∧ o * x ^ y % m = a ^ e % m) (fun s => s.2.1.toNat)
  ⟨a, e, 1 % m, by rw [show (1 : Int) = ((1 : Nat) : Int) from rfl, zcv], ha, Nat.le_refl _, Nat.mod_lt _ (by omega), by rw [Nat.mod_mul_mod, Nat.one_mul]⟩ ?_) fun x hx => zab hx))
 rintro s ⟨x, y, o, rfl, hx, hy, ho, hi⟩
 refine zam (fun h0 => ?_) fun h0 => ?_
 ·have h0 : 0 < y := by simpa using h0
  have hox : o * x ≤ 4000000000000000000 := Nat.le_trans (Nat.mul_le_mul (show o ≤ 2000000000 by omega) hx) (by decide)
  have hxx : x * x ≤ 4000000000000000000 := Nat.le_trans (Nat.mul_le_mul hx hx) (by decide)
  have e2 : (y : Int).tmod 2 = ((y % 2 : Nat) : Int) := zcv y 2
  refine zac (ψ := fun o' => ∃ k : Nat, o' = (k : Int) ∧ k < m ∧ k * (x * x) ^ (y / 2) % m = a ^ e % m) ?_ ?_
  ·simp only [e2]
   refine zam (fun h1 => zaq (by omega) (zab ⟨o * x % m, ?_, Nat.mod_lt _ (by omega), ?_⟩)) fun h1 => zab ⟨o, rfl, ho, ?_⟩
   ·rw [ze5, zap (by omega) (by omega), zcv]
   ·have h1 : y % 2 = 1 := by
     have : ((y % 2 : Nat) : Int) = 1 := by simpa using h1
     omega
    rw [Nat.mod_mul_mod, ← hi, ← Nat.pow_two, ← Nat.pow_mul, Nat.mul_assoc, ← Nat.pow_succ']
    congr 3; omega
   have h1 : y % 2 = 0 := by
    have : ¬ ((y % 2 : Nat) : Int) = 1 := by simpa using h1
    omega
   rw [← hi, ← Nat.pow_two, ← Nat.pow_mul]
   congr 3; omega
  rintro o' ⟨k, rfl, hk, hk2⟩
  have e3 : (y : Int).tdiv 2 = ((y / 2 : Nat) : Int) := znL y 2
  refine zaq (by omega) (zab ⟨⟨x * x % m, y / 2, k, ?_, by have := Nat.mod_lt (x * x) (show 0 < m by omega); omega, by omega, hk, ?_⟩, ?_⟩)
  ·simp only [e3]
   rw [ze5, zap (n := ((x * x : Nat) : Int)) (by omega) (by omega), zcv, zap (n := ((y / 2 : Nat) : Int)) (by omega) (by omega)]
  ·rw [Nat.mul_mod, ← Nat.pow_mod, ← Nat.mul_mod]
   exact hk2
  show (IntKind.i64.wrap ((y : Int).tdiv 2)).toNat < (y : Int).toNat
  rw [e3, zap (by omega) (by omega)]
  omega
 have h0 : y = 0 := by
  have : ¬ (0 < y) := by simpa using h0
  omega
 subst h0
 refine zab ?_
 show (o : Int) = _
 rw [Nat.pow_zero, Nat.mul_one, Nat.mod_eq_of_lt ho] at hi
 rw [hi]
theorem zk4 {a q : Int} (h0 : 0 < q) (h1 : q ≤ 2000000000) : zcK a q = some (a % q) := by
 unfold zcK
 rw [zdU (by omega), zdU (by omega)]
 have b1 : a.tmod q < q := Int.tmod_lt_of_pos a h0
 have b2 : -q < a.tmod q := by
  have := Int.lt_tmod_of_pos a h0
  omega
 rw [zap (by omega) (by omega), Int.tmod_eq_emod_of_nonneg (by omega)]
 congr 1
 rw [Int.add_emod_right]
 rw [Int.tmod_def, Int.sub_emod, Int.mul_emod_right, Int.sub_zero, Int.emod_emod]
theorem zhx {a q : Int} (h0 : 0 < q) (h1 : q ≤ 2000000000) : zbL a q = some (a % q) := by
 unfold zbL
 rw [zdU (by omega), zdU (by omega)]
 have b1 : a.tmod q < q := Int.tmod_lt_of_pos a h0
 have b2 : -q < a.tmod q := by
  have := Int.lt_tmod_of_pos a h0
  omega
 rw [zap (by omega) (by omega), Int.tmod_eq_emod_of_nonneg (by omega)]
 congr 1
 rw [Int.add_emod_right]
 rw [Int.tmod_def, Int.sub_emod, Int.mul_emod_right, Int.sub_zero, Int.emod_emod]
def Pr (n : Nat) : Prop := 2 ≤ n ∧ ∀ d, 2 ≤ d → d * d ≤ n → n % d ≠ 0
open Classical in
noncomputable def prB (n : Int) : Bool := decide (Pr n.toNat)
theorem zfr {n : Nat} : prB (n : Int) = true ↔ Pr n := by simp [prB]
theorem zjM (n : Int) (h : n ≤ 2000000000) : zda n = some (prB n) := by
 unfold zda
 refine zaA (zam (fun h0 => zab ?_) fun h0 => ?_)
 ·have h0 : n < 2 := by simpa using h0
  symm
  unfold prB
  rw [decide_eq_false_iff_not]
  intro hp
  have := hp.1
  omega
 have h0 : ¬ n < 2 := by simpa using h0
 obtain ⟨n, rfl⟩ := Int.eq_ofNat_of_zero_le (show 0 ≤ n by omega)
 refine zac (ψ := fun b => (b = .inl () ∧ Pr n) ∨ (b = .inr false ∧ ¬ Pr n)) (zeC (fun s => ∃ d : Nat, s = (d : Int) ∧ 2 ≤ d ∧ d ≤ 44723 ∧ ∀ k, 2 ≤ k → k < d → k * k ≤ n → n % k ≠ 0) (fun s => 50000 - s.toNat) ⟨2, rfl, by omega, by omega, fun k h1 h2 => by omega⟩ ?_) ?_
 ·rintro s ⟨d, rfl, hd, hd2, hi⟩
  have hdd : d * d ≤ 2000146729 := Nat.le_trans (Nat.mul_le_mul hd2 hd2) (by decide)
  rw [ze5, zap (by omega) (by omega)]
  refine zam (fun h1 => zaq (by omega) (zam (fun h2 => zab (.inr ⟨rfl, ?_⟩)) fun h2 => zab ?_)) fun h1 => zab (.inl ⟨rfl, by omega, fun k hk hkn => ?_⟩)
  ·have h1 : d * d ≤ n := by have := of_decide_eq_true h1; omega
   rw [zcv] at h2
   have h2 : n % d = 0 := by have : ((n % d : Nat) : Int) = 0 := by simpa using h2
                             omega
   exact fun hp => hp.2 d hd h1 h2
  ·have h1 : d * d ≤ n := by have := of_decide_eq_true h1; omega
   rw [zcv] at h2
   have h2 : n % d ≠ 0 := by have : ¬ ((n % d : Nat) : Int) = 0 := by simpa using h2
                             omega
   have hd3 : d ≤ 44722 := by
    rcases Nat.lt_or_ge d 44723 with h | h
    ·omega
    ·have : 44723 * 44723 ≤ d * d := Nat.mul_le_mul h h
     omega
   rw [zap (by omega) (by omega)]
   refine ⟨⟨d + 1, rfl, by omega, by omega, fun k h3 h4 h5 => ?_⟩, by omega⟩
   rcases Nat.lt_or_ge k d with h | h
   ·exact hi k h3 h h5
   have : k = d := by omega
   subst this
   exact h2
  have h1 : n < d * d := by have := of_decide_eq_false h1; omega
  rcases Nat.lt_or_ge k d with h | h
  ·exact hi k hk h hkn
  have := Nat.mul_le_mul h h
  omega
 rintro b (⟨rfl, hp⟩ | ⟨rfl, hp⟩)
 ·exact zab (zfr.2 hp).symm
 refine zab ?_
 symm
 unfold prB
 rw [decide_eq_false_iff_not]
 exact hp
theorem znS (n : Int) : zd1 n = some (decide (n ≤ 2000000000) && prB n) := by
 unfold zd1
 by_cases h : 2 ≤ n ∧ n ≤ 2000000000
 ·obtain ⟨n, rfl⟩ := Int.eq_ofNat_of_zero_le (show 0 ≤ n by omega)
  have e2 : ((n : Int)).tmod 2 = ((n % 2 : Nat) : Int) := zcv n 2
  have em : (decide (2 ≤ (n : Int)) && decide ((n : Int) ≤ 2000000000)) = true := by simp only [Bool.and_eq_true, decide_eq_true_eq]; exact h
  rw [show (decide ((n : Int) ≤ 2000000000) && prB (n : Int)) = prB (n : Int) by simp [h.2]]
  refine zaA (zac (ψ := fun b => b = decide (n % 2 = 0 ∧ n ≠ 2)) (zaf (zlg _) ?_) ?_)
  ·rw [em]
   refine zbu rfl ?_
   rw [e2]
   refine zam (fun h1 => zab ?_) fun h1 => zab ?_
   ·have h1 : n % 2 = 0 := by have : ((n % 2 : Nat) : Int) = 0 := by simpa using h1
                              omega
    have : ((n : Int) != 2) = decide (n ≠ 2) := by
     by_cases hn : n = 2
     ·subst hn; rfl
     ·have hn' : ¬ (n : Int) = 2 := by omega
      simp [hn, hn']
    rw [this]; simp [h1]
   have h1 : n % 2 ≠ 0 := by have : ¬ ((n % 2 : Nat) : Int) = 0 := by simpa using h1
                             omega
   simp [h1]
  rintro b rfl
  refine zam (fun h1 => zab ?_) fun h1 => ?_
  ·have h1 := of_decide_eq_true h1
   symm
   unfold prB
   rw [decide_eq_false_iff_not]
   intro hp
   have hn : 4 ≤ n := by omega
   exact hp.2 2 (by omega) hn h1.1
  have h1 := of_decide_eq_false h1
  refine zac (ψ := fun b => (b = .inl () ∧ Pr n) ∨ (b = .inr false ∧ ¬ Pr n)) (zeC (fun s => ∃ d : Nat, s = (d : Int) ∧ 3 ≤ d ∧ d % 2 = 1 ∧ d ≤ 44725 ∧ ∀ k, 2 ≤ k → k < d → k * k ≤ n → n % k ≠ 0) (fun s => 50000 - s.toNat) ⟨3, rfl, by omega, by omega, by omega, fun k h2 h3 h4 => ?_⟩ ?_) ?_
  ·have : k = 2 := by omega
   subst this
   intro h5
   exact h1 ⟨h5, by omega⟩
  ·rintro s ⟨d, rfl, hd, hodd, hd2, hi⟩
   have hdd : d * d ≤ 2000325625 := Nat.le_trans (Nat.mul_le_mul hd2 hd2) (by decide)
   rw [ze5, zap (by omega) (by omega)]
   refine zam (fun h1 => zaq (by omega) (zam (fun h2 => zab (.inr ⟨rfl, ?_⟩)) fun h2 => zab ?_)) fun h1 => zab (.inl ⟨rfl, by omega, fun k hk hkn => ?_⟩)
   ·have h1 : d * d ≤ n := by have := of_decide_eq_true h1; omega
    rw [zcv] at h2
    have h2 : n % d = 0 := by have : ((n % d : Nat) : Int) = 0 := by simpa using h2
                              omega
    exact fun hp => hp.2 d (by omega) h1 h2
   ·have h3 : d * d ≤ n := by have := of_decide_eq_true h1; omega
    rw [zcv] at h2
    have h2 : n % d ≠ 0 := by have : ¬ ((n % d : Nat) : Int) = 0 := by simpa using h2
                              omega
    have hd3 : d ≤ 44722 := by
     rcases Nat.lt_or_ge d 44723 with h | h
     ·omega
     ·have : 44723 * 44723 ≤ d * d := Nat.mul_le_mul h h
      omega
    rw [zap (by omega) (by omega)]
    refine ⟨⟨d + 2, rfl, by omega, by omega, by omega, fun k h4 h5 h6 h7 => ?_⟩, by omega⟩
    rcases Nat.lt_or_ge k d with h | h
    ·exact hi k h4 h h6 h7
    rcases (show k = d ∨ k = d + 1 by omega) with e | e
    ·subst e; exact h2 h7
    have h8 : n % 2 = 0 := by
     have a1 : k ∣ n := Nat.dvd_of_mod_eq_zero h7
     have a2 : 2 ∣ k := Nat.dvd_of_mod_eq_zero (by omega)
     exact Nat.mod_eq_zero_of_dvd (Nat.dvd_trans a2 a1)
    have h9 : 2 * 2 ≤ n := by
     have := Nat.mul_le_mul h4 h4
     omega
    exact hi 2 (by omega) (by omega) h9 h8
   have h1 : n < d * d := by have := of_decide_eq_false h1; omega
   rcases Nat.lt_or_ge k d with h | h
   ·exact hi k hk h hkn
   have := Nat.mul_le_mul h h
   omega
  rintro b (⟨rfl, hp⟩ | ⟨rfl, hp⟩)
  ·exact zab (zfr.2 hp).symm
  refine zab ?_
  symm
  unfold prB
  rw [decide_eq_false_iff_not]
  exact hp
 have em : (decide (2 ≤ n) && decide (n ≤ 2000000000)) = false := by
  rw [Bool.and_eq_false_iff, decide_eq_false_iff_not, decide_eq_false_iff_not]; omega
 rw [zlg, em]
 simp only [Option.bind_some, Bool.not_false, if_true]
 congr 1
 symm
 rw [Bool.and_eq_false_iff, decide_eq_false_iff_not]
 by_cases hn : n ≤ 2000000000
 ·right
  unfold prB
  rw [decide_eq_false_iff_not]
  intro hp
  have := hp.1
  omega
 exact .inl hn
structure OkG (gr : Group) : Prop where
 p : 3 ≤ gr.P ∧ gr.P ≤ 2000000000
 q : 2 ≤ gr.Q ∧ gr.Q ≤ gr.P - 1
 d : (gr.P.toNat - 1) % gr.Q.toNat = 0
 g : 2 ≤ gr.G ∧ gr.G ≤ gr.P - 1
 pp : Pr gr.P.toNat
 pq : Pr gr.Q.toNat
 o : gr.G.toNat ^ gr.Q.toNat % gr.P.toNat = 1
open Classical in
noncomputable def okG (gr : Group) : Bool := decide (OkG gr)
theorem zfN {gr : Group} : okG gr = true ↔ OkG gr := by simp [okG]
theorem zfO {gr : Group} (h : ¬ OkG gr) : okG gr = false := by simp [okG, h]
theorem zuf {gr : Group} {b : Bool} (h1 : b = true → OkG gr) (h2 : OkG gr → b = true) : b = okG gr := by
 cases hb : b with
 | true => exact (zfN.2 (h1 hb)).symm
 | false => exact (zfO fun h => by rw [h2 h] at hb; cases hb).symm
theorem zdp {a : Int} (h : 0 ≤ a) : a = ((a.toNat : Nat) : Int) := by omega
theorem zf1 {a e m : Int} (ha : 0 ≤ a) (ha2 : a ≤ 2000000000) (hm : 1 ≤ m) (hm2 : m ≤ 2000000000) (he : 0 ≤ e) (he2 : e ≤ 9223372036854775807) : zdB a e m = some ((a.toNat ^ e.toNat % m.toNat : Nat) : Int) ∧ zbt a e m = some ((a.toNat ^ e.toNat % m.toNat : Nat) : Int) := by
 have h1 := zwg (a := a.toNat) (e := e.toNat) (m := m.toNat) (by omega) (by omega) (by omega) (by omega)
 have h2 := zvi (a := a.toNat) (e := e.toNat) (m := m.toNat) (by omega) (by omega) (by omega) (by omega)
 rw [← zdp ha, ← zdp he, ← zdp (show 0 ≤ m by omega)] at h1 h2
 exact ⟨h1, h2⟩
theorem ziF {a b : Bool} : (a && b) = true ↔ a = true ∧ b = true := by simp
theorem zlw (gr : Group) : zbZ gr = some (okG gr) := by
 unfold zbZ
 refine zaA (zac (ψ := fun b => b = okG gr) ?_ fun b hb => zab hb)
 refine zaf (zeX _ _ _) (zam (fun h => ?_) fun h => ?_)
 ·have hp : 3 ≤ gr.P ∧ gr.P ≤ 2000000000 := by simpa using h
  rw [zap (n := gr.P - 1) (by omega) (by omega)]
  refine zaf (zeX _ _ _) (zam (fun h => ?_) fun h => ?_)
  ·have hq : 2 ≤ gr.Q ∧ gr.Q ≤ gr.P - 1 := by simpa using h
   have ed : (gr.P - 1).tmod gr.Q = (((gr.P.toNat - 1) % gr.Q.toNat : Nat) : Int) := by
    rw [zdp (show 0 ≤ gr.P - 1 by omega), zdp (show 0 ≤ gr.Q by omega), zcv]
    simp only [Int.toNat_natCast]
    congr 2; omega
   refine zaq (by omega) ?_
   rw [ed]
   refine zam (fun h => ?_) fun h => ?_
   ·have hd : (gr.P.toNat - 1) % gr.Q.toNat = 0 := by
     have : (((gr.P.toNat - 1) % gr.Q.toNat : Nat) : Int) = 0 := by simpa using h
     omega
    refine zaf (zeX _ _ _) (zam (fun h => ?_) fun h => ?_)
    ·have hg : 2 ≤ gr.G ∧ gr.G ≤ gr.P - 1 := by simpa using h
     refine zaf (znS _) (zam (fun h => ?_) fun h => ?_)
     ·have hpp : Pr gr.P.toNat := by
       rw [ziF, zdp (show 0 ≤ gr.P by omega), zfr] at h
       exact h.2
      refine zaf (znS _) (zam (fun h => ?_) fun h => ?_)
      ·have hpq : Pr gr.Q.toNat := by
        rw [ziF, zdp (show 0 ≤ gr.Q by omega), zfr] at h
        exact h.2
       refine zaf (zf1 (a := gr.G) (e := gr.Q) (m := gr.P) (by omega) (by omega) (by omega) (by omega) (by omega) (by omega)).1 (zab (zuf (fun h => ⟨hp, hq, hd, hg, hpp, hpq, ?_⟩) fun h => ?_))
       ·have : ((gr.G.toNat ^ gr.Q.toNat % gr.P.toNat : Nat) : Int) = 1 := by simpa using h
        omega
       rw [h.o]; rfl
      refine zab (zfO fun hk => ?_).symm
      have : (decide (gr.Q ≤ 2000000000) && prB gr.Q) = true := by
       rw [ziF, zdp (show 0 ≤ gr.Q by omega), zfr]
       exact ⟨by simp; omega, hk.pq⟩
      rw [this] at h; cases h
     refine zab (zfO fun hk => ?_).symm
     have : (decide (gr.P ≤ 2000000000) && prB gr.P) = true := by
      rw [ziF, zdp (show 0 ≤ gr.P by omega), zfr]
      exact ⟨by simp; omega, hk.pp⟩
     rw [this] at h; cases h
    refine zab (zfO fun hk => ?_).symm
    have := hk.g
    simp at h; omega
   refine zab (zfO fun hk => ?_).symm
   rw [hk.d] at h; cases h
  refine zab (zfO fun hk => ?_).symm
  have := hk.q
  simp at h; omega
 refine zab (zfO fun hk => ?_).symm
 have := hk.p
 simp at h; omega
theorem zuR (gr : Group) : zfa gr = some (okG gr) := by
 unfold zfa
 refine zaA (zac (ψ := fun b => b = okG gr) ?_ fun b hb => zab hb)
 refine zaf (zfG _ _ _) (zam (fun h => ?_) fun h => ?_)
 ·have hp : 3 ≤ gr.P ∧ gr.P ≤ 2000000000 := by simpa using h
  rw [zap (n := gr.P - 1) (by omega) (by omega)]
  refine zaf (zfG _ _ _) (zam (fun h => ?_) fun h => ?_)
  ·have hq : 2 ≤ gr.Q ∧ gr.Q ≤ gr.P - 1 := by simpa using h
   have ed : (gr.P - 1).tmod gr.Q = (((gr.P.toNat - 1) % gr.Q.toNat : Nat) : Int) := by
    rw [zdp (show 0 ≤ gr.P - 1 by omega), zdp (show 0 ≤ gr.Q by omega), zcv]
    simp only [Int.toNat_natCast]
    congr 2; omega
   refine zaq (by omega) ?_
   rw [ed]
   refine zam (fun h => ?_) fun h => ?_
   ·have hd : (gr.P.toNat - 1) % gr.Q.toNat = 0 := by
     have : (((gr.P.toNat - 1) % gr.Q.toNat : Nat) : Int) = 0 := by simpa using h
     omega
    refine zaf (zfG _ _ _) (zam (fun h => ?_) fun h => ?_)
    ·have hg : 2 ≤ gr.G ∧ gr.G ≤ gr.P - 1 := by simpa using h
     refine zaf (zf1 (a := gr.G) (e := gr.Q) (m := gr.P) (by omega) (by omega) (by omega) (by omega) (by omega) (by omega)).2 (zam (fun h => ?_) fun h => ?_)
     ·have ho : gr.G.toNat ^ gr.Q.toNat % gr.P.toNat = 1 := by
       have : ((gr.G.toNat ^ gr.Q.toNat % gr.P.toNat : Nat) : Int) = 1 := by simpa using h
       omega
      refine zaf (zjM _ (by omega)) (zam (fun h => ?_) fun h => ?_)
      ·have hpq : Pr gr.Q.toNat := by
        rw [zdp (show 0 ≤ gr.Q by omega), zfr] at h
        exact h
       refine zaf (zjM _ (by omega)) (zab (zuf (fun h => ⟨hp, hq, hd, hg, ?_, hpq, ho⟩) fun h => ?_))
       ·rw [zdp (show 0 ≤ gr.P by omega), zfr] at h
        exact h
       rw [zdp (show 0 ≤ gr.P by omega), zfr]
       exact h.pp
      refine zab (zfO fun hk => ?_).symm
      have : prB gr.Q = true := by
       rw [zdp (show 0 ≤ gr.Q by omega), zfr]
       exact hk.pq
      rw [this] at h; cases h
     refine zab (zfO fun hk => ?_).symm
     rw [hk.o] at h; cases h
    refine zab (zfO fun hk => ?_).symm
    have := hk.g
    simp at h; omega
   refine zab (zfO fun hk => ?_).symm
   rw [hk.d] at h; cases h
  refine zab (zfO fun hk => ?_).symm
  have := hk.q
  simp at h; omega
 refine zab (zfO fun hk => ?_).symm
 have := hk.p
 simp at h; omega
def zak (gr : Group) (x : Int) : Bool := decide (1 ≤ x) && decide (x ≤ gr.P - 1) && decide (x.toNat ^ gr.Q.toNat % gr.P.toNat = 1)
def zdN (gr : Group) (x : Int) : Bool := decide (0 ≤ x) && decide (x ≤ gr.Q - 1)
theorem zma {gr : Group} (k : OkG gr) (x : Int) : zbO gr x = some (zak gr x) := by
 have hp := k.p
 have hq := k.q
 unfold zbO zak
 rw [zap (n := gr.P - 1) (by omega) (by omega), zeX]
 refine zaA (zac (ψ := fun b => b = _) ?_ fun b hb => zab hb)
 refine zaf rfl (zam (fun h => ?_) fun h => ?_)
 ·have hx : 1 ≤ x ∧ x ≤ gr.P - 1 := by simpa using h
  refine zaf (zf1 (a := x) (e := gr.Q) (m := gr.P) (by omega) (by omega) (by omega) (by omega) (by omega) (by omega)).1 (zab ?_)
  rw [h, Bool.true_and]
  by_cases h1 : x.toNat ^ gr.Q.toNat % gr.P.toNat = 1
  ·simp [h1]
  have : ¬ ((x.toNat ^ gr.Q.toNat % gr.P.toNat : Nat) : Int) = 1 := by omega
  rw [beq_false_of_ne this, decide_eq_false h1]
 rw [h]; exact zab rfl
theorem zoe {gr : Group} (k : OkG gr) (l : List Int) : zdu gr l = some (l.all (zak gr)) := by
 have hp := k.p
 have hq := k.q
 unfold zdu
 rw [zap (n := gr.P - 1) (by omega) (by omega)]
 refine zaA (zac (ψ := fun b => (b = .inl () ∧ l.all (zak gr) = true) ∨ (b = .inr false ∧ l.all (zak gr) = false)) (zay (fun i s => (l.take i).all (zak gr) = true) rfl ?_ ?_) ?_)
 ·rintro i s hi hI
  refine zaD hi (zac (ψ := fun b => b = !zak gr l[i]) ?_ ?_)
  ·refine zaf (zfG _ _ _) (zam (fun h => zab ?_) fun h => ?_)
   ·have h : (decide (1 ≤ l[i]) && decide (l[i] ≤ gr.P - 1)) = false := by rwa [Bool.not_eq_true'] at h
    simp [zak, h]
   have h : (decide (1 ≤ l[i]) && decide (l[i] ≤ gr.P - 1)) = true := by simpa using h
   have hx : 1 ≤ l[i] ∧ l[i] ≤ gr.P - 1 := by simpa using h
   refine zaf (zf1 (a := l[i]) (e := gr.Q) (m := gr.P) (by omega) (by omega) (by omega) (by omega) (by omega) (by omega)).2 (zab ?_)
   simp only [zak, h, Bool.true_and]
   by_cases h1 : l[i].toNat ^ gr.Q.toNat % gr.P.toNat = 1
   ·simp [h1]
   have : ¬ ((l[i].toNat ^ gr.Q.toNat % gr.P.toNat : Nat) : Int) = 1 := by omega
   simp only [bne, beq_false_of_ne this, decide_eq_false h1]
  rintro b rfl
  refine zam (fun h => zab (.inr ⟨rfl, ?_⟩)) fun h => zab ?_
  ·have h : zak gr l[i] = false := by simpa using h
   rw [List.all_eq_false]
   exact ⟨l[i], List.getElem_mem hi, by simp [h]⟩
  have h : zak gr l[i] = true := by simpa using h
  show (l.take (i + 1)).all (zak gr) = true
  rw [List.take_succ_eq_append_getElem hi, List.all_append, hI]
  simp [h]
 ·rintro s hI
  rw [List.take_length] at hI
  exact .inl ⟨rfl, hI⟩
 rintro b (⟨rfl, h⟩ | ⟨rfl, h⟩)
 ·exact zab h.symm
 exact zab h.symm
theorem zvU (l : List Int) (a b : Int) : zfw l a b = some (l.all fun x => decide (a ≤ x) && decide (x ≤ b)) := by
 unfold zfw
 refine zaA (zac (ψ := fun c => (c = .inl () ∧ (l.all fun x => decide (a ≤ x) && decide (x ≤ b)) = true) ∨ (c = .inr false ∧ (l.all fun x => decide (a ≤ x) && decide (x ≤ b)) = false)) (zay (fun i s => ((l.take i).all fun x => decide (a ≤ x) && decide (x ≤ b)) = true) rfl ?_ ?_) ?_)
 ·rintro i s hi hI
  refine zaD hi (zaf (zfG _ _ _) (zam (fun h => zab (.inr ⟨rfl, ?_⟩)) fun h => zab ?_))
  ·rw [List.all_eq_false]
   exact ⟨l[i], List.getElem_mem hi, by rw [Bool.not_eq_true'] at h; rw [h]; simp⟩
  show ((l.take (i + 1)).all fun x => decide (a ≤ x) && decide (x ≤ b)) = true
  rw [List.take_succ_eq_append_getElem hi, List.all_append, hI]
  simpa using h
 ·rintro s hI
  rw [List.take_length] at hI
  exact .inl ⟨rfl, hI⟩
 rintro c (⟨rfl, h⟩ | ⟨rfl, h⟩)
 ·exact zab h.symm
 exact zab h.symm
theorem zkR {gr : Group} (h : 0 ≤ gr.Q) (h2 : gr.Q ≤ 2000000000) (l : List Int) : zdz gr l = some (l.all (zdN gr)) := by
 unfold zdz
 rw [zap (by omega) (by omega), zvU]; rfl
theorem znf {gr : Group} (h : 0 ≤ gr.Q) (h2 : gr.Q ≤ 2000000000) (x : Int) : zcd gr x = some (zdN gr x) := by
 unfold zcd
 rw [zap (by omega) (by omega), zeX]; rfl
def zai (gr : Group) (x e : Int) : Int := ((x.toNat ^ (e % gr.Q).toNat % gr.P.toNat : Nat) : Int)
theorem zcU {gr : Group} (k : OkG gr) (x e : Int) : 0 ≤ zai gr x e ∧ zai gr x e ≤ gr.P - 1 := by
 have hp := k.p
 unfold zai
 have := Nat.mod_lt (x.toNat ^ (e % gr.Q).toNat) (y := gr.P.toNat) (by omega)
 omega
theorem zjO {gr : Group} (k : OkG gr) {x : Int} (h0 : 0 ≤ x) (h1 : x ≤ 2000000000) (e : Int) : zba gr x e = some (zai gr x e) ∧ zaP gr x e = some (zai gr x e) := by
 have hp := k.p
 have hq := k.q
 have b1 : 0 ≤ e % gr.Q := Int.emod_nonneg _ (by omega)
 have b2 : e % gr.Q < gr.Q := Int.emod_lt_of_pos _ (by omega)
 have hw := zf1 (a := x) (e := e % gr.Q) (m := gr.P) (by omega) (by omega) (by omega) (by omega) b1 (by omega)
 unfold zba zaP
 rw [zk4 (by omega) (by omega), zhx (by omega) (by omega), Option.bind_some, Option.bind_some, hw.1, hw.2]
 exact ⟨rfl, rfl⟩
theorem zj7 {gr : Group} (k : OkG gr) {x : Int} (h0 : 0 ≤ x) (h1 : x ≤ 2000000000) (e : Int) : zaP gr x e = some (zai gr x e) := by
 have hp := k.p
 have hq := k.q
 have b1 : 0 ≤ e % gr.Q := Int.emod_nonneg _ (by omega)
 have b2 : e % gr.Q < gr.Q := Int.emod_lt_of_pos _ (by omega)
 have hw := zf1 (a := x) (e := e % gr.Q) (m := gr.P) (by omega) (by omega) (by omega) (by omega) b1 (by omega)
 unfold zaP
 rw [zhx (by omega) (by omega), Option.bind_some, hw.2]
 rfl
def zdn (gr : Group) (l : List Int) : Int := l.foldl (fun o x => o * x % gr.P) 1
theorem zoL {gr : Group} (h : 1 ≤ gr.P) : ∀ (l : List Int) (o : Int), 0 ≤ o → o ≤ gr.P → (∀ x ∈ l, 0 ≤ x) → 0 ≤ l.foldl (fun o x => o * x % gr.P) o ∧ l.foldl (fun o x => o * x % gr.P) o ≤ gr.P := by
 intro l
 induction l with
 | nil => intro o h0 h1 _; exact ⟨h0, h1⟩
 | cons x l ih =>
  intro o h0 h1 h2
  exact ih _ (Int.emod_nonneg _ (by omega)) (Int.le_of_lt (Int.emod_lt_of_pos (o * x) (show 0 < gr.P by omega))) fun y hy => h2 y (List.mem_cons_of_mem _ hy)
theorem zyB (gr : Group) (l : List Int) : zcY gr l = zbk gr l := rfl
theorem zk1 {gr : Group} (k : OkG gr) {l : List Int} (hl : ∀ x ∈ l, 0 ≤ x ∧ x ≤ 2000000000) : zbk gr l = some (zdn gr l) := by
 have hp := k.p
 unfold zbk
 refine zaA (zac (ψ := fun b => b = zdn gr l) (zay (fun i s => s = (l.take i).foldl (fun o x => o * x % gr.P) 1) rfl ?_ ?_) fun b hb => zab hb)
 ·rintro i s hi rfl
  have hb := zoL (gr := gr) (by omega) (l.take i) 1 (by omega) (by omega) fun x hx => (hl x (List.mem_of_mem_take hx)).1
  have hx := hl l[i] (List.getElem_mem hi)
  refine zaD hi (zaq (by omega) (zab ?_))
  show _ = (l.take (i + 1)).foldl _ _
  rw [List.take_succ_eq_append_getElem hi, List.foldl_append]
  generalize (l.take i).foldl (fun o x => o * x % gr.P) 1 = o at hb ⊢
  have b1 : 0 ≤ o * l[i] := Int.mul_nonneg hb.1 hx.1
  have b2 : o * l[i] ≤ 2000000000 * 2000000000 := Int.mul_le_mul (by omega) hx.2 hx.1 (by omega)
  show (IntKind.i64.wrap (o * l[i])).tmod gr.P = o * l[i] % gr.P
  rw [zap (by omega) (by omega), Int.tmod_eq_emod_of_nonneg b1]
 rintro s rfl
 rw [List.take_length]; rfl
theorem zoN {gr : Group} (k : OkG gr) {l : List Int} (hl : ∀ x ∈ l, 0 ≤ x ∧ x ≤ 2000000000) : zcY gr l = some (zdn gr l) := by rw [zyB]; exact zk1 k hl
theorem zmW {gr : Group} (k : OkG gr) {l : List Int} (hl : ∀ x ∈ l, 0 ≤ x ∧ x ≤ 2000000000) : 0 ≤ zdn gr l ∧ zdn gr l ≤ gr.P := by
 have hp := k.p
 exact zoL (by omega) l 1 (by omega) (by omega) fun x hx => (hl x hx).1
theorem zoK {gr : Group} (k : OkG gr) (l : List Int) : zcz gr l = some (l.all (zak gr)) := by
 unfold zcz zcb zaG zaK
 refine zaA (zac (ψ := fun b => b = l.all (zak gr)) (zac (ψ := fun b => b = !l.all (zak gr)) (zac (ψ := fun j => (j = -1 ∧ l.all (zak gr) = true) ∨ (0 ≤ j ∧ l.all (zak gr) = false)) (zac (ψ := fun b => (b = .inl () ∧ l.all (zak gr) = true) ∨ (∃ j, b = .inr j ∧ 0 ≤ j ∧ l.all (zak gr) = false)) (zay (fun i s => (l.take i).all (zak gr) = true) rfl ?_ ?_) ?_) ?_) ?_) ?_)
 ·rintro i s hi hI
  have hc : zbo l[i] gr = some (!zak gr l[i]) := by
   unfold zbo
   rw [zma k]; rfl
  refine zaD hi (zaf hc (zam (fun h => zab (.inr ⟨i, rfl, by omega, ?_⟩)) fun h => zab ?_))
  ·rw [List.all_eq_false]
   exact ⟨l[i], List.getElem_mem hi, by rw [Bool.not_eq_true'] at h; rw [h]; simp⟩
  show (l.take (i + 1)).all (zak gr) = true
  rw [List.take_succ_eq_append_getElem hi, List.all_append, hI]
  simpa using h
 ·rintro s hI
  rw [List.take_length] at hI
  exact .inl ⟨rfl, hI⟩
 ·rintro b (⟨rfl, h⟩ | ⟨j, rfl, h0, h⟩)
  ·exact zab (.inl ⟨rfl, h⟩)
  exact zab (.inr ⟨h0, h⟩)
 ·rintro j (⟨rfl, h⟩ | ⟨h0, h⟩)
  ·exact zab (by rw [h]; rfl)
  exact zab (by rw [h]; simpa using h0)
 ·rintro b rfl
  exact zab (by simp)
 rintro b rfl
 exact zab rfl
theorem zib {gr : Group} {x : Int} (h : zak gr x = true) : 1 ≤ x ∧ x ≤ gr.P - 1 := by
 simp only [zak, Bool.and_eq_true, decide_eq_true_eq] at h
 exact h.1
theorem zon {α : Type} (b : Bool) (u v : α) : (if b = true then some u else some v) = some (if (!b) = true then v else u) := by cases b <;> rfl
theorem zvy {α : Type} (b : Bool) (u v : α) : (if (!b) = true then some u else some v) = some (if b = true then v else u) := by cases b <;> rfl
theorem zkO {β : Type} {body : Int → Unit → Option (Stp Unit (Unit ⊕ β))} (m : Nat) (p : Nat → Bool) (val : Nat → β) (h : ∀ k, k < m → body (k : Int) () = some (if p k = true then .go () else .out (.inr (val k)))) :
 (zas body (fun _ => .inl ()) m 0 () = some (.inl ()) ∧ ∀ k, k < m → p k = true) ∨ ∃ k, k < m ∧ p k = false ∧ (∀ j, j < k → p j = true) ∧ zas body (fun _ => .inl ()) m 0 () = some (.inr (val k)) := by
 have key : Rn (zas body (fun _ => Sum.inl ()) m 0 ()) (fun b => (b = .inl () ∧ ∀ k, k < m → p k = true) ∨ ∃ k, k < m ∧ p k = false ∧ (∀ j, j < k → p j = true) ∧ b = .inr (val k)) := by
  refine zay (fun k _ => ∀ j, j < k → p j = true) (fun j hj => by omega) ?_ fun s hs => .inl ⟨rfl, hs⟩
  intro k s hk hI
  refine ⟨_, h k hk, ?_⟩
  cases hp : p k with
  | true =>
   intro j hj
   rcases Nat.lt_or_ge j k with h | h
   ·exact hI j h
   ·have : j = k := by omega
    rw [this]; exact hp
  | false => exact .inr ⟨k, hk, hp, hI, rfl⟩
 obtain ⟨b, e, h1 | ⟨k, h1, h2, h3, h4⟩⟩ := key
 ·exact .inl ⟨by rw [e, h1.1], h1.2⟩
 exact .inr ⟨k, h1, h2, h3, by rw [e, h4]⟩
theorem zvG {α : Type} (l : List α) (p : α → Bool) (c : Bool) {body : Int → Unit → Option (Stp Unit (Unit ⊕ Bool))} (h : ∀ k (hk : k < l.length), body (k : Int) () = some (if p l[k] = true then .go () else .out (.inr c))) :
 (zas body (fun _ => .inl ()) l.length 0 ()).bind (Sum.elim (fun _ => some (!c)) some) = some (if l.all p = true then !c else c) := by
 rcases zkO (body := body) l.length (fun k => (l[k]?).any p) (fun _ => c) (fun k hk => by rw [h k hk, List.getElem?_eq_getElem hk]; rfl) with ⟨e, h1⟩ | ⟨k, h1, h2, h3, e⟩
 ·rw [e]
  have : l.all p = true := by
   rw [List.all_eq_true]
   intro x hx
   obtain ⟨k, hk, rfl⟩ := List.mem_iff_getElem.1 hx
   have := h1 k hk
   rw [List.getElem?_eq_getElem hk] at this
   exact this
  rw [this]; rfl
 rw [e]
 have : l.all p = false := by
  rw [List.all_eq_false]
  refine ⟨l[k], List.getElem_mem h1, ?_⟩
  rw [List.getElem?_eq_getElem h1] at h2
  simpa using h2
 rw [this]; rfl
theorem zw3 (l : List Int) (x : Int) : zeL l x = some (l.contains x) := by
 unfold zeL
 have := zvG l (fun y => !(y == x)) true (body := fun i8 s7 => (ix l i8).bind fun x17 => if (x17 == x) = true then some (.out (.inr true)) else some (.go ())) fun k hk => by
  rw [zeg hk, Option.bind_some]
  exact zon _ _ _
 rw [show (!true) = false from rfl] at this
 refine this.trans ?_
 congr 1
 cases hc : l.contains x with
 | true =>
  have hm : x ∈ l := by simpa using hc
  have : (l.all fun y => !(y == x)) = false := by
   rw [List.all_eq_false]
   exact ⟨x, hm, by simp⟩
  rw [this]; rfl
 | false =>
  have hm : ¬ x ∈ l := by simpa using hc
  have : (l.all fun y => !(y == x)) = true := by
   rw [List.all_eq_true]
   intro y hy
   have : y ≠ x := fun e => hm (e ▸ hy)
   simp [this]
  rw [this]; rfl
theorem zwM (l : List Int) (x : Int) : (zbV l x = some (-1) ∧ ¬ x ∈ l) ∨ ∃ k, ∃ h : k < l.length, zbV l x = some (k : Int) ∧ l[k] = x ∧ ∀ j (hj : j < k), l[j]'(by omega) ≠ x := by
 unfold zbV
 rcases zkO l.length (fun k => (l[k]?).any fun y => !(x == y)) (fun k => (k : Int)) (body := fun i8 s7 => (ix l i8).bind fun x17 => if (x == x17) = true then some (.out (.inr i8)) else some (.go ())) (fun k hk => by
  rw [zeg hk, Option.bind_some, List.getElem?_eq_getElem hk]
  exact zon _ _ _) with ⟨e, h1⟩ | ⟨k, h1, h2, h3, e⟩
 ·refine .inl ⟨by rw [e]; rfl, fun hx => ?_⟩
  obtain ⟨k, hk, rfl⟩ := List.mem_iff_getElem.1 hx
  have := h1 k hk
  rw [List.getElem?_eq_getElem hk] at this
  simp at this
 refine .inr ⟨k, h1, by rw [e]; rfl, ?_, fun j hj => ?_⟩
 ·rw [List.getElem?_eq_getElem h1] at h2
  simp at h2
  exact h2.symm
 have := h3 j hj
 rw [List.getElem?_eq_getElem (by omega)] at this
 simp at this
 exact fun e => this e.symm
theorem zrT (l : List Int) (x : Int) : zbB l x = some (l.contains x) := by
 unfold zbB
 rcases zwM l x with ⟨e, h⟩ | ⟨k, hk, e, h, _⟩
 ·rw [e]
  have : l.contains x = false := by simpa using h
  rw [this]; rfl
 rw [e]
 have : l.contains x = true := by
  have := List.getElem_mem hk
  rw [h] at this
  simpa using this
 rw [this]
 simp
theorem zmw {l : List Int} {p : Int → Bool} {f : Int → Option Bool} (hf : ∀ x ∈ l, f x = some (!p x)) :
 ((((zas (σ := Unit) (β := Unit ⊕ Int) (fun i8 s7 => (ix l i8).bind fun x17 => (f x17).bind fun z20 => if z20 = true then (some (.out (.inr i8))) else (some (.go ()))) (fun s7 => .inl ()) (l.length) 0 () : Option (Unit ⊕ Int)).bind (Sum.elim (fun (x5 : Unit) => some (-1)) some)).bind fun z1 => some (decide (0 ≤ z1))).bind fun z1 => some (!z1)) = some (l.all p) := by
 rcases zkO l.length (fun k => (l[k]?).any p) (fun k => (k : Int)) (body := fun i8 s7 => (ix l i8).bind fun x17 => (f x17).bind fun z20 => if z20 = true then (some (.out (.inr i8))) else (some (.go ()))) (fun k hk => by
  rw [zeg hk, Option.bind_some, hf _ (List.getElem_mem hk), Option.bind_some, List.getElem?_eq_getElem hk]
  exact zvy _ _ _) with ⟨e, h1⟩ | ⟨k, h1, h2, h3, e⟩
 ·rw [e]
  have : l.all p = true := by
   rw [List.all_eq_true]
   intro x hx
   obtain ⟨k, hk, rfl⟩ := List.mem_iff_getElem.1 hx
   have := h1 k hk
   rw [List.getElem?_eq_getElem hk] at this
   exact this
  rw [this]; rfl
 rw [e]
 have : l.all p = false := by
  rw [List.all_eq_false]
  refine ⟨l[k], List.getElem_mem h1, ?_⟩
  rw [List.getElem?_eq_getElem h1] at h2
  simpa using h2
 rw [this]
 simp
def trB (x : Int) : Bool := decide (1 ≤ x) && decide (x ≤ 7)
theorem ziW (x : Int) : zcO x = some (trB x) := by
 unfold zcO
 rw [zeX]; rfl
theorem zgf (gr : Group) : zcJ gr = some (okG gr && decide (7 < gr.Q)) := by
 unfold zcJ
 rw [zuR]
 cases okG gr <;> simp
def zaS (q : Int) (f : List Int) (x : Int) : Int := f.foldr (fun c a => (a * x + c) % q) 0
theorem zhe {q : Int} (hq : 0 < q) (f : List Int) (x : Int) : 0 ≤ zaS q f x ∧ zaS q f x < q := by
 cases f with
 | nil => exact ⟨Int.le_refl _, hq⟩
 | cons c f => exact ⟨Int.emod_nonneg _ (by omega), Int.emod_lt_of_pos _ hq⟩
theorem zl4 {q x : Int} {f : List Int} (hq : 0 < q) (hq2 : q ≤ 2000000000) (hx : 0 ≤ x) (hx2 : x ≤ 2000000000) (hf : ∀ c ∈ f, 0 ≤ c ∧ c ≤ 2000000000) (hl : f.length ≤ 1000000000000) : zdJ q f x = some (zaS q f x) := by
 unfold zdJ
 rw [zap (by omega) (by omega)]
 refine zaA (zac (ψ := fun r => r = zaS q f x) (zfv f.length (fun k s => s = (zaS q (f.drop (f.length - k)) x, (f.length : Int) - k - 1)) ?_ ?_ ?_) fun r hr => zab hr)
 ·simp [zaS]
 ·rintro k s hk rfl
  have hi : (f.length : Int) - (k : Int) - 1 = ((f.length - k - 1 : Nat) : Int) := by omega
  have hlt : f.length - k - 1 < f.length := by omega
  have hd : f.drop (f.length - (k + 1)) = f[f.length - k - 1] :: f.drop (f.length - k) := by
   have e := List.drop_eq_getElem_cons (l := f) (i := f.length - k - 1) hlt
   rw [show f.length - (k + 1) = f.length - k - 1 by omega, e, show f.length - k - 1 + 1 = f.length - k by omega]
  have hb := zhe hq (f.drop (f.length - k)) x
  have hc := hf _ (List.getElem_mem hlt)
  refine zeR (by simp only [decide_eq_true_eq]; omega) (zaq (by omega) ?_)
  simp only [hi]
  refine zaD hlt (zaq (by omega) (zab ?_))
  show (_, _) = (_, _)
  rw [hd]
  show (_, _) = ((zaS q (f.drop (f.length - k)) x * x + f[f.length - k - 1]) % q, _)
  generalize zaS q (f.drop (f.length - k)) x = a at hb ⊢
  have b1 : 0 ≤ a * x := Int.mul_nonneg hb.1 hx
  have b2 : a * x ≤ 2000000000 * 2000000000 := Int.mul_le_mul (by omega) hx2 hx (by omega)
  have b3 : 0 ≤ a * x % q := Int.emod_nonneg _ (by omega)
  have b4 : a * x % q < q := Int.emod_lt_of_pos _ hq
  rw [zap (n := a * x) (by omega) (by omega), Int.tmod_eq_emod_of_nonneg b1, zap (n := a * x % q + _) (by omega) (by omega), Int.tmod_eq_emod_of_nonneg (by omega), Int.emod_add_emod, zap (by omega) (by omega)]
  congr 1
  omega
 rintro s rfl
 refine zbu (by simp only [decide_eq_false_iff_not]; omega) (zab ?_)
 show zaS q (f.drop (f.length - f.length)) x = _
 rw [Nat.sub_self, List.drop_zero]
theorem zm1 {q x : Int} {f : List Int} (hq : 0 < q) (hq2 : q ≤ 2000000000) (hx : 0 ≤ x) (hx2 : x ≤ 2000000000) (hf : ∀ c ∈ f, 0 ≤ c ∧ c ≤ 2000000000) (hl : f.length ≤ 1000000000000) : zd6 q f x = some (zaS q f x) := by
 unfold zd6
 rw [zap (by omega) (by omega)]
 refine zaA (zac (ψ := fun r => r = zaS q f x) (zfv f.length (fun k s => s = (zaS q (f.drop (f.length - k)) x, (f.length : Int) - k - 1)) ?_ ?_ ?_) fun r hr => zab hr)
 ·simp [zaS]
 ·rintro k s hk rfl
  have hi : (f.length : Int) - (k : Int) - 1 = ((f.length - k - 1 : Nat) : Int) := by omega
  have hlt : f.length - k - 1 < f.length := by omega
  have hd : f.drop (f.length - (k + 1)) = f[f.length - k - 1] :: f.drop (f.length - k) := by
   have e := List.drop_eq_getElem_cons (l := f) (i := f.length - k - 1) hlt
   rw [show f.length - (k + 1) = f.length - k - 1 by omega, e, show f.length - k - 1 + 1 = f.length - k by omega]
  have hb := zhe hq (f.drop (f.length - k)) x
  have hc := hf _ (List.getElem_mem hlt)
  refine zeR (by simp only [decide_eq_true_eq]; omega) ?_
  simp only [hi]
  refine zaD hlt (zaq (by omega) (zab ?_))
  show (_, _) = (_, _)
  rw [hd]
  show (_, _) = ((zaS q (f.drop (f.length - k)) x * x + f[f.length - k - 1]) % q, _)
  generalize zaS q (f.drop (f.length - k)) x = a at hb ⊢
  have b1 : 0 ≤ a * x := Int.mul_nonneg hb.1 hx
  have b2 : a * x ≤ 2000000000 * 2000000000 := Int.mul_le_mul (by omega) hx2 hx (by omega)
  rw [zap (n := a * x) (by omega) (by omega), zap (n := a * x + _) (by omega) (by omega), Int.tmod_eq_emod_of_nonneg (by omega), zap (by omega) (by omega)]
  congr 1
  omega
 rintro s rfl
 refine zbu (by simp only [decide_eq_false_iff_not]; omega) (zab ?_)
 show zaS q (f.drop (f.length - f.length)) x = _
 rw [Nat.sub_self, List.drop_zero]
theorem zBj {σ β : Type} {step : σ → Option (Stp σ β)} {s : σ} {φ : β → Prop} (h : Rn (step s) (so (fun s' => Rn (zbc step s') φ) φ)) : Rn (zbc step s) φ := by
 obtain ⟨x, h1, h2⟩ := h
 rw [zg9, h1]
 cases x with
 | go s' => exact h2
 | out b => exact ⟨b, rfl, h2⟩
def dg (q : Nat) : Nat → Nat → List Int
 | 0, _ => []
 | k + 1, n => ((n % q : Nat) : Int) :: dg q k (n / q)
def evI (f : List Int) (x : Int) : Int := f.foldr (fun c a => a * x + c) 0
theorem zdq (c : Int) (f : List Int) (x : Int) : evI (c :: f) x = evI f x * x + c := rfl
theorem zju {q a b c d : Int} (h : a % q = b % q) (h' : c % q = d % q) : (a * c) % q = (b * d) % q := by rw [Int.mul_emod, h, h', ← Int.mul_emod]
theorem zik {q a b c d : Int} (h : a % q = b % q) (h' : c % q = d % q) : (a + c) % q = (b + d) % q := by rw [Int.add_emod, h, h', ← Int.add_emod]
theorem zf4 (q a : Int) : (a % q) % q = a % q := Int.emod_emod_of_dvd a (Int.dvd_refl q)
theorem zg7 (q : Int) (f : List Int) (x : Int) : zaS q f x = evI f x % q := by
 induction f with
 | nil => simp [zaS, evI]
 | cons c f ih =>
  show (zaS q f x * x + c) % q = (evI f x * x + c) % q
  rw [ih]
  exact zik (zju (zf4 _ _) rfl) rfl
theorem zq6 (x v : Int) : ∀ (l : List Int) (k : Nat) (hk : k < l.length), evI (l.set k v) x = evI l x + (v - l[k]) * x ^ k
 | [], k, hk => absurd hk (by simp)
 | c :: l, 0, hk => by
  show evI l x * x + v = evI l x * x + c + (v - c) * x ^ 0
  rw [Int.pow_zero]; omega
 | c :: l, k + 1, hk => by
  show evI (l.set k v) x * x + c = evI l x * x + c + (v - l[k]'(by simpa using hk)) * x ^ (k + 1)
  rw [zq6 x v l k (by simpa using hk), Int.pow_succ]
  grind
theorem zuN (l : List Int) (c x : Int) : evI (l ++ [c]) x = evI l x + c * x ^ l.length := by
 induction l with
 | nil => simp [evI]
 | cons d l ih =>
  rw [List.cons_append, zdq, zdq, ih, List.length_cons, Int.pow_succ]
  grind
theorem zph {l : List Int} {k : Nat} (hk : k < l.length) (x : Int) : evI (l.take (k + 1)) x = evI (l.take k) x + l[k] * x ^ k := by
 rw [List.take_succ_eq_append_getElem hk, zuN, List.length_take, Nat.min_eq_left (by omega)]
theorem zvt (n : Nat) (x : Int) : evI (List.replicate n 0) x = 0 := by
 induction n with
 | zero => rfl
 | succ n ih => rw [List.replicate_succ, zdq, ih]; simp
def RgC (q : Int) (f : List Int) : Prop := ∀ c ∈ f, 0 ≤ c ∧ c < q
theorem zeQ {q : Int} (hq : 0 < q) (a : Int) : 0 ≤ a % q ∧ a % q < q := ⟨Int.emod_nonneg _ (by omega), Int.emod_lt_of_pos _ hq⟩
theorem zpE {q a b : Int} (hq2 : q ≤ 2000000000) (ha : 0 ≤ a ∧ a < q) (hb : 0 ≤ b ∧ b < q) : 0 ≤ a * b ∧ a * b ≤ 2000000000 * 2000000000 := ⟨Int.mul_nonneg ha.1 hb.1, Int.mul_le_mul (by omega) (by omega) hb.1 (by omega)⟩
theorem zmm {q : Int} {a b : List Int} (hq : 0 < q) (hq2 : q ≤ 2000000000) (ha : RgC q a) (hb : RgC q b) (la : 1 ≤ a.length ∧ a.length ≤ 1000000000) (lb : 1 ≤ b.length ∧ b.length ≤ 1000000000) :
 Rn (zdH q a b) (fun r => r.length = a.length + b.length - 1 ∧ RgC q r ∧ ∀ x, evI r x % q = (evI a x * evI b x) % q) := by
 unfold zdH
 have hw : IntKind.i64.wrap (IntKind.i64.wrap ((a.length : Int) + (b.length : Int)) - 1) = ((a.length + b.length - 1 : Nat) : Int) := by
  rw [zap (n := (a.length : Int) + (b.length : Int)) (by omega) (by omega), zap (by omega) (by omega)]; omega
 simp only [hw]
 refine zac (ψ := fun v => v = false) (zbu (by rw [beq_eq_false_iff_ne]; omega) (zab (by rw [beq_eq_false_iff_ne]; omega))) ?_
 rintro _ rfl
 refine zbu rfl (zaq (by omega) (zaf rfl ?_))
 rw [Int.toNat_natCast]
 refine zac (ψ := fun r => r.length = a.length + b.length - 1 ∧ RgC q r ∧ ∀ x, evI r x % q = (evI a x * evI b x) % q) (zay (fun k s => s.length = a.length + b.length - 1 ∧ RgC q s ∧ ∀ x, evI s x % q = (evI (a.take k) x * evI b x) % q) ?_ ?_ ?_) fun r h => zab h
 ·refine ⟨by simp, fun c hc => ?_, fun x => ?_⟩
  ·rw [List.eq_of_mem_replicate hc]; omega
  rw [zvt, List.take_zero]; simp [evI]
 ·rintro k s hk ⟨h1, h2, h3⟩
  have hak := ha _ (List.getElem_mem hk)
  refine zac (ψ := fun s' => s'.length = a.length + b.length - 1 ∧ RgC q s' ∧ ∀ x, evI s' x % q = (evI s x + a[k] * x ^ k * evI b x) % q) (zaD hk (zay (fun j s' => s'.length = a.length + b.length - 1 ∧ RgC q s' ∧ ∀ x, evI s' x % q = (evI s x + a[k] * x ^ k * evI (b.take j) x) % q) ⟨h1, h2, fun x => by simp [evI]⟩ ?_ ?_)) ?_
  ·rintro j s' hj ⟨g1, g2, g3⟩
   have hbj := hb _ (List.getElem_mem hj)
   have hlt : k + j < s'.length := by omega
   have hsj := g2 _ (List.getElem_mem hlt)
   have e : IntKind.i64.wrap ((k : Int) + (j : Int)) = ((k + j : Nat) : Int) := by rw [zap (by omega) (by omega)]; omega
   refine zaD hj ?_
   simp only [e]
   refine zaD hlt (zaq (by omega) (zaq (by omega) (zab ?_)))
   obtain ⟨b1, b2⟩ := zpE hq2 hak hbj
   obtain ⟨b3, b4⟩ := zeQ hq (a[k] * b[j])
   have hv : (IntKind.i64.wrap (s'[k + j] + (IntKind.i64.wrap (a[k] * b[j])).tmod q)).tmod q = (s'[k + j] + a[k] * b[j]) % q := by
    rw [zap (n := a[k] * b[j]) (by omega) (by omega), Int.tmod_eq_emod_of_nonneg b1, zap (by omega) (by omega), Int.tmod_eq_emod_of_nonneg (by omega)]
    exact zik rfl (zf4 _ _)
   rw [hv, Int.toNat_natCast]
   refine ⟨by simp [g1], fun c hc => ?_, fun x => ?_⟩
   ·rcases List.mem_or_eq_of_mem_set hc with h | h
    ·exact g2 c h
    rw [h]; exact zeQ hq _
   rw [zq6 x _ _ _ hlt, zph hj]
   have e2 : evI s' x + ((s'[k + j] + a[k] * b[j]) % q - s'[k + j]) * x ^ (k + j) = evI s' x + a[k] * b[j] * x ^ (k + j) + q * (-((s'[k + j] + a[k] * b[j]) / q) * x ^ (k + j)) := by
    rw [Int.emod_def]; grind
   rw [e2, Int.add_mul_emod_self_left, zik (g3 x) rfl, Int.pow_add]
   congr 1
   grind
  ·rintro s' ⟨g1, g2, g3⟩
   rw [List.take_length] at g3
   exact ⟨g1, g2, g3⟩
  rintro s' ⟨g1, g2, g3⟩
  refine zab ⟨g1, g2, fun x => ?_⟩
  rw [g3, zph hk, zik (h3 x) rfl]
  congr 1
  grind
 rintro s ⟨h1, h2, h3⟩
 rw [List.take_length] at h3
 exact ⟨h1, h2, h3⟩
def dF (x : Int) (l : List Int) : Int := l.foldr (fun p a => a * (x - p)) 1
theorem zi7 (x p : Int) (l : List Int) : dF x (p :: l) = dF x l * (x - p) := rfl
theorem zm7 (x : Int) (l : List Int) (p : Int) : dF x (l ++ [p]) = dF x l * (x - p) := by
 induction l with
 | nil => rfl
 | cons c l ih => rw [List.cons_append, zi7, zi7, ih]; grind
theorem zqq {q : Int} {l : List Int} (hq : 2 ≤ q) (hq2 : q ≤ 2000000000) (hl : ∀ p ∈ l, 0 ≤ p ∧ p ≤ 7) (hn : l.length ≤ 100000000) :
 Rn (zea q l) (fun r => r.length = l.length + 1 ∧ RgC q r ∧ ∀ x, evI r x % q = dF x l % q) := by
 unfold zea
 refine zac (ψ := fun r => r.length = l.length + 1 ∧ RgC q r ∧ ∀ x, evI r x % q = dF x l % q) (zay (fun k s => s.length = k + 1 ∧ RgC q s ∧ ∀ x, evI s x % q = dF x (l.take k) % q) ?_ ?_ ?_) fun r h => zab h
 ·refine ⟨rfl, fun c hc => ?_, fun x => ?_⟩
  ·rw [List.mem_singleton.1 hc]; omega
  simp [evI, dF]
 ·rintro k s hk ⟨h1, h2, h3⟩
  have hp := hl _ (List.getElem_mem hk)
  refine zaD hk ?_
  rw [zap (by omega) (by omega)]
  refine zaf (zk4 (by omega) hq2) ?_
  have hr := zeQ (q := q) (by omega) (0 - l[k])
  refine zac (zmm (by omega) hq2 h2 (fun c hc => ?_) (by omega) (by simp)) ?_
  ·rcases List.mem_cons.1 hc with h | h
   ·rw [h]; exact hr
   rw [List.mem_singleton.1 h]; omega
  rintro r ⟨g1, g2, g3⟩
  refine zab ⟨by simp at g1; omega, g2, fun x => ?_⟩
  rw [g3, List.take_succ_eq_append_getElem hk, zm7]
  refine zju (h3 x) ?_
  show ((0 * x + 1) * x + (0 - l[k]) % q) % q = _
  rw [show (0 * x + 1) * x = x by grind, show x - l[k] = x + (0 - l[k]) by omega]
  exact zik rfl (zf4 _ _)
 rintro s ⟨h1, h2, h3⟩
 rw [List.take_length] at h3
 exact ⟨h1, h2, h3⟩
def zkE (s7 : Int × Int × Int × Int) : Option (Stp (Int × Int × Int × Int) (Int × Int)) :=
 if (s7.2.1 != 0) = true then (
 gd (s7.2.1 ≠ 0) <|
 some (.go (s7.2.1, IntKind.i64.wrap (s7.1 - (IntKind.i64.wrap ((IntKind.i64.wrap (s7.1.tdiv s7.2.1)) * s7.2.1))), s7.2.2.2, IntKind.i64.wrap (s7.2.2.1 - (IntKind.i64.wrap ((IntKind.i64.wrap (s7.1.tdiv s7.2.1)) * s7.2.2.2)))))) else (
 some (.out (s7.1, s7.2.2.1)))
theorem zkY {a b : Nat} (h1 : a ≤ 2000000000) (h2 : b ≤ 2000000000) : IntKind.i64.wrap ((a : Int) - (IntKind.i64.wrap ((IntKind.i64.wrap ((a : Int).tdiv (b : Int))) * (b : Int)))) = ((a % b : Nat) : Int) := by
 have h3 : a / b ≤ a := Nat.div_le_self a b
 have h4 : a / b * b ≤ a := Nat.div_mul_le_self a b
 have h5 : b * (a / b) + a % b = a := Nat.div_add_mod a b
 have h6 : b * (a / b) = a / b * b := Nat.mul_comm _ _
 rw [znL]
 generalize a / b = d at h3 h4 h5 h6 ⊢
 rw [zap (n := (d : Int)) (by omega) (by omega), ze5]
 generalize d * b = f at h4 h6 ⊢
 rw [h6] at h5
 rw [zap (n := (f : Int)) (by omega) (by omega), zap (by omega) (by omega)]
 omega
theorem euc {a b : Nat} {x y : Int} (ha : a ≤ 2000000000) (hb : b ≤ 2000000000) (hg : Nat.gcd a b = 1) : Rn (zbc zkE ((a : Int), (b : Int), x, y)) (fun r => r.1 = 1) := by
 refine zeC (fun s => ∃ a b : Nat, ∃ x y : Int, s = ((a : Int), (b : Int), x, y) ∧ a ≤ 2000000000 ∧ b ≤ 2000000000 ∧ Nat.gcd a b = 1) (fun s => s.2.1.toNat) ⟨a, b, x, y, rfl, ha, hb, hg⟩ ?_
 rintro _ ⟨a, b, x, y, rfl, h1, h2, h3⟩
 unfold zkE
 by_cases hb0 : b = 0
 ·subst hb0
  refine zbu (by simp) (zab ?_)
  show (a : Int) = 1
  rw [Nat.gcd_zero_right] at h3
  omega
 refine zeR (by simpa using hb0) (zaq (by simpa using hb0) (zab ?_))
 have hlt : a % b < b := Nat.mod_lt _ (by omega)
 refine ⟨⟨b, a % b, y, IntKind.i64.wrap (x - (IntKind.i64.wrap ((IntKind.i64.wrap ((a : Int).tdiv (b : Int))) * y))), ?_, h2, by omega, ?_⟩, ?_⟩
 ·show (_, _, _, _) = _
  rw [zkY h1 h2]
 ·rw [Nat.gcd_comm, ← Nat.gcd_rec, Nat.gcd_comm]; exact h3
 show (IntKind.i64.wrap _).toNat < (b : Int).toNat
 rw [zkY h1 h2]; omega
noncomputable def ivV (q b : Int) : Int := ((zb0 b q).getD (0, false)).1
theorem znF {q v : Nat} (hq : 2 ≤ q) (hq2 : q ≤ 2000000000) (hv : v < q) (hg : Nat.gcd q v = 1) : zdk (v : Int) (q : Int) = some (ivV q v) ∧ zb0 (v : Int) (q : Int) = some (ivV q v, true) ∧ 0 ≤ ivV q v ∧ ivV q v < q := by
 obtain ⟨⟨u, c⟩, h1, h2⟩ := euc (x := 0) (y := 1) hq2 (by omega : v ≤ 2000000000) hg
 have h2 : u = 1 := h2
 subst h2
 have hs : zb0 (v : Int) (q : Int) = some (c % (q : Int), true) := by
  unfold zb0
  rw [zhx (by omega) (by omega), Option.bind_some, show (v : Int) % (q : Int) = (v : Int) from Int.emod_eq_of_lt (by omega) (by omega)]
  have e : zbc zkE ((v : Int), (q : Int), 1, 0) = some (1, c) := by
   rw [zg9]
   have : zkE ((v : Int), (q : Int), 1, 0) = some (.go ((q : Int), (v : Int), 0, 1)) := by
    unfold zkE
    rw [if_pos (by simp; omega), zdU (by simp; omega)]
    simp only [zkY (by omega : v ≤ 2000000000) hq2, Nat.mod_eq_of_lt hv, Int.mul_zero]
    rfl
   rw [this]
   exact h1
  have e2 := congrArg (fun o : Option (Int × Int) => o.bind fun (x7 : Int × Int) => (zbL x7.2 (q : Int)).bind fun z23 => some (z23, (x7.1 == 1))) e
  refine e2.trans ?_
  show (zbL c (q : Int)).bind _ = _
  rw [zhx (by omega) (by omega)]; rfl
 have hi : ivV q v = c % (q : Int) := by unfold ivV; rw [hs]; rfl
 rw [hi]
 refine ⟨?_, hs, zeQ (by omega) _⟩
 unfold zdk
 have e2 := congrArg (fun o : Option (Int × Int) => o.bind fun (x5 : Int × Int) => if (x5.1 != 1) = true then (some 0) else ((zcK x5.2 (q : Int)).bind fun z23 => some z23)) h1
 refine e2.trans ?_
 show (zcK c (q : Int)).bind _ = _
 rw [zk4 (by omega) (by omega)]; rfl
theorem zxz {n d : Nat} (h : Pr n) (hd : 0 < d) (hdn : d < n) : Nat.gcd n d = 1 := by
 obtain ⟨k, hk⟩ := Nat.gcd_dvd_left n d
 have h1 : Nat.gcd n d ≤ d := Nat.le_of_dvd hd (Nat.gcd_dvd_right n d)
 have h0 : 0 < Nat.gcd n d := Nat.gcd_pos_of_pos_right n hd
 generalize Nat.gcd n d = g at hk h1 h0
 apply Classical.byContradiction
 intro hg
 have hg2 : 2 ≤ g := by omega
 have hk2 : 2 ≤ k := by
  rcases Nat.lt_or_ge k 2 with h | h
  ·have : k = 0 ∨ k = 1 := by omega
   rcases this with rfl | rfl <;> omega
  ·exact h
 rcases Nat.le_total g k with h' | h'
 ·exact h.2 g hg2 (by rw [hk]; exact Nat.mul_le_mul_left g h') (by rw [hk]; exact Nat.mul_mod_right g k)
 exact h.2 k hk2 (by rw [hk]; exact Nat.mul_le_mul_right k h') (by rw [hk]; exact Nat.mul_mod_left g k)
theorem zsG {q x : Int} : ∀ {l : List Int}, (∀ p ∈ l, Int.gcd q (x - p) = 1) → Int.gcd q (dF x l) = 1
 | [], _ => by simp [dF]
 | p :: l, h => by
  rw [zi7, Int.gcd_mul_right_right_of_gcd_eq_one (zsG fun p hp => h p (List.mem_cons_of_mem _ hp))]
  exact h p (List.mem_cons_self ..)
structure LgOk (q : Int) (pts : List Int) : Prop where
 q8 : 7 < q
 q2 : q ≤ 2000000000
 pr : Pr q.toNat
 bd : ∀ p ∈ pts, 0 ≤ p ∧ p ≤ 7
 nd : pts.Nodup
 ln : pts.length ≤ 10000000
theorem zsH {q : Int} {pts : List Int} (h : LgOk q pts) {k : Nat} (hk : k < pts.length) : Nat.gcd q.toNat (dF pts[k] (pts.eraseIdx k) % q).toNat = 1 := by
 have h8 := h.q8
 have h1 : Int.gcd q (dF pts[k] (pts.eraseIdx k)) = 1 := by
  refine zsG fun p hp => ?_
  obtain ⟨i, hi, hne, rfl⟩ := List.mem_eraseIdx_iff_getElem.1 hp
  have hn : pts[k] ≠ pts[i] := fun e => hne ((List.getElem_inj h.nd).1 e).symm
  have b1 := h.bd _ (List.getElem_mem hk)
  have b2 := h.bd _ (List.getElem_mem hi)
  rw [Int.gcd_eq_natAbs_gcd_natAbs, show q.natAbs = q.toNat by omega]
  exact zxz h.pr (by omega) (by omega)
 have h2 : Int.gcd q (dF pts[k] (pts.eraseIdx k) % q) = 1 := by
  rw [Int.gcd_comm, Int.emod_def, Int.mul_comm q, Int.gcd_sub_mul_right_left, Int.gcd_comm]; exact h1
 have := zeQ (q := q) (by omega) (dF pts[k] (pts.eraseIdx k))
 rw [Int.gcd_eq_natAbs_gcd_natAbs] at h2
 rw [show q.toNat = q.natAbs by omega, show ∀ z : Int, 0 ≤ z → z.toNat = z.natAbs from fun z hz => by omega, h2]
 exact this.1
noncomputable def zej (q : Int) (pts : List Int) (x : Int) (k : Nat) : Int := (dF x (pts.eraseIdx k) * ivV q (dF (pts.getD k 0) (pts.eraseIdx k) % q)) % q
theorem ztS {q : Int} {pts : List Int} (h : LgOk q pts) {k : Nat} (hk : k < pts.length) {d : Int} (hd : d = dF pts[k] (pts.eraseIdx k) % q) : zdk d q = some (ivV q d) ∧ zb0 d q = some (ivV q d, true) ∧ 0 ≤ ivV q d ∧ ivV q d < q := by
 have h8 := h.q8
 have h2 := h.q2
 have hb := zeQ (q := q) (by omega) (dF pts[k] (pts.eraseIdx k))
 have := znF (q := q.toNat) (v := d.toNat) (by omega) (by omega) (by omega) (by rw [hd]; exact zsH h hk)
 rw [show ((q.toNat : Nat) : Int) = q by omega, show ((d.toNat : Nat) : Int) = d by omega] at this
 exact this
theorem zmd {pts : List Int} {k j : Nat} (hj : j < pts.length) : (pts.take (j + 1)).eraseIdx k = if j = k then (pts.take j).eraseIdx k else (pts.take j).eraseIdx k ++ [pts[j]] := by
 rw [List.take_succ_eq_append_getElem hj]
 have hl : (pts.take j).length = j := by simp; omega
 by_cases h1 : j = k
 ·subst h1
  rw [if_pos rfl, List.eraseIdx_append_of_length_le (by omega), hl, Nat.sub_self]
  rw [List.eraseIdx_of_length_le (l := pts.take j) (by omega)]
  simp
 rw [if_neg h1]
 rcases Nat.lt_or_ge k j with h | h
 ·rw [List.eraseIdx_append_of_lt_length (by omega)]
 rw [List.eraseIdx_append_of_length_le (by omega), List.eraseIdx_of_length_le (l := pts.take j) (by omega), List.eraseIdx_of_length_le (by simp; omega)]
theorem zq8 {q x p a : Int} (h : 7 < q) (hq2 : q ≤ 2000000000) (hx : 0 ≤ x ∧ x ≤ 7) (hp : 0 ≤ p ∧ p ≤ 7) : (IntKind.i64.wrap ((a % q) * ((x - p) % q))).tmod q = (a * (x - p)) % q := by
 obtain ⟨b1, b2⟩ := zpE hq2 (zeQ (q := q) (by omega) a) (zeQ (q := q) (by omega) (x - p))
 rw [zap (by omega) (by omega), Int.tmod_eq_emod_of_nonneg b1]
 exact zju (zf4 _ _) (zf4 _ _)
theorem zqi {q x : Int} {pts : List Int} (h : LgOk q pts) (hx : 0 ≤ x ∧ x ≤ 7) : zd3 q pts x = some ((List.range pts.length).map (zej q pts x)) := by
 have h8 := h.q8
 have h2 := h.q2
 have hln := h.ln
 unfold zd3
 refine zaA (zac (ψ := fun r => r = (List.range pts.length).map (zej q pts x)) (zay (fun k s => s = (List.range k).map (zej q pts x)) rfl ?_ ?_) fun r hr => zab hr)
 ·rintro k s hk rfl
  have bk := h.bd _ (List.getElem_mem hk)
  refine zaD hk ?_
  refine zac (ψ := fun r => r = (dF x (pts.eraseIdx k) % q, dF pts[k] (pts.eraseIdx k) % q)) (zay (fun j s => s = (dF x ((pts.take j).eraseIdx k) % q, dF pts[k] ((pts.take j).eraseIdx k) % q)) ?_ ?_ ?_) ?_
  ·simp only [List.take_zero, List.eraseIdx_nil]
   show _ = ((1 : Int) % q, (1 : Int) % q)
   rw [Int.emod_eq_of_lt (by omega) (by omega)]
  ·rintro j s hj rfl
   have bj := h.bd _ (List.getElem_mem hj)
   refine zac (ψ := fun r => r = (dF x ((pts.take (j + 1)).eraseIdx k) % q, dF pts[k] ((pts.take (j + 1)).eraseIdx k) % q)) (zaD hj (zam (fun hv => ?_) fun hv => ?_)) fun r hr => zab hr
   ·have hne : ¬ j = k := by simp at hv; omega
    rw [zap (n := x - pts[j]) (by omega) (by omega), zap (n := pts[k] - pts[j]) (by omega) (by omega)]
    refine zaf (zhx (by omega) h2) (zaq (by omega) (zaf (zhx (by omega) h2) (zaq (by omega) (zab ?_))))
    rw [zmd hj, if_neg hne, zm7, zm7, zq8 h8 h2 hx bj, zq8 h8 h2 bk bj]
   have hne : j = k := by simp at hv; omega
   refine zab ?_
   rw [zmd hj, if_pos hne]
  ·rintro s rfl
   rw [List.take_length]
  rintro r rfl
  obtain ⟨-, i2, i3, i4⟩ := ztS h hk rfl
  refine zaf i2 (zaq (by omega) (zaq (by simp; omega) (zab ?_)))
  show _ = (List.range (k + 1)).map _
  obtain ⟨b1, b2⟩ := zpE h2 (zeQ (q := q) (by omega) (dF x (pts.eraseIdx k))) ⟨i3, i4⟩
  dsimp only
  rw [List.range_succ, List.map_append, zap (by omega) (by omega), Int.tmod_eq_emod_of_nonneg b1]
  congr 1
  simp only [List.map_cons, List.map_nil, zej, List.getD_eq_getElem?_getD, List.getElem?_eq_getElem hk, Option.getD_some]
  rw [zju (zf4 q (dF x (pts.eraseIdx k))) rfl]
 rintro s rfl; rfl
theorem zse {q x : Int} {pts : List Int} (h : LgOk q pts) (hx : 0 ≤ x ∧ x ≤ 7) : zey q pts x = some ((List.range pts.length).map (zej q pts x)) := by
 have h8 := h.q8
 have h2 := h.q2
 have hln := h.ln
 unfold zey
 refine zaA (zac (ψ := fun r => r = (List.range pts.length).map (zej q pts x)) (zay (fun k s => s = (List.range k).map (zej q pts x)) rfl ?_ ?_) fun r hr => zab hr)
 ·rintro k s hk rfl
  have bk := h.bd _ (List.getElem_mem hk)
  refine zac (ψ := fun r => RgC q r ∧ r.length ≤ 100000000 ∧ evI r x % q = zej q pts x k) ?_ ?_
  ·unfold zfL zdw zck
   rw [zap (by omega) (by omega)]
   refine zaf (zdU (by omega)) (zaf (zdU (by omega)) ?_)
   rw [Int.toNat_natCast, show ((k : Int) + 1).toNat = k + 1 by omega, ← List.eraseIdx_eq_take_drop_succ]
   have hel : (pts.eraseIdx k).length ≤ pts.length := List.length_eraseIdx_le ..
   refine zac (zqq (by omega) h2 (fun p hp => h.bd p (List.mem_of_mem_eraseIdx hp)) (by omega)) ?_
   rintro z5 ⟨g1, g2, g3⟩
   refine zaD hk ?_
   refine zaf (zl4 (by omega) h2 bk.1 (by omega) (fun c hc => by have := g2 c hc; omega) (by omega)) ?_
   rw [zg7, g3]
   obtain ⟨i1, -, i3, i4⟩ := ztS h hk rfl
   refine zaf i1 (zac (zmm (by omega) h2 g2 (fun c hc => by rw [List.mem_singleton.1 hc]; exact ⟨i3, i4⟩) (by omega) (by simp)) ?_)
   rintro z14 ⟨k1, k2, k3⟩
   refine zab ⟨k2, by simp at k1; omega, ?_⟩
   rw [k3]
   simp only [zej, List.getD_eq_getElem?_getD, List.getElem?_eq_getElem hk, Option.getD_some]
   exact zju (g3 x) (by simp [evI])
  rintro z17 ⟨k1, k2, k3⟩
  refine zaf (zl4 (by omega) h2 hx.1 (by omega) (fun c hc => by have := k1 c hc; omega) (by omega)) (zaq (by simp; omega) (zab ?_))
  show _ = (List.range (k + 1)).map _
  rw [List.range_succ, List.map_append, zg7, k3]; rfl
 rintro s rfl; rfl
theorem zf9 (gr : Group) : zdm gr = some (okG gr && decide (7 < gr.Q)) := by
 unfold zdm
 rw [zlw]
 by_cases h : 7 < gr.Q <;> simp [h]
theorem zfY {gr : Group} (k : OkG gr) (c : Cipher) : zbx gr c = some (zak gr c.A && zak gr c.B) := by
 unfold zbx
 rw [zma k, zma k]
 cases zak gr c.A <;> simp
theorem zpT {gr : Group} (k : OkG gr) (c : Cipher) : zeS gr [c] = some (zak gr c.A && zak gr c.B) := by
 unfold zeS
 rw [if_neg (by simp)]
 refine (zvG [c] (fun c => zak gr c.A && zak gr c.B) false (body := fun i10 s9 => (ix [c] i10).bind fun x19 => (zdu gr [x19.A, x19.B]).bind fun z22 => if (!z22) = true then some (.out (.inr false)) else some (.go ())) fun k' hk => ?_).trans ?_
 ·rw [zeg hk, Option.bind_some, zoe k, Option.bind_some]
  refine (zvy _ _ _).trans ?_
  simp
 simp
theorem zx6 {gr : Group} (k : OkG gr) (m : Int) : zdu gr [m] = some (zak gr m) := by
 rw [zoe k]; simp
theorem znP {gr : Group} (h : 0 ≤ gr.Q) (h2 : gr.Q ≤ 2000000000) (l : List Int) : zch gr l = some (l.all (zdN gr)) := by
 have h1 : zbU l gr = some (l.all (zdN gr)) := zmw (f := fun x => zbe x gr) fun x _ => by
  unfold zbe
  rw [znf h h2]; rfl
 unfold zch
 rw [h1]; rfl
theorem zhb {a n p e : Nat} (h : a ^ n % p = 1) : a ^ (e % n) % p = a ^ e % p := by
 have hp : 1 % p = 1 := by rw [← h, Nat.mod_mod]
 conv => rhs; rw [← Nat.div_add_mod e n]
 rw [Nat.pow_add, Nat.pow_mul, Nat.mul_mod, Nat.pow_mod (a ^ n), h, Nat.one_pow, hp, Nat.one_mul, Nat.mod_mod]
theorem zjj {gr : Group} {x : Int} (h : zak gr x = true) : 1 ≤ x ∧ x ≤ gr.P - 1 ∧ x.toNat ^ gr.Q.toNat % gr.P.toNat = 1 := by
 unfold zak at h
 simp only [Bool.and_eq_true, decide_eq_true_eq] at h
 exact ⟨h.1.1, h.1.2, h.2⟩
theorem zlA {gr : Group} (k : OkG gr) {x : Int} (h : zak gr x = true) {s l : Int} (hs : 0 ≤ s) (hl : 0 ≤ l) : zai gr (zai gr x s) l = zai gr x (s * l) := by
 obtain ⟨_, _, h3⟩ := zjj h
 have hq := k.q
 obtain ⟨a, rfl⟩ := Int.eq_ofNat_of_zero_le hs
 obtain ⟨b, rfl⟩ := Int.eq_ofNat_of_zero_le hl
 obtain ⟨n, hn⟩ := Int.eq_ofNat_of_zero_le (show 0 ≤ gr.Q by omega)
 unfold zai
 rw [hn] at h3 ⊢
 rw [Int.toNat_natCast] at h3
 have e : ∀ c : Nat, ((c : Int) % (n : Int)).toNat = c % n := fun c => by rw [← Int.natCast_emod, Int.toNat_natCast]
 rw [ze5, e, e, e, Int.toNat_natCast, zhb h3, zhb h3, ← Nat.pow_mod, ← Nat.pow_mul]
 congr 1
 rw [Nat.pow_mul, Nat.pow_mod, zhb (n := n) (e := b)]
 ·rw [← Nat.pow_mod, ← Nat.pow_mul]
 rw [← Nat.pow_mod, ← Nat.pow_mul, Nat.mul_comm, Nat.pow_mul, Nat.pow_mod, h3, Nat.one_pow, ← h3, Nat.mod_mod]
theorem zx1 {gr : Group} (k : OkG gr) {x : Int} (h0 : 0 ≤ x) (h1 : x ≤ 2000000000) : zfW gr x = some (zai gr x (-1)) := by
 have hq := k.q
 have hp := k.p
 have e : (-1 : Int) % gr.Q = gr.Q - 1 := by
  have := Int.add_mul_emod_self_left (-1) gr.Q 1
  rw [← this, Int.mul_one]
  rw [Int.emod_eq_of_lt (by omega) (by omega)]; omega
 unfold zfW
 rw [zap (by omega) (by omega), (zf1 h0 h1 (by omega) hp.2 (by omega) (by omega)).2]
 unfold zai
 rw [e]; rfl
theorem zyk {q : Int} (hq : 0 < q) (pts : List Int) (x : Int) (k : Nat) : 0 ≤ zej q pts x k ∧ zej q pts x k < q := zeQ hq _
structure Bt (code : List Int) : Prop where
 b : ∀ x ∈ code, 0 ≤ x ∧ x ≤ 255
 l : code.length ≤ 1048576
structure Cu (code : List Int) (n : Int) (c : List Int × Int × Int) : Prop where
 e : c.1 = code
 lo : 0 ≤ c.2.1
 hi : c.2.1 ≤ n
theorem Cu.mono {code : List Int} {n m : Int} {c : List Int × Int × Int} (h : Cu code n c) (hn : n ≤ m) : Cu code m c := ⟨h.e, h.lo, Int.le_trans h.hi hn⟩
theorem zyb (x : BitVec IntKind.u64.bits) : 0 ≤ IntKind.i64.wrap (IntKind.u64.wrap ((x &&& BitVec.ofInt IntKind.u64.bits 255).toNat : Int)) ∧ IntKind.i64.wrap (IntKind.u64.wrap ((x &&& BitVec.ofInt IntKind.u64.bits 255).toNat : Int)) ≤ 255 := by
 have hy : (x &&& BitVec.ofInt IntKind.u64.bits 255).toNat ≤ 255 := by
  rw [BitVec.toNat_and]
  exact Nat.le_trans Nat.and_le_right (by decide)
 generalize (x &&& BitVec.ofInt IntKind.u64.bits 255).toNat = y at hy ⊢
 rw [wrU (by omega) (by omega), zap (by omega) (by omega)]
 omega
theorem ztR {code c0 : List Int} {at_ seed n : Int} (hb : Bt code) (h : Cu code n (c0, at_, seed)) (hn : n ≤ 9000000000000000) : Rn (zbW c0 at_ seed) (fun z => 0 ≤ z.1 ∧ z.1 ≤ 255 ∧ Cu code (n + 1) z.2) := by
 obtain ⟨h1, h2, h3⟩ := h
 have h1 : c0 = code := h1
 have h2 : 0 ≤ at_ := h2
 have h3 : at_ ≤ n := h3
 subst h1
 have hw : IntKind.i64.wrap (at_ + 1) = at_ + 1 := zap (by omega) (by omega)
 unfold zbW
 refine zac (ψ := fun v => 0 ≤ v ∧ v ≤ 255) ?_ fun v hv => ?_
 ·refine zam (fun g => ?_) fun g => zab (by omega)
  obtain ⟨k, rfl⟩ := Int.eq_ofNat_of_zero_le h2
  have hk : k < c0.length := by simp at g; omega
  have := hb.b _ (List.getElem_mem hk)
  exact zaD hk (zab (by rw [zap (by omega) (by omega)]; exact this))
 simp only [hw]
 refine zam (fun g => zab ⟨hv.1, hv.2, rfl, by show 0 ≤ at_ + 1; omega, by show at_ + 1 ≤ n + 1; omega⟩) fun g => zab ?_
 exact ⟨(zyb _).1, (zyb _).2, rfl, by show 0 ≤ at_ + 1; omega, by show at_ + 1 ≤ n + 1; omega⟩
theorem zer {code c0 : List Int} {at_ seed n m : Int} (hb : Bt code) (h : Cu code n (c0, at_, seed)) (hn : n ≤ 8000000000000000) : Rn (zah c0 at_ seed m) (fun z => 0 ≤ z.1 ∧ (m ≤ 1 → z.1 = 0) ∧ (1 < m → z.1 < m) ∧ z.1 ≤ 65535 ∧ Cu code (n + 2) z.2) := by
 unfold zah
 refine zam (fun g => zab ⟨Int.le_refl 0, fun _ => rfl, fun h => by simp at g; omega, by show (0 : Int) ≤ _; omega, h.mono (by omega)⟩) fun g => ?_
 have g : 1 < m := by simpa using g
 refine zac (ztR hb h (by omega)) fun z ⟨z1, z2, z3⟩ => ?_
 refine zac (ψ := fun x => 0 ≤ x.2 ∧ x.2 ≤ 65535 ∧ Cu code (n + 2) x.1) ?_ fun x ⟨x1, x2, x3⟩ => ?_
 ·refine zam (fun _ => zac (ztR hb z3 (by omega)) fun y ⟨y1, y2, y3⟩ => zab ?_) fun _ => zab ⟨z1, by show z.1 ≤ _; omega, z3.mono (by omega)⟩
  rw [zap (n := z.1 * 256) (by omega) (by omega), zap (by omega) (by omega)]
  exact ⟨by show 0 ≤ z.1 * 256 + y.1; omega, by show z.1 * 256 + y.1 ≤ _; omega, y3.mono (by omega)⟩
 refine zaq (by omega) (zab ?_)
 rw [Int.tmod_eq_emod_of_nonneg x1]
 have b1 := Int.emod_nonneg x.2 (show m ≠ 0 by omega)
 have b2 := Int.emod_lt_of_pos x.2 (show 0 < m by omega)
 have b3 : x.2 % m ≤ x.2 := by
  rcases Int.lt_or_le x.2 m with h | h
  ·rw [Int.emod_eq_of_lt x1 h]; exact Int.le_refl _
  ·omega
 exact ⟨b1, fun h => by omega, fun _ => b2, by show x.2 % m ≤ _; omega, x3⟩
theorem ziy {code c0 : List Int} {at_ seed n m : Int} (hb : Bt code) (h : Cu code n (c0, at_, seed)) (hn : n ≤ 8000000000000000) : Rn (zaM c0 at_ seed m) (fun z => Cu code (n + 2) z.2) := by
 unfold zaM
 exact zac (zer hb h hn) fun z hz => zab hz.2.2.2.2
theorem zeF {code c0 : List Int} {at_ seed n : Int} {l : List Int} (hb : Bt code) (h : Cu code n (c0, at_, seed)) (hn : n ≤ 8000000000000000) (hl : l ≠ []) : Rn (zan c0 at_ seed l) (fun z => z.1 ∈ l ∧ Cu code (n + 2) z.2) := by
 unfold zan
 refine zac (zer hb h hn) fun z ⟨z1, z2, z3, z4, z5⟩ => ?_
 have h0 : 0 < l.length := List.length_pos_iff.2 hl
 obtain ⟨k, hk⟩ := Int.eq_ofNat_of_zero_le z1
 have hlt : k < l.length := by
  rcases Nat.lt_or_ge 1 l.length with h | h
  ·have := z3 (by omega); omega
  ·have := z2 (by omega); omega
 rw [hk]
 exact zaD hlt (zab ⟨List.getElem_mem hlt, z5⟩)
theorem zyx {n d : Nat} (h : Pr n) (hd : d % n ≠ 0) : Nat.gcd n d = 1 := by
 obtain ⟨k, hk⟩ := Nat.gcd_dvd_left n d
 have hn := h.1
 have h0 : 0 < Nat.gcd n d := Nat.gcd_pos_of_pos_left d (by omega)
 have hdv := Nat.gcd_dvd_right n d
 generalize Nat.gcd n d = g at hk h0 hdv
 apply Classical.byContradiction
 intro hg
 have hg2 : 2 ≤ g := by omega
 have hk2 : 2 ≤ k := by
  rcases Nat.lt_or_ge k 2 with h | h
  ·have : k = 0 ∨ k = 1 := by omega
   rcases this with rfl | rfl
   ·omega
   ·rw [Nat.mul_one] at hk
    rw [← hk] at hdv
    exact absurd (Nat.mod_eq_zero_of_dvd hdv) hd
  ·exact h
 rcases Nat.le_total g k with h' | h'
 ·exact h.2 g hg2 (by rw [hk]; exact Nat.mul_le_mul_left g h') (by rw [hk]; exact Nat.mul_mod_right g k)
 exact h.2 k hk2 (by rw [hk]; exact Nat.mul_le_mul_right k h') (by rw [hk]; exact Nat.mul_mod_left g k)
theorem zsJ {n : Nat} (h : Pr n) {a b : Int} (hab : (a * b) % (n : Int) = 0) : a % (n : Int) = 0 ∨ b % (n : Int) = 0 := by
 have h1 : n ∣ a.natAbs * b.natAbs := by
  rw [← Int.natAbs_mul]
  exact Int.ofNat_dvd_left.1 (Int.dvd_of_emod_eq_zero hab)
 by_cases ha : a.natAbs % n = 0
 ·exact .inl (Int.emod_eq_zero_of_dvd (Int.ofNat_dvd_left.2 (Nat.dvd_of_mod_eq_zero ha)))
 exact .inr (Int.emod_eq_zero_of_dvd (Int.ofNat_dvd_left.2 (Nat.Coprime.dvd_of_dvd_mul_left (zyx h ha) h1)))
def evP (f : List Int) (x : Int) : Int := f.foldr (fun c a => a * x + c) 0
theorem zoE (c : Int) (f : List Int) (x : Int) : evP (c :: f) x = evP f x * x + c := rfl
def dvP (r : Int) : List Int → List Int
 | [] => []
 | [_] => []
 | _ :: c :: f => evP (c :: f) r :: dvP r (c :: f)
theorem zqS (r : Int) : ∀ f : List Int, (dvP r f).length = f.length - 1
 | [] => rfl
 | [_] => rfl
 | _ :: c :: f => by
  show (dvP r (c :: f)).length + 1 = _
  rw [zqS r (c :: f)]; simp
theorem zt5 (r x : Int) : ∀ f : List Int, evP f x = evP (dvP r f) x * (x - r) + evP f r
 | [] => by simp [dvP, evP]
 | [c] => by simp [dvP, evP]
 | d :: c :: f => by
  have ih := zt5 r x (c :: f)
  show evP (c :: f) x * x + d = (evP (dvP r (c :: f)) x * x + evP (c :: f) r) * (x - r) + (evP (c :: f) r * r + d)
  rw [ih]
  grind
theorem zpe (r : Int) : ∀ f : List Int, 2 ≤ f.length → (dvP r f).getLastD 0 = f.getLastD 0
 | [], h => absurd h (by simp)
 | [_], h => absurd h (by simp)
 | [d, c], _ => by simp [dvP, evP]
 | e :: d :: c :: f, _ => by
  have ih := zpe r (d :: c :: f) (by simp)
  show (evP (d :: c :: f) r :: evP (c :: f) r :: dvP r (c :: f)).getLastD 0 = _
  have : dvP r (d :: c :: f) = evP (c :: f) r :: dvP r (c :: f) := rfl
  rw [this] at ih
  simpa [List.getLastD] using ih
theorem ztB {p : Nat} (hp : Pr p) : ∀ (n : Nat) (f : List Int), f.length = n + 1 → f.getLastD 0 % (p : Int) ≠ 0 → ∀ rs : List Int, rs.Pairwise (fun a b => (b - a) % (p : Int) ≠ 0) → (∀ r ∈ rs, evP f r % (p : Int) = 0) → rs.length ≤ n
 | 0, f, hl, hf, rs, hd, hr => by
  match f, hl with
  | [c], _ =>
   cases rs with
   | nil => simp
   | cons r rs =>
    have := hr r (List.mem_cons_self ..)
    simp [evP] at this
    exact absurd (by first | exact this | exact Int.emod_eq_zero_of_dvd this) (by simpa [List.getLastD] using hf)
 | n + 1, f, hl, hf, rs, hd, hr => by
  cases rs with
  | nil => simp
  | cons r rs =>
   have h1 := List.pairwise_cons.1 hd
   have := ztB hp n (dvP r f) (by rw [zqS]; omega) (by rw [zpe r f (by omega)]; exact hf) rs h1.2 fun s hs => by
    have e := zt5 r s f
    have hs0 := hr s (List.mem_cons_of_mem _ hs)
    have hr0 := hr r (List.mem_cons_self ..)
    have hm : (evP (dvP r f) s * (s - r)) % (p : Int) = 0 := by
     rw [show evP (dvP r f) s * (s - r) = evP f s - evP f r by omega, Int.sub_emod, hs0, hr0]; simp
    rcases zsJ hp hm with h | h
    ·exact h
    ·exact absurd h (h1.1 s hs)
   simpa using this
theorem zuT (k : Nat) (x : Int) : evP (List.replicate k 0 ++ [1]) x = x ^ k := by
 induction k with
 | zero => simp [evP]
 | succ k ih => rw [List.replicate_succ, List.cons_append, zoE, ih, Int.pow_succ]; omega
theorem zqE {p n : Nat} (hp : Pr p) (hn : 1 ≤ n) (rs : List Int) (hd : rs.Pairwise (fun a b => (b - a) % (p : Int) ≠ 0)) (hr : ∀ r ∈ rs, r ^ n % (p : Int) = 1) : rs.length ≤ n := by
 have h2 := hp.1
 have hone : (1 : Int) % (p : Int) = 1 := Int.emod_eq_of_lt (by omega) (by omega)
 obtain ⟨k, rfl⟩ : ∃ k, n = k + 1 := ⟨n - 1, by omega⟩
 refine ztB hp (k + 1) (-1 :: (List.replicate k 0 ++ [1])) (by simp) ?_ rs hd fun r hr' => ?_
 ·have : (-1 :: (List.replicate k (0 : Int) ++ [1])).getLastD 0 = 1 := by
   rw [← List.cons_append, List.getLastD_concat]
  rw [this, hone]; omega
 rw [zoE, zuT, ← Int.pow_succ, Int.add_emod, hr r hr']
 have : ((-1 : Int) % (p : Int)) = p - 1 := by
  have := Int.add_mul_emod_self_left (-1) (p : Int) 1
  rw [← this, Int.mul_one, Int.emod_eq_of_lt (by omega) (by omega)]; omega
 rw [this, show 1 + ((p : Int) - 1) = p by omega, Int.emod_self]
theorem zt0 {p n : Nat} (hp : Pr p) (hn : 1 ≤ n) (hnp : n < p - 1) : ∃ h : Nat, 2 ≤ h ∧ h < p ∧ h ^ n % p ≠ 1 := by
 apply Classical.byContradiction
 intro hc
 have h2 := hp.1
 have h1 : ∀ h : Nat, 1 ≤ h → h < p → h ^ n % p = 1 := fun h a b => by
  rcases Nat.lt_or_ge h 2 with c | c
  ·have : h = 1 := by omega
   subst this
   rw [Nat.one_pow, Nat.mod_eq_of_lt (by omega)]
  ·exact Classical.byContradiction fun d => hc ⟨h, c, b, d⟩
 have := zqE hp hn ((List.range (p - 1)).map fun k => ((k + 1 : Nat) : Int)) ?_ ?_
 ·simp at this; omega
 ·rw [List.pairwise_map]
  refine List.Pairwise.imp_of_mem ?_ List.pairwise_lt_range
  intro a b ha hb hab
  have hb := List.mem_range.1 hb
  rw [show ((b + 1 : Nat) : Int) - ((a + 1 : Nat) : Int) = ((b - a : Nat) : Int) by omega, ← Int.natCast_emod, Nat.mod_eq_of_lt (by omega)]
  omega
 intro r hr
 obtain ⟨k, hk, rfl⟩ := List.mem_map.1 hr
 have hk := List.mem_range.1 hk
 rw [← Int.natCast_pow, ← Int.natCast_emod, h1 (k + 1) (by omega) (by omega)]; rfl
structure Gs (gr : Group) : Prop where
 p : 0 ≤ gr.P ∧ gr.P ≤ 2000000000
 q : 0 ≤ gr.Q ∧ gr.Q ≤ 1000000000
 g : 0 ≤ gr.G ∧ gr.G ≤ 2000000000
theorem zyR {q k : Nat} (hq : 2 ≤ q) : ((1 + (k : Int) * (q : Int)) - 1).tdiv (q : Int) = (k : Int) := by
 rw [show (1 + (k : Int) * (q : Int)) - 1 = (k : Int) * (q : Int) by omega, Int.mul_tdiv_cancel _ (by omega)]
theorem zi6 {q : Nat} (hq2 : q ≤ 1000000) : Rn (zcN (q : Int)) (fun z => Gs z.1 ∧ (z.2 = true → z.1.Q = q ∧ 3 ≤ z.1.P) ∧ (∀ k : Nat, 1 ≤ k → Pr (1 + k * q) → 1 + k * q ≤ 2000000000 → Pr q → z.2 = true)) := by
 unfold zcN
 refine zac (ψ := fun b => b = !(decide (2 ≤ q) && prB (q : Int))) ?_ ?_
 ·refine zaf (zfG _ _ _) ?_
  by_cases h : 2 ≤ q
  ·refine zbu (by simp; omega) (zaf (zjM _ (by omega)) (zab ?_))
   simp [h]
  refine zeR (by simp; omega) (zab ?_)
  simp [h]
 rintro _ rfl
 cases hc : (decide (2 ≤ q) && prB (q : Int))
 ·refine zeR rfl (zab ⟨⟨⟨by decide, by decide⟩, ⟨by decide, by decide⟩, by decide, by decide⟩, fun h => (by cases h), fun k h1 h2 h3 h4 => ?_⟩)
  rw [zfr.2 h4] at hc
  have := h4.1
  simp at hc; omega
 have hq : 2 ≤ q := by simp at hc; exact hc.1
 have hpq : Pr q := by simp at hc; exact zfr.1 hc.2
 refine zbu rfl ?_
 refine zac (ψ := fun b => (b = .inl () ∧ ∀ k : Nat, 1 ≤ k → Pr (1 + k * q) → ¬ 1 + k * q ≤ 2000000000) ∨ ∃ z : Group × Bool, b = .inr z ∧ Gs z.1 ∧ z.2 = true ∧ z.1.Q = q ∧ 3 ≤ z.1.P) ?_ ?_
 ·rw [zap (by omega) (by omega)]
  refine zeC (fun s => ∃ k : Nat, 1 ≤ k ∧ s = 1 + (k : Int) * (q : Int) ∧ s ≤ 2001000001 ∧ ∀ j : Nat, 1 ≤ j → j < k → ¬ Pr (1 + j * q)) (fun s => (2001000001 - s).toNat) ⟨1, by omega, by omega, by omega, fun j h1 h2 => by omega⟩ ?_
  rintro s ⟨k, hk, rfl, hs, hn⟩
  have hkq : k * 2 ≤ k * q := Nat.mul_le_mul_left k hq
  have hkc : (k : Int) * (q : Int) = ((k * q : Nat) : Int) := ze5 k q
  refine zam (fun g => ?_) fun g => ?_
  ·have g : 1 + (k : Int) * (q : Int) ≤ 2000000000 := by simpa using g
   refine zaf (zjM _ (by omega)) ?_
   have hcast : 1 + (k : Int) * (q : Int) = ((1 + k * q : Nat) : Int) := by omega
   cases hp : prB (1 + (k : Int) * (q : Int))
   ·refine zeR rfl (zab ?_)
    have e : IntKind.i64.wrap (1 + (k : Int) * (q : Int) + (q : Int)) = 1 + ((k + 1 : Nat) : Int) * (q : Int) := by
     rw [zap (by omega) (by omega)]; grind
    refine ⟨⟨k + 1, by omega, e, by rw [zap (by omega) (by omega)]; omega, fun j h1 h2 => ?_⟩, ?_⟩
    ·rcases Nat.lt_or_ge j k with h | h
     ·exact hn j h1 h
     have : j = k := by omega
     subst this
     intro hpr
     rw [hcast, zfr.2 hpr] at hp
     cases hp
    rw [zap (by omega) (by omega)]; omega
   refine zbu rfl ?_
   have hpr : Pr (1 + k * q) := by rw [hcast] at hp; exact zfr.1 hp
   obtain ⟨h0, a1, a2, a3⟩ := zt0 hpr hk (by omega)
   have hdv : IntKind.i64.wrap ((IntKind.i64.wrap (1 + (k : Int) * (q : Int) - 1)).tdiv (q : Int)) = (k : Int) := by
    rw [zap (n := 1 + (k : Int) * (q : Int) - 1) (by omega) (by omega), zyR hq, zap (by omega) (by omega)]
   simp only [hdv]
   simp only [hcast]
   refine zac (ψ := fun h => 2 ≤ h ∧ h ≤ (h0 : Int)) (zeC (fun s => 2 ≤ s ∧ s ≤ (h0 : Int)) (fun s => (h0 - s).toNat) (by omega) ?_) ?_
   ·rintro s ⟨s1, s2⟩
    have hpw := (zf1 (a := s) (e := (k : Int)) (m := ((1 + k * q : Nat) : Int)) (by omega) (by omega) (by omega) (by omega) (by omega) (by omega)).2
    refine zaq (by omega) (zaf hpw ?_)
    refine zam (fun g => zab ?_) fun g => zab ⟨s1, s2⟩
    rw [zap (by omega) (by omega)]
    have hne : s ≠ (h0 : Int) := fun e => by
     subst e
     apply a3
     have g : ((((h0 : Int).toNat ^ (k : Int).toNat % ((1 + k * q : Nat) : Int).toNat : Nat)) : Int) = 1 := by simpa only [beq_iff_eq] using g
     rw [Int.toNat_natCast, Int.toNat_natCast, Int.toNat_natCast] at g
     omega
    refine ⟨⟨by omega, by omega⟩, ?_⟩
    omega
   rintro h ⟨s1, s2⟩
   have hpw := (zf1 (a := h) (e := (k : Int)) (m := ((1 + k * q : Nat) : Int)) (by omega) (by omega) (by omega) (by omega) (by omega) (by omega)).2
   refine zaq (by omega) (zaf hpw (zab ?_))
   have hlt : h.toNat ^ (k : Int).toNat % ((1 + k * q : Nat) : Int).toNat < 1 + k * q := by
    rw [Int.toNat_natCast (1 + k * q)]
    exact Nat.mod_lt _ (by omega)
   refine .inr ⟨_, rfl, ⟨⟨by show (0 : Int) ≤ ((1 + k * q : Nat) : Int); omega, by show ((1 + k * q : Nat) : Int) ≤ _; omega⟩, ⟨by show (0 : Int) ≤ (q : Int); omega, by show (q : Int) ≤ _; omega⟩, ?_, ?_⟩, rfl, rfl, by show (3 : Int) ≤ ((1 + k * q : Nat) : Int); omega⟩
   ·show (0 : Int) ≤ ((_ : Nat) : Int); omega
   show ((_ : Nat) : Int) ≤ 2000000000; omega
  refine zab (.inl ⟨rfl, fun j h1 h2 h3 => ?_⟩)
  have g : ¬ 1 + (k : Int) * (q : Int) ≤ 2000000000 := by simpa using g
  rcases Nat.lt_or_ge j k with h | h
  ·exact hn j h1 h h2
  have : k * q ≤ j * q := Nat.mul_le_mul_right q h
  omega
 rintro b (⟨rfl, h⟩ | ⟨z, rfl, h1, h2, h3, h4⟩)
 ·exact zab ⟨⟨⟨by decide, by decide⟩, ⟨by decide, by decide⟩, by decide, by decide⟩, fun h => (by cases h), fun k h1 h2 h3 h4 => absurd h3 (h k h1 h2)⟩
 exact zab ⟨h1, fun _ => ⟨h3, h4⟩, fun _ _ _ _ _ => h2⟩
theorem zfR {n : Nat} (hn : n < 64) (h2 : 2 ≤ n) (h : ∀ d, d < 8 → 2 ≤ d → d * d ≤ n → n % d ≠ 0) : Pr n := by
 refine ⟨h2, fun d h1 h3 => ?_⟩
 rcases Nat.lt_or_ge d 8 with h8 | h8
 ·exact h d h8 h1 h3
 have : 8 * 8 ≤ d * d := Nat.mul_le_mul h8 h8
 omega
structure Gw (gr : Group) : Prop where
 p : -10 ≤ gr.P ∧ gr.P ≤ 2100000000
 q : -10 ≤ gr.Q ∧ gr.Q ≤ 2100000000
 g : -10 ≤ gr.G ∧ gr.G ≤ 2100000000
theorem Gs.w {gr : Group} (h : Gs gr) : Gw gr := ⟨by have := h.p; omega, by have := h.q; omega, by have := h.g; omega⟩
theorem zyS {x : Int} (hx : x ∈ [(3 : Int), 5, 5, 7, 11, 11, 13, 23]) : ∃ q k : Nat, x = (q : Int) ∧ 3 ≤ q ∧ q ≤ 23 ∧ 1 ≤ k ∧ Pr (1 + k * q) ∧ 1 + k * q ≤ 2000000000 ∧ Pr q := by
 simp only [List.mem_cons, List.not_mem_nil, or_false] at hx
 rcases hx with rfl | rfl | rfl | rfl | rfl | rfl | rfl | rfl
 ·exact ⟨3, 2, rfl, by decide, by decide, by decide, zfR (by decide) (by decide) (by decide), by decide, zfR (by decide) (by decide) (by decide)⟩
 ·exact ⟨5, 2, rfl, by decide, by decide, by decide, zfR (by decide) (by decide) (by decide), by decide, zfR (by decide) (by decide) (by decide)⟩
 ·exact ⟨5, 2, rfl, by decide, by decide, by decide, zfR (by decide) (by decide) (by decide), by decide, zfR (by decide) (by decide) (by decide)⟩
 ·exact ⟨7, 4, rfl, by decide, by decide, by decide, zfR (by decide) (by decide) (by decide), by decide, zfR (by decide) (by decide) (by decide)⟩
 ·exact ⟨11, 2, rfl, by decide, by decide, by decide, zfR (by decide) (by decide) (by decide), by decide, zfR (by decide) (by decide) (by decide)⟩
 ·exact ⟨11, 2, rfl, by decide, by decide, by decide, zfR (by decide) (by decide) (by decide), by decide, zfR (by decide) (by decide) (by decide)⟩
 ·exact ⟨13, 4, rfl, by decide, by decide, by decide, zfR (by decide) (by decide) (by decide), by decide, zfR (by decide) (by decide) (by decide)⟩
 exact ⟨23, 2, rfl, by decide, by decide, by decide, zfR (by decide) (by decide) (by decide), by decide, zfR (by decide) (by decide) (by decide)⟩
theorem zxn {code c0 : List Int} {at_ seed n : Int} (hb : Bt code) (h : Cu code n (c0, at_, seed)) (hn : n ≤ 7000000000000000) : Rn (zcG c0 at_ seed) (fun z => Gs z.1 ∧ 3 ≤ z.1.Q ∧ z.1.Q ≤ 23 ∧ 3 ≤ z.1.P ∧ Cu code (n + 2) z.2) := by
 unfold zcG
 refine zac (zeF hb h (by omega) (by simp)) fun z ⟨z1, z2⟩ => ?_
 obtain ⟨q, k, e, q1, q2, k1, k2, k3, k4⟩ := zyS z1
 rw [e]
 refine zac (zi6 (by omega)) fun y ⟨y1, y2, y3⟩ => zab ?_
 have y4 := y2 (y3 k k1 k2 k3 k4)
 exact ⟨y1, by show 3 ≤ y.1.Q; omega, by show y.1.Q ≤ 23; omega, y4.2, z2⟩
theorem zwx {gr : Group} (h : Gs gr) (hq : 1 ≤ gr.Q) (hp : 1 ≤ gr.P) {x : Int} (hx : 0 ≤ x ∧ x ≤ 2000000000) (e : Int) : Rn (zaP gr x e) (fun v => 0 ≤ v ∧ v ≤ 2000000000) := by
 have h1 := h.p
 have h2 := h.q
 have b1 : 0 ≤ e % gr.Q := Int.emod_nonneg _ (by omega)
 have b2 : e % gr.Q < gr.Q := Int.emod_lt_of_pos _ (by omega)
 have hw := (zf1 (a := x) (e := e % gr.Q) (m := gr.P) (by omega) (by omega) (by omega) (by omega) b1 (by omega)).2
 unfold zaP
 refine zaf (zhx (by omega) (by omega)) (zaf hw (zab ?_))
 have hlt : x.toNat ^ (e % gr.Q).toNat % gr.P.toNat < gr.P.toNat := Nat.mod_lt _ (by omega)
 omega
theorem zzu {x : Int} (hx : x ∈ [(101 : Int), 1009, 1019, 65537, 999983]) : ∃ q : Nat, x = (q : Int) ∧ q ≤ 1000000 := by
 simp only [List.mem_cons, List.not_mem_nil, or_false] at hx
 rcases hx with rfl | rfl | rfl | rfl | rfl
 ·exact ⟨101, rfl, by decide⟩
 ·exact ⟨1009, rfl, by decide⟩
 ·exact ⟨1019, rfl, by decide⟩
 ·exact ⟨65537, rfl, by decide⟩
 exact ⟨999983, rfl, by decide⟩
theorem zye : Gs (Group.mk 1000000007 500000003 4) := ⟨⟨by decide, by decide⟩, ⟨by decide, by decide⟩, by decide, by decide⟩
theorem cu0 (code : List Int) : Cu code 0 (code, 0, 0) := ⟨rfl, Int.le_refl 0, Int.le_refl 0⟩
theorem zvY {code c0 : List Int} {at_ seed n : Int} (hb : Bt code) (h : Cu code n (c0, at_, seed)) (hn : n ≤ 6000000000000000) : Rn (zcn c0 at_ seed) (fun z => Gs z.1 ∧ Cu code (n + 6) z.2) := by
 unfold zcn
 refine zac (zer hb h (by omega)) fun z ⟨z1, z2, z3, z4, z5⟩ => ?_
 refine zam (fun _ => zab ⟨zye, z5.mono (by omega)⟩) fun _ => zam (fun _ => ?_) fun _ => ?_
 ·refine zac (zeF hb z5 (by omega) (by simp)) fun y ⟨y1, y2⟩ => ?_
  obtain ⟨q, e, hq⟩ := zzu y1
  rw [e]
  exact zac (zi6 hq) fun x ⟨x1, _, _⟩ => zab ⟨x1, y2.mono (by omega)⟩
 refine zac (zxn hb z5 (by omega)) fun y ⟨y1, y2, y3, y4, y5⟩ => ?_
 refine zac (zer hb y5 (by omega)) fun x ⟨x1, x2, x3, x4, x5⟩ => ?_
 have hg := y1.g
 refine zac (zwx y1 (by omega) (by omega) hg _) fun v hv => zab ⟨⟨y1.p, y1.q, hv⟩, x5.mono (by omega)⟩
theorem zsD {code c0 : List Int} {at_ seed n : Int} (hb : Bt code) (h : Cu code n (c0, at_, seed)) (hn : n ≤ 5000000000000000) : Rn (zbQ c0 at_ seed) (fun z => Gw z.1 ∧ Cu code (n + 10) z.2) := by
 unfold zbQ
 refine zac (zvY hb h (by omega)) fun z ⟨z1, z2⟩ => ?_
 have g1 := z1.p
 have g2 := z1.q
 have g3 := z1.g
 refine zac (zer hb z2 (by omega)) fun y ⟨_, _, _, _, y5⟩ => ?_
 rw [zap (n := z.1.P + 2) (by omega) (by omega), zap (n := z.1.Q + 1) (by omega) (by omega), zap (n := z.1.P - 1) (by omega) (by omega), zap (n := z.1.G + 1) (by omega) (by omega)]
 refine zac (ψ := fun x => Gw (Group.mk x.2.1 x.2.2.1 x.2.2.2) ∧ Cu code (n + 10) x.1) ?_ fun x hx => zab hx
 refine zam (fun _ => ?_) fun _ => zam (fun _ => ?_) fun _ => zam (fun _ => ?_) fun _ => zab ⟨z1.w, y5.mono (by omega)⟩
 ·refine zac (zeF hb y5 (by omega) (by simp)) fun x ⟨x1, x2⟩ => zab ⟨?_, x2.mono (by omega)⟩
  simp only [List.mem_cons, List.not_mem_nil, or_false] at x1
  exact ⟨by show -10 ≤ x.1 ∧ x.1 ≤ _; omega, by show -10 ≤ z.1.Q ∧ z.1.Q ≤ _; omega, by show -10 ≤ z.1.G ∧ z.1.G ≤ _; omega⟩
 ·refine zac (zeF hb y5 (by omega) (by simp)) fun x ⟨x1, x2⟩ => zab ⟨?_, x2.mono (by omega)⟩
  simp only [List.mem_cons, List.not_mem_nil, or_false] at x1
  exact ⟨by show -10 ≤ z.1.P ∧ z.1.P ≤ _; omega, by show -10 ≤ x.1 ∧ x.1 ≤ _; omega, by show -10 ≤ z.1.G ∧ z.1.G ≤ _; omega⟩
 refine zac (zeF hb y5 (by omega) (by simp)) fun x ⟨x1, x2⟩ => zab ⟨?_, x2.mono (by omega)⟩
 simp only [List.mem_cons, List.not_mem_nil, or_false] at x1
 exact ⟨by show -10 ≤ z.1.P ∧ z.1.P ≤ _; omega, by show -10 ≤ z.1.Q ∧ z.1.Q ≤ _; omega, by show -10 ≤ x.1 ∧ x.1 ≤ _; omega⟩
theorem zvd {x : Int} (hx : x ∈ [(11 : Int), 11, 13, 23, 23, 101, 1019]) : ∃ q : Nat, x = (q : Int) ∧ q ≤ 1000000 := by
 simp only [List.mem_cons, List.not_mem_nil, or_false] at hx
 exact ⟨x.toNat, by omega, by omega⟩
theorem zpD {code c0 : List Int} {at_ seed n : Int} (hb : Bt code) (h : Cu code n (c0, at_, seed)) (hn : n ≤ 4000000000000000) : Rn (zbE c0 at_ seed) (fun z => Gw z.1 ∧ Cu code (n + 12) z.2) := by
 unfold zbE
 refine zac (ziy hb h (by omega)) fun z z1 => ?_
 refine zam (fun _ => ?_) fun _ => ?_
 ·exact zac (zsD hb z1 (by omega)) fun y ⟨y1, y2⟩ => zab ⟨y1, y2.mono (by omega)⟩
 refine zac (zeF hb z1 (by omega) (by simp)) fun y ⟨y1, y2⟩ => ?_
 obtain ⟨q, e, hq⟩ := zvd y1
 rw [e]
 exact zac (zi6 hq) fun x ⟨x1, _, _⟩ => zab ⟨x1.w, y2.mono (by omega)⟩
theorem zh8 {code c0 : List Int} {at_ seed n : Int} {gr : Group} (hb : Bt code) (h : Cu code n (c0, at_, seed)) (hn : n ≤ 7000000000000000) (hg : gr.Q ≤ 2100000000) : Rn (zaE c0 at_ seed gr) (fun z => 0 ≤ z.1 ∧ z.1 ≤ 2100000000 ∧ (2 ≤ gr.Q → z.1 < gr.Q) ∧ Cu code (n + 4) z.2) := by
 unfold zaE
 refine zam (fun g => zab ⟨Int.le_refl 0, by show (0 : Int) ≤ _; omega, fun h => by simp at g; omega, h.mono (by omega)⟩) fun g => ?_
 have g : 2 ≤ gr.Q := by simp at g; omega
 refine zac (zer hb h (by omega)) fun z ⟨z1, z2, z3, z4, z5⟩ => ?_
 refine zac (zer hb z5 (by omega)) fun y ⟨y1, y2, y3, y4, y5⟩ => zaq (by omega) (zab ?_)
 rw [zap (n := z.1 * 60000) (by omega) (by omega), zap (by omega) (by omega), Int.tmod_eq_emod_of_nonneg (by omega)]
 have b1 := Int.emod_nonneg (z.1 * 60000 + y.1) (show gr.Q ≠ 0 by omega)
 have b2 := Int.emod_lt_of_pos (z.1 * 60000 + y.1) (show 0 < gr.Q by omega)
 exact ⟨b1, by show _ % gr.Q ≤ _; omega, fun _ => b2, y5.mono (by omega)⟩
theorem znE {code c0 : List Int} {at_ seed n : Int} {gr : Group} (hb : Bt code) (h : Cu code n (c0, at_, seed)) (hn : n ≤ 6000000000000000) (hg : Gw gr) : Rn (zbA c0 at_ seed gr) (fun z => -100 ≤ z.1 ∧ z.1 ≤ 2100000000 ∧ Cu code (n + 6) z.2) := by
 have g2 := hg.q
 unfold zbA
 refine zac (ziy hb h (by omega)) fun z z1 => ?_
 rw [zap (by omega) (by omega)]
 refine zam (fun _ => ?_) fun _ => ?_
 ·refine zac (zeF hb z1 (by omega) (by simp)) fun y ⟨y1, y2⟩ => zab ?_
  simp only [List.mem_cons, List.not_mem_nil, or_false] at y1
  exact ⟨by show -100 ≤ y.1; omega, by show y.1 ≤ _; omega, y2.mono (by omega)⟩
 exact zac (zh8 hb z1 (by omega) (by omega)) fun y ⟨y1, y2, _, y3⟩ => zab ⟨by show -100 ≤ y.1; omega, y2, y3.mono (by omega)⟩
theorem zwS {code c0 : List Int} {at_ seed n : Int} {gr : Group} {k : Nat} (hb : Bt code) (h : Cu code n (c0, at_, seed)) (hn : n ≤ 5000000000000000) (hg : Gw gr) (hk : k ≤ 1000000) : Rn (zco c0 at_ seed gr (k : Int)) (fun z => z.1.length = k ∧ (∀ x ∈ z.1, 0 ≤ x ∧ x ≤ 2100000000 ∧ (2 ≤ gr.Q → x < gr.Q)) ∧ Cu code (n + 4 * k) z.2) := by
 unfold zco
 refine zac (ψ := fun r => r.2.length = k ∧ (∀ x ∈ r.2, 0 ≤ x ∧ x ≤ 2100000000 ∧ (2 ≤ gr.Q → x < gr.Q)) ∧ Cu code (n + 4 * k) r.1) (zfv k (fun j s => s.2.1 = (k : Int) - j ∧ s.2.2.length = j ∧ (∀ x ∈ s.2.2, 0 ≤ x ∧ x ≤ 2100000000 ∧ (2 ≤ gr.Q → x < gr.Q)) ∧ Cu code (n + 4 * j) s.1) ⟨by show (k : Int) = _; omega, rfl, by simp, h.mono (by omega)⟩ ?_ ?_) fun r hr => zab hr
 ·rintro j s hj ⟨h1, h2, h3, h4⟩
  refine zeR (by rw [h1]; simp; omega) (zac (zh8 hb h4 (by omega) hg.q.2) fun z ⟨z1, z2, z3, z4⟩ => zaq (by omega) (zab ⟨?_, by simp [h2], fun x hx => ?_, z4.mono (by omega)⟩))
  ·show IntKind.i64.wrap (s.2.1 - 1) = _
   rw [h1, zap (by omega) (by omega)]; omega
  rcases List.mem_append.1 hx with h | h
  ·exact h3 x h
  rw [List.mem_singleton.1 h]; exact ⟨z1, z2, z3⟩
 rintro s ⟨h1, h2, h3, h4⟩
 exact zbu (by rw [h1]; simp) (zab ⟨h2, h3, h4⟩)
def zhC (m : Nat) : List Int := (List.range m).map fun i => ((i : Nat) : Int) + 1
theorem zsL (m : Nat) : zhC (m + 1) = zhC m ++ [(m : Int) + 1] := by simp [zhC, List.range_succ]
theorem zq9 {a q : Int} (h0 : 0 < q) (h1 : q ≤ 4000000000000000000) : zbL a q = some (a % q) := by
 unfold zbL
 rw [zdU (by omega), zdU (by omega)]
 have b1 : a.tmod q < q := Int.tmod_lt_of_pos a h0
 have b2 : -q < a.tmod q := by
  have := Int.lt_tmod_of_pos a h0
  omega
 rw [zap (by omega) (by omega), Int.tmod_eq_emod_of_nonneg (by omega)]
 congr 1
 rw [Int.add_emod_right]
 rw [Int.tmod_def, Int.sub_emod, Int.mul_emod_right, Int.sub_zero, Int.emod_emod]
theorem zqL (a : Int) {m : Int} (h : 0 < m) : -m < a.tmod m ∧ a.tmod m < m := by
 have h1 := Int.tmod_lt_of_pos a h
 have h2 := Int.lt_tmod_of_pos a h
 omega
theorem ztW (a : Int) {e m : Int} (h1 : 1 ≤ m) (h2 : 0 ≤ e) (h3 : e ≤ 4000000000000000000) : Rn (zbt a e m) (fun v => -m < v ∧ v < m) := by
 unfold zbt
 refine zaq (by omega) (zac (ψ := fun v => -m < v ∧ v < m) (zeC (fun s => (-m < s.2.2 ∧ s.2.2 < m) ∧ 0 ≤ s.2.1 ∧ s.2.1 ≤ e) (fun s => s.2.1.toNat) ⟨zqL _ (by omega), h2, Int.le_refl _⟩ ?_) fun x hx => zab hx)
 rintro s ⟨hs, h4, h5⟩
 refine zam (fun g => ?_) fun _ => zab hs
 have g : 0 < s.2.1 := by simpa using g
 refine zac (ψ := fun v => -m < v ∧ v < m) (zam (fun _ => zaq (by omega) (zab (zqL _ (by omega)))) fun _ => zab hs) fun x hx => zaq (by omega) (zab ?_)
 have e1 : s.2.1.tdiv 2 = s.2.1 / 2 := Int.tdiv_eq_ediv_of_nonneg (by omega)
 have e2 : IntKind.i64.wrap (s.2.1.tdiv 2) = s.2.1 / 2 := by rw [e1, zap (by omega) (by omega)]
 exact ⟨⟨hx, by show 0 ≤ IntKind.i64.wrap _; rw [e2]; omega, by show IntKind.i64.wrap _ ≤ e; rw [e2]; omega⟩, by show (IntKind.i64.wrap _).toNat < _; rw [e2]; omega⟩
theorem zwr {gr : Group} (hq : 1 ≤ gr.Q ∧ gr.Q ≤ 4000000000000000000) (hp : 1 ≤ gr.P) (x e : Int) : Rn (zaP gr x e) (fun v => -gr.P < v ∧ v < gr.P) := by
 unfold zaP
 refine zaf (zq9 (by omega) hq.2) (zac (ztW x hp (Int.emod_nonneg _ (by omega)) ?_) fun v hv => zab hv)
 have := Int.emod_lt_of_pos e (show 0 < gr.Q by omega)
 omega
theorem zhs {code c0 : List Int} {at_ seed n : Int} {gr : Group} (hb : Bt code) (h : Cu code n (c0, at_, seed)) (hn : n ≤ 6000000000000000) (hg : Gw gr) : Rn (zat c0 at_ seed gr) (fun z => -2200000000 ≤ z.1 ∧ z.1 ≤ 2200000000 ∧ Cu code (n + 4) z.2) := by
 have g1 := hg.p
 have g2 := hg.q
 unfold zat
 refine zac (ψ := fun b => b = false → 3 ≤ gr.P ∧ 1 ≤ gr.Q) (zam (fun _ => zab fun h => by cases h) fun a => zab fun b => by simp at a b; omega) fun b hb' => zam (fun _ => zab ⟨by show -2200000000 ≤ (1 : Int); decide, by show (1 : Int) ≤ _; decide, h.mono (by omega)⟩) fun e => ?_
 obtain ⟨k1, k2⟩ := hb' e
 refine zaf (zq9 (by omega) (by omega)) (zac (zh8 hb h (by omega) (by omega)) fun z ⟨z1, z2, _, z3⟩ => zac (zwr ⟨k2, by omega⟩ (by omega) _ _) fun v hv => zab ⟨by show _ ≤ v; omega, by show v ≤ _; omega, z3⟩)
theorem zgK {code c0 : List Int} {at_ seed n : Int} {gr : Group} (hb : Bt code) (h : Cu code n (c0, at_, seed)) (hn : n ≤ 5000000000000000) (hg : Gw gr) : Rn (zaR c0 at_ seed gr) (fun z => -2200000000 ≤ z.1 ∧ z.1 ≤ 2200000000 ∧ Cu code (n + 6) z.2) := by
 have g1 := hg.p
 unfold zaR
 refine zac (ziy hb h (by omega)) fun z z1 => zam (fun _ => ?_) fun _ => zac (zhs hb z1 (by omega) hg) fun y ⟨y1, y2, y3⟩ => zab ⟨y1, y2, y3.mono (by omega)⟩
 rw [zap (n := gr.P - 1) (by omega) (by omega)]
 refine zac (zeF hb z1 (by omega) (by simp)) fun y ⟨y1, y2⟩ => zab ?_
 simp only [List.mem_cons, List.not_mem_nil, or_false] at y1
 exact ⟨by show -2200000000 ≤ y.1; omega, by show y.1 ≤ _; omega, y2.mono (by omega)⟩
theorem zrw {l : List Int} : zdF l l = some true := by
 unfold zdF
 refine zaA (zbu (by simp) (zac (ψ := fun v => v = .inl ()) (zay (fun _ _ => True) trivial ?_ fun s _ => rfl) ?_))
 ·rintro k s hk _
  exact zaD hk (zaD hk (zbu (by simp) (zab trivial)))
 rintro _ rfl
 exact zab rfl
def ziV (gr : Group) (c : Cipher) : Bool := zak gr c.A && zak gr c.B
def zrt (gr : Group) (s : Int) (c : Cipher) : Int := zdn gr [c.B, zai gr (zai gr c.A s) (-1)]
theorem zwh {gr : Group} (k : OkG gr) {c : Cipher} (h : ziV gr c = true) : 0 ≤ c.A ∧ c.A ≤ 2000000000 ∧ 0 ≤ c.B ∧ c.B ≤ 2000000000 := by
 simp only [ziV, Bool.and_eq_true] at h
 have h1 := zib h.1
 have h2 := zib h.2
 have hp := k.p
 omega
theorem zxs {gr : Group} (k : OkG gr) (s : Int) {c : Cipher} (h : ziV gr c = true) : zc0 gr s c = some (zrt gr s c) := by
 obtain ⟨b1, b2, b3, b4⟩ := zwh k h
 have hp := k.p
 have p1 := zcU k c.A s
 have p2 := zcU k (zai gr c.A s) (-1)
 have hl : ∀ x ∈ [c.B, zai gr (zai gr c.A s) (-1)], 0 ≤ x ∧ x ≤ 2000000000 := by
  intro x hx
  simp only [List.mem_cons, List.not_mem_nil, or_false] at hx
  rcases hx with rfl | rfl <;> omega
 unfold zc0 zcP
 rw [(zjO k b1 b2 s).1, Option.bind_some, (zjO k p1.1 (by omega) (-1)).1, Option.bind_some, Option.bind_some, zk1 k hl]
 rfl
theorem zvV {gr : Group} (k : OkG gr) {s : Int} (hs : zdN gr s = true) {c : Cipher} (h : ziV gr c = true) : zcV gr s c = some (zrt gr s c, true) := by
 have hq := k.q
 have hp := k.p
 have h2 : (zak gr c.A && zak gr c.B) = true := h
 unfold zcV
 simp only [zlw, zfN.2 k, znf (show 0 ≤ gr.Q by omega) (by omega), hs, zfY k, h2, Bool.not_true, Bool.false_eq_true, if_false, Option.bind_some, zxs k s h]
theorem zuW {code c0 : List Int} {at_ seed n : Int} {gr : Group} (hb : Bt code) (h : Cu code n (c0, at_, seed)) (hn : n ≤ 4000000000000000) (hg : Gw gr) : Rn (zbj c0 at_ seed gr) (fun z => Cu code (n + 8) z.2) := by
 unfold zbj
 exact zac (zhs hb h (by omega) hg) fun z ⟨_, _, z3⟩ => zac (zhs hb z3 (by omega) hg) fun y ⟨_, _, y3⟩ => zab (y3.mono (by omega))
theorem zlm {code c0 : List Int} {at_ seed n : Int} {gr : Group} (hb : Bt code) (h : Cu code n (c0, at_, seed)) (hn : n ≤ 4000000000000000) (hg : Gw gr) : Rn (zbn c0 at_ seed gr) (fun z => Cu code (n + 12) z.2) := by
 unfold zbn
 exact zac (zgK hb h (by omega) hg) fun z ⟨_, _, z3⟩ => zac (zgK hb z3 (by omega) hg) fun y ⟨_, _, y3⟩ => zab (y3.mono (by omega))
def byL (s : ByteArray) : List Int := s.data.toList.map fun b => (b.toNat : Int)
theorem zhk (s : ByteArray) : (byL s).length = s.size := by
 show (s.data.toList.map _).length = s.data.size
 rw [List.length_map, Array.length_toList]
theorem zt7 (s : ByteArray) : ∀ x ∈ byL s, 0 ≤ x ∧ x ≤ 255 := by
 intro x hx
 obtain ⟨b, _, rfl⟩ := List.mem_map.1 hx
 have := b.toNat_lt
 omega
theorem zxK {s : ByteArray} {k : Nat} (h : k < s.size) : ixs s (k : Int) = some ((byL s)[k]'(by rw [zhk]; exact h)) := by
 have h2 : k < s.data.size := h
 simp [ixs, byL, h]
 rfl
theorem zub (s : ByteArray) (l : List Int) (hs : s.size ≤ 1000000) (hl : l.length ≤ 1000000000000) : ze8 s l = some ((s.size : Int) :: byL s ++ l) := by
 unfold ze8
 refine zaA (zac (ψ := fun x => x = (s.size : Int) :: byL s) (zfv s.size (fun n p => n ≤ s.size ∧ p = ((s.size : Int) :: (byL s).take n, (n : Int))) ⟨by omega, by simp⟩ ?_ ?_) ?_)
 ·rintro n p hn ⟨_, rfl⟩
  have hn2 : n < (byL s).length := by rw [zhk]; exact hn
  have hb := zt7 s _ (List.getElem_mem hn2)
  refine zam (fun _ => ?_) fun h => absurd h (by simp; omega)
  refine zaf (zxK hn) (zaq ?_ (zab ⟨by omega, ?_⟩))
  ·simp only [List.length_cons, List.length_take, zhk]; omega
  show ((s.size : Int) :: (byL s).take n ++ [_], _) = _
  rw [zap (by omega) (by omega), zap (by omega) (by omega), List.cons_append, List.take_append_getElem hn2]
  rfl
 ·rintro p ⟨_, rfl⟩
  refine zam (fun h => absurd h (by simp)) fun _ => zab ?_
  show (s.size : Int) :: (byL s).take s.size = _
  rw [List.take_of_length_le (by rw [zhk]; omega)]
 rintro _ rfl
 refine zaq ?_ (zab rfl)
 simp only [List.length_cons, zhk]; omega
theorem zsA (s : ByteArray) (l : List Int) (hs : s.size ≤ 1000000) (hl : l.length ≤ 1000000000000) : zfo s l = some ((s.size : Int) :: byL s ++ l) := zub s l hs hl
def zb6 (x : Int) : Bool := decide (0 ≤ x) && decide (x ≤ 4611686018427387903)
theorem zef {x : Int} : zb6 x = true ↔ 0 ≤ x ∧ x ≤ 4611686018427387903 := by simp [zb6]
theorem zsa (x : Int) : zew x = some (zb6 x) := by
 unfold zew
 rw [zeX]; rfl
theorem zwL (s : ByteArray) : (byL s).all zb6 = true := by
 rw [List.all_eq_true]
 intro x hx
 have := zt7 s x hx
 exact zef.2 ⟨by omega, by omega⟩
def hs1 (c s k : Int) : Int := (c * s + k + 1) % 2147483647
def zii (p : Int × Int) (x : Int) : Int × Int := (hs1 48271 (hs1 48271 p.1 (x % 2147483648)) (x / 2147483648), hs1 69621 (hs1 69621 p.2 (x % 2147483648)) (x / 2147483648))
def zk0 (l : List Int) : Int := let p := (((l.length : Int) :: l).foldl zii (1, 2)); p.1 * 2147483648 + p.2
theorem zjk (c s k : Int) : 0 ≤ hs1 c s k ∧ hs1 c s k ≤ 2147483646 := by unfold hs1; omega
theorem zhr {c s k : Int} (hc : c = 48271 ∨ c = 69621) (hs : 0 ≤ s ∧ s ≤ 2147483646) (hk : 0 ≤ k ∧ k ≤ 2147483648) : (IntKind.i64.wrap ((IntKind.i64.wrap ((IntKind.i64.wrap (c * s)) + k)) + 1)).tmod 2147483647 = hs1 c s k := by
 rcases hc with rfl | rfl
 ·rw [zap (n := 48271 * s) (by omega) (by omega), zap (n := 48271 * s + k) (by omega) (by omega), zap (by omega) (by omega), Int.tmod_eq_emod_of_nonneg (by omega)]; rfl
 rw [zap (n := 69621 * s) (by omega) (by omega), zap (n := 69621 * s + k) (by omega) (by omega), zap (by omega) (by omega), Int.tmod_eq_emod_of_nonneg (by omega)]; rfl
def okP (p : Int × Int) : Prop := (0 ≤ p.1 ∧ p.1 ≤ 2147483646) ∧ (0 ≤ p.2 ∧ p.2 ≤ 2147483646)
theorem zv9 (p : Int × Int) (x : Int) : okP (zii p x) := ⟨zjk _ _ _, zjk _ _ _⟩
theorem zh1 : ∀ (l : List Int) (p : Int × Int), okP p → okP (l.foldl zii p)
 | [], _, h => h
 | x :: l, p, _ => zh1 l _ (zv9 p x)
theorem ztL (l : List Int) : zb6 (zk0 l) = true := by
 obtain ⟨h1, h2⟩ := zh1 ((l.length : Int) :: l) (1, 2) ⟨by decide, by decide⟩
 refine zef.2 ?_
 unfold zk0
 dsimp only
 omega
theorem zpA {p : Int × Int} {x : Int} (hp : okP p) (hx : zb6 x = true) : zbr p.1 p.2 x = some (zii p x) := by
 obtain ⟨h1, h2⟩ := hp
 have hx := zef.1 hx
 have e1 : x.tmod 2147483648 = x % 2147483648 := Int.tmod_eq_emod_of_nonneg hx.1
 have e2 : IntKind.i64.wrap (x.tdiv 2147483648) = x / 2147483648 := by
  rw [Int.tdiv_eq_ediv_of_nonneg hx.1, zap (by omega) (by omega)]
 have b1 : 0 ≤ x % 2147483648 ∧ x % 2147483648 ≤ 2147483648 := by omega
 have b2 : 0 ≤ x / 2147483648 ∧ x / 2147483648 ≤ 2147483648 := by omega
 have h0 : ix [x % 2147483648, x / 2147483648] 0 = some (x % 2147483648) := rfl
 have h1' : ix [x % 2147483648, x / 2147483648] 1 = some (x / 2147483648) := rfl
 unfold zbr
 rw [e1, e2, Option.bind_some, zg9]
 simp only [List.length_cons, List.length_nil, show decide ((0 : Int) < ((0 + 1 + 1 : Nat) : Int)) = true from rfl, if_true, h0, Option.bind_some, zhr (.inl rfl) h1 b1, zhr (.inr rfl) h2 b1]
 rw [zg9]
 simp only [show IntKind.i64.wrap (0 + 1) = 1 from rfl, show decide ((1 : Int) < ((0 + 1 + 1 : Nat) : Int)) = true from rfl, if_true, h1', Option.bind_some, zhr (.inl rfl) (zjk _ _ _) b2, zhr (.inr rfl) (zjk _ _ _) b2]
 rw [zg9]
 simp only [show IntKind.i64.wrap (1 + 1) = 2 from rfl, show decide ((2 : Int) < ((0 + 1 + 1 : Nat) : Int)) = false from rfl, Bool.false_eq_true, if_false, Option.bind_some]
 rfl
theorem zq3 {l : List Int} (h : l.all zb6 = true) {k : Nat} (hk : k < l.length) : zb6 l[k] = true := List.all_eq_true.1 h _ (List.getElem_mem hk)
theorem zwQ {l : List Int} (hl : l.length ≤ 1000000000000) (hd : l.all zb6 = true) : zfB l = some (zk0 l) := by
 unfold zfB
 have e0 := zpA (p := (1, 2)) (x := (l.length : Int)) ⟨by decide, by decide⟩ (zef.2 ⟨by omega, by omega⟩)
 refine zaA (zaf e0 (zac (ψ := fun p => p = ((l.length : Int) :: l).foldl zii (1, 2)) (zay (fun n p => p = ((l.length : Int) :: l.take n).foldl zii (1, 2)) rfl ?_ ?_) ?_))
 ·rintro n p hn rfl
  refine zaD hn (zaf (zpA (zh1 _ _ ⟨by decide, by decide⟩) (zq3 hd hn)) (zab ?_))
  show zii _ _ = _
  rw [← List.take_append_getElem hn, ← List.cons_append, List.foldl_append]
  rfl
 ·rintro p rfl
  show (((l.length : Int) :: l.take l.length).foldl zii (1, 2)) = _
  rw [List.take_length]
 rintro p rfl
 obtain ⟨h1, h2⟩ := zh1 ((l.length : Int) :: l) (1, 2) ⟨by decide, by decide⟩
 refine zab ?_
 rw [zap (n := _ * 2147483648) (by omega) (by omega), zap (by omega) (by omega)]
 rfl
theorem zu6 {x : Int} (hx : zb6 x = true) : IntKind.i64.wrap (BitVec.ofInt IntKind.i64.bits x &&& BitVec.ofInt IntKind.i64.bits 2147483647).toNat = x % 2147483648 := by
 have hx := zef.1 hx
 obtain ⟨n, rfl⟩ := Int.eq_ofNat_of_zero_le hx.1
 have h1 : (BitVec.ofInt IntKind.i64.bits ((n : Nat) : Int) &&& BitVec.ofInt IntKind.i64.bits 2147483647).toNat = n % 2147483648 := by
  rw [BitVec.toNat_and]
  have a1 : (BitVec.ofInt IntKind.i64.bits (n : Int)).toNat = n := by
   rw [BitVec.toNat_ofInt]
   have : IntKind.i64.bits = 64 := rfl
   rw [this]
   omega
  have a2 : (BitVec.ofInt IntKind.i64.bits 2147483647).toNat = 2 ^ 31 - 1 := by decide
  rw [a1, a2, Nat.and_two_pow_sub_one_eq_mod]
 rw [h1, zap (by omega) (by omega)]
 omega
theorem zxY {l : List Int} (hl : l.length ≤ 1000000000000) (hd : l.all zb6 = true) : zf0 l = some (zk0 l) := by
 unfold zf0
 have hd2 : ((l.length : Int) :: l).all zb6 = true := by
  rw [List.all_cons, hd, Bool.and_true]
  exact zef.2 ⟨by omega, by omega⟩
 refine zaA (zaq (by simp only [List.length_cons, List.length_nil]; omega) (zaf rfl (zac (ψ := fun p => p = ((l.length : Int) :: l).foldl zii (1, 2)) (zay (fun n p => p = (((l.length : Int) :: l).take n).foldl zii (1, 2)) rfl ?_ ?_) ?_)))
 ·rintro n p hn rfl
  have ok := zh1 ((((l.length : Int) :: l)).take n) (1, 2) ⟨by decide, by decide⟩
  have dg := zq3 hd2 hn
  have b := zef.1 dg
  have ef : (((l.length : Int) :: l)[n]).fdiv 2147483648 = ((l.length : Int) :: l)[n] / 2147483648 := Int.fdiv_eq_ediv_of_nonneg _ (by omega)
  have hn' : n < ((l.length : Int) :: l).length := hn
  refine zaD hn (zab ?_)
  show (_, _) = _
  simp only [List.singleton_append]
  rw [zu6 dg, ef, zhr (.inl rfl) ok.1 (by omega), zhr (.inr rfl) ok.2 (by omega), zhr (.inl rfl) (zjk _ _ _) (by omega), zhr (.inr rfl) (zjk _ _ _) (by omega),
   ← List.take_append_getElem hn', List.foldl_append]
  rfl
 ·rintro p rfl
  show ((((l.length : Int) :: l).take ([(l.length : Int)] ++ l).length).foldl zii (1, 2)) = _
  rw [List.singleton_append, List.take_length]
 rintro p rfl
 obtain ⟨h1, h2⟩ := zh1 ((l.length : Int) :: l) (1, 2) ⟨by decide, by decide⟩
 refine zab ?_
 rw [zap (n := _ * 2147483648) (by omega) (by omega), zap (by omega) (by omega)]
 rfl
def zsp (s : ByteArray) (l : List Int) : Int := zk0 ((s.size : Int) :: byL s ++ l)
theorem zpk (s : ByteArray) (l : List Int) : zb6 (zsp s l) = true := ztL _
def zif (s : ByteArray) (l : List Int) : Bool := decide (s.size ≤ 40) && decide (1 + s.size + l.length ≤ 400) && l.all zb6
theorem zq4 {s : ByteArray} {l : List Int} (hs : s.size ≤ 1000000) : ((s.size : Int) :: byL s ++ l).all zb6 = l.all zb6 := by
 rw [List.cons_append, List.all_cons, List.all_append, zwL, zef.2 ⟨by omega, by omega⟩, Bool.true_and, Bool.true_and]
theorem zqo {s : ByteArray} {l : List Int} (hs : s.size ≤ 1000000) (hl : l.length ≤ 100000000000) (hd : l.all zb6 = true) : zee s l = some (zsp s l) := by
 unfold zee
 rw [zub s l hs (by omega), Option.bind_some, zwQ (by simp [zhk]; omega) (by rw [zq4 hs]; exact hd)]
 rfl
theorem zps (l : List Int) : zdS l = some (decide (l.length ≤ 400) && l.all zb6) := by
 unfold zdS
 have h1 : zcg l = some (l.all zb6) := zmw (f := zbv) fun x _ => by
  unfold zbv
  rw [zsa]; rfl
 rw [h1]
 by_cases h : l.length ≤ 400
 ·rw [if_pos (by simp; omega)]; simp [h]
 rw [if_neg (by simp; omega)]; simp [h]
theorem zsn (l : List Int) : zes l = some (if (decide (l.length ≤ 400) && l.all zb6) = true then (zk0 l, true) else (0, false)) := by
 unfold zes
 rw [zps, Option.bind_some]
 cases h : (decide (l.length ≤ 400) && l.all zb6) with
 | true =>
  simp only [Bool.and_eq_true, decide_eq_true_eq] at h
  rw [zxY (by omega) h.2]; rfl
 | false => rfl
theorem zng (s : ByteArray) (l : List Int) : zdj s l = some (if zif s l = true then (zsp s l, true) else (0, false)) := by
 unfold zdj
 by_cases h1 : s.size ≤ 40
 ·by_cases h2 : l.length ≤ 400
  ·rw [if_neg (by simp; omega), Option.bind_some, if_neg (by simp; omega), zsA s l (by omega) (by omega), Option.bind_some, zsn, zq4 (by omega)]
   have e : ((s.size : Int) :: byL s ++ l).length = 1 + s.size + l.length := by simp [zhk]; omega
   rw [e]
   have e2 : zif s l = (decide (1 + s.size + l.length ≤ 400) && l.all zb6) := by simp [zif, h1]
   rw [e2]
   cases decide (1 + s.size + l.length ≤ 400) <;> cases l.all zb6 <;> rfl
  rw [if_neg (by simp; omega), Option.bind_some, if_pos (by simp; omega)]
  have : zif s l = false := by
   have : ¬ 1 + s.size + l.length ≤ 400 := by omega
   simp [zif, this]
  rw [this]; rfl
 rw [if_pos (by simp; omega), Option.bind_some, if_pos rfl]
 have : zif s l = false := by simp [zif, h1]
 rw [this]; rfl
theorem ztt {α β γ : Type} {l : List α} {f : α → β} {body : Int → List β → Option (Stp (List β) γ)} {stop : List β → γ} (a0 : List β) (hs : ∀ k (h : k < l.length) (s : List β), s.length = a0.length + k → body (k : Int) s = some (.go (s ++ [f l[k]]))) :
 zas body stop l.length 0 a0 = some (stop (a0 ++ l.map f)) := by
 refine zaA (zay (fun k s => s = a0 ++ (l.take k).map f ∧ k ≤ l.length) ⟨by simp, by omega⟩ ?_ ?_)
 ·rintro k s hk ⟨rfl, _⟩
  refine ⟨_, hs k hk _ (by simp; omega), ?_, hk⟩
  rw [List.take_succ_eq_append_getElem hk, List.map_append, List.append_assoc]; rfl
 rintro s ⟨rfl, _⟩
 simp
theorem zty {γ : Type} {m : Nat} (p : Nat → Bool) (c d : γ) {body : Int → Unit → Option (Stp Unit (Unit ⊕ γ))} (h : ∀ k, k < m → body (k : Int) () = some (if p k = true then .go () else .out (.inr c))) :
 (zas body (fun _ => .inl ()) m 0 ()).bind (Sum.elim (fun _ => some d) some) = some (if (List.range m).all p = true then d else c) := by
 rcases zkO (body := body) m p (fun _ => c) h with ⟨e, h1⟩ | ⟨k, h1, h2, h3, e⟩
 ·have : (List.range m).all p = true := by
   rw [List.all_eq_true]; intro x hx; exact h1 x (List.mem_range.1 hx)
  rw [e, this]; rfl
 have : (List.range m).all p = false := by
  rw [List.all_eq_false]; exact ⟨k, List.mem_range.2 h1, by simp [h2]⟩
 rw [e, this]; rfl
def inB (a b x : Int) : Bool := decide (a ≤ x) && decide (x ≤ b)
theorem ziG {a b x : Int} : inB a b x = true ↔ a ≤ x ∧ x ≤ b := by simp [inB]
theorem zui (a b : Bool) : (if a = true then some true else some b) = some (a || b) := by cases a <;> rfl
theorem zor (x a b : Int) : za3 x a b = some (inB a b x) := zfG x a b
theorem zg8 {l : List Int} (h : l.length ≤ 1048576) : zcF l = some l := zdU (by omega)
def itr {σ : Type} (f : Nat → σ → σ) : Nat → σ → σ
 | 0, s => s
 | n + 1, s => f n (itr f n s)
theorem zqK {σ : Type} {f : Nat → σ → σ} {I : Nat → σ → Prop} {s0 : σ} (h0 : I 0 s0) {m : Nat} (h : ∀ k s, k < m → I k s → I (k + 1) (f k s)) : ∀ k, k ≤ m → I k (itr f k s0)
 | 0, _ => h0
 | k + 1, hk => h k _ (by omega) (zqK h0 h k (by omega))
theorem zyy {σ β : Type} {body : Int → σ → Option (Stp σ β)} {stop : σ → β} {m : Nat} {s0 : σ} (f : Nat → σ → σ) (I : Nat → σ → Prop) (h0 : I 0 s0) (hi : ∀ k s, k < m → I k s → I (k + 1) (f k s)) (hs : ∀ k s, k < m → I k s → body (k : Int) s = some (.go (f k s))) :
 zas body stop m 0 s0 = some (stop (itr f m s0)) := by
 refine zaA (zay (fun k s => s = itr f k s0 ∧ k ≤ m) ⟨rfl, by omega⟩ ?_ ?_)
 ·rintro k s hk ⟨rfl, _⟩
  exact ⟨_, hs k _ hk (zqK h0 hi k (by omega)), rfl, hk⟩
 rintro s ⟨rfl, _⟩; rfl
theorem zgN {α : Type} {L : List (List α)} {i : Nat} (h : i < L.length) : (L.take (i + 1)).flatten = (L.take i).flatten ++ L[i] := by
 rw [List.take_succ_eq_append_getElem h, List.flatten_append]; simp
theorem zlX {α : Type} (L : List (List α)) (i : Nat) : (L.take i).flatten.length ≤ L.flatten.length := by
 have e : L.flatten = (L.take i).flatten ++ (L.drop i).flatten := by rw [← List.flatten_append, List.take_append_drop]
 rw [e, List.length_append]; omega
theorem ziM (L : List (List Int)) (h : L.flatten.length ≤ 1000000000000) : zaQ L = some L.flatten := by
 unfold zaQ
 refine zaA (zac (ψ := fun n => n = (L.flatten.length : Int)) (zay (fun i s => s = ((L.take i).flatten.length : Int)) rfl ?_ ?_) ?_)
 ·rintro i s hi rfl
  have e := congrArg List.length (zgN hi)
  rw [List.length_append] at e
  have hl := zlX L (i + 1)
  refine zaD hi ?_
  rw [zap (by omega) (by omega)]
  refine zbu (by simp only [decide_eq_false_iff_not]; omega) (zab ?_)
  show _ = _
  omega
 ·rintro s rfl
  rw [List.take_length]
 rintro n rfl
 refine zaq (by omega) (zac (ψ := fun r => r = L.flatten) (zay (fun i s => s = (L.take i).flatten) rfl ?_ ?_) fun r hr => zab hr)
 ·rintro i s hi rfl
  have e := congrArg List.length (zgN hi)
  rw [List.length_append] at e
  have hl := zlX L (i + 1)
  refine zaD hi (zaq (by omega) (zab ?_))
  show _ = _
  rw [zgN hi]
 rintro s rfl
 rw [List.take_length]
def chG (gr : Group) (s : ByteArray) (l : List Int) : Int := zsp s ([gr.P, gr.Q, gr.G] ++ l) % gr.Q
theorem zo7 {gr : Group} (k : OkG gr) (s : ByteArray) (l : List Int) : 0 ≤ chG gr s l ∧ chG gr s l < gr.Q := by
 have := k.q
 exact ⟨Int.emod_nonneg _ (by omega), Int.emod_lt_of_pos _ (by omega)⟩
theorem zqO {gr : Group} (k : OkG gr) {l : List Int} : ([gr.P, gr.Q, gr.G] ++ l).all zb6 = l.all zb6 := by
 have hp := k.p
 have hq := k.q
 have hg := k.g
 rw [List.all_append]
 have : [gr.P, gr.Q, gr.G].all zb6 = true := by
  simp only [List.all_cons, List.all_nil, Bool.and_true, Bool.and_eq_true]
  exact ⟨zef.2 (by omega), zef.2 (by omega), zef.2 (by omega)⟩
 rw [this, Bool.true_and]
theorem zis {gr : Group} (k : OkG gr) {s : ByteArray} {l : List Int} (hs : s.size ≤ 1000000) (hl : l.length ≤ 10000000000) (hd : l.all zb6 = true) : zcq gr s l = some (chG gr s l) := by
 have hq := k.q
 have hb := zef.1 (zpk s ([gr.P, gr.Q, gr.G] ++ l))
 unfold zcq
 rw [zdU (by simp only [List.length_cons, List.length_nil]; omega), zqo hs (by simp only [List.length_append, List.length_cons, List.length_nil]; omega) (by rw [zqO k]; exact hd), Option.bind_some, zdU (by omega), Int.tmod_eq_emod_of_nonneg hb.1]
 rfl
theorem zsY {gr : Group} (k : OkG gr) (s : ByteArray) {l : List Int} (hl : l.length ≤ 10000000000) : zbf gr s l = some (if zif s ([gr.P, gr.Q, gr.G] ++ l) = true then (chG gr s l, true) else (0, false)) := by
 have hq := k.q
 have hb := zef.1 (zpk s ([gr.P, gr.Q, gr.G] ++ l))
 unfold zbf
 rw [zdU (by simp only [List.length_cons, List.length_nil]; omega), zng, Option.bind_some]
 cases zif s ([gr.P, gr.Q, gr.G] ++ l) with
 | false => rfl
 | true =>
  simp only [if_true, Bool.not_true, Bool.false_eq_true, if_false]
  rw [zdU (by omega), Int.tmod_eq_emod_of_nonneg hb.1]
  rfl
theorem zvQ {gr : Group} (k : OkG gr) {s : ByteArray} {l : List Int} (hs : s.size ≤ 40) (hl : 4 + s.size + l.length ≤ 400) (hd : l.all zb6 = true) : zif s ([gr.P, gr.Q, gr.G] ++ l) = true := by
 unfold zif
 rw [zqO k, hd, Bool.and_true, Bool.and_eq_true, decide_eq_true_eq, decide_eq_true_eq]
 simp only [List.length_append, List.length_cons, List.length_nil]
 omega
theorem zjr {gr : Group} (k : OkG gr) {l : List Int} (h : l.all (zak gr) = true) : l.all zb6 = true := by
 have hp := k.p
 rw [List.all_eq_true] at h ⊢
 intro x hx
 have := zib (h x hx)
 exact zef.2 (by omega)
def zb7 (gr : Group) : List Int → List Int → Int → Int
 | x :: l, e :: m, o => zb7 gr l m (o * zai gr x e % gr.P)
 | _, _, o => o
theorem zkb (gr : Group) : ∀ (l m : List Int) (x e o : Int), l.length = m.length → zb7 gr (l ++ [x]) (m ++ [e]) o = zb7 gr l m o * zai gr x e % gr.P
 | [], [], x, e, o, _ => rfl
 | y :: l, f :: m, x, e, o, h => zkb gr l m x e _ (by simpa using h)
theorem zlp (gr : Group) : ∀ (l m : List Int) (o : Int), zb7 gr l (m.take l.length) o = zb7 gr l m o
 | [], m, o => by cases m <;> rfl
 | y :: l, [], o => rfl
 | y :: l, f :: m, o => zlp gr l m _
theorem zm3 {gr : Group} (h : 0 < gr.P) : ∀ (l m : List Int) (o : Int), 0 ≤ o ∧ o < gr.P → 0 ≤ zb7 gr l m o ∧ zb7 gr l m o < gr.P
 | x :: l, e :: m, o, _ => zm3 h l m _ ⟨Int.emod_nonneg _ (by omega), Int.emod_lt_of_pos _ h⟩
 | [], _, o, ho => ho
 | _ :: _, [], o, ho => ho
theorem zja {gr : Group} (k : OkG gr) {x y : Int} (hx : 0 ≤ x ∧ x < gr.P) (hy : 0 ≤ y) : zdn gr [x, y] = x * y % gr.P := by
 have hp := k.p
 simp only [zdn, List.foldl_cons, List.foldl_nil, Int.one_mul]
 rw [Int.emod_eq_of_lt hx.1 hx.2]
theorem zjl {gr : Group} (k : OkG gr) {l m : List Int} (hl : ∀ x ∈ l, 0 ≤ x ∧ x ≤ 2000000000) (hm : l.length ≤ m.length) : zc3 gr l m = some (zb7 gr l m 1) := by
 have hp := k.p
 unfold zc3
 refine zaA (zac (ψ := fun b => b = zb7 gr l m 1) (zay (fun i s => s = zb7 gr (l.take i) (m.take i) 1) rfl ?_ ?_) fun b hb => zab hb)
 ·rintro i s hi rfl
  have bd := zm3 (gr := gr) (by omega) (l.take i) (m.take i) 1 (by omega)
  have hx := hl l[i] (List.getElem_mem hi)
  have pb := zcU k l[i] (m[i]'(by omega))
  refine zaD hi (zaD (show i < m.length by omega) (zaf (zj7 k hx.1 hx.2 _) (zaq (by omega) (zab ?_))))
  show _ = zb7 gr (l.take (i + 1)) (m.take (i + 1)) 1
  rw [List.take_succ_eq_append_getElem hi, List.take_succ_eq_append_getElem (show i < m.length by omega), zkb _ _ _ _ _ _ (by simp; omega)]
  have b1 := Int.mul_nonneg bd.1 pb.1
  have b2 : zb7 gr (l.take i) (m.take i) 1 * zai gr l[i] (m[i]'(by omega)) ≤ 2000000000 * 2000000000 := Int.mul_le_mul (by omega) (by omega) pb.1 (by omega)
  rw [zap (by omega) (by omega), Int.tmod_eq_emod_of_nonneg b1]
 rintro s rfl
 rw [List.take_length, zlp]
theorem znJ {gr : Group} (k : OkG gr) {l m : List Int} (hl : ∀ x ∈ l, 0 ≤ x ∧ x ≤ 2000000000) (hm : l.length ≤ m.length) : zcx gr l m = some (zb7 gr l m 1) := by
 have hp := k.p
 unfold zcx
 refine zaA (zac (ψ := fun b => b = zb7 gr l m 1) (zay (fun i s => s = zb7 gr (l.take i) (m.take i) 1) rfl ?_ ?_) fun b hb => zab hb)
 ·rintro i s hi rfl
  have bd := zm3 (gr := gr) (by omega) (l.take i) (m.take i) 1 (by omega)
  have hx := hl l[i] (List.getElem_mem hi)
  have pb := zcU k l[i] (m[i]'(by omega))
  refine zaD hi (zaD (show i < m.length by omega) (zaf (zjO k hx.1 hx.2 _).1 (zaf (zk1 k ?_) (zab ?_))))
  ·intro y hy
   simp only [List.mem_cons, List.not_mem_nil, or_false] at hy
   rcases hy with rfl | rfl <;> omega
  show _ = zb7 gr (l.take (i + 1)) (m.take (i + 1)) 1
  rw [List.take_succ_eq_append_getElem hi, List.take_succ_eq_append_getElem (show i < m.length by omega), zkb _ _ _ _ _ _ (by simp; omega), zja k bd pb.1]
 rintro s rfl
 rw [List.take_length, zlp]
structure LinS (gr : Group) (bs : List (List Int)) : Prop where
 n : 1 ≤ bs.length ∧ bs.length ≤ 8
 m : 1 ≤ (bs.headD []).length ∧ (bs.headD []).length ≤ 8
 r : ∀ r ∈ bs, r.length = (bs.headD []).length ∧ r.all (zak gr) = true
theorem znQ : ∀ {bs : List (List Int)} {c : Nat}, (∀ r ∈ bs, r.length ≤ c) → bs.flatten.length ≤ bs.length * c
 | [], _, _ => by simp
 | r :: bs, c, h => by
  have h1 := h r (List.mem_cons_self ..)
  have h2 := znQ fun x hx => h x (List.mem_cons_of_mem r hx)
  rw [List.flatten_cons, List.length_append, List.length_cons, Nat.add_mul]
  omega
theorem LinS.flat {gr : Group} {bs : List (List Int)} (h : LinS gr bs) : bs.flatten.length ≤ 64 := by
 have := znQ (bs := bs) (c := 8) fun r hr => by rw [(h.r r hr).1]; exact h.m.2
 have := h.n
 omega
theorem LinS.dig {gr : Group} (k : OkG gr) {bs : List (List Int)} (h : LinS gr bs) : bs.flatten.all zb6 = true := by
 rw [List.all_eq_true]
 intro x hx
 obtain ⟨r, hr, hx⟩ := List.mem_flatten.1 hx
 exact List.all_eq_true.1 (zjr k (h.r r hr).2) x hx
theorem LinS.hd {gr : Group} {bs : List (List Int)} (h : LinS gr bs) : ix bs 0 = some (bs.headD []) := by
 cases bs with
 | nil => have := h.n; simp at this
 | cons r l => rfl
theorem zg3 {gr : Group} (k : OkG gr) {l : List Int} (h : l.all (zak gr) = true) : ∀ x ∈ l, 0 ≤ x ∧ x ≤ 2000000000 := fun x hx => by
 have hp := k.p
 have := zib (List.all_eq_true.1 h x hx)
 omega
theorem zpr {bs : List (List Int)} {im cs : List Int} (h1 : bs.flatten.length ≤ 1000000) (h2 : im.length ≤ 1048576) (h3 : cs.length ≤ 1048576) : zc7 bs im cs = some (bs.flatten ++ im ++ cs) := by
 unfold zc7
 refine zaA (zac (ψ := fun r => r = bs.flatten) (zay (fun i s => s = (bs.take i).flatten) rfl ?_ ?_) ?_)
 ·rintro i s hi rfl
  have e := congrArg List.length (zgN hi)
  rw [List.length_append] at e
  have hl := zlX bs (i + 1)
  refine zaD hi (zaq (by omega) (zab ?_))
  show _ = _
  rw [zgN hi]
 ·rintro s rfl
  rw [List.take_length]
 rintro r rfl
 exact zaq (by omega) (zaq (by rw [List.length_append]; omega) (zab rfl))
theorem zoH {gr : Group} (k : OkG gr) {bs : List (List Int)} {es : List Int} (hb : LinS gr bs) (he : es.length = (bs.headD []).length) : za9 gr bs es = some (bs.map fun r => zb7 gr r es 1) := by
 unfold za9
 have hn := hb.n
 rw [ztt (f := fun r => zb7 gr r es 1) []]
 ·rfl
 intro i hi s hs
 have hr := hb.r _ (List.getElem_mem hi)
 rw [zeg hi, Option.bind_some, znJ k (zg3 k hr.2) (by omega), Option.bind_some, zdU (by simp at hs; omega)]
def zke (gr : Group) (s : ByteArray) (bs : List (List Int)) (im : List Int) (p : Proof) : Bool :=
 !(((p.Commits.length : Int) != (bs.length : Int)) || (((p.Challenges.length : Int) != 1) || (((p.Responses.length : Int) != ((bs.headD []).length : Int)) || (!p.Commits.all (zak gr) || !p.Responses.all (zdN gr))))) &&
 (!(p.Challenges.headD 0 != chG gr s (bs.flatten ++ im ++ p.Commits)) &&
 (List.range bs.length).all fun i => !(zb7 gr (bs.getD i []) p.Responses 1 != zdn gr [p.Commits.getD i 0, zai gr (im.getD i 0) (p.Challenges.headD 0)]))
theorem zsM {gr : Group} (k : OkG gr) {s : ByteArray} (hs : s.size ≤ 40) {bs : List (List Int)} {im : List Int} {p : Proof} (hb : LinS gr bs) (hi : im.length = bs.length) (hd : im.all (zak gr) = true) (hc : p.Commits.length ≤ 1048576) :
 zeH gr s bs im p = some (zke gr s bs im p) := by
 have hp := k.p
 have hq := k.q
 unfold zeH zke
 simp only [hb.hd, zoe k, zkR (gr := gr) (by omega) (by omega), Option.bind_some, zui]
 cases hg : (((p.Commits.length : Int) != (bs.length : Int)) || (((p.Challenges.length : Int) != 1) || (((p.Responses.length : Int) != ((bs.headD []).length : Int)) || (!p.Commits.all (zak gr) || !p.Responses.all (zdN gr))))) with
 | true => rfl
 | false =>
  simp only [Bool.or_eq_false_iff, bne_eq_false_iff_eq, Bool.not_eq_false'] at hg
  obtain ⟨g1, g2, g3, g4, g5⟩ := hg
  have hf := hb.flat
  have hn := hb.n
  obtain ⟨c, hce⟩ : ∃ c, p.Challenges = [c] := by
   match h : p.Challenges, g2 with
   | [c], _ => exact ⟨c, rfl⟩
  have hdig : (bs.flatten ++ im ++ p.Commits).all zb6 = true := by
   rw [List.all_append, List.all_append, hb.dig k, zjr k hd, zjr k g4]; rfl
  simp only [Bool.false_eq_true, if_false, hce, show ix [c] 0 = some c from rfl, Option.bind_some, zpr (bs := bs) (im := im) (cs := p.Commits) (by omega) (by omega) hc]
  rw [zis k (by omega) (by simp only [List.length_append]; omega) hdig, Option.bind_some]
  show _ = some (!false && (!(c != _) && _))
  by_cases hcc : c = chG gr s (bs.flatten ++ im ++ p.Commits)
  ·have e1 : (c != chG gr s (bs.flatten ++ im ++ p.Commits)) = false := by simpa using hcc
   rw [e1]
   simp only [Bool.false_eq_true, if_false, Bool.not_false, Bool.true_and]
   rw [zty (fun i => !(zb7 gr (bs.getD i []) p.Responses 1 != zdn gr [p.Commits.getD i 0, zai gr (im.getD i 0) c])) false true]
   ·simp only [Bool.if_true_left, Bool.if_false_right, Bool.and_true, Bool.decide_eq_true, Bool.or_false]
    rfl
   ·intro i hi
    have hr := hb.r _ (List.getElem_mem hi)
    have h1 : i < p.Commits.length := by omega
    have h2 : i < im.length := by omega
    have ic := zg3 k g4 _ (List.getElem_mem h1)
    have ii := zg3 k hd _ (List.getElem_mem h2)
    have pb := zcU k im[i] c
    rw [zeg hi, Option.bind_some, zeg h1, Option.bind_some, zeg h2, Option.bind_some, zjl k (zg3 k hr.2) (by omega), Option.bind_some, zj7 k ii.1 ii.2, Option.bind_some, zoN k ?_, Option.bind_some]
    ·simp only [List.getD_eq_getElem?_getD, List.getElem?_eq_getElem hi, List.getElem?_eq_getElem h1, List.getElem?_eq_getElem h2, Option.getD_some]
     exact zon _ _ _
    ·intro y hy
     simp only [List.mem_cons, List.not_mem_nil, or_false] at hy
     rcases hy with rfl | rfl <;> omega
  ·have e1 : (c != chG gr s (bs.flatten ++ im ++ p.Commits)) = true := by simpa using hcc
   rw [e1]; rfl
theorem zs0 {gr : Group} (k : OkG gr) {s : ByteArray} (hs : s.size ≤ 40) {bs : List (List Int)} {im : List Int} {p : Proof} (hb : LinS gr bs) (hi : im.length = bs.length) (hd : im.all (zak gr) = true) (hc : p.Commits.length ≤ 1048576) :
 zb4 gr s bs im p = some (zke gr s bs im p) := by
 have hp := k.p
 have hq := k.q
 unfold zb4 zke
 simp only [hb.hd, zoK k, znP (gr := gr) (by omega) (by omega), Option.bind_some, zui]
 cases hg : (((p.Commits.length : Int) != (bs.length : Int)) || (((p.Challenges.length : Int) != 1) || (((p.Responses.length : Int) != ((bs.headD []).length : Int)) || (!p.Commits.all (zak gr) || !p.Responses.all (zdN gr))))) with
 | true => rfl
 | false =>
  simp only [Bool.or_eq_false_iff, bne_eq_false_iff_eq, Bool.not_eq_false'] at hg
  obtain ⟨g1, g2, g3, g4, g5⟩ := hg
  have hf := hb.flat
  have hn := hb.n
  obtain ⟨c, hce⟩ : ∃ c, p.Challenges = [c] := by
   match h : p.Challenges, g2 with
   | [c], _ => exact ⟨c, rfl⟩
  have hdig : (bs.flatten ++ im ++ p.Commits).all zb6 = true := by
   rw [List.all_append, List.all_append, hb.dig k, zjr k hd, zjr k g4]; rfl
  have hfl : [bs.flatten, im, p.Commits].flatten = bs.flatten ++ im ++ p.Commits := by simp
  have hl : (bs.flatten ++ im ++ p.Commits).length ≤ 80 := by simp only [List.length_append]; omega
  simp only [Bool.false_eq_true, if_false, hce, show ix [c] 0 = some c from rfl, Option.bind_some, ziM bs (by omega), ziM [bs.flatten, im, p.Commits] (by rw [hfl]; omega), hfl]
  rw [zsY k s (by omega), if_pos (zvQ k hs (by omega) hdig), Option.bind_some]
  simp only [Bool.not_true, Bool.false_eq_true, if_false, Option.bind_some]
  show _ = some (!false && (!(c != _) && _))
  by_cases hcc : c = chG gr s (bs.flatten ++ im ++ p.Commits)
  ·have e1 : (c != chG gr s (bs.flatten ++ im ++ p.Commits)) = false := by simpa using hcc
   rw [e1, ← hcc]
   simp only [Bool.false_eq_true, if_false, Bool.not_false, Bool.true_and]
   rw [zoH k hb (by omega), Option.bind_some, zty (fun i => !(zb7 gr (bs.getD i []) p.Responses 1 != zdn gr [p.Commits.getD i 0, zai gr (im.getD i 0) c])) false true]
   ·simp only [Bool.if_true_left, Bool.if_false_right, Bool.and_true, Bool.decide_eq_true, Bool.or_false, List.length_map]
    rfl
   ·intro i hi
    have hi' : i < bs.length := by simpa using hi
    have h1 : i < p.Commits.length := by omega
    have h2 : i < im.length := by omega
    have ic := zg3 k g4 _ (List.getElem_mem h1)
    have ii := zg3 k hd _ (List.getElem_mem h2)
    have pb := zcU k im[i] c
    rw [zeg hi, Option.bind_some, zeg h1, Option.bind_some, zeg h2, Option.bind_some, (zjO k ii.1 ii.2 _).1, Option.bind_some, zk1 k ?_, Option.bind_some]
    ·simp only [List.getElem_map, List.getD_eq_getElem?_getD, List.getElem?_eq_getElem hi', List.getElem?_eq_getElem h1, List.getElem?_eq_getElem h2, Option.getD_some]
     exact zon _ _ _
    ·intro y hy
     simp only [List.mem_cons, List.not_mem_nil, or_false] at hy
     rcases hy with rfl | rfl <;> omega
  ·have e1 : (c != chG gr s (bs.flatten ++ im ++ p.Commits)) = true := by simpa using hcc
   rw [e1]; rfl
theorem zgt {gr : Group} (k : OkG gr) : zak gr gr.G = true := by
 have hg := k.g
 simp only [zak, Bool.and_eq_true, decide_eq_true_eq]
 exact ⟨by omega, k.o⟩
theorem zzt {α : Type} {l : List α} {i : Int} (h0 : 0 ≤ i) (h : i < l.length) : ix l i = some (l[i.toNat]'(by omega)) := by
 obtain ⟨k, rfl⟩ := Int.eq_ofNat_of_zero_le h0
 exact zeg (by omega)
theorem zl1 {gr : Group} (k : OkG gr) {a : Int} (ha : 0 ≤ a) : zai gr gr.G a = ((gr.G.toNat ^ a.toNat % gr.P.toNat : Nat) : Int) := by
 have hq := k.q
 obtain ⟨n, rfl⟩ := Int.eq_ofNat_of_zero_le ha
 obtain ⟨q, hQ⟩ := Int.eq_ofNat_of_zero_le (show 0 ≤ gr.Q by omega)
 unfold zai
 have ho := k.o
 rw [hQ] at ho ⊢
 rw [Int.toNat_natCast] at ho
 rw [← Int.natCast_emod, Int.toNat_natCast, Int.toNat_natCast, zhb ho]
theorem zuI {gr : Group} (k : OkG gr) {a b : Int} (ha : 0 ≤ a) (hb : 0 ≤ b) : zdn gr [zai gr gr.G a, zai gr gr.G b] = zai gr gr.G (a + b) := by
 have hp := k.p
 obtain ⟨P, hP⟩ := Int.eq_ofNat_of_zero_le (show 0 ≤ gr.P by omega)
 have hx := zcU k gr.G a
 rw [zja k (by omega) (zcU k gr.G b).1, zl1 k ha, zl1 k hb, zl1 k (by omega), hP]
 rw [← Int.natCast_mul, ← Int.natCast_emod, Int.toNat_natCast, ← Nat.mul_mod, ← Nat.pow_add, Int.toNat_add ha hb]
def atS (gr : Group) (x : Int) (s : Int × Int) (y : Int) : Int × Int := (zdn gr [s.1, zai gr y s.2], s.2 * x % gr.Q)
theorem zvv {gr : Group} {x : Int} {l : List Int} (k : OkG gr) (hx : 0 ≤ x) (hx2 : x ≤ 1000) (hl : ∀ y ∈ l, 0 ≤ y ∧ y ≤ 2000000000) : zeZ gr l x = some (l.foldl (atS gr x) (1, 1)).1 := by
 have hp := k.p
 have hq := k.q
 unfold zeZ
 refine zaA (zm2 (zay (fun i s => s = (l.take i).foldl (atS gr x) (1, 1) ∧ (0 ≤ s.1 ∧ s.1 ≤ 2000000000) ∧ 0 ≤ s.2 ∧ s.2 ≤ 2000000000) ⟨rfl, by omega, by omega⟩ ?_ ?_))
 ·rintro i s hi ⟨hs, h1, h2⟩
  have hy := hl _ (List.getElem_mem hi)
  have hw := zcU k l[i] s.2
  have hb : ∀ z ∈ [s.1, zai gr l[i] s.2], 0 ≤ z ∧ z ≤ 2000000000 := by
   intro z hz
   rcases List.mem_cons.1 hz with rfl | hz
   ·exact h1
   ·rw [List.mem_singleton.1 hz]; omega
  have b1 : 0 ≤ s.2 * x := Int.mul_nonneg h2.1 hx
  have b2 : s.2 * x ≤ 2000000000 * 1000 := Int.mul_le_mul h2.2 hx2 hx (by omega)
  have b3 : 0 ≤ s.2 * x % gr.Q := Int.emod_nonneg _ (by omega)
  have b4 : s.2 * x % gr.Q < gr.Q := Int.emod_lt_of_pos _ (by omega)
  have hm := zmW k hb
  rw [zeg hi, Option.bind_some, zj7 k hy.1 hy.2, Option.bind_some, zoN k hb, Option.bind_some, zdU (by omega), zap (by omega) (by omega), Int.tmod_eq_emod_of_nonneg b1]
  refine ⟨_, rfl, ?_, ⟨hm.1, by show zdn gr _ ≤ _; omega⟩, b3, by show s.2 * x % gr.Q ≤ _; omega⟩
  rw [List.take_succ_eq_append_getElem hi, List.foldl_append, ← hs]; rfl
 rintro s ⟨hs, _⟩
 rw [List.take_length] at hs
 subst hs
 exact ⟨_, rfl, rfl⟩
def pvE (q x : Int) : List Int → Int → Int
 | [], _ => 0
 | c :: l, e => c * e + pvE q x l (e * x % q)
theorem ztf (q x : Int) : ∀ (l : List Int) (e : Int), pvE q x l e % q = (e * evI l x) % q
 | [], e => by simp [pvE, evI]
 | c :: l, e => by
  show (c * e + pvE q x l (e * x % q)) % q = (e * (evI l x * x + c)) % q
  rw [zik (a := c * e) (b := c * e) rfl ((ztf q x l (e * x % q)).trans (zju (b := e * x) (d := evI l x) (zf4 _ _) rfl))]
  congr 1
  grind
theorem ztd {gr : Group} (k : OkG gr) (x : Int) : ∀ (l : List Int) (a e : Int), (∀ c ∈ l, 0 ≤ c) → 0 ≤ a → 0 ≤ e → ((l.map (zai gr gr.G)).foldl (atS gr x) (zai gr gr.G a, e)).1 = zai gr gr.G (a + pvE gr.Q x l e)
 | [], a, e, _, _, _ => by show zai gr gr.G a = zai gr gr.G (a + 0); rw [Int.add_zero]
 | c :: l, a, e, hl, ha, he => by
  have hq := k.q
  have hc := hl c (by simp)
  have h1 : 0 ≤ c * e := Int.mul_nonneg hc he
  show ((l.map (zai gr gr.G)).foldl (atS gr x) (zdn gr [zai gr gr.G a, zai gr (zai gr gr.G c) e], e * x % gr.Q)).1 = zai gr gr.G (a + (c * e + pvE gr.Q x l (e * x % gr.Q)))
  rw [zlA k (zgt k) hc he, zuI k ha h1, ztd k x l (a + c * e) _ (fun y hy => hl y (List.mem_cons_of_mem _ hy)) (by omega) (Int.emod_nonneg _ (by omega)), Int.add_assoc]
theorem zm5 {gr : Group} {a b : Int} (x : Int) (h : a % gr.Q = b % gr.Q) : zai gr x a = zai gr x b := by
 unfold zai; rw [h]
theorem zw6 {gr : Group} (k : OkG gr) {c : Int} (hc : 0 ≤ c) : zak gr (zai gr gr.G c) = true := by
 have hb := zcU k gr.G c
 have hp := k.p
 have hq := k.q
 have h3 : (zai gr gr.G c).toNat ^ gr.Q.toNat % gr.P.toNat = 1 := by
  rw [zl1 k hc, Int.toNat_natCast, ← Nat.pow_mod, ← Nat.pow_mul, Nat.mul_comm, Nat.pow_mul, Nat.pow_mod, k.o, Nat.one_pow, Nat.mod_eq_of_lt (by omega)]
 have h1 : 1 ≤ zai gr gr.G c := by
  by_cases h0 : zai gr gr.G c = 0
  ·rw [h0, show (0 : Int).toNat = 0 from rfl, Nat.zero_pow (by omega), Nat.zero_mod] at h3
   omega
  ·omega
 simp only [zak, Bool.and_eq_true, decide_eq_true_eq]
 exact ⟨⟨h1, hb.2⟩, h3⟩
theorem zkX {gr : Group} (k : OkG gr) (x e : Int) : zb7 gr [x] [e] 1 = zai gr x e := by
 have hb := zcU k x e
 show 1 * zai gr x e % gr.P = _
 rw [Int.one_mul, Int.emod_eq_of_lt hb.1 (by omega)]
structure Gb (gr : Group) : Prop where
 p : 1 ≤ gr.P ∧ gr.P ≤ 2000000000
 q : 1 ≤ gr.Q ∧ gr.Q ≤ 2000000000
 g : 0 ≤ gr.G ∧ gr.G ≤ 2000000000
theorem Gb.w {gr : Group} (k : Gb gr) : Gw gr := by
 have a := k.p
 have b := k.q
 have c := k.g
 exact ⟨by omega, by omega, by omega⟩
theorem zqH : ∀ {l r : List Int}, l.Pairwise (· < ·) → r.Pairwise (· < ·) → (∀ x, x ∈ l ↔ x ∈ r) → l = r
 | [], [], _, _, _ => rfl
 | [], b :: r, _, _, h => by have := (h b).2 (by simp); simp at this
 | a :: l, [], _, _, h => by have := (h a).1 (by simp); simp at this
 | a :: l, b :: r, hl, hr, h => by
  obtain ⟨l1, l2⟩ := List.pairwise_cons.1 hl
  obtain ⟨r1, r2⟩ := List.pairwise_cons.1 hr
  have e : a = b := by
   rcases List.mem_cons.1 ((h a).1 (by simp)) with e | e
   ·exact e
   ·rcases List.mem_cons.1 ((h b).2 (by simp)) with e' | e'
    ·exact e'.symm
    ·have := r1 a e; have := l1 b e'; omega
  subst e
  rw [zqH l2 r2 fun x => ?_]
  constructor
  ·intro hx
   rcases List.mem_cons.1 ((h x).1 (List.mem_cons_of_mem _ hx)) with e | e
   ·have := l1 x hx; omega
   ·exact e
  ·intro hx
   rcases List.mem_cons.1 ((h x).2 (List.mem_cons_of_mem _ hx)) with e | e
   ·have := r1 x hx; omega
   exact e
theorem zzr {l : List Int} (x : Int) (hl : l.Pairwise (· < ·)) (hn : l.length ≤ 1000) : Rn (zfA l x) (fun r => r.Pairwise (· < ·) ∧ (∀ y, y ∈ r ↔ y ∈ l ∨ y = x) ∧ r.length ≤ l.length + 1) := by
 unfold zfA
 refine zac (ψ := fun v => ∃ k : Nat, v = (k : Int) ∧ k ≤ l.length ∧ (∀ j (h : j < l.length), j < k → l[j] < x) ∧ ∀ h : k < l.length, ¬ l[k] < x) (zeC (fun s => ∃ k : Nat, s = (k : Int) ∧ k ≤ l.length ∧ ∀ j (h : j < l.length), j < k → l[j] < x) (fun s => l.length - s.toNat) ⟨0, rfl, by omega, fun j h hj => by omega⟩ ?_) ?_
 ·rintro s ⟨k, rfl, h1, h2⟩
  by_cases hk : k < l.length
  ·refine zac (ψ := fun v => v = decide (l[k] < x)) (zeR (decide_eq_true (by omega)) (zaD hk (zab rfl))) ?_
   rintro _ rfl
   refine zam (fun g => zab ⟨⟨k + 1, ?_, by omega, fun j h hj => ?_⟩, ?_⟩) fun g => zab ⟨k, rfl, h1, h2, fun _ => of_decide_eq_false g⟩
   ·rw [zap (by omega) (by omega)]; rfl
   ·rcases Nat.lt_or_ge j k with c | c
    ·exact h2 j h c
    obtain rfl : j = k := by omega
    exact of_decide_eq_true g
   rw [zap (by omega) (by omega)]; omega
  refine zac (ψ := fun v => v = false) (zbu (decide_eq_false (by omega)) (zab rfl)) ?_
  rintro _ rfl
  exact zbu rfl (zab ⟨k, rfl, h1, h2, fun h => absurd h hk⟩)
 rintro _ ⟨k, rfl, h1, h2, h3⟩
 refine zac (ψ := fun v => (v = true → x ∈ l) ∧ (v = false → ∀ h : k < l.length, x < l[k])) ?_ fun v hv => ?_
 ·by_cases hk : k < l.length
  ·refine zeR (decide_eq_true (by omega)) (zaD hk (zab ⟨fun g => ?_, fun g h => ?_⟩))
   ·rw [← eq_of_beq g]; exact List.getElem_mem hk
   have := ne_of_beq_false g
   have := h3 hk
   omega
  exact zbu (decide_eq_false (by omega)) (zab ⟨fun g => (by cases g), fun _ h => absurd h hk⟩)
 refine zam (fun g => zab ⟨hl, fun y => ⟨.inl, fun h => ?_⟩, by omega⟩) fun g => ?_
 ·rcases h with h | rfl
  ·exact h
  exact hv.1 g
 have hgt := hv.2 g
 rw [List.drop_zero, List.take_length, show (k : Int).toNat = k from rfl]
 refine zaq (by omega) (zaq (by omega) (zaq (by simp; omega) (zaq (by simp; omega) (zaq (by omega) (zaq (by omega) (zaq (by simp; omega) (zab ⟨?_, fun y => ?_, by simp; omega⟩)))))))
 ·have ht : ∀ y ∈ l.take k, y < x := fun y hy => by
   obtain ⟨j, hj, rfl⟩ := List.getElem_of_mem hy
   rw [List.length_take] at hj
   rw [List.getElem_take]
   exact h2 j (by omega) (by omega)
  have hd : ∀ y ∈ l.drop k, x < y := fun y hy => by
   obtain ⟨j, hj, rfl⟩ := List.getElem_of_mem hy
   rw [List.length_drop] at hj
   rw [List.getElem_drop]
   have h0 := hgt (by omega)
   rcases Nat.eq_zero_or_pos j with rfl | c
   ·exact h0
   ·have := List.pairwise_iff_getElem.1 hl k (k + j) (by omega) (by omega) (by omega)
    omega
  rw [List.pairwise_append, List.pairwise_append]
  refine ⟨⟨hl.sublist (List.take_sublist _ _), by simp, fun a ha b hb => ?_⟩, hl.sublist (List.drop_sublist _ _), fun a ha b hb => ?_⟩
  ·rw [List.mem_singleton.1 hb]; exact ht a ha
  rcases List.mem_append.1 ha with ha | ha
  ·have := ht a ha; have := hd b hb; omega
  rw [List.mem_singleton.1 ha]; exact hd b hb
 rw [List.mem_append, List.mem_append, List.mem_singleton]
 constructor
 ·rintro ((h | h) | h)
  ·exact .inl (List.mem_of_mem_take h)
  ·exact .inr h
  exact .inl (List.mem_of_mem_drop h)
 rintro (h | h)
 ·rw [← List.take_append_drop k l] at h
  rcases List.mem_append.1 h with h | h
  ·exact .inl (.inl h)
  exact .inr h
 exact .inl (.inr h)
theorem zsB {gr : Group} {x : Int} {l : List Int} (k : OkG gr) (hx : 0 ≤ x) (hx2 : x ≤ 1000) (hl : ∀ y ∈ l, 0 ≤ y ∧ y ≤ 2000000000) : zb8 gr l x = some (l.foldl (atS gr x) (1, 1)).1 := by
 have hp := k.p
 have hq := k.q
 unfold zb8
 refine zaA (zac (ψ := fun r => r = (l.foldl (atS gr x) (1, 1)).1) (zay (fun i s => s = (l.take i).foldl (atS gr x) (1, 1) ∧ (0 ≤ s.1 ∧ s.1 ≤ 2000000000) ∧ 0 ≤ s.2 ∧ s.2 ≤ 2000000000) ⟨rfl, by omega, by omega⟩ ?_ ?_) fun r hr => zab hr)
 ·rintro i s hi ⟨hs, h1, h2⟩
  have hy := hl _ (List.getElem_mem hi)
  have hw := zcU k l[i] s.2
  have hb : ∀ z ∈ [s.1, zai gr l[i] s.2], 0 ≤ z ∧ z ≤ 2000000000 := by
   intro z hz
   rcases List.mem_cons.1 hz with rfl | hz
   ·exact h1
   ·rw [List.mem_singleton.1 hz]; omega
  have b1 : 0 ≤ s.2 * x := Int.mul_nonneg h2.1 hx
  have b2 : s.2 * x ≤ 2000000000 * 1000 := Int.mul_le_mul h2.2 hx2 hx (by omega)
  have b3 : 0 ≤ s.2 * x % gr.Q := Int.emod_nonneg _ (by omega)
  have b4 : s.2 * x % gr.Q < gr.Q := Int.emod_lt_of_pos _ (by omega)
  have hm := zmW k hb
  unfold zce
  rw [zeg hi, Option.bind_some, (zjO k hy.1 hy.2 _).1, Option.bind_some, zk1 k hb, Option.bind_some, zap (by omega) (by omega), zk4 (by omega) (by omega), Option.bind_some, Option.bind_some]
  refine ⟨_, rfl, ?_, ⟨hm.1, by show zdn gr _ ≤ _; omega⟩, b3, by show s.2 * x % gr.Q ≤ _; omega⟩
  rw [List.take_succ_eq_append_getElem hi, List.foldl_append, ← hs]; rfl
 rintro s ⟨hs, _⟩
 rw [List.take_length] at hs
 rw [hs]
def zrF (gr : Group) (l : List Int) (x v : Int) : Bool := zai gr gr.G v == (l.foldl (atS gr x) (1, 1)).1
theorem zmP {gr : Group} {x v : Int} {l : List Int} (k : OkG gr) (hx : 0 ≤ x) (hx2 : x ≤ 1000) (hl : ∀ y ∈ l, 0 ≤ y ∧ y ≤ 2000000000) : zeI gr l x v = some (zrF gr l x v) := by
 have hp := k.p
 have hg := k.g
 unfold zeI
 rw [zj7 k (by omega) (by omega), Option.bind_some, zvv k hx hx2 hl]
 rfl
def zo5 (gr : Group) (d : Dealing) (i : Nat) : Bool := !zrF gr d.Commits ((i : Int) + 1) (d.Shares.getD i 0)
def ze1 (gr : Group) (d : Dealing) (n : Nat) : List Int := ((List.range n).filter (zo5 gr d)).map fun i : Nat => (i : Int) + 1
theorem ztJ (gr : Group) (d : Dealing) (n : Nat) : ze1 gr d (n + 1) = ze1 gr d n ++ (if zo5 gr d n = true then [(n : Int) + 1] else []) := by
 unfold ze1
 rw [List.range_succ, List.filter_append, List.map_append]
 congr 1
 by_cases h : zo5 gr d n = true
 ·rw [if_pos h]; simp [h]
 rw [if_neg h]; simp [h]
theorem zpq (gr : Group) (d : Dealing) (n : Nat) : (ze1 gr d n).length ≤ n := by
 unfold ze1
 rw [List.length_map]
 exact Nat.le_trans (List.length_filter_le _ _) (by simp)
theorem zns {gr : Group} {d : Dealing} {n : Nat} : ∀ x ∈ ze1 gr d n, 1 ≤ x ∧ x ≤ n := by
 intro x hx
 unfold ze1 at hx
 obtain ⟨i, hi, rfl⟩ := List.mem_map.1 hx
 have := List.mem_range.1 (List.mem_filter.1 hi).1
 omega
theorem zwe {gr : Group} {d : Dealing} (hd : d.Shares.length ≤ 900) (E : Int → Int → Option Bool) (hE : ∀ x v, 0 ≤ x → x ≤ 1000 → E x v = some (zrF gr d.Commits x v)) : Rn (zas (fun i5 s4 =>
 (((ix d.Shares i5).bind fun x14 => (E (IntKind.i64.wrap (i5 + 1)) x14).bind fun z15 =>
   if (!z15) = true then (gd ((s4.length + 1) * 8 ≤ 140737488355328 ∧ s4.length + 1 ≤ 4611686018427387904) <| some (s4 ++ [IntKind.i64.wrap (i5 + 1)])) else (some s4) : Option (List Int))).bind fun x13 => some (.go x13)) (fun s4 => s4) d.Shares.length 0 []) (· = ze1 gr d d.Shares.length) := by
 refine zay (fun i s => s = ze1 gr d i) rfl ?_ fun s h => h
 rintro i s hi hs
 have hbl := zpq gr d i
 refine zac (ψ := fun r => r = ze1 gr d (i + 1)) ?_ fun r hr => zab hr
 rw [zap (by omega) (by omega)]
 refine zaD hi (zaf (hE _ _ (by omega) (by omega)) ?_)
 have e : zo5 gr d i = !zrF gr d.Commits ((i : Int) + 1) d.Shares[i] := by unfold zo5; rw [List.getD_eq_getElem?_getD, List.getElem?_eq_getElem hi]; rfl
 rw [ztJ, e, ← hs]
 refine zam (fun h => zaq (by rw [hs]; omega) (zab ?_)) fun h => zab ?_
 ·rw [if_pos h]
 rw [if_neg (by rw [h]; decide), List.append_nil]
theorem zsO {gr : Group} {d : Dealing} (k : OkG gr) (hd : d.Shares.length ≤ 900) (hl : ∀ y ∈ d.Commits, 0 ≤ y ∧ y ≤ 2000000000) : zfd gr d = some (ze1 gr d d.Shares.length) := by
 unfold zfd
 exact zaA (zac (zwe hd _ fun x v h1 h2 => zmP k h1 h2 hl) fun r hr => zab hr)
def dlV (gr : Group) (f : List Int) (n : Nat) : Dealing := ⟨f.map (zai gr gr.G), (zhC n).map (zaS gr.Q f)⟩
theorem zvW {gr : Group} (k : OkG gr) {f : List Int} (hf : ∀ x ∈ f, 0 ≤ x ∧ x ≤ 2000000000) (hl : f.length ≤ 1000) {n : Nat} (hn : n ≤ 1000) : ∀ (E W : Int → Option Int), (∀ x, E x = some (zai gr gr.G x)) → (∀ x, 0 ≤ x → x ≤ 1000 → W x = some (zaS gr.Q f x)) → Rn (((zas (σ := (List Int) × List Int) (fun i14 s13 => (ix f i14).bind fun x20 => (E x20).bind fun z21 =>
 gd ((s13.1.length + 1) * 8 ≤ 140737488355328 ∧ s13.1.length + 1 ≤ 4611686018427387904) <| some (.go (s13.1 ++ [z21], s13.2))) (fun s13 => (s13.1, s13.2)) (f.length) 0 ([], []) : Option ((List Int × List Int))).bind fun x3 =>
 ((zbc (σ := (List Int) × List Int × Int) (fun s36 => if decide (s36.2.2 ≤ (n : Int)) = true then ((W s36.2.2).bind fun z42 =>
 gd ((s36.2.1.length + 1) * 8 ≤ 140737488355328 ∧ s36.2.1.length + 1 ≤ 4611686018427387904) <| some (.go (s36.1, s36.2.1 ++ [z42], IntKind.i64.wrap (s36.2.2 + 1)))) else (some (.out (s36.1, s36.2.1)))) (x3.1, x3.2, 1) : Option ((List Int × List Int))).bind fun x28 => some (Dealing.mk x28.1 x28.2)))) (· = dlV gr f n) := by
 have hp := k.p
 have hq := k.q
 have hg := k.g
 intro E W hE hW
 refine zac (ψ := fun r => r = (f.map (zai gr gr.G), [])) (zay (fun j s => s = ((f.take j).map (zai gr gr.G), [])) rfl ?_ ?_) fun r hr => ?_
 ·rintro j s hj rfl
  refine zaD hj (zaf (hE _) (zaq (by simp; omega) (zab ?_)))
  show (_, _) = (_, _)
  rw [List.take_succ_eq_append_getElem hj, List.map_append]; rfl
 ·rintro s rfl
  rw [List.take_length]
 subst hr
 refine zac (ψ := fun x => x = (f.map (zai gr gr.G), (zhC n).map (zaS gr.Q f))) (zfv n (fun j s => s = (f.map (zai gr gr.G), (zhC j).map (zaS gr.Q f), (j : Int) + 1)) rfl ?_ ?_) fun x hx => zab (by rw [hx]; rfl)
 ·rintro j s hj rfl
  refine zeR (by simp; omega) (zaf (hW _ (by show 0 ≤ (j : Int) + 1; omega) (by show (j : Int) + 1 ≤ 1000; omega)) (zaq (by simp [zhC]; omega) (zab ?_)))
  show (_, _, _) = (_, _, _)
  rw [zap (by show -9223372036854775808 ≤ (j : Int) + 1 + 1; omega) (by show (j : Int) + 1 + 1 ≤ _; omega), zsL, List.map_append]
  simp
 rintro s rfl
 exact zbu (by simp; omega) (zab rfl)
theorem zwm {gr : Group} (k : OkG gr) {f : List Int} (hf : ∀ x ∈ f, 0 ≤ x ∧ x ≤ 2000000000) (hl : f.length ≤ 1000) {n : Nat} (hn : n ≤ 1000) : zfx gr f (n : Int) = some (dlV gr f n) := by
 have hp := k.p
 have hq := k.q
 have hg := k.g
 unfold zfx
 exact zaA (zvW k hf hl hn _ _ (fun x => zj7 k (by omega) (by omega) x) fun x h1 h2 => zm1 (by omega) (by omega) h1 (by omega) hf (by omega))
structure PlOk (gr : Group) (cs : List (List Int)) (fs : List Fault) : Prop where
 k : OkG gr
 q : 7 < gr.Q
 n : 1 ≤ cs.length ∧ cs.length ≤ 7
 t : 1 ≤ (cs.headD []).length ∧ (cs.headD []).length ≤ cs.length
 fl : fs.length ≤ 20
 c : ∀ f ∈ cs, f.length = (cs.headD []).length ∧ f.all (zdN gr) = true
 f : ∀ x ∈ fs, (1 ≤ x.Dealer ∧ x.Dealer ≤ cs.length) ∧ (1 ≤ x.Trustee ∧ x.Trustee ≤ cs.length) ∧ zdN gr x.Delta = true
open Classical in
noncomputable def plB (gr : Group) (cs : List (List Int)) (fs : List Fault) : Bool := decide (PlOk gr cs fs)
theorem zvE {gr : Group} {cs : List (List Int)} {fs : List Fault} : plB gr cs fs = true ↔ PlOk gr cs fs := by
 unfold plB; simp
def upF (gr : Group) (sh : List Int) (f : Fault) : List Int := sh.set (f.Trustee - 1).toNat ((sh.getD (f.Trustee - 1).toNat 0 + f.Delta) % gr.Q)
def zfh (gr : Group) (fs : List Fault) (i : Nat) (sh : List Int) : List Int := fs.foldl (fun s f => if f.Dealer = (i : Int) + 1 then upF gr s f else s) sh
def ze3 (fs : List Fault) (i : Nat) : Bool := fs.all fun f => !decide (f.Dealer = (i : Int) + 1) || f.Answers
def plD (gr : Group) (cs : List (List Int)) (fs : List Fault) (i : Nat) : Dealing := ⟨(cs.getD i []).map (zai gr gr.G), zfh gr fs i ((zhC cs.length).map (zaS gr.Q (cs.getD i [])))⟩
def plA (gr : Group) (cs : List (List Int)) (fs : List Fault) (i : Nat) : List Int := if ze3 fs i = true then (ze1 gr (plD gr cs fs i) cs.length).map (zaS gr.Q (cs.getD i [])) else []
noncomputable def plV (gr : Group) (cs : List (List Int)) (fs : List Fault) : List Dealing × List (List Int) × Bool := if plB gr cs fs = true then ((List.range cs.length).map (plD gr cs fs), (List.range cs.length).map (plA gr cs fs), true) else ([], [], false)
theorem zg2 {gr : Group} {x : Int} : zdN gr x = true ↔ 0 ≤ x ∧ x < gr.Q := by
 unfold zdN
 simp only [Bool.and_eq_true, decide_eq_true_eq]
 omega
theorem zAZ {gr : Group} (hq : 0 < gr.Q) {sh : List Int} (h : ∀ x ∈ sh, 0 ≤ x ∧ x < gr.Q) (f : Fault) : (upF gr sh f).length = sh.length ∧ ∀ x ∈ upF gr sh f, 0 ≤ x ∧ x < gr.Q := by
 refine ⟨by simp [upF], fun x hx => ?_⟩
 rcases List.mem_or_eq_of_mem_set hx with h1 | rfl
 ·exact h x h1
 exact ⟨Int.emod_nonneg _ (by omega), Int.emod_lt_of_pos _ hq⟩
theorem zqT {gr : Group} (hq : 0 < gr.Q) (i : Nat) : ∀ (fs : List Fault) {sh : List Int}, (∀ x ∈ sh, 0 ≤ x ∧ x < gr.Q) → (zfh gr fs i sh).length = sh.length ∧ ∀ x ∈ zfh gr fs i sh, 0 ≤ x ∧ x < gr.Q := by
 intro fs
 induction fs with
 | nil => intro sh h; exact ⟨rfl, h⟩
 | cons f fs ih =>
  intro sh h
  have e : zfh gr (f :: fs) i sh = zfh gr fs i (if f.Dealer = (i : Int) + 1 then upF gr sh f else sh) := rfl
  rw [e]
  split
  ·have := zAZ hq h f
   have h2 := ih this.2
   exact ⟨h2.1.trans this.1, h2.2⟩
  ·exact ih h
theorem znK (gr : Group) (fs : List Fault) (f : Fault) (i : Nat) (sh : List Int) : zfh gr (fs ++ [f]) i sh = if f.Dealer = (i : Int) + 1 then upF gr (zfh gr fs i sh) f else zfh gr fs i sh := by
 unfold zfh; rw [List.foldl_append]; rfl
theorem zpb (fs : List Fault) (f : Fault) (i : Nat) : ze3 (fs ++ [f]) i = (ze3 fs i && (!decide (f.Dealer = (i : Int) + 1) || f.Answers)) := by
 unfold ze3; rw [List.all_append]; simp
theorem zoF {gr : Group} (hq : 0 < gr.Q) (f : List Int) (n : Nat) : ((zhC n).map (zaS gr.Q f)).length = n ∧ ∀ x ∈ (zhC n).map (zaS gr.Q f), 0 ≤ x ∧ x < gr.Q := by
 refine ⟨by simp [zhC], fun x hx => ?_⟩
 obtain ⟨y, _, rfl⟩ := List.mem_map.1 hx
 exact zhe hq f y
theorem zte {gr : Group} {cs : List (List Int)} {fs : List Fault} (h : PlOk gr cs fs) {i : Nat} (hi : i < cs.length) :
 (plD gr cs fs i).Shares.length = cs.length ∧ (∀ x ∈ (plD gr cs fs i).Shares, 0 ≤ x ∧ x < gr.Q) ∧ (plD gr cs fs i).Commits.length = (cs.headD []).length ∧ ∀ x ∈ (plD gr cs fs i).Commits, zak gr x = true := by
 have hq := h.k.q
 have h1 := zoF (gr := gr) (by omega) (cs.getD i []) cs.length
 have h2 := zqT (gr := gr) (by omega) i fs h1.2
 have e : cs.getD i [] = cs[i] := by rw [List.getD_eq_getElem?_getD, List.getElem?_eq_getElem hi]; rfl
 have hc := h.c _ (List.getElem_mem hi)
 refine ⟨h2.1.trans h1.1, h2.2, by show ((cs.getD i []).map _).length = _; rw [List.length_map, e]; exact hc.1, fun x hx => ?_⟩
 obtain ⟨y, hy, rfl⟩ := List.mem_map.1 (show x ∈ (cs.getD i []).map _ from hx)
 rw [e] at hy
 exact zw6 h.k (zg2.1 (List.all_eq_true.1 hc.2 y hy)).1
theorem zho {gr : Group} (k : OkG gr) {l : List Int} (h : ∀ x ∈ l, zak gr x = true) : ∀ x ∈ l, 0 ≤ x ∧ x ≤ 2000000000 := zg3 k (List.all_eq_true.2 h)
theorem zvK {α : Type} {l : List (List α)} (h : 1 ≤ l.length) : ix l 0 = some (l.headD []) := by
 cases l with
 | nil => simp at h
 | cons x l => rfl
theorem zxS {gr : Group} (k : OkG gr) (v : Int) : zce gr v = some (v % gr.Q) := by
 have hp := k.p
 have hq := k.q
 unfold zce
 rw [zk4 (by omega) (by omega)]; rfl
theorem zob {gr : Group} {cs : List (List Int)} {fs : List Fault} (h : ¬ PlOk gr cs fs) : plV gr cs fs = ([], [], false) := by
 unfold plV
 rw [if_neg fun x => h (zvE.1 x)]
theorem zvM {gr : Group} {cs : List (List Int)} {fs : List Fault} (h : PlOk gr cs fs) : plV gr cs fs = ((List.range cs.length).map (plD gr cs fs), (List.range cs.length).map (plA gr cs fs), true) := by
 unfold plV
 rw [if_pos (zvE.2 h)]
theorem zb9 {α : Type} {l : List α} {d : α} {i : Nat} (h : i < l.length) : l.getD i d = l[i] := by
 rw [List.getD_eq_getElem?_getD, List.getElem?_eq_getElem h]; rfl
theorem zAn {gr : Group} (k : OkG gr) {f : List Int} (hf : ∀ x ∈ f, 0 ≤ x ∧ x ≤ 2000000000) (hl : f.length ≤ 1000) {l : List Int} (h : ∀ x ∈ l, 1 ≤ x ∧ x ≤ 1000) (hl2 : l.length ≤ 1000) (w : Bool) (E : Int → Option Int) (hE : ∀ x, 0 ≤ x → x ≤ 1000 → E x = some (zaS gr.Q f x)) :
 Rn (zas (fun i196 s195 => (((ix l i196).bind fun x205 => if w = true then ((E x205).bind fun z207 => gd ((s195.length + 1) * 8 ≤ 140737488355328 ∧ s195.length + 1 ≤ 4611686018427387904) <| some (s195 ++ [z207])) else (some s195) : Option (List Int))).bind fun x204 => some (.go x204)) (fun s195 => s195) l.length 0 []) (· = if w = true then l.map (zaS gr.Q f) else []) := by
 refine zay (fun i s => s = if w = true then (l.take i).map (zaS gr.Q f) else []) (by simp) ?_ ?_
 ·rintro i s hi rfl
  have hx := h _ (List.getElem_mem hi)
  refine zac (ψ := fun r => r = if w = true then (l.take (i + 1)).map (zaS gr.Q f) else []) (zaD hi ?_) fun r hr => zab hr
  refine zam (fun hw => zaf (hE _ (by omega) (by omega)) (zaq ?_ (zab ?_))) fun hw => zab ?_
  ·rw [if_pos hw]; simp; omega
  ·rw [if_pos hw, if_pos hw, List.take_succ_eq_append_getElem hi, List.map_append]; rfl
  rw [hw]; simp
 rintro s rfl
 rw [List.take_length]
theorem zpz {gr : Group} (k : OkG gr) {l : List Int} (h : l.all (zdN gr) = true) : ∀ x ∈ l, 0 ≤ x ∧ x ≤ 2000000000 := fun x hx => by
 have hp := k.p
 have hq := k.q
 have := zg2.1 (List.all_eq_true.1 h x hx)
 omega
theorem zj1 {α : Type} {f g : Nat → α} {n d : Nat} (h : ∀ i, i < n → i ≠ d → g i = f i) : ((List.range n).map f).set d (g d) = (List.range n).map g := by
 apply List.ext_getElem (by simp)
 intro i h1 h2
 have hi : i < n := by simpa using h2
 rw [List.getElem_set]
 split
 ·rename_i e; subst e; simp
 rename_i e; simp [h i hi fun x => e x.symm]
theorem zv3 (gr : Group) (cs : List (List Int)) (fs : List Fault) : zdG gr cs fs = some (plV gr cs fs) := by
 unfold zdG
 refine zaA (zac (ψ := fun b => b = false ↔ (OkG gr ∧ 7 < gr.Q ∧ (1 ≤ cs.length ∧ cs.length ≤ 7) ∧ (1 ≤ (cs.headD []).length ∧ (cs.headD []).length ≤ cs.length) ∧ fs.length ≤ 20)) ?_ fun b hb => ?_)
 ·refine zaf (zgf gr) (zam (fun h => zab ⟨fun x => (by cases x), fun x => ?_⟩) fun h => ?_)
  ·rw [zfN.2 x.1, decide_eq_true x.2.1] at h; cases h
  have h : okG gr = true ∧ 7 < gr.Q := by simpa using h
  refine zaf (zor _ _ _) (zam (fun h2 => zab ⟨fun x => (by cases x), fun x => ?_⟩) fun h2 => ?_)
  ·rw [ziG.2 (by omega)] at h2; cases h2
  have h2 := ziG.1 (show inB 1 7 (cs.length : Int) = true by simpa using h2)
  refine zaf (zvK (by omega)) (zaf (zor _ _ _) (zam (fun h3 => zab ⟨fun x => (by cases x), fun x => ?_⟩) fun h3 => zab ?_))
  ·rw [ziG.2 (by omega)] at h3; cases h3
  have h3 := ziG.1 (show inB 1 (cs.length : Int) (cs.headD []).length = true by simpa using h3)
  rw [decide_eq_false_iff_not]
  exact ⟨fun x => ⟨zfN.1 h.1, h.2, by omega, by omega, by omega⟩, fun x => by omega⟩
 refine zam (fun h => zab ?_) fun h => ?_
 ·rw [zob fun P => by have := hb.2 ⟨P.k, P.q, P.n, P.t, P.fl⟩; rw [h] at this; cases this]
 obtain ⟨k, q7, hn, ht, hfl⟩ := hb.1 h
 have hp := k.p
 have hq := k.q
 let shs : Nat → List Int := fun i => (zhC cs.length).map (zaS gr.Q (cs.getD i []))
 refine zac (ψ := fun r => (r = .inl ((List.range cs.length).map fun i => dlV gr (cs.getD i []) cs.length) ∧ ∀ f ∈ cs, f.length = (cs.headD []).length ∧ f.all (zdN gr) = true) ∨ (r = .inr ([], [], false) ∧ ¬ PlOk gr cs fs))
  (zay (fun j s => s = ((List.range j).map fun i => dlV gr (cs.getD i []) cs.length) ∧ ∀ f ∈ cs.take j, f.length = (cs.headD []).length ∧ f.all (zdN gr) = true) ⟨rfl, fun f hf => by simp at hf⟩ ?_ ?_) fun r hr => ?_
 ·rintro i s hi ⟨rfl, hs⟩
  refine zaD hi (zac (ψ := fun b => b = false ↔ (cs[i].length = (cs.headD []).length ∧ cs[i].all (zdN gr) = true)) ?_ fun b hb => ?_)
  ·refine zaf (zvK (by omega)) (zam (fun h => zab ⟨fun x => (by cases x), fun x => ?_⟩) fun h => zaf (zkR (by omega) (by omega) _) (zab ?_))
   ·rw [x.1] at h; simp at h
   have h : cs[i].length = (cs.headD []).length := by
    have := bne_eq_false_iff_eq.1 h; omega
   rw [Bool.not_eq_false']
   exact ⟨fun x => ⟨h, x⟩, fun x => x.2⟩
  refine zam (fun h => zab (.inr ⟨rfl, fun P => ?_⟩)) fun h => ?_
  ·have := hb.2 (P.c _ (List.getElem_mem hi)); rw [h] at this; cases this
  have hc := hb.1 h
  refine zaf (zwm k (zpz k hc.2) (by omega) (by omega)) (zaq (by simp; omega) (zab ⟨?_, fun f hf => ?_⟩))
  ·rw [List.range_succ, List.map_append, List.map_singleton, zb9 hi]
  rw [List.take_succ_eq_append_getElem hi] at hf
  rcases List.mem_append.1 hf with hf | hf
  ·exact hs f hf
  rw [List.mem_singleton.1 hf]; exact hc
 ·rintro s ⟨rfl, hs⟩
  rw [List.take_length] at hs
  exact .inl ⟨rfl, hs⟩
 rcases hr with ⟨rfl, hcs⟩ | ⟨rfl, hno⟩
 case inr => exact zab (by rw [zob hno])
 show Rn (gd _ _) _
 refine zaq (by omega) (zaf rfl ?_)
 let ds : List Fault → List Dealing := fun l => (List.range cs.length).map fun i => ⟨(cs.getD i []).map (zai gr gr.G), zfh gr l i (shs i)⟩
 let sl : List Fault → List Bool := fun l => (List.range cs.length).map fun i => !ze3 l i
 refine zac (ψ := fun r => (r = .inl (ds fs, sl fs) ∧ PlOk gr cs fs) ∨ (r = .inr ([], [], false) ∧ ¬ PlOk gr cs fs))
  (zay (fun j s => s = (ds (fs.take j), sl (fs.take j)) ∧ ∀ x ∈ fs.take j, (1 ≤ x.Dealer ∧ x.Dealer ≤ cs.length) ∧ (1 ≤ x.Trustee ∧ x.Trustee ≤ cs.length) ∧ zdN gr x.Delta = true) ⟨?_, fun f hf => by simp at hf⟩ ?_ ?_) fun r hr => ?_
 ·show (_, _) = (_, _)
  have : sl (fs.take 0) = List.replicate cs.length false := by
   apply List.ext_getElem (by simp [sl])
   intro i h1 h2
   simp [sl, ze3]
  rw [this]; rfl
 ·rintro j s hj ⟨rfl, hs⟩
  refine zac (ψ := fun x => (x = .inl (ds (fs.take (j + 1)), sl (fs.take (j + 1))) ∧ ((1 ≤ fs[j].Dealer ∧ fs[j].Dealer ≤ cs.length) ∧ (1 ≤ fs[j].Trustee ∧ fs[j].Trustee ≤ cs.length) ∧ zdN gr fs[j].Delta = true)) ∨ (x = .inr (.out (.inr ([], [], false))) ∧ ¬ PlOk gr cs fs)) ?_ fun x hx => ?_
  ·refine zaD hj (zac (ψ := fun b => b = false ↔ ((1 ≤ fs[j].Dealer ∧ fs[j].Dealer ≤ cs.length) ∧ (1 ≤ fs[j].Trustee ∧ fs[j].Trustee ≤ cs.length) ∧ zdN gr fs[j].Delta = true)) ?_ fun b hb => ?_)
   ·refine zaf (zor _ _ _) (zam (fun h => zab ⟨fun x => (by cases x), fun x => ?_⟩) fun h => zaf (zor _ _ _) (zam (fun h2 => zab ⟨fun x => (by cases x), fun x => ?_⟩) fun h2 => zaf (zkR (by omega) (by omega) _) (zab ?_)))
    ·rw [ziG.2 x.1] at h; cases h
    ·rw [ziG.2 x.2.1] at h2; cases h2
    have h := ziG.1 (show inB 1 (cs.length : Int) fs[j].Dealer = true by simpa using h)
    have h2 := ziG.1 (show inB 1 (cs.length : Int) fs[j].Trustee = true by simpa using h2)
    rw [Bool.not_eq_false', List.all_cons, List.all_nil, Bool.and_true]
    exact ⟨fun x => ⟨h, h2, x⟩, fun x => x.2.2⟩
   refine zam (fun h => zab (.inr ⟨rfl, fun P => ?_⟩)) fun h => ?_
   ·have := hb.2 (P.f _ (List.getElem_mem hj)); rw [h] at this; cases this
   obtain ⟨h1, h2, h3⟩ := hb.1 h
   have hd := zg2.1 h3
   obtain ⟨d, hd1⟩ := Int.eq_ofNat_of_zero_le (show 0 ≤ fs[j].Dealer - 1 by omega)
   have hdn : d < cs.length := by omega
   rw [zap (by omega) (by omega), zap (n := fs[j].Trustee - 1) (by omega) (by omega), hd1]
   have S := zqT (gr := gr) (by omega) d (fs.take j) (zoF (gr := gr) (by omega) (cs.getD d []) cs.length).2
   rw [(zoF (gr := gr) (by omega) (cs.getD d []) cs.length).1] at S
   have hlt : (fs[j].Trustee - 1).toNat < (zfh gr (fs.take j) d (shs d)).length := by show _ < (zfh _ _ _ _).length; rw [S.1]; omega
   have hv := S.2 _ (List.getElem_mem hlt)
   refine zaD (k := d) (l := ds (fs.take j)) (by simp [ds]; exact hdn) ?_
   have e0 : (ds (fs.take j))[d]'(by simp [ds]; exact hdn) = ⟨(cs.getD d []).map (zai gr gr.G), zfh gr (fs.take j) d (shs d)⟩ := by simp [ds]
   rw [e0]
   refine zaf (zzt (l := zfh gr (fs.take j) d (shs d)) (by omega) (by omega)) (zaq (by omega) ?_)
   refine zaD (k := d) (l := sl (fs.take j)) (by simp [sl]; exact hdn) ?_
   have e1 : (sl (fs.take j))[d]'(by simp [sl]; exact hdn) = !ze3 (fs.take j) d := by simp [sl]
   rw [e1, zap (by omega) (by omega), Int.tmod_eq_emod_of_nonneg (by omega)]
   have hD : ∀ i : Nat, fs[j].Dealer = (i : Int) + 1 ↔ i = d := fun i => by omega
   have g1 : ds (fs.take (j + 1)) = (ds (fs.take j)).set d ⟨(cs.getD d []).map (zai gr gr.G), (zfh gr (fs.take j) d (shs d)).set (fs[j].Trustee - 1).toNat (((zfh gr (fs.take j) d (shs d))[(fs[j].Trustee - 1).toNat] + fs[j].Delta) % gr.Q)⟩ := by
    have := zj1 (n := cs.length) (d := d) (f := fun i => (⟨(cs.getD i []).map (zai gr gr.G), zfh gr (fs.take j) i (shs i)⟩ : Dealing)) (g := fun i => (⟨(cs.getD i []).map (zai gr gr.G), zfh gr (fs.take (j + 1)) i (shs i)⟩ : Dealing)) fun i _ hi => by
     rw [List.take_succ_eq_append_getElem hj, znK, if_neg fun x => hi ((hD i).1 x)]
    show (List.range cs.length).map _ = _
    rw [← this, List.take_succ_eq_append_getElem hj, znK, if_pos ((hD d).2 rfl)]
    unfold upF; rw [zb9 hlt]
   have g2 : sl (fs.take (j + 1)) = (sl (fs.take j)).set d (!(ze3 (fs.take j) d && fs[j].Answers)) := by
    have := zj1 (n := cs.length) (d := d) (f := fun i => !ze3 (fs.take j) i) (g := fun i => !ze3 (fs.take (j + 1)) i) fun i _ hi => by
     rw [List.take_succ_eq_append_getElem hj, zpb, decide_eq_false fun x => hi ((hD i).1 x)]; simp
    show (List.range cs.length).map _ = _
    rw [← this, List.take_succ_eq_append_getElem hj, zpb, decide_eq_true ((hD d).2 rfl)]; rfl
   rw [g1, g2]
   refine zam (fun w => zab (.inl ⟨?_, h1, h2, h3⟩)) fun w => zab (.inl ⟨?_, h1, h2, h3⟩)
   ·have w : ze3 (fs.take j) d = false := by simpa using w
    rw [w]; rfl
   have w : ze3 (fs.take j) d = true := by simpa using w
   rw [w]; rfl
  rcases hx with ⟨rfl, hv⟩ | ⟨rfl, hno⟩
  ·refine zab ⟨rfl, fun f hf => ?_⟩
   rw [List.take_succ_eq_append_getElem hj] at hf
   rcases List.mem_append.1 hf with hf | hf
   ·exact hs f hf
   rw [List.mem_singleton.1 hf]; exact hv
  exact zab (.inr ⟨rfl, hno⟩)
 ·rintro s ⟨rfl, hs⟩
  rw [List.take_length] at hs ⊢
  exact .inl ⟨rfl, ⟨k, q7, hn, ht, hfl, hcs, hs⟩⟩
 rcases hr with ⟨rfl, P⟩ | ⟨rfl, hno⟩
 case inr => exact zab (by rw [zob hno])
 rw [zvM P]
 have eds : ds fs = (List.range cs.length).map (plD gr cs fs) := rfl
 show Rn (Option.bind _ _) _
 refine zac (ψ := fun r => r = (List.range cs.length).map (plA gr cs fs)) ?_ fun r hr => zab (by rw [hr, eds])
 have hlen : (ds fs).length = cs.length := by simp [ds]
 rw [hlen]
 refine zay (fun i s => s = (List.range i).map (plA gr cs fs)) rfl ?_ fun s hs => hs
 rintro i s hi rfl
 have hc := hcs _ (List.getElem_mem hi)
 have hf := zpz k hc.2
 have e : cs.getD i [] = cs[i] := zb9 hi
 have D := zte P hi
 refine zaD (l := ds fs) (by rw [hlen]; exact hi) ?_
 have e0 : (ds fs)[i]'(by rw [hlen]; exact hi) = plD gr cs fs i := by simp [ds]; rfl
 rw [e0]
 refine zaf (zsO k (by omega) (zho k D.2.2.2)) ?_
 rw [D.1]
 have hbl := zpq gr (plD gr cs fs i) cs.length
 have A := zAn k hf (by omega) (l := ze1 gr (plD gr cs fs i) cs.length) (fun x hx => by have := zns x hx; omega) (by omega) (ze3 fs i) (zd6 gr.Q cs[i]) fun x h1 h2 => zm1 (by omega) (by omega) h1 (by omega) hf (by omega)
 refine zac (ψ := fun r => r = plA gr cs fs i) ?_ fun r hr => zaq (by simp; omega) (zab ?_)
 ·have : plA gr cs fs i = if ze3 fs i = true then (ze1 gr (plD gr cs fs i) cs.length).map (zaS gr.Q cs[i]) else [] := by unfold plA; rw [e]
  rw [this]
  refine (zay (fun j s => s = if ze3 fs i = true then ((ze1 gr (plD gr cs fs i) cs.length).take j).map (zaS gr.Q cs[i]) else []) (by simp) ?_ ?_)
  ·rintro j s hj rfl
   have hx := zns _ (List.getElem_mem hj)
   refine zac (ψ := fun r => r = if ze3 fs i = true then ((ze1 gr (plD gr cs fs i) cs.length).take (j + 1)).map (zaS gr.Q cs[i]) else []) (zaD hj (zaD (k := i) (l := sl fs) (by simp [sl]; exact hi) ?_)) fun r hr => zab hr
   have e1 : (sl fs)[i]'(by simp [sl]; exact hi) = !ze3 fs i := by simp [sl]
   rw [e1]
   refine zam (fun w => ?_) fun w => zab ?_
   ·have w : ze3 fs i = true := by simpa using w
    refine zaD hi (zaf (zm1 (by omega) (by omega) (by omega) (by omega) hf (by omega)) (zaq ?_ (zab ?_)))
    ·rw [if_pos w]; simp; omega
    rw [if_pos w, if_pos w, List.take_succ_eq_append_getElem hj, List.map_append]; rfl
   have w : ze3 fs i = false := by simpa using w
   rw [w]; simp
  rintro s rfl
  rw [List.take_length]
 subst hr
 show _ = _
 rw [List.range_succ, List.map_append, List.map_singleton]
theorem zgk {code c0 : List Int} {at_ seed n : Int} {m : Nat} (hb : Bt code) (h : Cu code n (c0, at_, seed)) (hn : n ≤ 8000000000000000) (hm : 1 ≤ m) : Rn (zah c0 at_ seed (m : Int)) (fun z => (∃ i : Nat, z.1 = (i : Int) ∧ i < m) ∧ Cu code (n + 2) z.2) := by
 obtain ⟨z, h1, h2, h3, h4, _, h5⟩ := zer (m := (m : Int)) hb h hn
 obtain ⟨i, hi⟩ := Int.eq_ofNat_of_zero_le h2
 refine ⟨z, h1, ⟨i, hi, ?_⟩, h5⟩
 rcases Nat.lt_or_ge 1 m with h6 | h6
 ·have := h4 (by omega); omega
 have := h3 (by omega); omega
def lp (k : Nat) (p : Proof) : Prop := p.Commits.length ≤ k ∧ p.Challenges.length ≤ k ∧ p.Responses.length ≤ k
theorem zkL {code : List Int} {n : Int} {k : Nat} {c : List Int × Int × Int} {a b d : List Int} (hb : Bt code) (hc : Cu code n c) (hn : n ≤ 5000000000000000) (ha : a.length ≤ k) (hb2 : b.length ≤ k) (hd : d.length ≤ k) (hk : k ≤ 100000) :
 Rn ((zah c.1 c.2.1 c.2.2 10).bind fun z16 =>
  ((if (z16.1 == 0) = true then (gd ((a.length + 1) * 8 ≤ 140737488355328 ∧ a.length + 1 ≤ 4611686018427387904) <| some (a ++ [1], b, d)) else (if (z16.1 == 1) = true then (some (a, b, [])) else (if (z16.1 == 2) = true then (gd ((b.length + 1) * 8 ≤ 140737488355328 ∧ b.length + 1 ≤ 4611686018427387904) <| some (a, b ++ [0], d)) else (some (a, b, d)))) : Option ((List Int × List Int × List Int))).bind fun x19 =>
  some ((Proof.mk x19.1 x19.2.1 x19.2.2), (z16.2.1, z16.2.2.1, z16.2.2.2)))) (fun z => lp (k + 1) z.1 ∧ Cu code (n + 2) z.2) := by
 refine zac (zer hb hc (by omega)) fun z ⟨_, _, _, _, z5⟩ => ?_
 refine zac (ψ := fun (r : List Int × List Int × List Int) => r.1.length ≤ k + 1 ∧ r.2.1.length ≤ k + 1 ∧ r.2.2.length ≤ k + 1) (zam (fun _ => zaq (by omega) (zab ⟨by simp; omega, by show b.length ≤ _; omega, by show d.length ≤ _; omega⟩)) fun _ => zam (fun _ => zab ⟨by show a.length ≤ _; omega, by show b.length ≤ _; omega, by simp⟩) fun _ => zam (fun _ => zaq (by omega) (zab ⟨by show a.length ≤ _; omega, by simp; omega, by show d.length ≤ _; omega⟩)) fun _ => zab ⟨by show a.length ≤ _; omega, by show b.length ≤ _; omega, by show d.length ≤ _; omega⟩) fun r hr => zab ⟨hr, z5⟩
theorem zlW {code : List Int} {n : Int} {gr : Group} {c : List Int × Int × Int} {l : List Int} {β : Type} {f : List Int → β} (hb : Bt code) (hc : Cu code n c) (hn : n ≤ 4000000000000000) (hg : Gw gr) (hl : l.length ≤ 100000) :
 Rn (if decide (0 < (l.length : Int)) = true then ((zah c.1 c.2.1 c.2.2 (l.length : Int)).bind fun z11 => (ix l z11.1).bind fun x12 => (zaE z11.2.1 z11.2.2.1 z11.2.2.2 gr).bind fun z13 => (zat z13.2.1 z13.2.2.1 z13.2.2.2 gr).bind fun z14 =>
  (zan z14.2.1 z14.2.2.1 z14.2.2.2 [z13.1, z14.1, (-1), gr.Q, IntKind.i64.wrap (x12 + 1)]).bind fun z15 => some ((z15.2.1, z15.2.2.1, z15.2.2.2), f (l.set z11.1.toNat z15.1))) else (some ((c.1, c.2.1, c.2.2), f l))) (fun x => (∃ l', l'.length = l.length ∧ x.2 = f l') ∧ Cu code (n + 12) x.1) := by
 have hq := hg.q
 refine zam (fun h => ?_) fun _ => zab ⟨⟨l, rfl, rfl⟩, hc.mono (by omega)⟩
 have h := of_decide_eq_true h
 refine zac (zgk hb hc (by omega) (by omega)) fun z ⟨⟨i, hi, hl'⟩, z2⟩ => ?_
 rw [hi]
 refine zaD hl' (zac (zh8 hb z2 (by omega) (by omega)) fun y ⟨_, _, _, y4⟩ => zac (zhs hb y4 (by omega) hg) fun x ⟨_, _, x3⟩ => zac (zeF hb x3 (by omega) (by simp)) fun w ⟨_, w2⟩ => zab ⟨⟨_, ?_, rfl⟩, w2.mono (by omega)⟩)
 simp
theorem zyn {code c0 : List Int} {at_ seed n : Int} {gr : Group} {p : Proof} {k : Nat} (hb : Bt code) (h : Cu code n (c0, at_, seed)) (hn : n ≤ 3000000000000000) (hg : Gw gr) (hp : lp k p) (hk : k ≤ 100000) :
 Rn (zcC c0 at_ seed gr p) (fun z => lp (k + 1) z.1 ∧ Cu code (n + 30) z.2) := by
 obtain ⟨p1, p2, p3⟩ := hp
 unfold zcC
 rw [zg8 (by omega), Option.bind_some, zg8 (by omega), Option.bind_some, zg8 (by omega), Option.bind_some]
 refine zac (ziy hb h (by omega)) fun z z1 => zam (fun _ => zab ⟨⟨by show p.Commits.length ≤ _; omega, by show p.Challenges.length ≤ _; omega, by show p.Responses.length ≤ _; omega⟩, z1.mono (by omega)⟩) fun _ => ?_
 refine zac (zgk (m := 3) hb z1 (by omega) (by omega)) fun y ⟨⟨i, hi, h3⟩, y2⟩ => ?_
 refine zam (fun _ => ?_) fun h0 => zam (fun _ => ?_) fun h1 => zam (fun _ => ?_) fun h2 => ?_
 ·refine zac (zlW (c := y.2) (f := fun l => (l, p.Challenges, p.Responses)) hb y2 (by omega) hg (by omega)) fun x ⟨⟨l, e1, e2⟩, x2⟩ => ?_
  rw [e2]
  exact zkW (zkL (k := k) hb x2 (by omega) (by show l.length ≤ k; omega) p2 p3 hk) fun z hz => ⟨hz.1, hz.2.mono (by omega)⟩
 ·refine zac (zlW (c := y.2) (f := fun l => (p.Commits, l, p.Responses)) hb y2 (by omega) hg (by omega)) fun x ⟨⟨l, e1, e2⟩, x2⟩ => ?_
  rw [e2]
  exact zkW (zkL (k := k) hb x2 (by omega) p1 (by show l.length ≤ k; omega) p3 hk) fun z hz => ⟨hz.1, hz.2.mono (by omega)⟩
 ·refine zac (zlW (c := y.2) (f := fun l => (p.Commits, p.Challenges, l)) hb y2 (by omega) hg (by omega)) fun x ⟨⟨l, e1, e2⟩, x2⟩ => ?_
  rw [e2]
  exact zkW (zkL (k := k) hb x2 (by omega) p1 p2 (by show l.length ≤ k; omega) hk) fun z hz => ⟨hz.1, hz.2.mono (by omega)⟩
 rw [hi] at h0 h1 h2
 have h0 : ¬ (i : Int) = 0 := by simpa using h0
 have h1 : ¬ (i : Int) = 1 := by simpa using h1
 have h2 : ¬ (i : Int) = 2 := by simpa using h2
 omega
def R9 (x : Int) : Prop := 0 ≤ x ∧ x ≤ 2000000000
theorem zhL {gr : Group} (k : OkG gr) {x : Int} (h : zak gr x = true) : R9 x := by
 have := zib h; have := k.p; exact ⟨by omega, by omega⟩
theorem zdY {gr : Group} (k : OkG gr) (x e : Int) : R9 (zai gr x e) := by
 have := zcU k x e; have := k.p; exact ⟨by omega, by omega⟩
theorem zsg {x y : Int} (hx : R9 x) (hy : R9 y) : ∀ z ∈ [x, y], 0 ≤ z ∧ z ≤ 2000000000 := by
 intro z hz
 simp only [List.mem_cons, List.not_mem_nil, or_false] at hz
 rcases hz with rfl | rfl
 ·exact hx
 exact hy
theorem zAz {gr : Group} (k : OkG gr) {l : List Int} (h : ∀ x ∈ l, 0 ≤ x ∧ x ≤ 2000000000) : R9 (zdn gr l) := by
 have := zmW k h; have := k.p; exact ⟨by omega, by omega⟩
theorem zyF {gr : Group} (k : OkG gr) {x y : Int} (hx : R9 x) (hy : R9 y) : R9 (zdn gr [x, y]) := zAz k (zsg hx hy)
theorem zsc {l : List Int} (h : ∀ x ∈ l, R9 x) : l.all zb6 = true := List.all_eq_true.2 fun x hx => zef.2 ⟨(h x hx).1, by have := (h x hx).2; omega⟩
theorem m2I {gr : Group} (k : OkG gr) {x y : Int} (hx : R9 x) (hy : R9 y) : zbk gr [x, y] = some (zdn gr [x, y]) := zk1 k (zsg hx hy)
theorem m2S {gr : Group} (k : OkG gr) {x y : Int} (hx : R9 x) (hy : R9 y) : zcY gr [x, y] = some (zdn gr [x, y]) := zoN k (zsg hx hy)
theorem pwI {gr : Group} (k : OkG gr) {x : Int} (hx : R9 x) (e : Int) : zba gr x e = some (zai gr x e) := (zjO k hx.1 hx.2 e).1
theorem pwS {gr : Group} (k : OkG gr) {x : Int} (hx : R9 x) (e : Int) : zaP gr x e = some (zai gr x e) := (zjO k hx.1 hx.2 e).2
theorem r_G {gr : Group} (k : OkG gr) : R9 gr.G := zhL k (zgt k)
theorem zoP {gr : Group} (k : OkG gr) {n : Nat} (h0 : n < gr.P.toNat) (h : n ^ gr.Q.toNat % gr.P.toNat = 1) : zak gr (n : Int) = true := by
 have hp := k.p
 have hq := k.q
 have h1 : 1 ≤ n := by
  rcases Nat.eq_zero_or_pos n with h2 | h2
  ·rw [h2, Nat.zero_pow (by omega), Nat.zero_mod] at h; omega
  ·exact h2
 simp only [zak, Bool.and_eq_true, decide_eq_true_eq]
 exact ⟨⟨by omega, by omega⟩, by rw [Int.toNat_natCast]; exact h⟩
theorem zi8 {gr : Group} (k : OkG gr) {x : Int} (hx : zak gr x = true) (e : Int) : zak gr (zai gr x e) = true := by
 have hp := k.p
 refine zoP k (Nat.mod_lt _ (by omega)) ?_
 rw [← Nat.pow_mod, ← Nat.pow_mul, Nat.mul_comm, Nat.pow_mul, Nat.pow_mod, (zjj hx).2.2, Nat.one_pow, Nat.mod_eq_of_lt (by omega)]
theorem zyL {gr : Group} (k : OkG gr) {x y : Int} (hx : zak gr x = true) (hy : zak gr y = true) : zak gr (zdn gr [x, y]) = true := by
 have hp := k.p
 have bx := zib hx
 have by' := zib hy
 rw [zja k ⟨by omega, by omega⟩ (by omega)]
 obtain ⟨a, rfl⟩ := Int.eq_ofNat_of_zero_le (show 0 ≤ x by omega)
 obtain ⟨b, rfl⟩ := Int.eq_ofNat_of_zero_le (show 0 ≤ y by omega)
 obtain ⟨p, hP⟩ := Int.eq_ofNat_of_zero_le (show 0 ≤ gr.P by omega)
 have h1 := (zjj hx).2.2
 have h2 := (zjj hy).2.2
 rw [Int.toNat_natCast] at h1 h2
 have e : ((a : Int) * (b : Int)) % gr.P = ((a * b % gr.P.toNat : Nat) : Int) := by rw [hP, Int.toNat_natCast, Int.natCast_emod, Int.natCast_mul]
 rw [e]
 refine zoP k (Nat.mod_lt _ (by omega)) ?_
 rw [← Nat.pow_mod, Nat.mul_pow, Nat.mul_mod, h1, h2, Nat.mod_eq_of_lt (by omega)]
theorem zw8 {gr : Group} (k : OkG gr) : zak gr 1 = true := by
 have hp := k.p
 exact zoP (n := 1) k (by omega) (by rw [Nat.one_pow, Nat.mod_eq_of_lt (by omega)])
theorem zuM {p a b : Int} (h : a % p = b % p) : (a - b) % p = 0 := by rw [Int.sub_emod, h, Int.sub_self, Int.zero_emod]
def E9 (q x : Int) : Prop := 0 ≤ x ∧ x < q
theorem zxV {q a z t : Int} (hq : q ≤ 2000000000) (ha : E9 q a) (hz : E9 q z) (ht : E9 q t) : IntKind.i64.wrap (a + IntKind.i64.wrap (z * t)) = a + z * t ∧ (IntKind.i64.wrap (a + IntKind.i64.wrap (z * t))).tmod q = (a + z * t) % q := by
 obtain ⟨a1, a2⟩ := ha
 obtain ⟨z1, z2⟩ := hz
 obtain ⟨t1, t2⟩ := ht
 have h1 : 0 ≤ z * t := Int.mul_nonneg z1 t1
 have h2 : z * t ≤ 2000000000 * 2000000000 := Int.mul_le_mul (by omega) (by omega) t1 (by omega)
 rw [zap (n := z * t) (by omega) (by omega), zap (n := a + z * t) (by omega) (by omega)]
 exact ⟨rfl, Int.tmod_eq_emod_of_nonneg (by omega)⟩
theorem zfF {α : Type} {l : List α} {P : α → Prop} (h : ∀ x ∈ l, P x) {i : Nat} (hi : i < l.length) : P l[i] := h _ (List.getElem_mem hi)
theorem zvF {gr : Group} (k : OkG gr) : ∀ (l m : List Int) (o : Int), 0 ≤ o ∧ o < gr.P → R9 (zb7 gr l m o)
 | [], _, o, h => by have := k.p; unfold zb7; exact ⟨h.1, by omega⟩
 | _ :: _, [], o, h => by have := k.p; unfold zb7; exact ⟨h.1, by omega⟩
 | x :: l, e :: m, o, h => by
  have := k.p
  unfold zb7
  exact zvF k l m _ ⟨Int.emod_nonneg _ (by omega), Int.emod_lt_of_pos _ (by omega)⟩
theorem zx9 {gr : Group} (k : OkG gr) (l m : List Int) : R9 (zb7 gr l m 1) := zvF k l m 1 (by have := k.p; exact ⟨by omega, by omega⟩)
def IsP (n : Nat) (h : Int → Int) : Prop := ∃ c : List Int, c.length ≤ n ∧ ∀ x, evI c x = h x
theorem ztA : ∀ (a b : List Int), ∃ c : List Int, c.length = max a.length b.length ∧ ∀ x, evI c x = evI a x + evI b x
 | [], b => ⟨b, by simp, fun x => by simp [evI]⟩
 | a :: l, [] => ⟨a :: l, by simp, fun x => by simp [evI]⟩
 | a :: l, b :: m => by
  obtain ⟨c, h1, h2⟩ := ztA l m
  refine ⟨(a + b) :: c, by simp [h1], fun x => ?_⟩
  rw [zdq, zdq, zdq, h2]
  grind
theorem zts (k : Int) : ∀ (a : List Int) (x : Int), evI (a.map (k * ·)) x = k * evI a x
 | [], x => by simp [evI]
 | a :: l, x => by
  rw [List.map_cons, zdq, zdq, zts k l x]
  grind
theorem IsP.add {n : Nat} {g h : Int → Int} (hg : IsP n g) (hh : IsP n h) : IsP n (fun x => g x + h x) := by
 obtain ⟨a, a1, a2⟩ := hg
 obtain ⟨b, b1, b2⟩ := hh
 obtain ⟨c, c1, c2⟩ := ztA a b
 exact ⟨c, by omega, fun x => by rw [c2, a2, b2]⟩
theorem IsP.mul {n : Nat} {h : Int → Int} (k : Int) (hh : IsP n h) : IsP n (fun x => k * h x) := by
 obtain ⟨b, b1, b2⟩ := hh
 exact ⟨b.map (k * ·), by simpa using b1, fun x => by rw [zts, b2]⟩
theorem IsP.up {n m : Nat} {h : Int → Int} (hh : IsP n h) (hm : n ≤ m) : IsP m h := by
 obtain ⟨b, b1, b2⟩ := hh
 exact ⟨b, by omega, b2⟩
theorem IsP.step {n : Nat} {h : Int → Int} (p : Int) (hh : IsP n h) : IsP (n + 1) (fun x => h x * (x - p)) := by
 obtain ⟨b, b1, b2⟩ := hh
 have h1 : IsP (n + 1) (fun x => h x * x) := ⟨0 :: b, by simpa using b1, fun x => by rw [zdq, b2]; show h x * x + 0 = h x * x; omega⟩
 have h2 := h1.add ((show IsP n h from ⟨b, b1, b2⟩).mul (-p) |>.up (Nat.le_succ n))
 obtain ⟨c, c1, c2⟩ := h2
 exact ⟨c, c1, fun x => by rw [c2]; grind⟩
theorem IsP.df : ∀ l : List Int, IsP (l.length + 1) (fun x => dF x l)
 | [] => ⟨[1], by simp, fun x => by simp [evI, dF]⟩
 | p :: l => by
  obtain ⟨c, c1, c2⟩ := (IsP.df l).step p
  exact ⟨c, c1, fun x => (c2 x).trans (zi7 x p l).symm⟩
def qd (p : Int) : List Int → List Int
 | [] => []
 | [_] => []
 | _ :: d :: f => evI (d :: f) p :: qd p (d :: f)
theorem ztq (p : Int) : ∀ l : List Int, (qd p l).length = l.length - 1
 | [] => rfl
 | [_] => rfl
 | _ :: d :: f => by have := ztq p (d :: f); simp [qd, this]
theorem zrx (p x : Int) : ∀ l : List Int, evI l x - evI l p = (x - p) * evI (qd p l) x
 | [] => by simp [evI, qd]
 | [c] => by simp [evI, qd]
 | c :: d :: f => by
  have h := zrx p x (d :: f)
  show evI (c :: d :: f) x - evI (c :: d :: f) p = (x - p) * evI (evI (d :: f) p :: qd p (d :: f)) x
  rw [zdq c, zdq c, zdq (evI (d :: f) p)]
  generalize evI (d :: f) x = u at *
  generalize evI (d :: f) p = v at *
  grind
theorem zs3 {q : Nat} (hq : Pr q) : ∀ (pts c : List Int), c.length ≤ pts.length → pts.Pairwise (fun a b => (b - a) % (q : Int) ≠ 0) → (∀ p ∈ pts, evI c p % (q : Int) = 0) → ∀ x, evI c x % (q : Int) = 0
 | [], c, h, _, _, x => by
  have : c = [] := List.length_eq_zero_iff.1 (by simpa using h)
  rw [this]; simp [evI]
 | p :: pts, c, h, hd, hz, x => by
  obtain ⟨d1, d2⟩ := List.pairwise_cons.1 hd
  have hp := hz p (by simp)
  have h2 := zs3 hq pts (qd p c) (by rw [ztq]; simp at h; omega) d2 (fun r hr => by
   have e := zrx p r c
   have e2 : ((r - p) * evI (qd p c) r) % (q : Int) = 0 := by
    rw [← e, Int.sub_emod, hp, hz r (List.mem_cons_of_mem _ hr)]; simp
   rcases zsJ hq e2 with e3 | e3
   ·exact absurd e3 (d1 r hr)
   ·exact e3) x
  have e := zrx p x c
  rw [show evI c x = evI c p + (x - p) * evI (qd p c) x by omega, Int.add_emod, hp, Int.mul_emod, h2]
  simp
def smL (f : Nat → Int) : Nat → Int
 | 0 => 0
 | n + 1 => smL f n + f n
theorem zvH {m : Nat} {f : Nat → Int → Int} : ∀ n, (∀ k, k < n → IsP m (f k)) → IsP m (fun x => smL (fun k => f k x) n)
 | 0, _ => ⟨[], by simp, fun x => by simp [evI, smL]⟩
 | n + 1, h => (zvH n fun k hk => h k (by omega)).add (h n (by omega))
theorem zpx {q : Int} {f g : Nat → Int} : ∀ n, (∀ k, k < n → f k % q = g k % q) → smL f n % q = smL g n % q
 | 0, _ => rfl
 | n + 1, h => by
  show (smL f n + f n) % q = (smL g n + g n) % q
  exact zik (zpx n fun k hk => h k (by omega)) (h n (by omega))
theorem zqJ {f : Nat → Int} {j : Nat} : ∀ n, (∀ k, k < n → k ≠ j → f k = 0) → smL f n = if j < n then f j else 0
 | 0, _ => by simp [smL]
 | n + 1, h => by
  show smL f n + f n = _
  rw [zqJ n fun k hk => h k (by omega)]
  by_cases e : n = j
  ·subst e; simp
  ·rw [h n (by omega) e]
   by_cases e2 : j < n
   ·rw [if_pos e2, if_pos (by omega)]; omega
   ·rw [if_neg e2, if_neg (by omega)]; omega
theorem zqZ {x : Int} : ∀ {l : List Int}, x ∈ l → dF x l = 0
 | p :: l, h => by
  rw [zi7]
  rcases List.mem_cons.1 h with rfl | h
  ·rw [Int.sub_self, Int.mul_zero]
  ·rw [zqZ h, Int.zero_mul]
theorem zsU {l : List Int} {j k : Nat} (hj : j < l.length) (h : k ≠ j) : l[j] ∈ l.eraseIdx k := by
 rw [List.mem_eraseIdx_iff_getElem]
 exact ⟨j, hj, fun e => h e.symm, rfl⟩
theorem zzN {q : Int} {pts : List Int} (h : LgOk q pts) : pts.Pairwise (fun a b => (b - a) % ((q.toNat : Nat) : Int) ≠ 0) := by
 have h8 := h.q8
 have e : ((q.toNat : Nat) : Int) = q := by omega
 rw [e]
 refine List.Pairwise.imp_of_mem ?_ h.nd
 intro a b ha hb hne hz
 have := h.bd a ha
 have := h.bd b hb
 rcases Int.lt_trichotomy a b with hl | hl | hl
 ·rw [Int.emod_eq_of_lt (by omega) (by omega)] at hz; omega
 ·exact hne hl
 have : (b - a + q) % q = 0 := by rw [Int.add_emod_right]; exact hz
 rw [Int.emod_eq_of_lt (by omega) (by omega)] at this; omega
theorem zCP {q : Int} {pts f : List Int} (h : LgOk q pts) (hf : f.length ≤ pts.length) (hi : ∀ k (hk : k < pts.length), (dF pts[k] (pts.eraseIdx k) * ivV q (dF pts[k] (pts.eraseIdx k) % q)) % q = 1 % q) (x : Int) : smL (fun k => zej q pts x k * evI f (pts.getD k 0)) pts.length % q = evI f x % q := by
 have h8 := h.q8
 have eq : ((q.toNat : Nat) : Int) = q := by omega
 let w : Nat → Int := fun k => ivV q (dF (pts.getD k 0) (pts.eraseIdx k) % q) * evI f (pts.getD k 0)
 have hG : IsP pts.length (fun x => smL (fun k => w k * dF x (pts.eraseIdx k)) pts.length + (-1) * evI f x) := by
  refine IsP.add (zvH (f := fun k x => w k * dF x (pts.eraseIdx k)) pts.length fun k hk => ?_) (IsP.mul (-1) ⟨f, hf, fun _ => rfl⟩)
  refine IsP.mul (w k) ((IsP.df (pts.eraseIdx k)).up ?_)
  rw [List.length_eraseIdx_of_lt hk]; omega
 obtain ⟨c, c1, c2⟩ := hG
 have c2 : ∀ x, evI c x = smL (fun k => w k * dF x (pts.eraseIdx k)) pts.length + (-1) * evI f x := c2
 have hv := zs3 h.pr pts c c1 (zzN h) (fun p hp => by
  obtain ⟨j, hj, rfl⟩ := List.getElem_of_mem hp
  rw [c2, eq, zqJ (j := j) pts.length fun k hk hne => by rw [zqZ (zsU hj hne), Int.mul_zero], if_pos hj]
  show (ivV q (dF (pts.getD j 0) (pts.eraseIdx j) % q) * evI f (pts.getD j 0) * dF pts[j] (pts.eraseIdx j) + -1 * evI f pts[j]) % q = 0
  rw [zb9 hj]
  have e1 := hi j hj
  have e2 : (ivV q (dF pts[j] (pts.eraseIdx j) % q) * evI f pts[j] * dF pts[j] (pts.eraseIdx j)) % q = evI f pts[j] % q := by
   rw [show ivV q (dF pts[j] (pts.eraseIdx j) % q) * evI f pts[j] * dF pts[j] (pts.eraseIdx j) = (dF pts[j] (pts.eraseIdx j) * ivV q (dF pts[j] (pts.eraseIdx j) % q)) * evI f pts[j] by grind]
   rw [Int.mul_emod, e1, ← Int.mul_emod, Int.one_mul]
  rw [show ∀ a b : Int, a + -1 * b = a - b by intros; omega]
  exact zuM e2) x
 rw [c2, eq] at hv
 have h1 : smL (fun k => zej q pts x k * evI f (pts.getD k 0)) pts.length % q = smL (fun k => w k * dF x (pts.eraseIdx k)) pts.length % q := by
  refine zpx _ fun k hk => ?_
  show ((dF x (pts.eraseIdx k) * ivV q (dF (pts.getD k 0) (pts.eraseIdx k) % q)) % q * evI f (pts.getD k 0)) % q = (ivV q (dF (pts.getD k 0) (pts.eraseIdx k) % q) * evI f (pts.getD k 0) * dF x (pts.eraseIdx k)) % q
  rw [Int.mul_emod, Int.emod_emod, ← Int.mul_emod]
  congr 1
  grind
 rw [h1]
 have h2 := Int.emod_emod_of_dvd (smL (fun k => w k * dF x (pts.eraseIdx k)) pts.length) (Int.dvd_refl q)
 obtain ⟨d, hd⟩ := Int.dvd_of_emod_eq_zero hv
 rw [show smL (fun k => w k * dF x (pts.eraseIdx k)) pts.length = evI f x + q * d by omega, Int.add_mul_emod_self_left]
theorem zwi {q v : Nat} (hq2 : q ≤ 2000000000) : ∀ (b a X Y : Nat) (s : Int), s = 1 ∨ s = -1 → X * b + Y * a = q → a ≤ 2000000000 → b ≤ 2000000000 → (∃ d : Int, (a : Int) = s * X * v + q * d) → (∃ d : Int, (b : Int) = -s * Y * v + q * d) → Rn (zbc zkE ((a : Int), (b : Int), s * X, -s * Y)) (fun r => ∃ d : Int, r.1 = r.2 * v + q * d) := by
 intro b
 induction b using Nat.strongRecOn with
 | _ b ih =>
  intro a X Y s hs hX ha hb h1 h2
  refine zBj ?_
  unfold zkE
  by_cases hb0 : b = 0
  ·subst hb0
   exact zbu (by simp) (zab h1)
  ·have hk : a / b * b ≤ a := Nat.div_mul_le_self a b
   have kY : a / b * Y * b ≤ q := by
    calc a / b * Y * b = Y * (a / b * b) := by grind
     _ ≤ Y * a := Nat.mul_le_mul_left _ hk
     _ ≤ q := by omega
   have kY2 : a / b * Y ≤ q := Nat.le_trans (Nat.le_mul_of_pos_right _ (by omega)) kY
   have hX2 : X ≤ q := Nat.le_trans (Nat.le_mul_of_pos_right X (show 0 < b by omega)) (by omega)
   have hab : a / b ≤ a := Nat.div_le_self a b
   refine zeR (by simpa using hb0) (zaq (by simpa using hb0) (zab ?_))
   show Rn (zbc zkE _) _
   dsimp only
   rw [zkY ha hb]
   have e1 : ((a : Int).tdiv (b : Int)) = ((a / b : Nat) : Int) := rfl
   have hn0 : (0 : Int) ≤ ((a / b : Nat) : Int) := Int.natCast_nonneg _
   have hn1 : ((a / b : Nat) : Int) ≤ 2000000000 := Int.ofNat_le.2 (Nat.le_trans hab ha)
   have e2 : IntKind.i64.wrap ((a / b : Nat) : Int) = ((a / b : Nat) : Int) := zap (Int.le_trans (by decide) hn0) (Int.le_trans hn1 (by decide))
   have e3 : ((a / b : Nat) : Int) * (-s * (Y : Int)) = -s * ((a / b * Y : Nat) : Int) := by push_cast; grind
   have hab2 : ((a / b * Y : Nat) : Int) ≤ 2000000000 := by omega
   have hX3 : (X : Int) ≤ 2000000000 := by omega
   have e4 : IntKind.i64.wrap (-s * ((a / b * Y : Nat) : Int)) = -s * ((a / b * Y : Nat) : Int) := by
    rcases hs with rfl | rfl <;> exact zap (by omega) (by omega)
   have e5 : IntKind.i64.wrap (s * (X : Int) - -s * ((a / b * Y : Nat) : Int)) = s * ((X + a / b * Y : Nat) : Int) := by
    have : s * (X : Int) - -s * ((a / b * Y : Nat) : Int) = s * ((X + a / b * Y : Nat) : Int) := by push_cast; grind
    rw [this]
    rcases hs with rfl | rfl <;> exact zap (by omega) (by omega)
   rw [e1, e2, e3, e4, e5]
   have hm : a % b < b := Nat.mod_lt _ (by omega)
   have hdm := Nat.div_add_mod a b
   have := ih (a % b) hm b Y (X + a / b * Y) (-s) (by rcases hs with rfl | rfl <;> simp) (by
    calc Y * (a % b) + (X + a / b * Y) * b = X * b + Y * (b * (a / b) + a % b) := by grind
     _ = q := by rw [hdm]; exact hX) hb (by omega) h2 (by
    obtain ⟨d1, h1⟩ := h1
    obtain ⟨d2, h2⟩ := h2
    refine ⟨d1 - ((a / b : Nat) : Int) * d2, ?_⟩
    have hd : ((a % b : Nat) : Int) = (a : Int) - (b : Int) * ((a / b : Nat) : Int) := by omega
    rw [hd, h1, h2]
    push_cast
    grind)
   rw [Int.neg_neg] at this
   exact this
theorem zzU {q v : Nat} (hq : 2 ≤ q) (hq2 : q ≤ 2000000000) (hv : v < q) (hg : Nat.gcd q v = 1) : ((v : Int) * ivV q v) % (q : Int) = 1 := by
 obtain ⟨⟨u, c⟩, h1, h2⟩ := euc (x := 0) (y := 1) hq2 (by omega : v ≤ 2000000000) hg
 have h2 : u = 1 := h2
 subst h2
 have h3 := zwi (q := q) (v := v) hq2 v q 0 1 (-1) (.inr rfl) (by simp) hq2 (by omega) ⟨1, by simp⟩ ⟨0, by simp⟩
 have e0 : ((q : Int), (v : Int), (-1 : Int) * ((0 : Nat) : Int), -(-1 : Int) * ((1 : Nat) : Int)) = ((q : Int), (v : Int), 0, 1) := by simp
 rw [e0] at h3
 obtain ⟨r, h4, d, h5⟩ := h3
 rw [h1] at h4
 cases h4
 have hs : zb0 (v : Int) (q : Int) = some (c % (q : Int), true) := by
  obtain ⟨i1, i2, _⟩ := znF hq hq2 hv hg
  unfold zdk at i1
  have e2 := congrArg (fun o : Option (Int × Int) => o.bind fun (x5 : Int × Int) => if (x5.1 != 1) = true then (some 0) else ((zcK x5.2 (q : Int)).bind fun z23 => some z23)) h1
  have e3 := i1.symm.trans e2
  have e4 : (some (ivV q v) : Option Int) = some (c % (q : Int)) := e3.trans (by
   show (zcK c (q : Int)).bind _ = _
   rw [zk4 (by omega) (by omega)]; rfl)
  rw [← Option.some.inj e4]
  exact i2
 have hi : ivV q v = c % (q : Int) := by unfold ivV; rw [hs]; rfl
 rw [hi, Int.mul_emod, Int.emod_emod, ← Int.mul_emod]
 have h5 : (1 : Int) = c * v + q * d := h5
 rw [show (v : Int) * c = 1 + q * (-d) by grind, Int.add_mul_emod_self_left, Int.emod_eq_of_lt (by omega) (by omega)]
theorem zzw {q : Int} {pts : List Int} (h : LgOk q pts) : ∀ k (hk : k < pts.length), (dF pts[k] (pts.eraseIdx k) * ivV q (dF pts[k] (pts.eraseIdx k) % q)) % q = 1 % q := by
 intro k hk
 have h8 := h.q8
 have h2 := h.q2
 have hc := zsH h hk
 obtain ⟨Q, hQ⟩ := Int.eq_ofNat_of_zero_le (show 0 ≤ q by omega)
 subst hQ
 have hr := zeQ (q := (Q : Int)) (by omega) (dF pts[k] (pts.eraseIdx k))
 obtain ⟨v, hv⟩ := Int.eq_ofNat_of_zero_le hr.1
 rw [hv] at hc hr
 rw [Int.toNat_natCast, Int.toNat_natCast] at hc
 have := zzU (q := Q) (v := v) (by omega) (by omega) (by omega) hc
 have e := Int.mul_emod (v : Int) (ivV (Q : Int) v) (Q : Int)
 rw [Int.emod_eq_of_lt (show (0 : Int) ≤ v by omega) (by omega)] at e
 rw [Int.mul_emod, hv, ← e, this, Int.emod_eq_of_lt (by omega) (by omega)]
theorem zpf {q : Int} {pts f : List Int} (h : LgOk q pts) (hf : f.length ≤ pts.length) (x : Int) : smL (fun k => zej q pts x k * zaS q f (pts.getD k 0)) pts.length % q = zaS q f x := by
 have h1 := zCP h hf (zzw h) x
 rw [zg7, ← h1]
 refine zpx _ fun k _ => ?_
 rw [zg7, Int.mul_emod, Int.emod_emod, ← Int.mul_emod]
theorem zsS {gr : Group} (k : OkG gr) {x : Int} (hx : zak gr x = true) {a b : Int} (ha : 0 ≤ a) (hb : 0 ≤ b) : zdn gr [zai gr x a, zai gr x b] = zai gr x (a + b) := by
 have hp := k.p
 have hq := k.q
 have b1 := zcU k x a
 have b2 := zcU k x b
 rw [zja k ⟨b1.1, by omega⟩ b2.1]
 obtain ⟨A, rfl⟩ := Int.eq_ofNat_of_zero_le ha
 obtain ⟨B, rfl⟩ := Int.eq_ofNat_of_zero_le hb
 obtain ⟨n, hn⟩ := Int.eq_ofNat_of_zero_le (show 0 ≤ gr.Q by omega)
 obtain ⟨P, hP⟩ := Int.eq_ofNat_of_zero_le (show 0 ≤ gr.P by omega)
 have h3 := (zjj hx).2.2
 unfold zai
 rw [hn] at h3 ⊢
 rw [hP] at h3 ⊢
 rw [Int.toNat_natCast, Int.toNat_natCast] at h3
 have e : ∀ c : Nat, ((c : Int) % (n : Int)).toNat = c % n := fun c => by rw [← Int.natCast_emod, Int.toNat_natCast]
 rw [show ((A : Int) + (B : Int)) = ((A + B : Nat) : Int) from rfl, e, e, e, Int.toNat_natCast, zhb h3, zhb h3, zhb h3, ← Int.natCast_mul, ← Int.natCast_emod, Nat.pow_add, Nat.mul_mod, Nat.mod_mod, Nat.mod_mod, ← Nat.mul_mod]
theorem zqN {gr : Group} (k : OkG gr) {A : Int} (hA : zak gr A = true) : ∀ (ys ls : List Int) (s : Int), 0 ≤ s → (∀ y ∈ ys, 0 ≤ y) → (∀ l ∈ ls, 0 ≤ l) → ys.length = ls.length → zb7 gr (ys.map (zai gr A)) ls (zai gr A s) = zai gr A (s + smL (fun k => ls.getD k 0 * ys.getD k 0) ys.length)
 | [], _, s, _, _, _, _ => by simp [zb7, smL]
 | y :: ys, [], s, _, _, _, h => by simp at h
 | y :: ys, l :: ls, s, hs, hy, hl, h => by
  have hy0 := hy y (by simp)
  have hl0 := hl l (by simp)
  have hm := Int.mul_nonneg hy0 hl0
  have b1 := zcU k A s
  have b2 := zcU k (zai gr A y) l
  have hp := k.p
  show zb7 gr (ys.map (zai gr A)) ls (zai gr A s * zai gr (zai gr A y) l % gr.P) = _
  rw [← zja k ⟨b1.1, by omega⟩ b2.1, zlA k hA hy0 hl0, zsS k hA hs hm, zqN k hA ys ls _ (by omega) (fun z hz => hy z (List.mem_cons_of_mem _ hz)) (fun z hz => hl z (List.mem_cons_of_mem _ hz)) (by simpa using h)]
  congr 1
  rw [show (y :: ys).length = ys.length + 1 from rfl]
  have : ∀ n, smL (fun k => (l :: ls).getD k 0 * (y :: ys).getD k 0) (n + 1) = l * y + smL (fun k => ls.getD k 0 * ys.getD k 0) n := by
   intro n
   induction n with
   | zero => show 0 + l * y = l * y + 0; omega
   | succ n ih => show smL _ (n + 1) + ls.getD n 0 * ys.getD n 0 = l * y + (smL _ n + ls.getD n 0 * ys.getD n 0); rw [ih]; omega
  rw [this, Int.mul_comm y l]; omega
abbrev prtS : ByteArray := ⟨#[112, 97, 114, 116, 105, 97, 108]⟩
def zfi (gr : Group) (A x w : Int) : Int := chG gr prtS ([[gr.G], [A]].flatten ++ [zai gr gr.G x, zai gr A x] ++ [zai gr gr.G w, zai gr A w])
def zlR (gr : Group) (A x w : Int) : Proof := ⟨[zai gr gr.G w, zai gr A w], [zfi gr A x w], [(w + zfi gr A x w * x) % gr.Q]⟩
def zhh (gr : Group) (A i x w : Int) : Partial := ⟨i, zai gr A x, zlR gr A x w⟩
theorem zuB {gr : Group} (k : OkG gr) {A : Int} (hA : zak gr A = true) : LinS gr [[gr.G], [A]] := by
 refine ⟨by simp, by simp, fun r hr => ?_⟩
 simp only [List.mem_cons, List.not_mem_nil, or_false] at hr
 rcases hr with rfl | rfl
 ·simp [zgt k]
 simp [hA]
theorem zs5 {gr : Group} (k : OkG gr) {c : Cipher} (hA : zak gr c.A = true) {i x w : Int} (hx : E9 gr.Q x) (hw : E9 gr.Q w) : zc1 gr c i x w = some (zhh gr c.A i x w) := by
 have hp := k.p
 have hq := k.q
 have hE := zo7 k prtS ([[gr.G], [c.A]].flatten ++ [zai gr gr.G x, zai gr c.A x] ++ [zai gr gr.G w, zai gr c.A w])
 have hE : E9 gr.Q (zfi gr c.A x w) := hE
 have im : ∀ e, za9 gr [[gr.G], [c.A]] [e] = some [zai gr gr.G e, zai gr c.A e] := fun e => by
  rw [zoH k (zuB k hA) (es := [e]) rfl]
  simp [zkX k]
 have hd : ([[gr.G], [c.A]].flatten ++ [zai gr gr.G x, zai gr c.A x] ++ [zai gr gr.G w, zai gr c.A w]).all zb6 = true := by
  have h := fun e => zdY k gr.G e
  refine zsc fun z hz => ?_
  simp at hz
  rcases hz with rfl | rfl | rfl | rfl | rfl | rfl
  ·exact r_G k
  ·exact zhL k hA
  ·exact zdY k _ _
  ·exact zdY k _ _
  ·exact zdY k _ _
  ·exact zdY k _ _
 have ch : zbf gr prtS ([[gr.G], [c.A]].flatten ++ [zai gr gr.G x, zai gr c.A x] ++ [zai gr gr.G w, zai gr c.A w]) = some (zfi gr c.A x w, true) := by
  rw [zsY k _ (by simp), if_pos (zvQ k (by decide) (by rw [show prtS.size = 7 from rfl]; simp) hd)]
  rfl
 unfold zc1 zbK
 refine zaA (zaf (pwI k (zhL k hA) _) (zaf (a := (zlR gr c.A x w, true)) (zaA ?_) (zab rfl)))
 refine zaf (im w) (zaf (ziM _ (by simp)) (zaf (im x) (zaf (ziM _ (by simp)) (zaf (a := (zfi gr c.A x w, true)) ?_ (zbu rfl ?_)))))
 ·refine Eq.trans ?_ ch
  congr 1
 refine zac (ψ := (· = ([zai gr gr.G w, zai gr c.A w], [zfi gr c.A x w], [(w + zfi gr c.A x w * x) % gr.Q]))) ?_ (by rintro y rfl; exact zab rfl)
 refine zay (fun i s => s = ([zai gr gr.G w, zai gr c.A w], [zfi gr c.A x w], if i = 0 then [] else [(w + zfi gr c.A x w * x) % gr.Q])) rfl ?_ (by rintro s rfl; rfl)
 rintro i s hi rfl
 have hi0 : i = 0 := by simpa using hi
 subst hi0
 refine zaD (k := 0) (by simp) (zaD (k := 0) (by simp) (zaf (zxS k _) (zaq (by simp) (zab ?_))))
 rw [(zxV (q := gr.Q) (by omega) (a := [w][0]) (t := [x][0]) hw hE hx).1]
 rfl
theorem zx7 {gr : Group} (k : OkG gr) {A : Int} (hA : zak gr A = true) {x w : Int} (hx : 0 ≤ x) (hw : 0 ≤ w) : zke gr prtS [[gr.G], [A]] [zai gr gr.G x, zai gr A x] (zlR gr A x w) = true := by
 have hq := k.q
 have he : 0 ≤ zfi gr A x w ∧ zfi gr A x w < gr.Q := zo7 k prtS _
 have hE : chG gr prtS [gr.G, A, zai gr gr.G x, zai gr A x, zai gr gr.G w, zai gr A w] = zfi gr A x w := rfl
 have h1 : zdN gr ((w + zfi gr A x w * x) % gr.Q) = true := by
  have a := Int.emod_nonneg (w + zfi gr A x w * x) (show gr.Q ≠ 0 by omega)
  have b := Int.emod_lt_of_pos (w + zfi gr A x w * x) (show 0 < gr.Q by omega)
  simp only [zdN, Bool.and_eq_true, decide_eq_true_eq]; omega
 have h2 : ∀ y, zak gr y = true → zb7 gr [y] [(w + zfi gr A x w * x) % gr.Q] 1 = zdn gr [zai gr y w, zai gr (zai gr y x) (zfi gr A x w)] := fun y hy => by
  rw [zkX k, zlA k hy hx he.1, zsS k hy hw (Int.mul_nonneg hx he.1)]
  refine zm5 _ ?_
  rw [zf4, Int.mul_comm x]
 have h3 := h2 gr.G (zgt k)
 have h4 := h2 A hA
 have h5 := zi8 k (zgt k) w
 have h6 := zi8 k hA w
 unfold zke zlR
 generalize zfi gr A x w = c at he hE h1 h3 h4 ⊢
 simp only [List.length_cons, List.length_nil, List.headD_cons, List.all_cons, List.all_nil, h5, h6, h1, Bool.and_true, Bool.not_true, Bool.or_false]
 simp [h3, h4, List.range_succ, hE]
def atV (gr : Group) (commits : List Int) (x : Int) : Int := (commits.foldl (atS gr x) (1, 1)).1
theorem zsX {gr : Group} (k : OkG gr) (x : Int) : ∀ (l : List Int) (o e : Int), (∀ y ∈ l, zak gr y = true) → zak gr o = true → zak gr (l.foldl (atS gr x) (o, e)).1 = true
 | [], _, _, _, h => h
 | y :: l, o, e, hl, ho => zsX k x l _ _ (fun z hz => hl z (List.mem_cons_of_mem _ hz)) (zyL k ho (zi8 k (hl y (by simp)) e))
theorem zxZ {gr : Group} (k : OkG gr) {f : List Int} (hf : ∀ c ∈ f, 0 ≤ c) (x : Int) : atV gr (f.map (zai gr gr.G)) x = zai gr gr.G (zaS gr.Q f x) := by
 have hp := k.p
 have hq := k.q
 have h0 : zai gr gr.G 0 = 1 := by
  unfold zai
  rw [Int.zero_emod, Int.toNat_zero, Nat.pow_zero, Nat.mod_eq_of_lt (by omega)]
  rfl
 have h := ztd k x f 0 1 hf (Int.le_refl 0) (by omega)
 rw [h0] at h
 unfold atV
 rw [h, Int.zero_add]
 refine zm5 _ ?_
 rw [ztf, Int.one_mul, zg7, zf4]
def zhf (gr : Group) (cs : List Int) (A : Int) (p : Partial) : Bool := trB p.Index && zak gr p.Value && zke gr prtS [[gr.G], [A]] [atV gr cs p.Index, p.Value] p.Pi
theorem zom {gr : Group} (k : OkG gr) {cs : List Int} (hc : ∀ y ∈ cs, zak gr y = true) {c : Cipher} (hA : zak gr c.A = true) {p : Partial} (hp : p.Pi.Commits.length ≤ 1048576) : zbd gr cs c p = some (zhf gr cs c.A p) ∧ zdt gr cs c p = some (zhf gr cs c.A p) := by
 have hr := zho k hc
 have hi : ∀ v, trB p.Index = true → zak gr v = true → zb8 gr cs p.Index = some (atV gr cs p.Index) ∧ zeZ gr cs p.Index = some (atV gr cs p.Index) ∧ [atV gr cs p.Index, v].all (zak gr) = true := fun v h hv => by
  simp only [trB, Bool.and_eq_true, decide_eq_true_eq] at h
  refine ⟨zsB k (by omega) (by omega) hr, zvv k (by omega) (by omega) hr, ?_⟩
  have : zak gr (atV gr cs p.Index) = true := zsX k _ _ _ _ hc (zw8 k)
  simp [this, hv]
 unfold zhf
 refine ⟨?_, ?_⟩
 ·unfold zbd
  rw [ziW, zma k]
  cases h1 : trB p.Index
  ·rfl
  cases h2 : zak gr p.Value
  ·rfl
  obtain ⟨a1, _, a3⟩ := hi _ h1 h2
  rw [a1]
  simp [zs0 k (s := prtS) (by decide) (zuB k hA) rfl a3 hp]
 unfold zdt ze2
 rw [zfG, zx6 k, show (decide (1 ≤ p.Index) && decide (p.Index ≤ 7)) = trB p.Index from rfl]
 cases h1 : trB p.Index
 ·rfl
 cases h2 : zak gr p.Value
 ·rfl
 obtain ⟨_, a2, a3⟩ := hi _ h1 h2
 rw [a2]
 simp [zsM k (s := prtS) (by decide) (zuB k hA) rfl a3 hp]
def gdF (gr : Group) (cs : List Int) (A : Int) (l : List Partial) (i : Nat) (s : List Int × List Int) : List Int × List Int :=
 if (!s.2.contains (l.getD i ⟨0, 0, ⟨[], [], []⟩⟩).Index && zhf gr cs A (l.getD i ⟨0, 0, ⟨[], [], []⟩⟩)) = true then (s.1 ++ [(i : Int)], s.2 ++ [(l.getD i ⟨0, 0, ⟨[], [], []⟩⟩).Index]) else s
def gdI (gr : Group) (cs : List Int) (A : Int) (l : List Partial) (n : Nat) : List Int × List Int := itr (gdF gr cs A l) n ([], [])
structure GdOk (gr : Group) (cs : List Int) (A : Int) (l : List Partial) (i : Nat) (s : List Int × List Int) : Prop where
 n : s.1.length ≤ i
 e : s.2 = s.1.map fun j => (l.getD j.toNat ⟨0, 0, ⟨[], [], []⟩⟩).Index
 d : s.2.Nodup
 b : ∀ j ∈ s.1, 0 ≤ j ∧ j < i ∧ zhf gr cs A (l.getD j.toNat ⟨0, 0, ⟨[], [], []⟩⟩) = true
theorem zsf (gr : Group) (cs : List Int) (A : Int) (l : List Partial) : ∀ n, GdOk gr cs A l n (gdI gr cs A l n)
 | 0 => ⟨by simp [gdI, itr], by simp [gdI, itr], by simp [gdI, itr], by simp [gdI, itr]⟩
 | n + 1 => by
  have h := zsf gr cs A l n
  show GdOk gr cs A l (n + 1) (gdF gr cs A l n (gdI gr cs A l n))
  generalize gdI gr cs A l n = s at h
  unfold gdF
  split
  ·rename_i hc
   simp only [Bool.and_eq_true, Bool.not_eq_true'] at hc
   refine ⟨by have := h.n; simp; omega, by simp [h.e], ?_, fun j hj => ?_⟩
   ·refine List.nodup_append.2 ⟨h.d, by simp, fun a ha b hb => ?_⟩
    rw [List.mem_singleton] at hb
    subst hb
    rintro rfl
    have := hc.1
    rw [List.contains_eq_mem] at this
    exact of_decide_eq_false this ha
   ·rcases List.mem_append.1 hj with h1 | h1
    ·obtain ⟨a1, a2, a3⟩ := h.b j h1; exact ⟨a1, by omega, a3⟩
    ·rw [List.mem_singleton] at h1
     subst h1
     exact ⟨by omega, by omega, by rw [Int.toNat_natCast]; exact hc.2⟩
  ·exact ⟨by have := h.n; omega, h.e, h.d, fun j hj => by obtain ⟨a1, a2, a3⟩ := h.b j hj; exact ⟨a1, by omega, a3⟩⟩
theorem znX {gr : Group} {cs : List Int} {A : Int} {l : List Partial} (hl : l.length ≤ 1000) (C : List Int → Int → Option Bool) (V : Partial → Option Bool) (hC : ∀ l x, C l x = some (l.contains x)) (hV : ∀ p ∈ l, V p = some (zhf gr cs A p)) : zas (σ := (List Int) × List Int) (fun i5 s4 =>
 (((ix l i5).bind fun x14 =>
 (((C s4.2 x14.Index).bind fun z18 =>
 if (!z18) = true then (
 (V x14).bind fun z20 =>
 some z20) else (
 some false) : Option Bool).bind fun x17 =>
 if x17 = true then (
 gd ((s4.1.length + 1) * 8 ≤ 140737488355328 ∧ s4.1.length + 1 ≤ 4611686018427387904) <|
 gd ((s4.2.length + 1) * 8 ≤ 140737488355328 ∧ s4.2.length + 1 ≤ 4611686018427387904) <|
 some (s4.1 ++ [i5], s4.2 ++ [x14.Index])) else (
 some (s4.1, s4.2))) : Option ((List Int × List Int))).bind fun x13 =>
 some (.go (x13.1, x13.2)))) (fun s4 => s4.1) (l.length) 0 ([], []) = some (gdI gr cs A l l.length).1 := by
 refine zyy (gdF gr cs A l) (fun i s => s.1.length ≤ i ∧ s.2.length ≤ i) ⟨by simp, by simp⟩ (fun i s _ h => ?_) fun i s hi h => ?_
 ·unfold gdF; split
  ·exact ⟨by simp; omega, by simp; omega⟩
  exact ⟨by omega, by omega⟩
 rw [zeg hi, Option.bind_some, hC, Option.bind_some, hV _ (List.getElem_mem hi)]
 unfold gdF
 rw [zb9 hi, zdU (by omega), zdU (by omega)]
 cases s.2.contains l[i].Index <;> cases zhf gr cs A l[i] <;> rfl
def bdP (l : List Partial) : Prop := ∀ p ∈ l, p.Pi.Commits.length ≤ 1048576
theorem zsR {gr : Group} (k : OkG gr) {cs : List Int} (hc : ∀ y ∈ cs, zak gr y = true) {c : Cipher} (hA : zak gr c.A = true) {l : List Partial} (hl : l.length ≤ 1000) (hb : bdP l) : zc8 gr cs c l = some (gdI gr cs c.A l l.length).1 ∧ zfs gr cs c l = some (gdI gr cs c.A l l.length).1 := by
 refine ⟨?_, ?_⟩
 ·unfold zc8
  rw [znX (gr := gr) (cs := cs) (A := c.A) hl zbB (zbd gr cs c) zrT fun p hp => (zom k hc hA (hb p hp)).1]
  rfl
 unfold zfs
 rw [znX (gr := gr) (cs := cs) (A := c.A) hl zeL (zdt gr cs c) zw3 fun p hp => (zom k hc hA (hb p hp)).2]
 rfl
abbrev pt0 : Partial := ⟨0, 0, ⟨[], [], []⟩⟩
def cbX (l : List Partial) (g : List Int) : List Int := g.map fun j => (l.getD j.toNat pt0).Index
def cbY (l : List Partial) (g : List Int) : List Int := g.map fun j => (l.getD j.toNat pt0).Value
theorem zmD {gr : Group} (k : OkG gr) (cs : List Int) : zcm gr cs = some (inB 1 7 cs.length && cs.all (zak gr)) ∧ zeu gr cs = some (inB 1 7 cs.length && cs.all (zak gr)) := by
 unfold zcm zeu
 rw [zeX, zfG, zoK k, zoe k, show (decide ((1 : Int) ≤ (cs.length : Int)) && decide ((cs.length : Int) ≤ 7)) = inB 1 7 cs.length from rfl]
 cases inB 1 7 cs.length <;> exact ⟨rfl, rfl⟩
theorem zwU {l : List Partial} {g : List Int} (hg : ∀ j ∈ g, 0 ≤ j ∧ j < l.length) (hl : g.length ≤ 1000) : zas (σ := (List Int) × List Int) (fun i11 s10 =>
 (ix g i11).bind fun x18 =>
 (ix l x18).bind fun x19 =>
 gd ((s10.1.length + 1) * 8 ≤ 140737488355328 ∧ s10.1.length + 1 ≤ 4611686018427387904) <|
 gd ((s10.2.length + 1) * 8 ≤ 140737488355328 ∧ s10.2.length + 1 ≤ 4611686018427387904) <|
 some (.go (s10.1 ++ [x19.Index], s10.2 ++ [x19.Value]))) (fun s10 => (s10.1, s10.2)) g.length 0 ([], []) = some (cbX l g, cbY l g) := by
 refine zaA (zay (fun i s => s = (cbX l (g.take i), cbY l (g.take i))) rfl ?_ (by rintro s rfl; rw [List.take_length]))
 rintro i s hi rfl
 have hx := zfF hg hi
 obtain ⟨j, hj⟩ := Int.eq_ofNat_of_zero_le hx.1
 have hj2 : j < l.length := by omega
 refine zaD hi ?_
 rw [hj]
 refine zaD hj2 (zaq (by simp [cbX]; omega) (zaq (by simp [cbY]; omega) (zab ?_)))
 show _ = _
 rw [List.take_succ_eq_append_getElem hi, hj]
 simp only [cbX, cbY, List.map_append, List.map_cons, List.map_nil, Int.toNat_natCast, zb9 hj2]
def dcC (gr : Group) (cs : List Int) (c : Cipher) (l : List Partial) : Bool := (inB 1 7 cs.length && cs.all (zak gr)) && ((zak gr c.A && zak gr c.B) && decide (l.length ≤ 14))
noncomputable def cbV (gr : Group) (cs : List Int) (c : Cipher) (l : List Partial) : Int × Bool :=
 if (dcC gr cs c l && decide (cs.length ≤ (gdI gr cs c.A l l.length).1.length)) = true then
  (zdn gr [c.B, zai gr (zb7 gr (cbY l ((gdI gr cs c.A l l.length).1.take cs.length)) ((List.range cs.length).map (zej gr.Q (cbX l ((gdI gr cs c.A l l.length).1.take cs.length)) 0)) 1) (-1)], true)
 else (0, false)
theorem zwv {l : List Int} (h : l.Nodup) (n : Nat) : (l.take n).Nodup := by
 have : (l.take n ++ l.drop n).Nodup := by rw [List.take_append_drop]; exact h
 exact (List.nodup_append.1 this).1
theorem zAM {gr : Group} (k : OkG gr) (hq : 7 < gr.Q) {cs : List Int} {A : Int} {l : List Partial} (hl : l.length ≤ 1000) (n : Nat) (hn : n ≤ (gdI gr cs A l l.length).1.length) : LgOk gr.Q (cbX l ((gdI gr cs A l l.length).1.take n)) ∧ (cbX l ((gdI gr cs A l l.length).1.take n)).length = n ∧ (∀ y ∈ cbY l ((gdI gr cs A l l.length).1.take n), zak gr y = true) ∧ (cbY l ((gdI gr cs A l l.length).1.take n)).length = n ∧ ∀ j ∈ (gdI gr cs A l l.length).1.take n, 0 ≤ j ∧ j < l.length := by
 have hp := k.p
 have hq2 := k.q
 have h := zsf gr cs A l l.length
 generalize gdI gr cs A l l.length = s at h hn
 have hx : cbX l (s.1.take n) = s.2.take n := by rw [h.e]; exact List.map_take
 have hlen : s.1.length ≤ 1000 := by have := h.n; omega
 have hok : ∀ j ∈ s.1.take n, zhf gr cs A (l.getD j.toNat pt0) = true := fun j hj => (h.b j (List.mem_of_mem_take hj)).2.2
 refine ⟨⟨hq, by omega, k.pq, fun p hp' => ?_, by rw [hx]; exact zwv h.d n, by rw [hx, List.length_take, h.e, List.length_map]; omega⟩, by simp [cbX]; omega, fun y hy => ?_, by simp [cbY]; omega, fun j hj => ?_⟩
 ·obtain ⟨j, hj, rfl⟩ := List.mem_map.1 hp'
  have := hok j hj
  simp only [zhf, Bool.and_eq_true] at this
  have := this.1.1
  simp only [trB, Bool.and_eq_true, decide_eq_true_eq] at this
  omega
 ·obtain ⟨j, hj, rfl⟩ := List.mem_map.1 hy
  have := hok j hj
  simp only [zhf, Bool.and_eq_true] at this
  exact this.1.2
 have := h.b j (List.mem_of_mem_take hj); exact ⟨this.1, this.2.1⟩
theorem zAw {gr : Group} (k : OkG gr) {x : Int} (hx : R9 x) : zcP gr x = some (zai gr x (-1)) := by
 unfold zcP
 rw [pwI k hx]; rfl
theorem zsb {gr : Group} (k : OkG gr) (hq : 7 < gr.Q) (cs : List Int) (c : Cipher) {l : List Partial} (hb : bdP l) (hl : l.length ≤ 1000) : za4 gr cs c l = some (cbV gr cs c l) ∧ zdb gr cs c l = some (dcC gr cs c l) ∧ (dcC gr cs c l = true → zex gr cs c l = some (cbV gr cs c l)) := by
 have hp := k.p
 have hs : (okG gr && decide (7 < gr.Q)) = true := by rw [zfN.2 k]; simpa using hq
 have e14 : decide ((l.length : Int) ≤ 14) = decide (l.length ≤ 14) := decide_eq_decide.2 (by omega)
 have e15 : decide (14 < (l.length : Int)) = !decide (l.length ≤ 14) := by rw [← decide_not]; exact decide_eq_decide.2 (by omega)
 have hI : zaF gr cs c = some ((inB 1 7 cs.length && cs.all (zak gr)) && (zak gr c.A && zak gr c.B)) := by
  unfold zaF
  rw [zf9, hs, (zmD k cs).1, zfY k]
  cases (inB 1 7 cs.length && cs.all (zak gr)) <;> rfl
 have hS : zdb gr cs c l = some (dcC gr cs c l) := by
  unfold zdb dcC
  rw [zgf, hs, (zmD k cs).2, zpT k, e14]
  cases (inB 1 7 cs.length && cs.all (zak gr)) <;> cases (zak gr c.A && zak gr c.B) <;> rfl
 have hG : ∀ t, ((inB 1 7 cs.length && cs.all (zak gr)) && (zak gr c.A && zak gr c.B)) = t → zaZ gr cs c l = if (t && decide (l.length ≤ 14)) = true then (zc8 gr cs c l).bind (fun z => some (z, true)) else some ([], false) := by
  rintro t rfl
  unfold zaZ
  rw [hI, e15]
  cases ((inB 1 7 cs.length && cs.all (zak gr)) && (zak gr c.A && zak gr c.B)) <;> cases decide (l.length ≤ 14) <;> rfl
 have hG := hG _ rfl
 have hdc : ((inB 1 7 cs.length && cs.all (zak gr)) && (zak gr c.A && zak gr c.B) && decide (l.length ≤ 14)) = dcC gr cs c l := by unfold dcC; rw [Bool.and_assoc]
 rw [hdc] at hG
 unfold za4
 rw [hG]
 cases hd : dcC gr cs c l
 ·have e : cbV gr cs c l = (0, false) := by unfold cbV; rw [hd]; rfl
  rw [e]; exact ⟨rfl, hS.trans (by rw [hd]), fun h => Bool.noConfusion h⟩
 have hd2 := hd
 simp only [dcC, Bool.and_eq_true, inB, decide_eq_true_eq] at hd2
 obtain ⟨⟨⟨a1, a2⟩, a3⟩, ⟨a4, a5⟩, a6⟩ := hd2
 have hcs := List.all_eq_true.1 a3
 have g := zsR k hcs a4 hl hb
 rw [if_pos rfl, g.1]
 rw [hd] at hS
 unfold zex
 rw [g.2]
 have hgl : (gdI gr cs c.A l l.length).1.length ≤ l.length := (zsf gr cs c.A l l.length).n
 by_cases ht : cs.length ≤ (gdI gr cs c.A l l.length).1.length
 ·have e : cbV gr cs c l = (zdn gr [c.B, zai gr (zb7 gr (cbY l ((gdI gr cs c.A l l.length).1.take cs.length)) ((List.range cs.length).map (zej gr.Q (cbX l ((gdI gr cs c.A l l.length).1.take cs.length)) 0)) 1) (-1)], true) := by
   unfold cbV; rw [hd, if_pos (by simpa using ht)]
  have hlt : decide (((gdI gr cs c.A l l.length).1.length : Int) < (cs.length : Int)) = false := by simp; omega
  obtain ⟨L1, L2, L3, L4, L5⟩ := zAM k hq (cs := cs) (A := c.A) hl cs.length ht
  have hdr : ((gdI gr cs c.A l l.length).1.take cs.length).drop 0 = (gdI gr cs c.A l l.length).1.take cs.length := rfl
  have hxy := zwU (l := l) (g := (gdI gr cs c.A l l.length).1.take cs.length) L5 (by simp; omega)
  have h1 := zse (x := 0) L1 (by omega)
  have h2 := zqi (x := 0) L1 (by omega)
  rw [L2] at h1 h2
  have hY := zho k L3
  have h3 := znJ k hY (m := (List.range cs.length).map (zej gr.Q (cbX l ((gdI gr cs c.A l l.length).1.take cs.length)) 0)) (by simp [L4])
  have h4 := zjl k hY (m := (List.range cs.length).map (zej gr.Q (cbX l ((gdI gr cs c.A l l.length).1.take cs.length)) 0)) (by simp [L4])
  have hr := zx9 k (cbY l ((gdI gr cs c.A l l.length).1.take cs.length)) ((List.range cs.length).map (zej gr.Q (cbX l ((gdI gr cs c.A l l.length).1.take cs.length)) 0))
  rw [e]
  refine ⟨zaA ?_, hS, fun _ => zaA ?_⟩
  ·refine zaf rfl (zac (ψ := (· = false)) (zbu rfl (zab hlt)) ?_)
   rintro _ rfl
   refine zbu rfl ?_
   dsimp only
   exact zaq (by omega) (zaq (by omega) (zaf hxy (zaf h1 (zaf h3 (zaf (zAw k hr) (zaf (m2I k (zhL k a5) (zdY k _ _)) (zab rfl)))))))
  exact zaf rfl (zbu hlt (zaq (by omega) (zaq (by omega) (zaf hxy (zaf h2 (zaf h4 (zaf (zx1 k hr.1 hr.2) (zaf (m2S k (zhL k a5) (zdY k _ _)) (zab rfl)))))))))
 have e : cbV gr cs c l = (0, false) := by unfold cbV; rw [if_neg (by simp [ht])]
 have hlt : decide (((gdI gr cs c.A l l.length).1.length : Int) < (cs.length : Int)) = true := by simp; omega
 rw [e]
 refine ⟨zaA ?_, hS, fun _ => zaA (zaf rfl (zeR hlt (zab rfl)))⟩
 refine zaf rfl (zac (ψ := (· = true)) (zbu rfl (zab hlt)) ?_)
 rintro _ rfl
 exact zeR rfl (zab rfl)
theorem zET {gr : Group} (k : OkG gr) (hq : 7 < gr.Q) (cs : List Int) (c : Cipher) {l : List Partial} (hb : bdP l) (hl : l.length ≤ 1000) : za4 gr cs c l = some (cbV gr cs c l) ∧ zby gr cs c l = some (cbV gr cs c l) := by
 obtain ⟨h1, h2, h3⟩ := zsb k hq cs c hb hl
 refine ⟨h1, ?_⟩
 unfold zby
 rw [h2]
 cases hd : dcC gr cs c l
 ·have e : cbV gr cs c l = (0, false) := by unfold cbV; rw [hd]; rfl
  rw [e]; rfl
 simp [h3 hd]
def rtL (gr : Group) (A : Int) (f pts ws : List Int) : List Partial := (List.range pts.length).map fun i => zhh gr A (pts.getD i 0) (zaS gr.Q f (pts.getD i 0)) (ws.getD i 0)
structure RtOk (gr : Group) (f pts : List Int) : Prop where
 k : OkG gr
 q : 7 < gr.Q
 fe : ∀ c ∈ f, E9 gr.Q c
 n : 1 ≤ f.length ∧ f.length ≤ 7
 p : ∀ x ∈ pts, 1 ≤ x ∧ x ≤ 7
 d : pts.Nodup
 l : pts.length = f.length
theorem zoi {gr : Group} {A : Int} {f pts ws : List Int} {i : Nat} (hi : i < pts.length) : (rtL gr A f pts ws).getD i pt0 = zhh gr A pts[i] (zaS gr.Q f pts[i]) (ws.getD i 0) := by
 have h : i < (rtL gr A f pts ws).length := by simp [rtL, hi]
 rw [zb9 h]
 simp only [rtL, List.getElem_map, List.getElem_range, zb9 hi]
theorem zvL {gr : Group} {A : Int} {f pts ws : List Int} (R : RtOk gr f pts) (hA : zak gr A = true) (hw : ∀ w ∈ ws, E9 gr.Q w) {i : Nat} (hi : i < pts.length) : zhf gr (f.map (zai gr gr.G)) A ((rtL gr A f pts ws).getD i pt0) = true := by
 have k := R.k
 have hq := k.q
 rw [zoi hi]
 have hp := zfF R.p hi
 have h0 : ∀ c ∈ f, 0 ≤ c := fun c hc => (R.fe c hc).1
 have hpv := zhe (q := gr.Q) (by omega) f pts[i]
 have hw0 : 0 ≤ ws.getD i 0 := by
  by_cases h : i < ws.length
  ·rw [zb9 h]; exact (zfF hw h).1
  ·rw [List.getD_eq_getElem?_getD, List.getElem?_eq_none (by omega)]; exact Int.le_refl 0
 have ht : trB pts[i] = true := by simp only [trB, Bool.and_eq_true, decide_eq_true_eq]; omega
 have hv := zx7 k hA hpv.1 hw0
 show (trB pts[i] && zak gr (zai gr A _) && zke gr prtS [[gr.G], [A]] [atV gr (f.map (zai gr gr.G)) pts[i], zai gr A _] (zlR gr A _ _)) = true
 rw [zxZ k h0, ht, zi8 k hA, hv]
 rfl
theorem zvS {gr : Group} {A : Int} {f pts ws : List Int} (R : RtOk gr f pts) (hA : zak gr A = true) (hw : ∀ w ∈ ws, E9 gr.Q w) : ∀ n, n ≤ pts.length → gdI gr (f.map (zai gr gr.G)) A (rtL gr A f pts ws) n = ((List.range n).map fun (i : Nat) => (i : Int), pts.take n)
 | 0, _ => rfl
 | n + 1, h => by
  show gdF gr _ A _ n (gdI gr _ A _ n) = _
  rw [zvS R hA hw n (by omega)]
  have h1 := zvL R hA hw (i := n) (by omega)
  have hc : (pts.take n).contains pts[n] = false := by
   rw [List.contains_eq_mem]
   refine decide_eq_false fun hm => ?_
   have hd := R.d
   rw [← List.take_append_drop n pts, List.drop_eq_getElem_cons (by omega)] at hd
   exact (List.nodup_append.1 hd).2.2 _ hm _ List.mem_cons_self rfl
  unfold gdF
  have hi : ((rtL gr A f pts ws).getD n ⟨0, 0, ⟨[], [], []⟩⟩).Index = pts[n] := by
   have := zoi (gr := gr) (A := A) (f := f) (ws := ws) (show n < pts.length by omega)
   rw [show (⟨0, 0, ⟨[], [], []⟩⟩ : Partial) = pt0 from rfl, this]; rfl
  rw [hi, hc, h1]
  simp only [Bool.not_false, Bool.and_self, if_true]
  rw [List.range_succ, List.map_append, List.take_succ_eq_append_getElem (by omega)]
  rfl
theorem pow_zero {gr : Group} (k : OkG gr) (x : Int) : zai gr x 0 = 1 := by
 have hp := k.p
 unfold zai
 rw [Int.zero_emod, Int.toNat_zero, Nat.pow_zero, Nat.mod_eq_of_lt (by omega)]
 rfl
theorem zsW {f g : Nat → Int} : ∀ n, (∀ k, k < n → f k = g k) → smL f n = smL g n
 | 0, _ => rfl
 | n + 1, h => by show smL f n + f n = smL g n + g n; rw [zsW n fun k hk => h k (by omega), h n (by omega)]
theorem zBg {gr : Group} {f pts : List Int} (R : RtOk gr f pts) : LgOk gr.Q pts := by
 have hp := R.k.p
 have hq := R.k.q
 have := R.q
 have := R.n
 have := R.l
 exact ⟨by omega, by omega, R.k.pq, fun p hp => by have := R.p p hp; omega, R.d, by omega⟩
theorem zyQ {gr : Group} {A : Int} {f pts : List Int} (R : RtOk gr f pts) (hA : zak gr A = true) (x : Int) : zb7 gr (pts.map fun p => zai gr A (zaS gr.Q f p)) ((List.range pts.length).map (zej gr.Q pts x)) 1 = zai gr A (zaS gr.Q f x) := by
 have k := R.k
 have hq := k.q
 have hb := fun p => zhe (q := gr.Q) (by omega) f p
 have h := zqN k hA (pts.map (zaS gr.Q f)) ((List.range pts.length).map (zej gr.Q pts x)) 0 (Int.le_refl 0) (fun y hy => by
  obtain ⟨p, _, rfl⟩ := List.mem_map.1 hy; exact (hb p).1) (fun y hy => by
  obtain ⟨p, _, rfl⟩ := List.mem_map.1 hy; exact (zyk (by omega) pts x p).1) (by simp)
 rw [pow_zero k, List.map_map] at h
 refine h.trans (zm5 _ ?_)
 rw [Int.zero_add, List.length_map]
 have h2 := zpf (zBg R) (f := f) (by rw [R.l]; exact Nat.le_refl _) x
 rw [← h2, zf4]
 congr 1
 refine zsW _ fun j hj => ?_
 rw [zb9 (show j < ((List.range pts.length).map (zej gr.Q pts x)).length by simp [hj]), zb9 (show j < (pts.map (zaS gr.Q f)).length by simp [hj]), zb9 hj]
 simp
theorem zvg {code c0 : List Int} {at_ seed n : Int} {gr : Group} {k t : Nat} (hb : Bt code) (h : Cu code n (c0, at_, seed)) (hn : n ≤ 3000000000000000) (hg : Gw gr) (hk : k ≤ 20) (ht : t ≤ 20) :
 Rn (zbC c0 at_ seed gr (k : Int) (t : Int)) (fun z => z.1.length = k ∧ (∀ l ∈ z.1, l.length = t) ∧ Cu code (n + 2000) z.2) := by
 unfold zbC
 refine zac (ψ := fun x => x.2.length = k ∧ (∀ l ∈ x.2, l.length = t) ∧ Cu code (n + 2000) x.1) (zfv k (fun j s => s.2.1 = (k : Int) - j ∧ s.2.2.length = j ∧ (∀ l ∈ s.2.2, l.length = t) ∧ Cu code (n + 80 * j) s.1) ⟨by simp, rfl, fun l hl => by simp at hl, by simpa using h⟩ ?_ ?_) fun x hx => zab hx
 ·rintro j ⟨⟨d0, d1, d2⟩, m, out⟩ hj ⟨h1, h2, h3, h4⟩
  have h1 : m = (k : Int) - j := h1
  subst h1
  refine zeR (by simp; omega) (zac (zwS hb h4 (by omega) hg (by omega)) fun z ⟨z1, z2, z3⟩ => zaq (by show (out.length + 1) * 24 ≤ _ ∧ out.length + 1 ≤ _; have : out.length = j := h2; omega) (zab ⟨?_, ?_, ?_, z3.mono (by omega)⟩))
  ·show IntKind.i64.wrap ((k : Int) - j - 1) = _
   rw [zap (by omega) (by omega)]; omega
  ·show (out ++ [z.1]).length = j + 1
   have : out.length = j := h2
   simp [this]
  intro l hl
  rcases List.mem_append.1 (show l ∈ out ++ [z.1] from hl) with hl | hl
  ·exact h3 l hl
  rw [List.mem_singleton.1 hl]; exact z1
 rintro ⟨⟨d0, d1, d2⟩, m, out⟩ ⟨h1, h2, h3, h4⟩
 have h1 : m = (k : Int) - k := h1
 subst h1
 exact zbu (by simp) (zab ⟨h2, h3, h4.mono (by omega)⟩)
structure DlB (gr : Group) (n t : Nat) (d : Dealing) : Prop where
 s : d.Shares.length = n
 c : d.Commits.length = t
 r : ∀ y ∈ d.Commits, 0 ≤ y ∧ y ≤ 2000000000
 b : ∀ y ∈ d.Shares, 0 ≤ y ∧ y ≤ 2100000000
theorem zvp {gr : Group} (k : OkG gr) {n t : Nat} (hn : n ≤ 20) (ht : t ≤ 20) {d : Dealing} (D : DlB gr n t d) {a : List Int} (ha : ∀ y ∈ a, 0 ≤ y ∧ y ≤ 2100000000) : Rn (zep gr d a) (fun z => DlB gr n t z.1) := by
 have h1 := D.s
 have h2 := D.c
 unfold zep
 refine zaf (zsO k (by omega) D.r) ?_
 refine zac (ψ := fun b => b = false → a.length = (ze1 gr d d.Shares.length).length) (zam (fun _ => zab fun h => by cases h) fun _ => zab fun h => by simp at h; omega) fun b hb => zam (fun _ => zab D) fun g => ?_
 have hal := hb g
 refine zaf (zg8 (by omega)) (zaf (zg8 (by omega)) ?_)
 refine zac (ψ := Sum.elim (fun (x : List Int × List Int) => DlB gr n t ⟨x.1, x.2⟩) (fun (z : Dealing × Bool) => DlB gr n t z.1)) (zay (fun i s => DlB gr n t ⟨s.1, s.2⟩) D ?_ fun s h => h) ?_
 ·rintro i ⟨s1, s2⟩ hi D'
  have hx := zns _ (List.getElem_mem hi)
  obtain ⟨j, hj⟩ := Int.eq_ofNat_of_zero_le (show 0 ≤ (ze1 gr d d.Shares.length)[i] - 1 by omega)
  have hs2 : s2.length = n := D'.s
  have hai : i < a.length := by omega
  refine zaD hi (zaD hai (zaf (zmP k (by omega) (by omega) D.r) (zam (fun _ => zab D) fun _ => ?_)))
  rw [zap (n := (ze1 gr d d.Shares.length)[i] - 1) (by omega) (by omega), hj]
  refine zaD (show j < s2.length by omega) (zab ⟨?_, D'.c, D'.r, fun y hy => ?_⟩)
  ·show (s2.set _ _).length = n
   rw [List.length_set]; exact hs2
  rcases List.mem_or_eq_of_mem_set (show y ∈ s2.set _ _ from hy) with h | h
  ·exact D'.b y h
  rw [h]; exact zfF ha hai
 rintro (x | z) hx
 ·exact zab hx
 exact zab hx
theorem zvT {gr : Group} (k : OkG gr) {n t : Nat} (hn : n ≤ 20) (ht : t ≤ 20) {l : List Dealing} {asl : List (List Int)} (hl : l.length ≤ 20) (ha : asl.length = l.length) (D : ∀ d ∈ l, DlB gr n t d) (A : ∀ a ∈ asl, ∀ y ∈ a, 0 ≤ y ∧ y ≤ 2100000000) : Rn (zdA gr l asl) (fun z => z.1.length ≤ l.length ∧ z.1.length = z.2.length ∧ ∀ d ∈ z.2, DlB gr n t d) := by
 unfold zdA
 refine zac (ψ := fun (z : List Int × List Dealing) => z.1.length ≤ l.length ∧ z.1.length = z.2.length ∧ ∀ d ∈ z.2, DlB gr n t d) (zay (fun i s => s.1.length ≤ i ∧ s.1.length = s.2.length ∧ ∀ d ∈ s.2, DlB gr n t d) ⟨by simp, rfl, fun d hd => by simp at hd⟩ ?_ fun s h => h) fun z hz => zab hz
 rintro i ⟨s1, s2⟩ hi ⟨h1, h2, h3⟩
 have h1 : s1.length ≤ i := h1
 have h2 : s1.length = s2.length := h2
 refine zac (ψ := fun (z : List Int × List Dealing) => z.1.length ≤ i + 1 ∧ z.1.length = z.2.length ∧ ∀ d ∈ z.2, DlB gr n t d) ?_ fun z hz => zab hz
 have hia : i < asl.length := by omega
 refine zaD hi (zaD hia (zac (zvp k hn ht (zfF D hi) (zfF A hia)) fun z hz => zam (fun _ => zaq (by dsimp only; omega) (zaq (by dsimp only; omega) (zab ⟨by simp; omega, by simp [h2], fun d hd => ?_⟩))) fun _ => zab ⟨by dsimp only; omega, h2, h3⟩))
 rcases List.mem_append.1 hd with h | h
 ·exact h3 d h
 rw [List.mem_singleton.1 h]; exact hz
theorem zx4 {gr : Group} (k : OkG gr) {n t : Nat} (hn : n ≤ 20) (ht : t ≤ 20) {l : List Dealing} (hl : 1 ≤ l.length ∧ l.length ≤ 20) (D : ∀ d ∈ l, DlB gr n t d) : Rn (zfX gr l) (DlB gr n t) := by
 have hp := k.p
 have hq := k.q
 have h0 := zfF (i := 0) D (by omega)
 have h1 := h0.s
 have h2 := h0.c
 unfold zfX
 refine zaD (k := 0) (by omega) (zaf (zg8 (by omega)) (zaf (zg8 (by omega)) (zaq (by omega) ?_)))
 refine zac (ψ := fun (x : List Int × List Int) => DlB gr n t ⟨x.1, x.2⟩) (zay (fun i s => DlB gr n t ⟨s.1, s.2⟩) h0 ?_ fun s h => h) fun x hx => zab hx
 rintro i ⟨s1, s2⟩ hi D'
 have hd : DlB gr n t ((l.take l.length).drop 1)[i] := D _ (by
  have := List.getElem_mem hi
  exact List.mem_of_mem_take (List.mem_of_mem_drop this))
 refine zac (ψ := fun (x : List Int × List Int) => DlB gr n t ⟨x.1, x.2⟩) (zaf (zeg hi) ?_) fun x hx => zab hx
 generalize ((l.take l.length).drop 1)[i] = d at hd
 have d1 := hd.s
 have d2 := hd.c
 refine zac (ψ := fun (x : List Int × List Int) => DlB gr n t ⟨x.1, x.2⟩) (zay (fun i s => DlB gr n t ⟨s.1, s.2⟩) D' ?_ fun s h => h) fun x hx => zay (fun i s => DlB gr n t ⟨s.1, s.2⟩) hx ?_ fun s h => h
 ·rintro j ⟨u1, u2⟩ hj E
  have e1 : u1.length = t := E.c
  have hju : j < u1.length := by omega
  have r1 := zfF hd.r hj
  have r2 : R9 u1[j] := zfF E.r hju
  refine zaD hj (zaD hju (zaf (m2S k r2 r1) (zab ⟨E.s, ?_, fun y hy => ?_, E.b⟩)))
  ·show (u1.set _ _).length = t
   rw [List.length_set]; exact e1
  rcases List.mem_or_eq_of_mem_set (show y ∈ u1.set _ _ from hy) with h | h
  ·exact E.r y h
  rw [h]; exact zyF k r2 r1
 rintro j ⟨u1, u2⟩ hj E
 have e1 : u2.length = n := E.s
 have hju : j < u2.length := by omega
 have r1 := zfF hd.b hj
 have r2 : 0 ≤ u2[j] ∧ u2[j] ≤ 2100000000 := zfF E.b hju
 refine zaD hj (zaD hju (zaq (by omega) (zab ⟨?_, E.c, E.r, fun y hy => ?_⟩)))
 ·show (u2.set _ _).length = n
  rw [List.length_set]; exact e1
 rcases List.mem_or_eq_of_mem_set (show y ∈ u2.set _ _ from hy) with h | h
 ·exact E.b y h
 rw [h, zap (n := u2[j] + d.Shares[j]) (by omega) (by omega), Int.tmod_eq_emod_of_nonneg (by omega)]
 have a := Int.emod_nonneg (u2[j] + d.Shares[j]) (show gr.Q ≠ 0 by omega)
 have b := Int.emod_lt_of_pos (u2[j] + d.Shares[j]) (show 0 < gr.Q by omega)
 omega
structure KgB (gr : Group) (z : KeyGen) : Prop where
 s : z.Shares.length ≤ 20
 b : ∀ y ∈ z.Shares, 0 ≤ y ∧ y ≤ 2100000000
 y : 0 ≤ z.Key ∧ z.Key ≤ 2000000000
theorem zvP {gr : Group} (k : OkG gr) {n t : Nat} (hn : n ≤ 20) (ht : 1 ≤ t ∧ t ≤ 20) {l : List Dealing} {asl : List (List Int)} (hl : l.length ≤ 20) (ha : asl.length = l.length) (D : ∀ d ∈ l, DlB gr n t d) (A : ∀ a ∈ asl, ∀ y ∈ a, 0 ≤ y ∧ y ≤ 2100000000) : Rn (zd7 gr l asl) (fun z => KgB gr z.1) := by
 unfold zd7
 refine zac (zvT k hn ht.2 hl ha D A) fun z ⟨z0, z1, z2⟩ => zam (fun _ => zab ⟨by simp, fun y hy => by simp at hy, by show (0 : Int) ≤ 0; decide, by show (0 : Int) ≤ _; decide⟩) fun g => ?_
 have g : ¬ (z.1.length : Int) = 0 := by simpa using g
 refine zac (zx4 k hn ht.2 (l := z.2) (by omega) z2) fun x hx => ?_
 have hc := hx.c
 refine zaD (k := 0) (by omega) (zab ⟨by have := hx.s; show x.Shares.length ≤ 20; omega, hx.b, hx.r _ (List.getElem_mem _)⟩)
theorem zuw {code c0 : List Int} {at_ seed n : Int} {gr : Group} (hb : Bt code) (h : Cu code n (c0, at_, seed)) (hn : n ≤ 1000000000000000) (hg : Gw gr) : Rn (zcp c0 at_ seed gr) (fun z => KgB gr z.1 ∧ Cu code (n + 3000) z.2) := by
 unfold zcp
 refine zac (zgk (m := 5) hb h (by omega) (by omega)) fun z ⟨⟨K, hK, hK2⟩, z2⟩ => zaf (zgf gr) (zam (fun _ => zab ⟨⟨by simp, fun y hy => by simp at hy; subst hy; decide, by show (0 : Int) ≤ 1; decide, by show (1 : Int) ≤ _; decide⟩, z2.mono (by omega)⟩) fun g => ?_)
 have g : okG gr = true ∧ 7 < gr.Q := by simpa using g
 have k := zfN.1 g.1
 have e : IntKind.i64.wrap (1 + z.1) = ((K + 1 : Nat) : Int) := by rw [zap (n := 1 + z.1) (by omega) (by omega)]; omega
 rw [e]
 refine zac (zgk (m := K + 1) hb z2 (by omega) (by omega)) fun y ⟨⟨T, hT, hT2⟩, y2⟩ => ?_
 have e2 : IntKind.i64.wrap (1 + y.1) = ((T + 1 : Nat) : Int) := by rw [zap (n := 1 + y.1) (by omega) (by omega)]; omega
 rw [e2]
 refine zac (zvg hb y2 (by omega) hg (by omega) (by omega)) fun p ⟨p1, p2, p3⟩ => zaf (zv3 gr p.1 []) ?_
 refine zac (ψ := fun z => KgB gr z.1) ?_ fun z hz => zab ⟨hz, p3.mono (by omega)⟩
 by_cases P : PlOk gr p.1 []
 ·rw [zvM P]
  have hq := k.q
  have hp := k.p
  have D := fun i (hi : i < p.1.length) => zte P hi
  refine zvP k (n := K + 1) (t := (p.1.headD []).length) (by omega) (by have := P.t; omega) (by simp; omega) (by simp) (fun d hd => ?_) fun a ha y hy => ?_
  ·obtain ⟨i, hi, rfl⟩ := List.mem_map.1 hd
   obtain ⟨a1, a2, a3, a4⟩ := D i (List.mem_range.1 hi)
   exact ⟨by omega, a3, zho k a4, fun y hy => by have := a2 y hy; omega⟩
  obtain ⟨i, hi, rfl⟩ := List.mem_map.1 ha
  have hy : y ∈ plA gr p.1 [] i := hy
  unfold plA at hy
  split at hy
  ·obtain ⟨x, _, rfl⟩ := List.mem_map.1 hy
   have := zhe (q := gr.Q) (by omega) (p.1.getD i []) x
   omega
  simp at hy
 rw [zob P]
 exact zvP k (n := 0) (t := 1) (by omega) (by omega) (by simp) (by simp) (fun d hd => by simp at hd) fun a ha => by simp at ha
theorem zl2 {code c0 : List Int} {at_ seed n : Int} {gr : Group} (k : OkG gr) (hb : Bt code) (h : Cu code n (c0, at_, seed)) (hn : n ≤ 6000000000000000) : Rn (zat c0 at_ seed gr) (fun z => R9 z.1 ∧ Cu code (n + 4) z.2) := by
 have hp := k.p
 have hq := k.q
 have hG := k.g
 unfold zat
 refine zac (ψ := (· = false)) (zbu (by simp; omega) (zab (by simp; omega))) ?_
 rintro _ rfl
 have e : gr.G % gr.P = gr.G := Int.emod_eq_of_lt (by omega) (by omega)
 refine zbu rfl (zaf (zhx (by omega) (by omega)) (zac (zh8 hb h (by omega) (by omega)) fun z ⟨z1, z2, _, z3⟩ => ?_))
 rw [e]
 exact zaf (pwS k (r_G k) _) (zab ⟨zdY k _ _, z3⟩)
theorem ztw {code c0 : List Int} {at_ seed n : Int} {gr : Group} (k : OkG gr) (hb : Bt code) (h : Cu code n (c0, at_, seed)) (hn : n ≤ 4000000000000000) : Rn (zbj c0 at_ seed gr) (fun z => (R9 z.1.A ∧ R9 z.1.B) ∧ Cu code (n + 8) z.2) := by
 unfold zbj
 exact zac (zl2 k hb h (by omega)) fun z ⟨z1, z3⟩ => zac (zl2 k hb z3 (by omega)) fun y ⟨y1, y3⟩ => zab ⟨⟨z1, y1⟩, y3.mono (by omega)⟩
end Go.Pm
