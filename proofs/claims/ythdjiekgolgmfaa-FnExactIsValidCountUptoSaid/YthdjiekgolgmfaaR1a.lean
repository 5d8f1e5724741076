import Derived.Test.YthdjiekgolgmfaaS
import Derived.Laws.BitsLemmas
namespace Go.Am
open Go.Proofs
set_option maxRecDepth 20000
set_option linter.unusedSimpArgs false
set_option linter.unusedVariables false

theorem wr {n : Int} (h : -9223372036854775808 ≤ n ∧ n ≤ 9223372036854775807) : IntKind.i64.wrap n = n := by rw [IntKind.wrap_i64]; omega
theorem wrS {i n : Nat} (h : i < n) (hn : n ≤ 4611686018427387904) : IntKind.i64.wrap ((i : Int) + 1) = ((i + 1 : Nat) : Int) := by rw [IntKind.wrap_i64]; omega
theorem drop_cons {xs : List Int} {i : Nat} (h : i < xs.length) : xs.drop i = xs[i]?.getD 0 :: xs.drop (i + 1) := by
  rw [List.drop_eq_getElem_cons h]; simp [h]

/-- 'n' lies between 'lo' and 'hi'. -/
def within (n lo hi : Int) : Bool := decide (lo ≤ n) && decide (n ≤ hi)
theorem c54 {H : AH} (n lo hi : Int) : ACalls Try.prog 54 [.int .i64 n, .int .i64 lo, .int .i64 hi] H fun r H' => r = .bool (within n lo hi) ∧ H' = H := by
  refine acalls_body cl54 Try.func54 rfl rfl rfl (by simp) fun hw => ?_
  simp [go_sem]
  refine awg_split (by decide) (fun h => ?_) (fun h => ?_) <;> simp [go_sem, h] <;> simp_all [within] <;> omega
theorem c74 {H : AH} (n lo hi : Int) : ACalls Try.prog 74 [.int .i64 n, .int .i64 lo, .int .i64 hi] H fun r H' => r = .bool (within n lo hi) ∧ H' = H := by
  refine acalls_body cl74 Try.func74 rfl rfl rfl (by simp) fun hw => ?_
  simp [go_sem]
  refine awg_split (by decide) (fun h => ?_) (fun h => ?_) <;> simp [go_sem, h] <;> simp_all [within] <;> omega

/-- Lists, in the order of the dictionary. -/
def lessL : List Int → List Int → Bool
  | [], [] => false
  | [], _ :: _ => true
  | _ :: _, [] => false
  | x :: xs, y :: ys => if x = y then lessL xs ys else decide (x < y)
theorem c84 {p q : Option Addr} {c d : Nat} {xs ys : List Int} {H : AH} (hx : Ints H (.slice p xs.length c) xs) (hy : Ints H (.slice q ys.length d) ys) (hl : xs.length ≤ 4611686018427387904) :
    ACalls Try.prog 84 [.slice p xs.length c, .slice q ys.length d] H fun r H' => r = .bool (lessL xs ys) ∧ H' = H := by
  refine acalls_body cl84 Try.func84 rfl rfl rfl (by simp) fun hw => ?_
  simp [go_sem]
  refine aw_loop (σ := Nat) (fun s => [(0, .v (.slice p xs.length c)), (1, .v (.slice q ys.length d)), (7, .v (.int .i64 xs.length)), (8, .v (.int .i64 s))])
    (fun s H' => s ≤ xs.length ∧ s ≤ ys.length ∧ lessL (xs.drop s) (ys.drop s) = lessL xs ys ∧ H' = H) (fun s _ => xs.length - s) 0 (by simp [Agree, go_sem]) (by simp) ?_
  rintro i H' ⟨h1, h1', h2, rfl⟩
  simp [go_sem]
  refine awc_split (fun hlt => ?_) (fun hge => ?_)
  · have hlt : i < xs.length := by simpa using hlt
    simp [go_sem]
    refine awc_split (fun hi => ?_) (fun hi => ?_)
    · simp [go_sem]
      have hi : i = ys.length := by simp at hi; omega
      rw [drop_cons hlt, show ys.drop i = [] from List.drop_eq_nil_of_le (by omega)] at h2
      rw [← h2]; rfl
    · have hi : i < ys.length := by simp at hi; omega
      rw [drop_cons hlt, drop_cons hi] at h2
      simp [go_sem]
      refine dr84_6 (by kernel_rfl) ?_
      simp [go_sem, ix_int hx, ix_int hy, ld_int hx, ld_int hy, inB_nat hlt, inB_nat hi]
      refine awc_split (fun hn => ?_) (fun hn => ?_)
      · simp [go_sem]
        refine dr84_7 (by kernel_rfl) ?_
        simp [go_sem, ix_int hx, ix_int hy, ld_int hx, ld_int hy, inB_nat hlt, inB_nat hi]
        rw [← h2, lessL, if_neg (by simpa using hn)]
      · simp [go_sem]
        refine ⟨i + 1, by simp [Agree, go_sem, wrS hlt hl], ⟨by omega, by omega, ?_, rfl⟩, Nat.sub_succ_lt_self _ _ hlt⟩
        rw [← h2, lessL, if_pos (by simpa using hn)]
  · simp [go_sem]
    have hge : xs.length ≤ i := by simpa using hge
    rw [List.drop_eq_nil_of_le hge] at h2
    rw [← h2]
    cases hd : ys.drop i with
    | nil =>
      have := congrArg List.length hd
      simp at this
      simp [lessL]; omega
    | cons y l =>
      have := congrArg List.length hd
      simp at this
      simp [lessL]; omega

/-- 'x' against 'y'. -/
def cmpI (x y : Int) : Int := if x < y then -1 else if y < x then 1 else 0
theorem c121 {H : AH} (x : Int) : ACalls Try.prog 121 [.int .i64 x] H fun r H' => r = .bool false ∧ H' = H := by
  refine acalls_body cl121 Try.func121 rfl rfl rfl (by simp) fun hw => ?_
  simp [go_sem]
theorem c113 {H : AH} (x y : Int) : ACalls Try.prog 113 [.int .i64 x, .int .i64 y] H fun r H' => r = .int .i64 (cmpI x y) ∧ H' = H := by
  refine acalls_body cl113 Try.func113 rfl rfl rfl (by simp) fun hw => ?_
  simp [go_sem]
  refine acallk_pure (by decide) (c121 _) ?_
  simp [go_sem]
  refine acallk_pure (by decide) (c121 _) ?_
  simp [go_sem]
  refine awc_split (fun h => ?_) (fun h => ?_) <;> simp [go_sem]
  · simp at h; simp [cmpI, h]
  · refine awc_split (fun h' => ?_) (fun h' => ?_) <;> simp [go_sem] <;> simp at h h' <;> simp [cmpI]
    · rw [if_neg (by omega), if_pos (by omega)]
    · rw [if_neg (by omega), if_neg (by omega)]

def compareL : List Int → List Int → Int
  | [], [] => 0
  | [], _ :: _ => -1
  | _ :: _, [] => 1
  | x :: xs, y :: ys => if cmpI x y = 0 then compareL xs ys else cmpI x y
theorem c85 {p q : Option Addr} {c d : Nat} {xs ys : List Int} {H : AH} (hx : Ints H (.slice p xs.length c) xs) (hy : Ints H (.slice q ys.length d) ys) (hl : xs.length ≤ 4611686018427387904) :
    ACalls Try.prog 85 [.slice p xs.length c, .slice q ys.length d] H fun r H' => r = .int .i64 (compareL xs ys) ∧ H' = H := by
  refine acalls_body cl85 Try.func85 rfl rfl rfl (by simp) fun hw => ?_
  simp [go_sem]
  refine aw_loop (σ := Nat) (fun s => [(0, .v (.slice p xs.length c)), (1, .v (.slice q ys.length d)), (9, .v (.slice p xs.length c)), (10, .v (.int .i64 xs.length)), (11, .v (.int .i64 s))])
    (fun s H' => s ≤ xs.length ∧ s ≤ ys.length ∧ compareL (xs.drop s) (ys.drop s) = compareL xs ys ∧ H' = H) (fun s _ => xs.length - s) 0 (by simp [Agree, go_sem]) (by simp) ?_
  rintro i H' ⟨h1, h1', h2, rfl⟩
  simp [go_sem]
  refine awc_split (fun hlt => ?_) (fun hge => ?_)
  · have hlt : i < xs.length := by simpa using hlt
    simp [go_sem, ix_int hx, ld_int hx, inB_nat hlt]
    refine awc_split (fun hi => ?_) (fun hi => ?_)
    · simp [go_sem]
      have hi : i = ys.length := by simp at hi; omega
      rw [drop_cons hlt, show ys.drop i = [] from List.drop_eq_nil_of_le (by omega)] at h2
      rw [← h2]; rfl
    · have hi : i < ys.length := by simp at hi; omega
      rw [drop_cons hlt, drop_cons hi] at h2
      simp [go_sem, ix_int hy, ld_int hy, inB_nat hi]
      refine acallk_pure (by decide) (c113 _ _) ?_
      simp [go_sem]
      refine awc_split (fun hn => ?_) (fun hn => ?_)
      · simp [go_sem]
        rw [← h2, compareL, if_neg (by simpa using hn)]
      · simp [go_sem]
        refine ⟨i + 1, by simp [Agree, go_sem, wrS hlt hl], ⟨by omega, by omega, ?_, rfl⟩, Nat.sub_succ_lt_self _ _ hlt⟩
        rw [← h2, compareL, if_pos (by simpa using hn)]
  · simp [go_sem]
    have hge : xs.length ≤ i := by simpa using hge
    rw [List.drop_eq_nil_of_le hge] at h2
    refine awc_split (fun hn => ?_) (fun hn => ?_) <;> simp [go_sem] <;> rw [← h2]
    · cases hd : ys.drop i with
      | nil =>
        have := congrArg List.length hd
        simp at this hn; omega
      | cons y l => rfl
    · cases hd : ys.drop i with
      | nil => rfl
      | cons y l =>
        have := congrArg List.length hd
        simp at this hn; omega
end Go.Am
