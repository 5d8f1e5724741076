import Derived.Test.YthdjiekgolgmfaaR1b
namespace Go.Am
open Go.Proofs
set_option maxRecDepth 20000
set_option linter.unusedSimpArgs false
set_option linter.unusedVariables false

theorem wrP {i : Nat} (h0 : 0 < i) (h : i ≤ 4611686018427387904) : IntKind.i64.wrap ((i : Int) - 1) = ((i - 1 : Nat) : Int) := by rw [IntKind.wrap_i64]; omega
abbrev CV := List Int × Int
def sumFrom : Int → List CV → Int
  | s, [] => s
  | s, x :: r => sumFrom (IntKind.i64.wrap (s + x.2)) r
theorem vals_drop {L : List VC} {i : Nat} (h : i < L.length) : (L.map VC.val).drop i = (L[i].view, L[i].times) :: (L.map VC.val).drop (i + 1) := by
  rw [List.drop_eq_getElem_cons (by simpa using h)]
  simp [VC.val]

theorem vals_end (L : List VC) : (L.map VC.val).drop L.length = [] := List.drop_eq_nil_of_le (by simp)
/-- 'wSum' -/
theorem c42 {p : Option Addr} {c : Nat} {L : List VC} {H : AH} (hL : VCs H p c L) :
    ACalls Try.prog 42 [.slice p L.length c] H fun r H' => r = .int .i64 (sumFrom 0 (L.map VC.val)) ∧ H' = H := by
  refine acalls_body cl42 Try.func42 rfl rfl rfl (by simp) fun hw => ?_
  have hb1 := hL.b
  simp [go_sem]
  refine aw_loopI (σ := Nat × Int) (fun s => [(3, .v (.int .i64 s.2)), (6, .v (.slice p L.length c)), (7, .v (.int .i64 L.length)), (8, .v (.int .i64 s.1))])
    (fun s G => s.1 ≤ L.length ∧ sumFrom s.2 ((L.map VC.val).drop s.1) = sumFrom 0 (L.map VC.val) ∧ G = H) (fun s _ => L.length - s.1) (0, 0) (by simp [Agree, go_sem]) (by simp) ?_
  rintro I hI ⟨i, t⟩ G ⟨h1, h2, rfl⟩
  simp [go_sem]
  refine awc_split (fun hlt => ?_) (fun hge => ?_)
  · have hlt : i < L.length := by simpa using hlt
    simp [go_sem, ix_vc hL, ld_vc hL, hlt]
    refine ⟨(i + 1, IntKind.i64.wrap (t + L[i].times)), by simp [Agree, go_sem, wrS hlt (by omega)], hI _ _ ⟨hlt, ?_, rfl⟩, Nat.sub_succ_lt_self _ _ hlt⟩
    rw [vals_drop hlt] at h2
    exact h2
  · have hge : i = L.length := by simp at hge; simp at h1; omega
    subst hge
    simp [go_sem]
    rw [vals_end] at h2; exact h2

def good1 : Option (List Int) → List CV → Bool
  | _, [] => true
  | pv, x :: r => within x.2 1 1000000 && decide (x.1.length ≤ 24) && (match pv with | some u => lessL u x.1 | none => true) && good1 (some x.1) r
theorem good1_cons {pv : Option (List Int)} {x : CV} {r : List CV} : good1 pv (x :: r) = (within x.2 1 1000000 && decide (x.1.length ≤ 24) && (match pv with | some u => lessL u x.1 | none => true) && good1 (some x.1) r) := by cases pv <;> rfl
theorem good1_nil {pv : Option (List Int)} : good1 pv [] = true := by cases pv <;> rfl
def wGood (l : List CV) : Bool := decide (l.length ≤ 3000) && good1 none l && decide (sumFrom 0 l ≤ 1000000)
def prev (L : List VC) (i : Nat) : Option (List Int) := if i = 0 then none else (L[i - 1]?).map VC.view
theorem prev_succ {L : List VC} {i : Nat} (h : i < L.length) : prev L (i + 1) = some L[i].view := by simp [prev, h]
theorem prev_pos {L : List VC} {i : Nat} (h : i < L.length) (h0 : 0 < i) : prev L i = some (L[i - 1]'(by omega)).view := by
  have : i - 1 < L.length := by omega
  simp [prev, this]; omega

/-- 'wGood' -/
theorem c38 {p : Option Addr} {c : Nat} {L : List VC} {H : AH} (hL : VCs H p c L) :
    ACalls Try.prog 38 [.slice p L.length c] H fun r H' => r = .bool (wGood (L.map VC.val)) ∧ H' = H := by
  refine acalls_body cl38 Try.func38 rfl rfl rfl (by simp) fun hw => ?_
  have hb1 := hL.b
  simp [go_sem]
  refine awc_split (fun hn => ?_) (fun hn => ?_)
  · simp [go_sem]
    simp at hn
    simp [wGood]; omega
  have hn : L.length ≤ 3000 := by simp at hn; omega
  simp [go_sem]
  refine aw_loopI (σ := Nat) (fun s => [(0, .v (.slice p L.length c)), (8, .v (.slice p L.length c)), (9, .v (.int .i64 L.length)), (10, .v (.int .i64 s))])
    (fun s G => s ≤ L.length ∧ good1 (prev L s) ((L.map VC.val).drop s) = good1 none (L.map VC.val) ∧ G = H) (fun s _ => L.length - s) 0 (by simp [Agree, go_sem]) (by simp [prev]) ?_
  rintro I hI i G ⟨h1, h2, rfl⟩
  simp [go_sem]
  refine awc_split (fun hlt => ?_) (fun hge => ?_)
  · have hlt : i < L.length := by simpa using hlt
    rw [vals_drop hlt, good1_cons] at h2
    simp [go_sem, ix_vc hL, ld_vc hL, hlt]
    refine dr38_6 (by kernel_rfl) ?_
    simp [go_sem]
    refine acallk_pure (by decide) (c54 _ _ _) ?_
    cases hwi : within L[i].times 1 1000000 with
    | false =>
      simp [go_sem]
      simp [hwi] at h2
      simp [wGood, h2]
    | true =>
      by_cases h24 : 24 < L[i].view.length
      · have h24' : (24 : Int) < L[i].view.length := by omega
        simp [go_sem, h24']
        have : ¬ L[i].view.length ≤ 24 := by omega
        simp [this] at h2
        simp [wGood, h2]
      · have h24' : ¬ (24 : Int) < L[i].view.length := by omega
        have h24'' : L[i].view.length ≤ 24 := by omega
        by_cases h0 : 0 < i
        · have hp : i - 1 < L.length := by omega
          have hm : L[i] ∈ L := List.getElem_mem hlt
          have hm' : L[i - 1] ∈ L := List.getElem_mem hp
          simp [go_sem, h24', h0, wrP h0 (by omega), ix_vc hL, ld_vc0 hL, ne_vc hL hp, hp]
          refine acallk_pure (by decide) (c84 (hL.v _ hm') (hL.v _ hm) (by have := hL.vb _ hm'; omega)) ?_
          rw [prev_pos hlt h0] at h2
          cases hle : lessL L[i - 1].view L[i].view with
          | false =>
            simp [go_sem]
            simp [hle] at h2
            simp [wGood, h2]
          | true =>
            simp [go_sem]
            refine ⟨i + 1, by simp [Agree, go_sem, wrS hlt (by omega)], hI _ _ ⟨hlt, ?_, rfl⟩, Nat.sub_succ_lt_self _ _ hlt⟩
            simp [hle, hwi, h24''] at h2
            rw [prev_succ hlt]; exact h2
        · simp [go_sem, h24', h0]
          have : i = 0 := by omega
          refine ⟨i + 1, by simp [Agree, go_sem, wrS hlt (by omega)], hI _ _ ⟨hlt, ?_, rfl⟩, Nat.sub_succ_lt_self _ _ hlt⟩
          have hpn : prev L i = none := by simp [prev, this]
          rw [hpn] at h2
          simp [hwi, h24''] at h2
          rw [prev_succ hlt]; exact h2
  · have hge : i = L.length := by simp at hge; omega
    subst hge
    simp [go_sem]
    refine acallk_pure (by decide) (c42 hL) ?_
    simp [go_sem]
    rw [vals_end, good1_nil] at h2
    simp [wGood, ← h2, hn]

def count1 : Option (List Int) → Int → List CV → Bool
  | _, _, [] => true
  | pv, t, x :: r => decide (x.1.length ≤ 24) && within x.2 1 (IntKind.i64.wrap (1000000 - t)) && (match pv with | some u => decide (compareL u x.1 < 0) | none => true) && count1 (some x.1) (IntKind.i64.wrap (t + x.2)) r
theorem count1_cons {pv : Option (List Int)} {t : Int} {x : CV} {r : List CV} : count1 pv t (x :: r) = (decide (x.1.length ≤ 24) && within x.2 1 (IntKind.i64.wrap (1000000 - t)) && (match pv with | some u => decide (compareL u x.1 < 0) | none => true) && count1 (some x.1) (IntKind.i64.wrap (t + x.2)) r) := by cases pv <;> rfl
theorem count1_nil {pv : Option (List Int)} {t : Int} : count1 pv t [] = true := by cases pv <;> rfl
def isCount (l : List CV) : Bool := decide (l.length ≤ 3000) && count1 none 0 l
/-- 'isCount' -/
theorem c40 {p : Option Addr} {c : Nat} {L : List VC} {H : AH} (hL : VCs H p c L) :
    ACalls Try.prog 40 [.slice p L.length c] H fun r H' => r = .bool (isCount (L.map VC.val)) ∧ H' = H := by
  refine acalls_body cl40 Try.func40 rfl rfl rfl (by simp) fun hw => ?_
  have hb1 := hL.b
  simp [go_sem]
  refine awc_split (fun hn => ?_) (fun hn => ?_)
  · simp [go_sem]
    simp at hn
    simp [isCount]; omega
  have hn : L.length ≤ 3000 := by simp at hn; omega
  simp [go_sem]
  refine aw_loopI (σ := Nat × Int) (fun s => [(0, .v (.slice p L.length c)), (3, .v (.int .i64 s.2)), (9, .v (.slice p L.length c)), (10, .v (.int .i64 L.length)), (11, .v (.int .i64 s.1))])
    (fun s G => s.1 ≤ L.length ∧ count1 (prev L s.1) s.2 ((L.map VC.val).drop s.1) = count1 none 0 (L.map VC.val) ∧ G = H) (fun s _ => L.length - s.1) (0, 0) (by simp [Agree, go_sem]) (by simp [prev]) ?_
  rintro I hI ⟨i, t⟩ G ⟨h1, h2, rfl⟩
  simp [go_sem]
  refine awc_split (fun hlt => ?_) (fun hge => ?_)
  · have hlt : i < L.length := by simpa using hlt
    rw [vals_drop hlt, count1_cons] at h2
    simp [go_sem, ix_vc hL, ld_vc hL, hlt]
    refine dr40_7 (by kernel_rfl) ?_
    by_cases h24 : 24 < L[i].view.length
    · have h24' : (24 : Int) < L[i].view.length := by omega
      simp [go_sem, h24']
      have : ¬ L[i].view.length ≤ 24 := by omega
      simp [this] at h2
      simp [isCount, h2]
    · have h24' : ¬ (24 : Int) < L[i].view.length := by omega
      have h24'' : L[i].view.length ≤ 24 := by omega
      simp [go_sem, h24']
      refine acallk_pure (by decide) (c74 _ _ _) ?_
      cases hwi : within L[i].times 1 (IntKind.i64.wrap (1000000 - t)) with
      | false =>
        simp [go_sem]
        simp [hwi] at h2
        simp [isCount, h2]
      | true =>
        by_cases h0 : 0 < i
        · have hp : i - 1 < L.length := by omega
          have hm : L[i] ∈ L := List.getElem_mem hlt
          have hm' : L[i - 1] ∈ L := List.getElem_mem hp
          simp [go_sem, h0, wrP h0 (by omega), ix_vc hL, ld_vc0 hL, ne_vc hL hp, hp]
          refine acallk_pure (by decide) (c85 (hL.v _ hm') (hL.v _ hm) (by have := hL.vb _ hm'; omega)) ?_
          simp only [prev_pos hlt h0] at h2
          by_cases hle : 0 ≤ compareL L[i - 1].view L[i].view
          · simp [go_sem, hle]
            have : ¬ compareL L[i - 1].view L[i].view < 0 := by omega
            simp [this] at h2
            simp [isCount, h2]
          · simp [go_sem, hle]
            have hle : compareL L[i - 1].view L[i].view < 0 := by omega
            refine ⟨(i + 1, IntKind.i64.wrap (t + L[i].times)), by simp [Agree, go_sem, wrS hlt (by omega)], hI _ _ ⟨hlt, ?_, rfl⟩, Nat.sub_succ_lt_self _ _ hlt⟩
            simp [hle, hwi, h24''] at h2
            rw [prev_succ hlt]; exact h2
        · simp [go_sem, h0]
          have : i = 0 := by omega
          refine ⟨(i + 1, IntKind.i64.wrap (t + L[i].times)), by simp [Agree, go_sem, wrS hlt (by omega)], hI _ _ ⟨hlt, ?_, rfl⟩, Nat.sub_succ_lt_self _ _ hlt⟩
          have hpn : prev L i = none := by simp [prev, this]
          simp only [hpn] at h2
          simp [hwi, h24''] at h2
          rw [prev_succ hlt]; exact h2
  · have hge : i = L.length := by simp at hge; simp at h1; omega
    subst hge
    simp [go_sem]
    simp only [vals_end, count1_nil] at h2
    simp [isCount, ← h2, hn]

theorem c11 {p : Option Addr} {c : Nat} {L : List VC} {H : AH} (hL : VCs H p c L) :
    ACalls Try.prog 11 [.slice p L.length c] H fun r H' => r = .bool (wGood (L.map VC.val)) ∧ H' = H := by
  refine acalls_body cl11 Try.func11 rfl rfl rfl (by simp) fun hw => ?_
  simp [go_sem]
  refine acallk_pure (by decide) (c38 hL) ?_
  simp [go_sem]
theorem c13 {p : Option Addr} {c : Nat} {L : List VC} {H : AH} (hL : VCs H p c L) :
    ACalls Try.prog 13 [.slice p L.length c] H fun r H' => r = .bool (isCount (L.map VC.val)) ∧ H' = H := by
  refine acalls_body cl13 Try.func13 rfl rfl rfl (by simp) fun hw => ?_
  simp [go_sem]
  refine acallk_pure (by decide) (c40 hL) ?_
  simp [go_sem]

-- the plain law
theorem cmpI_lt {x y : Int} : cmpI x y = 0 ↔ x = y := by unfold cmpI; split <;> (try split) <;> constructor <;> intro h <;> omega
theorem compare_less : ∀ (xs ys : List Int), compareL xs ys < 0 ↔ lessL xs ys = true := by
  intro xs
  induction xs with
  | nil => intro ys; cases ys <;> simp [compareL, lessL]
  | cons x xs ih =>
    intro ys
    cases ys with
    | nil => simp [compareL, lessL]
    | cons y ys =>
      simp only [compareL, lessL, cmpI_lt]
      by_cases h : x = y
      · simp [h, ih]
      · simp only [h, if_false, decide_eq_true_eq]
        unfold cmpI; split <;> (try split) <;> omega
theorem sum_ge : ∀ (l : List CV) (pv : Option (List Int)) (s : Int), good1 pv l = true → 0 ≤ s → s + l.length * 1000000 ≤ 4611686018427387904 → s ≤ sumFrom s l := by
  intro l
  induction l with
  | nil => intro pv s _ _ _; exact Int.le_refl _
  | cons x l ih =>
    intro pv s hg h0 hb
    rw [good1_cons] at hg
    simp only [Bool.and_eq_true] at hg
    have hw := hg.1.1.1
    simp only [within, Bool.and_eq_true, decide_eq_true_eq] at hw
    simp only [List.length_cons] at hb
    have hwr : IntKind.i64.wrap (s + x.2) = s + x.2 := wr (by omega)
    simp only [sumFrom, hwr]
    have := ih (some x.1) (s + x.2) hg.2 (by omega) (by omega)
    omega
theorem count_good : ∀ (l : List CV) (pv : Option (List Int)) (t : Int), 0 ≤ t → t ≤ 1000000 → l.length ≤ 3000 → count1 pv t l = (good1 pv l && decide (sumFrom t l ≤ 1000000)) := by
  intro l
  induction l with
  | nil => intro pv t h0 h1 _; simp [count1_nil, good1_nil, sumFrom, h1]
  | cons x l ih =>
    intro pv t h0 h1 hl
    simp only [List.length_cons] at hl
    rw [count1_cons, good1_cons]
    have hw1 : IntKind.i64.wrap (1000000 - t) = 1000000 - t := wr (by omega)
    have hmatch : (match pv with | some u => decide (compareL u x.1 < 0) | none => true) = (match pv with | some u => lessL u x.1 | none => true) := by
      cases pv with
      | none => rfl
      | some u =>
        have := compare_less u x.1
        show decide (compareL u x.1 < 0) = lessL u x.1
        cases h : lessL u x.1 with
        | false => rw [h] at this; simp at this; simp; omega
        | true => simp [this.2 h]
    rw [hw1, hmatch]
    by_cases hx : 1 ≤ x.2 ∧ x.2 ≤ 1000000
    · have hw2 : IntKind.i64.wrap (t + x.2) = t + x.2 := wr (by omega)
      simp only [sumFrom, hw2]
      have hwa : within x.2 1 1000000 = true := by simp [within, hx]
      rw [hwa]
      by_cases ht : t + x.2 ≤ 1000000
      · have hwb : within x.2 1 (1000000 - t) = true := by simp [within]; omega
        rw [hwb, ih (some x.1) (t + x.2) (by omega) ht (by omega)]
        cases decide (x.1.length ≤ 24) <;> cases (match pv with | some u => lessL u x.1 | none => true) <;> simp
      · have hwb : within x.2 1 (1000000 - t) = false := by simp [within]; omega
        rw [hwb]
        have : (good1 (some x.1) l && decide (sumFrom (t + x.2) l ≤ 1000000)) = false := by
          cases hg : good1 (some x.1) l with
          | false => rfl
          | true =>
            have := sum_ge l _ (t + x.2) hg (by omega) (by omega)
            simp; omega
        generalize (match pv with | some u => lessL u x.1 | none => true) = b1 at *
        revert this
        cases decide (x.1.length ≤ 24) <;> cases b1 <;> cases good1 (some x.1) l <;> simp
    · have hwa : within x.2 1 1000000 = false := by simp [within]; omega
      have hwb : within x.2 1 (1000000 - t) = false := by simp [within]; omega
      rw [hwa, hwb]; simp
theorem is_good (l : List CV) : isCount l = wGood l := by
  unfold isCount wGood
  by_cases h : l.length ≤ 3000
  · rw [count_good l none 0 (by decide) (by decide) h]; simp [h]
  · simp [h]

/-- The law. -/
theorem c3 {p : Option Addr} {c : Nat} {L : List VC} {H : AH} (hL : VCs H p c L) :
    ACalls Try.prog 3 [.slice p L.length c] H fun r H' => r = .bool true ∧ Ext H H' := by
  refine acalls_body cl3 Try.func3 rfl rfl rfl (by simp) fun hw => ?_
  simp [go_sem]
  refine acallk_mono (by decide) (c10 hL) ?_
  rintro _ _ ⟨⟨k, rfl⟩, rfl⟩
  simp [go_sem]
  refine awc_split (fun h => ?_) (fun h => ?_) <;> simp [go_sem]
  refine acallk_mono (by decide) (c12 hL) ?_
  rintro _ H1 ⟨e1, q, D, rfl, hD, hv⟩
  simp [go_sem]
  refine acallk_pure (by decide) (c11 hD) ?_
  simp [go_sem]
  refine acallk_mono (by decide) (c12 (hL.ext e1)) ?_
  rintro _ H2 ⟨e2, q2, D2, rfl, hD2, hv2⟩
  simp [go_sem]
  refine acallk_pure (by decide) (c13 hD2) ?_
  simp [go_sem, hv, hv2, is_good]
  refine acallk_mono (by decide) (c12 (hL.ext (e1.trans e2))) ?_
  rintro _ H3 ⟨e3, q3, D3, rfl, hD3, hv3⟩
  simp [go_sem]
  refine acallk_pure (by decide) (c14 (hD2.ext e3) hD3) ?_
  simp [go_sem, hv2, hv3]
  exact e1.trans (e2.trans e3)
end Go.Am
