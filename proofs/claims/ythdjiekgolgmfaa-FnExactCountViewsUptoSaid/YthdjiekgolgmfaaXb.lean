/-
  FnExactCountViews: rotations, merging, the stable sort.
  No condition.
-/
import Derived.Test.YthdjiekgolgmfaaXa
namespace Go.Pm
open Go.Am
set_option linter.unusedVariables false
set_option linter.unusedSimpArgs false

theorem p_swapRange (l : List ViewCount) (a b n : Nat) (hab : a + n ≤ b) (hb : b + n ≤ l.length) (hl : l.length ≤ 1048576) :
    ∃ r, F_slices_swapRangeCmpFunc_impl_ViewCount__io0_impl_gathered_1 l (a : Int) (b : Int) (n : Int) = some r ∧ Seg l r a (b + n) ∧
      ∀ k, gv r k = if a ≤ k ∧ k < a + n then gv l (k - a + b) else if b ≤ k ∧ k < b + n then gv l (k - b + a) else gv l k := by
  unfold F_slices_swapRangeCmpFunc_impl_ViewCount__io0_impl_gathered_1
  refine cloop_post n (fun i s => ∃ r, s = (r, (i : Int)) ∧ Seg l r a (b + n) ∧ ∀ k, gv r k = if a ≤ k ∧ k < a + i then gv l (k - a + b) else if b ≤ k ∧ k < b + i then gv l (k - b + a) else gv l k) _
    ⟨l, rfl, .refl _ _ _, fun k => by rw [if_neg (by omega), if_neg (by omega)]⟩ ?_ ?_
  · rintro i s hi ⟨r, rfl, h1, h2⟩
    have hrl := h1.len
    have hd : decide ((i : Int) < (n : Int)) = true := by simpa using hi
    have e1 : IntKind.i64.wrap ((b : Int) + (i : Int)) = ((b + i : Nat) : Int) := by rw [wr64 (by omega) (by omega)]; simp
    have e2 : IntKind.i64.wrap ((a : Int) + (i : Int)) = ((a + i : Nat) : Int) := by rw [wr64 (by omega) (by omega)]; simp
    refine .inl ⟨(((r.set (a + i) (gv r (b + i))).set (b + i) (gv r (a + i))), (i : Int) + 1), ?_, (r.set (a + i) (gv r (b + i))).set (b + i) (gv r (a + i)), by simp, h1.trans (seg_swap (i := a + i) (j := b + i) (by omega) (by omega) (by omega) (by omega) (by omega) (by omega) (by omega)), fun k => ?_⟩
    · simp only [hd, if_true, e1, e2, gv_ix (l := r) (i := b + i) (by omega), gv_ix (l := r) (i := a + i) (by omega), Option.bind_some, Int.toNat_natCast]
      rw [gv_ix (by simp; omega), Option.bind_some, wr64 (by omega) (by omega)]
    · have ea : gv r (a + i) = gv l (a + i) := by rw [h2, if_neg (by omega), if_neg (by omega)]
      have eb : gv r (b + i) = gv l (b + i) := by rw [h2, if_neg (by omega), if_neg (by omega)]
      rw [gv_swap (by omega) (by omega), ea, eb, h2 k]
      by_cases c1 : k = b + i
      · rw [if_pos c1, if_neg (by omega), if_pos (by omega), c1]
        congr 1; omega
      · rw [if_neg c1]
        by_cases c2 : k = a + i
        · rw [if_pos c2, if_pos (by omega), c2]
          congr 1; omega
        · rw [if_neg c2]
          by_cases c3 : a ≤ k ∧ k < a + i
          · rw [if_pos c3, if_pos (by omega)]
          · rw [if_neg c3]
            by_cases c4 : b ≤ k ∧ k < b + i
            · rw [if_pos c4, if_neg (by omega), if_pos (by omega)]
            · rw [if_neg c4, if_neg (by omega), if_neg (by omega)]
  · rintro s ⟨r, rfl, h1, h2⟩
    exact ⟨r, by simp, h1, h2⟩
/-- What stood in [a, m) stands behind what stood in [m, b). -/
def rotf (f : Nat → ViewCount) (a m b k : Nat) : ViewCount := if a ≤ k ∧ k < a + (b - m) then f (k + (m - a)) else if a + (b - m) ≤ k ∧ k < b then f (k - (b - m)) else f k
theorem rotf_l {f g : Nat → ViewCount} {m i j : Nat} (hi : i ≤ m) (hij : j < i) (hg : ∀ k, g k = if m - i ≤ k ∧ k < m - i + j then f (k - (m - i) + m) else if m ≤ k ∧ k < m + j then f (k - m + (m - i)) else f k) (k : Nat) :
    rotf g (m - (i - j)) m (m + j) k = rotf f (m - i) m (m + j) k := by
  unfold rotf
  by_cases c1 : k < m - i
  · rw [if_neg (by omega), if_neg (by omega), hg k, if_neg (by omega), if_neg (by omega), if_neg (by omega), if_neg (by omega)]
  · by_cases c2 : k < m - i + j
    · rw [if_neg (by omega), if_neg (by omega), hg k, if_pos (by omega), if_pos (by omega)]
      congr 1; omega
    · by_cases c3 : k < m - (i - j) + j
      · rw [if_pos (by omega), hg, if_neg (by omega), if_pos (by omega), if_neg (by omega), if_pos (by omega)]
        congr 1; omega
      · by_cases c4 : k < m + j
        · rw [if_neg (by omega), if_pos (by omega), hg, if_neg (by omega), if_neg (by omega), if_neg (by omega), if_pos (by omega)]
        · rw [if_neg (by omega), if_neg (by omega), hg, if_neg (by omega), if_neg (by omega), if_neg (by omega), if_neg (by omega)]
theorem rotf_r {f g : Nat → ViewCount} {m i j : Nat} (hi : i ≤ m) (hij : i < j) (hg : ∀ k, g k = if m - i ≤ k ∧ k < m - i + i then f (k - (m - i) + (m + j - i)) else if m + j - i ≤ k ∧ k < m + j - i + i then f (k - (m + j - i) + (m - i)) else f k) (k : Nat) :
    rotf g (m - i) m (m + (j - i)) k = rotf f (m - i) m (m + j) k := by
  unfold rotf
  by_cases c1 : k < m - i
  · rw [if_neg (by omega), if_neg (by omega), hg k, if_neg (by omega), if_neg (by omega), if_neg (by omega), if_neg (by omega)]
  · by_cases c2 : k < m + j - i - i
    · rw [if_pos (by omega), hg, if_neg (by omega), if_neg (by omega), if_pos (by omega)]
    · by_cases c3 : k < m + j - i
      · rw [if_neg (by omega), if_pos (by omega), hg, if_pos (by omega), if_pos (by omega)]
        congr 1; omega
      · by_cases c4 : k < m + j
        · rw [if_neg (by omega), if_neg (by omega), hg, if_neg (by omega), if_pos (by omega), if_neg (by omega), if_pos (by omega)]
          congr 1; omega
        · rw [if_neg (by omega), if_neg (by omega), hg, if_neg (by omega), if_neg (by omega), if_neg (by omega), if_neg (by omega)]
theorem rotf_e {f g : Nat → ViewCount} {m i : Nat} (hi : i ≤ m) (hg : ∀ k, g k = if m - i ≤ k ∧ k < m - i + i then f (k - (m - i) + m) else if m ≤ k ∧ k < m + i then f (k - m + (m - i)) else f k) (k : Nat) :
    g k = rotf f (m - i) m (m + i) k := by
  unfold rotf
  rw [hg k]
  by_cases c1 : m - i ≤ k ∧ k < m - i + i
  · rw [if_pos c1, if_pos (by omega)]; congr 1; omega
  · rw [if_neg c1]
    by_cases c2 : m ≤ k ∧ k < m + i
    · rw [if_pos c2, if_neg (by omega), if_pos (by omega)]; congr 1; omega
    · rw [if_neg c2, if_neg (by omega), if_neg (by omega)]
theorem p_rotate (l : List ViewCount) (a m b : Nat) (ham : a < m) (hmb : m < b) (hb : b ≤ l.length) (hl : l.length ≤ 1048576) :
    ∃ r, F_slices_rotateCmpFunc_impl_ViewCount__io0_impl_gathered_1 l (a : Int) (m : Int) (b : Int) = some r ∧ Seg l r a b ∧ ∀ k, gv r k = rotf (gv l) a m b k := by
  unfold F_slices_rotateCmpFunc_impl_ViewCount__io0_impl_gathered_1
  rw [wr64 (n := (m : Int) - a) (by omega) (by omega), wr64 (n := (b : Int) - m) (by omega) (by omega)]
  obtain ⟨x, e, r, i, hx, h0, him, hir, h1, h2⟩ := wloop_post (σ := (List ViewCount) × Int × Int) (β := ((List ViewCount) × Int)) (step := fun s31 =>
    if (s31.2.1 != s31.2.2) = true then (
    if decide (s31.2.2 < s31.2.1) = true then (
    (F_slices_swapRangeCmpFunc_impl_ViewCount__io0_impl_gathered_1 s31.1 (IntKind.i64.wrap ((m : Int) - s31.2.1)) (m : Int) s31.2.2).bind fun z43 =>
    some (.go (z43, IntKind.i64.wrap (s31.2.1 - s31.2.2), s31.2.2))) else (
    (F_slices_swapRangeCmpFunc_impl_ViewCount__io0_impl_gathered_1 s31.1 (IntKind.i64.wrap ((m : Int) - s31.2.1)) (IntKind.i64.wrap ((IntKind.i64.wrap ((m : Int) + s31.2.2)) - s31.2.1)) s31.2.1).bind fun z48 =>
    some (.go (z48, s31.2.1, IntKind.i64.wrap (s31.2.2 - s31.2.1))))) else (
    some (.out (s31.1, s31.2.1))))
    (fun n s => ∃ (r : List ViewCount) (i j : Nat), s = (r, (i : Int), (j : Int)) ∧ n = i + j ∧ 0 < i ∧ 0 < j ∧ i ≤ m - a ∧ j ≤ b - m ∧ Seg l r a b ∧ ∀ k, rotf (gv r) (m - i) m (m + j) k = rotf (gv l) a m b k)
    (fun x => ∃ (r : List ViewCount) (i : Nat), x = (r, (i : Int)) ∧ 0 < i ∧ i ≤ m - a ∧ i ≤ b - m ∧ Seg l r a b ∧ ∀ k, rotf (gv r) (m - i) m (m + i) k = rotf (gv l) a m b k)
    (by
      rintro n s ⟨r, i, j, rfl, h1, h2, h3, h4, h5, h6, h7⟩
      have hrl := h6.len
      simp only
      by_cases c1 : i = j
      · subst c1
        exact .inr ⟨(r, (i : Int)), by simp, r, i, rfl, h2, h4, h5, h6, h7⟩
      · have hne : ((i : Int) != (j : Int)) = true := by simp; omega
        have e1 : IntKind.i64.wrap ((m : Int) - (i : Int)) = ((m - i : Nat) : Int) := by rw [wr64 (by omega) (by omega)]; omega
        rw [if_pos hne, e1]
        by_cases c2 : j < i
        · have hd : decide ((j : Int) < (i : Int)) = true := by simpa using c2
          obtain ⟨r2, s1, s2, s3⟩ := p_swapRange r (m - i) m j (by omega) (by omega) (by omega)
          rw [if_pos hd, s1, Option.bind_some]
          refine .inl ⟨(r2, ((i - j : Nat) : Int), (j : Int)), i - j + j, ?_, by omega, r2, i - j, j, rfl, rfl, by omega, h3, by omega, h5, h6.trans (s2.wide (by omega) (by omega)), fun k => ?_⟩
          · rw [wr64 (by omega) (by omega)]; congr 4; omega
          · rw [rotf_l (by omega) c2 s3, h7]
        · have hd : decide ((j : Int) < (i : Int)) = false := by simpa using c2
          have e2 : IntKind.i64.wrap ((IntKind.i64.wrap ((m : Int) + (j : Int))) - (i : Int)) = ((m + j - i : Nat) : Int) := by rw [wr64 (n := (m : Int) + j) (by omega) (by omega), wr64 (by omega) (by omega)]; omega
          obtain ⟨r2, s1, s2, s3⟩ := p_swapRange r (m - i) (m + j - i) i (by omega) (by omega) (by omega)
          rw [if_neg (by simp [hd]; omega), e2, s1, Option.bind_some]
          refine .inl ⟨(r2, (i : Int), ((j - i : Nat) : Int)), i + (j - i), ?_, by omega, r2, i, j - i, rfl, rfl, h2, by omega, h4, by omega, h6.trans (s2.wide (by omega) (by omega)), fun k => ?_⟩
          · rw [wr64 (by omega) (by omega)]; congr 4; omega
          · rw [rotf_r (by omega) (by omega) s3, h7])
    ((m - a) + (b - m)) (l, (m : Int) - a, (b : Int) - m) ⟨l, m - a, b - m, by congr 2 <;> omega, rfl, by omega, by omega, by omega, by omega, .refl _ _ _, fun k => by
      have e1 : m - (m - a) = a := by omega
      have e2 : m + (b - m) = b := by omega
      rw [e1, e2]⟩
  subst hx
  have hrl := h1.len
  rw [e, Option.bind_some]
  obtain ⟨r2, s1, s2, s3⟩ := p_swapRange r (m - i) m i (by omega) (by omega) (by omega)
  have e1 : IntKind.i64.wrap ((m : Int) - (i : Int)) = ((m - i : Nat) : Int) := by rw [wr64 (by omega) (by omega)]; omega
  simp only [e1, s1, Option.bind_some]
  exact ⟨r2, rfl, h1.trans (s2.wide (by omega) (by omega)), fun k => by rw [rotf_e (by omega) s3, h2]⟩
/-- What a rotation leaves in order. -/
structure RotOK (l r : List ViewCount) (a s m e b : Nat) : Prop where
  h1 : a ≤ s
  h2 : s ≤ m
  h3 : m ≤ e
  h4 : e ≤ b
  sa : Srt l a m
  sb : Srt l m b
  c1 : ∀ i j, a ≤ i → i < s → e ≤ j → j < b → leV (gv l i) (gv l j)
  c2 : ∀ i j, m ≤ i → i < e → s ≤ j → j < m → leV (gv l i) (gv l j)
  rot : ∀ k, gv r k = rotf (gv l) s m e k
section
variable {l r : List ViewCount} {a s m e b : Nat}
theorem RotOK.lo (h : RotOK l r a s m e b) {x : Nat} (hx : x < s) : gv r x = gv l x := by
  have := h.h2; have := h.h3
  rw [h.rot, rotf, if_neg (by omega), if_neg (by omega)]
theorem RotOK.l1 (h : RotOK l r a s m e b) {x : Nat} (h1 : s ≤ x) (h2 : x < s + (e - m)) : gv r x = gv l (x + (m - s)) := by
  rw [h.rot, rotf, if_pos ⟨h1, h2⟩]
theorem RotOK.l2 (h : RotOK l r a s m e b) {x : Nat} (h1 : s + (e - m) ≤ x) (h2 : x < e) : gv r x = gv l (x - (e - m)) := by
  rw [h.rot, rotf, if_neg (by omega), if_pos ⟨h1, h2⟩]
theorem RotOK.hi (h : RotOK l r a s m e b) {x : Nat} (h1 : e ≤ x) : gv r x = gv l x := by
  have := h.h2; have := h.h3
  rw [h.rot, rotf, if_neg (by omega), if_neg (by omega)]
theorem RotOK.cross (h : RotOK l r a s m e b) {i j : Nat} (hi : a ≤ i) (hi2 : i < s + (e - m)) (hj : s + (e - m) ≤ j) (hj2 : j < b) : leV (gv r i) (gv r j) := by
  have q1 := h.h1; have q2 := h.h2; have q3 := h.h3; have q4 := h.h4
  by_cases a1 : i < s
  · rw [h.lo a1]
    by_cases b1 : j < e
    · rw [h.l2 hj b1]
      exact h.sa i _ hi (by omega) (by omega)
    · rw [h.hi (by omega)]
      exact h.c1 i j hi a1 (by omega) hj2
  · rw [h.l1 (by omega) hi2]
    by_cases b1 : j < e
    · rw [h.l2 hj b1]
      exact h.c2 _ _ (by omega) (by omega) (by omega) (by omega)
    · rw [h.hi (by omega)]
      exact h.sb _ j (by omega) (by omega) hj2
theorem RotOK.s1 (h : RotOK l r a s m e b) : Srt r a s := fun i j h1 h2 h3 => by
  have q2 := h.h2
  rw [h.lo (by omega), h.lo h3]; exact h.sa i j h1 h2 (by omega)
theorem RotOK.s2 (h : RotOK l r a s m e b) : Srt r s (s + (e - m)) := fun i j h1 h2 h3 => by
  have q2 := h.h2; have q4 := h.h4
  rw [h.l1 h1 (by omega), h.l1 (by omega) h3]; exact h.sb _ _ (by omega) (by omega) (by omega)
theorem RotOK.s3 (h : RotOK l r a s m e b) : Srt r (s + (e - m)) e := fun i j h1 h2 h3 => by
  have q1 := h.h1; have q2 := h.h2; have q3 := h.h3
  rw [h.l2 h1 (by omega), h.l2 (by omega) h3]; exact h.sa _ _ (by omega) (by omega) (by omega)
theorem RotOK.s4 (h : RotOK l r a s m e b) : Srt r e b := fun i j h1 h2 h3 => by
  have q3 := h.h3
  rw [h.hi h1, h.hi (by omega)]; exact h.sb i j (by omega) h2 h3
theorem srt_join {x : List ViewCount} {t : Nat} (h1 : Srt x a t) (h2 : Srt x t b) (h : ∀ i j, a ≤ i → i < t → t ≤ j → j < b → leV (gv x i) (gv x j)) : Srt x a b := fun i j hi hij hj => by
  by_cases c1 : j < t
  · exact h1 i j hi hij c1
  · by_cases c2 : i < t
    · exact h i j hi c2 (by omega) hj
    · exact h2 i j (by omega) hij hj
end
theorem Seg.cross {l r : List ViewCount} {a t b : Nat} (h1 : Seg l r a t) (h : ∀ i j, a ≤ i → i < t → t ≤ j → j < b → leV (gv l i) (gv l j)) : ∀ i j, a ≤ i → i < t → t ≤ j → j < b → leV (gv r i) (gv r j) := by
  intro i j h2 h3 h4 h5
  rw [h1.out j (by omega)]
  exact h1.all (fun x => leV x (gv l j)) (fun k k1 k2 => h k j k1 k2 h4 h5) i h2 h3
theorem Seg.cross' {l r : List ViewCount} {a t b : Nat} (h1 : Seg l r t b) (h : ∀ i j, a ≤ i → i < t → t ≤ j → j < b → leV (gv l i) (gv l j)) : ∀ i j, a ≤ i → i < t → t ≤ j → j < b → leV (gv r i) (gv r j) := by
  intro i j h2 h3 h4 h5
  rw [h1.out i (by omega)]
  exact h1.all (fun x => leV (gv l i) x) (fun k k1 k2 => h i k h2 h3 k1 k2) j h4 h5
theorem Seg.srt {l r : List ViewCount} {a b c d : Nat} (h : Seg l r a b) (hs : Srt l c d) (hd : d ≤ a ∨ b ≤ c) : Srt r c d := fun i j h1 h2 h3 => by
  rw [h.out i (by omega), h.out j (by omega)]; exact hs i j h1 h2 h3
theorem nat_wrap {n : Int} {k : Nat} (h : n = (k : Int)) (hk : k ≤ 4194304) : IntKind.i64.wrap n = (k : Int) := by rw [wr64 (by omega) (by omega), h]
/-- An element is moved to the right. -/
theorem p_moveR (l : List ViewCount) (a t : Nat) (hat : a ≤ t) (ht : t < l.length) (hl : l.length ≤ 1048576) : ∃ r, wloop (σ := (List ViewCount) × Int) (β := (List ViewCount)) (fun s88 =>
    if decide (s88.2 < (t : Int)) = true then (
    (ix s88.1 (IntKind.i64.wrap (s88.2 + 1))).bind fun x98 =>
    (ix s88.1 s88.2).bind fun x105 =>
    (ix (s88.1.set s88.2.toNat x98) (IntKind.i64.wrap (s88.2 + 1))).bind fun x112 =>
    some (.go ((s88.1.set s88.2.toNat x98).set ((IntKind.i64.wrap (s88.2 + 1)).toNat) x105, IntKind.i64.wrap (s88.2 + 1)))) else (
    some (.out s88.1))) (l, (a : Int)) = some r ∧ Seg l r a (t + 1) ∧ ∀ k, gv r k = rotf (gv l) a (a + 1) (t + 1) k := by
  refine wloop_post (fun n s => ∃ (r : List ViewCount) (i : Nat), s = (r, (i : Int)) ∧ n = t - i ∧ a ≤ i ∧ i ≤ t ∧ Seg l r a (t + 1) ∧ ∀ k, gv r k = rotf (gv l) a (a + 1) (i + 1) k) _ ?_ (t - a) (l, (a : Int))
    ⟨l, a, rfl, rfl, by omega, hat, .refl _ _ _, fun k => by
      unfold rotf
      rw [if_neg (by omega)]
      split
      · congr 1; omega
      · rfl⟩
  rintro n s ⟨r, i, rfl, h1, h2, h3, h4, h5⟩
  have hrl := h4.len
  simp only
  by_cases hit : i < t
  · have hd : decide ((i : Int) < (t : Int)) = true := by simpa using hit
    have e1 : IntKind.i64.wrap ((i : Int) + 1) = ((i + 1 : Nat) : Int) := nat_wrap (by omega) (by omega)
    refine .inl ⟨((r.set i (gv r (i + 1))).set (i + 1) (gv r i), ((i + 1 : Nat) : Int)), t - (i + 1), ?_, by omega, _, i + 1, rfl, rfl, by omega, hit, h4.trans (seg_swap (i := i) (j := i + 1) (by omega) (by omega) (by omega) (by omega) (by omega) (by omega) (by omega)), fun k => ?_⟩
    · rw [if_pos hd, e1, gv_ix (l := r) (i := i + 1) (by omega), Option.bind_some, gv_ix (l := r) (i := i) (by omega), Option.bind_some, Int.toNat_natCast, gv_ix (by simp; omega), Option.bind_some, Int.toNat_natCast]
    · rw [gv_swap (by omega) (by omega)]
      by_cases c1 : k = i + 1
      · rw [if_pos c1, h5 i]
        unfold rotf
        rw [if_neg (by omega), if_pos (by omega), if_neg (by omega), if_pos (by omega)]
        congr 1; omega
      · rw [if_neg c1]
        by_cases c2 : k = i
        · rw [if_pos c2, h5 (i + 1)]
          unfold rotf
          rw [if_neg (by omega), if_neg (by omega), if_pos (by omega)]
          congr 1; omega
        · rw [if_neg c2, h5 k]
          unfold rotf
          by_cases c3 : a ≤ k ∧ k < i
          · rw [if_pos (by omega), if_pos (by omega)]
          · rw [if_neg (by omega), if_neg (by omega), if_neg (by omega), if_neg (by omega)]
  · have : i = t := by omega
    subst this
    exact .inr ⟨r, by simp, h4, h5⟩
/-- An element is moved to the left. -/
theorem p_moveL (l : List ViewCount) (t m : Nat) (htm : t ≤ m) (hm : m < l.length) (hl : l.length ≤ 1048576) : ∃ r, wloop (σ := (List ViewCount) × Int) (β := (List ViewCount)) (fun s215 =>
    if decide ((t : Int) < s215.2) = true then (
    (ix s215.1 (IntKind.i64.wrap (s215.2 - 1))).bind fun x225 =>
    (ix s215.1 s215.2).bind fun x232 =>
    (ix (s215.1.set s215.2.toNat x225) (IntKind.i64.wrap (s215.2 - 1))).bind fun x239 =>
    some (.go ((s215.1.set s215.2.toNat x225).set ((IntKind.i64.wrap (s215.2 - 1)).toNat) x232, IntKind.i64.wrap (s215.2 - 1)))) else (
    some (.out s215.1))) (l, (m : Int)) = some r ∧ Seg l r t (m + 1) ∧ ∀ k, gv r k = rotf (gv l) t m (m + 1) k := by
  refine wloop_post (fun n s => ∃ (r : List ViewCount) (i : Nat), s = (r, (i : Int)) ∧ n = i ∧ t ≤ i ∧ i ≤ m ∧ Seg l r t (m + 1) ∧ ∀ k, gv r k = rotf (gv l) i m (m + 1) k) _ ?_ m (l, (m : Int))
    ⟨l, m, rfl, rfl, by omega, by omega, .refl _ _ _, fun k => by
      unfold rotf
      by_cases c : m ≤ k ∧ k < m + (m + 1 - m)
      · rw [if_pos c]; congr 1; omega
      · rw [if_neg c, if_neg (by omega)]⟩
  rintro n s ⟨r, i, rfl, h1, h2, h3, h4, h5⟩
  have hrl := h4.len
  simp only
  by_cases hit : t < i
  · have hd : decide ((t : Int) < (i : Int)) = true := by simpa using hit
    have e1 : IntKind.i64.wrap ((i : Int) - 1) = ((i - 1 : Nat) : Int) := nat_wrap (by omega) (by omega)
    refine .inl ⟨((r.set i (gv r (i - 1))).set (i - 1) (gv r i), ((i - 1 : Nat) : Int)), i - 1, ?_, by omega, _, i - 1, rfl, rfl, by omega, by omega, h4.trans (seg_swap (i := i) (j := i - 1) (by omega) (by omega) (by omega) (by omega) (by omega) (by omega) (by omega)), fun k => ?_⟩
    · rw [if_pos hd, e1, gv_ix (l := r) (i := i - 1) (by omega), Option.bind_some, gv_ix (l := r) (i := i) (by omega), Option.bind_some, Int.toNat_natCast, gv_ix (by simp; omega), Option.bind_some, Int.toNat_natCast]
    · rw [gv_swap (by omega) (by omega)]
      by_cases c1 : k = i - 1
      · rw [if_pos c1, h5 i]
        unfold rotf
        rw [if_pos (by omega), if_pos (by omega)]
        congr 1; omega
      · rw [if_neg c1]
        by_cases c2 : k = i
        · rw [if_pos c2, h5 (i - 1)]
          unfold rotf
          rw [if_neg (by omega), if_neg (by omega), if_neg (by omega), if_pos (by omega)]
          congr 1; omega
        · rw [if_neg c2, h5 k]
          unfold rotf
          by_cases c3 : i + 1 ≤ k ∧ k < m + 1
          · rw [if_neg (by omega), if_pos (by omega), if_neg (by omega), if_pos (by omega)]
          · rw [if_neg (by omega), if_neg (by omega), if_neg (by omega), if_neg (by omega)]
  · have : i = t := by omega
    subst this
    exact .inr ⟨r, by simp, h4, h5⟩
theorem bsearch_post {step : Int × Int → Option (Stp (Int × Int) Int)} (lo0 hi0 : Nat) (h : lo0 ≤ hi0) (P : Nat → Prop)
    (hstep : ∀ lo hi : Nat, lo0 ≤ lo → lo < hi → hi ≤ hi0 → (P ((lo + hi) / 2) ∧ step ((lo : Int), (hi : Int)) = some (.go ((((lo + hi) / 2 + 1 : Nat) : Int), (hi : Int)))) ∨ (¬ P ((lo + hi) / 2) ∧ step ((lo : Int), (hi : Int)) = some (.go ((lo : Int), (((lo + hi) / 2 : Nat) : Int)))))
    (hend : ∀ lo : Nat, lo0 ≤ lo → lo ≤ hi0 → step ((lo : Int), (lo : Int)) = some (.out (lo : Int))) (hmono : ∀ c d, lo0 ≤ c → c ≤ d → d < hi0 → P d → P c) :
    ∃ k : Nat, wloop step ((lo0 : Int), (hi0 : Int)) = some (k : Int) ∧ lo0 ≤ k ∧ k ≤ hi0 ∧ (∀ c, lo0 ≤ c → c < k → P c) ∧ (∀ c, k ≤ c → c < hi0 → ¬ P c) := by
  obtain ⟨b, h1, k, rfl, h2⟩ := wloop_post (step := step) (fun n s => ∃ lo hi : Nat, s = ((lo : Int), (hi : Int)) ∧ n = hi - lo ∧ lo0 ≤ lo ∧ lo ≤ hi ∧ hi ≤ hi0 ∧ (∀ c, lo0 ≤ c → c < lo → P c) ∧ (∀ c, hi ≤ c → c < hi0 → ¬ P c))
    (fun b => ∃ k : Nat, b = (k : Int) ∧ lo0 ≤ k ∧ k ≤ hi0 ∧ (∀ c, lo0 ≤ c → c < k → P c) ∧ (∀ c, k ≤ c → c < hi0 → ¬ P c))
    (by
      rintro n s ⟨lo, hi, rfl, h1, h2, h3, h4, h5, h6⟩
      by_cases hlt : lo < hi
      · rcases hstep lo hi h2 hlt h4 with ⟨p, e⟩ | ⟨p, e⟩
        · exact .inl ⟨_, hi - ((lo + hi) / 2 + 1), e, by omega, _, _, rfl, rfl, by omega, by omega, h4, fun c c1 c2 => hmono c ((lo + hi) / 2) c1 (by omega) (by omega) p, h6⟩
        · exact .inl ⟨_, (lo + hi) / 2 - lo, e, by omega, _, _, rfl, rfl, h2, by omega, by omega, h5, fun c c1 c2 hp => p (hmono ((lo + hi) / 2) c (by omega) c1 c2 hp)⟩
      · have : lo = hi := by omega
        subst this
        exact .inr ⟨_, hend lo h2 h4, lo, rfl, h2, h4, h5, h6⟩)
    (hi0 - lo0) ((lo0 : Int), (hi0 : Int)) ⟨lo0, hi0, rfl, rfl, by omega, h, by omega, fun c c1 c2 => by omega, fun c c1 c2 => by omega⟩
  exact ⟨k, h1, h2⟩
theorem ltV_dec (x y : ViewCount) : decide (lexC x.View y.View < 0) = true ↔ ltV x y := by
  have := lexC_rng x.View y.View
  unfold ltV
  simp; omega
theorem ltV_decf (x y : ViewCount) : decide (lexC x.View y.View < 0) = false ↔ ¬ ltV x y := by rw [← ltV_dec]; simp
theorem ltV_of {x y z : ViewCount} (h1 : leV x y) (h2 : ltV y z) : ltV x z := by
  unfold leV ltV at *
  have r1 := lexC_rng x.View y.View
  rcases r1 with r1 | r1 | r1
  · exact lexC_trans r1 h2
  · rw [lexC_eq r1]; exact h2
  · exact absurd r1 h1
theorem ltV_of' {x y z : ViewCount} (h1 : ltV x y) (h2 : leV y z) : ltV x z := by
  unfold leV ltV at *
  have r1 := lexC_rng y.View z.View
  rcases r1 with r1 | r1 | r1
  · exact lexC_trans h1 r1
  · rw [← lexC_eq r1]; exact h1
  · exact absurd r1 h2
theorem p_symMerge : ∀ (n_ : Nat) (l : List ViewCount) (a m b : Nat), a < m → m < b → b ≤ l.length → l.length ≤ 1048576 → Srt l a m → Srt l m b →
    (∃ r, F_slices_symMergeCmpFunc_impl_ViewCount__io0_impl_gathered_1_r n_ l (a : Int) (m : Int) (b : Int) = some r ∧ Seg l r a b ∧ Srt r a b) ∨
    (F_slices_symMergeCmpFunc_impl_ViewCount__io0_impl_gathered_1_r n_ l (a : Int) (m : Int) (b : Int) = none ∧ n_ < b - a) := by
  intro n_
  induction n_ with
  | zero => intro l a m b h1 h2 h3 h4 h5 h6; exact .inr ⟨rfl, by omega⟩
  | succ n_ ih =>
    intro l a m b ham hmb hbl hl sA sB
    simp only [F_slices_symMergeCmpFunc_impl_ViewCount__io0_impl_gathered_1_r]
    have w1 : IntKind.i64.wrap ((m : Int) - (a : Int)) = ((m - a : Nat) : Int) := nat_wrap (by omega) (by omega)
    have w2 : IntKind.i64.wrap ((b : Int) - (m : Int)) = ((b - m : Nat) : Int) := nat_wrap (by omega) (by omega)
    rw [w1, w2]
    by_cases c1 : m - a = 1
    · left
      have hc : (((m - a : Nat) : Int) == 1) = true := by rw [c1]; rfl
      rw [if_pos hc]
      obtain ⟨k, k1, k2, k3, k4, k5⟩ := bsearch_post (step := fun s9 =>
        if decide (s9.1 < s9.2) = true then (
        (ix l (IntKind.i64.wrap ((IntKind.u64.wrap (IntKind.i64.wrap (s9.1 + s9.2))).fdiv 2))).bind fun x20 =>
        (ix l (a : Int)).bind fun x27 =>
        (F_impl_gathered_1 x20 x27).bind fun z34 =>
        if decide (z34 < 0) = true then (
        some (.go (IntKind.i64.wrap ((IntKind.i64.wrap ((IntKind.u64.wrap (IntKind.i64.wrap (s9.1 + s9.2))).fdiv 2)) + 1), s9.2))) else (
        some (.go (s9.1, IntKind.i64.wrap ((IntKind.u64.wrap (IntKind.i64.wrap (s9.1 + s9.2))).fdiv 2))))) else (
        some (.out s9.1))) m b (by omega) (fun c => ltV (gv l c) (gv l a))
        (by
          intro lo hi x1 x2 x3
          have hd : decide ((lo : Int) < (hi : Int)) = true := by simpa using x2
          simp only [hd, if_true, mid_eq (lo := lo) (hi := hi) (n := l.length) (by omega) (by omega) hl, gv_ix (l := l) (i := (lo + hi) / 2) (by omega), gv_ix (l := l) (i := a) (by omega), Option.bind_some, p_cmpV]
          by_cases hp : ltV (gv l ((lo + hi) / 2)) (gv l a)
          · left
            rw [if_pos ((ltV_dec _ _).2 hp), nat_wrap (k := (lo + hi) / 2 + 1) (by omega) (by omega)]
            exact ⟨hp, rfl⟩
          · right
            rw [if_neg (by rw [(ltV_decf _ _).2 hp]; simp)]
            exact ⟨hp, rfl⟩)
        (by intro lo x1 x2; simp)
        (by
          intro c d x1 x2 x3 hp
          exact ltV_of (sB.le x1 x2 x3) hp)
      rw [k1, Option.bind_some]
      have w3 : IntKind.i64.wrap ((k : Int) - 1) = ((k - 1 : Nat) : Int) := nat_wrap (by omega) (by omega)
      rw [w3]
      obtain ⟨r, r1, r2, r3⟩ := p_moveR l a (k - 1) (by omega) (by omega) hl
      rw [r1]
      have e1 : k - 1 + 1 = k := by omega
      have e2 : a + 1 = m := by omega
      rw [e1] at r2
      have R : RotOK l r a a m k b := ⟨Nat.le_refl _, by omega, by omega, k3, sA, sB, fun i j x1 x2 => by omega, fun i j x1 x2 x3 x4 => by
        have : j = a := by omega
        subst this
        exact leV_of_lt (k4 i x1 x2), fun x => by rw [r3, e1, e2]⟩
      refine ⟨r, rfl, r2.wide (Nat.le_refl _) k3, srt_join R.s2 ?_ (fun i j x1 x2 x3 x4 => R.cross x1 x2 x3 x4)⟩
      refine srt_join R.s3 R.s4 fun i j x1 x2 x3 x4 => ?_
      rw [R.l2 x1 x2, R.hi x3]
      have : i - (k - m) = a := by omega
      rw [this]
      exact leV_of_nlt (k5 j x3 x4)
    · have hc : (((m - a : Nat) : Int) == 1) = false := by simp; omega
      rw [if_neg (by rw [hc]; simp)]
      by_cases c2 : b - m = 1
      · left
        have hc : (((b - m : Nat) : Int) == 1) = true := by rw [c2]; rfl
        rw [if_pos hc]
        obtain ⟨k, k1, k2, k3, k4, k5⟩ := bsearch_post (step := fun s136 =>
          if decide (s136.1 < s136.2) = true then (
          (ix l (m : Int)).bind fun x147 =>
          (ix l (IntKind.i64.wrap ((IntKind.u64.wrap (IntKind.i64.wrap (s136.1 + s136.2))).fdiv 2))).bind fun x154 =>
          (F_impl_gathered_1 x147 x154).bind fun z161 =>
          if (!(decide (z161 < 0))) = true then (
          some (.go (IntKind.i64.wrap ((IntKind.i64.wrap ((IntKind.u64.wrap (IntKind.i64.wrap (s136.1 + s136.2))).fdiv 2)) + 1), s136.2))) else (
          some (.go (s136.1, IntKind.i64.wrap ((IntKind.u64.wrap (IntKind.i64.wrap (s136.1 + s136.2))).fdiv 2))))) else (
          some (.out s136.1))) a m (by omega) (fun c => ¬ ltV (gv l m) (gv l c))
          (by
            intro lo hi x1 x2 x3
            have hd : decide ((lo : Int) < (hi : Int)) = true := by simpa using x2
            simp only [hd, if_true, mid_eq (lo := lo) (hi := hi) (n := l.length) (by omega) (by omega) hl, gv_ix (l := l) (i := (lo + hi) / 2) (by omega), gv_ix (l := l) (i := m) (by omega), Option.bind_some, p_cmpV]
            by_cases hp : ltV (gv l m) (gv l ((lo + hi) / 2))
            · right
              rw [if_neg (by rw [(ltV_dec _ _).2 hp]; simp)]
              exact ⟨fun h => h hp, rfl⟩
            · left
              rw [if_pos (by rw [(ltV_decf _ _).2 hp]; rfl), nat_wrap (k := (lo + hi) / 2 + 1) (by omega) (by omega)]
              exact ⟨hp, rfl⟩)
          (by intro lo x1 x2; simp)
          (by
            intro c d x1 x2 x3 hp h
            exact hp (ltV_of' h (sA.le x1 x2 x3)))
        rw [k1, Option.bind_some]
        obtain ⟨r, r1, r2, r3⟩ := p_moveL l k m (by omega) (by omega) hl
        rw [r1]
        have e1 : m + 1 = b := by omega
        rw [e1] at r2
        have R : RotOK l r a k m b b := ⟨k2, by omega, by omega, Nat.le_refl _, sA, sB, fun i j x1 x2 x3 x4 => by omega, fun i j x1 x2 x3 x4 => by
          have : i = m := by omega
          subst this
          exact leV_of_lt (Classical.not_not.1 (k5 j x3 x4)), fun x => by rw [r3, e1]⟩
        refine ⟨r, rfl, r2.wide k2 (Nat.le_refl _), srt_join (srt_join R.s1 R.s2 fun i j x1 x2 x3 x4 => ?_) R.s3 (fun i j x1 x2 x3 x4 => R.cross x1 x2 x3 x4)⟩
        rw [R.lo x2, R.l1 x3 x4]
        have : j + (m - k) = m := by omega
        rw [this]
        exact leV_of_nlt (k4 i x1 x2)
      · have hc : (((b - m : Nat) : Int) == 1) = false := by simp; omega
        rw [if_neg (by rw [hc]; simp)]
        simp only [mid_eq (lo := a) (hi := b) (n := l.length) (by omega) hbl hl]
        generalize hmid : (a + b) / 2 = mid
        have m1 : a < mid := by omega
        have m2 : mid < b := by omega
        have wn : IntKind.i64.wrap ((mid : Int) + (m : Int)) = ((mid + m : Nat) : Int) := nat_wrap (by omega) (by omega)
        have wp : IntKind.i64.wrap (((mid + m : Nat) : Int) - 1) = ((mid + m - 1 : Nat) : Int) := nat_wrap (by omega) (by omega)
        simp only [wn, wp]
        -- where the search begins
        obtain ⟨s0, r0, e0, q1, q2, q3, q4, q5, q6⟩ : ∃ s0 r0 : Nat, (if decide ((mid : Int) < (m : Int)) = true then some (IntKind.i64.wrap (((mid + m : Nat) : Int) - (b : Int)), (mid : Int)) else some ((a : Int), (m : Int))) = some ((s0 : Int), (r0 : Int)) ∧
            s0 ≤ r0 ∧ a ≤ s0 ∧ r0 ≤ m ∧ r0 ≤ mid ∧ (s0 = a ∨ s0 + b = mid + m) ∧ (r0 = m ∨ r0 = mid) ∧ mid + m ≤ b + s0 := by
          by_cases h : mid < m
          · refine ⟨mid + m - b, mid, ?_, by omega, by omega, by omega, by omega, by omega, by omega, by omega⟩
            rw [if_pos (by simpa using h), nat_wrap (k := mid + m - b) (by omega) (by omega)]
          · exact ⟨a, m, by rw [if_neg (by simpa using h)], by omega, by omega, by omega, by omega, by omega, by omega, by omega⟩
        obtain ⟨q6, q7⟩ := q6
        rw [e0, Option.bind_some]
        -- the search
        obtain ⟨k, k1, k2, k3, k4, k5⟩ := bsearch_post (step := fun s273 =>
          if decide (s273.1 < s273.2) = true then (
          (ix l (IntKind.i64.wrap (((mid + m - 1 : Nat) : Int) - (IntKind.i64.wrap ((IntKind.u64.wrap (IntKind.i64.wrap (s273.1 + s273.2))).fdiv 2))))).bind fun x284 =>
          (ix l (IntKind.i64.wrap ((IntKind.u64.wrap (IntKind.i64.wrap (s273.1 + s273.2))).fdiv 2))).bind fun x291 =>
          (F_impl_gathered_1 x284 x291).bind fun z298 =>
          if (!(decide (z298 < 0))) = true then (
          some (.go (IntKind.i64.wrap ((IntKind.i64.wrap ((IntKind.u64.wrap (IntKind.i64.wrap (s273.1 + s273.2))).fdiv 2)) + 1), s273.2))) else (
          some (.go (s273.1, IntKind.i64.wrap ((IntKind.u64.wrap (IntKind.i64.wrap (s273.1 + s273.2))).fdiv 2))))) else (
          some (.out s273.1))) s0 r0 q1 (fun c => ¬ ltV (gv l (mid + m - 1 - c)) (gv l c))
          (by
            intro lo hi x1 x2 x3
            have hd : decide ((lo : Int) < (hi : Int)) = true := by simpa using x2
            have wq : IntKind.i64.wrap (((mid + m - 1 : Nat) : Int) - (((lo + hi) / 2 : Nat) : Int)) = ((mid + m - 1 - (lo + hi) / 2 : Nat) : Int) := nat_wrap (by omega) (by omega)
            simp only [hd, if_true, mid_eq (lo := lo) (hi := hi) (n := l.length) (by omega) (by omega) hl, wq, gv_ix (l := l) (i := (lo + hi) / 2) (by omega), gv_ix (l := l) (i := mid + m - 1 - (lo + hi) / 2) (by omega), Option.bind_some, p_cmpV]
            by_cases hp : ltV (gv l (mid + m - 1 - (lo + hi) / 2)) (gv l ((lo + hi) / 2))
            · right
              rw [if_neg (by rw [(ltV_dec _ _).2 hp]; simp)]
              exact ⟨fun h => h hp, rfl⟩
            · left
              rw [if_pos (by rw [(ltV_decf _ _).2 hp]; rfl), nat_wrap (k := (lo + hi) / 2 + 1) (by omega) (by omega)]
              exact ⟨hp, rfl⟩)
          (by intro lo x1 x2; simp)
          (by
            intro c d x1 x2 x3 hp h
            exact hp (ltV_of (sB.le (by omega) (by omega) (by omega)) (ltV_of' h (sA.le (by omega) x2 (by omega)))))
        rw [k1, Option.bind_some]
        have we : IntKind.i64.wrap (((mid + m : Nat) : Int) - (k : Int)) = ((mid + m - k : Nat) : Int) := nat_wrap (by omega) (by omega)
        simp only [we]
        generalize hend : mid + m - k = e
        have hke : k ≤ mid := by omega
        have hem : m ≤ e := by omega
        have heb : e ≤ b := by omega
        have hmk : k + (e - m) = mid := by omega
        -- the rotation
        obtain ⟨r, hr, R, rS⟩ : ∃ r, ((if decide ((k : Int) < (m : Int)) = true then some (decide ((m : Int) < (e : Int))) else some false).bind fun x315 =>
            (if x315 = true then (F_slices_rotateCmpFunc_impl_ViewCount__io0_impl_gathered_1 l (k : Int) (m : Int) (e : Int)).bind fun z330 => some z330 else some l)) = some r ∧ RotOK l r a k m e b ∧ Seg l r a b := by
          have cc1 : ∀ i j, a ≤ i → i < k → e ≤ j → j < b → leV (gv l i) (gv l j) := by
            intro i j x1 x2 x3 x4
            by_cases hs : k = s0
            · exfalso
              rcases q5 with q5 | q5 <;> omega
            · have h1 := leV_of_nlt (k4 (k - 1) (by omega) (by omega))
              have e3 : mid + m - 1 - (k - 1) = e := by omega
              rw [e3] at h1
              exact leV_trans (sA.le x1 (by omega) (by omega)) (leV_trans h1 (sB.le (by omega) x3 x4))
          have cc2 : ∀ i j, m ≤ i → i < e → k ≤ j → j < m → leV (gv l i) (gv l j) := by
            intro i j x1 x2 x3 x4
            by_cases hs : k = r0
            · exfalso
              rcases q6 with q6 | q6 <;> omega
            · have h1 := leV_of_lt (Classical.not_not.1 (k5 k (Nat.le_refl _) (by omega)))
              have e3 : mid + m - 1 - k = e - 1 := by omega
              rw [e3] at h1
              exact leV_trans (sB.le x1 (by omega) (by omega)) (leV_trans h1 (sA.le (by omega) x3 x4))
          by_cases hrot : k < m ∧ m < e
          · obtain ⟨r, r1, r2, r3⟩ := p_rotate l k m e hrot.1 hrot.2 (by omega) hl
            refine ⟨r, ?_, ⟨by omega, by omega, hem, heb, sA, sB, cc1, cc2, r3⟩, r2.wide (by omega) heb⟩
            rw [if_pos (by simpa using hrot.1), Option.bind_some, if_pos (by simpa using hrot.2), r1]; rfl
          · refine ⟨l, ?_, ⟨by omega, by omega, hem, heb, sA, sB, cc1, cc2, fun x => ?_⟩, .refl _ _ _⟩
            · by_cases h1 : k < m
              · have h2 : ¬ m < e := fun h => hrot ⟨h1, h⟩
                rw [if_pos (by simpa using h1), Option.bind_some, if_neg (by simpa using h2)]
              · rw [if_neg (by simpa using h1), Option.bind_some, if_neg (by simp)]
            · unfold rotf
              by_cases h1 : k < m
              · have h2 : e = m := by omega
                subst h2
                rw [if_neg (by omega)]
                split
                · congr 1; omega
                · rfl
              · have h2 : k = m := by omega
                subst h2
                split
                · congr 1; omega
                · rw [if_neg (by omega)]
        have hr' : ∀ {β : Type} (f : List ViewCount → Option β), (((if decide ((k : Int) < (m : Int)) = true then some (decide ((m : Int) < (e : Int))) else some false) : Option Bool).bind fun x315 =>
            ((if x315 = true then (F_slices_rotateCmpFunc_impl_ViewCount__io0_impl_gathered_1 l (k : Int) (m : Int) (e : Int)).bind fun z330 => some z330 else some l) : Option (List ViewCount)).bind f) = f r := by
          intro β f
          rw [← Option.bind_assoc, hr]; rfl
        rw [hr']
        have hrl := rS.len
        -- the left half
        have left : (∃ r2, ((if decide ((a : Int) < (k : Int)) = true then some (decide ((k : Int) < (mid : Int))) else some false).bind fun x340 =>
            (if x340 = true then (F_slices_symMergeCmpFunc_impl_ViewCount__io0_impl_gathered_1_r n_ r (a : Int) (k : Int) (mid : Int)).bind fun z355 => some z355 else some r)) = some r2 ∧ Seg r r2 a mid ∧ Srt r2 a mid) ∨
            (((if decide ((a : Int) < (k : Int)) = true then some (decide ((k : Int) < (mid : Int))) else some false).bind fun x340 =>
            (if x340 = true then (F_slices_symMergeCmpFunc_impl_ViewCount__io0_impl_gathered_1_r n_ r (a : Int) (k : Int) (mid : Int)).bind fun z355 => some z355 else some r)) = none ∧ n_ + 1 < b - a) := by
          have s1 := R.s1
          have s2 := R.s2
          rw [hmk] at s2
          by_cases h1 : a < k
          · by_cases h2 : k < mid
            · simp only [show decide ((a : Int) < (k : Int)) = true by simpa using h1, show decide ((k : Int) < (mid : Int)) = true by simpa using h2, if_true, Option.bind_some]
              rcases ih r a k mid h1 h2 (by omega) (by omega) s1 s2 with ⟨r2, x1, x2, x3⟩ | ⟨x1, x2⟩
              · exact .inl ⟨r2, by rw [x1]; rfl, x2, x3⟩
              · exact .inr ⟨by rw [x1]; rfl, by omega⟩
            · have : k = mid := by omega
              subst this
              exact .inl ⟨r, by simp, .refl _ _ _, s1⟩
          · have : k = a := by omega
            subst this
            exact .inl ⟨r, by simp, .refl _ _ _, s2⟩
        rcases left with ⟨r2, f1, f2, f3⟩ | ⟨f1, f2⟩
        · have f1' : ∀ {β : Type} (f : List ViewCount → Option β), (((if decide ((a : Int) < (k : Int)) = true then some (decide ((k : Int) < (mid : Int))) else some false) : Option Bool).bind fun x340 =>
            ((if x340 = true then (F_slices_symMergeCmpFunc_impl_ViewCount__io0_impl_gathered_1_r n_ r (a : Int) (k : Int) (mid : Int)).bind fun z355 => some z355 else some r) : Option (List ViewCount)).bind f) = f r2 := by
            intro β f
            rw [← Option.bind_assoc, f1]; rfl
          rw [f1']
          have hr2 := f2.len
          have s3 := R.s3
          have s4 := R.s4
          rw [hmk] at s3
          have s3' : Srt r2 mid e := f2.srt s3 (.inr (Nat.le_refl _))
          have s4' : Srt r2 e b := f2.srt s4 (.inr (by omega))
          have cr : ∀ i j, a ≤ i → i < mid → mid ≤ j → j < b → leV (gv r i) (gv r j) := fun i j x1 x2 x3 x4 => R.cross x1 (by omega) (by omega) x4
          have cr2 := f2.cross cr
          by_cases h1 : mid < e
          · by_cases h2 : e < b
            · simp only [show decide ((mid : Int) < (e : Int)) = true by simpa using h1, show decide ((e : Int) < (b : Int)) = true by simpa using h2, if_true, Option.bind_some]
              rcases ih r2 mid e b h1 h2 (by omega) (by omega) s3' s4' with ⟨r3, x1, x2, x3⟩ | ⟨x1, x2⟩
              · refine .inl ⟨r3, by rw [x1]; rfl, (rS.trans (f2.wide (Nat.le_refl _) (by omega))).trans (x2.wide (by omega) (Nat.le_refl _)), srt_join (x2.srt f3 (.inl (Nat.le_refl _))) x3 (x2.cross' cr2)⟩
              · exact .inr ⟨by rw [x1]; rfl, by omega⟩
            · have : e = b := by omega
              subst this
              refine .inl ⟨r2, by simp, rS.trans (f2.wide (Nat.le_refl _) (by omega)), srt_join f3 s3' cr2⟩
          · have : e = mid := by omega
            subst this
            refine .inl ⟨r2, by simp, rS.trans (f2.wide (Nat.le_refl _) (by omega)), srt_join f3 s4' cr2⟩
        · right
          refine ⟨?_, f2⟩
          have f1' : ∀ {β : Type} (f : List ViewCount → Option β), (((if decide ((a : Int) < (k : Int)) = true then some (decide ((k : Int) < (mid : Int))) else some false) : Option Bool).bind fun x340 =>
            ((if x340 = true then (F_slices_symMergeCmpFunc_impl_ViewCount__io0_impl_gathered_1_r n_ r (a : Int) (k : Int) (mid : Int)).bind fun z355 => some z355 else some r) : Option (List ViewCount)).bind f) = none := by
            intro β f
            rw [← Option.bind_assoc, f1]; rfl
          rw [f1']
theorem p_merge (l : List ViewCount) (a m b : Nat) (h1 : a < m) (h2 : m < b) (h3 : b ≤ l.length) (h4 : l.length ≤ 1048576) (h5 : Srt l a m) (h6 : Srt l m b) :
    ∃ r, F_slices_symMergeCmpFunc_impl_ViewCount__io0_impl_gathered_1 l (a : Int) (m : Int) (b : Int) = some r ∧ Seg l r a b ∧ Srt r a b := by
  unfold F_slices_symMergeCmpFunc_impl_ViewCount__io0_impl_gathered_1
  rcases p_symMerge (b - a) l a m b h1 h2 h3 h4 h5 h6 with ⟨r, x1, x2⟩ | ⟨_, x⟩
  · obtain ⟨r', n, y1, y2⟩ := frec_is (f := fun n_ => F_slices_symMergeCmpFunc_impl_ViewCount__io0_impl_gathered_1_r n_ l (a : Int) (m : Int) (b : Int)) x1
    rcases p_symMerge n l a m b h1 h2 h3 h4 h5 h6 with ⟨r2, z1, z2⟩ | ⟨z1, _⟩
    · have y2 : F_slices_symMergeCmpFunc_impl_ViewCount__io0_impl_gathered_1_r n l (a : Int) (m : Int) (b : Int) = some r' := y2
      rw [z1] at y2; cases y2
      exact ⟨r', y1, z2⟩
    · have y2 : F_slices_symMergeCmpFunc_impl_ViewCount__io0_impl_gathered_1_r n l (a : Int) (m : Int) (b : Int) = some r' := y2
      rw [z1] at y2; cases y2
  · omega
/-- Rows of a block's size are in order. -/
def Blk (l : List ViewCount) (n w t : Nat) : Prop := ∀ q, q * w < t → Srt l (q * w) (min ((q + 1) * w) n)
theorem Srt.sub {l : List ViewCount} {a b c d : Nat} (h : Srt l a b) (h1 : a ≤ c) (h2 : d ≤ b) : Srt l c d := fun i j x1 x2 x3 => h i j (by omega) x2 (by omega)
set_option maxHeartbeats 400000 in
theorem p_stable (l : List ViewCount) (hl : l.length ≤ 1048576) :
    ∃ r, F_slices_stableCmpFunc_impl_ViewCount__io0_impl_gathered_1 l (l.length : Int) = some r ∧ r.Perm l ∧ Srt r 0 l.length := by
  unfold F_slices_stableCmpFunc_impl_ViewCount__io0_impl_gathered_1
  generalize hn : l.length = n at hl
  -- the blocks
  obtain ⟨B, hB⟩ : ∃ B : Nat, B = 20 := ⟨20, rfl⟩
  rw [show (20 : Int) = (B : Int) by rw [hB]; rfl]
  obtain ⟨x, e1, r1, q1, rfl, b1, b2, b3, b4⟩ := wloop_post (σ := (List ViewCount) × Int × Int) (β := ((List ViewCount) × Int)) (step := fun s24 =>
    if decide (s24.2.2 ≤ (n : Int)) = true then (
    (F_slices_insertionSortCmpFunc_impl_ViewCount__io0_impl_gathered_1 s24.1 s24.2.1 s24.2.2).bind fun z34 =>
    some (.go (z34, s24.2.2, IntKind.i64.wrap (s24.2.2 + (B : Int))))) else (
    some (.out (s24.1, s24.2.1))))
    (fun k s => ∃ (r : List ViewCount) (q : Nat), s = (r, ((q * B : Nat) : Int), (((q + 1) * B : Nat) : Int)) ∧ k = n - q * B ∧ q * B ≤ n ∧ r.length = n ∧ r.Perm l ∧ ∀ p, p < q → Srt r (p * B) ((p + 1) * B))
    (fun x => ∃ (r : List ViewCount) (q : Nat), x = (r, ((q * B : Nat) : Int)) ∧ (q * B ≤ n ∧ n < (q + 1) * B) ∧ r.length = n ∧ r.Perm l ∧ ∀ p, p < q → Srt r (p * B) ((p + 1) * B))
    (by
      rintro k s ⟨r, q, rfl, h1, h2, h3, h4, h5⟩
      simp only
      have g1 : (q + 1) * B = q * B + B := Nat.succ_mul _ _
      have g2 : (q + 1 + 1) * B = (q + 1) * B + B := Nat.succ_mul _ _
      by_cases hc : (q + 1) * B ≤ n
      · have hd : decide ((((q + 1) * B : Nat) : Int) ≤ (n : Int)) = true := by simp only [decide_eq_true_eq]; omega
        obtain ⟨r2, x1, x2, x3⟩ := p_insertion r (q * B) ((q + 1) * B) (by omega) (by omega) (by omega)
        have wr : IntKind.i64.wrap ((((q + 1) * B : Nat) : Int) + (B : Int)) = (((q + 1 + 1) * B : Nat) : Int) := nat_wrap (by omega) (by omega)
        rw [if_pos hd, x1, Option.bind_some, wr]
        refine .inl ⟨(r2, (((q + 1) * B : Nat) : Int), (((q + 1 + 1) * B : Nat) : Int)), n - (q + 1) * B, rfl, by omega, r2, q + 1, rfl, rfl, hc, x2.len.trans h3, x2.perm.trans h4, fun p hp => ?_⟩
        by_cases hpq : p = q
        · subst hpq; exact x3
        · exact x2.srt (h5 p (by omega)) (.inl (Nat.mul_le_mul_right B (show p + 1 ≤ q by omega)))
      · have hd : decide ((((q + 1) * B : Nat) : Int) ≤ (n : Int)) = false := by simp only [decide_eq_false_iff_not]; omega
        rw [if_neg (by rw [hd]; simp)]
        exact .inr ⟨(r, ((q * B : Nat) : Int)), rfl, r, q, rfl, ⟨h2, by omega⟩, h3, h4, h5⟩)
    n (l, 0, (B : Int)) ⟨l, 0, by simp, by omega, by omega, hn, .refl _, fun p hp => by omega⟩
  rw [e1, Option.bind_some]
  simp only
  obtain ⟨r2, x1, x2, x3⟩ := p_insertion r1 (q1 * B) n b1.1 (by omega) (by omega)
  rw [x1, Option.bind_some]
  have B0 : Blk r2 n B n := fun q hq => by
    have g1 : (q1 + 1) * B = q1 * B + B := Nat.succ_mul _ _
    by_cases hqq : q < q1
    · have := Nat.mul_le_mul_right B (show q + 1 ≤ q1 by omega)
      rw [Nat.min_eq_left (by omega)]
      exact x2.srt (b4 q hqq) (.inl this)
    · have : q = q1 := by
        rcases Nat.lt_or_ge q1 q with h | h
        · have := Nat.mul_le_mul_right B (show q1 + 1 ≤ q by omega)
          omega
        · omega
      subst this
      rw [Nat.min_eq_right (by omega)]
      exact x3
  -- the merges
  refine wloop_post (σ := (List ViewCount) × Int) (β := (List ViewCount)) (fun k s => ∃ (r : List ViewCount) (w : Nat), s = (r, (w : Int)) ∧ k = n - w ∧ 0 < w ∧ w ≤ 2097152 ∧ r.length = n ∧ r.Perm l ∧ Blk r n w n) (fun r => r.Perm l ∧ Srt r 0 n) ?_ (n - B) (r2, (B : Int))
    ⟨r2, B, rfl, rfl, by omega, by omega, x2.len.trans b2, x2.perm.trans b3, B0⟩
  rintro k s ⟨r, w, rfl, h1, h2, h3, h4, h5, h6⟩
  simp only
  by_cases hw : w < n
  · have hd : decide ((w : Int) < (n : Int)) = true := by simpa using hw
    have w2 : IntKind.i64.wrap (2 * (w : Int)) = ((2 * w : Nat) : Int) := nat_wrap (by omega) (by omega)
    rw [if_pos hd, w2]
    obtain ⟨y, e2, r3, q, rfl, c1, c2, c3, c4, c5⟩ := wloop_post (σ := (List ViewCount) × Int × Int) (β := ((List ViewCount) × Int)) (step := fun s150 =>
      if decide (s150.2.2 ≤ (n : Int)) = true then (
      (F_slices_symMergeCmpFunc_impl_ViewCount__io0_impl_gathered_1 s150.1 s150.2.1 (IntKind.i64.wrap (s150.2.1 + (w : Int))) s150.2.2).bind fun z160 =>
      some (.go (z160, s150.2.2, IntKind.i64.wrap (s150.2.2 + ((2 * w : Nat) : Int))))) else (
      some (.out (s150.1, s150.2.1))))
      (fun k s => ∃ (r : List ViewCount) (q : Nat), s = (r, ((q * (2 * w) : Nat) : Int), (((q + 1) * (2 * w) : Nat) : Int)) ∧ k = n - q * (2 * w) ∧ q * (2 * w) ≤ n ∧ r.length = n ∧ r.Perm l ∧ (∀ p, p < q → Srt r (p * (2 * w)) ((p + 1) * (2 * w))) ∧ ∀ p, 2 * q ≤ p → p * w < n → Srt r (p * w) (min ((p + 1) * w) n))
      (fun x => ∃ (r : List ViewCount) (q : Nat), x = (r, ((q * (2 * w) : Nat) : Int)) ∧ (q * (2 * w) ≤ n ∧ n < (q + 1) * (2 * w)) ∧ r.length = n ∧ r.Perm l ∧ (∀ p, p < q → Srt r (p * (2 * w)) ((p + 1) * (2 * w))) ∧ ∀ p, 2 * q ≤ p → p * w < n → Srt r (p * w) (min ((p + 1) * w) n))
      (by
        rintro k s ⟨r, q, rfl, h1, h2', h3', h4', h5', h6'⟩
        simp only
        have g1 : (q + 1) * (2 * w) = q * (2 * w) + 2 * w := Nat.succ_mul _ _
        have g2 : (q + 1 + 1) * (2 * w) = (q + 1) * (2 * w) + 2 * w := Nat.succ_mul _ _
        have g3 : 2 * q * w = q * (2 * w) := by rw [Nat.mul_comm 2 q, Nat.mul_assoc]
        have g4 : (2 * q + 1) * w = q * (2 * w) + w := by rw [Nat.succ_mul, g3]
        have g5 : (2 * q + 1 + 1) * w = q * (2 * w) + w + w := by rw [Nat.succ_mul, g4]
        by_cases hc : (q + 1) * (2 * w) ≤ n
        · have hd : decide ((((q + 1) * (2 * w) : Nat) : Int) ≤ (n : Int)) = true := by simp only [decide_eq_true_eq]; omega
          have wm : IntKind.i64.wrap (((q * (2 * w) : Nat) : Int) + (w : Int)) = ((q * (2 * w) + w : Nat) : Int) := nat_wrap (by simp) (by omega)
          have sA := h6' (2 * q) (Nat.le_refl _) (by omega)
          have sB := h6' (2 * q + 1) (by omega) (by omega)
          rw [g3, g4, Nat.min_eq_left (by omega)] at sA
          rw [g4, g5, Nat.min_eq_left (by omega)] at sB
          obtain ⟨r2, x1, x2, x3⟩ := p_merge r (q * (2 * w)) (q * (2 * w) + w) ((q + 1) * (2 * w)) (by omega) (by omega) (by omega) (by omega) sA (by rw [g1]; exact sB.sub (by omega) (by omega))
          have wr : IntKind.i64.wrap ((((q + 1) * (2 * w) : Nat) : Int) + ((2 * w : Nat) : Int)) = (((q + 1 + 1) * (2 * w) : Nat) : Int) := nat_wrap (by rw [g2]; push_cast; rfl) (by omega)
          rw [if_pos hd, wm, x1, Option.bind_some, wr]
          refine .inl ⟨(r2, (((q + 1) * (2 * w) : Nat) : Int), (((q + 1 + 1) * (2 * w) : Nat) : Int)), n - (q + 1) * (2 * w), rfl, by omega, r2, q + 1, rfl, rfl, hc, x2.len.trans h3', x2.perm.trans h4', fun p hp => ?_, fun p hp hp2 => ?_⟩
          · by_cases hpq : p = q
            · subst hpq; exact x3
            · have : (p + 1) * (2 * w) ≤ q * (2 * w) := Nat.mul_le_mul_right _ (by omega)
              exact x2.srt (h5' p (by omega)) (.inl this)
          · have : (q + 1) * (2 * w) ≤ p * w := by
              have h := Nat.mul_le_mul_right w (show 2 * q + 2 ≤ p by omega)
              have e : (2 * q + 2) * w = q * (2 * w) + w + w := g5
              omega
            exact x2.srt (h6' p (by omega) hp2) (.inr this)
        · have hd : decide ((((q + 1) * (2 * w) : Nat) : Int) ≤ (n : Int)) = false := by simp only [decide_eq_false_iff_not]; omega
          rw [if_neg (by rw [hd]; simp)]
          exact .inr ⟨(r, ((q * (2 * w) : Nat) : Int)), rfl, r, q, rfl, ⟨h2', by omega⟩, h3', h4', h5', h6'⟩)
      n (r, 0, ((2 * w : Nat) : Int)) ⟨r, 0, by simp, by omega, by omega, h4, h5, fun p hp => by omega, fun p _ hp => h6 p hp⟩
    rw [e2, Option.bind_some]
    simp only
    have g1 : (q + 1) * (2 * w) = q * (2 * w) + 2 * w := Nat.succ_mul _ _
    have g3 : 2 * q * w = q * (2 * w) := by rw [Nat.mul_comm 2 q, Nat.mul_assoc]
    have g4 : (2 * q + 1) * w = q * (2 * w) + w := by rw [Nat.succ_mul, g3]
    have g5 : (2 * q + 1 + 1) * w = q * (2 * w) + w + w := by rw [Nat.succ_mul, g4]
    have wm : IntKind.i64.wrap (((q * (2 * w) : Nat) : Int) + (w : Int)) = ((q * (2 * w) + w : Nat) : Int) := nat_wrap (by simp) (by omega)
    rw [wm]
    have last : ∃ r4, (if decide (((q * (2 * w) + w : Nat) : Int) < (n : Int)) = true then (
        (F_slices_symMergeCmpFunc_impl_ViewCount__io0_impl_gathered_1 r3 ((q * (2 * w) : Nat) : Int) ((q * (2 * w) + w : Nat) : Int) (n : Int)).bind fun z177 => some z177) else some r3) = some r4 ∧ Seg r3 r4 (q * (2 * w)) n ∧ Srt r4 (q * (2 * w)) n := by
      by_cases hm : q * (2 * w) + w < n
      · have hd : decide (((q * (2 * w) + w : Nat) : Int) < (n : Int)) = true := by simp only [decide_eq_true_eq]; omega
        have sA := c5 (2 * q) (Nat.le_refl _) (by omega)
        have sB := c5 (2 * q + 1) (by omega) (by omega)
        rw [g3, g4, Nat.min_eq_left (by omega)] at sA
        rw [g4, g5, Nat.min_eq_right (by omega)] at sB
        obtain ⟨r4, y1, y2, y3⟩ := p_merge r3 (q * (2 * w)) (q * (2 * w) + w) n (by omega) hm (by omega) (by omega) sA sB
        exact ⟨r4, by rw [if_pos hd, y1]; rfl, y2, y3⟩
      · have hd : decide (((q * (2 * w) + w : Nat) : Int) < (n : Int)) = false := by simp only [decide_eq_false_iff_not]; omega
        refine ⟨r3, by rw [if_neg (by rw [hd]; simp)], .refl _ _ _, ?_⟩
        by_cases hq : q * (2 * w) < n
        · have sA := c5 (2 * q) (Nat.le_refl _) (by omega)
          rw [g3, g4] at sA
          exact sA.sub (Nat.le_refl _) (by omega)
        · exact fun i j y1 y2 y3 => by omega
    obtain ⟨r4, z1, z2, z3⟩ := last
    have wr : IntKind.i64.wrap ((w : Int) * 2) = ((2 * w : Nat) : Int) := nat_wrap (by omega) (by omega)
    rw [z1, Option.bind_some, wr]
    refine .inl ⟨(r4, ((2 * w : Nat) : Int)), n - 2 * w, rfl, by omega, r4, 2 * w, rfl, rfl, by omega, by omega, z2.len.trans c2, z2.perm.trans c3, fun p hp => ?_⟩
    by_cases hpq : p < q
    · have : (p + 1) * (2 * w) ≤ q * (2 * w) := Nat.mul_le_mul_right _ (by omega)
      rw [Nat.min_eq_left (by omega)]
      exact z2.srt (c4 p hpq) (.inl this)
    · have : p = q := by
        rcases Nat.lt_or_ge q p with h | h
        · have := Nat.mul_le_mul_right (2 * w) (show q + 1 ≤ p by omega)
          omega
        · omega
      subst this
      exact z3.sub (Nat.le_refl _) (by omega)
  · refine .inr ⟨r, by rw [if_neg (by simpa using hw)], h5, ?_⟩
    by_cases h0 : n = 0
    · exact fun i j y1 y2 y3 => by omega
    · have := h6 0 (by omega)
      rw [Nat.zero_mul, Nat.zero_add, Nat.one_mul, Nat.min_eq_right (by omega)] at this
      exact this
theorem p_sort (l : List ViewCount) (hl : l.length ≤ 1048576) :
    ∃ r, F_slices_SortStableFunc_impl_ViewCount_impl_ViewCount__io0_impl_gathered_1 l = some r ∧ r.Perm l ∧ Srt r 0 l.length := by
  unfold F_slices_SortStableFunc_impl_ViewCount_impl_ViewCount__io0_impl_gathered_1
  obtain ⟨r, h1, h2, h3⟩ := p_stable l hl
  exact ⟨r, by rw [h1]; rfl, h2, h3⟩
end Go.Pm
