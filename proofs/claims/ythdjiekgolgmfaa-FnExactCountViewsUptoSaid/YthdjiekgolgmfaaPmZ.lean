/-
  The pure machine, part Z: laws of plain programs' loops.
  No condition.
-/
import Derived.Test.YthdjiekgolgmfaaPmY
namespace Go.Pm
open Go.Am

theorem rloop_post {σ β : Type} {body : Int → σ → Option (Stp σ β)} {stop : σ → β} {m : Nat} {i0 : Int} {s0 : σ} (I : Nat → σ → Prop) (Post : β → Prop) (h0 : I 0 s0)
    (hs : ∀ k s, k < m → I k s → (∃ s', body (i0 + (k : Int)) s = some (.go s') ∧ I (k + 1) s') ∨ ∃ b, body (i0 + (k : Int)) s = some (.out b) ∧ Post b)
    (he : ∀ s, I m s → Post (stop s)) : ∃ b, rloop body stop m i0 s0 = some b ∧ Post b := by
  have key : ∀ n k s, k + n = m → I k s → ∃ b, rloop body stop n (i0 + (k : Int)) s = some b ∧ Post b := by
    intro n
    induction n with
    | zero =>
      intro k s hk hI
      have : k = m := by omega
      subst this
      exact ⟨_, rfl, he s hI⟩
    | succ n ih =>
      intro k s hk hI
      rcases hs k s (by omega) hI with ⟨s', h1, h2⟩ | ⟨b, h1, h2⟩
      · obtain ⟨b, h3, h4⟩ := ih (k + 1) s' (by omega) h2
        refine ⟨b, ?_, h4⟩
        simp only [rloop, h1, Option.bind_some]
        rw [← h3]
        congr 1
        push_cast
        omega
      · exact ⟨b, by simp only [rloop, h1, Option.bind_some], h2⟩
  have := key m 0 s0 (by omega) h0
  simpa using this
theorem wloop_post {σ β : Type} {step : σ → Option (Stp σ β)} (I : Nat → σ → Prop) (Post : β → Prop)
    (hs : ∀ n s, I n s → (∃ s' n', step s = some (.go s') ∧ n' < n ∧ I n' s') ∨ ∃ b, step s = some (.out b) ∧ Post b) : ∀ n s, I n s → ∃ b, wloop step s = some b ∧ Post b := by
  intro n
  induction n using Nat.strongRecOn with
  | ind n ih =>
    intro s hI
    rw [wloop_eq]
    rcases hs n s hI with ⟨s', n', h1, h2, h3⟩ | ⟨b, h1, h2⟩
    · rw [h1]
      exact ih n' h2 s' h3
    · exact ⟨b, by rw [h1]; rfl, h2⟩
/-- A loop with a counter that is kept in the state. -/
theorem cloop_post {σ β : Type} {step : σ → Option (Stp σ β)} (m : Nat) (I : Nat → σ → Prop) (Post : β → Prop) {s0 : σ} (h0 : I 0 s0)
    (hs : ∀ k s, k < m → I k s → (∃ s', step s = some (.go s') ∧ I (k + 1) s') ∨ ∃ b, step s = some (.out b) ∧ Post b)
    (he : ∀ s, I m s → ∃ b, step s = some (.out b) ∧ Post b) : ∃ b, wloop step s0 = some b ∧ Post b := by
  refine wloop_post (fun n s => ∃ k, k + n = m ∧ I k s) Post ?_ m s0 ⟨0, by omega, h0⟩
  rintro n s ⟨k, hk, hI⟩
  rcases Nat.lt_or_ge k m with h | h
  · rcases hs k s h hI with ⟨s', h1, h2⟩ | h1
    · exact .inl ⟨s', n - 1, h1, by omega, k + 1, by omega, h2⟩
    · exact .inr h1
  · have : k = m := by omega
    subst this
    exact .inr (he s hI)
theorem ix_at {α : Type} {l : List α} {k : Nat} (h : k < l.length) : ix l (k : Int) = some l[k] := by rw [ix_nat, List.getElem?_eq_getElem h]
theorem ix_of {α : Type} {l : List α} {k : Nat} {x : α} (h : l[k]? = some x) : ix l (k : Int) = some x := by rw [ix_nat, h]
theorem gd_t {α : Type} {p : Prop} [Decidable p] {e : Option α} (h : p) : gd p e = e := by unfold gd; rw [if_pos h]
theorem wr64 {n : Int} (h1 : -9223372036854775808 ≤ n) (h2 : n ≤ 9223372036854775807) : IntKind.i64.wrap n = n := wrI ⟨h1, h2⟩
theorem wrU {n : Int} (h1 : 0 ≤ n) (h2 : n ≤ 18446744073709551615) : IntKind.u64.wrap n = n := by
  have : IntKind.u64.wrap n = n % 18446744073709551616 := by simp [IntKind.wrap, IntKind.signed, IntKind.bits]
  rw [this]; omega
theorem some_of {α : Type} {e : Option α} {a : α} (h : ∃ b, e = some b ∧ b = a) : e = some a := by obtain ⟨b, h1, h2⟩ := h; rw [h1, h2]
end Go.Pm
