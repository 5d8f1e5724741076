import Derived.Test.YthdjiekgolgmfaaR1a
namespace Go.Am
open Go.Proofs
set_option maxRecDepth 20000
set_option linter.unusedSimpArgs false
set_option linter.unusedVariables false

def mkInt (x : Int) : Value := .int .i64 x
theorem ints_flat (xs : List Int) : (xs.map fun x => [Value.int .i64 x]).flatten = xs.map mkInt := by
  induction xs with
  | nil => rfl
  | cons x xs ih => simp [ih, mkInt]
theorem ints_push {H : AH} {p : Option Addr} {c : Nat} {xs : List Int} {b : Blk} (hw : WFH H) (h : Ints H (.slice p xs.length c) xs) : Ints (H.push b) (.slice p xs.length c) xs := h.ext (ext_push hw)
/-- A block of integers. -/
theorem ints_new {H : AH} {id : Nat} {rw : Bool} {xs : List Int} (h : H.b id = some ⟨rw, xs.map mkInt⟩) : Ints H (.slice (some ⟨id, 0, some 1⟩) xs.length xs.length) xs := by
  refine ⟨_, _, by rw [List.length_map], ?_, .inr ⟨id, 0, rfl, by simp, .inr ⟨_, [], h, ?_⟩⟩⟩
  · intro e he
    obtain ⟨x, _, rfl⟩ := List.mem_map.1 he
    rfl
  · rw [ints_flat]; simp

theorem take_set {xs : List Int} {i n : Nat} (h : i < xs.length) (hn : n = xs.length) : ((xs.take i).map mkInt ++ List.replicate (n - i) (mkInt 0)).set i (mkInt (xs[i]?.getD 0)) = (xs.take (i + 1)).map mkInt ++ List.replicate (n - (i + 1)) (mkInt 0) := by
  subst hn
  have e : xs.length - i = (xs.length - (i + 1)) + 1 := by omega
  rw [List.set_append_right _ _ (by simp; omega), e, List.replicate_succ]
  have e2 : i - ((xs.take i).map mkInt).length = 0 := by simp; omega
  rw [e2, List.set_cons_zero, List.take_succ_eq_append_getElem h, List.map_append, List.append_assoc]
  simp [h]

/-- 'toIntS': a copy in a block of its own. -/
theorem c20 {p : Option Addr} {c : Nat} {xs : List Int} {H : AH} (hx : Ints H (.slice p xs.length c) xs) (hl : xs.length ≤ 1048576) :
    ACalls Try.prog 20 [.slice p xs.length c] H fun r H' => r = .slice (some ⟨H.n, 0, some 1⟩) xs.length xs.length ∧ H' = H.push ⟨true, xs.map mkInt⟩ := by
  refine acalls_body cl20 Try.func20 rfl rfl rfl (by simp) fun hw => ?_
  simp [go_sem]
  refine awmk_some ezz36 (by decide) (Nat.le_refl _) (by omega) (by omega) rfl (by decide) rfl ?_
  simp [go_sem]
  refine aw_loopI (σ := Nat) (fun s => [(0, .v (.slice p xs.length c)), (3, .v (.slice (some ⟨H.n, 0, some 1⟩) xs.length xs.length)), (4, .v (.int .i64 s))])
    (fun s H' => s ≤ xs.length ∧ H' = H.push ⟨true, (xs.take s).map mkInt ++ List.replicate (xs.length - s) (mkInt 0)⟩) (fun s _ => xs.length - s) 0 (by simp [Agree, go_sem]) (by simp [mkInt]) ?_
  rintro I hI i G ⟨h1, hG⟩
  have hx' : Ints G (.slice p xs.length c) xs := hG ▸ ints_push hw hx
  have hb : G.b H.n = some ⟨true, (xs.take i).map mkInt ++ List.replicate (xs.length - i) (mkInt 0)⟩ := by rw [hG]; exact push_same
  simp [go_sem]
  refine awc_split (fun hlt => ?_) (fun hge => ?_)
  · have hlt : i < xs.length := by simpa using hlt
    simp [go_sem, ix_int hx', ld_int hx', inB_nat hlt, ix_raw]
    rw [putH_some hb (putAt_one (by simp; omega))]
    generalize hG' : G.set H.n _ = G'
    simp [go_sem]
    refine ⟨i + 1, by simp [Agree, go_sem, wrS hlt (by omega)], hI _ _ ⟨by omega, ?_⟩, Nat.sub_succ_lt_self _ _ hlt⟩
    rw [← take_set hlt rfl, ← hG', hG, push_set]; rfl
  · have hge : i = xs.length := by simp at hge; omega
    subst hge
    simp [go_sem]
    simp [hG]

/-- 'eqIntS' -/
theorem c22 {p q : Option Addr} {c d : Nat} {xs ys : List Int} {H : AH} (hx : Ints H (.slice p xs.length c) xs) (hy : Ints H (.slice q ys.length d) ys) (hl : xs.length ≤ 1048576) :
    ACalls Try.prog 22 [.slice p xs.length c, .slice q ys.length d] H fun r H' => r = .bool (decide (xs = ys)) ∧ H' = H := by
  refine acalls_body cl22 Try.func22 rfl rfl rfl (by simp) fun hw => ?_
  simp [go_sem]
  refine awc_split (fun hn => ?_) (fun hn => ?_)
  · simp [go_sem]
    simp at hn
    rintro rfl; omega
  · simp at hn
    have hn : xs.length = ys.length := by omega
    simp [go_sem]
    refine aw_loopI (σ := Nat) (fun s => [(0, .v (.slice p xs.length c)), (1, .v (.slice q ys.length d)), (5, .v (.int .i64 s))])
      (fun s H' => s ≤ xs.length ∧ (xs.take s = ys.take s) ∧ H' = H) (fun s _ => xs.length - s) 0 (by simp [Agree, go_sem]) (by simp) ?_
    rintro I hI i H' ⟨h1, h2, rfl⟩
    simp [go_sem]
    refine awc_split (fun hlt => ?_) (fun hge => ?_)
    · have hlt : i < xs.length := by simpa using hlt
      have hlt' : i < ys.length := by omega
      simp [go_sem]
      refine dr22_6 (by kernel_rfl) ?_
      simp [go_sem, ix_int hx, ld_int hx, ix_int hy, ld_int hy, inB_nat hlt, inB_nat hlt']
      refine awc_split (fun he => ?_) (fun he => ?_)
      · simp [go_sem]
        rintro rfl
        simp at he
      · simp [go_sem]
        refine ⟨i + 1, by simp [Agree, go_sem, wrS hlt (by omega)], hI _ _ ⟨by omega, ?_, rfl⟩, Nat.sub_succ_lt_self _ _ hlt⟩
        rw [List.take_succ_eq_append_getElem hlt, List.take_succ_eq_append_getElem hlt', h2]
        simp [hlt, hlt'] at he
        rw [he]
    · have hge : i = xs.length := by simp at hge; omega
      subst hge
      simp [go_sem]
      rw [List.take_length, hn, List.take_length] at h2
      exact h2

/-- 'szIntS': some number. -/
theorem c80 {p : Option Addr} {n c : Nat} {k : Int} {H : AH} : ACalls Try.prog 80 [.slice p n c, .int .i64 k] H fun r H' => (∃ k, r = .int .i64 k) ∧ H' = H := by
  refine acalls_body cl80 Try.func80 rfl rfl rfl (by simp) fun hw => ?_
  simp [go_sem]
  refine awc_split (fun hn => ?_) (fun hn => ?_) <;> simp [go_sem]
theorem c37 {p : Option Addr} {n c : Nat} {t k : Int} {H : AH} : ACalls Try.prog 37 [.agg #[.slice p n c, .int .i64 t], .int .i64 k] H fun r H' => (∃ k, r = .int .i64 k) ∧ H' = H := by
  refine acalls_body cl37 Try.func37 rfl rfl rfl (by simp) fun hw => ?_
  simp [go_sem]
  refine acallk_mono (by decide) c80 ?_
  rintro _ _ ⟨⟨k', rfl⟩, rfl⟩
  simp [go_sem]
  refine awc_split (fun hn => ?_) (fun hn => ?_) <;> simp [go_sem]

/-- A counted view: where its view lies; the view; the times. -/
structure VC where
  p : Option Addr
  c : Nat
  view : List Int
  times : Int
def VC.cells (x : VC) : List Value := [.slice x.p x.view.length x.c, .int .i64 x.times]
def VC.val (x : VC) : List Int × Int := (x.view, x.times)
/-- A slice of counted views. -/
structure VCs (H : AH) (p : Option Addr) (c : Nat) (L : List VC) : Prop where
  s : Sl H (.slice p L.length c) 2 (L.map VC.cells)
  v : ∀ x, x ∈ L → Ints H (.slice x.p x.view.length x.c) x.view
  b : L.length ≤ 1048576
  vb : ∀ x, x ∈ L → x.view.length ≤ 1048576
theorem VCs.ext {H H' : AH} {p : Option Addr} {c : Nat} {L : List VC} (h : VCs H p c L) (he : Ext H H') : VCs H' p c L := ⟨h.s.ext he, fun x hx => (h.v x hx).ext he, h.b, h.vb⟩
theorem vc_get {L : List VC} {i : Nat} (h : i < L.length) : (L.map VC.cells).getD i [] = [.slice L[i].p L[i].view.length L[i].c, .int .i64 L[i].times] := by
  simp [List.getD, h, VC.cells]
section
variable {P : Program} {fr : FR} {H : AH} {p : Option Addr} {c : Nat} {L : List VC} {i : Nat}
theorem ix_vc (hs : VCs H p c L) {t : TypeId} {q : IntKind} (he : esz P t = some 2) (h : i < L.length) : ixF P t (some (.v (.slice p L.length c))) (some (.int q (i : Int))) = some (.v (elp p 2 (i : Int) 0)) :=
  ix_el hs.s he (inB_nat h)
theorem ld_vc (hs : VCs H p c L) {r : Nat × List Value} (h : i < L.length) : ldT (some (true, 2, r)) (ldA fr H (some (.v (elp p 2 (i : Int) 0)))) = some (.agg #[.slice L[i].p L[i].view.length L[i].c, .int .i64 L[i].times]) := by
  rw [ldA_el hs.s (inB_nat h), Int.toNat_natCast, vc_get h]
theorem ld_vc0 (hs : VCs H p c L) {r : Nat × List Value} {sz : Nat} (h : i < L.length) : ldT (some (false, sz, r)) (ldA fr H (some (.v (elp p 2 (i : Int) 0)))) = some (.slice L[i].p L[i].view.length L[i].c) := by
  rw [ldA_fl hs.s (inB_nat h) (by decide), Int.toNat_natCast, vc_get h]; rfl
theorem ld_vc1 (hs : VCs H p c L) {r : Nat × List Value} {sz : Nat} (h : i < L.length) : ldT (some (false, sz, r)) (ldA fr H (some (.v (elp p 2 (i : Int) 1)))) = some (.int .i64 L[i].times) := by
  rw [ldA_fl hs.s (inB_nat h) (by decide), Int.toNat_natCast, vc_get h]; rfl
theorem ne_vc (hs : VCs H p c L) (h : i < L.length) : p ≠ none := hs.s.ne (inB_nat (i := i) h)
end

theorem c10 {p : Option Addr} {c : Nat} {L : List VC} {k : Int} {H : AH} (hL : VCs H p c L) : ACalls Try.prog 10 [.slice p L.length c, .int .i64 k] H fun r H' => (∃ k, r = .int .i64 k) ∧ H' = H := by
  refine acalls_body cl10 Try.func10 rfl rfl rfl (by simp) fun hw => ?_
  simp [go_sem]
  refine awc_split (fun hn => ?_) (fun hn => ?_) <;> simp [go_sem]
  refine aw_loopI (σ := Nat × Int) (fun s => [(0, .v (.slice p L.length c)), (1, .v (.int .i64 s.2)), (5, .v (.int .i64 s.1))])
    (fun s H' => s.1 ≤ L.length ∧ H' = H) (fun s _ => L.length - s.1) (0, _) (by simp [Agree, go_sem]; rfl) (by simp) ?_
  rintro I hI ⟨i, k⟩ G ⟨h1, rfl⟩
  simp [go_sem]
  refine awc_split (fun hlt => ?_) (fun hge => ?_)
  · have hlt : i < L.length := by simpa using hlt
    simp [go_sem, ix_vc hL, ld_vc hL, hlt]
    refine acallk_mono (by decide) c37 ?_
    rintro _ _ ⟨⟨k', rfl⟩, rfl⟩
    simp [go_sem]
    refine awc_split (fun hn => ?_) (fun hn => ?_) <;> simp [go_sem]
    refine ⟨(i + 1, k'), by simp [Agree, go_sem, wrS hlt (Nat.le_trans hL.b (by decide))], hI _ _ ⟨Nat.succ_le_of_lt hlt, rfl⟩, Nat.sub_succ_lt_self _ _ hlt⟩
  · simp [go_sem]

/-- 'toViewCount' -/
theorem c39 {p : Option Addr} {c : Nat} {xs : List Int} {t : Int} {H : AH} (hx : Ints H (.slice p xs.length c) xs) (hl : xs.length ≤ 1048576) :
    ACalls Try.prog 39 [.agg #[.slice p xs.length c, .int .i64 t]] H fun r H' => r = .agg #[.slice (some ⟨H.n, 0, some 1⟩) xs.length xs.length, .int .i64 t] ∧ H' = H.push ⟨true, xs.map mkInt⟩ := by
  refine acalls_body cl39 Try.func39 rfl rfl rfl (by simp) fun hw => ?_
  simp [go_sem]
  refine acallk_mono (by decide) (c20 hx hl) ?_
  rintro _ _ ⟨rfl, rfl⟩
  generalize H.push _ = G
  simp [go_sem]

theorem set_step {α : Type} {f : VC → α} {D : List VC} {x : VC} {z : α} {n i : Nat} (hi : D.length = i) (hlt : i < n) : (D.map f ++ List.replicate (n - i) z).set i (f x) = (D ++ [x]).map f ++ List.replicate (n - (i + 1)) z := by
  have e : n - i = (n - (i + 1)) + 1 := by omega
  rw [List.set_append_right _ _ (by simp; omega), e, List.replicate_succ]
  have e2 : i - (D.map f).length = 0 := by simp; omega
  rw [e2, List.set_cons_zero, List.map_append, List.append_assoc]
  rfl

/-- 'toViewCountS': a copy, in blocks of its own. -/
theorem c12 {p : Option Addr} {c : Nat} {L : List VC} {H : AH} (hL : VCs H p c L) :
    ACalls Try.prog 12 [.slice p L.length c] H fun r H' => Ext H H' ∧ ∃ q D, r = .slice q D.length D.length ∧ VCs H' q D.length D ∧ D.map VC.val = L.map VC.val := by
  refine acalls_body cl12 Try.func12 rfl rfl rfl (by simp) fun hw => ?_
  simp [go_sem]
  have hb1 := hL.b
  refine awmk_some ezz25 (by decide) (Nat.le_refl _) (by omega) (by omega) rfl (by decide) rfl ?_
  generalize hG0 : H.push _ = G0
  simp [go_sem]
  refine aw_loopI (σ := Nat) (fun s => [(0, .v (.slice p L.length c)), (3, .v (.slice (some ⟨H.n, 0, some 2⟩) L.length L.length)), (4, .v (.int .i64 s))])
    (fun s G => s ≤ L.length ∧ ∃ D : List VC, D.length = s ∧ D.map VC.val = (L.take s).map VC.val ∧ Ext H G ∧ H.n + 1 ≤ G.n ∧ WFH G ∧
      G.b H.n = some ⟨true, (D.map VC.cells ++ List.replicate (L.length - s) [Value.slice none 0 0, Value.int .i64 0]).flatten⟩ ∧
      ∀ x, x ∈ D → x.c = x.view.length ∧ x.view.length ≤ 1048576 ∧ ∃ id, x.p = some ⟨id, 0, some 1⟩ ∧ id ≠ H.n ∧ G.b id = some ⟨true, x.view.map mkInt⟩) (fun s _ => L.length - s) 0 (by simp [Agree, go_sem]) ?_ ?_
  · refine ⟨Nat.zero_le _, [], rfl, rfl, hG0 ▸ ext_push hw, by rw [← hG0]; exact Nat.le_refl _, hG0 ▸ wf_push hw, ?_, fun x hx => by cases hx⟩
    rw [← hG0]
    exact push_same
  · rintro I hI i G ⟨h1, D, hD, hval, hext, hn, hwG, hb, hown⟩
    have hL' := hL.ext hext
    simp [go_sem]
    refine awc_split (fun hlt => ?_) (fun hge => ?_)
    · have hlt : i < L.length := by simpa using hlt
      have hm : L[i] ∈ L := List.getElem_mem hlt
      simp [go_sem, ix_vc hL', ld_vc hL', hlt]
      refine acallk_mono (by decide) (c39 (hL'.v _ hm) (hL'.vb _ hm)) ?_
      rintro _ _ ⟨rfl, rfl⟩
      generalize hG1 : G.push _ = G1
      have hb1 : G1.b H.n = some ⟨true, (D.map VC.cells ++ List.replicate (L.length - i) [Value.slice none 0 0, Value.int .i64 0]).flatten ++ []⟩ := by
        rw [← hG1, List.append_nil]
        simp only [AH.push]
        rw [if_neg (by omega)]; exact hb
      simp [go_sem, ix_raw, inB_nat hlt]
      have hput := putAt_flat (es := 2) (ess := D.map VC.cells ++ List.replicate (L.length - i) [Value.slice none 0 0, Value.int .i64 0]) (i := i) (xs := VC.cells ⟨some ⟨G.n, 0, some 1⟩, L[i].view.length, L[i].view, L[i].times⟩) (r := [])
        (fun e he => by
          rcases List.mem_append.1 he with he | he
          · obtain ⟨x, _, rfl⟩ := List.mem_map.1 he; rfl
          · rw [(List.mem_replicate.1 he).2]; rfl) (by simp; omega) rfl (by simp [VC.cells])
      rw [set_step hD hlt] at hput
      simp only [List.append_nil] at hput hb1
      rw [putH_some (xs := [Value.slice (some ⟨G.n, 0, some 1⟩) L[i].view.length L[i].view.length, Value.int .i64 L[i].times]) hb1 hput]
      generalize hG2 : G1.set H.n _ = G2
      simp [go_sem]
      refine ⟨i + 1, by simp [Agree, go_sem, wrS hlt (by omega)], hI _ _ ⟨hlt, D ++ [⟨some ⟨G.n, 0, some 1⟩, L[i].view.length, L[i].view, L[i].times⟩], by simp [hD], ?_, ?_, ?_, ?_, ?_, ?_⟩, Nat.sub_succ_lt_self _ _ hlt⟩
      · rw [List.map_append, hval, List.take_succ_eq_append_getElem hlt, List.map_append]; rfl
      · refine ⟨?_, fun id k hk => ?_⟩
        · rw [← hG2, ← hG1]; exact Nat.le_trans hext.1 (Nat.le_succ _)
        · have := hw id k hk
          rw [← hG2, ← hG1]
          simp only [AH.set, AH.push]
          rw [if_neg (by omega), if_neg (by omega)]
          exact hext.2 id k hk
      · rw [← hG2, ← hG1]; exact Nat.le_succ_of_le hn
      · rw [← hG2, ← hG1]
        intro id k hk
        simp only [AH.set, AH.push] at hk ⊢
        split at hk
        · omega
        · exact wf_push hwG id k hk
      · rw [← hG2]; simp [AH.set]
      · intro x hx
        rcases List.mem_append.1 hx with hx | hx
        · obtain ⟨e1, e2, id, e3, e4, e5⟩ := hown x hx
          refine ⟨e1, e2, id, e3, e4, ?_⟩
          have := hwG id _ e5
          rw [← hG2, ← hG1]
          simp only [AH.set, AH.push]
          rw [if_neg e4, if_neg (by omega)]; exact e5
        · simp at hx
          subst hx
          refine ⟨rfl, hL'.vb L[i] hm, G.n, rfl, by omega, ?_⟩
          rw [← hG2, ← hG1]
          simp only [AH.set, AH.push]
          rw [if_neg (by omega)]; simp
    · have hge : i = L.length := by simp at hge; omega
      subst hge
      simp [go_sem]
      refine ⟨hext, ⟨some ⟨H.n, 0, some 2⟩, D, by simp [hD], ?_, by simpa using hval⟩⟩
      refine ⟨⟨_, _, by rw [List.length_map], ?_, .inr ⟨H.n, 0, rfl, by simp, .inr ⟨_, [], hb, ?_⟩⟩⟩, fun x hx => ?_, by omega, fun x hx => (hown x hx).2.1⟩
      · intro e he
        obtain ⟨x, _, rfl⟩ := List.mem_map.1 he
        rfl
      · simp
      · obtain ⟨e1, e2, id, e3, e4, e5⟩ := hown x hx
        rw [e1, e3]
        exact ints_new e5

/-- 'eqViewCount' -/
theorem c41 {p q : Option Addr} {c d : Nat} {xs ys : List Int} {t u : Int} {H : AH} (hx : Ints H (.slice p xs.length c) xs) (hy : Ints H (.slice q ys.length d) ys) (hl : xs.length ≤ 1048576) :
    ACalls Try.prog 41 [.agg #[.slice p xs.length c, .int .i64 t], .agg #[.slice q ys.length d, .int .i64 u]] H fun r H' => r = .bool (decide ((xs, t) = (ys, u))) ∧ H' = H := by
  refine acalls_body cl41 Try.func41 rfl rfl rfl (by simp) fun hw => ?_
  simp [go_sem]
  refine acallk_pure (by decide) (c22 hx hy hl) ?_
  simp [go_sem]
  refine awc_split (fun h => ?_) (fun h => ?_) <;> simp [go_sem]
  · simp at h; intro e; exact absurd e h
  · refine awc_split (fun h' => ?_) (fun h' => ?_) <;> simp [go_sem] <;> simp at h h'
    · intro _; exact h'
    · exact ⟨h, h'⟩
/-- 'eqViewCountS' -/
theorem c14 {p q : Option Addr} {c d : Nat} {L M : List VC} {H : AH} (hL : VCs H p c L) (hM : VCs H q d M) :
    ACalls Try.prog 14 [.slice p L.length c, .slice q M.length d] H fun r H' => r = .bool (decide (L.map VC.val = M.map VC.val)) ∧ H' = H := by
  refine acalls_body cl14 Try.func14 rfl rfl rfl (by simp) fun hw => ?_
  have hb1 := hL.b
  simp [go_sem]
  refine awc_split (fun hn => ?_) (fun hn => ?_)
  · simp [go_sem]
    simp at hn
    intro h
    have := congrArg List.length h
    simp at this; omega
  · simp at hn
    have hn : L.length = M.length := by omega
    simp [go_sem]
    refine aw_loopI (σ := Nat) (fun s => [(0, .v (.slice p L.length c)), (1, .v (.slice q M.length d)), (5, .v (.int .i64 s))])
      (fun s H' => s ≤ L.length ∧ ((L.take s).map VC.val = (M.take s).map VC.val) ∧ H' = H) (fun s _ => L.length - s) 0 (by simp [Agree, go_sem]) (by simp) ?_
    rintro I hI i H' ⟨h1, h2, rfl⟩
    simp [go_sem]
    refine awc_split (fun hlt => ?_) (fun hge => ?_)
    · have hlt : i < L.length := by simpa using hlt
      have hlt' : i < M.length := by omega
      have hm : L[i] ∈ L := List.getElem_mem hlt
      have hm' : M[i] ∈ M := List.getElem_mem hlt'
      simp [go_sem]
      refine dr14_6 (by kernel_rfl) ?_
      simp [go_sem, ix_vc hL, ld_vc hL, ix_vc hM, ld_vc hM, hlt, hlt']
      refine acallk_pure (by decide) (c41 (hL.v _ hm) (hM.v _ hm') (hL.vb _ hm)) ?_
      simp [go_sem]
      refine awc_split (fun he => ?_) (fun he => ?_)
      · simp [go_sem]
        intro h
        have h3 := congrArg (fun l => l[i]?) h
        simp [hlt, hlt', VC.val] at h3 he
        exact he.elim (fun a => a h3.1) (fun a => a h3.2)
      · simp [go_sem]
        refine ⟨i + 1, by simp [Agree, go_sem, wrS hlt (by omega)], hI _ _ ⟨hlt, ?_, rfl⟩, Nat.sub_succ_lt_self _ _ hlt⟩
        rw [List.take_succ_eq_append_getElem hlt, List.take_succ_eq_append_getElem hlt', List.map_append, List.map_append, h2]
        simp at he
        simp [VC.val, he]
    · have hge : i = L.length := by simp at hge; omega
      subst hge
      simp [go_sem]
      rw [List.take_length, hn, List.take_length] at h2
      exact h2
end Go.Am
