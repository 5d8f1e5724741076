/-
  FnShareSecrecy: plain laws.
  No condition.
-/
import Derived.Test.YtpbhnggmbnfemaaY15
namespace Go.Pm
open Go.Am
set_option linter.unusedVariables false
set_option linter.unusedSimpArgs false
theorem n_sNextG {q : Nat} (hq : 2 ≤ q) (hq2 : q ≤ 2000000000) (l : List Int) (hl : ∀ d ∈ l, 0 ≤ d ∧ d < q) (hn : l.length ≤ 1000000) : Rn (F_spec_sNext__io0 l.reverse (q : Int)) (fun x => match incD q l with
    | some l' => x = (true, l'.reverse)
    | none => x.1 = false) := by
  have hw : IntKind.i64.wrap ((q : Int) - 1) = (q : Int) - 1 := wr64 (by omega) (by omega)
  unfold F_spec_sNext__io0
  rw [hw]
  refine rn_then (ψ := fun b => match incD q l with
    | some l' => b = .inr (true, l'.reverse)
    | none => ∃ s, b = .inl s) (rn_wloop (fun s => ∃ (j : Nat) (suf : List Int), l = List.replicate j ((q : Int) - 1) ++ suf ∧ s.1 = suf.reverse ++ List.replicate j 0 ∧ s.2 = (suf.length : Int) - 1) (fun s => (s.2 + 1).toNat) ⟨0, l, by simp, by simp, ?_⟩ ?_) ?_
  · show IntKind.i64.wrap ((l.reverse.length : Int) - 1) = _
    rw [List.length_reverse, wr64 (by omega) (by omega)]
  · rintro ⟨s, i⟩ ⟨j, suf, h1, h2, h3⟩
    dsimp only at h2 h3
    cases suf with
    | nil =>
      refine rn_f (by rw [h3]; simp) (rn_some ?_)
      show match incD q l with
        | some l' => _
        | none => _
      rw [h1, incD_zeros q hq]
      exact ⟨_, rfl⟩
    | cons d ds =>
      have hd := hl d (by rw [h1]; simp)
      have hlen : j + (ds.length + 1) ≤ 1000000 := by
        have := congrArg List.length h1
        simp at this; omega
      have hi : i = (ds.length : Int) := by rw [h3]; simp
      have hs : s = ds.reverse ++ (d :: List.replicate j 0) := by rw [h2]; simp
      have hset : ∀ v, s.set ds.length v = ds.reverse ++ (v :: List.replicate j 0) := fun v => by
        rw [hs, List.set_append_right _ _ (by simp)]
        simp
      refine rn_t (by rw [hi]; simp) (rn_call (a := d) ?_ ?_)
      · dsimp only
        rw [hi, ix_of (l := s) (k := ds.length) (x := d) (by rw [hs, List.getElem?_append_right (by simp)]; simp)]
      · refine rn_if (fun g => rn_some ?_) fun g => rn_some ?_
        · have g : d < (q : Int) - 1 := by simpa using g
          show match incD q l with
            | some l' => _
            | none => _
          rw [h1, incD_zeros q hq, incD, if_pos g, wr64 (by omega) (by omega)]
          dsimp only [Option.map]
          rw [hi, Int.toNat_natCast, hset]
          simp
        · have g : ¬ d < (q : Int) - 1 := by simpa using g
          have hdq : d = (q : Int) - 1 := by omega
          refine ⟨⟨j + 1, ds, ?_, ?_, ?_⟩, ?_⟩
          · rw [h1, hdq, List.replicate_succ', List.append_assoc]; rfl
          · show s.set i.toNat 0 = _
            rw [hi, Int.toNat_natCast, hset, List.replicate_succ]
          · show IntKind.i64.wrap (i - 1) = _
            rw [hi, wr64 (by omega) (by omega)]
          · show (IntKind.i64.wrap (i - 1) + 1).toNat < (i + 1).toNat
            rw [hi, wr64 (by omega) (by omega)]; omega
  · intro b hb
    cases hc : incD q l with
    | none =>
      rw [hc] at hb
      obtain ⟨s, rfl⟩ := hb
      exact rn_some rfl
    | some l' =>
      rw [hc] at hb
      dsimp only at hb
      subst hb
      exact rn_some rfl
theorem incD_dg {q : Nat} (hq : 2 ≤ q) : ∀ (k n : Nat), n < q ^ k → (n + 1 < q ^ k → incD q (dg q k n) = some (dg q k (n + 1))) ∧ (¬ n + 1 < q ^ k → incD q (dg q k n) = none)
  | 0, n, h => ⟨fun h1 => by simp at h1, fun _ => rfl⟩
  | k + 1, n, h => by
    have hlt := Nat.mod_lt n (show 0 < q by omega)
    have hdm := Nat.div_add_mod n q
    have hd : n / q < q ^ k := by rw [Nat.div_lt_iff_lt_mul (by omega), ← Nat.pow_succ]; exact h
    have ih := incD_dg hq k (n / q) hd
    show (n + 1 < q ^ (k + 1) → (if ((n % q : Nat) : Int) < (q : Int) - 1 then _ else _) = some (((((n + 1) % q : Nat)) : Int) :: dg q k ((n + 1) / q))) ∧ (_ → (if _ then _ else _) = _)
    have hps : q ^ (k + 1) = q ^ k * q := Nat.pow_succ q k
    have hcm : q * (n / q) = n / q * q := Nat.mul_comm _ _
    by_cases h1 : n % q + 1 < q
    · have n1 : (n + 1) % q = n % q + 1 := by
        conv => lhs; rw [← hdm]
        rw [Nat.add_assoc, Nat.mul_add_mod, Nat.mod_eq_of_lt h1]
      have n3 : (n + 1) / q = n / q := by
        conv => lhs; rw [← hdm]
        rw [Nat.add_assoc, Nat.mul_add_div (by omega), Nat.div_eq_of_lt h1, Nat.add_zero]
      have h4 : (n / q + 1) * q ≤ q ^ k * q := Nat.mul_le_mul_right q hd
      rw [Nat.succ_mul] at h4
      rw [if_pos (by omega), n1, n3]
      exact ⟨fun _ => rfl, fun h2 => absurd (show n + 1 < q ^ (k + 1) by omega) h2⟩
    · have hbq : n % q + 1 = q := by omega
      have n1 : (n + 1) % q = 0 := by
        conv => lhs; rw [← hdm]
        rw [Nat.add_assoc, hbq, Nat.mul_add_mod, Nat.mod_self]
      have n3 : (n + 1) / q = n / q + 1 := by
        conv => lhs; rw [← hdm]
        rw [Nat.add_assoc, hbq, Nat.mul_add_div (by omega), Nat.div_self (by omega)]
      have hiff : n + 1 < q ^ (k + 1) ↔ n / q + 1 < q ^ k := by
        have e : n + 1 = (n / q + 1) * q := by rw [Nat.succ_mul]; omega
        rw [hps, e]
        exact ⟨fun h => Nat.lt_of_mul_lt_mul_right h, fun h => Nat.mul_lt_mul_of_pos_right h (by omega)⟩
      rw [if_neg (by omega), n1, n3]
      refine ⟨fun h2 => ?_, fun h2 => ?_⟩
      · rw [ih.1 (hiff.1 h2)]; rfl
      · rw [ih.2 (fun h3 => h2 (hiff.2 h3))]; rfl
theorem Sm_dg {q : Nat} (hq : 0 < q) (k : Nat) (G : List Int → Int) : Sm (q ^ (k + 1)) (fun j => G (dg q (k + 1) j)) = Sm (q ^ k) (fun c => Sm q (fun b => G ((b : Int) :: dg q k c))) := by
  have := Sm_prod (q ^ k) q (fun c b : Nat => G ((b : Int) :: dg q k c)) hq
  rw [← this, Nat.pow_succ]
  rfl
theorem Sm_rev {q : Nat} (hq : 0 < q) {k : Nat} (hk : k ≤ 3) (G : List Int → Int) : Sm (q ^ k) (fun j => G (dg q k j).reverse) = Sm (q ^ k) (fun j => G (dg q k j)) := by
  rcases (show k = 0 ∨ k = 1 ∨ k = 2 ∨ k = 3 by omega) with rfl | rfl | rfl | rfl
  · rfl
  · rfl
  · rw [Sm_dg hq 1 (fun l => G l.reverse), Sm_dg hq 1 G, Sm_dg hq 0 (fun l => Sm q (fun b => G ((b : Int) :: l).reverse)), Sm_dg hq 0 (fun l => Sm q (fun b => G ((b : Int) :: l)))]
    refine Sm_congr fun c _ => ?_
    rw [Sm_swap]
    rfl
  · rw [Sm_dg hq 2 (fun l => G l.reverse), Sm_dg hq 2 G, Sm_dg hq 1 (fun l => Sm q (fun b => G ((b : Int) :: l).reverse)), Sm_dg hq 1 (fun l => Sm q (fun b => G ((b : Int) :: l))),
      Sm_dg hq 0 (fun l => Sm q (fun a => Sm q (fun b => G ((b : Int) :: (a : Int) :: l).reverse))), Sm_dg hq 0 (fun l => Sm q (fun a => Sm q (fun b => G ((b : Int) :: (a : Int) :: l))))]
    refine Sm_congr fun c _ => ?_
    rw [Sm_swap]
    refine (Sm_congr fun a _ => ?_).trans (Sm_swap q q (fun t a => Sm q (fun l => G [(l : Int), (a : Int), (t : Int)]))).symm
    exact Sm_swap q q (fun i b => G [(i : Int), (a : Int), (b : Int)])
def ptsM (m : Nat) : List Int := (List.range m).map fun i => ((i : Nat) : Int) + 1
theorem ptsM_succ (m : Nat) : ptsM (m + 1) = ptsM m ++ [(m : Int) + 1] := by simp [ptsM, List.range_succ]
theorem n_fits {known : List Int} {V : Int → Int} {E : Int → Option Int} (hE : ∀ i : Nat, i < known.length → E ((i : Int) + 1) = some (V ((i : Int) + 1))) (hl : known.length ≤ 1000) :
    Rn (rloop (σ := Bool) (β := Bool) (fun i184 s183 => (((ix known i184).bind fun x199 => if s183 = true then ((E (IntKind.i64.wrap (i184 + 1))).bind fun z204 => some (z204 == x199)) else (some false) : Option (Bool)).bind fun (x197 : Bool) => some (.go x197))) (fun s183 => s183) known.length 0 true) (fun b => b = decide ((ptsM known.length).map V = known)) := by
  refine rn_rloop (fun k s => s = decide ((ptsM k).map V = known.take k)) (by simp [ptsM]) ?_ ?_
  · rintro k s hk rfl
    refine rn_then (ψ := fun x => x = decide ((ptsM (k + 1)).map V = known.take (k + 1))) (rn_ix hk ?_) fun x hx => rn_some hx
    have hiff : (ptsM (k + 1)).map V = known.take (k + 1) ↔ (ptsM k).map V = known.take k ∧ V ((k : Int) + 1) = known[k] := by
      rw [ptsM_succ, List.map_append, List.take_succ_eq_append_getElem hk]
      constructor
      · intro h
        obtain ⟨a, b⟩ := List.append_inj' h rfl
        exact ⟨a, by simpa using b⟩
      · rintro ⟨a, b⟩
        rw [a, ← b]; rfl
    refine rn_if (fun g => ?_) fun g => rn_some ?_
    · rw [wr64 (by omega) (by omega)]
      refine rn_call (hE k hk) (rn_some ?_)
      have g := of_decide_eq_true g
      by_cases h : V ((k : Int) + 1) = known[k]
      · rw [decide_eq_true (hiff.2 ⟨g, h⟩)]; simpa using h
      · rw [decide_eq_false fun h2 => h (hiff.1 h2).2]; simpa using h
    · have g := of_decide_eq_false g
      exact (decide_eq_false fun h2 => g (hiff.1 h2).1).symm
  · rintro s rfl
    rw [List.take_length]
def hit (q : Nat) (known : List Int) (f : List Int) (v : Nat) : Int := if (ptsM known.length).map (polyV q f) = known ∧ f.headD 0 = (v : Int) then 1 else 0
theorem hit_01 (q : Nat) (known f : List Int) (v : Nat) : 0 ≤ hit q known f v ∧ hit q known f v ≤ 1 := by
  unfold hit; split <;> omega
theorem Sm_01 {n : Nat} {f : Nat → Int} (h : ∀ i, 0 ≤ f i ∧ f i ≤ 1) : 0 ≤ Sm n f ∧ Sm n f ≤ n := by
  induction n with
  | zero => simp [Sm]
  | succ n ih =>
    have := h n
    simp only [Sm]
    omega
theorem Sm_pos {n : Nat} {f : Nat → Int} (h : ∀ i, 0 ≤ f i) {c : Nat} (hc : c < n) (h1 : 1 ≤ f c) : 1 ≤ Sm n f := by
  induction n with
  | zero => omega
  | succ n ih =>
    simp only [Sm]
    have h2 := h n
    have h3 : 0 ≤ Sm n f := Sm_nonneg fun i _ => h i
    rcases Nat.lt_or_ge c n with h' | h'
    · have := ih h'; omega
    · have : c = n := by omega
      subst this; omega
theorem n_upd {q : Nat} {known f : List Int} {F : Nat → Int} (hq : q ≤ 100) (hf : 1 ≤ f.length) (hd : ∀ d ∈ f, 0 ≤ d ∧ d < q) (hF : ∀ v, 0 ≤ F v ∧ F v ≤ 1000000) {b : Bool} (hb : b = decide ((ptsM known.length).map (polyV q f) = known)) :
    Rn (if b = true then ((ix f 0).bind fun x212 => (ix ((List.range q).map F) x212).bind fun x215 => some (((List.range q).map F).set x212.toNat (IntKind.i64.wrap (x215 + 1)))) else (some ((List.range q).map F))) (fun o => o = (List.range q).map fun v => F v + hit q known f v) := by
  subst hb
  refine rn_if (fun g => ?_) fun g => rn_some ?_
  · have g := of_decide_eq_true g
    cases f with
    | nil => simp at hf
    | cons d ds =>
      have hdb := hd d (List.mem_cons_self ..)
      obtain ⟨h, rfl⟩ := Int.eq_ofNat_of_zero_le hdb.1
      have hh : h < q := by omega
      refine rn_call (a := (h : Int)) rfl (rn_call (lam_ix hh) (rn_some ?_))
      have := hF h
      rw [wr64 (by omega) (by omega), Int.toNat_natCast]
      refine List.ext_getElem (by simp) fun i h1 h2 => ?_
      have hi : i < q := by simpa using h2
      rw [List.getElem_set]
      simp only [List.getElem_map, List.getElem_range]
      by_cases e : h = i
      · subst e
        rw [if_pos rfl]
        unfold hit
        rw [if_pos ⟨g, rfl⟩]
      · rw [if_neg e]
        unfold hit
        rw [if_neg fun h3 => e (by have := h3.2; simp at this; omega)]
        omega
  · have g := of_decide_eq_false g
    refine List.map_congr_left fun v _ => ?_
    unfold hit
    rw [if_neg fun h => g h.1]
    omega
noncomputable def scC (gr : Group) (t : Int) (known : List Int) : Bool := !decide (23 < gr.Q) && (!(!(okG gr && decide (7 < gr.Q))) && (!(!(decide (1 ≤ t) && decide (t ≤ 3))) && (!decide (7 < (known.length : Int)) && known.all (expB gr))))
def scV (q t : Nat) (known : List Int) : List Int := (List.range q).map fun v => Sm (q ^ t) fun j => hit q known (dg q t j) v
structure ScOk (gr : Group) (t : Int) (known : List Int) : Prop where
  q23 : gr.Q ≤ 23
  k : OkG gr
  q7 : 7 < gr.Q
  t : 1 ≤ t ∧ t ≤ 3
  l : known.length ≤ 7
  e : ∀ x ∈ known, 0 ≤ x ∧ x < gr.Q
theorem scOk_of {gr : Group} {t : Int} {known : List Int} (h : scC gr t known = true) : ScOk gr t known := by
  unfold scC at h
  simp only [Bool.and_eq_true, Bool.not_not, decide_eq_true_eq, Bool.not_eq_true', decide_eq_false_iff_not] at h
  obtain ⟨h1, ⟨h2, h3⟩, h4, h5, h6⟩ := h
  refine ⟨by omega, okG_t.1 h2, h3, h4, by omega, fun x hx => ?_⟩
  have := List.all_eq_true.1 h6 x hx
  simp [expB] at this; omega
theorem pow3_bd {q k : Nat} (hq : q ≤ 23) (hk : k ≤ 3) : q ^ k ≤ 12167 := by
  rcases (show k = 0 ∨ k = 1 ∨ k = 2 ∨ k = 3 by omega) with rfl | rfl | rfl | rfl
  · simp
  · simp; omega
  · rw [Nat.pow_two]; exact Nat.le_trans (Nat.mul_le_mul hq hq) (by decide)
  · rw [Nat.pow_succ, Nat.pow_two]; exact Nat.le_trans (Nat.mul_le_mul (Nat.mul_le_mul hq hq) hq) (by decide)
theorem bools5 : ∀ a b c d e : Bool, (!a && (!(!b) && (!(!c) && (!d && e)))) = (!(!b) && (!a && (!(!c) && (!d && e)))) := by decide
theorem n_SC_I (gr : Group) (t : Int) (known : List Int) : F_impl_ShareCounts gr t known = some (if scC gr t known = true then (scV gr.Q.toNat t.toNat known, true) else ([], false)) := by
  unfold F_impl_ShareCounts
  refine eq_of_rn (rn_then (ψ := fun b => b = !scC gr t known) ?_ ?_)
  · refine rn_ch fun h0 => rn_call (n_isSharing gr) (rn_ch fun h1 => ?_)
    have k : OkG gr := okG_t.1 (by simp at h1; exact h1.1)
    have hq := k.q
    have hp := k.p
    exact rn_call (n_within t 1 3) (rn_ch fun h2 => rn_ch fun h3 => rn_call (n_areExps (by omega) (by omega) known) (rn_some rfl))
  · rintro _ rfl
    cases hc : scC gr t known
    · exact rn_t rfl (rn_some rfl)
    obtain ⟨q23, k, q7, ⟨t1, t3⟩, hl, he⟩ := scOk_of hc
    refine rn_f rfl ?_
    obtain ⟨q, hqe⟩ : ∃ q : Nat, gr.Q = (q : Int) := ⟨gr.Q.toNat, by omega⟩
    obtain ⟨tn, rfl⟩ := Int.eq_ofNat_of_zero_le (show 0 ≤ t by omega)
    rw [hqe]
    simp only [Int.toNat_natCast]
    have hpow := pow3_bd (q := q) (k := tn) (by omega) (by omega)
    refine rn_gd (by omega) (rn_call rfl ?_)
    refine rn_then (ψ := fun a => a = ((q ^ tn : Nat) : Int)) (rn_cloop tn (fun i s => s = (((q ^ i : Nat) : Int), (i : Int))) rfl ?_ ?_) ?_
    · rintro i s hi rfl
      have hpi := pow3_bd (q := q) (k := i + 1) (by omega) (by omega)
      refine rn_t (by simp only [decide_eq_true_eq]; omega) (rn_some ?_)
      show (_, _) = (_, _)
      dsimp only
      have e : q ^ i * q = q ^ (i + 1) := (Nat.pow_succ q i).symm
      rw [mul_cast, e, wr64 (by omega) (by omega), wr64 (by omega) (by omega)]; rfl
    · rintro s rfl
      exact rn_f (by simp) (rn_some rfl)
    · rintro a rfl
      refine rn_then (ψ := fun s => s = scV q tn known) (rn_cloop (q ^ tn) (fun n s => s = ((List.range q).map (fun v => Sm n fun j => hit q known (dg q tn j) v), (n : Int))) ?_ ?_ ?_) fun s hs => rn_some (by rw [hs]; rfl)
      · show (_, _) = (_, _)
        congr 1
        refine List.ext_getElem (by simp) fun i h1 h2 => ?_
        simp [Sm]
      · rintro n s hn rfl
        refine rn_t (by simp only [decide_eq_true_eq]; omega) ?_
        refine rn_then (ψ := fun o => o = (List.range q).map (fun v => Sm (n + 1) fun j => hit q known (dg q tn j) v)) ?_ ?_
        · refine rn_then (ψ := fun f => f = dg q tn n) (rn_cloop tn (fun j s => ∃ m : Nat, s.1 ++ dg q (tn - j) m = dg q tn n ∧ s.2 = (m : Int) ∧ s.1.length = j ∧ m ≤ n) ⟨n, by simp, rfl, rfl, Nat.le_refl _⟩ ?_ ?_) ?_
          · rintro j ⟨f, r⟩ hj ⟨m, h1, h2, h3, h4⟩
            dsimp only at h1 h2 h3
            subst h2
            have hj2 : tn - j = (tn - (j + 1)) + 1 := by omega
            rw [hj2] at h1
            simp only [dg] at h1
            have hm2 : m / q ≤ m := Nat.div_le_self _ _
            have hm3 := Nat.mod_lt m (show 0 < q by omega)
            have hdd : (m : Int).tdiv (q : Int) = ((m / q : Nat) : Int) := tdiv_cast m q
            generalize hmq : m / q = mq at *
            refine rn_t (by simp only [decide_eq_true_eq]; omega) (rn_gd (by omega) (rn_gd (by dsimp only; omega) (rn_gd (by omega) (rn_some ⟨mq, ?_, ?_, ?_, by omega⟩))))
            · show (f ++ [(m : Int).tmod (q : Int)]) ++ _ = _
              rw [tmod_cast, List.append_assoc]; exact h1
            · show IntKind.i64.wrap ((m : Int).tdiv (q : Int)) = _
              rw [hdd, wr64 (by omega) (by omega)]
            · show (f ++ [_]).length = _
              simp [h3]
          · rintro ⟨f, r⟩ ⟨m, h1, h2, h3, h4⟩
            dsimp only at h1 h2 h3
            refine rn_f (by simp only [decide_eq_false_iff_not]; omega) (rn_some ?_)
            rw [Nat.sub_self] at h1
            show f = _
            simpa [dg] using h1
          · rintro f rfl
            have hdb := dg_bd (show 0 < q by omega) tn n
            refine rn_then (n_fits (V := polyV q (dg q tn n)) (E := F_impl_evalPoly (q : Int) (dg q tn n)) (fun i hi => n_evalPoly (by omega) (by omega) (by omega) (by omega) (fun c h => by have := hdb c h; omega) (by simp [dg_len]; omega)) (by omega)) fun b hb => ?_
            exact Rn_mono (n_upd (by omega) (by simp [dg_len]; omega) hdb (fun v => by have := Sm_01 (n := n) (f := fun j => hit q known (dg q tn j) v) (fun i => hit_01 _ _ _ _); omega) hb) fun o ho => ho
        · rintro o rfl
          refine rn_some ?_
          show (_, _) = (_, _)
          dsimp only
          rw [wr64 (by omega) (by omega)]; rfl
      · rintro s rfl
        exact rn_f (by simp) (rn_some rfl)
theorem n_SC_S (gr : Group) (t : Int) (known : List Int) : F_spec_ShareCounts gr t known = some (if scC gr t known = true then (scV gr.Q.toNat t.toNat known, true) else ([], false)) := by
  unfold F_spec_ShareCounts
  refine eq_of_rn (rn_then (ψ := fun b => b = !scC gr t known) ?_ ?_)
  · unfold scC
    rw [bools5]
    refine rn_call (n_sGroup gr) (rn_ch fun h1 => ?_)
    have k : OkG gr := okG_t.1 (by simp at h1; exact h1.1)
    have hq := k.q
    have hp := k.p
    exact rn_ch fun h0 => rn_call (n_l1In t 1 3) (rn_ch fun h2 => rn_ch fun h3 => rn_call (n_gExps (by omega) (by omega) known) (rn_some rfl))
  · rintro _ rfl
    cases hc : scC gr t known
    · exact rn_t rfl (rn_some rfl)
    obtain ⟨q23, k, q7, ⟨t1, t3⟩, hl, he⟩ := scOk_of hc
    refine rn_f rfl ?_
    obtain ⟨q, hqe⟩ : ∃ q : Nat, gr.Q = (q : Int) := ⟨gr.Q.toNat, by omega⟩
    obtain ⟨tn, rfl⟩ := Int.eq_ofNat_of_zero_le (show 0 ≤ t by omega)
    rw [hqe]
    simp only [Int.toNat_natCast]
    have hpow := pow3_bd (q := q) (k := tn) (by omega) (by omega)
    have hpos : 0 < q ^ tn := Nat.pow_pos (by omega)
    refine rn_gd (by omega) (rn_call rfl (rn_gd (by omega) (rn_call rfl ?_)))
    have ez : List.replicate tn (0 : Int) = (dg q tn 0).reverse := by
      have : ∀ k, dg q k 0 = List.replicate k 0 := by
        intro k
        induction k with
        | zero => rfl
        | succ k ih => simp [dg, ih, List.replicate_succ]
      rw [this, List.reverse_replicate]
    rw [ez]
    refine rn_then (ψ := fun s => s = scV q tn known) (rn_cloop (q ^ tn) (fun n s => s.1 = (List.range q).map (fun v => Sm n fun j => hit q known (dg q tn j).reverse v) ∧ s.2.2 = decide (n < q ^ tn) ∧ (n < q ^ tn → s.2.1 = (dg q tn n).reverse)) ⟨?_, by simp [hpos], fun _ => rfl⟩ ?_ ?_) fun s hs => rn_some (by rw [hs]; rfl)
    · refine List.ext_getElem (by simp) fun i h1 h2 => ?_
      simp [Sm]
    · rintro n ⟨s, r, more⟩ hn ⟨hI, hm, hr⟩
      dsimp only at hI hm hr
      have hr := hr hn
      subst hr
      subst hI
      refine rn_t (by rw [hm]; simpa using hn) ?_
      have hdb : ∀ d ∈ (dg q tn n).reverse, 0 ≤ d ∧ d < q := fun d hd => dg_bd (show 0 < q by omega) tn n d (List.mem_reverse.1 hd)
      refine rn_then (ψ := fun o => o = (List.range q).map (fun v => Sm (n + 1) fun j => hit q known (dg q tn j).reverse v)) ?_ ?_
      · refine rn_then (n_fits (V := polyV q (dg q tn n).reverse) (E := F_spec_yEval (q : Int) (dg q tn n).reverse) (fun i hi => n_yEval (by omega) (by omega) (by omega) (by omega) (fun c h => by have := hdb c h; omega) (by simp [dg_len]; omega)) (by omega)) fun b hb => ?_
        exact Rn_mono (n_upd (by omega) (by simp [dg_len]; omega) hdb (fun v => by have := Sm_01 (n := n) (f := fun j => hit q known (dg q tn j).reverse v) (fun i => hit_01 _ _ _ _); omega) hb) fun o ho => ho
      · rintro o rfl
        refine rn_then (n_sNextG (q := q) (by omega) (by omega) (dg q tn n) (dg_bd (show 0 < q by omega) tn n) (by simp [dg_len]; omega)) fun x hx => rn_some ⟨rfl, ?_, ?_⟩
        · by_cases h : n + 1 < q ^ tn
          · rw [(incD_dg (by omega) tn n hn).1 h] at hx
            dsimp only at hx
            rw [hx]; simp [h]
          · rw [(incD_dg (by omega) tn n hn).2 h] at hx
            dsimp only at hx
            show x.1 = _
            rw [hx]; simp [h]
        · intro h
          rw [(incD_dg (by omega) tn n hn).1 h] at hx
          dsimp only at hx
          show x.2 = _
          rw [hx]
    · rintro ⟨s, r, more⟩ ⟨hI, hm, hr⟩
      dsimp only at hI hm hr
      refine rn_f (by rw [hm]; simp) (rn_some ?_)
      show s = _
      rw [hI]
      exact List.map_congr_left fun v _ => Sm_rev (by omega) (by omega) fun l => hit q known l v
theorem hit_views {q k : Nat} (hq : 0 < q) (known : List Int) {v : Nat} (hv : v < q) : Sm (q ^ (k + 1)) (fun j => hit q known (dg q (k + 1) j) v) = Sm (q ^ k) (fun c => if shareV q k (v : Int) (ptsM known.length) c = known then (1 : Int) else 0) := by
  rw [Sm_dg hq k (fun l => hit q known l v)]
  refine Sm_congr fun c _ => ?_
  have := Sm_one (n := q) (fun b => if (ptsM known.length).map (polyV q ((b : Int) :: dg q k c)) = known then (1 : Int) else 0) hv
  refine Eq.trans (Sm_congr fun b _ => ?_) this
  unfold hit
  by_cases e : v = b
  · subst e
    rw [if_pos rfl]
    simp
  · rw [if_neg e, if_neg]
    intro h
    have := h.2
    simp at this
    omega
theorem ptsM_bd {m : Nat} (hm : m ≤ 7) : ∀ p ∈ ptsM m, 1 ≤ p ∧ p ≤ 7 := fun p hp => by
  simp only [ptsM, List.mem_map, List.mem_range] at hp
  obtain ⟨i, hi, rfl⟩ := hp
  omega
theorem counts_same {q k : Nat} (hpr : Pr q) (h7 : 7 < q) (h23 : q ≤ 23) (hk : k ≤ 2) {known : List Int} (hm : known.length ≤ k) {v v' : Nat} (hv : v < q) (hv' : v' < q) : Sm (q ^ (k + 1)) (fun j => hit q known (dg q (k + 1) j) v) = Sm (q ^ (k + 1)) (fun j => hit q known (dg q (k + 1) j) v') := by
  rw [hit_views (by omega) known hv, hit_views (by omega) known hv']
  exact secr (by omega) hk (by simpa [ptsM] using hm) (fun p hp => by
    have := ptsM_bd (m := known.length) (by omega) p hp
    exact inv_of hpr h7 h23 this.1 this.2) _ _ _
theorem counts_some {q k : Nat} (h7 : 7 < q) (hk : k ≤ 2) {known : List Int} (hm : known.length ≤ k) (he : ∀ x ∈ known, 0 ≤ x ∧ x < q) : ∃ v, v < q ∧ 1 ≤ Sm (q ^ (k + 1)) (fun j => hit q known (dg q (k + 1) j) v) := by
  suffices h : ∃ v c, v < q ∧ c < q ^ k ∧ shareV q k (v : Int) (ptsM known.length) c = known by
    obtain ⟨v, c, hv, hc, e⟩ := h
    refine ⟨v, hv, ?_⟩
    rw [hit_views (by omega) known hv]
    refine Sm_pos (c := c) (fun i => by split <;> omega) hc ?_
    rw [if_pos e]; exact Int.le_refl 1
  have hpos : 0 < q ^ k := Nat.pow_pos (by omega)
  match known, hm, he with
  | [], _, _ => exact ⟨0, 0, by omega, hpos, rfl⟩
  | [a], hm, he =>
    have ha := he a (by simp)
    refine ⟨a.toNat, 0, by omega, hpos, ?_⟩
    have e : ((a.toNat : Nat) : Int) = a := by omega
    have hk : k = 1 ∨ k = 2 := by simp at hm; omega
    rcases hk with rfl | rfl
    · show [polyV q [((a.toNat : Nat) : Int), ((0 % q : Nat) : Int)] (((0 : Nat) : Int) + 1)] = [a]
      rw [polyV2, e, Nat.zero_mod]
      simp [Int.emod_eq_of_lt ha.1 ha.2]
    · show [polyV q [((a.toNat : Nat) : Int), ((0 % q : Nat) : Int), ((0 / q % q : Nat) : Int)] (((0 : Nat) : Int) + 1)] = [a]
      rw [polyV3, e, Nat.zero_mod, Nat.zero_div, Nat.zero_mod]
      simp [Int.emod_eq_of_lt ha.1 ha.2]
  | [a, b], hm, he =>
    have ha := he a (by simp)
    have hb := he b (by simp)
    have hk : k = 2 := by simp at hm; omega
    subst hk
    have c1 := emod_rg (q := (q : Int)) (by omega) (b - a)
    have v1 := emod_rg (q := (q : Int)) (by omega) (2 * a - b)
    have ec : (((((b - a) % (q : Int)).toNat : Nat)) : Int) = (b - a) % (q : Int) := by omega
    have ev : (((((2 * a - b) % (q : Int)).toNat : Nat)) : Int) = (2 * a - b) % (q : Int) := by omega
    have hlt : ((b - a) % (q : Int)).toNat < q := by omega
    refine ⟨((2 * a - b) % (q : Int)).toNat, ((b - a) % (q : Int)).toNat, by omega, by rw [Nat.pow_two]; exact Nat.lt_of_lt_of_le hlt (Nat.le_mul_of_pos_left q (by omega)), ?_⟩
    have key : ∀ p : Int, polyV q [(2 * a - b) % (q : Int), (b - a) % (q : Int), 0] p = (2 * a - b + (b - a) * p) % (q : Int) := fun p => by
      rw [polyV3, Int.zero_mul, Int.zero_mul, Int.add_zero]
      exact add_cg (mod_cg _ _) (mul_cg (mod_cg _ _) rfl)
    have hdg : dg q 2 ((b - a) % (q : Int)).toNat = [(b - a) % (q : Int), 0] := by
      simp only [dg, Nat.mod_eq_of_lt hlt, Nat.div_eq_of_lt hlt, Nat.zero_mod, ec]
      rfl
    unfold shareV
    rw [hdg, ev]
    show [polyV q _ (((0 : Nat) : Int) + 1), polyV q _ (((1 : Nat) : Int) + 1)] = [a, b]
    rw [key, key]
    rw [show 2 * a - b + (b - a) * (((0 : Nat) : Int) + 1) = a by grind, show 2 * a - b + (b - a) * (((1 : Nat) : Int) + 1) = b by grind, Int.emod_eq_of_lt ha.1 ha.2, Int.emod_eq_of_lt hb.1 hb.2]
  | _ :: _ :: _ :: _, hm, _ => simp at hm; omega
theorem isT_uniq {l : List ViewCount} (hg : GoodC l) {k : Nat} (hk : k < l.length) {t : Int} (h : IsT l l[k].View t) : t = l[k].Times := by
  rcases h with ⟨i, x, h1, h2, h3⟩ | ⟨h1, _⟩
  · rcases Nat.lt_trichotomy i k with c | c | c
    · have := good_sorted hg k i x l[k] c h1 (List.getElem?_eq_getElem hk)
      rw [h2, lexC_self] at this
      cases this
    · subst c
      rw [List.getElem?_eq_getElem hk] at h1
      cases h1
      exact h3
    · have := good_sorted hg i k l[k] x c (List.getElem?_eq_getElem hk) h1
      rw [h2, lexC_self] at this
      cases this
  · exact absurd rfl (h1 _ (List.getElem_mem hk))
theorem sumT_pos {l : List ViewCount} (hg : GoodC l) (hne : l ≠ []) : 1 ≤ sumT l := by
  have h1 : ∀ x ∈ l, 1 ≤ x.Times := fun x hx => by
    obtain ⟨k, hk, rfl⟩ := List.mem_iff_getElem.1 hx
    exact (hg.2.1 k _ (List.getElem?_eq_getElem hk)).1
  cases l with
  | nil => exact absurd rfl hne
  | cons x l =>
    have h2 : 0 ≤ sumT l := sumT_nonneg fun y hy => by have := h1 y (List.mem_cons_of_mem _ hy); omega
    have h3 := h1 x (List.mem_cons_self ..)
    show 1 ≤ ((x :: l).map (·.Times)).sum
    rw [List.map_cons, List.sum_cons]
    have : 0 ≤ (l.map (·.Times)).sum := h2
    omega
theorem n_dist_self {v : List ViewCount} (hg : GoodC v) (hne : v ≠ []) (hv : ∀ x ∈ v, x.View.length ≤ 24) : F_impl_DistanceOf v v = some (0, 1, true) := by
  have hl := hg.1
  have hT := sumT_pos hg hne
  have hT2 := hg.2.2
  have hti : ∀ x ∈ v, 1 ≤ x.Times ∧ x.Times ≤ 1000000 := fun x hx => by
    obtain ⟨k, hk, rfl⟩ := List.mem_iff_getElem.1 hx
    have := hg.2.1 k _ (List.getElem?_eq_getElem hk)
    exact ⟨this.1, this.2.1⟩
  obtain ⟨b, hb, hbg⟩ := p_isCount v (by omega) (fun x hx => by have := hv x hx; omega)
  have hb1 : b = true := hbg.2 hg
  subst hb1
  have hlen : 0 < v.length := List.length_pos_iff.2 hne
  have htimes : ∀ k (hk : k < v.length), F_impl_timesOf v v[k].View = some v[k].Times := fun k hk => by
    obtain ⟨t, h1, h2⟩ := p_timesOf v v[k].View hg (by omega) (fun x hx => by have := hv x hx; omega) (by have := hv _ (List.getElem_mem hk); omega)
    rw [h1, isT_uniq hg hk h2]
  unfold F_impl_DistanceOf
  refine eq_of_rn (rn_then (ψ := fun b => b = false) ?_ ?_)
  · refine rn_call hb (rn_f rfl (rn_call hb (rn_f rfl (rn_f (by rw [beq_eq_false_iff_ne]; omega) (rn_some (by rw [beq_eq_false_iff_ne]; omega))))))
  · rintro _ rfl
    refine rn_f rfl (rn_call (p_total hl hti) (rn_call (p_total hl hti) ?_))
    have hTT : ∀ k (hk : k < v.length), 0 ≤ v[k].Times * sumT v ∧ v[k].Times * sumT v ≤ 1000000 * 1000000 := fun k hk => by
      have := hti _ (List.getElem_mem hk)
      exact ⟨Int.mul_nonneg (by omega) (by omega), Int.mul_le_mul (by omega) (by omega) (by omega) (by omega)⟩
    refine rn_then (ψ := fun s => s = 0) (rn_rloop (fun _ s => s = 0) rfl ?_ fun s h => h) ?_
    · rintro k s hk rfl
      have b := hTT k hk
      refine rn_ix hk (rn_call (htimes k hk) (rn_some ?_))
      rw [wr64 (n := v[k].Times * sumT v) (by omega) (by omega)]
      show IntKind.i64.wrap (0 + (if IntKind.i64.wrap (v[k].Times * sumT v - v[k].Times * sumT v) < IntKind.i64.wrap (0 - IntKind.i64.wrap (v[k].Times * sumT v - v[k].Times * sumT v)) then IntKind.i64.wrap (0 - IntKind.i64.wrap (v[k].Times * sumT v - v[k].Times * sumT v)) else IntKind.i64.wrap (v[k].Times * sumT v - v[k].Times * sumT v))) = 0
      rw [Int.sub_self, wr64 (n := 0) (by omega) (by omega), Int.sub_self, wr64 (n := 0) (by omega) (by omega)]
      simp [wr64]
    · rintro s rfl
      refine rn_then (ψ := fun s => s = 0) (rn_rloop (fun _ s => s = 0) rfl ?_ fun s h => h) ?_
      · rintro k s hk rfl
        have b := hti _ (List.getElem_mem hk)
        exact rn_then (ψ := fun s => s = 0) (rn_ix hk (rn_call (htimes k hk) (rn_f (by rw [beq_eq_false_iff_ne]; omega) (rn_some rfl)))) fun s hs => rn_some hs
      · rintro s rfl
        have hD : 1 ≤ 2 * sumT v * sumT v ∧ 2 * sumT v * sumT v ≤ 2000000 * 1000000 := by
          refine ⟨?_, Int.mul_le_mul (by omega) (by omega) (by omega) (by omega)⟩
          have := Int.mul_le_mul (show 1 ≤ 2 * sumT v by omega) hT (by omega) (by omega)
          omega
        have hr : F_impl_reduced 0 (2 * sumT v * sumT v) = some (0, 1) := by
          unfold F_impl_reduced
          generalize 2 * sumT v * sumT v = D at hD
          refine eq_of_rn (rn_then (ψ := fun x => x = D) (rn_wl (rn_t (by simp; omega) (rn_gd (by show D ≠ 0; omega) (rn_some ?_)))) ?_)
          · show Rn (wloop _ _) _
            refine rn_wl (rn_f ?_ (rn_some rfl))
            show ((0 : Int).tmod D != 0) = false
            simp
          · rintro x rfl
            refine rn_gd (by omega) (rn_gd (by omega) (rn_some ?_))
            rw [Int.zero_tdiv, Int.tdiv_self (by omega), wr64 (by omega) (by omega), wr64 (by omega) (by omega)]
        rw [wr64 (n := 2 * sumT v) (by omega) (by omega), wr64 (by omega) (by omega)]
        exact rn_call hr (rn_some rfl)
theorem n_qInts {l : List Int} : F_laws_qInts l l = some true := by
  unfold F_laws_qInts
  rw [if_neg (by simp)]
  refine (congrArg (fun o => Option.bind o _) (?_ : _ = some (Sum.inl ()))).trans rfl
  refine eq_of_rn (rn_rloop (fun _ _ => True) trivial (fun k s hk _ => rn_ix hk (rn_ix hk (rn_f (by simp) (rn_some trivial)))) fun s _ => rfl)
theorem views_same {gr : Group} {t s s' : Int} {who : List Int} (hg : goodS gr t s who) (hlt : (who.length : Int) < t) (w : List Int) :
    cnt (oneL ((List.range (gr.Q.toNat ^ (t.toNat - 1))).map (shareV gr.Q.toNat (t.toNat - 1) s who))) w = cnt (oneL ((List.range (gr.Q.toNat ^ (t.toNat - 1))).map (shareV gr.Q.toNat (t.toNat - 1) s' who))) w := by
  obtain ⟨q23, k, q7, ⟨t1, t3⟩, he, hw, hw2, _⟩ := hg
  rw [cnt_range, cnt_range]
  refine secr (by omega) (by omega) (by omega) (fun p hp => ?_) _ _ _
  have := List.all_eq_true.1 hw2 p hp
  simp only [trB, Bool.and_eq_true, decide_eq_true_eq] at this
  exact inv_of k.pq (by omega) (by omega) this.1 this.2
theorem CI_ex {v : Nat → List Int} (hv : ∀ i, (v i).length ≤ 24) : ∀ n : Nat, n ≤ 1000000 → ∃ s, CI v n s
  | 0, _ => ⟨[], CI_zero v⟩
  | n + 1, h => by
    obtain ⟨s, hs⟩ := CI_ex hv n (by omega)
    obtain ⟨s2, _, h2⟩ := CI_step hs (by omega) (hv n)
    exact ⟨s2, h2⟩
theorem law15 (a b : List Int) (h0 : ∀ x ∈ a, 0 ≤ x ∧ x ≤ 255) (h1 : ∀ x ∈ b, 0 ≤ x ∧ x ≤ 255) (hl0 : a.length ≤ 1048576) (hl1 : b.length ≤ 1048576) : F_laws_FnShareSecrecy a b = some true := by
  unfold F_laws_FnShareSecrecy
  refine eq_of_rn (rn_if (fun _ => rn_some rfl) fun _ => ?_)
  refine rn_then (n_DrawShareCounts ⟨h0, hl0⟩) fun z3 ⟨g3, l3⟩ => ?_
  refine rn_call (n_SC_I z3.1 z3.2.1 z3.2.2) (rn_call (n_SC_S z3.1 z3.2.1 z3.2.2) ?_)
  refine rn_then (n_DrawShareViews ⟨h1, hl1⟩) fun z9 ⟨g9, b1, b2, l9⟩ => ?_
  obtain ⟨r, c, r1, r2, rl, rv⟩ := Res_eq (n_shareI z9.1 z9.2.1 z9.2.2.1 z9.2.2.2 (by omega)) (n_shareS z9.1 z9.2.1 z9.2.2.1 z9.2.2.2 (by omega))
  have hres : Res (goodS z9.1 z9.2.1 z9.2.2.1 z9.2.2.2) (cnt (oneL ((List.range (z9.1.Q.toNat ^ (z9.2.1.toNat - 1))).map (shareV z9.1.Q.toNat (z9.2.1.toNat - 1) z9.2.2.1 z9.2.2.2)))) (r, c) := by
    obtain ⟨x, hx, hx2⟩ := n_shareI z9.1 z9.2.1 z9.2.2.1 z9.2.2.2 (by omega)
    rw [r1] at hx
    cases hx
    exact hx2
  refine rn_call r1 (rn_call r2 ?_)
  refine rn_then (ψ := fun v => v = false) ?_ ?_
  · exact rn_f (by simp) (rn_call n_qInts (rn_f rfl (rn_f (by simp) (rn_some (by simp)))))
  rintro _ rfl
  refine rn_f rfl ?_
  refine rn_then (ψ := fun v => v = .inl ()) (rn_rloop (fun _ _ => True) trivial ?_ fun s _ => rfl) ?_
  · rintro k s hk _
    refine rn_then (ψ := fun v => v = false) (rn_ix hk (rn_ix hk (rn_call n_qInts (rn_f rfl (rn_some (by simp)))))) ?_
    rintro _ rfl
    exact rn_f rfl (rn_some trivial)
  rintro _ rfl
  refine rn_then (ψ := fun v => v = (c && decide ((z9.2.2.2.length : Int) < z9.2.1))) ?_ ?_
  · cases c
    · exact rn_f rfl (rn_some rfl)
    · exact rn_t rfl (rn_some (by simp))
  rintro _ rfl
  refine rn_then (ψ := fun v => v = .inl ()) ?_ ?_
  · refine rn_if (fun g => ?_) fun g => rn_some rfl
    have hc : c = true := by simp at g; exact g.1
    have hlt : (z9.2.2.2.length : Int) < z9.2.1 := by simp at g; exact g.2
    subst hc
    rcases hres with ⟨_, e⟩ | ⟨hgood, _, hcan, hrl, hrv⟩
    · cases e
    dsimp only at hcan hrl hrv
    obtain ⟨q23, k, q7, ⟨t1, t3⟩, he, hw, hw2, hw3⟩ := id hgood
    have hs := exp_bd he
    have hs1 : IntKind.i64.wrap (z9.2.2.1 + 1) = z9.2.2.1 + 1 := wr64 (by omega) (by omega)
    have hs2 : (z9.2.2.1 + 1).tmod z9.1.Q = (z9.2.2.1 + 1) % z9.1.Q := Int.tmod_eq_emod_of_nonneg (by omega)
    have hb := emod_rg (q := z9.1.Q) (by omega) (z9.2.2.1 + 1)
    rw [hs1, hs2]
    refine rn_gd (by omega) ?_
    refine rn_then (n_shareI z9.1 z9.2.1 ((z9.2.2.1 + 1) % z9.1.Q) z9.2.2.2 (by omega)) ?_
    rintro ⟨u, d⟩ hu
    have hgood2 : goodS z9.1 z9.2.1 ((z9.2.2.1 + 1) % z9.1.Q) z9.2.2.2 := ⟨q23, k, q7, ⟨t1, t3⟩, by simp only [expB, Bool.and_eq_true, decide_eq_true_eq]; omega, hw, hw2, hw3⟩
    rcases hu with ⟨hu, _⟩ | ⟨_, hd, hcan2, _, _⟩
    · exact absurd hgood2 hu
    dsimp only at hd hcan2
    subst hd
    have hur : r = u := canon_uniq hcan ⟨hcan2.s, hcan2.p, fun w => (hcan2.c w).trans (views_same hgood2 hlt w)⟩
    subst hur
    obtain ⟨kk, hkk⟩ : ∃ kk : Nat, z9.2.1.toNat - 1 = kk := ⟨_, rfl⟩
    have hpow := pow_bd (q := z9.1.Q.toNat) (k := z9.2.1.toNat - 1) (by omega) (by omega)
    have hpos : 0 < z9.1.Q.toNat ^ (z9.2.1.toNat - 1) := Nat.pow_pos (by omega)
    have hcnt : 1 ≤ cnt r (shareV z9.1.Q.toNat (z9.2.1.toNat - 1) z9.2.2.1 z9.2.2.2 0) := by
      rw [hcan.c, cnt_range]
      refine Sm_pos (c := 0) (fun i => by split <;> omega) hpos ?_
      rw [if_pos rfl]; exact Int.le_refl 1
    have hne : r ≠ [] := fun e => by
      rw [e] at hcnt
      simp [cnt] at hcnt
    have hsum : sumT r ≤ 1000000 := by
      obtain ⟨x, hx⟩ := CI_ex (v := shareV z9.1.Q.toNat (z9.2.1.toNat - 1) z9.2.2.1 z9.2.2.2) (fun i => by simp [shareV]; omega) (z9.1.Q.toNat ^ (z9.2.1.toNat - 1)) (by omega)
      have := canon_uniq hcan hx.c
      subst this
      rw [hx.t]; omega
    have hgc : GoodC r := good_of_canon hcan hrl hrv hsum
    refine rn_call (n_dist_self hgc hne hrv) ?_
    refine rn_then (ψ := fun v => v = false) (rn_f rfl (rn_f rfl (rn_f (by simp) (rn_some (by simp))))) ?_
    rintro _ rfl
    exact rn_f rfl (rn_some rfl)
  rintro _ rfl
  rw [Sum.elim_inl]
  cases hsc : scC z3.1 z3.2.1 z3.2.2
  · refine rn_then (ψ := fun v => v = true) ?_ ?_
    · exact rn_t rfl (rn_some rfl)
    rintro _ rfl
    exact rn_t rfl (rn_some rfl)
  obtain ⟨q23, k, q7, ⟨t1, t3⟩, hl, he⟩ := scOk_of hsc
  refine rn_then (ψ := fun v => v = decide (z3.2.1 ≤ (z3.2.2.length : Int))) ?_ ?_
  · exact rn_f rfl (rn_some rfl)
  rintro _ rfl
  refine rn_if (fun _ => rn_some rfl) fun g => ?_
  have g : (z3.2.2.length : Int) < z3.2.1 := by simp at g; omega
  obtain ⟨kk, hkk⟩ : ∃ kk : Nat, z3.2.1.toNat = kk + 1 := ⟨z3.2.1.toNat - 1, by omega⟩
  have hsv : (if true = true then (scV z3.1.Q.toNat z3.2.1.toNat z3.2.2, true) else ([], false)).1 = (List.range z3.1.Q.toNat).map fun v => Sm (z3.1.Q.toNat ^ (kk + 1)) fun j => hit z3.1.Q.toNat z3.2.2 (dg z3.1.Q.toNat (kk + 1) j) v := by
    rw [if_pos rfl, hkk]; rfl
  rw [hsv]
  have hsame : ∀ v v', v < z3.1.Q.toNat → v' < z3.1.Q.toNat → _ := fun v v' h h' => counts_same (q := z3.1.Q.toNat) (k := kk) k.pq (by omega) (by omega) (by omega) (known := z3.2.2) (by omega) h h'
  obtain ⟨v0, hv0, hv1⟩ := counts_some (q := z3.1.Q.toNat) (k := kk) (known := z3.2.2) (by omega) (by omega) (by omega) (fun x hx => by have := he x hx; omega)
  refine rn_then (ψ := fun v => v = .inl ()) (rn_rloop (fun _ _ => True) trivial ?_ fun s _ => rfl) ?_
  · rintro i s hi _
    have hi : i < z3.1.Q.toNat := by simpa using hi
    refine rn_call (lam_ix hi) (rn_then (ψ := fun v => v = false) (rn_call (lam_ix (k := 0) (by omega)) ?_) ?_)
    · have e1 := hsame i 0 hi (by omega)
      have e2 := hsame i v0 hi hv0
      refine rn_f (by rw [bne_eq_false_iff_eq]; exact e1) (rn_some ?_)
      rw [beq_eq_false_iff_ne]
      omega
    · rintro _ rfl
      exact rn_f rfl (rn_some trivial)
  · rintro _ rfl
    exact rn_some rfl
end Go.Pm
