/-
  FnThresholds: plain laws.
  No condition.
-/
import Derived.Test.YtpkjdjnakplnjaaGreatY29
namespace Go.Pm
open Go.Am
set_option linter.unusedVariables false
set_option linter.unusedSimpArgs false
theorem zwe {gr : Group} {f pts ws : List Int} (R : RtOk gr f pts) (hw : ∀ w ∈ ws, E9 gr.Q w) {r : Int} (hr : 0 ≤ r) : cbV gr (f.map (zaf gr gr.G)) ⟨zaf gr gr.G r, zbq gr [zaf gr gr.G (f.headD 0), zaf gr (zaf gr gr.G (f.headD 0)) r]⟩ (rtL gr (zaf gr gr.G r) f pts ws) = (zaf gr gr.G (f.headD 0), true) := by
 have k := R.k
 have hq := k.q
 have hG := zgc k
 have hA := zek k hG r
 have hn := R.n
 have hl := R.l
 have hlen : (rtL gr (zaf gr gr.G r) f pts ws).length = pts.length := by simp [rtL]
 obtain ⟨c, g, rfl⟩ : ∃ c g, f = c :: g := by
  cases f with
  | nil => simp at hn
  | cons c g => exact ⟨c, g, rfl⟩
 have hc := R.fe c (by simp)
 show cbV gr ((c :: g).map (zaf gr gr.G)) ⟨zaf gr gr.G r, zbq gr [zaf gr gr.G c, zaf gr (zaf gr gr.G c) r]⟩ _ = (zaf gr gr.G c, true)
 have hcs : ((c :: g).map (zaf gr gr.G)).all (zam gr) = true := List.all_eq_true.2 fun y hy => by
  obtain ⟨z, _, rfl⟩ := List.mem_map.1 hy; exact zek k hG _
 have hB : zam gr (zbq gr [zaf gr gr.G c, zaf gr (zaf gr gr.G c) r]) = true := zmT k (zek k hG _) (zek k (zek k hG _) _)
 have hgd := zv8 (ws := ws) R hA hw pts.length (Nat.le_refl _)
 have hd : (dcC gr ((c :: g).map (zaf gr gr.G)) ⟨zaf gr gr.G r, zbq gr [zaf gr gr.G c, zaf gr (zaf gr gr.G c) r]⟩ (rtL gr (zaf gr gr.G r) (c :: g) pts ws) && decide (((c :: g).map (zaf gr gr.G)).length ≤ (gdI gr ((c :: g).map (zaf gr gr.G)) (zaf gr gr.G r) (rtL gr (zaf gr gr.G r) (c :: g) pts ws) (rtL gr (zaf gr gr.G r) (c :: g) pts ws).length).1.length)) = true := by
  unfold dcC
  rw [hlen, hgd, hcs, hA, hB]
  simp only [inB, List.length_map, List.length_range, Bool.and_true, Bool.and_eq_true, decide_eq_true_eq]
  exact ⟨⟨⟨by omega, by omega⟩, trivial, by omega⟩, by omega⟩
 unfold cbV
 rw [if_pos hd]
 dsimp only
 rw [hlen, hgd]
 have ht : ((List.range pts.length).map fun (i : Nat) => (i : Int)).take ((c :: g).map (zaf gr gr.G)).length = (List.range pts.length).map fun (i : Nat) => (i : Int) := List.take_of_length_le (by simp only [List.length_map, List.length_range]; omega)
 rw [ht]
 have hX : cbX (rtL gr (zaf gr gr.G r) (c :: g) pts ws) ((List.range pts.length).map fun (i : Nat) => (i : Int)) = pts := by
  refine List.ext_getElem (by simp [cbX]) fun i h1 h2 => ?_
  simp only [cbX, List.getElem_map, List.getElem_range, Int.toNat_natCast]
  rw [zm0 h2]; rfl
 have hY : cbY (rtL gr (zaf gr gr.G r) (c :: g) pts ws) ((List.range pts.length).map fun (i : Nat) => (i : Int)) = pts.map fun p => zaf gr (zaf gr gr.G r) (zav gr.Q (c :: g) p) := by
  refine List.ext_getElem (by simp [cbY]) fun i h1 h2 => ?_
  simp only [cbY, List.getElem_map, List.getElem_range, Int.toNat_natCast]
  rw [zm0 (by simpa using h2)]; rfl
 rw [hX, hY, List.length_map, ← hl, zyE R hA, zww, Int.emod_eq_of_lt hc.1 hc.2]
 rw [zeF k hG hr hc.1, zeF k hG hc.1 hr]
 have e1 : zaf gr (zaf gr gr.G (r * c)) (-1) = zaf gr gr.G ((0 - r * c) % gr.Q) := by
  rw [zrI k hG (Int.mul_nonneg hr hc.1)]; exact zfE _ (zev _ _).symm
 have n1 := Int.mul_nonneg hc.1 hr
 have n2 := Int.emod_nonneg (0 - r * c) (show gr.Q ≠ 0 by omega)
 have h0 := hc.1
 rw [e1, ziP k hG h0 n1, ziP k hG (by omega) n2]
 congr 1
 refine zfE _ ?_
 rw [Int.add_emod, zev, ← Int.add_emod]
 congr 1
 grind
theorem zCp (gr : Group) (f : List Int) (hl : f.length ≤ 1000) (n : Int) : ∃ d t, zd4 gr f n = some (d, t) ∧ zd8 gr f n = some (d, t) ∧ (t = true → OkG gr ∧ 7 < gr.Q ∧ (1 ≤ n ∧ n ≤ 7) ∧ (1 ≤ f.length ∧ (f.length : Int) ≤ n) ∧ (∀ c ∈ f, E9 gr.Q c) ∧ d = dlV gr f n.toNat) := by
 unfold zd4 zd8
 rw [zgv, zgM, zer, zer, zf9, zf9]
 cases h1 : (okG gr && decide (7 < gr.Q))
 ·exact ⟨⟨[], []⟩, false, rfl, rfl, fun h => by cases h⟩
 obtain ⟨k, hq⟩ := Bool.and_eq_true_iff.1 h1
 have k := zgg.1 k
 have hq := of_decide_eq_true hq
 have hp := k.p
 have hq2 := k.q
 rw [zhT (by omega) (by omega), zln (by omega) (by omega)]
 cases h2 : (decide (1 ≤ n) && decide (n ≤ 7))
 ·exact ⟨⟨[], []⟩, false, rfl, rfl, fun h => by cases h⟩
 cases h3 : (decide (1 ≤ (f.length : Int)) && decide ((f.length : Int) ≤ n))
 ·exact ⟨⟨[], []⟩, false, rfl, rfl, fun h => by cases h⟩
 cases h4 : f.all (zdo gr)
 ·exact ⟨⟨[], []⟩, false, rfl, rfl, fun h => by cases h⟩
 simp only [Bool.and_eq_true, decide_eq_true_eq] at h2 h3
 obtain ⟨N, hN⟩ := Int.eq_ofNat_of_zero_le (show 0 ≤ n by omega)
 have he := zF8 h4
 obtain ⟨d1, d2⟩ := zrN k (f := f) (fun x hx => ⟨(he x hx).1, by have := (he x hx).2; omega⟩) hl (n := N) (by omega)
 subst hN
 refine ⟨dlV gr f N, true, ?_, ?_, fun _ => ⟨k, hq, h2, by omega, he, by rw [Int.toNat_natCast]⟩⟩
 ·simp [d1]
 simp [d2]
theorem zHJ (gr : Group) (cm : List Int) (cs : List Cipher) (l : List (List Partial)) (hb : ∀ p ∈ l, bdP p ∧ p.length ≤ 1000) (hl : l.length ≤ 1000) : ∃ m t, zd2 gr cm cs l = some (m, t) ∧ zd6 gr cm cs l = some (m, t) := by
 unfold zd2 zd6
 rw [zgv, zgM]
 cases h1 : (okG gr && decide (7 < gr.Q))
 ·exact ⟨[], false, rfl, rfl⟩
 obtain ⟨k, hq⟩ := Bool.and_eq_true_iff.1 h1
 have k := zgg.1 k
 have hq := of_decide_eq_true hq
 rw [(zni k cm).1, (zni k cm).2, zqj k, zwO k]
 cases h2 : (inB 1 7 cm.length && cm.all (zam gr))
 ·exact ⟨[], false, rfl, rfl⟩
 cases h3 : (decide (cs.length ≤ 24) && cs.all (ze7 gr))
 ·exact ⟨[], false, rfl, rfl⟩
 cases h4 : ((l.length : Int) != (cs.length : Int))
 ·have h4 : l.length = cs.length := by
   simp at h4; omega
  have hcg : ∀ (E : Group → List Int → Cipher → List Partial → Option (Int × Bool)), (∀ c p, p ∈ l → E gr cm c p = some (cbV gr cm c p)) → Rn ((zaq (σ := (List Int)) (fun i15 s14 =>
   (ix cs i15).bind fun x21 =>
   (ix l i15).bind fun x22 =>
   (E gr cm x21 x22).bind fun z23 =>
   if (!z23.2) = true then (
   some (.out (.inr ([], false)))) else (
   gd ((s14.length + 1) * 8 ≤ 140737488355328 ∧ s14.length + 1 ≤ 4611686018427387904) <|
   some (.go (s14 ++ [z23.1])))) (fun s14 => .inl s14) (cs.length) 0 [] : Option ((List Int) ⊕ (List Int × Bool))).bind (Sum.elim (fun x13 =>
   some (x13, true)) some)) (fun r => r = if (List.range cs.length).all (fun i => (cbV gr cm (cs.getD i ⟨0, 0⟩) (l.getD i [])).2) = true then ((List.range cs.length).map (fun i => (cbV gr cm (cs.getD i ⟨0, 0⟩) (l.getD i [])).1), true) else ([], false)) := fun E hE => by
   refine zad (ψ := fun v => v = if (List.range cs.length).all (fun i => (cbV gr cm (cs.getD i ⟨0, 0⟩) (l.getD i [])).2) = true then .inl ((List.range cs.length).map (fun i => (cbV gr cm (cs.getD i ⟨0, 0⟩) (l.getD i [])).1)) else .inr ([], false)) (zaB (fun i s => (List.range i).all (fun i => (cbV gr cm (cs.getD i ⟨0, 0⟩) (l.getD i [])).2) = true ∧ s = (List.range i).map (fun i => (cbV gr cm (cs.getD i ⟨0, 0⟩) (l.getD i [])).1)) ⟨rfl, rfl⟩ ?_ ?_) ?_
   ·rintro i s hi ⟨ha, rfl⟩
    have hi2 : i < l.length := by omega
    refine zaH hi (zaH hi2 (zag (hE _ _ (List.getElem_mem hi2)) (zao (fun g => zab ?_) fun g => zas (by simp; omega) (zab ?_))))
    ·have g : (cbV gr cm (cs.getD i ⟨0, 0⟩) (l.getD i [])).2 = false := by rw [zbF hi, zbF hi2]; simpa using g
     have : (List.range cs.length).all (fun i => (cbV gr cm (cs.getD i ⟨0, 0⟩) (l.getD i [])).2) = false := List.all_eq_false.2 ⟨i, List.mem_range.2 hi, by rw [g]; simp⟩
     show _ = _
     rw [this]; rfl
    ·have g : (cbV gr cm (cs.getD i ⟨0, 0⟩) (l.getD i [])).2 = true := by rw [zbF hi, zbF hi2]; simpa using g
     refine ⟨by rw [List.range_succ, List.all_append, ha]; simp only [List.all_cons, List.all_nil, g, Bool.and_self], ?_⟩
     rw [List.range_succ, List.map_append]
     simp only [List.map_cons, List.map_nil, zbF hi, zbF hi2]
   ·rintro s ⟨ha, rfl⟩
    rw [if_pos ha]
   ·rintro v rfl
    split
    ·exact zab rfl
    ·exact zab rfl
  have e1 := zaw (hcg (fun a b c d => zbd a b c d) fun c p hp => (zsB k hq cm c (hb p hp).1 (hb p hp).2).1)
  have e2 := zaw (hcg (fun a b c d => zb7 a b c d) fun c p hp => (zsB k hq cm c (hb p hp).1 (hb p hp).2).2)
  generalize (if (List.range cs.length).all (fun i => (cbV gr cm (cs.getD i ⟨0, 0⟩) (l.getD i [])).2) = true then ((List.range cs.length).map (fun i => (cbV gr cm (cs.getD i ⟨0, 0⟩) (l.getD i [])).1), true) else ([], false)) = v at e1 e2
  obtain ⟨m, t⟩ := v
  exact ⟨m, t, e1, e2⟩
 exact ⟨[], false, rfl, rfl⟩
theorem zw4 {gr : Group} (k : OkG gr) {y m r : Int} (hy : zam gr y = true) (hm : zam gr m = true) (hr : E9 gr.Q r) : zcY gr y m r = some (⟨zaf gr gr.G r, zbq gr [m, zaf gr y r]⟩, true) := by
 have hp := k.p
 have hq := k.q
 unfold zcY
 rw [zpl, zgg.2 k, zmq k, zrk (by omega) (by omega), (zuj k hy hm r).1]
 have : zdo gr r = true := zgY.2 hr
 simp [hy, hm, this]
theorem zws {gr : Group} {f pts ws : List Int} (R : RtOk gr f pts) {c : Cipher} (hc : ze7 gr c = true) (hw : ws.length = pts.length ∧ ∀ w ∈ ws, E9 gr.Q w) : zdi gr c pts (pts.map (zav gr.Q f)) ws = some (rtL gr c.A f pts ws, true) := by
 have k := R.k
 have hp := k.p
 have hq := k.q
 have hc2 := hc
 simp only [ze7, Bool.and_eq_true] at hc2
 have hn := R.n
 have hl := R.l
 have hs : (okG gr && decide (7 < gr.Q)) = true := by rw [zgg.2 k]; simpa using R.q
 have ht : (pts.all trB && zgN pts) = true := by
  rw [Bool.and_eq_true]
  refine ⟨List.all_eq_true.2 fun x hx => ?_, by simpa [zgN] using R.d⟩
  have := R.p x hx
  simp only [trB, Bool.and_eq_true, decide_eq_true_eq]; omega
 have hsh : ∀ y ∈ pts.map (zav gr.Q f), E9 gr.Q y := fun y hy => by
  obtain ⟨p, _, rfl⟩ := List.mem_map.1 hy
  exact zfY (by omega) f p
 have e1 : (((pts.map (zav gr.Q f)).length : Int) != (pts.length : Int)) = false := by simp
 have e2 : ((ws.length : Int) != (pts.length : Int)) = false := by rw [hw.1]; simp
 unfold zdi
 rw [zgv, hs, zhP k, zkw pts (by omega), ht, e1, e2, zhT (by omega) (by omega), zhT (by omega) (by omega), List.all_eq_true.2 (fun z hz => zgY.2 (hsh z hz)), List.all_eq_true.2 (fun z hz => zgY.2 (hw.2 z hz))]
 have hAB : (zam gr c.A && zam gr c.B) = true := by rw [hc2.1, hc2.2]; rfl
 rw [hAB]
 refine zaw (zad (ψ := (· = false)) (zab rfl) ?_)
 rintro _ rfl
 refine zbH rfl (zag (zyv (f := fun i => zp1 gr c.A (pts.getD i 0) (zav gr.Q f (pts.getD i 0)) (ws.getD i 0)) fun i s hi hs => ?_) (zab rfl))
 have h2 : i < (pts.map (zav gr.Q f)).length := by simpa using hi
 have h3 : i < ws.length := by omega
 rw [zcF hi, Option.bind_some, zcF h2, Option.bind_some, zcF h3, Option.bind_some, zud k hc2.1 (zeS hsh h2) (zeS hw.2 h3), Option.bind_some, zdN (by omega), zbF hi, zbF h3, List.getElem_map]
theorem zqk {gr : Group} (k : OkG gr) {r e0 : Int} (hr : 0 ≤ r) (he : 0 ≤ e0) {sh : List Int} {lam : Nat → Int} (hs : ∀ s ∈ sh, 0 ≤ s) (hl : ∀ j, 0 ≤ lam j) : ∀ n, n ≤ sh.length → zkn gr (zaf gr gr.G r) (zaf gr gr.G e0) sh lam n = zaf gr gr.G (e0 + r * smL (fun j => sh.getD j 0 * lam (j + 1)) n) ∧ 0 ≤ smL (fun j => sh.getD j 0 * lam (j + 1)) n
 | 0, _ => ⟨by show zaf gr gr.G e0 = zaf gr gr.G (e0 + r * 0); rw [Int.mul_zero, Int.add_zero], Int.le_refl 0⟩
 | n + 1, h => by
  obtain ⟨h1, h2⟩ := zqk k hr he hs hl n (by omega)
  have hG := zgc k
  have hsn : 0 ≤ sh.getD n 0 := by rw [zbF (show n < sh.length by omega)]; exact zeS hs (by omega)
  have hm := Int.mul_nonneg hsn (hl (n + 1))
  have hrm := Int.mul_nonneg hr h2
  refine ⟨?_, by show 0 ≤ smL (fun j => sh.getD j 0 * lam (j + 1)) n + sh.getD n 0 * lam (n + 1); omega⟩
  show zbq gr [zkn gr (zaf gr gr.G r) (zaf gr gr.G e0) sh lam n, zaf gr (zaf gr gr.G r) (sh.getD n 0 * lam (n + 1))] = zaf gr gr.G (e0 + r * (smL (fun j => sh.getD j 0 * lam (j + 1)) n + sh.getD n 0 * lam (n + 1)))
  rw [h1, zeF k hG hr hm, ziP k hG (by omega) (Int.mul_nonneg hr hm), Int.mul_add, Int.add_assoc]
theorem zom (f : Nat → Int) : ∀ n, smL f (n + 1) = f 0 + smL (fun j => f (j + 1)) n
 | 0 => by show 0 + f 0 = f 0 + 0; omega
 | n + 1 => by
  show smL f (n + 1) + f (n + 1) = f 0 + (smL (fun j => f (j + 1)) n + f (n + 1))
  rw [zom f n]; omega
theorem zyu {gr : Group} (k : OkG gr) (hq7 : 7 < gr.Q) {c0 : Int} {g who : List Int} (hf : ∀ c ∈ c0 :: g, E9 gr.Q c) (hg : g.length ≤ 6) {r : Int} (hr : 0 ≤ r) (hw : ∀ x ∈ who, 2 ≤ x ∧ x ≤ 7) (hd : who.Nodup) (hl : who.length = g.length) : zbD gr ⟨zaf gr gr.G r, zbq gr [zaf gr gr.G c0, zaf gr (zaf gr gr.G c0) r]⟩ (zaf gr gr.G c0) who (who.map (zav gr.Q (c0 :: g))) 1 = some (zaf gr (zaf gr gr.G r) (zav gr.Q (c0 :: g) 1), true) := by
 have hq := k.q
 have hp := k.p
 have hG := zgc k
 have hc := hf c0 (by simp)
 have hb := fun p => zfY (q := gr.Q) (by omega) (c0 :: g) p
 have hA := zek k hG r
 have hM := zek k hG c0
 have hB : zam gr (zbq gr [zaf gr gr.G c0, zaf gr (zaf gr gr.G c0) r]) = true := zmT k hM (zek k hM _)
 have hC : znO gr ⟨zaf gr gr.G r, zbq gr [zaf gr gr.G c0, zaf gr (zaf gr gr.G c0) r]⟩ (zaf gr gr.G c0) who (who.map (zav gr.Q (c0 :: g))) 1 = true := by
  have h1 : (okG gr && decide (7 < gr.Q)) = true := by rw [zgg.2 k]; simpa using hq7
  have h2 : who.all trB = true := List.all_eq_true.2 fun x hx => by
   have := hw x hx
   simp only [trB, Bool.and_eq_true, decide_eq_true_eq]; omega
  have h3 : zgN who = true := by simpa [zgN] using hd
  have h4 : (who.map (zav gr.Q (c0 :: g))).all (zdo gr) = true := List.all_eq_true.2 fun y hy => by
   obtain ⟨p, _, rfl⟩ := List.mem_map.1 hy
   exact zgY.2 (hb p)
  have h5 : who.contains 1 = false := by
   rw [List.contains_eq_mem]
   exact decide_eq_false fun h => by have := hw 1 h; omega
  have h6 : (((who.map (zav gr.Q (c0 :: g))).length : Int) != (who.length : Int)) = false := by simp
  have h7 : trB 1 = true := by decide
  unfold znO
  rw [h1, h2, h3, h4, h5, h6, h7, hA, hB, hM]
  rfl
 rw [zzE _ _ _ _ _ _ (by omega), if_pos hC]
 have S := zpm (gr := gr) hC
 have L := S.lg (by omega)
 have hlam := fun j => (zpD (q := gr.Q) (by omega) ([0] ++ who) 1 j).1
 have n1 := Int.mul_nonneg hc.1 hr
 have n2 := Int.emod_nonneg (0 - c0) (show gr.Q ≠ 0 by omega)
 have h0 := hc.1
 have e1 : zaf gr (zaf gr gr.G c0) (-1) = zaf gr gr.G ((0 - c0) % gr.Q) := by
  rw [zrI k hG hc.1]; exact zfE _ (zev _ _).symm
 have e2 : zbq gr [zbq gr [zaf gr gr.G c0, zaf gr (zaf gr gr.G c0) r], zaf gr (zaf gr gr.G c0) (-1)] = zaf gr gr.G (c0 * r) := by
  rw [e1, zeF k hG hc.1 hr, ziP k hG h0 n1, ziP k hG (by omega) n2]
  refine zfE _ ?_
  rw [Int.add_emod, zev, ← Int.add_emod]
  congr 1
  omega
 have hz : zaf gr (zaf gr gr.G (c0 * r)) (zbR gr.Q ([0] ++ who) 1 0) = zaf gr gr.G (c0 * r * zbR gr.Q ([0] ++ who) 1 0) := zeF k hG n1 (hlam 0)
 unfold zu5
 dsimp only
 rw [e2, hz]
 have hsg := (zqk k hr (Int.mul_nonneg n1 (hlam 0)) (sh := who.map (zav gr.Q (c0 :: g))) (lam := zbR gr.Q ([0] ++ who) 1) (fun s hs => by
  obtain ⟨p, _, rfl⟩ := List.mem_map.1 hs
  exact (hb p).1) hlam _ (Nat.le_refl _)).1
 rw [hsg, zeF k hG hr (hb 1).1]
 congr 2
 refine zfE _ ?_
 have hlag := zk4 L (f := c0 :: g) (by simp [hl]) 1
 have hsh : ([0] ++ who).length = who.length + 1 := by simp
 rw [hsh, zom] at hlag
 have hlag2 : (zbR gr.Q ([0] ++ who) 1 0 * c0 + smL (fun j => (who.map (zav gr.Q (c0 :: g))).getD j 0 * zbR gr.Q ([0] ++ who) 1 (j + 1)) who.length) % gr.Q = zav gr.Q (c0 :: g) 1 := by
  rw [← hlag]
  congr 1
  have : zbR gr.Q ([0] ++ who) 1 0 * zav gr.Q (c0 :: g) (([0] ++ who).getD 0 0) = zbR gr.Q ([0] ++ who) 1 0 * c0 := by
   show zbR gr.Q ([0] ++ who) 1 0 * zav gr.Q (c0 :: g) 0 = _
   rw [zww, Int.emod_eq_of_lt hc.1 hc.2]
  rw [this]
  congr 1
  refine zqm _ fun j hj => ?_
  have e3 : ([0] ++ who).getD (j + 1) 0 = who[j] := by
   show who.getD j 0 = _
   exact zbF hj
  rw [e3, zbF (show j < (who.map (zav gr.Q (c0 :: g))).length by simpa using hj), List.getElem_map, Int.mul_comm]
 rw [List.length_map]
 generalize smL (fun j => (who.map (zav gr.Q (c0 :: g))).getD j 0 * zbR gr.Q ([0] ++ who) 1 (j + 1)) who.length = S' at hlag2
 generalize zbR gr.Q ([0] ++ who) 1 0 = L0 at hlag2
 rw [← hlag2, Int.mul_emod r, Int.emod_emod, ← Int.mul_emod]
 congr 1
 grind
theorem zAa {code : List Int} (hb : Bt code) : Rn (zcX code) (fun z => z.2.1.length ≤ 1000) := by
 unfold zcX
 refine zad (zpE hb (cu0 code) (by omega)) fun z ⟨z1, z2⟩ => ?_
 refine zad (zen hb z2 (by omega) (by simp)) fun y ⟨y1, y2⟩ => zag (zxu _ _) (zad (zeU hb y2 (by omega)) fun p ⟨p1, p2, p3, p4, p5⟩ => ?_)
 have hp : p.1 ≤ 8 := by
  simp only [List.mem_cons, List.not_mem_nil, or_false] at y1
  by_cases h : 1 < (if y.1 < 1 then 1 else y.1)
  ·have := p3 h
   split at this <;> omega
  ·have := p2 (by omega); omega
 obtain ⟨K, hK⟩ := Int.eq_ofNat_of_zero_le p1
 have e : IntKind.i64.wrap (1 + p.1) = ((K + 1 : Nat) : Int) := by rw [zar (n := 1 + p.1) (by omega) (by omega)]; omega
 rw [e]
 exact zad (zta hb p5 (by omega) z1 (by omega)) fun w ⟨w1, _⟩ => zab (by show w.1.length ≤ 1000; omega)
theorem zvf {code c0 : List Int} {at_ seed n : Int} {gr : Group} {k t : Nat} (hb : Bt code) (h : Cu code n (c0, at_, seed)) (hn : n ≤ 3000000000000000) (hg : Gw gr) (hk : k ≤ 20) (ht : t ≤ 20) :
 Rn (zbG c0 at_ seed gr (k : Int) (t : Int)) (fun z => z.1.length = k ∧ (∀ l ∈ z.1, l.length = t) ∧ Cu code (n + 2000) z.2) := by
 unfold zbG
 refine zad (ψ := fun x => x.2.length = k ∧ (∀ l ∈ x.2, l.length = t) ∧ Cu code (n + 2000) x.1) (zf8 k (fun j s => s.2.1 = (k : Int) - j ∧ s.2.2.length = j ∧ (∀ l ∈ s.2.2, l.length = t) ∧ Cu code (n + 80 * j) s.1) ⟨by simp, rfl, fun l hl => by simp at hl, by simpa using h⟩ ?_ ?_) fun x hx => zab hx
 ·rintro j ⟨⟨d0, d1, d2⟩, m, out⟩ hj ⟨h1, h2, h3, h4⟩
  have h1 : m = (k : Int) - j := h1
  subst h1
  refine zfn (by simp; omega) (zad (zrC hb h4 (by omega) hg (by omega)) fun z ⟨z1, z2, z3⟩ => zas (by show (out.length + 1) * 24 ≤ _ ∧ out.length + 1 ≤ _; have : out.length = j := h2; omega) (zab ⟨?_, ?_, ?_, z3.mono (by omega)⟩))
  ·show IntKind.i64.wrap ((k : Int) - j - 1) = _
   rw [zar (by omega) (by omega)]; omega
  ·show (out ++ [z.1]).length = j + 1
   have : out.length = j := h2
   simp [this]
  intro l hl
  rcases List.mem_append.1 (show l ∈ out ++ [z.1] from hl) with hl | hl
  ·exact h3 l hl
  rw [List.mem_singleton.1 hl]; exact z1
 rintro ⟨⟨d0, d1, d2⟩, m, out⟩ ⟨h1, h2, h3, h4⟩
 have h1 : m = (k : Int) - k := h1
 subst h1
 exact zbH (by simp) (zab ⟨h2, h3, h4.mono (by omega)⟩)
structure DlB (gr : Group) (n t : Nat) (d : Dealing) : Prop where
 s : d.Shares.length = n
 c : d.Commits.length = t
 r : ∀ y ∈ d.Commits, 0 ≤ y ∧ y ≤ 2000000000
 b : ∀ y ∈ d.Shares, 0 ≤ y ∧ y ≤ 2100000000
theorem zvn {gr : Group} (k : OkG gr) {n t : Nat} (hn : n ≤ 20) (ht : t ≤ 20) {d : Dealing} (D : DlB gr n t d) {a : List Int} (ha : ∀ y ∈ a, 0 ≤ y ∧ y ≤ 2100000000) : Rn (zeW gr d a) (fun z => DlB gr n t z.1) := by
 have h1 := D.s
 have h2 := D.c
 unfold zeW
 refine zag (ztI k (by omega) D.r) ?_
 refine zad (ψ := fun b => b = false → a.length = (zfp gr d d.Shares.length).length) (zao (fun _ => zab fun h => by cases h) fun _ => zab fun h => by simp at h; omega) fun b hb => zao (fun _ => zab D) fun g => ?_
 have hal := hb g
 refine zag (zhA (by omega)) (zag (zhA (by omega)) ?_)
 refine zad (ψ := Sum.elim (fun (x : List Int × List Int) => DlB gr n t ⟨x.1, x.2⟩) (fun (z : Dealing × Bool) => DlB gr n t z.1)) (zaB (fun i s => DlB gr n t ⟨s.1, s.2⟩) D ?_ fun s h => h) ?_
 ·rintro i ⟨s1, s2⟩ hi D'
  have hx := znQ _ (List.getElem_mem hi)
  obtain ⟨j, hj⟩ := Int.eq_ofNat_of_zero_le (show 0 ≤ (zfp gr d d.Shares.length)[i] - 1 by omega)
  have hs2 : s2.length = n := D'.s
  have hai : i < a.length := by omega
  refine zaH hi (zaH hai (zag (zmV k (by omega) (by omega) D.r) (zao (fun _ => zab D) fun _ => ?_)))
  rw [zar (n := (zfp gr d d.Shares.length)[i] - 1) (by omega) (by omega), hj]
  refine zaH (show j < s2.length by omega) (zab ⟨?_, D'.c, D'.r, fun y hy => ?_⟩)
  ·show (s2.set _ _).length = n
   rw [List.length_set]; exact hs2
  rcases List.mem_or_eq_of_mem_set (show y ∈ s2.set _ _ from hy) with h | h
  ·exact D'.b y h
  rw [h]; exact zeS ha hai
 rintro (x | z) hx
 ·exact zab hx
 exact zab hx
theorem zwG {gr : Group} (k : OkG gr) {n t : Nat} (hn : n ≤ 20) (ht : t ≤ 20) {l : List Dealing} {asl : List (List Int)} (hl : l.length ≤ 20) (ha : asl.length = l.length) (D : ∀ d ∈ l, DlB gr n t d) (A : ∀ a ∈ asl, ∀ y ∈ a, 0 ≤ y ∧ y ≤ 2100000000) : Rn (zdO gr l asl) (fun z => z.1.length ≤ l.length ∧ z.1.length = z.2.length ∧ ∀ d ∈ z.2, DlB gr n t d) := by
 unfold zdO
 refine zad (ψ := fun (z : List Int × List Dealing) => z.1.length ≤ l.length ∧ z.1.length = z.2.length ∧ ∀ d ∈ z.2, DlB gr n t d) (zaB (fun i s => s.1.length ≤ i ∧ s.1.length = s.2.length ∧ ∀ d ∈ s.2, DlB gr n t d) ⟨by simp, rfl, fun d hd => by simp at hd⟩ ?_ fun s h => h) fun z hz => zab hz
 rintro i ⟨s1, s2⟩ hi ⟨h1, h2, h3⟩
 have h1 : s1.length ≤ i := h1
 have h2 : s1.length = s2.length := h2
 refine zad (ψ := fun (z : List Int × List Dealing) => z.1.length ≤ i + 1 ∧ z.1.length = z.2.length ∧ ∀ d ∈ z.2, DlB gr n t d) ?_ fun z hz => zab hz
 have hia : i < asl.length := by omega
 refine zaH hi (zaH hia (zad (zvn k hn ht (zeS D hi) (zeS A hia)) fun z hz => zao (fun _ => zas (by dsimp only; omega) (zas (by dsimp only; omega) (zab ⟨by simp; omega, by simp [h2], fun d hd => ?_⟩))) fun _ => zab ⟨by dsimp only; omega, h2, h3⟩))
 rcases List.mem_append.1 hd with h | h
 ·exact h3 d h
 rw [List.mem_singleton.1 h]; exact hz
theorem zzi {gr : Group} (k : OkG gr) {n t : Nat} (hn : n ≤ 20) (ht : t ≤ 20) {l : List Dealing} (hl : 1 ≤ l.length ∧ l.length ≤ 20) (D : ∀ d ∈ l, DlB gr n t d) : Rn (zgy gr l) (DlB gr n t) := by
 have hp := k.p
 have hq := k.q
 have h0 := zeS (i := 0) D (by omega)
 have h1 := h0.s
 have h2 := h0.c
 unfold zgy
 refine zaH (k := 0) (by omega) (zag (zhA (by omega)) (zag (zhA (by omega)) (zas (by omega) ?_)))
 refine zad (ψ := fun (x : List Int × List Int) => DlB gr n t ⟨x.1, x.2⟩) (zaB (fun i s => DlB gr n t ⟨s.1, s.2⟩) h0 ?_ fun s h => h) fun x hx => zab hx
 rintro i ⟨s1, s2⟩ hi D'
 have hd : DlB gr n t ((l.take l.length).drop 1)[i] := D _ (by
  have := List.getElem_mem hi
  exact List.mem_of_mem_take (List.mem_of_mem_drop this))
 refine zad (ψ := fun (x : List Int × List Int) => DlB gr n t ⟨x.1, x.2⟩) (zag (zcF hi) ?_) fun x hx => zab hx
 generalize ((l.take l.length).drop 1)[i] = d at hd
 have d1 := hd.s
 have d2 := hd.c
 refine zad (ψ := fun (x : List Int × List Int) => DlB gr n t ⟨x.1, x.2⟩) (zaB (fun i s => DlB gr n t ⟨s.1, s.2⟩) D' ?_ fun s h => h) fun x hx => zaB (fun i s => DlB gr n t ⟨s.1, s.2⟩) hx ?_ fun s h => h
 ·rintro j ⟨u1, u2⟩ hj E
  have e1 : u1.length = t := E.c
  have hju : j < u1.length := by omega
  have r1 := zeS hd.r hj
  have r2 : R9 u1[j] := zeS E.r hju
  refine zaH hj (zaH hju (zag (m2S k r2 r1) (zab ⟨E.s, ?_, fun y hy => ?_, E.b⟩)))
  ·show (u1.set _ _).length = t
   rw [List.length_set]; exact e1
  rcases List.mem_or_eq_of_mem_set (show y ∈ u1.set _ _ from hy) with h | h
  ·exact E.r y h
  rw [h]; exact zzG k r2 r1
 rintro j ⟨u1, u2⟩ hj E
 have e1 : u2.length = n := E.s
 have hju : j < u2.length := by omega
 have r1 := zeS hd.b hj
 have r2 : 0 ≤ u2[j] ∧ u2[j] ≤ 2100000000 := zeS E.b hju
 refine zaH hj (zaH hju (zas (by omega) (zab ⟨?_, E.c, E.r, fun y hy => ?_⟩)))
 ·show (u2.set _ _).length = n
  rw [List.length_set]; exact e1
 rcases List.mem_or_eq_of_mem_set (show y ∈ u2.set _ _ from hy) with h | h
 ·exact E.b y h
 rw [h, zar (n := u2[j] + d.Shares[j]) (by omega) (by omega), Int.tmod_eq_emod_of_nonneg (by omega)]
 have a := Int.emod_nonneg (u2[j] + d.Shares[j]) (show gr.Q ≠ 0 by omega)
 have b := Int.emod_lt_of_pos (u2[j] + d.Shares[j]) (show 0 < gr.Q by omega)
 omega
structure KgB (gr : Group) (z : KeyGen) : Prop where
 s : z.Shares.length ≤ 20
 b : ∀ y ∈ z.Shares, 0 ≤ y ∧ y ≤ 2100000000
 y : 0 ≤ z.Key ∧ z.Key ≤ 2000000000
theorem zwv {gr : Group} (k : OkG gr) {n t : Nat} (hn : n ≤ 20) (ht : 1 ≤ t ∧ t ≤ 20) {l : List Dealing} {asl : List (List Int)} (hl : l.length ≤ 20) (ha : asl.length = l.length) (D : ∀ d ∈ l, DlB gr n t d) (A : ∀ a ∈ asl, ∀ y ∈ a, 0 ≤ y ∧ y ≤ 2100000000) : Rn (zeE gr l asl) (fun z => KgB gr z.1) := by
 unfold zeE
 refine zad (zwG k hn ht.2 hl ha D A) fun z ⟨z0, z1, z2⟩ => zao (fun _ => zab ⟨by simp, fun y hy => by simp at hy, by show (0 : Int) ≤ 0; decide, by show (0 : Int) ≤ _; decide⟩) fun g => ?_
 have g : ¬ (z.1.length : Int) = 0 := by simpa using g
 refine zad (zzi k hn ht.2 (l := z.2) (by omega) z2) fun x hx => ?_
 have hc := hx.c
 refine zaH (k := 0) (by omega) (zab ⟨by have := hx.s; show x.Shares.length ≤ 20; omega, hx.b, hx.r _ (List.getElem_mem _)⟩)
theorem zvX {code c0 : List Int} {at_ seed n : Int} {gr : Group} (hb : Bt code) (h : Cu code n (c0, at_, seed)) (hn : n ≤ 1000000000000000) (hg : Gw gr) : Rn (zcz c0 at_ seed gr) (fun z => KgB gr z.1 ∧ Cu code (n + 3000) z.2) := by
 unfold zcz
 refine zad (ziR (m := 5) hb h (by omega) (by omega)) fun z ⟨⟨K, hK, hK2⟩, z2⟩ => zag (zgM gr) (zao (fun _ => zab ⟨⟨by simp, fun y hy => by simp at hy; subst hy; decide, by show (0 : Int) ≤ 1; decide, by show (1 : Int) ≤ _; decide⟩, z2.mono (by omega)⟩) fun g => ?_)
 have g : okG gr = true ∧ 7 < gr.Q := by simpa using g
 have k := zgg.1 g.1
 have e : IntKind.i64.wrap (1 + z.1) = ((K + 1 : Nat) : Int) := by rw [zar (n := 1 + z.1) (by omega) (by omega)]; omega
 rw [e]
 refine zad (ziR (m := K + 1) hb z2 (by omega) (by omega)) fun y ⟨⟨T, hT, hT2⟩, y2⟩ => ?_
 have e2 : IntKind.i64.wrap (1 + y.1) = ((T + 1 : Nat) : Int) := by rw [zar (n := 1 + y.1) (by omega) (by omega)]; omega
 rw [e2]
 refine zad (zvf hb y2 (by omega) hg (by omega) (by omega)) fun p ⟨p1, p2, p3⟩ => zag (zwC gr p.1 []) ?_
 refine zad (ψ := fun z => KgB gr z.1) ?_ fun z hz => zab ⟨hz, p3.mono (by omega)⟩
 by_cases P : PlOk gr p.1 []
 ·rw [zwd P]
  have hq := k.q
  have hp := k.p
  have D := fun i (hi : i < p.1.length) => ztr P hi
  refine zwv k (n := K + 1) (t := (p.1.headD []).length) (by omega) (by have := P.t; omega) (by simp; omega) (by simp) (fun d hd => ?_) fun a ha y hy => ?_
  ·obtain ⟨i, hi, rfl⟩ := List.mem_map.1 hd
   obtain ⟨a1, a2, a3, a4⟩ := D i (List.mem_range.1 hi)
   exact ⟨by omega, a3, zhM k a4, fun y hy => by have := a2 y hy; omega⟩
  obtain ⟨i, hi, rfl⟩ := List.mem_map.1 ha
  have hy : y ∈ plA gr p.1 [] i := hy
  unfold plA at hy
  split at hy
  ·obtain ⟨x, _, rfl⟩ := List.mem_map.1 hy
   have := zfY (q := gr.Q) (by omega) (p.1.getD i []) x
   omega
  simp at hy
 rw [zoP P]
 exact zwv k (n := 0) (t := 1) (by omega) (by omega) (by simp) (by simp) (fun d hd => by simp at hd) fun a ha => by simp at ha
theorem zmW {code c0 : List Int} {at_ seed n : Int} {gr : Group} (k : OkG gr) (hb : Bt code) (h : Cu code n (c0, at_, seed)) (hn : n ≤ 6000000000000000) : Rn (zaE c0 at_ seed gr) (fun z => R9 z.1 ∧ Cu code (n + 4) z.2) := by
 have hp := k.p
 have hq := k.q
 have hG := k.g
 unfold zaE
 refine zad (ψ := (· = false)) (zbH (by simp; omega) (zab (by simp; omega))) ?_
 rintro _ rfl
 have e : gr.G % gr.P = gr.G := Int.emod_eq_of_lt (by omega) (by omega)
 refine zbH rfl (zag (zhY (by omega) (by omega)) (zad (zjw hb h (by omega) (by omega)) fun z ⟨z1, z2, _, z3⟩ => ?_))
 rw [e]
 exact zag (pwS k (r_G k) _) (zab ⟨zfr k _ _, z3⟩)
theorem zt5 {code c0 : List Int} {at_ seed n : Int} {gr : Group} (k : OkG gr) (hb : Bt code) (h : Cu code n (c0, at_, seed)) (hn : n ≤ 4000000000000000) : Rn (zbt c0 at_ seed gr) (fun z => (R9 z.1.A ∧ R9 z.1.B) ∧ Cu code (n + 8) z.2) := by
 unfold zbt
 exact zad (zmW k hb h (by omega)) fun z ⟨z1, z3⟩ => zad (zmW k hb z3 (by omega)) fun y ⟨y1, y3⟩ => zab ⟨⟨z1, y1⟩, y3.mono (by omega)⟩
theorem zxq {gr : Group} (k : OkG gr) {c : Cipher} (hA : R9 c.A) (i : Int) {x w : Int} : Rn (zeX gr c i x w) (fun p => lp 2 p.Pi) := by
 have hq := k.q
 have im : ∀ e, zei gr [[gr.G], [c.A]] [e] = some [zaf gr gr.G e, zaf gr c.A e] := fun e => by
  unfold zei
  have hr : ∀ r ∈ [[gr.G], [c.A]], zdU gr r [e] = some (zch gr r [e] 1) := fun r hr => by
   simp only [List.mem_cons, List.not_mem_nil, or_false] at hr
   rcases hr with rfl | rfl
   ·exact zlq k (fun y hy => by rw [List.mem_singleton] at hy; subst hy; exact r_G k) (by simp)
   ·exact zlq k (fun y hy => by rw [List.mem_singleton] at hy; subst hy; exact hA) (by simp)
  rw [zp0 (l := [[gr.G], [c.A]]) (f := fun r => zch gr r [e] 1) []]
  ·simp [zn4 k]
  ·intro j hj s hs
   rw [zcF hj, Option.bind_some, hr _ (List.getElem_mem hj), Option.bind_some, zdN (by simp at hs hj; omega)]
 have hd : ([[gr.G], [c.A]].flatten ++ [zaf gr gr.G x, zaf gr c.A x] ++ [zaf gr gr.G w, zaf gr c.A w]).all zcr = true := by
  refine zwi fun z hz => ?_
  simp at hz
  rcases hz with rfl | rfl | rfl | rfl | rfl | rfl
  ·exact r_G k
  ·exact hA
  ·exact zfr k _ _
  ·exact zfr k _ _
  ·exact zfr k _ _
  ·exact zfr k _ _
 unfold zeX zgF
 refine zag (pwS k hA _) (zad (ψ := lp 2) ?_ fun p hp => zab hp)
 refine zag (im w) (zag (im x) (zag (zuR (by simp) (by simp) (by simp)) (zag (zkY k (by decide) (by simp) hd) ?_)))
 refine zad (ψ := fun (s : List Int × List Int × List Int) => s.1.length ≤ 2 ∧ s.2.1.length ≤ 2 ∧ s.2.2.length ≤ 2) (zaB (fun i s => s.1.length ≤ 2 ∧ s.2.1.length ≤ 2 ∧ s.2.2.length ≤ i) (by simp) ?_ fun s h => ⟨h.1, h.2.1, by show s.2.2.length ≤ 2; have := h.2.2; have e : [x].length = 1 := rfl; omega⟩) fun s h => zab h
 rintro j s hj ⟨h1, h2, h3⟩
 have hj' : j < 1 := by simpa using hj
 exact zaH hj (zaH (l := [w]) (show j < [w].length by simpa using hj') (zas (by omega) (zas (by omega) (zab ⟨h1, h2, by simp; omega⟩))))
def PtB (l : List Partial) (n : Nat) : Prop := l.length ≤ n ∧ ∀ p ∈ l, p.Pi.Commits.length ≤ 10
theorem PtB.snoc {l : List Partial} {n : Nat} (h : PtB l n) {p : Partial} (hp : p.Pi.Commits.length ≤ 10) : PtB (l ++ [p]) (n + 1) := ⟨by have := h.1; simp; omega, fun q hq => by
 rcases List.mem_append.1 hq with h1 | h1
 ·exact h.2 q h1
 ·rw [List.mem_singleton.1 h1]; exact hp⟩
theorem zvb {code c0 : List Int} {at_ seed n : Int} {gr : Group} {kg : KeyGen} (hb : Bt code) (h : Cu code n (c0, at_, seed)) (hn : n ≤ 1000000000000000) (hg : Gw gr) (K : KgB gr kg) : Rn (zb0 c0 at_ seed gr kg) (fun z => PtB z.2.1 100 ∧ Cu code (n + 3000) z.2.2) := by
 unfold zb0
 by_cases k7 : (okG gr && decide (7 < gr.Q)) = true
 ·obtain ⟨k, hq7⟩ := Bool.and_eq_true_iff.1 k7
  have k := zgg.1 k
  have hp := k.p
  have hq := k.q
  refine zad (zt5 k hb h (by omega)) fun z ⟨z1, z2⟩ => zag (zgM gr) (zbH (by rw [k7]; rfl) (zad (zlD hb z2 (by omega)) fun y y1 => ?_))
  refine zad (ψ := fun x => R9 x.2.1 ∧ Cu code (n + 100) x.1) (zao (fun _ => ?_) fun _ => zab ⟨z1.1, y1.mono (by omega)⟩) fun x ⟨x1, x2⟩ => ?_
  ·refine zad (zeU hb y1 (by omega)) fun p ⟨_, _, _, _, p5⟩ => zag (pwS k (r_G k) _) (zad (zjw hb p5 (by omega) (by omega)) fun e ⟨_, _, _, e4⟩ => ?_)
   unfold zfB
   refine zad (ψ := fun c => R9 c.A) (zag (pwS k (r_G k) _) (zag (pwS k K.y _) (zag (m2S k (zfr k _ _) (zfr k _ _)) (zab (zfr k _ _))))) fun c hc => zab ⟨hc, e4.mono (by omega)⟩
  refine zad (ψ := fun v => PtB v.2 100 ∧ Cu code (n + 3000) v.1) (zaB (fun i s => PtB s.2 (2 * i) ∧ Cu code (n + 100 + 60 * i) s.1) ⟨⟨by simp, fun p hp => by simp at hp⟩, by simpa using x2⟩ ?_ fun s hs => ?_) fun v hv => zab hv
  ·rintro i ⟨⟨s0, s1, s2⟩, l⟩ hi ⟨h1, h2⟩
   have hs := K.s
   have h1 : PtB l (2 * i) := h1
   have hll := h1.1
   refine zad (ψ := fun (v : (List Int × Int × Int) × List Partial) => PtB v.2 (2 * (i + 1)) ∧ Cu code (n + 100 + 60 * ((i + 1 : Nat) : Int)) v.1) ?_ fun v hv => zab hv
   refine zaH hi (zad (zlD hb h2 (by omega)) fun a a1 => zao (fun _ => zab ⟨⟨by show l.length ≤ _; omega, h1.2⟩, a1.mono (by push_cast; omega)⟩) fun _ => ?_)
   refine zad (zjw hb a1 (by omega) (by omega)) fun e ⟨_, _, _, e4⟩ => zad (zxq k (c := ⟨x.2.1, x.2.2⟩) x1 _) fun p pl => zad (zeU hb e4 (by omega)) fun q ⟨_, _, _, _, q5⟩ => ?_
   have pc := pl.1
   refine zad (ψ := fun v => PtB v.2.1 (2 * i + 1) ∧ v.2.2.2.2.1.length ≤ 10 ∧ Cu code (n + 100 + 60 * (i : Int) + 50) v.1) ?_ fun v ⟨v1, v2, v3⟩ => zas (by have := v1.1; omega) (zab ⟨v1.snoc v2, v3.mono (by push_cast; omega)⟩)
   have hl1 : PtB l (2 * i + 1) := ⟨by omega, h1.2⟩
   refine zao (fun _ => zad (zpW hb q5 (by omega) hg) fun w ⟨_, _, w3⟩ => zab ⟨hl1, by show p.Pi.Commits.length ≤ 10; omega, w3.mono (by omega)⟩) fun _ => zao (fun _ => zad (zen hb q5 (by omega) (by simp)) fun w ⟨_, w2⟩ => zab ⟨hl1, by show p.Pi.Commits.length ≤ 10; omega, w2.mono (by omega)⟩) fun _ => zao (fun _ => zad (zxZ hb q5 (by omega) hg pl (by omega)) fun w ⟨w1, w2⟩ => zab ⟨hl1, by have := w1.1; show w.1.Commits.length ≤ 10; omega, w2.mono (by omega)⟩) fun _ => zao (fun _ => zas (by dsimp only; omega) (zab ⟨h1.snoc (by omega), by show p.Pi.Commits.length ≤ 10; omega, q5.mono (by omega)⟩)) fun _ => zab ⟨hl1, by show p.Pi.Commits.length ≤ 10; omega, q5.mono (by omega)⟩
  have hs' := K.s
  exact ⟨⟨by have := hs.1.1; show s.2.length ≤ 100; omega, hs.1.2⟩, hs.2.mono (by omega)⟩
 refine zad (zvC hb h (by omega) hg) fun z z2 => zag (zgM gr) (zfn (by rw [Bool.not_eq_true] at k7; rw [k7]; rfl) (zab ⟨⟨by simp, fun p hp => by simp at hp⟩, z2.mono (by omega)⟩))
theorem zBY {code : List Int} (hb : Bt code) : Rn (zc0 code) (fun z => z.2.2.2.length ≤ 100 ∧ ∀ l ∈ z.2.2.2, PtB l 100) := by
 unfold zc0
 refine zad (zpE hb (cu0 code) (by omega)) fun z ⟨z1, z2⟩ => zad (zvX hb z2 (by omega) z1) fun y ⟨y1, y2⟩ => zad (ziR (m := 4) hb y2 (by omega) (by omega)) fun p ⟨⟨N, hN, hN2⟩, p2⟩ => ?_
 rw [hN]
 refine zad (ψ := fun x => (x.2.2.length ≤ 10 ∧ ∀ l ∈ x.2.2, PtB l 100) ∧ Cu code 1000000 x.1) (zf8 N (fun j s => s.2.2.2 = (N : Int) - j ∧ s.2.1.length = j ∧ s.2.2.1.length = j ∧ (∀ l ∈ s.2.2.1, PtB l 100) ∧ Cu code (4000 + 3000 * j) s.1) ⟨by simp, rfl, rfl, fun l hl => by simp at hl, p2.mono (by omega)⟩ ?_ ?_) fun x ⟨⟨x1, x2⟩, x3⟩ => ?_
 ·rintro j ⟨⟨d0, d1, d2⟩, cs, ls, m⟩ hj ⟨h1, h2, h3, h4, h5⟩
  have h1 : m = (N : Int) - j := h1
  have h2 : cs.length = j := h2
  have h3 : ls.length = j := h3
  subst h1
  refine zfn (by simp; omega) (zad (zvb hb h5 (by omega) z1 y1) fun w ⟨w1, w2⟩ => zas (by dsimp only; omega) (zas (by dsimp only; omega) (zab ⟨?_, by simp [h2], by simp [h3], fun l hl => ?_, w2.mono (by push_cast; omega)⟩)))
  ·show IntKind.i64.wrap ((N : Int) - j - 1) = _
   rw [zar (by omega) (by omega)]; push_cast; omega
  rcases List.mem_append.1 hl with h | h
  ·exact h4 l h
  rw [List.mem_singleton.1 h]; exact w1
 ·rintro ⟨⟨d0, d1, d2⟩, cs, ls, m⟩ ⟨h1, h2, h3, h4, h5⟩
  have h1 : m = (N : Int) - N := h1
  have h3 : ls.length = N := h3
  subst h1
  exact zbH (by simp) (zab ⟨⟨by show ls.length ≤ 10; omega, h4⟩, h5.mono (by omega)⟩)
 refine zad (zlD hb x3 (by omega)) fun o o1 => zad (ψ := fun l => l.length ≤ 100 ∧ ∀ q ∈ l, PtB q 100) (zao (fun _ => zas (by omega) (zab ⟨by simp; omega, fun q hq => ?_⟩)) fun _ => zab ⟨by omega, x2⟩) fun l hl => zab hl
 rcases List.mem_append.1 hq with h | h
 ·exact x2 q h
 rw [List.mem_singleton.1 h]; exact ⟨by simp, fun p hp => by simp at hp⟩
theorem zfd (n : Nat) : (zbg n).length = n := by simp [zbg]
theorem zle {n i : Nat} (h : i < (zbg n).length) : (zbg n)[i] = (i : Int) + 1 := by simp [zbg]
theorem zu0 {n t : Nat} (h : t ≤ n) : (zbg n).take t = zbg t := by
 refine List.ext_getElem (by simp [zfd]; omega) fun i h1 h2 => ?_
 rw [List.getElem_take, zle, zle]
theorem ztx (n : Nat) : (zbg n).Nodup := List.Pairwise.map _ (fun a b (h : a ≠ b) => by omega) List.nodup_range
theorem zrE {n : Nat} {x : Int} (h : x ∈ zbg n) : 1 ≤ x ∧ x ≤ n := by
 obtain ⟨i, hi, rfl⟩ := List.mem_map.1 h
 have := List.mem_range.1 hi
 omega
def zfJ (n : Int) (t : Nat) : List Int := (List.range t).map fun (i : Nat) => n - (i : Int)
theorem zwY (n : Int) (t : Nat) : (zfJ n t).Nodup := List.Pairwise.map _ (fun a b (h : a ≠ b) => by omega) List.nodup_range
theorem zuK {gr : Group} {A : Int} {f pts ws : List Int} : bdP (rtL gr A f pts ws) := fun p hp => by
 obtain ⟨i, _, rfl⟩ := List.mem_map.1 hp
 show [_, _].length ≤ 1048576
 simp
theorem zxY {a q : Int} (ha : 0 ≤ a ∧ a ≤ 4000000000) (hq : 0 < q ∧ q ≤ 2000000000) : zgu a q = some (a % q) := by
 have h1 := Int.emod_nonneg a (show q ≠ 0 by omega)
 have h2 := Int.emod_lt_of_pos a hq.1
 unfold zgu
 rw [zdN (by omega), zdN (by omega), Int.tmod_eq_emod_of_nonneg ha.1, zar (n := a % q + q) (by omega) (by omega), Int.tmod_eq_emod_of_nonneg (by omega), Int.add_emod_right, zev]
theorem zCx (a b : List Int) (h0 : ∀ x ∈ a, 0 ≤ x ∧ x ≤ 255) (h1 : ∀ x ∈ b, 0 ≤ x ∧ x ≤ 255) (hl0 : a.length ≤ 1048576) (hl1 : b.length ≤ 1048576) : zdv a b = some true := by
 have hba : Bt a := ⟨h0, by omega⟩
 have hbb : Bt b := ⟨h1, by omega⟩
 unfold zdv
 refine zaw (zao (fun _ => zab rfl) fun _ => ?_)
 refine zad (zAa hba) fun z hz => ?_
 obtain ⟨gr, f, n⟩ := z
 have hz : f.length ≤ 1000 := hz
 dsimp only
 obtain ⟨d, t, e1, e2, e3⟩ := zCp gr f hz n
 refine zag e1 (zag e2 ?_)
 refine zad (ψ := fun y => y.2.2.2.length ≤ 100 ∧ ∀ l ∈ y.2.2.2, PtB l 100) ?_ fun y ⟨y1, y2⟩ => ?_
 ·unfold zgb
  exact zad (zBY hbb) fun w hw => zab hw
 obtain ⟨m, u, g1, g2⟩ := zHJ y.1 y.2.2.1 y.2.1 y.2.2.2 (fun p hp => ⟨fun q hq => by have := (y2 p hp).2 q hq; omega, by have := (y2 p hp).1; omega⟩) (by omega)
 refine zag g1 (zag g2 ?_)
 refine zad (ψ := (· = false)) (zbH (by simp) (zag zGP (zbH rfl (zbH (by simp) (zag zvR (zab rfl)))))) ?_
 rintro _ rfl
 refine zbH rfl (zao (fun _ => zab rfl) fun g => ?_)
 have ht : t = true := by simpa using g
 subst ht
 obtain ⟨k, hq7, hn, hf, he, rfl⟩ := e3 rfl
 obtain ⟨N, hN⟩ := Int.eq_ofNat_of_zero_le (show 0 ≤ n by omega)
 subst hN
 have hq := k.q
 have hp := k.p
 have hG := zgc k
 obtain ⟨c0, fs, rfl⟩ : ∃ c g, f = c :: g := by
  cases f with
  | nil => simp at hf
  | cons c g' => exact ⟨c, g', rfl⟩
 have hc0 := he c0 (by simp)
 have hY := zek k hG c0
 generalize hF : c0 :: fs = F at *
 have hFl : F.length = fs.length + 1 := by rw [← hF]; rfl
 have hhd : F.headD 0 = c0 := by rw [← hF]; rfl
 rw [Int.toNat_natCast]
 have hcm0 : ix (dlV gr F N).Commits 0 = some (zaf gr gr.G c0) := by rw [← hF]; rfl
 generalize hr : ((b.length : Int) + 1) % gr.Q = r
 have hr0 : E9 gr.Q r := by rw [← hr]; exact zCJ (by omega) _
 rw [zar (n := (b.length : Int) + 1) (by omega) (by omega)]
 refine zag hcm0 (zag ((zxY (by omega) (by omega)).trans (congrArg some hr)) (zag (zw4 k hY hY hr0) ?_))
 refine zad (ψ := (· = (zbg F.length, zfJ N F.length))) (zf8 F.length (fun j s => s = (zbg j, zfJ N j, (j : Int) + 1)) rfl ?_ ?_) ?_
 ·rintro j s hj rfl
  refine zfn (by simp; omega) (zas (by rw [zfd]; omega) (zas (by simp [zfJ]; omega) (zab ?_)))
  show _ = _
  rw [zar (n := (N : Int) + 1) (by omega) (by omega), zar (n := (N : Int) + 1 - ((j : Int) + 1)) (by omega) (by omega), zar (n := (j : Int) + 1 + 1) (by omega) (by omega), zoo]
  have : zfJ N (j + 1) = zfJ N j ++ [(N : Int) - j] := by unfold zfJ; rw [List.range_succ, List.map_append]; rfl
  rw [this, show (N : Int) + 1 - ((j : Int) + 1) = N - j by omega]
  push_cast
  rfl
 ·rintro s rfl
  exact zbH (by simp; omega) (zab rfl)
 rintro _ rfl
 have hsl : (dlV gr F N).Shares.length = N := by simp [dlV, zfd]
 have hsh : ((dlV gr F N).Shares.take F.length).drop 0 = (zbg F.length).map (zav gr.Q F) := by
  show List.take F.length ((zbg N).map (zav gr.Q F)) = _
  rw [← List.map_take, zu0 (by omega)]
 have hA := zek k hG r
 have hB : zam gr (zbq gr [zaf gr gr.G c0, zaf gr (zaf gr gr.G c0) r]) = true := zmT k hY (zek k hY _)
 have hC : ze7 gr ⟨zaf gr gr.G r, zbq gr [zaf gr gr.G c0, zaf gr (zaf gr gr.G c0) r]⟩ = true := by simp only [ze7, hA, hB, Bool.and_self]
 have R1 : RtOk gr F (zbg F.length) := ⟨k, hq7, he, by omega, fun x hx => by have := zrE hx; omega, ztx _, zfd _⟩
 have R2 : RtOk gr F (zfJ N F.length) := ⟨k, hq7, he, by omega, fun x hx => by
  obtain ⟨i, hi, rfl⟩ := List.mem_map.1 hx
  have := List.mem_range.1 hi
  omega, zwY _ _, by simp [zfJ]⟩
 have hw : (zbg F.length).length = F.length ∧ ∀ w ∈ zbg F.length, E9 gr.Q w := ⟨zfd _, fun w hw => by have := zrE hw; exact ⟨by omega, by omega⟩⟩
 have P1 := zws R1 hC (ws := zbg F.length) ⟨rfl, hw.2⟩
 have P2 := zws R2 hC (ws := zbg F.length) ⟨by simp [zfd, zfJ], hw.2⟩
 dsimp only
 rw [hsh]
 refine zas (by omega) (zas (by omega) (zag P1 ?_))
 refine zad (ψ := (· = (zfJ N F.length).map (zav gr.Q F))) (zBG (zp0 (l := zfJ N F.length) (f := zav gr.Q F) [] fun i hi s hs => ?_)) ?_
 ·have hi' : i < F.length := by simpa [zfJ] using hi
  have hx : (zfJ N F.length)[i] = (N : Int) - i := by simp [zfJ]
  have hxs : N - i - 1 < (dlV gr F N).Shares.length := by omega
  have e : IntKind.i64.wrap ((N : Int) - i - 1) = ((N - i - 1 : Nat) : Int) := by rw [zar (by omega) (by omega)]; omega
  have gen : ∀ (l : List Int) (hl : l = (zbg N).map (zav gr.Q F)) (j : Nat) (h : j < l.length), l[j] = zav gr.Q F ((j : Int) + 1) := by
   rintro l rfl j h
   rw [List.getElem_map, zle]
  have hv : (dlV gr F N).Shares[N - i - 1] = zav gr.Q F ((N : Int) - i) := (gen _ rfl (N - i - 1) hxs).trans (congrArg _ (by omega))
  rw [zcF hi, Option.bind_some, hx, e, zcF hxs, Option.bind_some, zdN (by simp at hs; omega), hv]
 rintro _ rfl
 have C1 := zwe (ws := zbg F.length) R1 hw.2 hr0.1
 have C2 := zwe (ws := zbg F.length) R2 hw.2 hr0.1
 rw [hhd] at C1 C2
 have l1 : (rtL gr (zaf gr gr.G r) F (zbg F.length) (zbg F.length)).length = F.length := by simp [rtL, zfd]
 have l2 : (rtL gr (zaf gr gr.G r) F (zfJ N F.length) (zbg F.length)).length = F.length := by simp [rtL, zfJ]
 have Q1 := (zsB k hq7 (F.map (zaf gr gr.G)) ⟨zaf gr gr.G r, zbq gr [zaf gr gr.G c0, zaf gr (zaf gr gr.G c0) r]⟩ (l := rtL gr (zaf gr gr.G r) F (zbg F.length) (zbg F.length)) zuK (by omega)).1.trans (congrArg some C1)
 have Q2 := (zsB k hq7 (F.map (zaf gr gr.G)) ⟨zaf gr gr.G r, zbq gr [zaf gr gr.G c0, zaf gr (zaf gr gr.G c0) r]⟩ (l := rtL gr (zaf gr gr.G r) F (zfJ N F.length) (zbg F.length)) zuK (by omega)).1.trans (congrArg some C2)
 refine zag P2 (zag Q1 (zag Q2 (zad (ψ := (· = false)) (zbH rfl (zbH rfl (zbH rfl (zbH rfl (zbH rfl (zbH ?_ (zbH ?_ (zab ?_)))))))) ?_)))
 ·dsimp only
  rw [l1]
  exact beq_eq_false_iff_ne.2 (by omega)
 ·simp
 ·simp
 rintro _ rfl
 have hwho : ((zbg F.length).take (zbg F.length).length).drop 1 = (zbg F.length).drop 1 := by rw [List.take_length]
 have hshw : ((dlV gr F N).Shares.take F.length).drop 1 = ((zbg F.length).drop 1).map (zav gr.Q F) := by
  rw [List.map_drop, ← hsh]; rfl
 have S : zbD gr ⟨zaf gr gr.G r, zbq gr [zaf gr gr.G c0, zaf gr (zaf gr gr.G c0) r]⟩ (zaf gr gr.G c0) ((zbg F.length).drop 1) (((zbg F.length).drop 1).map (zav gr.Q F)) 1 = some (zaf gr (zaf gr gr.G r) (zav gr.Q F 1), true) := by
  have := zyu k hq7 (c0 := c0) (g := fs) (who := (zbg F.length).drop 1) (by rw [hF]; exact he) (by omega) hr0.1 (fun x hx => by
   obtain ⟨i, hi, rfl⟩ := List.getElem_of_mem hx
   rw [List.getElem_drop, zle]
   simp [zfd] at hi
   omega) ((ztx _).sublist (List.drop_sublist _ _)) (by simp [zfd]; omega)
  rwa [hF] at this
 refine zbH rfl (zas (by rw [zfd]; omega) (zas (by omega) (zas (by omega) ?_)))
 dsimp only
 rw [hwho, hshw]
 refine zag S (zad (ψ := (· = true)) (zfn rfl (zaH (k := 0) (by omega) (zab ?_))) ?_)
 ·have hi : 0 < (zbg F.length).length := by rw [zfd]; omega
  have e : (rtL gr (zaf gr gr.G r) F (zbg F.length) (zbg F.length))[0]'(by omega) = zp1 gr (zaf gr gr.G r) (zbg F.length)[0] (zav gr.Q F (zbg F.length)[0]) ((zbg F.length).getD 0 0) := by
   rw [← zm0 hi, zbF]
  rw [e, zle]
  show (zaf gr (zaf gr gr.G r) (zav gr.Q F 1) == zaf gr (zaf gr gr.G r) (zav gr.Q F _)) = true
  simp
 rintro _ rfl
 exact zab rfl
end Go.Pm
