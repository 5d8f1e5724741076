/-
  FnPartials: plain laws.
  No condition.
-/
import Derived.Test.YtikiohlamlipnaaGreatY39
namespace Go.Pm
open Go.Am
set_option linter.unusedVariables false
set_option linter.unusedSimpArgs false
theorem zv7 {gr : Group} (k : OkG gr) {c : Cipher} (hA : R9 c.A) (i : Int) {x w : Int} : Rn (zcw gr c i x w) (fun p => lp 2 p.Pi) := by
 have hq := k.q
 have im : ∀ e, zcS gr [[gr.G], [c.A]] [e] = some [zai gr gr.G e, zai gr c.A e] := fun e => by
  unfold zcS
  have hr : ∀ r ∈ [[gr.G], [c.A]], zc3 gr r [e] = some (zb7 gr r [e] 1) := fun r hr => by
   simp only [List.mem_cons, List.not_mem_nil, or_false] at hr
   rcases hr with rfl | rfl
   ·exact zjl k (fun y hy => by rw [List.mem_singleton] at hy; subst hy; exact r_G k) (by simp)
   ·exact zjl k (fun y hy => by rw [List.mem_singleton] at hy; subst hy; exact hA) (by simp)
  rw [ztt (l := [[gr.G], [c.A]]) (f := fun r => zb7 gr r [e] 1) []]
  ·simp [zkX k]
  ·intro j hj s hs
   rw [zeg hj, Option.bind_some, hr _ (List.getElem_mem hj), Option.bind_some, zdU (by simp at hs hj; omega)]
 have hd : ([[gr.G], [c.A]].flatten ++ [zai gr gr.G x, zai gr c.A x] ++ [zai gr gr.G w, zai gr c.A w]).all zb6 = true := by
  refine zsc fun z hz => ?_
  simp at hz
  rcases hz with rfl | rfl | rfl | rfl | rfl | rfl
  ·exact r_G k
  ·exact hA
  ·exact zdY k _ _
  ·exact zdY k _ _
  ·exact zdY k _ _
  ·exact zdY k _ _
 unfold zcw zel
 refine zaf (pwS k hA _) (zac (ψ := lp 2) ?_ fun p hp => zab hp)
 refine zaf (im w) (zaf (im x) (zaf (zpr (by simp) (by simp) (by simp)) (zaf (zis k (by decide) (by simp) hd) ?_)))
 refine zac (ψ := fun (s : List Int × List Int × List Int) => s.1.length ≤ 2 ∧ s.2.1.length ≤ 2 ∧ s.2.2.length ≤ 2) (zay (fun i s => s.1.length ≤ 2 ∧ s.2.1.length ≤ 2 ∧ s.2.2.length ≤ i) (by simp) ?_ fun s h => ⟨h.1, h.2.1, by show s.2.2.length ≤ 2; have := h.2.2; have e : [x].length = 1 := rfl; omega⟩) fun s h => zab h
 rintro j s hj ⟨h1, h2, h3⟩
 have hj' : j < 1 := by simpa using hj
 exact zaD hj (zaD (l := [w]) (show j < [w].length by simpa using hj') (zaq (by omega) (zaq (by omega) (zab ⟨h1, h2, by simp; omega⟩))))
def PtB (l : List Partial) (n : Nat) : Prop := l.length ≤ n ∧ ∀ p ∈ l, p.Pi.Commits.length ≤ 10
theorem PtB.snoc {l : List Partial} {n : Nat} (h : PtB l n) {p : Partial} (hp : p.Pi.Commits.length ≤ 10) : PtB (l ++ [p]) (n + 1) := ⟨by have := h.1; simp; omega, fun q hq => by
 rcases List.mem_append.1 hq with h1 | h1
 ·exact h.2 q h1
 ·rw [List.mem_singleton.1 h1]; exact hp⟩
theorem zur {code c0 : List Int} {at_ seed n : Int} {gr : Group} {kg : KeyGen} (hb : Bt code) (h : Cu code n (c0, at_, seed)) (hn : n ≤ 1000000000000000) (hg : Gw gr) (K : KgB gr kg) : Rn (zbR c0 at_ seed gr kg) (fun z => PtB z.2.1 100 ∧ Cu code (n + 3000) z.2.2) := by
 unfold zbR
 by_cases k7 : (okG gr && decide (7 < gr.Q)) = true
 ·obtain ⟨k, hq7⟩ := Bool.and_eq_true_iff.1 k7
  have k := zfN.1 k
  have hp := k.p
  have hq := k.q
  refine zac (ztw k hb h (by omega)) fun z ⟨z1, z2⟩ => zaf (zgf gr) (zbu (by rw [k7]; rfl) (zac (ziy hb z2 (by omega)) fun y y1 => ?_))
  refine zac (ψ := fun x => R9 x.2.1 ∧ Cu code (n + 100) x.1) (zam (fun _ => ?_) fun _ => zab ⟨z1.1, y1.mono (by omega)⟩) fun x ⟨x1, x2⟩ => ?_
  ·refine zac (zer hb y1 (by omega)) fun p ⟨_, _, _, _, p5⟩ => zaf (pwS k (r_G k) _) (zac (zh8 hb p5 (by omega) (by omega)) fun e ⟨_, _, _, e4⟩ => ?_)
   unfold zhl
   refine zac (ψ := fun c => R9 c.A) (zaf (pwS k (r_G k) _) (zaf (pwS k K.y _) (zaf (m2S k (zdY k _ _) (zdY k _ _)) (zab (zdY k _ _))))) fun c hc => zab ⟨hc, e4.mono (by omega)⟩
  refine zac (ψ := fun v => PtB v.2 100 ∧ Cu code (n + 3000) v.1) (zay (fun i s => PtB s.2 (2 * i) ∧ Cu code (n + 100 + 60 * i) s.1) ⟨⟨by simp, fun p hp => by simp at hp⟩, by simpa using x2⟩ ?_ fun s hs => ?_) fun v hv => zab hv
  ·rintro i ⟨⟨s0, s1, s2⟩, l⟩ hi ⟨h1, h2⟩
   have hs := K.s
   have h1 : PtB l (2 * i) := h1
   have hll := h1.1
   refine zac (ψ := fun (v : (List Int × Int × Int) × List Partial) => PtB v.2 (2 * (i + 1)) ∧ Cu code (n + 100 + 60 * ((i + 1 : Nat) : Int)) v.1) ?_ fun v hv => zab hv
   refine zaD hi (zac (ziy hb h2 (by omega)) fun a a1 => zam (fun _ => zab ⟨⟨by show l.length ≤ _; omega, h1.2⟩, a1.mono (by push_cast; omega)⟩) fun _ => ?_)
   refine zac (zh8 hb a1 (by omega) (by omega)) fun e ⟨_, _, _, e4⟩ => zac (zv7 k (c := ⟨x.2.1, x.2.2⟩) x1 _) fun p pl => zac (zer hb e4 (by omega)) fun q ⟨_, _, _, _, q5⟩ => ?_
   have pc := pl.1
   refine zac (ψ := fun v => PtB v.2.1 (2 * i + 1) ∧ v.2.2.2.2.1.length ≤ 10 ∧ Cu code (n + 100 + 60 * (i : Int) + 50) v.1) ?_ fun v ⟨v1, v2, v3⟩ => zaq (by have := v1.1; omega) (zab ⟨v1.snoc v2, v3.mono (by push_cast; omega)⟩)
   have hl1 : PtB l (2 * i + 1) := ⟨by omega, h1.2⟩
   refine zam (fun _ => zac (zgK hb q5 (by omega) hg) fun w ⟨_, _, w3⟩ => zab ⟨hl1, by show p.Pi.Commits.length ≤ 10; omega, w3.mono (by omega)⟩) fun _ => zam (fun _ => zac (zeF hb q5 (by omega) (by simp)) fun w ⟨_, w2⟩ => zab ⟨hl1, by show p.Pi.Commits.length ≤ 10; omega, w2.mono (by omega)⟩) fun _ => zam (fun _ => zac (zyn hb q5 (by omega) hg pl (by omega)) fun w ⟨w1, w2⟩ => zab ⟨hl1, by have := w1.1; show w.1.Commits.length ≤ 10; omega, w2.mono (by omega)⟩) fun _ => zam (fun _ => zaq (by dsimp only; omega) (zab ⟨h1.snoc (by omega), by show p.Pi.Commits.length ≤ 10; omega, q5.mono (by omega)⟩)) fun _ => zab ⟨hl1, by show p.Pi.Commits.length ≤ 10; omega, q5.mono (by omega)⟩
  have hs' := K.s
  exact ⟨⟨by have := hs.1.1; show s.2.length ≤ 100; omega, hs.1.2⟩, hs.2.mono (by omega)⟩
 refine zac (zuW hb h (by omega) hg) fun z z2 => zaf (zgf gr) (zeR (by rw [Bool.not_eq_true] at k7; rw [k7]; rfl) (zab ⟨⟨by simp, fun p hp => by simp at hp⟩, z2.mono (by omega)⟩))
theorem zl7 {gr : Group} {c : Cipher} (h : ziV gr c = true) : zak gr c.A = true ∧ zak gr c.B = true := by simpa [ziV] using h
def eqE (gr : Group) (s : ByteArray) (g h x w : Int) : Int := chG gr s ([[g], [h]].flatten ++ [zai gr g x, zai gr h x] ++ [zai gr g w, zai gr h w])
def eqP (gr : Group) (s : ByteArray) (g h x w : Int) : Proof := ⟨[zai gr g w, zai gr h w], [eqE gr s g h x w], [(w + eqE gr s g h x w * x) % gr.Q]⟩
theorem zxC {gr : Group} (k : OkG gr) {g h : Int} (hg : zak gr g = true) (hh : zak gr h = true) (x w : Int) : ([[g], [h]].flatten ++ [zai gr g x, zai gr h x] ++ [zai gr g w, zai gr h w]).all zb6 = true := by
 refine zsc fun z hz => ?_
 simp at hz
 rcases hz with rfl | rfl | rfl | rfl | rfl | rfl
 ·exact zhL k hg
 ·exact zhL k hh
 ·exact zdY k _ _
 ·exact zdY k _ _
 ·exact zdY k _ _
 exact zdY k _ _
theorem ztm {gr : Group} (k : OkG gr) {g h : Int} (hg : zak gr g = true) (hh : zak gr h = true) (e : Int) : zcS gr [[g], [h]] [e] = some [zai gr g e, zai gr h e] := by
 have e1 : ∀ y, zak gr y = true → zc3 gr [y] [e] = some (zai gr y e) := fun y hy => by
  rw [zjl k (l := [y]) (m := [e]) (by intro z hz; rw [List.mem_singleton] at hz; subst hz; exact zhL k hy) (by simp), zkX k]
 unfold zcS
 simp only [List.length_cons, List.length_nil, zas]
 have i0 : ix [[g], [h]] 0 = some [g] := rfl
 have i1 : ix [[g], [h]] (0 + 1) = some [h] := rfl
 simp only [i0, i1, Option.bind_some, e1 g hg, e1 h hh]
 rw [zdU (by simp)]
 simp only [Option.bind_some]
 rw [zdU (by simp)]
 rfl
theorem zAu {gr : Group} (k : OkG gr) {s : ByteArray} (hs : s.size ≤ 40) {g h : Int} (hg : zak gr g = true) (hh : zak gr h = true) {x w : Int} (hx : E9 gr.Q x) (hw : E9 gr.Q w) : zel gr s [[g], [h]] [x] [w] = some (eqP gr s g h x w) := by
 have hp := k.p
 have hq := k.q
 have hE := zo7 k s ([[g], [h]].flatten ++ [zai gr g x, zai gr h x] ++ [zai gr g w, zai gr h w])
 have hE : E9 gr.Q (eqE gr s g h x w) := hE
 have ch : zcq gr s ([[g], [h]].flatten ++ [zai gr g x, zai gr h x] ++ [zai gr g w, zai gr h w]) = some (eqE gr s g h x w) :=
  zis k (by omega) (by simp) (zxC k hg hh x w)
 unfold zel
 refine zaA (zaf (ztm k hg hh w) (zaf (ztm k hg hh x) (zaf (zpr (by simp) (by simp) (by simp)) (zaf ch ?_))))
 refine zac (ψ := (· = ([zai gr g w, zai gr h w], [eqE gr s g h x w], [(w + eqE gr s g h x w * x) % gr.Q]))) ?_ (by rintro y rfl; exact zab rfl)
 refine zay (fun i s' => s' = ([zai gr g w, zai gr h w], [eqE gr s g h x w], if i = 0 then [] else [(w + eqE gr s g h x w * x) % gr.Q])) rfl ?_ (by rintro s rfl; rfl)
 rintro i s' hi rfl
 have hi0 : i = 0 := by simpa using hi
 subst hi0
 refine zaD (k := 0) (by simp) (zaD (k := 0) (by simp) (zaq (by omega) (zaq (by simp) (zab ?_))))
 rw [(zxV (q := gr.Q) (by omega) (a := [w][0]) (t := [x][0]) hw hE hx).2]
 rfl
theorem zyl (p : Proof) : ze7 p p = some true := by
 unfold ze7
 rw [zrw, zrw, zrw]; rfl
theorem zwb (l : List Int) (x : Int) : x ∈ srt l ↔ x ∈ l := (List.mergeSort_perm l _).mem_iff
theorem zxL (l : List Int) : (srt l).Pairwise (· ≤ ·) := by
 have h := List.pairwise_mergeSort (le := fun x y : Int => decide (x ≤ y)) (fun a b c h1 h2 => by simp only [decide_eq_true_eq] at *; omega) (fun a b => by simp only [Bool.or_eq_true, decide_eq_true_eq]; omega) l
 exact h.imp fun h => by simpa using h
theorem zuL (l : List Int) : (zd4 (srt l)).Pairwise (· < ·) ∧ ∀ x, x ∈ zd4 (srt l) ↔ x ∈ l := by
 have hs := zxL l
 have hm := zwb l
 generalize srt l = s at hs hm
 have hle : ∀ a b (ha : a < s.length) (hb : b < s.length), a ≤ b → s[a] ≤ s[b] := fun a b ha hb h => by
  rcases Nat.lt_or_ge a b with h1 | h1
  ·exact List.pairwise_iff_getElem.1 hs a b ha hb h1
  ·have : a = b := by omega
   subst this; exact Int.le_refl _
 refine ⟨?_, fun x => ?_⟩
 ·unfold zd4
  rw [List.pairwise_map]
  have h1 : ((List.range s.length).filter fun j => j == 0 || s.getD j 0 != s.getD (j - 1) 0).Pairwise (· < ·) := List.Pairwise.filter _ List.pairwise_lt_range
  refine (List.Pairwise.and_mem.1 h1).imp ?_
  rintro a b ⟨ha, hb, hab⟩
  obtain ⟨a1, a2⟩ := List.mem_filter.1 ha
  obtain ⟨b1, b2⟩ := List.mem_filter.1 hb
  have a1 := List.mem_range.1 a1
  have b1 := List.mem_range.1 b1
  have b3 : s.getD b 0 ≠ s.getD (b - 1) 0 := by
   rw [Bool.or_eq_true] at b2
   rcases b2 with h | h
   ·have : b = 0 := by simpa using h
    omega
   ·simpa using h
  rw [zb9 b1, zb9 (show b - 1 < s.length by omega)] at b3
  rw [zb9 a1, zb9 b1]
  have c1 := hle a (b - 1) a1 (by omega) (by omega)
  have c2 := hle (b - 1) b (by omega) b1 (by omega)
  omega
 rw [← hm x]
 unfold zd4
 rw [List.mem_map]
 constructor
 ·rintro ⟨j, hj, rfl⟩
  have := List.mem_range.1 (List.mem_filter.1 hj).1
  rw [zb9 this]; exact List.getElem_mem this
 intro hx
 obtain ⟨j, hj, hjx⟩ := List.mem_iff_getElem.1 hx
 have key : ∀ n j (hj : j < s.length), j ≤ n → s[j] = x → ∃ i, ∃ h : i < s.length, s[i] = x ∧ (i = 0 ∨ s.getD i 0 ≠ s.getD (i - 1) 0) := by
  intro n
  induction n with
  | zero => intro j hj h0 e; exact ⟨j, hj, e, .inl (by omega)⟩
  | succ n ih =>
   intro j hj h0 e
   by_cases h : j = 0 ∨ s.getD j 0 ≠ s.getD (j - 1) 0
   ·exact ⟨j, hj, e, h⟩
   ·have h1 : j ≠ 0 := fun e => h (.inl e)
    have h2 : s.getD j 0 = s.getD (j - 1) 0 := Classical.byContradiction fun e => h (.inr e)
    rw [zb9 hj, zb9 (show j - 1 < s.length by omega)] at h2
    exact ih (j - 1) (by omega) (by omega) (h2.symm.trans e)
 obtain ⟨i, hi, h1, h2⟩ := key j j hj (Nat.le_refl _) hjx
 refine ⟨i, List.mem_filter.2 ⟨List.mem_range.2 hi, ?_⟩, by rw [zb9 hi]; exact h1⟩
 rcases h2 with h2 | h2
 ·simp [h2]
 rw [Bool.or_eq_true]; exact .inr (by simpa using h2)
def blP (gr : Group) (cs : List Int) (A : Int) (p : Partial) : Bool := trB p.Index && !zhf gr cs A p
def blV (gr : Group) (cs : List Int) (A : Int) (l : List Partial) : List Int := (l.filter (blP gr cs A)).map fun (p : Partial) => p.Index
theorem zwn {gr : Group} (k : OkG gr) (hq : 7 < gr.Q) (cs : List Int) (c : Cipher) {l : List Partial} (hb : bdP l) (hl : l.length ≤ 1000) (hd : dcC gr cs c l = true) : zbN gr cs c l = some (zd4 (srt (blV gr cs c.A l)), true) ∧ zdr gr cs c l = some (zd4 (srt (blV gr cs c.A l)), true) := by
 have hs : (okG gr && decide (7 < gr.Q)) = true := by rw [zfN.2 k]; simpa using hq
 have hS := (zsb k hq cs c hb hl).2.1
 rw [hd] at hS
 simp only [dcC, Bool.and_eq_true, decide_eq_true_eq] at hd
 obtain ⟨⟨a1, a3⟩, ⟨a4, a5⟩, a6⟩ := hd
 have hcs := List.all_eq_true.1 a3
 have hI : zaF gr cs c = some true := by
  unfold zaF
  rw [zf9, hs, (zmD k cs).1, zfY k, a1, a3, a4, a5]
  rfl
 have e15 : decide (14 < (l.length : Int)) = false := decide_eq_false (by omega)
 have hok := fun (p : Partial) (hp : p ∈ l) => zom k hcs a4 (hb p hp)
 have fle : ∀ i, ((l.take i).filter (blP gr cs c.A)).length ≤ i := fun i => by
  have h1 := List.length_filter_le (blP gr cs c.A) (l.take i)
  rw [List.length_take] at h1
  omega
 refine ⟨?_, ?_⟩
 ·unfold zbN
  rw [hI, e15]
  simp only [Option.bind_some, Bool.not_true, Bool.false_eq_true, if_false]
  refine zaA (zac (ψ := (· = blV gr cs c.A l)) (zay (fun i s => s = ((l.take i).filter (blP gr cs c.A)).map fun (p : Partial) => p.Index) rfl ?_ fun s hs => by rw [hs, List.take_length]; rfl) ?_)
  ·rintro i s hi rfl
   have hli := fle i
   refine zac (ψ := fun v => v = ((l.take (i + 1)).filter (blP gr cs c.A)).map fun (p : Partial) => p.Index) (zaD hi (zac (ψ := (· = blP gr cs c.A l[i])) ?_ ?_)) fun v hv => zab hv
   ·refine zaf (ziW _) ?_
    unfold blP
    refine zam (fun g => zaf (hok _ (List.getElem_mem hi)).1 (zab (by rw [g]; rfl))) fun g => zab (by rw [g]; rfl)
   rintro _ rfl
   rw [List.take_succ_eq_append_getElem hi, List.filter_append, List.map_append]
   refine zam (fun g => zaq (by simp; omega) (zab ?_)) fun g => zab ?_
   ·simp [g]
   simp [g]
  rintro _ rfl
  have hbl : (blV gr cs c.A l).length ≤ 1000 := by
   have := List.length_filter_le (blP gr cs c.A) l
   unfold blV
   rw [List.length_map]; omega
  unfold zcH zcc
  exact zaf (zdU (by omega)) (zaf (zdU (by rw [zjq]; omega)) (zab rfl))
 unfold zdr
 rw [hS]
 simp only [Option.bind_some, Bool.not_true, Bool.false_eq_true, if_false]
 refine zaA (zac (ψ := (· = zd4 (srt (blV gr cs c.A l)))) (zay (fun i s => s.Pairwise (· < ·) ∧ s.length ≤ i ∧ ∀ x, x ∈ s ↔ x ∈ ((l.take i).filter (blP gr cs c.A)).map fun (p : Partial) => p.Index) ⟨List.Pairwise.nil, by simp, by simp⟩ ?_ fun s ⟨s1, _, s3⟩ => ?_) (by rintro _ rfl; exact zab rfl))
 ·rintro i s hi ⟨s1, s2, s3⟩
  refine zac (ψ := fun (v : List Int) => v.Pairwise (· < ·) ∧ v.length ≤ i + 1 ∧ ∀ x, x ∈ v ↔ x ∈ ((l.take (i + 1)).filter (blP gr cs c.A)).map fun (p : Partial) => p.Index) (zaD hi (zac (ψ := (· = blP gr cs c.A l[i])) ?_ ?_)) fun v hv => zab hv
  ·refine zaf (zfG _ _ _) ?_
   unfold blP
   refine zam (fun g => zaf (hok _ (List.getElem_mem hi)).2 (zab ?_)) fun g => zab ?_
   ·have g : trB l[i].Index = true := g
    rw [g]; rfl
   have g : trB l[i].Index = false := g
   rw [g]; rfl
  rintro _ rfl
  rw [List.take_succ_eq_append_getElem hi, List.filter_append, List.map_append]
  refine zam (fun g => zac (zzr l[i].Index s1 (by omega)) fun r ⟨r1, r2, r3⟩ => zab ⟨r1, by omega, fun x => ?_⟩) fun g => zab ⟨s1, by omega, fun x => ?_⟩
  ·rw [s3, List.mem_append]
   simp [g]
  rw [r2, s3, List.mem_append]
  simp [g]
 obtain ⟨c1, c2⟩ := zuL (blV gr cs c.A l)
 refine zqH s1 c1 fun x => ?_
 rw [s3 x, c2 x, List.take_length]
 rfl
theorem zoy {gr : Group} {cs : List Int} {c : Cipher} {l : List Partial} (h : zaF gr cs c = some false ∨ 14 < l.length) (hd : ∃ v, zaF gr cs c = some v) : zbN gr cs c l = some ([], false) ∧ zaZ gr cs c l = some ([], false) := by
 obtain ⟨v, hv⟩ := hd
 unfold zbN zaZ
 rw [hv]
 cases v
 ·exact ⟨rfl, rfl⟩
 rcases h with h | h
 ·rw [hv] at h; cases h
 have e15 : decide (14 < (l.length : Int)) = true := decide_eq_true (by omega)
 rw [e15]; exact ⟨rfl, rfl⟩
theorem zxR {gr : Group} {f pts ws : List Int} (R : RtOk gr f pts) (hw : ∀ w ∈ ws, E9 gr.Q w) {c : Cipher} (hc : ziV gr c = true) : cbV gr (f.map (zai gr gr.G)) c (rtL gr c.A f pts ws) = (zdn gr [c.B, zai gr (zai gr c.A (zaS gr.Q f 0)) (-1)], true) := by
 have k := R.k
 have hq := k.q
 have hG := zgt k
 have hA := (zl7 hc).1
 have hB := (zl7 hc).2
 have hn := R.n
 have hl := R.l
 have hlen : (rtL gr c.A f pts ws).length = pts.length := by simp [rtL]
 have hcs : (f.map (zai gr gr.G)).all (zak gr) = true := List.all_eq_true.2 fun y hy => by
  obtain ⟨z, _, rfl⟩ := List.mem_map.1 hy; exact zi8 k hG _
 have hgd := zvS (ws := ws) R hA hw pts.length (Nat.le_refl _)
 have hd : (dcC gr (f.map (zai gr gr.G)) c (rtL gr c.A f pts ws) && decide ((f.map (zai gr gr.G)).length ≤ (gdI gr (f.map (zai gr gr.G)) c.A (rtL gr c.A f pts ws) (rtL gr c.A f pts ws).length).1.length)) = true := by
  unfold dcC
  rw [hlen, hgd, hcs, hA, hB]
  simp only [inB, List.length_map, List.length_range, Bool.and_true, Bool.and_eq_true, decide_eq_true_eq]
  exact ⟨⟨⟨by omega, by omega⟩, trivial, by omega⟩, by omega⟩
 unfold cbV
 rw [if_pos hd, hlen, hgd]
 have ht : ((List.range pts.length).map fun (i : Nat) => (i : Int)).take (f.map (zai gr gr.G)).length = (List.range pts.length).map fun (i : Nat) => (i : Int) := List.take_of_length_le (by simp only [List.length_map, List.length_range]; omega)
 rw [ht]
 have hX : cbX (rtL gr c.A f pts ws) ((List.range pts.length).map fun (i : Nat) => (i : Int)) = pts := by
  refine List.ext_getElem (by simp [cbX]) fun i h1 h2 => ?_
  simp only [cbX, List.getElem_map, List.getElem_range, Int.toNat_natCast]
  rw [zoi h2]; rfl
 have hY : cbY (rtL gr c.A f pts ws) ((List.range pts.length).map fun (i : Nat) => (i : Int)) = pts.map fun p => zai gr c.A (zaS gr.Q f p) := by
  refine List.ext_getElem (by simp [cbY]) fun i h1 h2 => ?_
  simp only [cbY, List.getElem_map, List.getElem_range, Int.toNat_natCast]
  rw [zoi (by simpa using h2)]; rfl
 rw [hX, hY, List.length_map, ← hl, zyQ R hA]
theorem zvs {code c0 : List Int} {at_ seed n : Int} {gr : Group} (hb : Bt code) (h : Cu code n (c0, at_, seed)) (hn : n ≤ 1000000000000000) (hg : Gw gr) {K : Nat} (hK : K ≤ 100) : Rn (zbS c0 at_ seed gr (K : Int)) (fun _ => True) := by
 unfold zbS
 have e : IntKind.i64.wrap ((K : Int) + 1) = ((K + 1 : Nat) : Int) := by rw [zap (by omega) (by omega)]; rfl
 rw [e]
 refine zac (zgk (m := K + 1) hb h (by omega) (by omega)) fun p ⟨⟨N, hN, hN2⟩, p2⟩ => ?_
 rw [hN]
 refine zac (ψ := fun x => x.2.length = N ∧ Cu code (n + 1200) x.1) (zfv N (fun j s => (s.2.2 = (N : Int) - j ∧ s.2.1.length = j) ∧ Cu code (n + 10 + 10 * j) s.1) ⟨⟨by simp, rfl⟩, p2.mono (by omega)⟩ ?_ ?_) fun x ⟨x1, x2⟩ => ?_
 ·rintro j ⟨⟨d0, d1, d2⟩, cs, m⟩ hj ⟨⟨h1, h2⟩, h5⟩
  have h1 : m = (N : Int) - j := h1
  have h2 : cs.length = j := h2
  subst h1
  refine zeR (by simp; omega) (zac (zhs hb h5 (by omega) hg) fun c ⟨_, _, c1⟩ => zaq (by dsimp only; omega) (zab ⟨⟨?_, by simp [h2]⟩, c1.mono (by push_cast; omega)⟩))
  show IntKind.i64.wrap ((N : Int) - j - 1) = _
  rw [zap (by omega) (by omega)]; push_cast; omega
 ·rintro ⟨⟨d0, d1, d2⟩, cs, m⟩ ⟨⟨h1, h2⟩, h5⟩
  have h1 : m = (N : Int) - N := h1
  subst h1
  exact zbu (by simp) (zab ⟨h2, h5.mono (by omega)⟩)
 refine zac (ziy hb x2 (by omega)) fun o o1 => ?_
 refine zac (ψ := fun y => Cu code (n + 1300) y.1) (zam (fun _ => zac (zgK hb o1 (by omega) hg) fun c ⟨_, _, c1⟩ => zaq (by omega) (zab (c1.mono (by omega)))) fun _ => zab (o1.mono (by omega))) fun y hy => ?_
 refine zac (ziy hb hy (by omega)) fun o o2 => ?_
 refine zac (ψ := fun _ => True) (zam (fun _ => zac (zgk (m := 2) hb o2 (by omega) (by omega)) fun q ⟨⟨M, hM, hM2⟩, q2⟩ => ?_) fun _ => zab trivial) fun y hy => zab trivial
 have e2 : IntKind.i64.wrap (24 + q.1) = ((24 + M : Nat) : Int) := by rw [zap (by omega) (by omega)]; omega
 rw [e2]
 refine zfv (24 + M) (fun j s => s.2 = ((24 + M : Nat) : Int) - j ∧ s.1.length = j) ⟨by simp, rfl⟩ ?_ ?_
 ·rintro j ⟨cs, m⟩ hj ⟨h1, h2⟩
  have h1 : m = ((24 + M : Nat) : Int) - j := h1
  have h2 : cs.length = j := h2
  subst h1
  refine zeR (by simp; omega) (zaq (by dsimp only; omega) (zab ⟨?_, by simp [h2]⟩))
  show IntKind.i64.wrap (((24 + M : Nat) : Int) - j - 1) = _
  rw [zap (by omega) (by omega)]; push_cast; omega
 rintro ⟨cs, m⟩ ⟨h1, h2⟩
 have h1 : m = ((24 + M : Nat) : Int) - ((24 + M : Nat) : Int) := h1
 subst h1
 exact zbu (by simp) (zab trivial)
theorem zz3 {code : List Int} (hb : Bt code) : Rn (zbP code) (fun z => PtB z.2.2.2 100) := by
 unfold zbP zdg
 refine zac (ψ := fun z => PtB z.2.2.2 100) ?_ fun z hz => zab hz
 refine zac (zpD hb (cu0 code) (by omega)) fun z ⟨z1, z2⟩ => zac (zuw hb z2 (by omega) z1) fun y ⟨Y, y2⟩ => zac (zur hb y2 (by omega) z1 Y) fun p ⟨p1, p2⟩ => zac (zer hb p2 (by omega)) fun q ⟨_, _, _, _, q5⟩ => ?_
 refine zac (ψ := fun x => PtB x.2.2.2.2.2.2 100) ?_ fun x hx => zab hx
 refine zam (fun _ => zac (zvs (K := 8) hb q5 (by omega) z1 (by omega)) fun w _ => zab p1) fun _ => zam (fun _ => zac (zlm hb q5 (by omega) z1) fun w _ => zab p1) fun _ => zam (fun _ => ?_) fun _ => zab p1
 refine zeC (fun s => PtB s.2 100 ∧ Cu code (10000 + 10 * s.2.length) s.1) (fun s => 16 - s.2.length) ⟨p1, q5.mono (by omega)⟩ ?_
 rintro ⟨⟨d0, d1, d2⟩, l⟩ ⟨h1, h2⟩
 have h1 : PtB l 100 := h1
 have hl := h1.1
 have h2 : Cu code (10000 + 10 * l.length) (d0, d1, d2) := h2
 refine zac (zgk (m := 2) hb h2 (by omega) (by omega)) fun w ⟨⟨M, hM, hM2⟩, w2⟩ => ?_
 have e2 : IntKind.i64.wrap (14 + w.1) = ((14 + M : Nat) : Int) := by rw [zap (by omega) (by omega)]; omega
 rw [e2]
 refine zam (fun g => zaq (by dsimp only; omega) (zab ⟨⟨⟨?_, fun p hp => ?_⟩, w2.mono (by simp; omega)⟩, ?_⟩)) fun _ => zab h1
 ·have g : l.length < 14 + M := by simp at g; omega
  simp; omega
 ·rcases List.mem_append.1 hp with h | h
  ·exact h1.2 p h
  rw [List.mem_singleton.1 h]; simp
 have g : l.length < 14 + M := by simp at g; omega
 simp; omega
theorem zyq {code : List Int} (hb : Bt code) : Rn (zb5 code) (fun _ => True) := by
 unfold zb5
 exact zac (zpD hb (cu0 code) (by omega)) fun z ⟨z1, z2⟩ => zac (zlm hb z2 (by omega) z1) fun c c1 => zac (zer hb c1 (by omega)) fun p ⟨_, _, _, _, p5⟩ => zac (zer hb p5 (by omega)) fun q ⟨_, _, _, _, q5⟩ => zac (znE hb q5 (by omega) z1) fun e ⟨_, _, e3⟩ => zac (znE hb e3 (by omega) z1) fun f _ => zab trivial
noncomputable def pdC (gr : Group) (c : Cipher) (i x w : Int) : Bool := (okG gr && decide (7 < gr.Q)) && (ziV gr c && (trB i && (zdN gr x && zdN gr w)))
noncomputable def pdV (gr : Group) (c : Cipher) (i x w : Int) : Partial × Bool := if pdC gr c i x w = true then (zhh gr c.A i x w, true) else (⟨0, 0, ⟨[], [], []⟩⟩, false)
theorem zFy (gr : Group) (c : Cipher) (i x w : Int) : zcT gr c i x w = some (pdV gr c i x w) ∧ zcQ gr c i x w = some (pdV gr c i x w) := by
 unfold zcT zcQ pdV pdC
 rw [zf9, zgf]
 cases hk : (okG gr && decide (7 < gr.Q))
 ·exact ⟨rfl, rfl⟩
 have k := zfN.1 (Bool.and_eq_true_iff.1 hk).1
 have hp := k.p
 have hq := k.q
 rw [zfY k, zpT k, ziW, zfG, znP (gr := gr) (by omega) (by omega), zkR (gr := gr) (by omega) (by omega), show (zak gr c.A && zak gr c.B) = ziV gr c from rfl, show (decide (1 ≤ i) && decide (i ≤ 7)) = trB i from rfl]
 simp only [List.all_cons, List.all_nil, Bool.and_true]
 cases h1 : ziV gr c
 ·exact ⟨rfl, rfl⟩
 cases h2 : trB i
 ·exact ⟨rfl, rfl⟩
 cases h3 : (zdN gr x && zdN gr w)
 ·exact ⟨rfl, rfl⟩
 have h3 := Bool.and_eq_true_iff.1 h3
 have hx := zg2.1 h3.1
 have hw := zg2.1 h3.2
 have hA := (zl7 h1).1
 refine ⟨?_, ?_⟩
 ·have := zs5 k (c := c) hA (i := i) hx hw
  simp [this]
 have e1 := zAu k (s := prtS) (by decide) (zgt k) hA hx hw
 have e2 : zcw gr c i x w = some (zhh gr c.A i x w) := by
  unfold zcw
  rw [pwS k (zhL k hA), Option.bind_some, e1]
  rfl
 simp [e2]
theorem zsT {gr : Group} (k : OkG gr) (hq : 7 < gr.Q) (cs : List Int) (c : Cipher) : zaF gr cs c = some ((inB 1 7 cs.length && cs.all (zak gr)) && (zak gr c.A && zak gr c.B)) := by
 have hs : (okG gr && decide (7 < gr.Q)) = true := by rw [zfN.2 k]; simpa using hq
 unfold zaF
 rw [zf9, hs, (zmD k cs).1, zfY k]
 cases (inB 1 7 cs.length && cs.all (zak gr)) <;> rfl
theorem zwJ {gr : Group} (k : OkG gr) (hq : 7 < gr.Q) (cs : List Int) (c : Cipher) {l : List Partial} (hb : bdP l) (hl : l.length ≤ 1000) : zaZ gr cs c l = some (if dcC gr cs c l = true then ((gdI gr cs c.A l l.length).1, true) else ([], false)) ∧ (dcC gr cs c l = false → zbN gr cs c l = some ([], false)) := by
 have hI := zsT k hq cs c
 have e15 : decide (14 < (l.length : Int)) = !decide (l.length ≤ 14) := by rw [← decide_not]; exact decide_eq_decide.2 (by omega)
 have hdc : dcC gr cs c l = (((inB 1 7 cs.length && cs.all (zak gr)) && (zak gr c.A && zak gr c.B)) && decide (l.length ≤ 14)) := by unfold dcC; simp only [Bool.and_assoc]
 cases hd : dcC gr cs c l
 ·have hn := zoy (gr := gr) (cs := cs) (c := c) (l := l) (by
   rw [hI]
   rw [hd] at hdc
   rcases Bool.and_eq_false_iff.1 hdc.symm with h | h
   ·rw [h]; exact .inl rfl
   ·exact .inr (by simpa using h)) ⟨_, hI⟩
  exact ⟨hn.2, fun _ => hn.1⟩
 refine ⟨?_, fun h => Bool.noConfusion h⟩
 rw [hd] at hdc
 obtain ⟨h1, h2⟩ := Bool.and_eq_true_iff.1 hdc.symm
 obtain ⟨h3, h4⟩ := Bool.and_eq_true_iff.1 h1
 have hcs := List.all_eq_true.1 (Bool.and_eq_true_iff.1 h3).2
 have g := zsR k hcs (Bool.and_eq_true_iff.1 h4).1 hl hb
 unfold zaZ
 rw [hI, h1, e15, h2]
 simp [g.1]
theorem zzq {q : Int} (c x : Int) : zaS q [c] x = c % q := by
 rw [zg7, zdq]; simp [evI]
theorem zAx (a b : List Int) (h0 : ∀ x ∈ a, 0 ≤ x ∧ x ≤ 255) (h1 : ∀ x ∈ b, 0 ≤ x ∧ x ≤ 255) (hl0 : a.length ≤ 1048576) (hl1 : b.length ≤ 1048576) : zdR a b = some true := by
 have hba : Bt a := ⟨h0, by omega⟩
 have hbb : Bt b := ⟨h1, by omega⟩
 unfold zdR
 refine zaA (zam (fun _ => zab rfl) fun _ => ?_)
 refine zac (zz3 hba) fun d hd => ?_
 obtain ⟨gr, cs, c, l⟩ := d
 have hd : PtB l 100 := hd
 have hll : l.length ≤ 1000 := by have := hd.1; omega
 have hbl : bdP l := fun p hp => by have := hd.2 p hp; omega
 dsimp only
 have main : ∃ v : Int × Bool, za4 gr cs c l = some v ∧ zby gr cs c l = some v ∧ ∃ g : List Int × Bool, zaZ gr cs c l = some g ∧ (v.2 = true → g.2 = true) ∧ ∃ m : List Int × Bool, zbN gr cs c l = some m ∧ m.2 = g.2 ∧ (g.2 = true → zdr gr cs c l = some m ∧ v.2 = decide (cs.length ≤ g.1.length)) := by
  by_cases hk : OkG gr ∧ 7 < gr.Q
  ·obtain ⟨k, hq⟩ := hk
   obtain ⟨c1, c2⟩ := zET k hq cs c hbl hll
   obtain ⟨g1, g2⟩ := zwJ k hq cs c hbl hll
   refine ⟨_, c1, c2, _, g1, ?_⟩
   cases hdc : dcC gr cs c l
   ·have : cbV gr cs c l = (0, false) := by unfold cbV; rw [hdc]; rfl
    rw [this]
    exact ⟨fun h => Bool.noConfusion h, _, g2 hdc, rfl, fun h => Bool.noConfusion h⟩
   ·obtain ⟨b1, b2⟩ := zwn k hq cs c hbl hll hdc
    refine ⟨fun _ => rfl, _, b1, rfl, fun _ => ⟨b2, ?_⟩⟩
    unfold cbV
    rw [hdc, Bool.true_and]
    show (if decide (cs.length ≤ (gdI gr cs c.A l l.length).1.length) = true then _ else _ : Int × Bool).2 = decide (cs.length ≤ (gdI gr cs c.A l l.length).1.length)
    cases decide (cs.length ≤ (gdI gr cs c.A l l.length).1.length) <;> rfl
  ·have hs : (okG gr && decide (7 < gr.Q)) = false := by
    cases h : (okG gr && decide (7 < gr.Q))
    ·rfl
    ·obtain ⟨h1, h2⟩ := Bool.and_eq_true_iff.1 h
     exact absurd ⟨zfN.1 h1, by simpa using h2⟩ hk
   have hI : zaF gr cs c = some false := by
    unfold zaF; rw [zf9, hs]; rfl
   obtain ⟨n1, n2⟩ := zoy (l := l) (.inl hI) ⟨_, hI⟩
   refine ⟨(0, false), ?_, ?_, _, n2, fun h => Bool.noConfusion h, _, n1, rfl, fun h => Bool.noConfusion h⟩
   ·unfold za4; rw [n2]; rfl
   ·unfold zby zdb; rw [zgf, hs]; rfl
 obtain ⟨v, v1, v2, g, g1, g2, m, m1, m2, m3⟩ := main
 refine zaf v1 (zaf v2 (zac (zyq hbb) fun y _ => ?_))
 obtain ⟨h, e, i, x, w⟩ := y
 dsimp only
 obtain ⟨p1, p2⟩ := zFy h e i x w
 refine zaf p1 (zaf p2 ?_)
 refine zac (ψ := (· = false)) (zbu (by simp) (zbu (by simp) (zbu (by simp) (zbu (by simp) (zbu (by simp) (zaf (zyl _) (zab rfl))))))) ?_
 rintro _ rfl
 refine zbu rfl ?_
 refine zac (ψ := (· = .inl ())) (zam (fun hone => ?_) fun _ => zab rfl) ?_
 ·have hc : pdC h e i x w = true := by
   cases hc : pdC h e i x w
   ·unfold pdV at hone; rw [hc] at hone; simp at hone
   ·rfl
  have ep : pdV h e i x w = (zhh h e.A i x w, true) := by unfold pdV; rw [if_pos hc]
  rw [ep]
  simp only [pdC, Bool.and_eq_true, decide_eq_true_eq] at hc
  obtain ⟨⟨k, hq⟩, hce, hti, hx, hw⟩ := hc
  have k := zfN.1 k
  have hp := k.p
  have hqq := k.q
  have hx9 := zg2.1 hx
  have hw9 := zg2.1 hw
  have hA := (zl7 hce).1
  have hG := zgt k
  have hti2 := hti
  simp only [trB, Bool.and_eq_true, decide_eq_true_eq] at hti2
  have R : RtOk h [x] [i] := ⟨k, hq, fun c hc => by rw [List.mem_singleton] at hc; subst hc; exact hx9, by simp, fun y hy => by rw [List.mem_singleton] at hy; subst hy; exact hti2, by simp, rfl⟩
  have hws : ∀ z ∈ [w], E9 h.Q z := fun z hz => by rw [List.mem_singleton] at hz; subst hz; exact hw9
  have hpx : ∀ y, zaS h.Q [x] y = x := fun y => by rw [zzq, Int.emod_eq_of_lt hx9.1 hx9.2]
  have hrl : rtL h e.A [x] [i] [w] = [zhh h e.A i x w] := by
   show [zhh h e.A i (zaS h.Q [x] i) w] = _
   rw [hpx]
  have hcm : ([x].map (zai h h.G)) = [zai h h.G x] := rfl
  have cb := zxR R hws hce
  rw [hrl, hcm, hpx] at cb
  have ok := zvL R hA hws (i := 0) (by simp)
  rw [hrl, hcm] at ok
  have ok : zhf h [zai h h.G x] e.A (zhh h e.A i x w) = true := ok
  have e1 : zfD h h.G x = some (zai h h.G x, true) := by
   unfold zfD
   rw [zlw, zfN.2 k, zma k, hG, znf (by omega) (by omega), hx, pwI k (r_G k)]
   rfl
  have hy := zi8 k hG x
  have hbd : bdP [zhh h e.A i x w] := fun p hp => by rw [List.mem_singleton] at hp; subst hp; simp [zhh, zlR]
  have e2 : zc2 h [zai h h.G x] e (zhh h e.A i x w) = some (true, true) := by
   unfold zc2
   rw [zsT k hq, (zom k (cs := [zai h h.G x]) (fun y hy2 => by rw [List.mem_singleton] at hy2; subst hy2; exact hy) hA (by simp [zhh, zlR])).1, ok]
   have h5 : (zak h e.A && zak h e.B) = true := hce
   simp [hy, h5, inB]
  have e3 := (zsb k hq [zai h h.G x] e hbd (by simp)).1
  rw [cb] at e3
  have e4 := zvV k hx hce
  refine zaf e1 (zaf e2 (zaf e3 (zaf e4 ?_)))
  refine zac (ψ := (· = false)) (zbu rfl (zbu rfl (zbu rfl (zbu rfl (zbu rfl (zab ?_)))))) ?_
  ·show (zdn h [e.B, zai h (zai h e.A x) (-1)] != zrt h x e) = false
   simp [zrt]
  rintro _ rfl
  exact zbu rfl (zab rfl)
 rintro _ rfl
 refine zaf g1 (zaf m1 ?_)
 refine zac (ψ := (· = false)) (zbu (by rw [m2]; simp) (zam (fun hv => zab (by rw [g2 hv]; rfl)) fun _ => zab rfl)) ?_
 rintro _ rfl
 refine zbu rfl (zam (fun _ => zab rfl) fun hg => ?_)
 have hg : g.2 = true := by simpa using hg
 obtain ⟨s1, s2⟩ := m3 hg
 refine zaf s1 (zac (ψ := (· = true)) (zeR (by rw [m2, hg]) (zaf zrw (zeR rfl (zab ?_)))) (by rintro _ rfl; exact zab rfl))
 rw [s2]
 simp
end Go.Pm
