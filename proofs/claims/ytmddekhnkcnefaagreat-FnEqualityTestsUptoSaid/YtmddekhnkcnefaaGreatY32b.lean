/-
  FnEqualityTests: plain laws.
  No condition.
-/
import Derived.Test.YtmddekhnkcnefaaGreatY32
namespace Go.Pm
open Go.Am
set_option linter.unusedVariables false
set_option linter.unusedSimpArgs false
theorem zxG (gr : Group) (key : Int) (c : Cipher) (r w : Int) : zdF gr key c r w = some (psV gr key c r w) ∧ zdH gr key c r w = some (psV gr key c r w) := by
 unfold psV
 by_cases k : OkG gr
 ·have hp := k.p
  have hq := k.q
  have ex : ∀ y, zby gr y = some (zcQ gr y) := fun y => znQ (by omega) (by omega) y
  rw [ze4.2 k, Bool.true_and]
  unfold zdF zeE zdH zgy psC
  rw [zeK, ziT, ze4.2 k, zlR k, zes k, zgS k, zlV k, ex, zjS (by omega) (by omega), show (zah gr c.A && zah gr c.B) = zaX gr c from rfl]
  simp only [List.all_cons, List.all_nil, Bool.and_true]
  cases h1 : zah gr key
  ·exact ⟨rfl, rfl⟩
  cases h2 : zaX gr c
  ·exact ⟨rfl, rfl⟩
  cases h3 : zcQ gr r
  ·exact ⟨rfl, rfl⟩
  have hr := zfN.1 h3
  have e1 := zA6 k h1 h2 r
  have e2 := zBc k h1 h2 r
  have e3 : zbg gr key c (reV gr key c r) = some ⟨gr.G, zaj gr gr.G r, key, zaj gr key r⟩ := by
   unfold zbg
   rw [(zpw k (zpJ k h1 h2 r) h2).1, zqK k h1 h2]
   rfl
  have e4 : zd2 gr ⟨gr.G, zaj gr gr.G r, key, zaj gr key r⟩ r = some (true, true) := by
   unfold zd2 zd8 zeQ
   rw [zeK, ze4.2 k, zhN k, ex, h3]
   simp [zeV k, h1, zeA k (zeV k) r, zeA k h1 r, pwI k (r_G k) r, pwI k (zdm k h1) r]
  have ha : ∀ y, zba gr [y] = some (zcQ gr y) := fun y => by
   rw [zoS (gr := gr) (by omega) (by omega)]; simp
  have e5 : zei gr samS ⟨gr.G, zaj gr gr.G r, key, zaj gr key r⟩ r w = some (if zcQ gr w = true then (eqP gr samS gr.G key r w, true) else (⟨[], [], []⟩, false)) := by
   unfold zei zdG zcJ zdO
   rw [e4, zeK, ze4.2 k]
   simp only [Option.bind_some, zqe k (zeV k) h1, ha, h3, show ix [[gr.G], [key]] 0 = some [gr.G] from rfl, show decide ((samS.size : Int) ≤ 40) = true from rfl]
   cases h4 : zcQ gr w
   ·rfl
   ·simp [zA5 k (s := samS) (by decide) (zeV k) h1 hr (zfN.1 h4)]
  refine ⟨?_, ?_⟩
  ·simp only [Option.bind_some, Bool.not_true, Bool.false_eq_true, if_false, Bool.true_and, e1, e3]
   rw [show (⟨#[115, 97, 109, 101]⟩ : ByteArray) = samS from rfl, e5]
   cases h4 : zcQ gr w <;> rfl
  cases h4 : zcQ gr w
  ·rfl
  have := zAI k (s := samS) (by decide) (zeV k) h1 hr (zfN.1 h4)
  simp [e2, this]
 rw [ze9 k]
 unfold zdF zeE zdH zgy
 rw [zeK, ziT, ze9 k]
 exact ⟨rfl, rfl⟩
theorem zuF {gr : Group} (k : OkG gr) {key : Int} (hk : zah gr key = true) {c : Cipher} (hc : zaX gr c = true) {r w : Int} (hr : zcQ gr r = true) (hw : zcQ gr w = true) : zeh gr key c (reV gr key c r) (eqP gr samS gr.G key r w) = some (true, true) := by
 have hd := zpJ k hk hc r
 unfold zeh zbg
 rw [zeK, ze4.2 k, zlR k, zes k, zes k, hk, show (zah gr c.A && zah gr c.B) = true from hc, show (zah gr (reV gr key c r).A && zah gr (reV gr key c r).B) = true from hd, (zpw k hd hc).1, zqK k hk hc]
 have h := (zok k (s := samS) (by decide) (e := ⟨gr.G, zaj gr gr.G r, key, zaj gr key r⟩) (zeV k) hk (zeA k (zeV k) r) (zeA k hk r) (p := eqP gr samS gr.G key r w) (by simp [eqP])).1
 rw [zCv k (zeV k) hk (zfN.1 hr).1 (zfN.1 hw).1] at h
 simp [h]
theorem zrC {gr : Group} (k : OkG gr) {a b : Cipher} (ha : R9 a.A ∧ R9 a.B) (hb : R9 b.A ∧ R9 b.B) : Rn (zcT gr [a, b]) (fun c => R9 c.A ∧ R9 c.B) :=
 zyb k fun c hc => by
  simp only [List.mem_cons, List.not_mem_nil, or_false] at hc
  rcases hc with rfl | rfl
  ·exact ha
  ·exact hb
theorem zBl {gr : Group} (k : OkG gr) {key : Int} (hk : R9 key) {c : Cipher} (hc : R9 c.A ∧ R9 c.B) (r : Int) : Rn (ze2 gr key c r) (fun z => R9 z.A ∧ R9 z.B) := by
 unfold ze2 zfL
 refine zac (ψ := fun z => R9 z.A ∧ R9 z.B) (zaf (pwS k (r_G k) _) (zaf (pwS k hk _) (zaf (m2S k (x := 1) ⟨by omega, by omega⟩ (zb9 k _ _)) (zab ⟨zb9 k _ _, zjU k ⟨by omega, by omega⟩ (zb9 k _ _)⟩)))) fun z hz => ?_
 exact zac (zrC k hc hz) fun y hy => zab hy
theorem zrB {gr : Group} (k : OkG gr) {a b : Cipher} (ha : R9 a.A ∧ R9 a.B) (hb : R9 b.A ∧ R9 b.B) : Rn (zdX gr a b) (fun z => R9 z.A ∧ R9 z.B) := by
 unfold zdX
 exact zaf (zlw k hb.1.1 hb.1.2) (zaf (m2S k ha.1 (zb9 k _ _)) (zaf (zlw k hb.2.1 hb.2.2) (zaf (m2S k ha.2 (zb9 k _ _)) (zab ⟨zjU k ha.1 (zb9 k _ _), zjU k ha.2 (zb9 k _ _)⟩))))
theorem zBn {gr : Group} (k : OkG gr) {s : ByteArray} (hs : s.size ≤ 40) {a b : Int} (ha : R9 a) (hb : R9 b) (x w : Int) : Rn (zcm gr s [[a], [b]] [x] [w]) (lp 2) := by
 have hq := k.q
 have im : ∀ e, zbX gr [[a], [b]] [e] = some [zaj gr a e, zaj gr b e] := fun e => by
  unfold zbX
  have hr : ∀ r ∈ [[a], [b]], zcV gr r [e] = some (zcs gr r [e] 1) := fun r hr => by
   simp only [List.mem_cons, List.not_mem_nil, or_false] at hr
   rcases hr with rfl | rfl
   ·exact zg2 k (fun y hy => by rw [List.mem_singleton] at hy; subst hy; exact ha) (by simp)
   ·exact zg2 k (fun y hy => by rw [List.mem_singleton] at hy; subst hy; exact hb) (by simp)
  rw [zqb (l := [[a], [b]]) (f := fun r => zcs gr r [e] 1) []]
  ·simp [zjQ k]
  ·intro j hj s hs
   rw [zea hj, Option.bind_some, hr _ (List.getElem_mem hj), Option.bind_some, zeo (by simp at hs hj; omega)]
 have hd : ([[a], [b]].flatten ++ [zaj gr a x, zaj gr b x] ++ [zaj gr a w, zaj gr b w]).all zb6 = true := by
  refine zpn fun z hz => ?_
  simp at hz
  rcases hz with rfl | rfl | rfl | rfl | rfl | rfl
  ·exact ha
  ·exact hb
  ·exact zb9 k _ _
  ·exact zb9 k _ _
  ·exact zb9 k _ _
  ·exact zb9 k _ _
 unfold zcm
 refine zaf (im w) (zaf (im x) (zaf (zlr (by simp) (by simp) (by simp)) (zaf (zf8 k (by omega) (by simp) hd) ?_)))
 refine zac (ψ := fun (s : List Int × List Int × List Int) => s.1.length ≤ 2 ∧ s.2.1.length ≤ 2 ∧ s.2.2.length ≤ 2) (zat (fun i s => s.1.length ≤ 2 ∧ s.2.1.length ≤ 2 ∧ s.2.2.length ≤ i) (by simp) ?_ fun s h => ⟨h.1, h.2.1, by show s.2.2.length ≤ 2; have := h.2.2; have e : [x].length = 1 := rfl; omega⟩) fun s h => zab h
 rintro j s hj ⟨h1, h2, h3⟩
 have hj' : j < 1 := by simpa using hj
 exact zaz hj (zaz (l := [w]) (show j < [w].length by simpa using hj') (zav (by omega) (zav (by omega) (zab ⟨h1, h2, by simp; omega⟩))))
theorem zwW {gr : Group} (k : OkG gr) {s : ByteArray} (hs : s.size ≤ 40) {a b y z : Int} (ha : R9 a) (hb : R9 b) (hy : R9 y) (hz : R9 z) (p : Proof) : Rn (zdK gr s [[a], [b]] [y, z] p) (fun _ => True) := by
 have hp := k.p
 have hq := k.q
 unfold zdK
 refine zac (ψ := fun v => v = false → (p.Commits.length = 2 ∧ p.Challenges.length = 1 ∧ p.Responses.length = 1) ∧ p.Commits.all (zah gr) = true) ?_ fun v hv => ?_
 ·refine zal (fun _ => zab fun h => Bool.noConfusion h) fun g1 => zal (fun _ => zab fun h => Bool.noConfusion h) fun g2 => zaf (show ix [[a], [b]] 0 = some [a] from rfl) (zal (fun _ => zab fun h => Bool.noConfusion h) fun g3 => zaf (zlV k _) (zal (fun _ => zab fun h => Bool.noConfusion h) fun g4 => zaf (zjS (by omega) (by omega) _) (zab fun _ => ?_)))
  simp at g1 g2 g3 g4
  exact ⟨⟨by omega, by omega, by omega⟩, List.all_eq_true.2 g4⟩
 refine zal (fun _ => zab trivial) fun g => ?_
 obtain ⟨⟨l1, l2, l3⟩, l4⟩ := hv (by simpa using g)
 have hc := zhc k l4
 have hd : ([[a], [b]].flatten ++ [y, z] ++ p.Commits).all zb6 = true := by
  refine zpn fun x hx => ?_
  rcases List.mem_append.1 hx with h | h
  ·simp at h
   rcases h with rfl | rfl | rfl | rfl <;> assumption
  ·exact hc x h
 refine zaz (k := 0) (by omega) (zaf (zlr (by simp) (by simp) (by omega)) (zaf (zf8 k (by omega) (by simp; omega) hd) (zal (fun _ => zab trivial) fun _ => ?_)))
 refine zac (ψ := fun _ => True) (zat (fun _ _ => True) trivial ?_ fun _ _ => trivial) fun v _ => by cases v <;> exact zab trivial
 intro i _ hi _
 have hi : i < 2 := hi
 have hi2 : i < p.Commits.length := by omega
 have hr1 : ∀ x ∈ ([[a], [b]][i]'(by simpa using hi)), 0 ≤ x ∧ x ≤ 2000000000 := by
  rcases (show i = 0 ∨ i = 1 by omega) with rfl | rfl
  ·intro x hx; simp at hx; subst hx; exact ha
  ·intro x hx; simp at hx; subst hx; exact hb
 have hr2 : ([[a], [b]][i]'(by simpa using hi)).length ≤ p.Responses.length := by
  rcases (show i = 0 ∨ i = 1 by omega) with rfl | rfl <;> simp <;> omega
 have hr3 : R9 ([y, z][i]'(by simpa using hi)) := by
  rcases (show i = 0 ∨ i = 1 by omega) with rfl | rfl
  ·exact hy
  ·exact hz
 exact zaz (by simpa using hi) (zaz hi2 (zaz (by simpa using hi) (zaf (zg2 k hr1 hr2) (zaf (pwS k hr3 _) (zaf (m2S k (hc _ (List.getElem_mem hi2)) (zb9 k _ _)) (zal (fun _ => zab trivial) fun _ => zab trivial))))))
theorem zw9 {gr : Group} (k : OkG gr) {c : Cipher} (hc : R9 c.A ∧ R9 c.B) (b : Blind) : Rn (zda gr c b) (fun v => v = true → zaX gr b.Value = true) := by
 unfold zda zcg
 refine zac (ψ := fun v => v = false → zaX gr b.Value = true) ?_ fun v hv => ?_
 ·refine zaf (zf4 _ _ _) (zal (fun _ => zab fun h => Bool.noConfusion h) fun _ => zaf (zgS k _) (zal (fun _ => zab fun h => Bool.noConfusion h) fun g => ?_))
  have g : zaX gr b.Value = true := by simpa [zaX] using g
  exact zaf (zna _) (zal (fun _ => zaf (zna _) (zab fun _ => g)) fun _ => zab fun _ => g)
 refine zal (fun _ => zab fun h => Bool.noConfusion h) fun g => ?_
 have g := hv (by simpa using g)
 exact zac (zac (zwW k (s := blS) (by decide) hc.1 hc.2 (zdm k (zbk g).1) (zdm k (zbk g).2) b.Pi) fun _ _ => zab trivial) fun _ _ => zab fun _ => g
def BlB (l : List Blind) (n : Nat) : Prop := l.length ≤ n ∧ ∀ b ∈ l, b.Pi.Commits.length ≤ 10
theorem zvm {gr : Group} (k : OkG gr) {c : Cipher} (hc : R9 c.A ∧ R9 c.B) {l : List Blind} (hl : l.length ≤ 1000) : Rn (zdn gr c l) (fun z => R9 z.1.A ∧ R9 z.1.B) := by
 unfold zdn
 have o1 : R9 1 := ⟨by omega, by omega⟩
 refine zac (ψ := fun v => R9 v.1 ∧ R9 v.2.1) (zat (fun i s => (R9 s.1 ∧ R9 s.2.1) ∧ s.2.2.length ≤ i) ⟨⟨o1, o1⟩, by simp⟩ ?_ fun s h => h.1) fun v hv => zab hv
 rintro i s hi ⟨h1, h2⟩
 refine zac (ψ := fun (v : Int × Int × List Int) => (R9 v.1 ∧ R9 v.2.1) ∧ v.2.2.length ≤ i + 1) ?_ fun v hv => zab hv
 refine zaz hi (zac (ψ := fun v => v = true → zaX gr l[i].Value = true) ?_ fun v hv => zal (fun g => ?_) fun _ => zab ⟨h1, by show s.2.2.length ≤ _; omega⟩)
 ·refine zaf (zn2 _ _) (zal (fun _ => zac (zw9 k hc _) fun v hv => zab hv) fun _ => zab fun h => Bool.noConfusion h)
 have g := hv g
 exact zac (zrC k h1 ⟨zdm k (zbk g).1, zdm k (zbk g).2⟩) fun w hw => zav (by omega) (zab ⟨hw, by simp; omega⟩)
theorem zuQ {code c0 : List Int} {at_ seed n : Int} {gr : Group} {K : Nat} (k : OkG gr) (hb : Bt code) (h : Cu code n (c0, at_, seed)) (hn : n ≤ 1000000000000000) (hg : Gw gr) {c : Cipher} (hc : R9 c.A ∧ R9 c.B) (hK : K ≤ 100) : Rn (zcf c0 at_ seed gr c (K : Int)) (fun z => BlB z.1 K ∧ Cu code (n + 10000) z.2) := by
 have hq := k.q
 have hp := k.p
 unfold zcf
 refine zac (ψ := fun _ => True) (zaf (ziT _) (zal (fun _ => zab trivial) fun _ => zaf (zgS k _) (zab trivial))) fun v _ => zal (fun _ => zab ⟨⟨by simp, fun b hb => by simp at hb⟩, h.mono (by omega)⟩) fun _ => ?_
 refine zac (ψ := fun v => BlB v.2 K ∧ Cu code (n + 10000) v.1) (zgT K (fun j s => s.2.2 = (j : Int) + 1 ∧ BlB s.2.1 j ∧ Cu code (n + 60 * j) s.1) ⟨rfl, ⟨by simp, fun b hb => by simp at hb⟩, by simpa using h⟩ ?_ ?_) fun v hv => zab hv
 ·rintro j ⟨⟨s0, s1, s2⟩, l, m⟩ hj ⟨h1, h2, h3⟩
  have h1 : m = (j : Int) + 1 := h1
  have h2 : BlB l j := h2
  have hll := h2.1
  subst h1
  refine zfV (by simp; omega) (zac (zf9 hb h3 (by omega)) fun z ⟨z1, _, _, z4, z5⟩ => zac (zhY hb z5 (by omega) (by omega)) fun e ⟨_, _, _, e4⟩ => ?_)
  unfold zgJ zhO
  refine zac (ψ := fun b => lp 2 b.Pi) (zac (ψ := fun _ => True) (zaf (pwS k hc.1 _) (zaf (pwS k hc.2 _) (zab trivial))) fun _ _ => zac (zBn k (s := blS) (by decide) hc.1 hc.2 _ _) fun p hp => zab hp) fun b hb1 => ?_
  have hbc := hb1.1
  refine zac (zf9 hb e4 (by omega)) fun q ⟨_, _, _, _, q5⟩ => ?_
  refine zac (ψ := fun v => v.2.2.2.2.1.length ≤ 10 ∧ Cu code (n + 60 * (j : Int) + 50) v.1) ?_ fun v ⟨v1, v2⟩ => zav (by dsimp only; omega) (zab ⟨?_, ⟨by simp; omega, fun y hy => ?_⟩, v2.mono (by push_cast; omega)⟩)
  ·refine zal (fun _ => zac (zhi hb q5 (by omega) hg) fun w ⟨_, _, w3⟩ => zab ⟨by show b.Pi.Commits.length ≤ 10; omega, w3.mono (by omega)⟩) fun _ => zal (fun _ => zac (zfg hb q5 (by omega) (by simp)) fun w ⟨_, w2⟩ => zab ⟨by show b.Pi.Commits.length ≤ 10; omega, w2.mono (by omega)⟩) fun _ => zal (fun _ => zac (zzb hb q5 (by omega) hg hb1 (by omega)) fun w ⟨w1, w2⟩ => zab ⟨by show w.1.Commits.length ≤ 10; have := w1.1; omega, w2.mono (by omega)⟩) fun _ => zal (fun _ => zab ⟨by show b.Pi.Commits.length ≤ 10; omega, q5.mono (by omega)⟩) fun _ => zab ⟨by show b.Pi.Commits.length ≤ 10; omega, q5.mono (by omega)⟩
  ·show IntKind.i64.wrap ((j : Int) + 1 + 1) = _
   rw [zaq (by omega) (by omega)]; push_cast; rfl
  rcases List.mem_append.1 hy with h | h
  ·exact h2.2 y h
  rw [List.mem_singleton.1 h]; exact v1
 rintro ⟨⟨s0, s1, s2⟩, l, m⟩ ⟨h1, h2, h3⟩
 have h1 : m = (K : Int) + 1 := h1
 subst h1
 exact zcU (by simp; omega) (zab ⟨h2, h3.mono (by omega)⟩)
theorem zzT {code : List Int} (hb : Bt code) : Rn (zde code) (fun z => BlB z.2.2.2.2.1 100 ∧ PtB z.2.2.2.2.2 100) := by
 have z0 : ∀ {P : Prop}, P → P := id
 unfold zde
 refine zac (zvk hb (cu0 code) (by omega)) fun z ⟨z1, z2⟩ => zac (zu7 hb z2 (by omega) z1) fun y ⟨Y, y2⟩ => ?_
 have e0 : BlB [] 100 ∧ PtB [] 100 := ⟨⟨by simp, fun b hb => by simp at hb⟩, ⟨by simp, fun b hb => by simp at hb⟩⟩
 by_cases k7 : (okG z.1 && decide (7 < z.1.Q)) = true
 ·obtain ⟨k, hq7⟩ := Bool.and_eq_true_iff.1 k7
  have k := ze4.1 k
  have hp := k.p
  have hq := k.q
  refine zac (zoB k hb y2 (by omega)) fun a ⟨a1, a2⟩ => zac (zoB k hb a2 (by omega)) fun b ⟨b1, b2⟩ => zaf (zgU _) (zcU (by rw [k7]; rfl) (zac (zlG hb b2 (by omega)) fun o o1 => ?_))
  refine zac (ψ := fun x => (R9 x.2.1 ∧ R9 x.2.2) ∧ Cu code 10000 x.1) (zal (fun _ => zac (zhY hb o1 (by omega) (by omega)) fun e ⟨_, _, _, e4⟩ => zac (zBl k Y.y a1 _) fun w hw => zab ⟨hw, e4.mono (by omega)⟩) fun _ => zab ⟨b1, o1.mono (by omega)⟩) fun x ⟨x1, x2⟩ => ?_
  refine zac (zrB k a1 x1) fun u u1 => zac (ziE (m := 3) hb x2 (by omega) (by omega)) fun p ⟨⟨N, hN, hN2⟩, p2⟩ => ?_
  have e : IntKind.i64.wrap (1 + p.1) = ((N + 1 : Nat) : Int) := by rw [zaq (by omega) (by omega)]; omega
  rw [e]
  refine zac (zuQ k hb p2 (by omega) z1 u1 (by omega)) fun l ⟨l1, l2⟩ => zac (zrB k a1 x1) fun v v1 => zac (zvm k v1 (by have := l1.1; omega)) fun w w1 => ?_
  have hs := Y.s
  refine zac (ψ := fun ps => PtB ps 100) (zat (fun i s => PtB s.2 i ∧ Cu code (30000 + 20 * i) s.1) ⟨⟨by simp, fun b hb => by simp at hb⟩, l2.mono (by omega)⟩ ?_ fun s h => ⟨by have := h.1.1; show s.2.length ≤ 100; omega, h.1.2⟩) fun ps hps => zab ⟨⟨by have := l1.1; show l.1.length ≤ 100; omega, l1.2⟩, hps⟩
  rintro i ⟨⟨s0, s1, s2⟩, ps⟩ hi ⟨h1, h2⟩
  have h1 : PtB ps i := h1
  have hll := h1.1
  refine zac (ψ := fun (v : (List Int × Int × Int) × List Partial) => PtB v.2 (i + 1) ∧ Cu code (30000 + 20 * ((i + 1 : Nat) : Int)) v.1) ?_ fun v hv => zab hv
  refine zaz hi (zac (zlG hb h2 (by omega)) fun o o1 => zal (fun _ => zac (zhY hb o1 (by omega) (by omega)) fun e ⟨_, _, _, e4⟩ => zac (zwP k w1.1 _) fun q hq2 => zav (by dsimp only; omega) (zab ⟨PtB.snoc h1 (by have := hq2.1; omega), e4.mono (by push_cast; omega)⟩)) fun _ => zab ⟨⟨by show ps.length ≤ _; omega, h1.2⟩, o1.mono (by push_cast; omega)⟩)
 exact zac (zpG hb y2 (by omega) z1) fun a a2 => zac (zpG hb a2 (by omega) z1) fun b b2 => zaf (zgU _) (zfV (by rw [Bool.not_eq_true] at k7; rw [k7]; rfl) (zab e0))
theorem zAl {code : List Int} (hb : Bt code) : Rn (zdj code) (fun _ => True) := by
 unfold zdj
 exact zac (zm4 hb (cu0 code) (by omega)) fun z ⟨z1, z2⟩ => zac (zhi hb z2 (by omega) z1) fun y ⟨_, _, y3⟩ => zac (zrb hb y3 (by omega) z1) fun c c1 => zac (zoG hb c1 (by omega) z1) fun e ⟨_, _, e3⟩ => zac (zoG hb e3 (by omega) z1) fun f _ => zab trivial
theorem zyt (p : Proof) : zfH p p = some true := by
 unfold zfH
 rw [zwb, zwb, zwb]; rfl
theorem zA9 (a b : List Int) (h0 : ∀ x ∈ a, 0 ≤ x ∧ x ≤ 255) (h1 : ∀ x ∈ b, 0 ≤ x ∧ x ≤ 255) (hl0 : a.length ≤ 1048576) (hl1 : b.length ≤ 1048576) : zcY a b = some true := by
 have hba : Bt a := ⟨h0, by omega⟩
 have hbb : Bt b := ⟨h1, by omega⟩
 unfold zcY
 refine zaD (zal (fun _ => zab rfl) fun _ => ?_)
 refine zac (zzT hba) fun z ⟨zb, zp⟩ => ?_
 obtain ⟨v, v1, v2⟩ := zyR z.1 z.2.1 z.2.2.1 z.2.2.2.1 (l := z.2.2.2.2.1) (ps := z.2.2.2.2.2) (fun b hm => by have := zb.2 b hm; omega) (by have := zb.1; omega) (fun p hm => by have := zp.2 p hm; omega) (by have := zp.1; omega)
 refine zaf v1 (zaf v2 (zac (zAl hbb) fun y _ => ?_))
 obtain ⟨gr, key, c, r, w⟩ := y
 dsimp only
 obtain ⟨p1, p2⟩ := zxG gr key c r w
 refine zaf p1 (zaf p2 ?_)
 refine zac (ψ := (· = false)) (zcU (by simp) (zcU (by simp) (zcU (by simp) (zcU (by simp) (zaf (zyt _) (zab rfl)))))) ?_
 rintro _ rfl
 refine zcU rfl (zal (fun _ => zab rfl) fun g => ?_)
 have hc : (okG gr && psC gr key c r w) = true := by
  cases hc : (okG gr && psC gr key c r w)
  ·unfold psV at g; rw [hc] at g; simp at g
  ·rfl
 have e : psV gr key c r w = (reV gr key c r, eqP gr samS gr.G key r w, true) := by unfold psV; rw [hc]; rfl
 rw [e]
 simp only [psC, Bool.and_eq_true] at hc
 obtain ⟨k, hk, hcc, hr, hw⟩ := hc
 have k := ze4.1 k
 have q := zrQ k (reV gr key c r) c
 rw [zpJ k hk hcc r, hcc, zqK k hk hcc r] at q
 refine zaf (zuF k hk hcc hr hw) (zaf q (zaf (zwK k hk (ziq k) (zfN.1 hr)) ?_))
 rw [zuh k (zeA k hk r)]
 refine zac (ψ := (· = true)) (zfV rfl (zfV rfl (zfV rfl (zfV rfl (zab (by simp)))))) ?_
 rintro _ rfl
 exact zab rfl
end Go.Pm
