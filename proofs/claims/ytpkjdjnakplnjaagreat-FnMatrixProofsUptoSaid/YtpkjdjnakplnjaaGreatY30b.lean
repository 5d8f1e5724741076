/-
  FnMatrixProofs: plain laws.
  No condition.
-/
import Derived.Test.YtpkjdjnakplnjaaGreatY30
namespace Go.Pm
open Go.Am
set_option linter.unusedVariables false
set_option linter.unusedSimpArgs false
section
attribute [local irreducible] chG zgG zg2 zbq alN sdV wvL wvE wvZ
section
variable {gr : Group} {key : Int} {B : Bases} {l out : List Cipher} {p : MatrixProof}
theorem zvL (k : OkG gr) {h : Int} (hh : zaw gr h = true) {ch x r l5 r5 : List Int} {n : Nat} (hch : ch.length = n ∧ ∀ z ∈ ch, zaw gr z = true) (hx : x.length = n) (hr : r.length = 2 * n + 4) (hn : n ≤ 100) (h5 : l5.length = 5) (h6 : r5.length = 5) : zar (σ := (List Int) × List Int × Int) (fun i58 s57 =>
 (ix ch i58).bind fun x64 =>
 gd ((s57.1.length + 1) * 8 ≤ 140737488355328 ∧ s57.1.length + 1 ≤ 4611686018427387904) <|
 (ix r (IntKind.i64.wrap (4 + i58))).bind fun x65 =>
 (ix x i58).bind fun x66 =>
 (zaq gr gr.G x65).bind fun z67 =>
 (zaq gr s57.2.2 x66).bind fun z68 =>
 (zaP gr [z67, z68]).bind fun z69 =>
 gd ((s57.2.1.length + 1) * 8 ≤ 140737488355328 ∧ s57.2.1.length + 1 ≤ 4611686018427387904) <|
 some (.go (s57.1 ++ [x64], s57.2.1 ++ [z69], x64))) (fun s57 => (s57.1, s57.2.1)) ch.length 0 (l5, r5, h) = some (l5 ++ ch, r5 ++ (List.range n).map (zhN gr h ch x r)) := by
 refine zau (zaV (fun i y => y = (l5 ++ ch.take i, r5 ++ (List.range i).map (zhN gr h ch x r), bef h ch i)) (by simp [bef]) ?_ ?_)
 ·rintro i y hi rfl
  have h4 : 4 + i < r.length := by omega
  have hxi : i < x.length := by omega
  have hb := (zu6 k hh hch.2 i (by omega)).2
  refine zav hi (zam (by simp; omega) ?_)
  rw [show IntKind.i64.wrap (4 + (i : Int)) = ((4 + i : Nat) : Int) from zeV (by omega) (by omega)]
  refine zav h4 (zav hxi (zac (pwS k (r_G k) _) (zac (pwS k hb _) (zac (m2S k (za8 k _ _) (za8 k _ _)) (zam (by simp; omega) (zab ?_))))))
  show _ = _
  have hbe : bef h ch (i + 1) = ch[i] := by
   have : i + 1 < ([h] ++ ch).length := by simp; omega
   unfold bef; rw [zal this]; rfl
  rw [List.take_succ_eq_append_getElem hi, List.range_succ, List.map_append, hbe]
  simp only [List.map_cons, List.map_nil, zhN, zal h4, zal hxi, List.append_assoc]
 rintro y rfl
 rw [List.take_length, hch.1]
theorem zuP {P : Int → Prop} {a b c d e : Int} (h1 : P a) (h2 : P b) (h3 : P c) (h4 : P d) (h5 : P e) : ∀ x ∈ [a, b, c, d, e], P x := by
 intro x hx
 simp only [List.mem_cons, List.not_mem_nil, or_false] at hx
 rcases hx with rfl | rfl | rfl | rfl | rfl <;> assumption
set_option maxHeartbeats 4000000 in
theorem zzi (k : OkG gr) (hk : zaw gr key = true) (hn : 1 ≤ l.length ∧ l.length ≤ 12) (lc : ∀ c ∈ l, zbr gr c = true) (oc : ∀ c ∈ out, zbr gr c = true) (hb : BsOk gr l.length B) : zfb gr key B l out p = some (vmB gr key B l out p) := by
 have hp := k.p
 have hq := k.q
 unfold zfb
 refine zau (zaf (ψ := (· = !(decide (out.length = l.length) && (shB gr l.length p && (p.Pi.Challenges.getD 0 0 == wvZ gr key l out p))))) ?_ ?_)
 ·rw [show ((out.length : Int) != (l.length : Int)) = !decide (out.length = l.length) by rw [bne, zdT]]
  refine zaj (fun g => zab ?_) fun g => zac (zAn k (by omega) p) (zaj (fun g2 => zab ?_) fun g2 => ?_)
  ·have : decide (out.length = l.length) = false := by simpa using g
   rw [this]; rfl
  ·have g3 : decide (out.length = l.length) = true := by simpa using g
   have g4 : shB gr l.length p = false := by simpa using g2
   rw [g3, g4]; rfl
  have g3 : decide (out.length = l.length) = true := by simpa using g
  have g4 : shB gr l.length p = true := by simpa using g2
  have V := zre (p := p) hk hn lc oc hb (of_decide_eq_true g3) g4
  have hc0 : 0 < p.Pi.Challenges.length := by rw [V.chl]; omega
  exact zav (k := 0) hc0 (zac (V.chlS k) (zab (by rw [g3, g4, zal hc0]; rfl)))
 rintro b rfl
 refine zaj (fun g => zab ?_) fun g => ?_
 ·rw [Bool.not_eq_true'] at g
  unfold vmB
  rw [← Bool.and_assoc (shB gr l.length p), ← Bool.and_assoc, g]; rfl
 rw [Bool.not_eq_false'] at g
 obtain ⟨g1, g23⟩ := Bool.and_eq_true_iff.1 g
 obtain ⟨g2, g3⟩ := Bool.and_eq_true_iff.1 g23
 have V := zre (p := p) hk hn lc oc hb (of_decide_eq_true g1) g2
 have hv : vmB gr key B l out p = (List.range (5 + l.length)).all (vfB gr (wvZ gr key l out p) p.Pi.Commits (vLf gr B l (wvE gr key l out p) p) (vRt gr key B l.length out p)) := by unfold vmB; rw [g1, g2, g3]; rfl
 rw [hv]
 obtain ⟨hel, hee⟩ := V.e k
 have hc0 : 0 < p.Pi.Challenges.length := by rw [V.chl]; omega
 have hz : p.Pi.Challenges[0] = wvZ gr key l out p := by
  have := eq_of_beq g3
  rwa [zal hc0] at this
 have w4 : IntKind.i64.wrap ((l.length : Int) + 4) = ((l.length + 4 : Nat) : Int) := zeV (by omega) (by omega)
 have w1 : IntKind.i64.wrap ((l.length : Int) - 1) = ((l.length - 1 : Nat) : Int) := zeV (by omega) (by omega)
 have hdr : (p.Pi.Responses.take p.Pi.Responses.length).drop (l.length + 4) = p.Pi.Responses.drop (l.length + 4) := by rw [List.take_length]
 have hrl := V.rsp.1
 have hxl : (p.Pi.Responses.drop (l.length + 4)).length = l.length := by rw [List.length_drop, hrl]; omega
 have hal := zoz (show 1 < gr.Q by omega) (wvE gr key l out p) (wvE gr key l out p).length
 have wal : IntKind.i64.wrap (0 - alN gr.Q (wvE gr key l out p) (wvE gr key l out p).length) = 0 - alN gr.Q (wvE gr key l out p) (wvE gr key l out p).length := zaz (by have := hal.1; have := hal.2; omega) (by have := hal.1; omega)
 rw [w4, w1, Int.toNat_natCast, hdr]
 have hsl := zlj k lc
 have hso := zlj k oc
 have hll := zjx l
 have hol := zjx out
 rw [V.ol] at hol
 have hH := zdo k hb.h
 have hK := zdo k hk
 have hBr := zfG k hb.s
 have hCr := zfG k V.cols.2
 have hBl := hb.l
 have hcl := V.cols.1
 have hchl := V.chn.1
 have hcml := V.com.1
 have r0 : 0 < p.Pi.Responses.length := by omega
 have r1 : 1 < p.Pi.Responses.length := by omega
 have r2 : 2 < p.Pi.Responses.length := by omega
 have r3 : 3 < p.Pi.Responses.length := by omega
 have hla : l.length - 1 < p.Chain.length := by omega
 have hlb := zdo k (zch V.chn.2 hla)
 have qB := zmq k hBr
 have qC := zmq k hCr
 have hL : vLf gr B l (wvE gr key l out p) p = [zbc gr [zbc gr p.Columns, zaJ gr (zbc gr B.Hs) (-1)], zbq gr p.Columns (wvE gr key l out p) 1, zbc gr [p.Chain[l.length - 1], zaJ gr B.H (0 - alN gr.Q (wvE gr key l out p) (wvE gr key l out p).length)], zbq gr (sdV l).1 (wvE gr key l out p) 1, zbq gr (sdV l).2 (wvE gr key l out p) 1] ++ p.Chain := by
  unfold vLf lf5; rw [zal hla]
 have hLr : ∀ y ∈ vLf gr B l (wvE gr key l out p) p, R9 y := by
  rw [hL]
  intro y hy
  rcases List.mem_append.1 hy with h | h
  ·exact zuP (P := R9) (zf4 k qC (za8 k _ _)) (zc1 k _ _) (zf4 k hlb (za8 k _ _)) (zc1 k _ _) (zc1 k _ _) y h
  ·exact zdo k (V.chn.2 y h)
 have hR : vRt gr key B l.length out p = [zaJ gr gr.G p.Pi.Responses[0], zbc gr [zaJ gr gr.G p.Pi.Responses[1], zbq gr B.Hs (p.Pi.Responses.drop (l.length + 4)) 1], zaJ gr gr.G p.Pi.Responses[2], zbc gr [zaJ gr gr.G (IntKind.i64.wrap ((0 : Int) - p.Pi.Responses[3])), zbq gr (sdV out).1 (p.Pi.Responses.drop (l.length + 4)) 1], zbc gr [zaJ gr key (IntKind.i64.wrap ((0 : Int) - p.Pi.Responses[3])), zbq gr (sdV out).2 (p.Pi.Responses.drop (l.length + 4)) 1]] ++ (List.range l.length).map (zhN gr B.H p.Chain (p.Pi.Responses.drop (l.length + 4)) p.Pi.Responses) := by
  unfold vRt rt5; rw [zal r0, zal r1, zal r2, zal r3]
 have hLl : (vLf gr B l (wvE gr key l out p) p).length = 5 + l.length := by rw [hL]; simp [hchl]; omega
 have hRl : (vRt gr key B l.length out p).length = 5 + l.length := by rw [hR]; simp; omega
 refine zav (k := 0) hc0 ?_
 rw [hz]
 refine zam (by omega) (zam (by omega) (zac (V.chs k).2 (zac (zuD k hee) (zac (zh7 (by omega)).2 (zac (zh7 (by rw [V.ol]; omega)).2 (zav hla ?_))))))
 rw [wal]
 refine zac (zmX k hCr) (zac (zmX k hBr) (zac (zw5 k qB.1 qB.2) (zac (m2S k qC (za8 k _ _)) (zac (zgc k hCr (by omega)) (zac (pwS k hH _) (zac (m2S k hlb (za8 k _ _)) (zac (zgc k hsl.1 (by omega)) (zac (zgc k hsl.2 (by omega)) (zav (k := 0) r0 (zav (k := 1) r1 (zav (k := 2) r2 (zav (k := 3) r3 ?_))))))))))))
 refine zac (pwS k (r_G k) _) (zac (pwS k (r_G k) _) (zac (zgc k hBr (by omega)) (zac (m2S k (za8 k _ _) (zc1 k _ _)) (zac (pwS k (r_G k) _) (zac (pwS k (r_G k) _) (zac (zgc k hso.1 (by omega)) (zac (m2S k (za8 k _ _) (zc1 k _ _)) (zac (pwS k hK _) (zac (zgc k hso.2 (by omega)) (zac (m2S k (za8 k _ _) (zc1 k _ _)) (zac (a := (vLf gr B l (wvE gr key l out p) p, vRt gr key B l.length out p)) ((zvL k hb.h V.chn hxl hrl (by omega) rfl rfl).trans (by rw [hL, hR])) ?_)))))))))))
 dsimp only
 generalize hz2 : wvZ gr key l out p = z
 rw [hz2] at *
 generalize vLf gr B l (wvE gr key l out p) p = L at hLl hLr
 generalize vRt gr key B l.length out p = R at hRl
 refine ⟨_, zwL (vfB gr z p.Pi.Commits L R) false true fun i hi => ?_, ?_⟩
 ·have hi2 : i < p.Pi.Commits.length := by omega
  have hi3 : i < R.length := by omega
  rw [zei hi, Option.bind_some, zei hi2, Option.bind_some, zei hi3, Option.bind_some, pwS k (zch hLr hi), Option.bind_some, m2S k (zdo k (zch V.com.2 hi2)) (za8 k _ _), Option.bind_some]
  unfold vfB hlB
  rw [zal hi, zal hi2, zal hi3, bne]
  cases (zbc gr [p.Pi.Commits[i], zaJ gr L[i] z] == R[i]) <;> rfl
 rw [hLl]; cases (List.range (5 + l.length)).all (vfB gr z p.Pi.Commits L R) <;> rfl
theorem zE6 (gr : Group) (key : Int) {l : List Cipher} (hl : l.length ≤ 20) (out : List Cipher) (p : MatrixProof) : ∃ v t, zcX gr key l out p = some (v, t) ∧ zcW gr key l out p = some (v, t) := by
 by_cases k : OkG gr
 ·obtain ⟨B, tb, b1, b2, b3⟩ := zxq k (n := l.length) (by omega)
  unfold zcX zcW
  rw [zgb k key l b2, zii k, zii k, zj9 k, b1, show (zaw gr key && (inB 1 12 l.length && l.all (zbr gr))) = mkB gr key l from rfl]
  cases h1 : mkB gr key l
  ·exact ⟨false, false, rfl, rfl⟩
  have h1' := h1
  simp only [mkB, inB, Bool.and_eq_true, decide_eq_true_eq] at h1'
  obtain ⟨c1, c2, c3⟩ := h1'
  rw [c1]
  cases h2 : (inB 1 12 out.length && out.all (zbr gr))
  ·cases tb <;> exact ⟨false, false, rfl, rfl⟩
  simp only [Bool.and_eq_true] at h2
  cases tb
  ·exact ⟨false, false, rfl, rfl⟩
  have e1 := zA7 (p := p) (out := out) k c1 (l := l) (by omega) (List.all_eq_true.1 c3) (List.all_eq_true.1 h2.2) (b3 rfl)
  have e2 := zzi (p := p) (out := out) k c1 (l := l) (by omega) (List.all_eq_true.1 c3) (List.all_eq_true.1 h2.2) (b3 rfl)
  refine ⟨vmB gr key B l out p, true, ?_, ?_⟩
  ·simp [e1]
  simp [e2]
 refine ⟨false, false, ?_, ?_⟩
 ·unfold zcX
  rw [zlA k]; rfl
 unfold zcW
 rw [zlQ k]; rfl
end
end
theorem zvb {code : List Int} (hb : Bt code) : Rn (zcn code) (fun z => Gw z.1 ∧ z.2.2.1.length ≤ 13) := by
 unfold zcn
 refine zaf (zvW hb (cu0 code) (by omega)) fun z ⟨z1, z2, z3⟩ => ?_
 have w4 : IntKind.i64.wrap (IntKind.i64.wrap (4 * (z.2.2.1.length : Int)) + 4) = ((4 * z.2.2.1.length + 4 : Nat) : Int) := by
  rw [zaz (n := 4 * (z.2.2.1.length : Int)) (by omega) (by omega)]; exact zeV (by omega) (by omega)
 rw [w4]
 exact zaf (zmB hb z3 (by omega) z1 (by omega)) fun y _ => zab ⟨z1, z2⟩
theorem zv4 {code c0 : List Int} {at_ seed n : Int} {gr : Group} {p : MatrixProof} (hb : Bt code) (h : Cu code n (c0, at_, seed)) (hn : n ≤ 2000000000000000) (hg : Gw gr) (hc : p.Columns.length ≤ 1000) (hd : p.Chain.length ≤ 1000) (hp : lp 1000 p.Pi) : Rn (zb6 c0 at_ seed gr p) (fun _ => True) := by
 unfold zb6
 refine zac (zic (by omega)) (zac (zic (by omega)) (zaf (zya hb h (by omega) hg hp (by omega)) fun z3 ⟨_, y3⟩ => zaf (zhp (m := 12) hb y3 (by omega) (by omega)) fun z4 ⟨_, y4⟩ => ?_))
 refine zaf (ψ := fun _ => True) (zaj (fun _ => zaj (fun g => ?_) fun _ => zab trivial) fun _ => zaj (fun _ => zaj (fun g => ?_) fun _ => zab trivial) fun _ => zaj (fun _ => zam (by omega) (zab trivial)) fun _ => zab trivial) fun _ _ => zab trivial
 ·have g : 0 < (p.Columns.length : Int) := by simpa using g
  refine zaf (zhp hb y4 (by omega) (by omega)) fun w ⟨⟨i, hi, hi2⟩, w2⟩ => zaf (zfU hb w2 (by omega) hg) fun _ _ => ?_
  rw [hi]
  exact zav hi2 (zab trivial)
 have g : 0 < (p.Chain.length : Int) := by simpa using g
 refine zaf (zhp hb y4 (by omega) (by omega)) fun w ⟨⟨i, hi, hi2⟩, w2⟩ => zaf (zfU hb w2 (by omega) hg) fun _ _ => ?_
 rw [hi]
 exact zav hi2 (zab trivial)
theorem zAv {code : List Int} (hb : Bt code) : Rn (zcL code) (fun z => z.2.2.1.length ≤ 13) := by
 unfold zcL
 refine zaf (zvb hb) fun z ⟨z1, z2⟩ => ?_
 refine zaf (ψ := fun y => y.2 = true → 1 ≤ y.1.length) ?_ fun y hy => ?_
 ·by_cases k : OkG z.1
  ·exact ⟨_, zw3 k z.2.1 (by omega) _ _, by
    by_cases g : (mkB z.1 z.2.1 z.2.2.1 && pkB z.1 z.2.2.1.length z.2.2.2.1 z.2.2.2.2.1) = true
    ·rw [if_pos g]
     have m := zjo.1 g
     intro _
     have := m.n
     show 1 ≤ (zdd _ _ _ _ _).length
     rw [zhv, m.pl]; omega
    ·rw [if_neg g]; intro h; cases h⟩
  exact ⟨_, zvx k _ _ _ _, fun h => by cases h⟩
 obtain ⟨p, t, _, e2, e3, e4⟩ := zwT z.1 z.2.1 (l := z.2.2.1) (by omega) z.2.2.2.1 z.2.2.2.2.1 z.2.2.2.2.2
 have hl : p.Columns.length ≤ 1000 ∧ p.Chain.length ≤ 1000 ∧ p.Pi.Commits.length ≤ 1000 ∧ p.Pi.Challenges.length ≤ 1000 ∧ p.Pi.Responses.length ≤ 1000 := by
  cases t
  ·rw [e3 rfl]; simp
  ·exact zyp (by omega) (e4 rfl)
 refine zac e2 (zaf (ψ := fun x => (x.2 = true → 1 ≤ y.1.length) ∧ Cu code 10 x.1) (zaj (fun g => zaf (zoq hb (cu0 code) (by omega)) fun w w1 => zab ⟨fun _ => hy g, w1.mono (by omega)⟩) fun _ => zab ⟨fun h => (by cases h), (cu0 code).mono (by omega)⟩) fun x ⟨x1, x2⟩ => ?_)
 refine zaf (ψ := fun u => Cu code 100 u.1) (zaj (fun g => ?_) fun _ => zab (x2.mono (by omega))) fun u hu => ?_
 ·refine zaf (zhp hb x2 (by omega) (x1 g)) fun w ⟨⟨i, hi, hi2⟩, w2⟩ => zaf (zlG hb w2 (by omega) z1) fun v v1 => ?_
  rw [hi]
  exact zav hi2 (zab (v1.mono (by omega)))
 exact zaf (zv4 hb hu (by omega) z1 hl.1 hl.2.1 ⟨hl.2.2.1, hl.2.2.2.1, hl.2.2.2.2⟩) fun _ _ => zab z2
theorem zAg (p : Proof) : zfy p p = some true := by
 unfold zfy
 rw [zl4, zl4, zl4]; rfl
section
variable {gr : Group} {key : Int} {B : Bases} {l : List Cipher} {perm rs s t w x : List Int} {a b d f : Int}
theorem zrO {gr : Group} {l : List Int} (h : ∀ z ∈ l, E9 gr.Q z) : l.all (zez gr) = true := List.all_eq_true.2 fun z hz => zqK.2 (h z hz)
theorem zEO (k : OkG gr) (P : PmOk gr key B l perm rs s t w x a b d f) (hB : zaM gr (l.length : Int) = some (B, true)) : zdz gr perm s = some (zdJ gr B.Hs perm s, true) := by
 have hn := P.m.n
 have hpl := P.m.pl
 have hc : pkB gr perm.length perm s = true := by
  simp only [pkB, decide_true, P.m.pb, Bool.true_and, Bool.and_eq_true, decide_eq_true_eq]
  exact ⟨by have := P.c.s.1; omega, zrO P.c.s.2⟩
 unfold zdz
 rw [zj7, zls.2 k, zet, zh2 k (by omega), show (decide (perm.length = perm.length) && zeX perm && (decide (s.length = perm.length) && s.all (zez gr))) = pkB gr perm.length perm s from rfl, hc]
 have hw : (decide ((1 : Int) ≤ (perm.length : Int)) && decide ((perm.length : Int) ≤ 12)) = true := by simp; omega
 rw [hw, hpl, hB]
 have := zte (ss := s) k P.prn (by omega) (by have := P.c.s.1; omega) P.bl
 simp [this]
theorem zA4 (k : OkG gr) (P : PmOk gr key B l perm rs s t w x a b d f) (hB : zaM gr (l.length : Int) = some (B, true)) : zcJ gr key l (zdd gr key l perm rs) (zdJ gr B.Hs perm s) = some (pmE gr key B l perm rs s, true) := by
 have hn := P.m.n
 have hpl := P.m.pl
 have hml : (zdd gr key l perm rs).length = l.length := by rw [zhv, P.m.pl]
 have h1 : mkB gr key l = true := (Bool.and_eq_true_iff.1 (zjo.2 P.m)).1
 unfold zcJ ze0
 have e1 : (((zdd gr key l perm rs).length : Int) == (l.length : Int)) = true := by rw [zdT, hml]; simp
 have e2 : (((zdJ gr B.Hs perm s).length : Int) == (l.length : Int)) = true := by rw [zdT, (P.cols k).1]; simp
 have e3 : (inB 1 12 (zdd gr key l perm rs).length && (zdd gr key l perm rs).all (zbr gr)) = true := by
  rw [hml, Bool.and_eq_true]; exact ⟨by simp [inB]; omega, List.all_eq_true.2 (zlg k P.m)⟩
 rw [zgb k key l hB, h1, e1, e2, zj9 k, e3, zka k, List.all_eq_true.2 (P.cols k).2, (zmI P k).1]
 show (Option.bind (za5 gr znw (pmL gr key B l perm rs s) (l.length : Int)) _) = _
 rw [(zpI P k).1]
 rfl
theorem zBr (k : OkG gr) (P : PmOk gr key B l perm rs s t w x a b d f) (hB : zaM gr (l.length : Int) = some (B, true)) : zdO gr (pmO gr key B l perm rs s) t = some (zb3 gr B.H (pmO gr key B l perm rs s) t, true) := by
 have hn := P.m.n
 have hq := k.q
 have hp := k.p
 obtain ⟨hol, hoe⟩ := P.o k
 have ht := P.c.t.1
 unfold zdO
 have hw : (decide ((1 : Int) ≤ (l.length : Int)) && decide ((l.length : Int) ≤ 12)) = true := by simp; omega
 have e1 : ((t.length : Int) != ((pmO gr key B l perm rs s).length : Int)) = false := by rw [bne, zdT, hol, ht]; simp
 rw [zj7, zls.2 k, zet, e1, zhD (by omega) (by omega), zhD (by omega) (by omega), zrO hoe, zrO P.c.t.2, hol, hw, hB]
 have := ztw k (zdo k P.bs.h) (es := pmO gr key B l perm rs s) (ts := t) (by omega) (by omega)
 simp [this]
end
theorem zzf (a b : List Int) (h0 : ∀ x ∈ a, 0 ≤ x ∧ x ≤ 255) (h1 : ∀ x ∈ b, 0 ≤ x ∧ x ≤ 255) (hl0 : a.length ≤ 1048576) (hl1 : b.length ≤ 1048576) : zdl a b = some true := by
 have hba : Bt a := ⟨h0, by omega⟩
 have hbb : Bt b := ⟨h1, by omega⟩
 unfold zdl
 refine zau (zaj (fun _ => zab rfl) fun _ => ?_)
 refine zaf (zvb hba) fun z ⟨z1, z2⟩ => ?_
 obtain ⟨gr, key, l, perm, rs, coins⟩ := z
 have z2 : l.length ≤ 13 := z2
 dsimp only
 obtain ⟨p, t, e1, e2, e3, e4⟩ := zwT gr key (l := l) (by omega) perm rs coins
 refine zac e1 (zac e2 (zaf (zAv hbb) fun y hy => ?_))
 obtain ⟨v, u, f1, f2⟩ := zE6 y.1 y.2.1 (l := y.2.2.1) (by omega) y.2.2.2.1 y.2.2.2.2
 refine zac f1 (zac f2 ?_)
 refine zaf (ψ := (· = false)) (zcP (by simp) (zac zl4 (zcP rfl (zac zl4 (zcP rfl (zac (zAg _) (zcP rfl (zcP (by simp) (zab (by simp)))))))))) ?_
 rintro _ rfl
 refine zcP rfl (zaj (fun _ => zab rfl) fun g => ?_)
 have ht : t = true := by simpa using g
 subst ht
 obtain ⟨k, B, s, t, w, x, a', b', d, f, rfl, P, rfl, hB⟩ := e4 rfl
 have hn := P.m.n
 have hpl := P.m.pl
 have hSl := P.c.s.1
 have hTl := P.c.t.1
 have hWl := P.c.w.1
 have hXl := P.c.x.1
 have w2 : IntKind.i64.wrap (2 * (l.length : Int)) = ((2 * l.length : Nat) : Int) := zeV (by omega) (by omega)
 have hcl : (s ++ (t ++ a' :: b' :: d :: f :: (w ++ x))).length = 4 * l.length + 4 := by simp; omega
 have hs : ((s ++ (t ++ a' :: b' :: d :: f :: (w ++ x))).take l.length).drop 0 = s := by rw [← hSl]; simp
 have htt : ((s ++ (t ++ a' :: b' :: d :: f :: (w ++ x))).take (2 * l.length)).drop l.length = t := by
  rw [← List.append_assoc, List.take_left' (by simp; omega), List.drop_left' hSl]
 rw [w2, Int.toNat_natCast, hs, htt]
 obtain ⟨hol, hoe⟩ := P.o k
 obtain ⟨hel, hee⟩ := P.e k
 have hM := zyf k key (l := l) (by omega) perm rs hB
 rw [Bool.true_and, zjo.2 P.m, if_pos rfl] at hM
 refine zam (by omega) (zam (by omega) (zac (zEO k P hB) (zac hM (zac (zA4 k P hB) (zaf (ψ := (· = false)) (zcP rfl (zcP rfl (zcP rfl (zac zl4 (zcP rfl (zab ?_)))))) ?_)))))
 ·show (((pmE gr key B l perm rs s).length : Int) != (l.length : Int)) = false
  rw [hel]; simp
 rintro _ rfl
 refine zcP rfl ?_
 have hat := zvd P k
 unfold zfZ at hat
 have hbs : ∀ o : Option (List Int), (o.bind fun x3 => some x3) = o := fun o => by cases o <;> rfl
 rw [hbs] at hat
 refine zac hat (zam (by omega) (zam (by omega) (zam (by omega) (zac (zBr k P hB) (zaf (ψ := (· = true)) (zjh rfl (zac zl4 (zab rfl))) ?_)))))
 rintro _ rfl
 exact zab rfl
end Go.Pm
