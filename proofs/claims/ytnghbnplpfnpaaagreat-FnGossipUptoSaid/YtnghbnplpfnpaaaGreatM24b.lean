/-
  Plain functions and their walks. Written by wip/tools/lift.py.
-/
import Derived.Test.YtnghbnplpfnpaaaGreatM24
namespace Go.Pm
open Go.Am IntKind
open Go.Proofs
set_option maxRecDepth 100000
attribute [local irreducible] pw pwx pw1 pwg qv qz qf
attribute [-simp] List.map_set
set_option linter.unusedSimpArgs false
set_option linter.unusedVariables false
theorem zeW : ∀ {a0} {r}, zcx a0 = some r → PCalls Tryz.prog 58 [(.sh, .int .i64 a0)] (Eo (.bool r) [.junk]) := by
 intro a0 r hr
 apply pF 27 [] [] [] [.tmp 2] hr cl58 Tryz.func58
 intro Φ hΦ hF g
 unfold zcx at hF
 try simp [go_sem, g]
 refine pw_wk ?_
 repeat rw [sq]
 refine pJ hF (fun x3 => [(0, .v (.int .i64 a0)), (15, .v (.bool x3))]) (fun x3 hF => ?_) fun _ hj1 hF => ?_
 ·repeat rw [sq]
  refine pI hF (fun h7 hF => ?_) (fun h7 hF => ?_)
  ·cases hΦ _ (Rn_some hF)
   try simp [go_sem, g]
   refine pw_wk ?_
   try simp [go_sem, g]
  ·iterate 2 (try simp [go_sem, g]; refine pw_wk ?_)
   repeat rw [sq]
   refine pJs hF (fun x10 => []) (fun x10 hF => ?_) fun _ hj8 hr9 hF => ?_
   ·cases hΦ _ (Rn_some hF)
    try simp [go_sem, g]
    refine pw_wk ?_
    try simp [go_sem, g]
   ·repeat rw [sq]
    rw [pw_block]
    obtain ⟨b18, hb19, hψ15⟩ := hF
    refine pL hb19 (fun s11 => [(0, .v (.int .i64 a0)), (3, .v (.int .i64 s11))]) (fun s11 _ _ ho13 hg14 hF => ?_)
    try simp [go_sem, g]
    refine pw_wk ?_
    repeat rw [sq]
    refine pI hF (fun h16 hF => ?_) (fun h16 hF => ?_)
    ·try simp [go_sem, g]
     refine pw_wk ?_
     repeat rw [sq]
     rw [pw_block]
     obtain ⟨g, hF⟩ := Rz g hF
     try simp [go_sem, g]
     refine pw_wkK [0, 3, 26] (by simp [go_sem, g]; rfl) ?_
     repeat rw [sq]
     refine pI hF (fun h17 hF => ?_) (fun h17 hF => ?_)
     ·cases ho13 _ (Rn_some hF)
      cases hΦ _ (hr9 _ hψ15)
      try simp [go_sem, g]
      refine pw_wk ?_
      try simp [go_sem, g]
     ·try simp [go_sem, g]
      refine pw_wk ?_
      try simp [go_sem, g]
      exact pT (hg14 (i64.wrap (s11 + 2))) (Rn_some hF)
    ·try simp [go_sem, g]
     cases ho13 _ (Rn_some hF)
     exact pT (hj8 ()) hψ15
 ·try simp [go_sem, g]
  refine pC hF [.sh] zfX (fun z4 hF => ?_)
  try simp [go_sem, g]
  refine pwg_F hF (fun h5 hF => ?_) fun h5 hF => ?_
  ·try simp [go_sem, g, h5]
   exact pT (hj1 true) (Rn_some hF)
  ·have g := Ld g 2
   try simp [go_sem, g, h5]
   refine pwg_F hF (fun h6 hF => ?_) fun h6 hF => ?_
   ·try simp [go_sem, g, h6, h5]
    exact pT (hj1 (a0 != 2)) (Rn_some hF)
   ·try simp [go_sem, g, h6, h5]
    exact pT (hj1 false) (Rn_some hF)
noncomputable def zce (a0 : Int) (a1 : Int) (a2 : Int) : Option (Int) :=
 gd (a2 ≠ 0) <|
 ((wloop (σ := Int × Int × Int) (fun s4 =>
 if decide (0 < s4.2.1) = true then (
 ((if ((i64.wrap ((BitVec.ofInt i64.bits s4.2.1 &&& BitVec.ofInt i64.bits 1).toNat)) == 1) = true then (
 gd (a2 ≠ 0) <|
 some ((i64.wrap (s4.2.2 * s4.1)).tmod a2)) else (
 some s4.2.2) : Option (Int)).bind fun x12 =>
 gd (a2 ≠ 0) <|
 some (.go ((i64.wrap (s4.1 * s4.1)).tmod a2, s4.2.1.fdiv 2, x12)))) else (
 some (.out s4.2.2))) (a0, a1, (1 : Int).tmod a2) : Option (Int)).bind fun x3 =>
 some x3)
theorem zet : ∀ {a0} {a1} {a2} {r}, zce a0 a1 a2 = some r → PCalls Tryz.prog 59 [(.sh, .int .i64 a0), (.sh, .int .i64 a1), (.sh, .int .i64 a2)] (Eo (.int .i64 r) [.junk, .junk, .junk]) := by
 intro a0 a1 a2 r hr
 apply pF 28 [] [] [] [.tmp 6] hr cl59 Tryz.func59
 intro Φ hΦ hF g
 unfold zce at hF
 obtain ⟨g, hF⟩ := Rz g hF
 iterate 2 (try simp [go_sem, g]; refine pw_wk ?_)
 repeat rw [sq]
 refine pJ hF (fun x3 => [(7, .v (.int .i64 x3))]) (fun x3 hF => ?_) fun _ hj1 hF => ?_
 ·cases hΦ _ (Rn_some hF)
  try simp [go_sem, g]
  refine pw_wk ?_
  try simp [go_sem, g]
 ·repeat rw [sq]
  rw [pw_block]
  obtain ⟨b14, hb15, hψ8⟩ := hF
  refine pL hb15 (fun s4 => [(0, .v (.int .i64 s4.1)), (1, .v (.int .i64 s4.2.1)), (2, .v (.int .i64 a2)), (7, .v (.int .i64 s4.2.2))]) (fun s4 _ _ ho6 hg7 hF => ?_)
  try simp [go_sem, g]
  refine pw_wk ?_
  repeat rw [sq]
  refine pI hF (fun h9 hF => ?_) (fun h9 hF => ?_)
  ·try simp [go_sem, g]
   refine pw_wk ?_
   repeat rw [sq]
   rw [pw_block]
   try simp [go_sem, g]
   refine pw_wk ?_
   repeat rw [sq]
   refine pJ hF (fun x12 => [(0, .v (.int .i64 s4.1)), (1, .v (.int .i64 s4.2.1)), (2, .v (.int .i64 a2)), (7, .v (.int .i64 x12))]) (fun x12 hF => ?_) fun _ hj10 hF => ?_
   ·obtain ⟨g, hF⟩ := Rz g hF
    try simp [go_sem, g]
    refine pw_wkK [0, 1, 2, 7] (by simp [go_sem, g]; rfl) ?_
    have g := Ls g 1
    try simp [go_sem, g]
    exact pT (hg7 ((i64.wrap (s4.1 * s4.1)).tmod a2, s4.2.1.fdiv 2, x12)) (Rn_some hF)
   ·repeat rw [sq]
    refine pI hF (fun h13 hF => ?_) (fun h13 hF => ?_)
    ·obtain ⟨g, hF⟩ := Rz g hF
     try simp [go_sem, g]
     exact pT (hj10 ((i64.wrap (s4.2.2 * s4.1)).tmod a2)) (Rn_some hF)
    ·try simp [go_sem, g]
     exact pT (hj10 s4.2.2) (Rn_some hF)
  ·try simp [go_sem, g]
   cases ho6 _ (Rn_some hF)
   exact pT (hj1 s4.2.2) hψ8
noncomputable def zbY (a0 : Group) : Option (Bool) :=
 (((zap a0.P 3 2000000000).bind fun z4 =>
 if z4 = true then (
 (zap a0.Q 2 (i64.wrap (a0.P - 1))).bind fun z6 =>
 if z6 = true then (
 gd (a0.Q ≠ 0) <|
 if (((i64.wrap (a0.P - 1)).tmod a0.Q) == 0) = true then (
 (zap a0.G 2 (i64.wrap (a0.P - 1))).bind fun z9 =>
 if z9 = true then (
 (zcx a0.P).bind fun z11 =>
 if z11 = true then (
 (zcx a0.Q).bind fun z13 =>
 if z13 = true then (
 (zce a0.G a0.Q a0.P).bind fun z15 =>
 some (z15 == 1)) else (
 some false)) else (
 some false)) else (
 some false)) else (
 some false)) else (
 some false)) else (
 some false) : Option (Bool)).bind fun x3 =>
 some x3)
theorem zfe : ∀ {a0} {r}, zbY a0 = some r → PCalls Tryz.prog 25 [(.sh, .agg [.int .i64 a0.P, .int .i64 a0.Q, .int .i64 a0.G])] (Eo (.bool r) [.junk]) := by
 intro a0 r hr
 apply pF 51 [] [] [] [.tmp 2] hr cl25 Tryz.func25
 intro Φ hΦ hF g
 unfold zbY at hF
 try simp [go_sem, g]
 refine pw_wk ?_
 repeat rw [sq]
 refine pJ hF (fun x3 => [(2, .v (.bool x3))]) (fun x3 hF => ?_) fun _ hj1 hF => ?_
 ·cases hΦ _ (Rn_some hF)
  try simp [go_sem, g]
 ·try simp [go_sem, g]
  refine pC hF [.sh, .sh, .sh] zaH (fun z4 hF => ?_)
  try simp [go_sem, g]
  refine pwg_F hF (fun h5 hF => ?_) fun h5 hF => ?_
  ·try simp [go_sem, g, h5]
   refine pC hF [.sh, .sh, .sh] zaH (fun z6 hF => ?_)
   try simp [go_sem, g, h5]
   refine pwg_F hF (fun h7 hF => ?_) fun h7 hF => ?_
   ·obtain ⟨g, hF⟩ := Rz g hF
    try simp [go_sem, g, h7]
    refine pwg_F hF (fun h8 hF => ?_) fun h8 hF => ?_
    ·try simp [go_sem, g, h8]
     refine pC hF [.sh, .sh, .sh] zaH (fun z9 hF => ?_)
     try simp [go_sem, g, h8]
     refine pwg_F hF (fun h10 hF => ?_) fun h10 hF => ?_
     ·try simp [go_sem, g, h10]
      refine pC hF [.sh] zeW (fun z11 hF => ?_)
      try simp [go_sem, g, h10]
      refine pwg_F hF (fun h12 hF => ?_) fun h12 hF => ?_
      ·try simp [go_sem, g, h12]
       refine pC hF [.sh] zeW (fun z13 hF => ?_)
       try simp [go_sem, g, h12]
       refine pwg_F hF (fun h14 hF => ?_) fun h14 hF => ?_
       ·try simp [go_sem, g, h14]
        refine pC hF [.sh, .sh, .sh] zet (fun z15 hF => ?_)
        try simp [go_sem, g, h14]
        exact pT (hj1 (z15 == 1)) (Rn_some hF)
       ·try simp [go_sem, g, h14]
        exact pT (hj1 false) (Rn_some hF)
      ·try simp [go_sem, g, h12]
       exact pT (hj1 false) (Rn_some hF)
     ·try simp [go_sem, g, h10]
      exact pT (hj1 false) (Rn_some hF)
    ·try simp [go_sem, g, h8]
     exact pT (hj1 false) (Rn_some hF)
   ·try simp [go_sem, g, h7]
    exact pT (hj1 false) (Rn_some hF)
  ·try simp [go_sem, g, h5]
   exact pT (hj1 false) (Rn_some hF)
noncomputable def zcA (a0 : Group) (a1 : Int) : Option (Bool) :=
 (((zap a1 1 (i64.wrap (a0.P - 1))).bind fun z4 =>
 if z4 = true then (
 (zce a1 a0.Q a0.P).bind fun z6 =>
 some (z6 == 1)) else (
 some false) : Option (Bool)).bind fun x3 =>
 some x3)
theorem zfU : ∀ {a0} {a1} {r}, zcA a0 a1 = some r → PCalls Tryz.prog 93 [(.sh, .agg [.int .i64 a0.P, .int .i64 a0.Q, .int .i64 a0.G]), (.sh, .int .i64 a1)] (Eo (.bool r) [.junk, .junk]) := by
 intro a0 a1 r hr
 apply pF 19 [] [] [] [.tmp 4] hr cl93 Tryz.func93
 intro Φ hΦ hF g
 unfold zcA at hF
 try simp [go_sem, g]
 refine pw_wk ?_
 repeat rw [sq]
 refine pJ hF (fun x3 => [(4, .v (.bool x3))]) (fun x3 hF => ?_) fun _ hj1 hF => ?_
 ·cases hΦ _ (Rn_some hF)
  try simp [go_sem, g]
 ·try simp [go_sem, g]
  refine pC hF [.sh, .sh, .sh] zaH (fun z4 hF => ?_)
  try simp [go_sem, g]
  refine pwg_F hF (fun h5 hF => ?_) fun h5 hF => ?_
  ·try simp [go_sem, g, h5]
   refine pC hF [.sh, .sh, .sh] zet (fun z6 hF => ?_)
   try simp [go_sem, g, h5]
   exact pT (hj1 (z6 == 1)) (Rn_some hF)
  ·try simp [go_sem, g, h5]
   exact pT (hj1 false) (Rn_some hF)
noncomputable def zaK (a0 : Int) (a1c0x0 : Group) : Option (Bool) :=
 (zcA a1c0x0 a0).bind fun z1 =>
 some (!z1)
theorem zdG : ∀ {a0} {a1c0x0} {r}, zaK a0 a1c0x0 = some r → PCalls Tryz.prog 71 [(.sh, .int .i64 a0), (.sh, .fp [.func (.func 93) [.agg [.int .i64 a1c0x0.P, .int .i64 a1c0x0.Q, .int .i64 a1c0x0.G]] []])] (Eo (.bool r) [.junk, .junk]) := by
 intro a0 a1c0x0 r hr
 apply pF 8 [] [] [] [.tmp 3] hr cl71 Tryz.func71
 intro Φ hΦ hF g
 unfold zaK at hF
 try simp [go_sem, g]
 refine pw_wk ?_
 try simp [go_sem, g]
 refine pC hF [.sh] zfU (fun z1 hF => ?_)
 cases hΦ _ (Rn_some hF)
 try simp [go_sem, g]
 refine pw_wk ?_
 try simp [go_sem, g]
noncomputable def zam (a0 : (List Int)) (a1u0c0x0 : Group) : Option (Int) :=
 ((rloop (σ := Unit) (fun i5 s4 =>
 (ix a0 i5).bind fun x11 =>
 (zaK x11 a1u0c0x0).bind fun z12 =>
 if z12 = true then (
 some (.out (.inr i5))) else (
 some (.go ()))) (fun s4 => .inl ()) (a0.length) 0 () : Option (Unit ⊕ Int)).bind (Sum.elim (fun x3 =>
 some (-1)) some))
theorem zb8 : ∀ {a0} {a1u0c0x0} {r}, zam a0 a1u0c0x0 = some r → PCalls Tryz.prog 101 [(.sh, .sl false 1 (a0.map zaa)), (.sh, .func (.func 71) [] [.fp [.func (.func 93) [.agg [.int .i64 a1u0c0x0.P, .int .i64 a1u0c0x0.Q, .int .i64 a1u0c0x0.G]] []]])] (Eo (.int .i64 r) [.junk, .junk]) := by
 intro a0 a1u0c0x0 r hr
 apply pF 19 [] [] [] [.tmp 4] hr cl101 Tryz.func101
 intro Φ hΦ hF g
 unfold zam at hF
 iterate 2 (try simp [go_sem, g]; try intros; refine pw_wk ?_)
 repeat rw [sq]
 refine pJs hF (fun x3 => []) (fun x3 hF => ?_) fun _ hj1 hr2 hF => ?_
 ·cases hΦ _ (Rn_some hF)
  try simp [go_sem, g]
  refine pw_wk ?_
  try simp [go_sem, g]
 ·repeat rw [sq]
  rw [pw_block]
  obtain ⟨b14, hb15, hψ8⟩ := hF
  refine pR hb15 (fun i5 s4 => [(0, .v (.sl false 1 (a0.map zaa))), (1, .v (.func (.func 71) [] [.fp [.func (.func 93) [.agg [.int .i64 a1u0c0x0.P, .int .i64 a1u0c0x0.Q, .int .i64 a1u0c0x0.G]] []]])), (7, .v (.int .i64 (a0.length : Int))), (8, .v (.int .i64 i5))]) (fun s4 _ hN16 => ?_) (fun i5 s4 _ _ hi9 hi10 ho6 hg7 hF => ?_)
  ·subst hN16
   try simp [go_sem]
   refine pw_wk ?_
   repeat rw [sq]
   refine pw_cond_f (by simp [go_sem]) ?_
   try simp [go_sem]
   exact pT (hj1 ()) hψ8 (by simp [go_sem])
  ·try simp [go_sem, g]
   refine pw_wk ?_
   repeat rw [sq]
   refine pw_cond_t (by simp [go_sem, g, hi9, hi10]) ?_
   try simp [go_sem, g]
   refine pw_wk ?_
   repeat rw [sq]
   rw [pw_block]
   obtain ⟨x11, g, hF⟩ := Rx g hF
   try simp [go_sem, g]
   refine pw_wk ?_
   try simp [go_sem, g]
   refine pC hF [.sh] zdG (fun z12 hF => ?_)
   try simp [go_sem, g]
   refine pw_wkK [0, 1, 5, 7, 8, 16] (by simp [go_sem, g]; rfl) ?_
   repeat rw [sq]
   refine pI hF (fun h13 hF => ?_) (fun h13 hF => ?_)
   ·cases ho6 _ (Rn_some hF)
    cases hΦ _ (hr2 _ hψ8)
    try simp [go_sem, g]
    refine pw_wk ?_
    try simp [go_sem, g]
   ·try simp [go_sem, g]
    refine pw_wk ?_
    try simp [go_sem, g]
    exact pT (hg7 ()) (Rn_some hF) (by simp [go_sem, g, wr_i hi9 hi10 (by assumption)])
noncomputable def zak (a0 : (List Int)) (a1u0c0x0 : Group) : Option (Bool) :=
 (zam a0 a1u0c0x0).bind fun z1 =>
 some (decide (0 ≤ z1))
theorem zbR : ∀ {a0} {a1u0c0x0} {r}, zak a0 a1u0c0x0 = some r → PCalls Tryz.prog 70 [(.sh, .sl false 1 (a0.map zaa)), (.sh, .func (.func 71) [] [.fp [.func (.func 93) [.agg [.int .i64 a1u0c0x0.P, .int .i64 a1u0c0x0.Q, .int .i64 a1u0c0x0.G]] []]])] (Eo (.bool r) [.junk, .junk]) := by
 intro a0 a1u0c0x0 r hr
 apply pF 9 [] [] [] [.tmp 4] hr cl70 Tryz.func70
 intro Φ hΦ hF g
 unfold zak at hF
 try simp [go_sem, g]
 refine pw_wk ?_
 try simp [go_sem, g]
 refine pC hF [.sh, .sh] zb8 (fun z1 hF => ?_)
 cases hΦ _ (Rn_some hF)
 try simp [go_sem, g]
 refine pw_wk ?_
 try simp [go_sem, g]
noncomputable def zbf (a0 : (List Int)) (a1x0 : Group) : Option (Bool) :=
 (zak a0 a1x0).bind fun z1 =>
 some (!z1)
theorem zdS : ∀ {a0} {a1x0} {r}, zbf a0 a1x0 = some r → PCalls Tryz.prog 34 [(.sh, .sl false 1 (a0.map zaa)), (.sh, .func (.func 93) [.agg [.int .i64 a1x0.P, .int .i64 a1x0.Q, .int .i64 a1x0.G]] [])] (Eo (.bool r) [.junk, .junk]) := by
 intro a0 a1x0 r hr
 apply pF 9 [] [] [1000000] [.tmp 4] hr cl34 Tryz.func34
 intro Φ hΦ hF g
 unfold zbf at hF
 try simp [go_sem, g]
 refine pw_wk ?_
 try simp [go_sem, g]
 refine pC hF [.sh, .sh] zbR (fun z1 hF => ?_)
 cases hΦ _ (Rn_some hF)
 try simp [go_sem, g]
 refine pw_wk ?_
 try simp [go_sem, g]
noncomputable def zbt (a0 : Group) (a1 : (List Int)) : Option (Bool) :=
 (zbf a1 a0).bind fun z1 =>
 some z1
theorem zdU : ∀ {a0} {a1} {r}, zbt a0 a1 = some r → PCalls Tryz.prog 60 [(.sh, .agg [.int .i64 a0.P, .int .i64 a0.Q, .int .i64 a0.G]), (.sh, .sl false 1 (a1.map zaa))] (Eo (.bool r) [.junk, .junk]) := by
 intro a0 a1 r hr
 apply pF 9 [] [] [] [.tmp 4] hr cl60 Tryz.func60
 intro Φ hΦ hF g
 unfold zbt at hF
 try simp [go_sem, g]
 refine pw_wk ?_
 try simp [go_sem, g]
 refine pC hF [.sh, .sh] zdS (fun z1 hF => ?_)
 cases hΦ _ (Rn_some hF)
 try simp [go_sem, g]
 refine pw_wk ?_
 try simp [go_sem, g]
noncomputable def zbN (a0 : Group) (a1 : (List Int)) : Option (Bool) :=
 ((if decide ((a1.length : Int) ≤ 40) = true then (
 (zbt a0 a1).bind fun z5 =>
 some z5) else (
 some false) : Option (Bool)).bind fun x3 =>
 some x3)
theorem ze3 : ∀ {a0} {a1} {r}, zbN a0 a1 = some r → PCalls Tryz.prog 26 [(.sh, .agg [.int .i64 a0.P, .int .i64 a0.Q, .int .i64 a0.G]), (.sh, .sl false 1 (a1.map zaa))] (Eo (.bool r) [.junk, .junk]) := by
 intro a0 a1 r hr
 apply pF 13 [] [] [] [.tmp 4] hr cl26 Tryz.func26
 intro Φ hΦ hF g
 unfold zbN at hF
 try simp [go_sem, g]
 refine pw_wk ?_
 repeat rw [sq]
 refine pJ hF (fun x3 => [(4, .v (.bool x3))]) (fun x3 hF => ?_) fun _ hj1 hF => ?_
 ·cases hΦ _ (Rn_some hF)
  try simp [go_sem, g]
 ·try simp [go_sem, g]
  try intros
  refine pwg_F hF (fun h4 hF => ?_) fun h4 hF => ?_
  ·try simp [go_sem, g, h4]
   refine pC hF [.sh, .sh] zdU (fun z5 hF => ?_)
   try simp [go_sem, g, h4]
   exact pT (hj1 z5) (Rn_some hF)
  ·try simp [go_sem, g, h4]
   exact pT (hj1 false) (Rn_some hF)
noncomputable def zdf (a0 : ByteArray) (a1 : (List Int)) : Option ((List Int)) :=
 ((wloop (σ := (List Int) × Int) (fun s4 =>
 if decide (s4.2 < (a0.size : Int)) = true then (
 (ixs a0 s4.2).bind fun x10 =>
 gd ((s4.1.length + 1) * 8 ≤ 140737488355328 ∧ s4.1.length + 1 ≤ 4611686018427387904) <|
 some (.go (s4.1 ++ [i64.wrap x10], i64.wrap (s4.2 + 1)))) else (
 some (.out s4.1))) ([(a0.size : Int)], 0) : Option ((List Int))).bind fun x3 =>
 gd ((x3.length + a1.length) * 8 ≤ 140737488355328 ∧ x3.length + a1.length ≤ 4611686018427387904) <|
 some (x3 ++ a1))
theorem zf7 : ∀ {a0} {a1} {r}, zdf a0 a1 = some r → PCalls Tryz.prog 140 [(.sh, .str a0), (.sh, .sl false 1 (a1.map zaa))] (Eo (.sl true 1 (r.map zaa)) [.junk, .junk]) := by
 intro a0 a1 r hr
 apply pF 26 [] [] [] [.tmp 4] hr cl140 Tryz.func140
 intro Φ hΦ hF g
 unfold zdf at hF
 iterate 3 (try simp [go_sem, g]; refine pw_wk ?_)
 repeat rw [sq]
 refine pJ hF (fun x3 => [(1, .v (.sl false 1 (a1.map zaa))), (5, .v (.sl true 1 (x3.map zaa)))]) (fun x3 hF => ?_) fun _ hj1 hF => ?_
 ·obtain ⟨g, hF⟩ := Rg g hF
  try simp [go_sem, g]
  refine pw_wkK [4] (by simp [go_sem, g]; rfl) ?_
  cases hΦ _ (Rn_some hF)
  try simp [go_sem, g]
 ·repeat rw [sq]
  rw [pw_block]
  obtain ⟨b11, hb12, hψ8⟩ := hF
  refine pL hb12 (fun s4 => [(0, .v (.str a0)), (1, .v (.sl false 1 (a1.map zaa))), (5, .v (.sl true 1 (s4.1.map zaa))), (11, .v (.int .i64 (a0.size : Int))), (12, .v (.int .i64 s4.2))]) (fun s4 _ _ ho6 hg7 hF => ?_)
  try simp [go_sem, g]
  refine pw_wk ?_
  repeat rw [sq]
  refine pI hF (fun h9 hF => ?_) (fun h9 hF => ?_)
  ·try simp [go_sem, g]
   refine pw_wk ?_
   repeat rw [sq]
   rw [pw_block]
   try simp [go_sem, g]
   refine pw_wkK [0, 1, 5, 6, 11, 12] (by simp [go_sem, g]; rfl) ?_
   obtain ⟨x10, g, hF⟩ := Rxs g hF
   obtain ⟨g, hF⟩ := Rg g hF
   try simp [go_sem, g]
   refine pw_wk ?_
   try simp [go_sem, g]
   exact pT (hg7 (s4.1 ++ [i64.wrap x10], i64.wrap (s4.2 + 1))) (Rn_some hF)
  ·try simp [go_sem, g]
   cases ho6 _ (Rn_some hF)
   exact pT (hj1 s4.1) hψ8
noncomputable def zaM (a0 : Int) : Option (Bool) :=
 (zbI a0).bind fun z1 =>
 some (!z1)
theorem zdH : ∀ {a0} {r}, zaM a0 = some r → PCalls Tryz.prog 71 [(.sh, .int .i64 a0), (.sh, .fp [.func (.func 35) [] []])] (Eo (.bool r) [.junk, .junk]) := by
 intro a0 r hr
 apply pF 8 [] [] [] [.tmp 3] hr cl71 Tryz.func71
 intro Φ hΦ hF g
 unfold zaM at hF
 try simp [go_sem, g]
 refine pw_wk ?_
 try simp [go_sem, g]
 refine pC hF [.sh] zdN (fun z1 hF => ?_)
 cases hΦ _ (Rn_some hF)
 try simp [go_sem, g]
 refine pw_wk ?_
 try simp [go_sem, g]
noncomputable def zaA (a0 : (List Int)) : Option (Int) :=
 ((rloop (σ := Unit) (fun i5 s4 =>
 (ix a0 i5).bind fun x11 =>
 (zaM x11).bind fun z12 =>
 if z12 = true then (
 some (.out (.inr i5))) else (
 some (.go ()))) (fun s4 => .inl ()) (a0.length) 0 () : Option (Unit ⊕ Int)).bind (Sum.elim (fun x3 =>
 some (-1)) some))
theorem zca : ∀ {a0} {r}, zaA a0 = some r → PCalls Tryz.prog 101 [(.sh, .sl false 1 (a0.map zaa)), (.sh, .func (.func 71) [] [.fp [.func (.func 35) [] []]])] (Eo (.int .i64 r) [.junk, .junk]) := by
 intro a0 r hr
 apply pF 19 [] [] [] [.tmp 4] hr cl101 Tryz.func101
 intro Φ hΦ hF g
 unfold zaA at hF
 iterate 2 (try simp [go_sem, g]; try intros; refine pw_wk ?_)
 repeat rw [sq]
 refine pJs hF (fun x3 => []) (fun x3 hF => ?_) fun _ hj1 hr2 hF => ?_
 ·cases hΦ _ (Rn_some hF)
  try simp [go_sem, g]
  refine pw_wk ?_
  try simp [go_sem, g]
 ·repeat rw [sq]
  rw [pw_block]
  obtain ⟨b14, hb15, hψ8⟩ := hF
  refine pR hb15 (fun i5 s4 => [(0, .v (.sl false 1 (a0.map zaa))), (1, .v (.func (.func 71) [] [.fp [.func (.func 35) [] []]])), (7, .v (.int .i64 (a0.length : Int))), (8, .v (.int .i64 i5))]) (fun s4 _ hN16 => ?_) (fun i5 s4 _ _ hi9 hi10 ho6 hg7 hF => ?_)
  ·subst hN16
   try simp [go_sem]
   refine pw_wk ?_
   repeat rw [sq]
   refine pw_cond_f (by simp [go_sem]) ?_
   try simp [go_sem]
   exact pT (hj1 ()) hψ8 (by simp [go_sem])
  ·try simp [go_sem, g]
   refine pw_wk ?_
   repeat rw [sq]
   refine pw_cond_t (by simp [go_sem, g, hi9, hi10]) ?_
   try simp [go_sem, g]
   refine pw_wk ?_
   repeat rw [sq]
   rw [pw_block]
   obtain ⟨x11, g, hF⟩ := Rx g hF
   try simp [go_sem, g]
   refine pw_wk ?_
   try simp [go_sem, g]
   refine pC hF [.sh] zdH (fun z12 hF => ?_)
   try simp [go_sem, g]
   refine pw_wkK [0, 1, 5, 7, 8, 16] (by simp [go_sem, g]; rfl) ?_
   repeat rw [sq]
   refine pI hF (fun h13 hF => ?_) (fun h13 hF => ?_)
   ·cases ho6 _ (Rn_some hF)
    cases hΦ _ (hr2 _ hψ8)
    try simp [go_sem, g]
    refine pw_wk ?_
    try simp [go_sem, g]
   ·try simp [go_sem, g]
    refine pw_wk ?_
    try simp [go_sem, g]
    exact pT (hg7 ()) (Rn_some hF) (by simp [go_sem, g, wr_i hi9 hi10 (by assumption)])
noncomputable def zav (a0 : (List Int)) : Option (Bool) :=
 (zaA a0).bind fun z1 =>
 some (decide (0 ≤ z1))
theorem zbV : ∀ {a0} {r}, zav a0 = some r → PCalls Tryz.prog 70 [(.sh, .sl false 1 (a0.map zaa)), (.sh, .func (.func 71) [] [.fp [.func (.func 35) [] []]])] (Eo (.bool r) [.junk, .junk]) := by
 intro a0 r hr
 apply pF 9 [] [] [] [.tmp 4] hr cl70 Tryz.func70
 intro Φ hΦ hF g
 unfold zav at hF
 try simp [go_sem, g]
 refine pw_wk ?_
 try simp [go_sem, g]
 refine pC hF [.sh, .sh] zca (fun z1 hF => ?_)
 cases hΦ _ (Rn_some hF)
 try simp [go_sem, g]
 refine pw_wk ?_
 try simp [go_sem, g]
noncomputable def zbj (a0 : (List Int)) : Option (Bool) :=
 (zav a0).bind fun z1 =>
 some (!z1)
theorem zdZ : ∀ {a0} {r}, zbj a0 = some r → PCalls Tryz.prog 34 [(.sh, .sl false 1 (a0.map zaa)), (.sh, .func (.func 35) [] [])] (Eo (.bool r) [.junk, .junk]) := by
 intro a0 r hr
 apply pF 9 [] [] [1000000] [.tmp 4] hr cl34 Tryz.func34
 intro Φ hΦ hF g
 unfold zbj at hF
 try simp [go_sem, g]
 refine pw_wk ?_
 try simp [go_sem, g]
 refine pC hF [.sh, .sh] zbV (fun z1 hF => ?_)
 cases hΦ _ (Rn_some hF)
 try simp [go_sem, g]
 refine pw_wk ?_
 try simp [go_sem, g]
noncomputable def zcp (a0 : (List Int)) : Option (Bool) :=
 ((if decide ((a0.length : Int) ≤ 400) = true then (
 (zbj a0).bind fun z5 =>
 some z5) else (
 some false) : Option (Bool)).bind fun x3 =>
 some x3)
theorem zfE : ∀ {a0} {r}, zcp a0 = some r → PCalls Tryz.prog 156 [(.sh, .sl false 1 (a0.map zaa))] (Eo (.bool r) [.junk]) := by
 intro a0 r hr
 apply pF 10 [] [] [] [.tmp 2] hr cl156 Tryz.func156
 intro Φ hΦ hF g
 unfold zcp at hF
 try simp [go_sem, g]
 refine pw_wk ?_
 repeat rw [sq]
 refine pJ hF (fun x3 => [(2, .v (.bool x3))]) (fun x3 hF => ?_) fun _ hj1 hF => ?_
 ·cases hΦ _ (Rn_some hF)
  try simp [go_sem, g]
 ·try simp [go_sem, g]
  try intros
  refine pwg_F hF (fun h4 hF => ?_) fun h4 hF => ?_
  ·try simp [go_sem, g, h4]
   refine pC hF [.sh, .sh] zdZ (fun z5 hF => ?_)
   try simp [go_sem, g, h4]
   exact pT (hj1 z5) (Rn_some hF)
  ·try simp [go_sem, g, h4]
   exact pT (hj1 false) (Rn_some hF)
noncomputable def zdu (a0 : (List Int)) : Option (Int) :=
 gd (([(a0.length : Int)].length + a0.length) * 8 ≤ 140737488355328 ∧ [(a0.length : Int)].length + a0.length ≤ 4611686018427387904) <|
 (some ([(a0.length : Int)] ++ a0)).bind fun x1 =>
 ((rloop (σ := Int × Int) (fun i7 s6 =>
 (ix x1 i7).bind fun x13 =>
 some (.go ((i64.wrap ((i64.wrap ((i64.wrap (48271 * ((i64.wrap ((i64.wrap ((i64.wrap (48271 * s6.1)) + (i64.wrap ((BitVec.ofInt i64.bits x13 &&& BitVec.ofInt i64.bits 2147483647).toNat)))) + 1)).tmod 2147483647))) + (x13.fdiv 2147483648))) + 1)).tmod 2147483647, (i64.wrap ((i64.wrap ((i64.wrap (69621 * ((i64.wrap ((i64.wrap ((i64.wrap (69621 * s6.2)) + (i64.wrap ((BitVec.ofInt i64.bits x13 &&& BitVec.ofInt i64.bits 2147483647).toNat)))) + 1)).tmod 2147483647))) + (x13.fdiv 2147483648))) + 1)).tmod 2147483647))) (fun s6 => (s6.1, s6.2)) (x1.length) 0 (1, 2) : Option ((Int × Int))).bind fun x5 =>
 some (i64.wrap ((i64.wrap (x5.1 * 2147483648)) + x5.2)))
theorem zhh : ∀ {a0} {r}, zdu a0 = some r → PCalls Tryz.prog 157 [(.sh, .sl false 1 (a0.map zaa))] (Eo (.int .i64 r) [.junk]) := by
 intro a0 r hr
 apply pF 52 [] [] [] [.tmp 2] hr cl157 Tryz.func157
 intro Φ hΦ hF g
 unfold zdu at hF
 obtain ⟨g, hF⟩ := Rg g hF
 obtain ⟨x1, e2, hF⟩ := Rn_bind hF
 have g := And.intro g (show [.int .i64 (a0.length : Int)] :: (List.map zaa a0) = x1.map zaa by injection e2 with e2; rw [← e2]; simp [go_sem])
 iterate 2 (try simp [go_sem, g]; try intros; refine pw_wk ?_)
 try simp [go_sem, g]
 try intros
 refine pw_wkK [3, 4, 13, 14, 15] (by simp [go_sem, g]; rfl) ?_
 repeat rw [sq]
 refine pJ hF (fun x5 => [(3, .v (.int .i64 x5.1)), (4, .v (.int .i64 x5.2))]) (fun x5 hF => ?_) fun _ hj3 hF => ?_
 ·have g := Ls g 31
  cases hΦ _ (Rn_some hF)
  try simp [go_sem, g]
  refine pw_wk ?_
  try simp [go_sem, g]
 ·repeat rw [sq]
  rw [pw_block]
  obtain ⟨b14, hb15, hψ10⟩ := hF
  refine pR hb15 (fun i7 s6 => [(3, .v (.int .i64 s6.1)), (4, .v (.int .i64 s6.2)), (13, .v (.sl true 1 (x1.map zaa))), (14, .v (.int .i64 (x1.length : Int))), (15, .v (.int .i64 i7))]) (fun s6 _ hN16 => ?_) (fun i7 s6 _ _ hi11 hi12 ho8 hg9 hF => ?_)
  ·subst hN16
   try simp [go_sem]
   refine pw_wk ?_
   repeat rw [sq]
   refine pw_cond_f (by simp [go_sem]) ?_
   try simp [go_sem]
   exact pT (hj3 (s6.1, s6.2)) hψ10 (by simp [go_sem])
  ·try simp [go_sem, g]
   refine pw_wk ?_
   repeat rw [sq]
   refine pw_cond_t (by simp [go_sem, g, hi11, hi12]) ?_
   try simp [go_sem, g]
   refine pw_wk ?_
   repeat rw [sq]
   rw [pw_block]
   obtain ⟨x13, g, hF⟩ := Rx g hF
   have g := Ls g 31
   try simp [go_sem, g]
   refine pw_wk ?_
   try simp [go_sem, g]
   refine pw_wkK [3, 4, 7, 8, 13, 14, 15] (by simp [go_sem, g]; rfl) ?_
   have g := Ld g 2147483647
   try simp [go_sem, g]
   refine pw_wk ?_
   try simp [go_sem, g]
   refine pw_wkK [3, 4, 7, 8, 13, 14, 15] (by simp [go_sem, g]; rfl) ?_
   try simp [go_sem, g]
   refine pw_wk ?_
   try simp [go_sem, g]
   refine pw_wkK [3, 4, 13, 14, 15] (by simp [go_sem, g]; rfl) ?_
   try simp [go_sem, g]
   exact pT (hg9 ((i64.wrap ((i64.wrap ((i64.wrap (48271 * ((i64.wrap ((i64.wrap ((i64.wrap (48271 * s6.1)) + (i64.wrap ((BitVec.ofInt i64.bits x13 &&& BitVec.ofInt i64.bits 2147483647).toNat)))) + 1)).tmod 2147483647))) + (x13.fdiv 2147483648))) + 1)).tmod 2147483647, (i64.wrap ((i64.wrap ((i64.wrap (69621 * ((i64.wrap ((i64.wrap ((i64.wrap (69621 * s6.2)) + (i64.wrap ((BitVec.ofInt i64.bits x13 &&& BitVec.ofInt i64.bits 2147483647).toNat)))) + 1)).tmod 2147483647))) + (x13.fdiv 2147483648))) + 1)).tmod 2147483647)) (Rn_some hF) (by simp [go_sem, g, wr_i hi11 hi12 (by assumption)])
noncomputable def zcM (a0 : (List Int)) : Option (Int × Bool) :=
 (zcp a0).bind fun z1 =>
 if (!z1) = true then (
 some (0, false)) else (
 (zdu a0).bind fun z3 =>
 some (z3, true))
theorem zgg : ∀ {a0} {r}, zcM a0 = some r → PCalls Tryz.prog 139 [(.sh, .sl false 1 (a0.map zaa))] (Eo (.tup [.int .i64 r.1, .bool r.2]) [.junk]) := by
 intro a0 r hr
 apply pF 9 [] [] [] [.tmp 2, .tmp 3] hr cl139 Tryz.func139
 intro Φ hΦ hF g
 unfold zcM at hF
 try simp [go_sem, g]
 refine pw_wk ?_
 try simp [go_sem, g]
 refine pC hF [.sh] zfE (fun z1 hF => ?_)
 try simp [go_sem, g]
 refine pw_wk ?_
 repeat rw [sq]
 refine pI hF (fun h2 hF => ?_) (fun h2 hF => ?_)
 ·cases hΦ _ (Rn_some hF)
  try simp [go_sem, g]
  refine pw_wk ?_
  try simp [go_sem, g]
 ·try simp [go_sem, g]
  refine pw_wk ?_
  try simp [go_sem, g]
  refine pC hF [.sh] zhh (fun z3 hF => ?_)
  cases hΦ _ (Rn_some hF)
  try simp [go_sem, g]
  refine pw_wk ?_
  try simp [go_sem, g]
noncomputable def zaV (a0 : ByteArray) (a1 : (List Int)) : Option (Int × Bool) :=
 ((if decide (40 < (a0.size : Int)) = true then (
 some true) else (
 some (decide (400 < (a1.length : Int)))) : Option (Bool)).bind fun x3 =>
 if x3 = true then (
 some (0, false)) else (
 (zdf a0 a1).bind fun z6 =>
 (zcM z6).bind fun z7 =>
 some (z7.1, z7.2)))
theorem zdV : ∀ {a0} {a1} {r}, zaV a0 a1 = some r → PCalls Tryz.prog 122 [(.sh, .str a0), (.sh, .sl false 1 (a1.map zaa))] (Eo (.tup [.int .i64 r.1, .bool r.2]) [.junk, .junk]) := by
 intro a0 a1 r hr
 apply pF 20 [] [] [] [.tmp 4, .tmp 5] hr cl122 Tryz.func122
 intro Φ hΦ hF g
 unfold zaV at hF
 try simp [go_sem, g]
 refine pw_wk ?_
 repeat rw [sq]
 refine pJ hF (fun x3 => [(0, .v (.str a0)), (1, .v (.sl false 1 (a1.map zaa))), (13, .v (.bool x3))]) (fun x3 hF => ?_) fun _ hj1 hF => ?_
 ·repeat rw [sq]
  refine pI hF (fun h5 hF => ?_) (fun h5 hF => ?_)
  ·cases hΦ _ (Rn_some hF)
   try simp [go_sem, g]
   refine pw_wk ?_
   try simp [go_sem, g]
  ·try simp [go_sem, g]
   refine pw_wk ?_
   try simp [go_sem, g]
   refine pC hF [.sh, .sh] zf7 (fun z6 hF => ?_)
   try simp [go_sem, g]
   refine pC hF [.sh] zgg (fun z7 hF => ?_)
   try simp [go_sem, g]
   refine pw_wkK [4, 5] (by simp [go_sem, g]; rfl) ?_
   cases hΦ _ (Rn_some hF)
   try simp [go_sem, g]
 ·try simp [go_sem, g]
  refine pwg_F hF (fun h4 hF => ?_) fun h4 hF => ?_
  ·try simp [go_sem, g, h4]
   exact pT (hj1 true) (Rn_some hF)
  ·try simp [go_sem, g, h4]
   try intros
   exact pT (hj1 (decide (400 < (a1.length : Int)))) (Rn_some hF)
noncomputable def zct (a0 : Int) : Option (ByteArray × Bool) :=
 (zbI a0).bind fun z1 =>
 if (!z1) = true then (
 some ((⟨#[]⟩ : ByteArray), false)) else (
 ((wloop (σ := (List Int) × Int) (fun s6 =>
 if decide (0 ≤ s6.2) = true then (
 gd (0 ≤ (u64.wrap (i64.wrap (4 * s6.2)))) <|
 (ixs (⟨#[48, 49, 50, 51, 52, 53, 54, 55, 56, 57, 97, 98, 99, 100, 101, 102]⟩ : ByteArray) (i64.wrap ((BitVec.ofInt i64.bits (a0.fdiv (2 ^ min (u64.wrap (i64.wrap (4 * s6.2))).toNat i64.bits)) &&& BitVec.ofInt i64.bits 15).toNat))).bind fun x12 =>
 gd ((s6.1.length + 1) * 1 ≤ 140737488355328 ∧ s6.1.length + 1 ≤ 4611686018427387904) <|
 some (.go (s6.1 ++ [x12], i64.wrap (s6.2 - 1)))) else (
 some (.out s6.1))) ([], 15) : Option ((List Int))).bind fun x5 =>
 some ((bytesOf x5), true)))
theorem zfB : ∀ {a0} {r}, zct a0 = some r → PCalls Tryz.prog 141 [(.sh, .int .i64 a0)] (Eo (.tup [.str r.1, .bool r.2]) [.junk]) := by
 intro a0 r hr
 apply pF 26 [] [] [1000000] [.tmp 2, .tmp 3] hr cl141 Tryz.func141
 intro Φ hΦ hF g
 unfold zct at hF
 try simp [go_sem, g]
 refine pw_wk ?_
 try simp [go_sem, g]
 refine pC hF [.sh] zdN (fun z1 hF => ?_)
 try simp [go_sem, g]
 refine pw_wk ?_
 repeat rw [sq]
 refine pI hF (fun h2 hF => ?_) (fun h2 hF => ?_)
 ·cases hΦ _ (Rn_some hF)
  try simp [go_sem, g]
  refine pw_wk ?_
  try simp [go_sem, g]
 ·iterate 3 (try simp [go_sem, g]; refine pw_wk ?_)
  repeat rw [sq]
  refine pJ hF (fun x5 => [(4, .v (.sl true 1 (x5.map zag)))]) (fun x5 hF => ?_) fun _ hj3 hF => ?_
  ·try simp [go_sem, g]
   refine pw_wkK [2, 3] (by simp [go_sem, g]; rfl) ?_
   cases hΦ _ (Rn_some hF)
   try simp [go_sem, g]
  ·repeat rw [sq]
   rw [pw_block]
   obtain ⟨b13, hb14, hψ10⟩ := hF
   refine pL hb14 (fun s6 => [(0, .v (.int .i64 a0)), (4, .v (.sl true 1 (s6.1.map zag))), (5, .v (.int .i64 s6.2))]) (fun s6 _ _ ho8 hg9 hF => ?_)
   try simp [go_sem, g]
   refine pw_wkK [0, 4, 5, 11] (by simp [go_sem, g]; rfl) ?_
   repeat rw [sq]
   refine pI hF (fun h11 hF => ?_) (fun h11 hF => ?_)
   ·try simp [go_sem, g]
    refine pw_wk ?_
    repeat rw [sq]
    rw [pw_block]
    obtain ⟨g, hF⟩ := Rsh g hF
    obtain ⟨x12, g, hF⟩ := Rxs g hF
    obtain ⟨g, hF⟩ := Rg g hF
    try simp [go_sem, g]
    refine pw_wkK [0, 4, 5] (by simp [go_sem, g]; rfl) ?_
    try simp [go_sem, g]
    exact pT (hg9 (s6.1 ++ [x12], i64.wrap (s6.2 - 1))) (Rn_some hF)
   ·try simp [go_sem, g]
    cases ho8 _ (Rn_some hF)
    exact pT (hj3 s6.1) hψ10
noncomputable def zbB (a0 : ByteArray) (a1 : Int) : Option (ByteArray) :=
 (zct a1).bind fun z1 =>
 gd (a0.size + z1.1.size ≤ 9223372036854775807) <|
 some (a0 ++ z1.1)
theorem zfS : ∀ {a0} {a1} {r}, zbB a0 a1 = some r → PCalls Tryz.prog 123 [(.sh, .str a0), (.sh, .int .i64 a1)] (Eo (.str r) [.junk, .junk]) := by
 intro a0 a1 r hr
 apply pF 15 [] [] [] [.tmp 4] hr cl123 Tryz.func123
 intro Φ hΦ hF g
 unfold zbB at hF
 try simp [go_sem, g]
 refine pw_wk ?_
 try simp [go_sem, g]
 refine pC hF [.sh] zfB (fun z1 hF => ?_)
 obtain ⟨g, hF⟩ := Rsa g hF
 try simp [go_sem, g]
 refine pw_wk ?_
 try simp [go_sem, g]
 refine pw_wkK [4] (by simp [go_sem, g]; rfl) ?_
 cases hΦ _ (Rn_some hF)
 try simp [go_sem, g]
noncomputable def zbA (a0 : Int) (a1 : Int) (a2 : Int) : Option (ByteArray) :=
 (zaV (⟨#[104, 101, 97, 100]⟩ : ByteArray) [a0, a1, a2]).bind fun z1 =>
 (zbB (⟨#[104, 101, 97, 100, 32]⟩ : ByteArray) z1.1).bind fun z2 =>
 some z2
theorem zfV : ∀ {a0} {a1} {a2} {r}, zbA a0 a1 a2 = some r → PCalls Tryz.prog 100 [(.sh, .int .i64 a0), (.sh, .int .i64 a1), (.sh, .int .i64 a2)] (Eo (.str r) [.junk, .junk, .junk]) := by
 intro a0 a1 a2 r hr
 apply pF 19 [] [] [] [.tmp 6] hr cl100 Tryz.func100
 intro Φ hΦ hF g
 unfold zbA at hF
 try simp [go_sem, g]
 refine pw_wk ?_
 try simp [go_sem, g]
 refine pC hF [.sh, .sh] zdV (fun z1 hF => ?_)
 try simp [go_sem, g]
 refine pw_wkK [7] (by simp [go_sem, g]; rfl) ?_
 try simp [go_sem, g]
 refine pC hF [.sh, .sh] zfS (fun z2 hF => ?_)
 cases hΦ _ (Rn_some hF)
 try simp [go_sem, g]
 refine pw_wk ?_
 try simp [go_sem, g]
noncomputable def zcf (a0 : Group) (a1 : Int) : Option (Bool) :=
 (zap a1 0 (i64.wrap (a0.Q - 1))).bind fun z1 =>
 some z1
theorem zfr : ∀ {a0} {a1} {r}, zcf a0 a1 = some r → PCalls Tryz.prog 152 [(.sh, .agg [.int .i64 a0.P, .int .i64 a0.Q, .int .i64 a0.G]), (.sh, .int .i64 a1)] (Eo (.bool r) [.junk, .junk]) := by
 intro a0 a1 r hr
 apply pF 10 [] [] [] [.tmp 4] hr cl152 Tryz.func152
 intro Φ hΦ hF g
 unfold zcf at hF
 try simp [go_sem, g]
 refine pw_wk ?_
 try simp [go_sem, g]
 refine pC hF [.sh, .sh, .sh] zaH (fun z1 hF => ?_)
 cases hΦ _ (Rn_some hF)
 try simp [go_sem, g]
 refine pw_wk ?_
 try simp [go_sem, g]
noncomputable def zaD (a0 : Int) (a1c0x0 : Group) : Option (Bool) :=
 (zcf a1c0x0 a0).bind fun z1 =>
 some (!z1)
theorem zdz : ∀ {a0} {a1c0x0} {r}, zaD a0 a1c0x0 = some r → PCalls Tryz.prog 71 [(.sh, .int .i64 a0), (.sh, .fp [.func (.func 152) [.agg [.int .i64 a1c0x0.P, .int .i64 a1c0x0.Q, .int .i64 a1c0x0.G]] []])] (Eo (.bool r) [.junk, .junk]) := by
 intro a0 a1c0x0 r hr
 apply pF 8 [] [] [] [.tmp 3] hr cl71 Tryz.func71
 intro Φ hΦ hF g
 unfold zaD at hF
 try simp [go_sem, g]
 refine pw_wk ?_
 try simp [go_sem, g]
 refine pC hF [.sh] zfr (fun z1 hF => ?_)
 cases hΦ _ (Rn_some hF)
 try simp [go_sem, g]
 refine pw_wk ?_
 try simp [go_sem, g]
noncomputable def zau (a0 : (List Int)) (a1u0c0x0 : Group) : Option (Int) :=
 ((rloop (σ := Unit) (fun i5 s4 =>
 (ix a0 i5).bind fun x11 =>
 (zaD x11 a1u0c0x0).bind fun z12 =>
 if z12 = true then (
 some (.out (.inr i5))) else (
 some (.go ()))) (fun s4 => .inl ()) (a0.length) 0 () : Option (Unit ⊕ Int)).bind (Sum.elim (fun x3 =>
 some (-1)) some))
theorem zbU : ∀ {a0} {a1u0c0x0} {r}, zau a0 a1u0c0x0 = some r → PCalls Tryz.prog 101 [(.sh, .sl false 1 (a0.map zaa)), (.sh, .func (.func 71) [] [.fp [.func (.func 152) [.agg [.int .i64 a1u0c0x0.P, .int .i64 a1u0c0x0.Q, .int .i64 a1u0c0x0.G]] []]])] (Eo (.int .i64 r) [.junk, .junk]) := by
 intro a0 a1u0c0x0 r hr
 apply pF 19 [] [] [] [.tmp 4] hr cl101 Tryz.func101
 intro Φ hΦ hF g
 unfold zau at hF
 iterate 2 (try simp [go_sem, g]; try intros; refine pw_wk ?_)
 repeat rw [sq]
 refine pJs hF (fun x3 => []) (fun x3 hF => ?_) fun _ hj1 hr2 hF => ?_
 ·cases hΦ _ (Rn_some hF)
  try simp [go_sem, g]
  refine pw_wk ?_
  try simp [go_sem, g]
 ·repeat rw [sq]
  rw [pw_block]
  obtain ⟨b14, hb15, hψ8⟩ := hF
  refine pR hb15 (fun i5 s4 => [(0, .v (.sl false 1 (a0.map zaa))), (1, .v (.func (.func 71) [] [.fp [.func (.func 152) [.agg [.int .i64 a1u0c0x0.P, .int .i64 a1u0c0x0.Q, .int .i64 a1u0c0x0.G]] []]])), (7, .v (.int .i64 (a0.length : Int))), (8, .v (.int .i64 i5))]) (fun s4 _ hN16 => ?_) (fun i5 s4 _ _ hi9 hi10 ho6 hg7 hF => ?_)
  ·subst hN16
   try simp [go_sem]
   refine pw_wk ?_
   repeat rw [sq]
   refine pw_cond_f (by simp [go_sem]) ?_
   try simp [go_sem]
   exact pT (hj1 ()) hψ8 (by simp [go_sem])
  ·try simp [go_sem, g]
   refine pw_wk ?_
   repeat rw [sq]
   refine pw_cond_t (by simp [go_sem, g, hi9, hi10]) ?_
   try simp [go_sem, g]
   refine pw_wk ?_
   repeat rw [sq]
   rw [pw_block]
   obtain ⟨x11, g, hF⟩ := Rx g hF
   try simp [go_sem, g]
   refine pw_wk ?_
   try simp [go_sem, g]
   refine pC hF [.sh] zdz (fun z12 hF => ?_)
   try simp [go_sem, g]
   refine pw_wkK [0, 1, 5, 7, 8, 16] (by simp [go_sem, g]; rfl) ?_
   repeat rw [sq]
   refine pI hF (fun h13 hF => ?_) (fun h13 hF => ?_)
   ·cases ho6 _ (Rn_some hF)
    cases hΦ _ (hr2 _ hψ8)
    try simp [go_sem, g]
    refine pw_wk ?_
    try simp [go_sem, g]
   ·try simp [go_sem, g]
    refine pw_wk ?_
    try simp [go_sem, g]
    exact pT (hg7 ()) (Rn_some hF) (by simp [go_sem, g, wr_i hi9 hi10 (by assumption)])
noncomputable def zar (a0 : (List Int)) (a1u0c0x0 : Group) : Option (Bool) :=
 (zau a0 a1u0c0x0).bind fun z1 =>
 some (decide (0 ≤ z1))
theorem zbG : ∀ {a0} {a1u0c0x0} {r}, zar a0 a1u0c0x0 = some r → PCalls Tryz.prog 70 [(.sh, .sl false 1 (a0.map zaa)), (.sh, .func (.func 71) [] [.fp [.func (.func 152) [.agg [.int .i64 a1u0c0x0.P, .int .i64 a1u0c0x0.Q, .int .i64 a1u0c0x0.G]] []]])] (Eo (.bool r) [.junk, .junk]) := by
 intro a0 a1u0c0x0 r hr
 apply pF 9 [] [] [] [.tmp 4] hr cl70 Tryz.func70
 intro Φ hΦ hF g
 unfold zar at hF
 try simp [go_sem, g]
 refine pw_wk ?_
 try simp [go_sem, g]
 refine pC hF [.sh, .sh] zbU (fun z1 hF => ?_)
 cases hΦ _ (Rn_some hF)
 try simp [go_sem, g]
 refine pw_wk ?_
 try simp [go_sem, g]
noncomputable def za2 (a0 : (List Int)) (a1x0 : Group) : Option (Bool) :=
 (zar a0 a1x0).bind fun z1 =>
 some (!z1)
theorem zdF : ∀ {a0} {a1x0} {r}, za2 a0 a1x0 = some r → PCalls Tryz.prog 34 [(.sh, .sl false 1 (a0.map zaa)), (.sh, .func (.func 152) [.agg [.int .i64 a1x0.P, .int .i64 a1x0.Q, .int .i64 a1x0.G]] [])] (Eo (.bool r) [.junk, .junk]) := by
 intro a0 a1x0 r hr
 apply pF 9 [] [] [1000000] [.tmp 4] hr cl34 Tryz.func34
 intro Φ hΦ hF g
 unfold za2 at hF
 try simp [go_sem, g]
 refine pw_wk ?_
 try simp [go_sem, g]
 refine pC hF [.sh, .sh] zbG (fun z1 hF => ?_)
 cases hΦ _ (Rn_some hF)
 try simp [go_sem, g]
 refine pw_wk ?_
 try simp [go_sem, g]
noncomputable def zbJ (a0 : Group) (a1 : (List Int)) : Option (Bool) :=
 (za2 a1 a0).bind fun z1 =>
 some z1
theorem ze6 : ∀ {a0} {a1} {r}, zbJ a0 a1 = some r → PCalls Tryz.prog 133 [(.sh, .agg [.int .i64 a0.P, .int .i64 a0.Q, .int .i64 a0.G]), (.sh, .sl false 1 (a1.map zaa))] (Eo (.bool r) [.junk, .junk]) := by
 intro a0 a1 r hr
 apply pF 9 [] [] [] [.tmp 4] hr cl133 Tryz.func133
 intro Φ hΦ hF g
 unfold zbJ at hF
 try simp [go_sem, g]
 refine pw_wk ?_
 try simp [go_sem, g]
 refine pC hF [.sh, .sh] zdF (fun z1 hF => ?_)
 cases hΦ _ (Rn_some hF)
 try simp [go_sem, g]
 refine pw_wk ?_
 try simp [go_sem, g]
theorem zkD : GrowC Tryz.prog 153 26 := by
 intro n H e b es by_ z e1 e2 h0 h1 h2 h3 h4 h5
 refine acalls_intro cl153 Tryz.func153 rfl rfl (by simp [Tryz.f153]) fun hw => ?_
 have hn : ¬ n < 0 := by omega
 have hw1 : i64.wrap n = n := wrI (by omega)
 have hw0 : i64.wrap 0 = 0 := wrI (by omega)
 have ei : (intTy Tryz.prog 3).isSome = true := by kernel_rfl
 by_cases hp : 0 < n
 ·have hne : n ≠ 0 := by omega
  have h5' := h5
  simp [okConst] at h5'
  simp [Tryz.f153, awp, aops, aop, ahp, aplain, plainOps, matl, mat, plainV, putO, athen, FR.put, FR.init, rdv, rda, binV, binInt, okConst, Am.lenV, sliceV, sliceBnds, bnd, bndM, aend, resL, resV, resT, hn, e1, e2, ei, hw1, hw0, hp, h1, h2, h3, h4, hne]
  first | exact h5' | exact .inl h5'
 ·have hz : n = 0 := by omega
  subst hz
  simp [Tryz.f153, awp, aops, aop, ahp, aplain, plainOps, matl, mat, plainV, putO, athen, FR.put, FR.init, rdv, rda, binV, binInt, okConst, Am.lenV, sliceV, sliceBnds, bnd, bndM, aend, resL, resV, resT, hn, e1, e2, hw1, hw0, hp]
noncomputable def zaZ (a0 : (List (List Int))) : Option ((List Int)) :=
 ((rloop (σ := Int) (fun i5 s4 =>
 (ix a0 i5).bind fun x11 =>
 if decide ((i64.wrap (s4 + (x11.length : Int))) < 0) = true then (
 none) else (
 some (.go (i64.wrap (s4 + (x11.length : Int)))))) (fun s4 => s4) (a0.length) 0 0 : Option (Int)).bind fun x3 =>
 gd (0 ≤ x3 ∧ 8 * x3 ≤ 140737488355328 ∧ x3 ≤ 4611686018427387904) <|
 ((rloop (σ := (List Int)) (fun i22 s21 =>
 (ix a0 i22).bind fun x28 =>
 gd ((s21.length + x28.length) * 8 ≤ 140737488355328 ∧ s21.length + x28.length ≤ 4611686018427387904) <|
 some (.go (s21 ++ x28))) (fun s21 => s21) (a0.length) 0 [] : Option ((List Int))).bind fun x20 =>
 some x20))
theorem zdr : ∀ {a0} {r}, zaZ a0 = some r → PCalls Tryz.prog 135 [(.sh, .sl false 1 (a0.map zaf))] (Eo (.sl true 1 (r.map zaa)) [.junk]) := by
 intro a0 r hr
 apply pF 36 [] [] [] [.tmp 2] hr cl135 Tryz.func135
 intro Φ hΦ hF g
 unfold zaZ at hF
 iterate 3 (try simp [go_sem, g]; try intros; refine pw_wk ?_)
 repeat rw [sq]
 refine pJ hF (fun x3 => [(0, .v (.sl false 1 (a0.map zaf))), (3, .v (.int .i64 x3))]) (fun x3 hF => ?_) fun _ hj1 hF => ?_
 ·obtain ⟨g17, hF⟩ := Rn_gd hF
  try simp [go_sem, g]
  refine pw_grow zkD ez26 (by simp [go_sem, g]) g17 ?_
  try simp [go_sem, g]
  try intros
  refine pw_wk ?_
  try simp [go_sem, g]
  try intros
  refine pw_wkK [6, 25, 26, 27] (by simp [go_sem, g]; rfl) ?_
  repeat rw [sq]
  refine pJ hF (fun x20 => [(6, .v (.sl true 1 (x20.map zaa)))]) (fun x20 hF => ?_) fun _ hj18 hF => ?_
  ·cases hΦ _ (Rn_some hF)
   try simp [go_sem, g]
   refine pw_wk ?_
   try simp [go_sem, g]
  ·repeat rw [sq]
   rw [pw_block]
   obtain ⟨b29, hb30, hψ25⟩ := hF
   refine pR hb30 (fun i22 s21 => [(6, .v (.sl true 1 (s21.map zaa))), (25, .v (.sl false 1 (a0.map zaf))), (26, .v (.int .i64 (a0.length : Int))), (27, .v (.int .i64 i22))]) (fun s21 _ hN31 => ?_) (fun i22 s21 _ _ hi26 hi27 ho23 hg24 hF => ?_)
   ·subst hN31
    try simp [go_sem]
    refine pw_wk ?_
    repeat rw [sq]
    refine pw_cond_f (by simp [go_sem]) ?_
    try simp [go_sem]
    exact pT (hj18 s21) hψ25 (by simp [go_sem])
   ·try simp [go_sem, g]
    refine pw_wk ?_
    repeat rw [sq]
    refine pw_cond_t (by simp [go_sem, g, hi26, hi27]) ?_
    try simp [go_sem, g]
    refine pw_wk ?_
    repeat rw [sq]
    rw [pw_block]
    obtain ⟨x28, g, hF⟩ := Rx g hF
    obtain ⟨g, hF⟩ := Rg g hF
    iterate 2 (try simp [go_sem, g]; refine pw_wk ?_)
    try simp [go_sem, g]
    exact pT (hg24 (s21 ++ x28)) (Rn_some hF) (by simp [go_sem, g, wr_i hi26 hi27 (by assumption)])
 ·repeat rw [sq]
  rw [pw_block]
  obtain ⟨b13, hb14, hψ8⟩ := hF
  refine pR hb14 (fun i5 s4 => [(0, .v (.sl false 1 (a0.map zaf))), (3, .v (.int .i64 s4)), (9, .v (.sl false 1 (a0.map zaf))), (10, .v (.int .i64 (a0.length : Int))), (11, .v (.int .i64 i5))]) (fun s4 _ hN15 => ?_) (fun i5 s4 _ _ hi9 hi10 ho6 hg7 hF => ?_)
  ·subst hN15
   try simp [go_sem]
   refine pw_wk ?_
   repeat rw [sq]
   refine pw_cond_f (by simp [go_sem]) ?_
   try simp [go_sem]
   exact pT (hj1 s4) hψ8 (by simp [go_sem])
  ·try simp [go_sem, g]
   refine pw_wk ?_
   repeat rw [sq]
   refine pw_cond_t (by simp [go_sem, g, hi9, hi10]) ?_
   try simp [go_sem, g]
   refine pw_wk ?_
   repeat rw [sq]
   rw [pw_block]
   obtain ⟨x11, g, hF⟩ := Rx g hF
   try simp [go_sem, g]
   try intros
   refine pw_wk ?_
   try simp [go_sem, g]
   try intros
   refine pw_wkK [0, 3, 9, 10, 11] (by simp [go_sem, g]; rfl) ?_
   try simp [go_sem, g]
   refine pw_wk ?_
   repeat rw [sq]
   refine pI hF (fun h12 hF => ?_) (fun h12 hF => ?_)
   ·exact (Rn_none hF).elim
   ·try simp [go_sem, g]
    refine pw_wk ?_
    try simp [go_sem, g]
    exact pT (hg7 (i64.wrap (s4 + (x11.length : Int)))) (Rn_some hF) (by simp [go_sem, g, wr_i hi9 hi10 (by assumption)])
noncomputable def zbv (a0 : Group) (a1 : ByteArray) (a2 : (List Int)) : Option (Int × Bool) :=
 gd (([a0.P, a0.Q, a0.G].length + a2.length) * 8 ≤ 140737488355328 ∧ [a0.P, a0.Q, a0.G].length + a2.length ≤ 4611686018427387904) <|
 (zaV a1 ([a0.P, a0.Q, a0.G] ++ a2)).bind fun z1 =>
 if (!z1.2) = true then (
 some (0, false)) else (
 gd (a0.Q ≠ 0) <|
 some (z1.1.tmod a0.Q, true))
theorem zeL : ∀ {a0} {a1} {a2} {r}, zbv a0 a1 a2 = some r → PCalls Tryz.prog 134 [(.sh, .agg [.int .i64 a0.P, .int .i64 a0.Q, .int .i64 a0.G]), (.sh, .str a1), (.sh, .sl false 1 (a2.map zaa))] (Eo (.tup [.int .i64 r.1, .bool r.2]) [.junk, .junk, .junk]) := by
 intro a0 a1 a2 r hr
 apply pF 30 [] [] [] [.tmp 6, .tmp 7] hr cl134 Tryz.func134
 intro Φ hΦ hF g
 unfold zbv at hF
 obtain ⟨g, hF⟩ := Rg g hF
 try simp [go_sem, g]
 refine pw_wk ?_
 try simp [go_sem, g]
 refine pC hF [.sh, .sh] zdV (fun z1 hF => ?_)
 try simp [go_sem, g]
 refine pw_wkK [3, 8, 9] (by simp [go_sem, g]; rfl) ?_
 try simp [go_sem, g]
 refine pw_wk ?_
 repeat rw [sq]
 refine pI hF (fun h2 hF => ?_) (fun h2 hF => ?_)
 ·cases hΦ _ (Rn_some hF)
  try simp [go_sem, g]
  refine pw_wk ?_
  try simp [go_sem, g]
 ·obtain ⟨g, hF⟩ := Rz g hF
  cases hΦ _ (Rn_some hF)
  iterate 2 (try simp [go_sem, g]; refine pw_wk ?_)
  try simp [go_sem, g]
noncomputable def zdR (a0 : Int) (a1 : Int) : Option (Int) :=
 gd (a1 ≠ 0) <|
 gd (a1 ≠ 0) <|
 some ((i64.wrap ((a0.tmod a1) + a1)).tmod a1)
theorem zhN : ∀ {a0} {a1} {r}, zdR a0 a1 = some r → PCalls Tryz.prog 155 [(.sh, .int .i64 a0), (.sh, .int .i64 a1)] (Eo (.int .i64 r) [.junk, .junk]) := by
 intro a0 a1 r hr
 apply pF 12 [] [] [] [.tmp 4] hr cl155 Tryz.func155
 intro Φ hΦ hF g
 unfold zdR at hF
 obtain ⟨g, hF⟩ := Rz g hF
 obtain ⟨g, hF⟩ := Rz g hF
 cases hΦ _ (Rn_some hF)
 iterate 2 (try simp [go_sem, g]; refine pw_wk ?_)
 try simp [go_sem, g]
def ziq : List DE := [d0 0 [1], d0 1 [2], d1 2 [3] 3, d2 3 [9] 3 9, d1 5 [3] 3, d2 6 [12] 3 12, d3 4 [8, 10], d3 7 [7, 11, 13], d0 8 [14]]
noncomputable def zb5 (a0 : Group) (a1 : Int) (a2 : Int) : Option (Int) :=
 (zdR a2 a0.Q).bind fun z1 =>
 (zce a1 z1 a0.P).bind fun z2 =>
 some z2
theorem zeq : ∀ {a0} {a1} {a2} {r}, zb5 a0 a1 a2 = some r → PCalls Tryz.prog 138 [(.sh, .agg [.int .i64 a0.P, .int .i64 a0.Q, .int .i64 a0.G]), (.sh, .int .i64 a1), (.sh, .int .i64 a2)] (Eo (.int .i64 r) [.junk, .junk, .junk]) := by
 intro a0 a1 a2 r hr
 apply pF 15 [] [] [] [.tmp 6] hr cl138 Tryz.func138
 intro Φ hΦ hF g
 unfold zb5 at hF
 try simp [go_sem, g]
 refine pw_wk ?_
 repeat rw [sq]
 refine pw_draw ziq follows (by kernel_rfl) rfl ?_
 try simp only [go_sem, ziq]
 try simp [go_sem, g]
 refine pC hF [.sh, .sh] zhN (fun z1 hF => ?_)
 try simp [go_sem, g]
 refine pC hF [.sh, .sh, .sh] zet (fun z2 hF => ?_)
 try simp [go_sem, g]
 refine pw_wkK [6] (by simp [go_sem, g]; rfl) ?_
 cases hΦ _ (Rn_some hF)
 try simp [go_sem, g]
noncomputable def zby (a0 : Group) (a1 : (List Int)) : Option (Int) :=
 ((rloop (σ := Int) (fun i5 s4 =>
 (ix a1 i5).bind fun x11 =>
 gd (a0.P ≠ 0) <|
 some (.go ((i64.wrap (s4 * x11)).tmod a0.P))) (fun s4 => s4) (a1.length) 0 1 : Option (Int)).bind fun x3 =>
 some x3)
theorem zew : ∀ {a0} {a1} {r}, zby a0 a1 = some r → PCalls Tryz.prog 137 [(.sh, .agg [.int .i64 a0.P, .int .i64 a0.Q, .int .i64 a0.G]), (.sh, .sl false 1 (a1.map zaa))] (Eo (.int .i64 r) [.junk, .junk]) := by
 intro a0 a1 r hr
 apply pF 22 [] [] [] [.tmp 4] hr cl137 Tryz.func137
 intro Φ hΦ hF g
 unfold zby at hF
 iterate 3 (try simp [go_sem, g]; try intros; refine pw_wk ?_)
 repeat rw [sq]
 refine pJ hF (fun x3 => [(5, .v (.int .i64 x3))]) (fun x3 hF => ?_) fun _ hj1 hF => ?_
 ·cases hΦ _ (Rn_some hF)
  try simp [go_sem, g]
  refine pw_wk ?_
  try simp [go_sem, g]
 ·repeat rw [sq]
  rw [pw_block]
  obtain ⟨b12, hb13, hψ8⟩ := hF
  refine pR hb13 (fun i5 s4 => [(2, .bl [.int .i64 a0.P, .int .i64 a0.Q, .int .i64 a0.G]), (5, .v (.int .i64 s4)), (8, .v (.sl false 1 (a1.map zaa))), (9, .v (.int .i64 (a1.length : Int))), (10, .v (.int .i64 i5))]) (fun s4 _ hN14 => ?_) (fun i5 s4 _ _ hi9 hi10 ho6 hg7 hF => ?_)
  ·subst hN14
   try simp [go_sem]
   refine pw_wk ?_
   repeat rw [sq]
   refine pw_cond_f (by simp [go_sem]) ?_
   try simp [go_sem]
   exact pT (hj1 s4) hψ8 (by simp [go_sem])
  ·try simp [go_sem, g]
   refine pw_wk ?_
   repeat rw [sq]
   refine pw_cond_t (by simp [go_sem, g, hi9, hi10]) ?_
   try simp [go_sem, g]
   refine pw_wk ?_
   repeat rw [sq]
   rw [pw_block]
   obtain ⟨x11, g, hF⟩ := Rx g hF
   try simp [go_sem, g]
   refine pw_wkK [2, 5, 7, 8, 9, 10] (by simp [go_sem, g]; rfl) ?_
   obtain ⟨g, hF⟩ := Rz g hF
   try simp [go_sem, g]
   refine pw_wk ?_
   try simp [go_sem, g]
   exact pT (hg7 ((i64.wrap (s4 * x11)).tmod a0.P)) (Rn_some hF) (by simp [go_sem, g, wr_i hi9 hi10 (by assumption)])
def zim : List DE := [d2 0 [3] 3 3, d0 1 [7], d2 2 [3] 3 3, d0 3 [9], d0 4 [2], d0 5 [8], d0 6 [21, 22], d0 7 [23], d3 8 [19, 20, 24], d0 9 [18, 25], ⟨10, [17, 26], [], none, true, true, true⟩, d0 11 [27]]
noncomputable def zbW (a0 : Group) (a1 : (List Int)) (a2 : (List Int)) : Option (Int) :=
 ((rloop (σ := Int) (fun i5 s4 =>
 (ix a1 i5).bind fun x11 =>
 (ix a2 i5).bind fun x12 =>
 (zb5 a0 x11 x12).bind fun z13 =>
 (zby a0 [s4, z13]).bind fun z14 =>
 some (.go z14)) (fun s4 => s4) (a1.length) 0 1 : Option (Int)).bind fun x3 =>
 some x3)
theorem zfd : ∀ {a0} {a1} {a2} {r}, zbW a0 a1 a2 = some r → PCalls Tryz.prog 154 [(.sh, .agg [.int .i64 a0.P, .int .i64 a0.Q, .int .i64 a0.G]), (.sh, .sl false 1 (a1.map zaa)), (.sh, .sl false 1 (a2.map zaa))] (Eo (.int .i64 r) [.junk, .junk, .junk]) := by
 intro a0 a1 a2 r hr
 apply pF 30 [] [] [] [.tmp 6] hr cl154 Tryz.func154
 intro Φ hΦ hF g
 unfold zbW at hF
 iterate 3 (try simp [go_sem, g]; try intros; refine pw_wk ?_)
 repeat rw [sq]
 refine pJ hF (fun x3 => [(7, .v (.int .i64 x3))]) (fun x3 hF => ?_) fun _ hj1 hF => ?_
 ·cases hΦ _ (Rn_some hF)
  try simp [go_sem, g]
  refine pw_wk ?_
  try simp [go_sem, g]
 ·repeat rw [sq]
  rw [pw_block]
  obtain ⟨b15, hb16, hψ8⟩ := hF
  refine pR hb16 (fun i5 s4 => [(2, .v (.sl false 1 (a2.map zaa))), (3, .bl [.int .i64 a0.P, .int .i64 a0.Q, .int .i64 a0.G]), (7, .v (.int .i64 s4)), (10, .v (.sl false 1 (a1.map zaa))), (11, .v (.int .i64 (a1.length : Int))), (12, .v (.int .i64 i5))]) (fun s4 _ hN17 => ?_) (fun i5 s4 _ _ hi9 hi10 ho6 hg7 hF => ?_)
  ·subst hN17
   try simp [go_sem]
   refine pw_wk ?_
   repeat rw [sq]
   refine pw_cond_f (by simp [go_sem]) ?_
   try simp [go_sem]
   exact pT (hj1 s4) hψ8 (by simp [go_sem])
  ·try simp [go_sem, g]
   refine pw_wk ?_
   repeat rw [sq]
   refine pw_cond_t (by simp [go_sem, g, hi9, hi10]) ?_
   try simp [go_sem, g]
   refine pw_wk ?_
   repeat rw [sq]
   rw [pw_block]
   obtain ⟨x11, g, hF⟩ := Rx g hF
   try simp [go_sem, g]
   refine pw_wkK [2, 3, 7, 8, 9, 10, 11, 12] (by simp [go_sem, g]; rfl) ?_
   repeat rw [sq]
   refine pw_draw zim follows (by kernel_rfl) rfl ?_
   try simp only [go_sem, zim]
   obtain ⟨x12, g, hF⟩ := Rx g hF
   try simp [go_sem, g]
   refine pC hF [.sh, .sh, .sh] zeq (fun z13 hF => ?_)
   try simp [go_sem, g]
   refine pC hF [.sh, .sh] zew (fun z14 hF => ?_)
   try simp [go_sem, g]
   refine pw_wkK [2, 3, 7, 10, 11, 12] (by simp [go_sem, g]; rfl) ?_
   try simp [go_sem, g]
   exact pT (hg7 z14) (Rn_some hF) (by simp [go_sem, g, wr_i hi9 hi10 (by assumption)])
noncomputable def zbX (a0 : Group) (a1 : (List (List Int))) (a2 : (List Int)) : Option ((List Int)) :=
 ((rloop (σ := (List Int)) (fun i5 s4 =>
 (ix a1 i5).bind fun x11 =>
 (zbW a0 x11 a2).bind fun z12 =>
 gd ((s4.length + 1) * 8 ≤ 140737488355328 ∧ s4.length + 1 ≤ 4611686018427387904) <|
 some (.go (s4 ++ [z12]))) (fun s4 => s4) (a1.length) 0 [] : Option ((List Int))).bind fun x3 =>
 some x3)
theorem zfa : ∀ {a0} {a1} {a2} {r}, zbX a0 a1 a2 = some r → PCalls Tryz.prog 136 [(.sh, .agg [.int .i64 a0.P, .int .i64 a0.Q, .int .i64 a0.G]), (.sh, .sl false 1 (a1.map zaf)), (.sh, .sl false 1 (a2.map zaa))] (Eo (.sl true 1 (r.map zaa)) [.junk, .junk, .junk]) := by
 intro a0 a1 a2 r hr
 apply pF 26 [] [] [] [.tmp 6] hr cl136 Tryz.func136
 intro Φ hΦ hF g
 unfold zbX at hF
 iterate 3 (try simp [go_sem, g]; try intros; refine pw_wk ?_)
 repeat rw [sq]
 refine pJ hF (fun x3 => [(7, .v (.sl true 1 (x3.map zaa)))]) (fun x3 hF => ?_) fun _ hj1 hF => ?_
 ·cases hΦ _ (Rn_some hF)
  try simp [go_sem, g]
  refine pw_wk ?_
  try simp [go_sem, g]
 ·repeat rw [sq]
  rw [pw_block]
  obtain ⟨b13, hb14, hψ8⟩ := hF
  refine pR hb14 (fun i5 s4 => [(2, .v (.sl false 1 (a2.map zaa))), (3, .bl [.int .i64 a0.P, .int .i64 a0.Q, .int .i64 a0.G]), (7, .v (.sl true 1 (s4.map zaa))), (11, .v (.sl false 1 (a1.map zaf))), (12, .v (.int .i64 (a1.length : Int))), (13, .v (.int .i64 i5))]) (fun s4 _ hN15 => ?_) (fun i5 s4 _ _ hi9 hi10 ho6 hg7 hF => ?_)
  ·subst hN15
   try simp [go_sem]
   refine pw_wk ?_
   repeat rw [sq]
   refine pw_cond_f (by simp [go_sem]) ?_
   try simp [go_sem]
   exact pT (hj1 s4) hψ8 (by simp [go_sem])
  ·try simp [go_sem, g]
   refine pw_wk ?_
   repeat rw [sq]
   refine pw_cond_t (by simp [go_sem, g, hi9, hi10]) ?_
   try simp [go_sem, g]
   refine pw_wk ?_
   repeat rw [sq]
   rw [pw_block]
   obtain ⟨x11, g, hF⟩ := Rx g hF
   try simp [go_sem, g]
   refine pw_wkK [2, 3, 7, 9, 11, 12, 13] (by simp [go_sem, g]; rfl) ?_
   try simp [go_sem, g]
   refine pC hF [.sh, .sh, .sh] zfd (fun z12 hF => ?_)
   obtain ⟨g, hF⟩ := Rg g hF
   try simp [go_sem, g]
   refine pw_wk ?_
   try simp [go_sem, g]
   exact pT (hg7 (s4 ++ [z12])) (Rn_some hF) (by simp [go_sem, g, wr_i hi9 hi10 (by assumption)])
def zif : List DE := [d1 0 [9] 9, d2 1 [15] 9 15, d0 2 [16], d0 3 [2], d0 4 [18], d0 5 [17, 19], d0 6 [20], d1 7 [9, 21] 9, d2 8 [22, 21] 9 22, d0 9 [23, 21], d0 10 [24, 21], d0 11 [21, 25], d0 12 [26], d1 13 [9, 27] 9, d2 14 [28, 27] 9 28, d0 15 [29, 27], d0 16 [2, 27], d0 17 [31, 27], d0 18 [32, 27], d0 19 [33, 27], d0 20 [30, 34, 27], d0 21 [27, 35], d0 22 [36], d2 23 [5, 37] 5 5, d1 24 [9, 37] 9, d2 25 [39, 37] 9 39, d3 26 [38, 40, 37], d0 27 [41, 37], d0 28 [37, 42], d0 29 [43], d2 30 [5, 44] 5 5, d1 31 [9, 44] 9, d2 32 [46, 44] 9 46, d3 33 [45, 47, 44], d0 34 [48, 44], d0 35 [44, 49]]
def zh4 : List DE := [d2 0 [5] 5 5, d0 1 [1], d0 2 [2], d0 4 [3], d1 5 [9] 9, d2 6 [57] 9 57, d3 3 [54], d0 7 [55, 56, 58], ⟨8, [59], [], none, true, true, true⟩, d3 9 [52, 53, 60], d0 10 [61], d0 11 [51], d0 12 [51], d0 13 [62], d0 14 [63]]
def zhX : List DE := [d0 0 [14], d2 1 [5] 5 5, d1 2 [9] 9, d2 3 [87] 9 87, d0 4 [13], d0 5 [88, 89], d0 6 [90], d2 7 [5] 5 5, d0 8 [3], d0 9 [13], d0 10 [93, 94], d0 11 [95], d0 12 [11], ⟨13, [92, 96, 97], [], none, false, true, false⟩, d0 14 [91, 98], ⟨15, [86, 99], [], none, true, true, true⟩, d0 16 [85, 100]]
noncomputable def za9 (a0 : Group) (a1 : ByteArray) (a2 : (List (List Int))) (a3 : (List Int)) (a4 : Proof) : Option (Bool) :=
 ((if ((a4.Commits.length : Int) != (a2.length : Int)) = true then (
 some true) else (
 if ((a4.Challenges.length : Int) != 1) = true then (
 some true) else (
 (ix a2 0).bind fun x6 =>
 if ((a4.Responses.length : Int) != (x6.length : Int)) = true then (
 some true) else (
 (zbt a0 a4.Commits).bind fun z8 =>
 if (!z8) = true then (
 some true) else (
 (zbJ a0 a4.Responses).bind fun z10 =>
 some (!z10))))) : Option (Bool)).bind fun x3 =>
 if x3 = true then (
 some false) else (
 (zaZ a2).bind fun z12 =>
 (zaZ [z12, a3, a4.Commits]).bind fun z13 =>
 (zbv a0 a1 z13).bind fun z14 =>
 ((if (!z14.2) = true then (
 some true) else (
 (ix a4.Challenges 0).bind fun x19 =>
 some (x19 != z14.1)) : Option (Bool)).bind fun x17 =>
 if x17 = true then (
 some false) else (
 (zbX a0 a2 a4.Responses).bind fun z21 =>
 ((rloop (σ := Unit) (fun i26 s25 =>
 (ix z21 i26).bind fun x32 =>
 (ix a4.Commits i26).bind fun x33 =>
 (ix a3 i26).bind fun x34 =>
 (zb5 a0 x34 z14.1).bind fun z35 =>
 (zby a0 [x33, z35]).bind fun z36 =>
 if (x32 != z36) = true then (
 some (.out (.inr false))) else (
 some (.go ()))) (fun s25 => .inl ()) (z21.length) 0 () : Option (Unit ⊕ Bool)).bind (Sum.elim (fun x24 =>
 some true) some))))))
theorem zei : ∀ {a0} {a1} {a2} {a3} {a4} {r}, za9 a0 a1 a2 a3 a4 = some r → PCalls Tryz.prog 121 [(.sh, .agg [.int .i64 a0.P, .int .i64 a0.Q, .int .i64 a0.G]), (.sh, .str a1), (.sh, .sl false 1 (a2.map zaf)), (.sh, .sl false 1 (a3.map zaa)), (.sh, .agg [.sl false 1 (a4.Commits.map zaa), .sl false 1 (a4.Challenges.map zaa), .sl false 1 (a4.Responses.map zaa)])] (Eo (.bool r) [.junk, .junk, .junk, .junk, .junk]) := by
 intro a0 a1 a2 a3 a4 r hr
 apply pF 103 [] [55] [] [.tmp 10] hr cl121 Tryz.func121
 intro Φ hΦ hF g
 unfold za9 at hF
 try simp [go_sem, g]
 refine pw_wk ?_
 repeat rw [sq]
 refine pJ hF (fun x3 => [(1, .v (.str a1)), (2, .v (.sl false 1 (a2.map zaf))), (3, .v (.sl false 1 (a3.map zaa))), (5, .bl [.int .i64 a0.P, .int .i64 a0.Q, .int .i64 a0.G]), (9, .bl [.sl false 1 (a4.Commits.map zaa), .sl false 1 (a4.Challenges.map zaa), .sl false 1 (a4.Responses.map zaa)]), (50, .v (.bool x3))]) (fun x3 hF => ?_) fun _ hj1 hF => ?_
 ·repeat rw [sq]
  refine pI hF (fun h11 hF => ?_) (fun h11 hF => ?_)
  ·cases hΦ _ (Rn_some hF)
   try simp [go_sem, g]
   refine pw_wk ?_
   try simp [go_sem, g]
  ·try simp [go_sem, g]
   refine pw_wk ?_
   repeat rw [sq]
   refine pw_draw zh4 follows (by kernel_rfl) rfl ?_
   try simp only [go_sem, zh4]
   try simp [go_sem, g]
   refine pC hF [.sh] zdr (fun z12 hF => ?_)
   try simp [go_sem, g]
   refine pC hF [.sh] zdr (fun z13 hF => ?_)
   try simp [go_sem, g]
   refine pC hF [.sh, .sh, .sh] zeL (fun z14 hF => ?_)
   try simp [go_sem, g]
   refine pw_wkK [2, 3, 5, 9, 11, 12] (by simp [go_sem, g]; rfl) ?_
   repeat rw [sq]
   refine pJ hF (fun x17 => [(2, .v (.sl false 1 (a2.map zaf))), (3, .v (.sl false 1 (a3.map zaa))), (5, .bl [.int .i64 a0.P, .int .i64 a0.Q, .int .i64 a0.G]), (9, .bl [.sl false 1 (a4.Commits.map zaa), .sl false 1 (a4.Challenges.map zaa), .sl false 1 (a4.Responses.map zaa)]), (11, .v (.int .i64 z14.1)), (73, .v (.bool x17))]) (fun x17 hF => ?_) fun _ hj15 hF => ?_
   ·repeat rw [sq]
    refine pI hF (fun h20 hF => ?_) (fun h20 hF => ?_)
    ·cases hΦ _ (Rn_some hF)
     try simp [go_sem, g]
     refine pw_wk ?_
     try simp [go_sem, g]
    ·try simp [go_sem, g]
     refine pw_wk ?_
     try simp [go_sem, g]
     refine pC hF [.sh, .sh, .sh] zfa (fun z21 hF => ?_)
     try simp [go_sem, g]
     try intros
     refine pw_wk ?_
     repeat rw [sq]
     refine pJs hF (fun x24 => []) (fun x24 hF => ?_) fun _ hj22 hr23 hF => ?_
     ·cases hΦ _ (Rn_some hF)
      try simp [go_sem, g]
      refine pw_wk ?_
      try simp [go_sem, g]
     ·repeat rw [sq]
      rw [pw_block]
      obtain ⟨b38, hb39, hψ29⟩ := hF
      refine pR hb39 (fun i26 s25 => [(3, .v (.sl false 1 (a3.map zaa))), (5, .bl [.int .i64 a0.P, .int .i64 a0.Q, .int .i64 a0.G]), (9, .bl [.sl false 1 (a4.Commits.map zaa), .sl false 1 (a4.Challenges.map zaa), .sl false 1 (a4.Responses.map zaa)]), (11, .v (.int .i64 z14.1)), (78, .v (.sl true 1 (z21.map zaa))), (79, .v (.int .i64 (z21.length : Int))), (80, .v (.int .i64 i26))]) (fun s25 _ hN40 => ?_) (fun i26 s25 _ _ hi30 hi31 ho27 hg28 hF => ?_)
      ·subst hN40
       try simp [go_sem]
       refine pw_wk ?_
       repeat rw [sq]
       refine pw_cond_f (by simp [go_sem]) ?_
       try simp [go_sem]
       exact pT (hj22 ()) hψ29 (by simp [go_sem])
      ·try simp [go_sem, g]
       refine pw_wk ?_
       repeat rw [sq]
       refine pw_cond_t (by simp [go_sem, g, hi30, hi31]) ?_
       try simp [go_sem, g]
       refine pw_wk ?_
       repeat rw [sq]
       rw [pw_block]
       obtain ⟨x32, g, hF⟩ := Rx g hF
       try simp [go_sem, g]
       refine pw_wkK [3, 5, 9, 11, 13, 14, 78, 79, 80] (by simp [go_sem, g]; rfl) ?_
       repeat rw [sq]
       refine pw_draw zhX follows (by kernel_rfl) rfl ?_
       try simp only [go_sem, zhX]
       obtain ⟨x33, g, hF⟩ := Rx g hF
       obtain ⟨x34, g, hF⟩ := Rx g hF
       try simp [go_sem, g]
       refine pCD hF zeq (fun z35 hF => ?_)
       try simp [go_sem, g]
       refine pC hF [.sh, .sh] zew (fun z36 hF => ?_)
       try simp [go_sem, g]
       refine pw_wkK [3, 5, 9, 11, 78, 79, 80, 101] (by simp [go_sem, g]; rfl) ?_
       repeat rw [sq]
       refine pI hF (fun h37 hF => ?_) (fun h37 hF => ?_)
       ·cases ho27 _ (Rn_some hF)
        cases hΦ _ (hr23 _ hψ29)
        try simp [go_sem, g]
        refine pw_wk ?_
        try simp [go_sem, g]
       ·try simp [go_sem, g]
        refine pw_wk ?_
        try simp [go_sem, g]
        exact pT (hg28 ()) (Rn_some hF) (by simp [go_sem, g, wr_i hi30 hi31 (by assumption)])
   ·try simp [go_sem, g]
    refine pwg_F hF (fun h18 hF => ?_) fun h18 hF => ?_
    ·try simp [go_sem, g, h18]
     exact pT (hj15 true) (Rn_some hF)
    ·obtain ⟨x19, g, hF⟩ := Rxn g 0 hF
     try simp [go_sem, g, h18]
     exact pT (hj15 (x19 != z14.1)) (Rn_some hF)
 ·repeat rw [sq]
  refine pw_draw zif follows (by kernel_rfl) rfl ?_
  try simp only [go_sem, zif]
  try simp [go_sem, g]
  try intros
  refine pwgD_F hF (fun h4 hF => ?_) fun h4 hF => ?_
  ·try simp [go_sem, g, h4]
   exact pT (hj1 true) (Rn_some hF)
  ·try simp [go_sem, g, h4]
   try intros
   refine pwgD_F hF (fun h5 hF => ?_) fun h5 hF => ?_
   ·try simp [go_sem, g, h5]
    exact pT (hj1 true) (Rn_some hF)
   ·obtain ⟨x6, g, hF⟩ := Rxn g 0 hF
    try simp [go_sem, g, h5]
    try intros
    refine pwgD_F hF (fun h7 hF => ?_) fun h7 hF => ?_
    ·try simp [go_sem, g, h7]
     exact pT (hj1 true) (Rn_some hF)
    ·try simp [go_sem, g, h7]
     refine pC hF [.sh, .sh] zdU (fun z8 hF => ?_)
     try simp [go_sem, g, h7]
     refine pwgD_F hF (fun h9 hF => ?_) fun h9 hF => ?_
     ·try simp [go_sem, g, h9]
      exact pT (hj1 true) (Rn_some hF)
     ·try simp [go_sem, g, h9]
      refine pC hF [.sh, .sh] ze6 (fun z10 hF => ?_)
      try simp [go_sem, g, h9]
      exact pT (hj1 (!z10)) (Rn_some hF)
noncomputable def zbE (a0 : Group) (a1 : ByteArray) (a2 : Int) (a3 : Proof) : Option (Bool) :=
 (za9 a0 a1 [[a0.G]] [a2] a3).bind fun z1 =>
 some z1
theorem zeT : ∀ {a0} {a1} {a2} {a3} {r}, zbE a0 a1 a2 a3 = some r → PCalls Tryz.prog 99 [(.sh, .agg [.int .i64 a0.P, .int .i64 a0.Q, .int .i64 a0.G]), (.sh, .str a1), (.sh, .int .i64 a2), (.sh, .agg [.sl false 1 (a3.Commits.map zaa), .sl false 1 (a3.Challenges.map zaa), .sl false 1 (a3.Responses.map zaa)])] (Eo (.bool r) [.junk, .junk, .junk, .junk]) := by
 intro a0 a1 a2 a3 r hr
 apply pF 19 [] [] [] [.tmp 8] hr cl99 Tryz.func99
 intro Φ hΦ hF g
 unfold zbE at hF
 try simp [go_sem, g]
 refine pw_wk ?_
 try simp [go_sem, g]
 refine pC hF [.sh, .sh, .sh, .sh, .sh] zei (fun z1 hF => ?_)
 try simp [go_sem, g]
 refine pw_wkK [8] (by simp [go_sem, g]; rfl) ?_
 cases hΦ _ (Rn_some hF)
 try simp [go_sem, g]
def zjG : List DE := [d1 0 [5] 5, d2 1 [7] 5 7, d1 2 [5] 5, d2 3 [9] 5 9, d1 4 [5] 5, d2 5 [11] 5 11, d3 6 [8, 10, 12], d0 7 [13], d2 8 [3, 14] 3 3, d1 9 [5, 14] 5, d2 10 [16, 14] 5 16, d1 11 [5, 14] 5, d2 12 [18, 14] 5 18, d1 13 [5, 14] 5, d2 14 [20, 14] 5 20, d0 16 [1, 14], d1 17 [5, 14] 5, d2 18 [24, 14] 5 24, d3 15 [17, 19, 21, 14], d3 19 [15, 22, 23, 25, 14], d0 20 [14, 26], d0 21 [27]]
noncomputable def zbs (a0 : Group) (a1 : Int) (a2 : Head) : Option (Bool) :=
 (((zbD a2.Author a2.Size a2.Root).bind fun z4 =>
 if z4 = true then (
 (zbA a2.Author a2.Size a2.Root).bind fun z6 =>
 (zbE a0 z6 a1 a2.Sign).bind fun z7 =>
 some z7) else (
 some false) : Option (Bool)).bind fun x3 =>
 some x3)
theorem zdW : ∀ {a0} {a1} {a2} {r}, zbs a0 a1 a2 = some r → PCalls Tryz.prog 68 [(.sh, .agg [.int .i64 a0.P, .int .i64 a0.Q, .int .i64 a0.G]), (.sh, .int .i64 a1), (.sh, .agg [.int .i64 a2.Author, .int .i64 a2.Size, .int .i64 a2.Root, .sl false 1 (a2.Sign.Commits.map zaa), .sl false 1 (a2.Sign.Challenges.map zaa), .sl false 1 (a2.Sign.Responses.map zaa)])] (Eo (.bool r) [.junk, .junk, .junk]) := by
 intro a0 a1 a2 r hr
 apply pF 28 [] [] [] [.tmp 6] hr cl68 Tryz.func68
 intro Φ hΦ hF g
 unfold zbs at hF
 try simp [go_sem, g]
 refine pw_wk ?_
 repeat rw [sq]
 refine pJ hF (fun x3 => [(6, .v (.bool x3))]) (fun x3 hF => ?_) fun _ hj1 hF => ?_
 ·cases hΦ _ (Rn_some hF)
  try simp [go_sem, g]
 ·repeat rw [sq]
  refine pw_draw zjG follows (by kernel_rfl) rfl ?_
  try simp only [go_sem, zjG]
  try simp [go_sem, g]
  refine pC hF [.sh, .sh, .sh] zd6 (fun z4 hF => ?_)
  try simp [go_sem, g]
  refine pwgD_F hF (fun h5 hF => ?_) fun h5 hF => ?_
  ·try simp [go_sem, g, h5]
   refine pC hF [.sh, .sh, .sh] zfV (fun z6 hF => ?_)
   try simp [go_sem, g, h5]
   refine pC hF [.sh, .sh, .sh, .sh] zeT (fun z7 hF => ?_)
   try simp [go_sem, g, h5]
   exact pT (hj1 z7) (Rn_some hF)
  ·try simp [go_sem, g, h5]
   exact pT (hj1 false) (Rn_some hF)
def zjt : List DE := [d2 0 [6] 6 6, d3 1 [9], d0 2 [10], d2 3 [7, 11] 7 7, d3 4 [12, 11], d0 5 [11, 13], d0 6 [14], d1 7 [6, 15] 6, d2 8 [16, 15] 6 16, d1 9 [7, 15] 7, d2 10 [18, 15] 7 18, d0 11 [17, 19, 15], d0 12 [15, 20], d0 13 [21], d1 14 [6, 22] 6, d2 15 [23, 22] 6 23, d0 16 [1, 22], d0 17 [25, 22], d0 18 [26, 22], d3 19 [24, 27, 22], d0 20 [22, 28], d0 21 [29], d1 22 [6, 30] 6, d2 23 [31, 30] 6 31, d1 24 [7, 30] 7, d2 25 [33, 30] 7 33, d0 26 [32, 34, 30], d0 27 [30, 35], d0 28 [36], d1 29 [6, 37] 6, d2 30 [38, 37] 6 38, d1 31 [7, 37] 7, d2 32 [40, 37] 7 40, d0 33 [39, 41, 37], d0 34 [37, 42], d0 35 [43], d2 36 [4, 44] 4 4, d0 37 [1, 44], d1 38 [6, 44] 6, d2 39 [47, 44] 6 47, d0 40 [46, 48, 44], d0 41 [49, 44], d2 42 [6, 44] 6 6, d3 43 [45, 50, 51, 44], d0 44 [44, 52], d0 45 [53], d2 46 [4, 54] 4 4, d0 47 [1, 54], d1 48 [6, 54] 6, d2 49 [57, 54] 6 57, d0 50 [56, 58, 54], d0 51 [59, 54], d2 52 [7, 54] 7 7, d3 53 [55, 60, 61, 54], d0 54 [54, 62], d0 55 [63]]
noncomputable def zb0 (a0 : Group) (a1 : (List Int)) (a2 : Head) (a3 : Head) : Option (Bool) :=
 (((zaU a2).bind fun z4 =>
 if z4 = true then (
 (zaU a3).bind fun z6 =>
 if z6 = true then (
 if (a2.Author == a3.Author) = true then (
 (zap a2.Author 0 (i64.wrap ((a1.length : Int) - 1))).bind fun z9 =>
 if z9 = true then (
 if (a2.Size == a3.Size) = true then (
 if (a2.Root != a3.Root) = true then (
 (ix a1 a2.Author).bind fun x13 =>
 (zbs a0 x13 a2).bind fun z14 =>
 if z14 = true then (
 (zbs a0 x13 a3).bind fun z16 =>
 some z16) else (
 some false)) else (
 some false)) else (
 some false)) else (
 some false)) else (
 some false)) else (
 some false)) else (
 some false) : Option (Bool)).bind fun x3 =>
 some x3)
theorem zfb : ∀ {a0} {a1} {a2} {a3} {r}, zb0 a0 a1 a2 a3 = some r → PCalls Tryz.prog 32 [(.sh, .agg [.int .i64 a0.P, .int .i64 a0.Q, .int .i64 a0.G]), (.sh, .sl false 1 (a1.map zaa)), (.sh, .agg [.int .i64 a2.Author, .int .i64 a2.Size, .int .i64 a2.Root, .sl false 1 (a2.Sign.Commits.map zaa), .sl false 1 (a2.Sign.Challenges.map zaa), .sl false 1 (a2.Sign.Responses.map zaa)]), (.sh, .agg [.int .i64 a3.Author, .int .i64 a3.Size, .int .i64 a3.Root, .sl false 1 (a3.Sign.Commits.map zaa), .sl false 1 (a3.Sign.Challenges.map zaa), .sl false 1 (a3.Sign.Responses.map zaa)])] (Eo (.bool r) [.junk, .junk, .junk, .junk]) := by
 intro a0 a1 a2 a3 r hr
 apply pF 64 [] [] [] [.tmp 8] hr cl32 Tryz.func32
 intro Φ hΦ hF g
 unfold zb0 at hF
 try simp [go_sem, g]
 refine pw_wk ?_
 repeat rw [sq]
 refine pJ hF (fun x3 => [(8, .v (.bool x3))]) (fun x3 hF => ?_) fun _ hj1 hF => ?_
 ·cases hΦ _ (Rn_some hF)
  try simp [go_sem, g]
 ·repeat rw [sq]
  refine pw_draw zjt follows (by kernel_rfl) rfl ?_
  try simp only [go_sem, zjt]
  try simp [go_sem, g]
  refine pC hF [.sh] zda (fun z4 hF => ?_)
  try simp [go_sem, g]
  refine pwgD_F hF (fun h5 hF => ?_) fun h5 hF => ?_
  ·try simp [go_sem, g, h5]
   refine pC hF [.sh] zda (fun z6 hF => ?_)
   try simp [go_sem, g, h5]
   refine pwgD_F hF (fun h7 hF => ?_) fun h7 hF => ?_
   ·try simp [go_sem, g, h7]
    refine pwgD_F hF (fun h8 hF => ?_) fun h8 hF => ?_
    ·try simp [go_sem, g, h8]
     try intros
     refine pC hF [.sh, .sh, .sh] zaH (fun z9 hF => ?_)
     try simp [go_sem, g, h8]
     refine pwgD_F hF (fun h10 hF => ?_) fun h10 hF => ?_
     ·try simp [go_sem, g, h10]
      refine pwgD_F hF (fun h11 hF => ?_) fun h11 hF => ?_
      ·try simp [go_sem, g, h11]
       refine pwgD_F hF (fun h12 hF => ?_) fun h12 hF => ?_
       ·obtain ⟨x13, g, hF⟩ := Rx g hF
        try simp [go_sem, g, h12]
        refine pC hF [.sh, .sh, .sh] zdW (fun z14 hF => ?_)
        try simp [go_sem, g, h12]
        refine pwgD_F hF (fun h15 hF => ?_) fun h15 hF => ?_
        ·try simp [go_sem, g, h15]
         refine pC hF [.sh, .sh, .sh] zdW (fun z16 hF => ?_)
         try simp [go_sem, g, h15]
         exact pT (hj1 z16) (Rn_some hF)
        ·try simp [go_sem, g, h15]
         exact pT (hj1 false) (Rn_some hF)
       ·try simp [go_sem, g, h12]
        exact pT (hj1 false) (Rn_some hF)
      ·try simp [go_sem, g, h11]
       exact pT (hj1 false) (Rn_some hF)
     ·try simp [go_sem, g, h10]
      exact pT (hj1 false) (Rn_some hF)
    ·try simp [go_sem, g, h8]
     exact pT (hj1 false) (Rn_some hF)
   ·try simp [go_sem, g, h7]
    exact pT (hj1 false) (Rn_some hF)
  ·try simp [go_sem, g, h5]
   exact pT (hj1 false) (Rn_some hF)
def zjH : List DE := [d2 0 [9] 9 9, d2 2 [11] 11 11, d3 1 [33], d3 3 [35], d0 4 [34, 36], d2 5 [6, 37] 6 6, d0 6 []]
noncomputable def zcj (a0 : Group) (a1 : (List Int)) (a2 : (List Head)) : Option (ForkEvidence × Bool) :=
 ((rloop (σ := Unit) (fun i5 s4 =>
 (((ix a2 i5).bind fun x14 =>
 gd (0 ≤ (i64.wrap (i5 + 1))) <|
 gd ((i64.wrap (i5 + 1)).toNat ≤ a2.length ∧ a2.length ≤ a2.length) <|
 rloop (σ := Unit) (fun i16 s15 =>
 (ix ((a2.take a2.length).drop ((i64.wrap (i5 + 1)).toNat)) i16).bind fun x23 =>
 (zb0 a0 a1 x14 x23).bind fun z24 =>
 if z24 = true then (
 (zbr x14).bind fun z26 =>
 (zbr x23).bind fun z27 =>
 some (.out (.inr (.out (.inr ((ForkEvidence.mk z26 z27), true)))))) else (
 some (.go ()))) (fun s15 => .inl ()) (((a2.take a2.length).drop ((i64.wrap (i5 + 1)).toNat)).length) 0 () : Option (Unit ⊕ (Stp Unit (Unit ⊕ (ForkEvidence × Bool))))).bind (Sum.elim (fun x13 =>
 some (.go ())) some))) (fun s4 => .inl ()) (a2.length) 0 () : Option (Unit ⊕ (ForkEvidence × Bool))).bind (Sum.elim (fun x3 =>
 some ((ForkEvidence.mk (Head.mk 0 0 0 (Proof.mk [] [] [])) (Head.mk 0 0 0 (Proof.mk [] [] []))), false)) some))
theorem zeV : ∀ {a0} {a1} {a2} {r}, zcj a0 a1 a2 = some r → PCalls Tryz.prog 28 [(.sh, .agg [.int .i64 a0.P, .int .i64 a0.Q, .int .i64 a0.G]), (.sh, .sl false 1 (a1.map zaa)), (.sh, .sl false 6 (a2.map zad))] (Eo (.tup [.agg [.int .i64 r.1.First.Author, .int .i64 r.1.First.Size, .int .i64 r.1.First.Root, .sl true 1 (r.1.First.Sign.Commits.map zaa), .sl true 1 (r.1.First.Sign.Challenges.map zaa), .sl true 1 (r.1.First.Sign.Responses.map zaa), .int .i64 r.1.Second.Author, .int .i64 r.1.Second.Size, .int .i64 r.1.Second.Root, .sl true 1 (r.1.Second.Sign.Commits.map zaa), .sl true 1 (r.1.Second.Sign.Challenges.map zaa), .sl true 1 (r.1.Second.Sign.Responses.map zaa)], .bool r.2]) [.junk, .junk, .junk]) := by
 intro a0 a1 a2 r hr
 apply pF 41 [] [] [] [.cell 6 35, .tmp 7] hr cl28 Tryz.func28
 intro Φ hΦ hF g
 unfold zcj at hF
 iterate 2 (try simp [go_sem, g]; try intros; refine pw_wk ?_)
 repeat rw [sq]
 refine pJs hF (fun x3 => [(6, .bl [.int .i64 0, .int .i64 0, .int .i64 0, .sl true 1 [], .sl true 1 [], .sl true 1 [], .int .i64 0, .int .i64 0, .int .i64 0, .sl true 1 [], .sl true 1 [], .sl true 1 []])]) (fun x3 hF => ?_) fun _ hj1 hr2 hF => ?_
 ·cases hΦ _ (Rn_some hF)
  try simp [go_sem, g]
  refine pw_wk ?_
  try simp [go_sem, g]
 ·repeat rw [sq]
  rw [pw_block]
  obtain ⟨b32, hb33, hψ8⟩ := hF
  refine pR hb33 (fun i5 s4 => [(1, .v (.sl false 1 (a1.map zaa))), (2, .v (.sl false 6 (a2.map zad))), (3, .bl [.int .i64 a0.P, .int .i64 a0.Q, .int .i64 a0.G]), (6, .bl [.int .i64 0, .int .i64 0, .int .i64 0, .sl true 1 [], .sl true 1 [], .sl true 1 [], .int .i64 0, .int .i64 0, .int .i64 0, .sl true 1 [], .sl true 1 [], .sl true 1 []]), (12, .v (.sl false 6 (a2.map zad))), (13, .v (.int .i64 (a2.length : Int))), (14, .v (.int .i64 i5))]) (fun s4 _ hN34 => ?_) (fun i5 s4 _ _ hi9 hi10 ho6 hg7 hF => ?_)
  ·subst hN34
   try simp [go_sem]
   refine pw_wk ?_
   repeat rw [sq]
   refine pw_cond_f (by simp [go_sem]) ?_
   try simp [go_sem]
   exact pT (hj1 ()) hψ8 (by simp [go_sem])
  ·try simp [go_sem, g]
   refine pw_wk ?_
   repeat rw [sq]
   refine pw_cond_t (by simp [go_sem, g, hi9, hi10]) ?_
   try simp [go_sem, g]
   refine pw_wk ?_
   repeat rw [sq]
   refine pJs hF (fun x13 => [(1, .v (.sl false 1 (a1.map zaa))), (2, .v (.sl false 6 (a2.map zad))), (3, .bl [.int .i64 a0.P, .int .i64 a0.Q, .int .i64 a0.G]), (6, .bl [.int .i64 0, .int .i64 0, .int .i64 0, .sl true 1 [], .sl true 1 [], .sl true 1 [], .int .i64 0, .int .i64 0, .int .i64 0, .sl true 1 [], .sl true 1 [], .sl true 1 []]), (12, .v (.sl false 6 (a2.map zad))), (13, .v (.int .i64 (a2.length : Int))), (14, .v (.int .i64 i5))]) (fun x13 hF => ?_) fun _ hj11 hr12 hF => ?_
   ·try simp [go_sem, g]
    exact pT (hg7 ()) (Rn_some hF) (by simp [go_sem, g, wr_i hi9 hi10 (by assumption)])
   ·repeat rw [sq]
    rw [pw_block]
    obtain ⟨x14, g, hF⟩ := Rx g hF
    try simp [go_sem, g]
    refine pw_wkK [1, 2, 3, 6, 8, 9, 12, 13, 14] (by simp [go_sem, g]; rfl) ?_
    obtain ⟨g, hF⟩ := Rg g hF
    obtain ⟨g, hF⟩ := Rg g hF
    try simp [go_sem, g]
    try intros
    refine pw_wk ?_
    repeat rw [sq]
    rw [pw_block]
    obtain ⟨b28, hb29, hψ19⟩ := hF
    refine pR hb29 (fun i16 s15 => [(1, .v (.sl false 1 (a1.map zaa))), (2, .v (.sl false 6 (a2.map zad))), (3, .bl [.int .i64 a0.P, .int .i64 a0.Q, .int .i64 a0.G]), (6, .bl [.int .i64 0, .int .i64 0, .int .i64 0, .sl true 1 [], .sl true 1 [], .sl true 1 [], .int .i64 0, .int .i64 0, .int .i64 0, .sl true 1 [], .sl true 1 [], .sl true 1 []]), (9, .bl [.int .i64 x14.Author, .int .i64 x14.Size, .int .i64 x14.Root, .sl false 1 (x14.Sign.Commits.map zaa), .sl false 1 (x14.Sign.Challenges.map zaa), .sl false 1 (x14.Sign.Responses.map zaa)]), (12, .v (.sl false 6 (a2.map zad))), (13, .v (.int .i64 (a2.length : Int))), (14, .v (.int .i64 i5)), (22, .v (.sl false 6 (((a2.take a2.length).drop ((i64.wrap (i5 + 1)).toNat)).map zad))), (23, .v (.int .i64 (((a2.take a2.length).drop ((i64.wrap (i5 + 1)).toNat)).length : Int))), (24, .v (.int .i64 i16))]) (fun s15 _ hN30 => ?_) (fun i16 s15 _ _ hi20 hi21 ho17 hg18 hF => ?_)
    ·subst hN30
     try simp [go_sem]
     refine pw_wk ?_
     repeat rw [sq]
     refine pw_cond_f (by simp [go_sem]) ?_
     try simp [go_sem]
     exact pT (hj11 ()) hψ19 (by simp [go_sem])
    ·have hi22 := hi21
     try simp at hi22
     try simp [go_sem, g]
     refine pw_wk ?_
     repeat rw [sq]
     refine pw_cond_t (by simp [go_sem, g, hi20, hi21, hi22]) ?_
     try simp [go_sem, g]
     refine pw_wk ?_
     repeat rw [sq]
     rw [pw_block]
     obtain ⟨x23, g, hF⟩ := Rxq g hF
     try simp [go_sem, g]
     refine pw_wkK [1, 2, 3, 6, 9, 11, 12, 13, 14, 22, 23, 24] (by simp [go_sem, g]; rfl) ?_
     try simp [go_sem, g]
     refine pC hF [.sh, .sh, .sh, .sh] zfb (fun z24 hF => ?_)
     try simp [go_sem, g]
     refine pw_wk ?_
     repeat rw [sq]
     refine pI hF (fun h25 hF => ?_) (fun h25 hF => ?_)
     ·repeat rw [sq]
      refine pw_draw zjH follows (by kernel_rfl) rfl ?_
      try simp only [go_sem, zjH]
      try simp [go_sem, g]
      refine pC hF [.sh] zdb (fun z26 hF => ?_)
      try simp [go_sem, g]
      refine pC hF [.sh] zdb (fun z27 hF => ?_)
      try simp [go_sem, g]
      refine pw_wkK [6, 7] (by simp [go_sem, g]; rfl) ?_
      cases ho17 _ (Rn_some hF)
      cases ho6 _ (hr12 _ hψ19)
      cases hΦ _ (hr2 _ hψ8)
      try simp [go_sem, g]
     ·try simp [go_sem, g]
      refine pw_wk ?_
      try simp [go_sem, g]
      exact pT (hg18 ()) (Rn_some hF) (by simp [go_sem, g, wr_i hi20 hi21 (by first | assumption | (simp; assumption) | (simp; omega))])
noncomputable def zbd (a0 : Group) (a1 : (List Int)) (a2 : (List Reader)) (a3 : (List (List Int))) (a4 : Int) : Option (Int × Int × Bool) :=
 (((zbY a0).bind fun z4 =>
 if (!z4) = true then (
 some true) else (
 (zbN a0 a1).bind fun z6 =>
 if (!z6) = true then (
 some true) else (
 (zbo a2).bind fun z8 =>
 if (!z8) = true then (
 some true) else (
 (zbp a3 (a2.length : Int)).bind fun z10 =>
 if (!z10) = true then (
 some true) else (
 (zap a4 0 10).bind fun z12 =>
 some (!z12))))) : Option (Bool)).bind fun x3 =>
 if x3 = true then (
 some (0, 0, false)) else (
 ((wloop (σ := (List Reader) × Int) (fun s17 =>
 if decide (s17.2 < (i64.wrap (a4 + 1))) = true then (
 ((rloop (σ := Unit) (fun i27 s26 =>
 (ix s17.1 i27).bind fun x33 =>
 (zcj a0 a1 x33.Heads).bind fun z34 =>
 if z34.2 = true then (
 some (.out (.inr (.out (.inr (s17.2, i27, true)))))) else (
 some (.go ()))) (fun s26 => .inl ()) (s17.1.length) 0 () : Option (Unit ⊕ (Stp ((List Reader) × Int) (Unit ⊕ (Int × Int × Bool))))).bind (Sum.elim (fun x25 =>
 (zcJ s17.1 a3).bind fun z40 =>
 if (!z40.2) = true then (
 some (.out (.inl ()))) else (
 some (.go (z40.1, i64.wrap (s17.2 + 1))))) some))) else (
 some (.out (.inl ())))) (a2, 0) : Option (Unit ⊕ (Int × Int × Bool))).bind (Sum.elim (fun x16 =>
 some (0, 0, false)) some))))
theorem zdE : ∀ {a0} {a1} {a2} {a3} {a4} {r}, zbd a0 a1 a2 a3 a4 = some r → PCalls Tryz.prog 18 [(.sh, .agg [.int .i64 a0.P, .int .i64 a0.Q, .int .i64 a0.G]), (.sh, .sl false 1 (a1.map zaa)), (.sh, .sl false 1 (a2.map zae)), (.sh, .sl false 1 (a3.map zaf)), (.sh, .int .i64 a4)] (Eo (.tup [.int .i64 r.1, .int .i64 r.2.1, .bool r.2.2]) [.junk, .junk, .junk, .junk, .junk]) := by
 intro a0 a1 a2 a3 a4 r hr
 apply pF 80 [] [2] [] [.tmp 10, .tmp 11, .tmp 12] hr cl18 Tryz.func18
 intro Φ hΦ hF g
 unfold zbd at hF
 try simp [go_sem, g]
 refine pw_wk ?_
 repeat rw [sq]
 refine pJ hF (fun x3 => [(1, .v (.sl false 1 (a1.map zaa))), (2, .v (.sl false 1 (a2.map zae))), (3, .v (.sl false 1 (a3.map zaf))), (4, .v (.int .i64 a4)), (5, .bl [.int .i64 a0.P, .int .i64 a0.Q, .int .i64 a0.G]), (45, .v (.bool x3))]) (fun x3 hF => ?_) fun _ hj1 hF => ?_
 ·repeat rw [sq]
  refine pI hF (fun h13 hF => ?_) (fun h13 hF => ?_)
  ·cases hΦ _ (Rn_some hF)
   try simp [go_sem, g]
   refine pw_wk ?_
   try simp [go_sem, g]
  ·iterate 2 (try simp [go_sem, g]; refine pw_wk ?_)
   repeat rw [sq]
   refine pJs hF (fun x16 => []) (fun x16 hF => ?_) fun _ hj14 hr15 hF => ?_
   ·try simp [go_sem, g]
    refine pw_wkK [10, 11, 12] (by simp [go_sem, g]; rfl) ?_
    cases hΦ _ (Rn_some hF)
    try simp [go_sem, g]
   ·repeat rw [sq]
    rw [pw_block]
    obtain ⟨b42, hb43, hψ21⟩ := hF
    refine pL hb43 (fun s17 => [(1, .v (.sl false 1 (a1.map zaa))), (2, .v (.sl false 1 (s17.1.map zae))), (3, .v (.sl false 1 (a3.map zaf))), (5, .bl [.int .i64 a0.P, .int .i64 a0.Q, .int .i64 a0.G]), (47, .v (.int .i64 (i64.wrap (a4 + 1)))), (48, .v (.int .i64 s17.2))]) (fun s17 _ _ ho19 hg20 hF => ?_)
    try simp [go_sem, g]
    refine pw_wk ?_
    repeat rw [sq]
    refine pI hF (fun h22 hF => ?_) (fun h22 hF => ?_)
    ·try simp [go_sem, g]
     refine pw_wk ?_
     repeat rw [sq]
     rw [pw_block]
     try simp [go_sem, g]
     refine pw_wkK [1, 2, 3, 5, 13, 47, 48] (by simp [go_sem, g]; rfl) ?_
     try simp [go_sem, g]
     try intros
     refine pw_wk ?_
     repeat rw [sq]
     refine pJs hF (fun x25 => [(1, .v (.sl false 1 (a1.map zaa))), (2, .v (.sl false 1 (s17.1.map zae))), (3, .v (.sl false 1 (a3.map zaf))), (5, .bl [.int .i64 a0.P, .int .i64 a0.Q, .int .i64 a0.G]), (47, .v (.int .i64 (i64.wrap (a4 + 1)))), (48, .v (.int .i64 s17.2))]) (fun x25 hF => ?_) fun _ hj23 hr24 hF => ?_
     ·try simp [go_sem, g]
      refine pC hF [.sh, .sh] ze9 (fun z40 hF => ?_)
      try simp [go_sem, g]
      refine pw_wkK [1, 3, 5, 18, 19, 47, 48] (by simp [go_sem, g]; rfl) ?_
      try simp [go_sem, g]
      refine pw_wk ?_
      repeat rw [sq]
      refine pI hF (fun h41 hF => ?_) (fun h41 hF => ?_)
      ·try simp [go_sem, g]
       cases ho19 _ (Rn_some hF)
       exact pT (hj14 ()) hψ21
      ·iterate 2 (try simp [go_sem, g]; refine pw_wk ?_)
       try simp [go_sem, g]
       exact pT (hg20 (z40.1, i64.wrap (s17.2 + 1))) (Rn_some hF)
     ·repeat rw [sq]
      rw [pw_block]
      obtain ⟨b36, hb37, hψ30⟩ := hF
      refine pR hb37 (fun i27 s26 => [(1, .v (.sl false 1 (a1.map zaa))), (2, .v (.sl false 1 (s17.1.map zae))), (3, .v (.sl false 1 (a3.map zaf))), (5, .bl [.int .i64 a0.P, .int .i64 a0.Q, .int .i64 a0.G]), (13, .v (.int .i64 s17.2)), (47, .v (.int .i64 (i64.wrap (a4 + 1)))), (48, .v (.int .i64 s17.2)), (51, .v (.sl false 1 (s17.1.map zae))), (52, .v (.int .i64 (s17.1.length : Int))), (53, .v (.int .i64 i27))]) (fun s26 _ hN38 => ?_) (fun i27 s26 _ _ hi31 hi32 ho28 hg29 hF => ?_)
      ·subst hN38
       try simp [go_sem]
       refine pw_wk ?_
       repeat rw [sq]
       refine pw_cond_f (by simp [go_sem]) ?_
       try simp [go_sem]
       exact pT (hj23 ()) hψ30 (by simp [go_sem])
      ·try simp [go_sem, g]
       refine pw_wk ?_
       repeat rw [sq]
       refine pw_cond_t (by simp [go_sem, g, hi31, hi32]) ?_
       try simp [go_sem, g]
       refine pw_wk ?_
       repeat rw [sq]
       rw [pw_block]
       obtain ⟨x33, g, hF⟩ := Rx g hF
       try simp [go_sem, g]
       refine pw_wkK [1, 2, 3, 5, 13, 14, 15, 47, 48, 51, 52, 53] (by simp [go_sem, g]; rfl) ?_
       try simp [go_sem, g]
       refine pC hF [.sh, .sh, .sh] zeV (fun z34 hF => ?_)
       try simp [go_sem, g]
       refine pw_wkK [1, 2, 3, 5, 13, 14, 17, 47, 48, 51, 52, 53] (by simp [go_sem, g]; rfl) ?_
       try simp [go_sem, g]
       refine pw_wk ?_
       repeat rw [sq]
       refine pI hF (fun h35 hF => ?_) (fun h35 hF => ?_)
       ·cases ho28 _ (Rn_some hF)
        cases ho19 _ (hr24 _ hψ30)
        cases hΦ _ (hr15 _ hψ21)
        try simp [go_sem, g]
        refine pw_wk ?_
        try simp [go_sem, g]
       ·try simp [go_sem, g]
        refine pw_wk ?_
        try simp [go_sem, g]
        exact pT (hg29 ()) (Rn_some hF) (by simp [go_sem, g, wr_i hi31 hi32 (by assumption)])
    ·try simp [go_sem, g]
     cases ho19 _ (Rn_some hF)
     exact pT (hj14 ()) hψ21
 ·try simp [go_sem, g]
  refine pC hF [.sh] zfe (fun z4 hF => ?_)
  try simp [go_sem, g]
  refine pwg_F hF (fun h5 hF => ?_) fun h5 hF => ?_
  ·try simp [go_sem, g, h5]
   exact pT (hj1 true) (Rn_some hF)
  ·try simp [go_sem, g, h5]
   refine pC hF [.sh, .sh] ze3 (fun z6 hF => ?_)
   try simp [go_sem, g, h5]
   refine pwg_F hF (fun h7 hF => ?_) fun h7 hF => ?_
   ·try simp [go_sem, g, h7]
    exact pT (hj1 true) (Rn_some hF)
   ·try simp [go_sem, g, h7]
    refine pC hF [.sh] zeg (fun z8 hF => ?_)
    try simp [go_sem, g, h7]
    refine pwg_F hF (fun h9 hF => ?_) fun h9 hF => ?_
    ·try simp [go_sem, g, h9]
     exact pT (hj1 true) (Rn_some hF)
    ·try simp [go_sem, g, h9]
     try intros
     refine pC hF [.sh, .sh] zdL (fun z10 hF => ?_)
     try simp [go_sem, g, h9]
     refine pwg_F hF (fun h11 hF => ?_) fun h11 hF => ?_
     ·try simp [go_sem, g, h11]
      exact pT (hj1 true) (Rn_some hF)
     ·try simp [go_sem, g, h11]
      refine pC hF [.sh, .sh, .sh] zaH (fun z12 hF => ?_)
      try simp [go_sem, g, h11]
      exact pT (hj1 (!z12)) (Rn_some hF)
noncomputable def zdp (a0 : Group) (a1 : (List Int)) : Option (Bool) :=
 ((rloop (σ := Unit) (fun i5 s4 =>
 (ix a1 i5).bind fun x11 =>
 (((zaC x11 1 (i64.wrap (a0.P - 1))).bind fun z15 =>
 if (!z15) = true then (
 some true) else (
 (zaW x11 a0.Q a0.P).bind fun z17 =>
 some (z17 != 1)) : Option (Bool)).bind fun x14 =>
 if x14 = true then (
 some (.out (.inr false))) else (
 some (.go ())))) (fun s4 => .inl ()) (a1.length) 0 () : Option (Unit ⊕ Bool)).bind (Sum.elim (fun x3 =>
 some true) some))
theorem zgh : ∀ {a0} {a1} {r}, zdp a0 a1 = some r → PCalls Tryz.prog 64 [(.sh, .agg [.int .i64 a0.P, .int .i64 a0.Q, .int .i64 a0.G]), (.sh, .sl false 1 (a1.map zaa))] (Eo (.bool r) [.junk, .junk]) := by
 intro a0 a1 r hr
 apply pF 29 [] [] [] [.tmp 4] hr cl64 Tryz.func64
 intro Φ hΦ hF g
 unfold zdp at hF
 iterate 2 (try simp [go_sem, g]; try intros; refine pw_wk ?_)
 repeat rw [sq]
 refine pJs hF (fun x3 => []) (fun x3 hF => ?_) fun _ hj1 hr2 hF => ?_
 ·cases hΦ _ (Rn_some hF)
  try simp [go_sem, g]
  refine pw_wk ?_
  try simp [go_sem, g]
 ·repeat rw [sq]
  rw [pw_block]
  obtain ⟨b19, hb20, hψ8⟩ := hF
  refine pR hb20 (fun i5 s4 => [(2, .bl [.int .i64 a0.P, .int .i64 a0.Q, .int .i64 a0.G]), (7, .v (.sl false 1 (a1.map zaa))), (8, .v (.int .i64 (a1.length : Int))), (9, .v (.int .i64 i5))]) (fun s4 _ hN21 => ?_) (fun i5 s4 _ _ hi9 hi10 ho6 hg7 hF => ?_)
  ·subst hN21
   try simp [go_sem]
   refine pw_wk ?_
   repeat rw [sq]
   refine pw_cond_f (by simp [go_sem]) ?_
   try simp [go_sem]
   exact pT (hj1 ()) hψ8 (by simp [go_sem])
  ·try simp [go_sem, g]
   refine pw_wk ?_
   repeat rw [sq]
   refine pw_cond_t (by simp [go_sem, g, hi9, hi10]) ?_
   try simp [go_sem, g]
   refine pw_wk ?_
   repeat rw [sq]
   rw [pw_block]
   obtain ⟨x11, g, hF⟩ := Rx g hF
   try simp [go_sem, g]
   refine pw_wk ?_
   repeat rw [sq]
   refine pJ hF (fun x14 => [(2, .bl [.int .i64 a0.P, .int .i64 a0.Q, .int .i64 a0.G]), (7, .v (.sl false 1 (a1.map zaa))), (8, .v (.int .i64 (a1.length : Int))), (9, .v (.int .i64 i5)), (27, .v (.bool x14))]) (fun x14 hF => ?_) fun _ hj12 hF => ?_
   ·repeat rw [sq]
    refine pI hF (fun h18 hF => ?_) (fun h18 hF => ?_)
    ·try simp [go_sem, g]
     refine pw_wkK [4] (by simp [go_sem, g]; rfl) ?_
     cases ho6 _ (Rn_some hF)
     cases hΦ _ (hr2 _ hψ8)
     try simp [go_sem, g]
    ·try simp [go_sem, g]
     refine pw_wk ?_
     try simp [go_sem, g]
     exact pT (hg7 ()) (Rn_some hF) (by simp [go_sem, g, wr_i hi9 hi10 (by assumption)])
   ·try simp [go_sem, g]
    refine pC hF [.sh, .sh, .sh] za5 (fun z15 hF => ?_)
    try simp [go_sem, g]
    refine pwg_F hF (fun h16 hF => ?_) fun h16 hF => ?_
    ·try simp [go_sem, g, h16]
     exact pT (hj12 true) (Rn_some hF)
    ·try simp [go_sem, g, h16]
     refine pC hF [.sh, .sh, .sh] zc7 (fun z17 hF => ?_)
     try simp [go_sem, g, h16]
     exact pT (hj12 (z17 != 1)) (Rn_some hF)
noncomputable def zdj (a0 : Group) (a1 : (List Int)) : Option (Bool) :=
 (((zcm a0).bind fun z4 =>
 if z4 = true then (
 if decide ((a1.length : Int) ≤ 40) = true then (
 (zdp a0 a1).bind fun z7 =>
 some z7) else (
 some false)) else (
 some false) : Option (Bool)).bind fun x3 =>
 some x3)
theorem zgK : ∀ {a0} {a1} {r}, zdj a0 a1 = some r → PCalls Tryz.prog 29 [(.sh, .agg [.int .i64 a0.P, .int .i64 a0.Q, .int .i64 a0.G]), (.sh, .sl false 1 (a1.map zaa))] (Eo (.bool r) [.junk, .junk]) := by
 intro a0 a1 r hr
 apply pF 17 [] [] [] [.tmp 4] hr cl29 Tryz.func29
 intro Φ hΦ hF g
 unfold zdj at hF
 try simp [go_sem, g]
 refine pw_wk ?_
 repeat rw [sq]
 refine pJ hF (fun x3 => [(4, .v (.bool x3))]) (fun x3 hF => ?_) fun _ hj1 hF => ?_
 ·cases hΦ _ (Rn_some hF)
  try simp [go_sem, g]
 ·try simp [go_sem, g]
  refine pC hF [.sh] zea (fun z4 hF => ?_)
  try simp [go_sem, g]
  refine pwg_F hF (fun h5 hF => ?_) fun h5 hF => ?_
  ·try simp [go_sem, g, h5]
   try intros
   refine pwg_F hF (fun h6 hF => ?_) fun h6 hF => ?_
   ·try simp [go_sem, g, h6]
    refine pC hF [.sh, .sh] zgh (fun z7 hF => ?_)
    try simp [go_sem, g, h6]
    exact pT (hj1 z7) (Rn_some hF)
   ·try simp [go_sem, g, h6]
    exact pT (hj1 false) (Rn_some hF)
  ·try simp [go_sem, g, h5]
   exact pT (hj1 false) (Rn_some hF)
noncomputable def zdv (a0 : Group) (a1 : (List Int)) : Option (Int) :=
 ((rloop (σ := Int) (fun i5 s4 =>
 (ix a1 i5).bind fun x11 =>
 gd (a0.P ≠ 0) <|
 some (.go ((i64.wrap (s4 * x11)).tmod a0.P))) (fun s4 => s4) (a1.length) 0 1 : Option (Int)).bind fun x3 =>
 some x3)
theorem zhg : ∀ {a0} {a1} {r}, zdv a0 a1 = some r → PCalls Tryz.prog 151 [(.sh, .agg [.int .i64 a0.P, .int .i64 a0.Q, .int .i64 a0.G]), (.sh, .sl false 1 (a1.map zaa))] (Eo (.int .i64 r) [.junk, .junk]) := by
 intro a0 a1 r hr
 apply pF 22 [] [] [] [.tmp 4] hr cl151 Tryz.func151
 intro Φ hΦ hF g
 unfold zdv at hF
 iterate 3 (try simp [go_sem, g]; try intros; refine pw_wk ?_)
 repeat rw [sq]
 refine pJ hF (fun x3 => [(5, .v (.int .i64 x3))]) (fun x3 hF => ?_) fun _ hj1 hF => ?_
 ·cases hΦ _ (Rn_some hF)
  try simp [go_sem, g]
  refine pw_wk ?_
  try simp [go_sem, g]
 ·repeat rw [sq]
  rw [pw_block]
  obtain ⟨b12, hb13, hψ8⟩ := hF
  refine pR hb13 (fun i5 s4 => [(2, .bl [.int .i64 a0.P, .int .i64 a0.Q, .int .i64 a0.G]), (5, .v (.int .i64 s4)), (8, .v (.sl false 1 (a1.map zaa))), (9, .v (.int .i64 (a1.length : Int))), (10, .v (.int .i64 i5))]) (fun s4 _ hN14 => ?_) (fun i5 s4 _ _ hi9 hi10 ho6 hg7 hF => ?_)
  ·subst hN14
   try simp [go_sem]
   refine pw_wk ?_
   repeat rw [sq]
   refine pw_cond_f (by simp [go_sem]) ?_
   try simp [go_sem]
   exact pT (hj1 s4) hψ8 (by simp [go_sem])
  ·try simp [go_sem, g]
   refine pw_wk ?_
   repeat rw [sq]
   refine pw_cond_t (by simp [go_sem, g, hi9, hi10]) ?_
   try simp [go_sem, g]
   refine pw_wk ?_
   repeat rw [sq]
   rw [pw_block]
   obtain ⟨x11, g, hF⟩ := Rx g hF
   try simp [go_sem, g]
   refine pw_wkK [2, 5, 7, 8, 9, 10] (by simp [go_sem, g]; rfl) ?_
   obtain ⟨g, hF⟩ := Rz g hF
   try simp [go_sem, g]
   refine pw_wk ?_
   try simp [go_sem, g]
   exact pT (hg7 ((i64.wrap (s4 * x11)).tmod a0.P)) (Rn_some hF) (by simp [go_sem, g, wr_i hi9 hi10 (by assumption)])
def zij : List DE := [d1 0 [9] 9, d2 1 [14] 9 14, d0 2 [15], d0 3 [2], d0 4 [17], d0 5 [16, 18], d0 6 [19], d1 7 [9, 20] 9, d2 8 [21, 20] 9 21, d0 9 [22, 20], d0 10 [23, 20], d0 11 [20, 24], d0 12 [25], d1 13 [9, 26] 9, d2 14 [27, 26] 9 27, d0 15 [28, 26], d0 16 [2, 26], d0 17 [30, 26], d0 18 [31, 26], d0 19 [32, 26], d0 20 [29, 33, 26], d0 21 [26, 34], d0 22 [35], d2 23 [5, 36] 5 5, d1 24 [9, 36] 9, d2 25 [38, 36] 9 38, d3 26 [37, 39, 36], d0 27 [40, 36], d0 28 [36, 41], d0 29 [42], d2 30 [5, 43] 5 5, d1 31 [9, 43] 9, d2 32 [45, 43] 9 45, d3 33 [44, 46, 43], d0 34 [47, 43], d0 35 [43, 48]]
def ziw : List DE := [d0 0 [11], d2 1 [5] 5 5, d0 2 [1], d0 3 [2], d0 4 [3], d1 5 [9] 9, d2 6 [59] 9 59, d3 7 [57, 58, 60], d3 8 [55, 56, 61], d0 9 [54, 62]]
def zh7 : List DE := [d2 0 [5] 5 5, d0 1 [13], d1 2 [9] 9, d2 3 [73] 9 73, d2 5 [5] 5 5, d1 6 [9] 9, d2 7 [77] 9 77, d0 8 [12], d0 9 [78, 79], d0 10 [80], d2 11 [5] 5 5, d0 12 [3], d0 13 [12], d0 14 [83, 84], d0 15 [85], d0 16 [11], ⟨4, [71, 72, 74], [], none, false, true, false⟩, ⟨17, [82, 86, 87], [], none, false, true, false⟩, d0 18 [81, 88], ⟨19, [76, 89], [], none, true, true, true⟩, d0 20 [75, 90]]
noncomputable def zcY (a0 : Group) (a1 : ByteArray) (a2 : (List (List Int))) (a3 : (List Int)) (a4 : Proof) : Option (Bool) :=
 ((if ((a4.Commits.length : Int) != (a2.length : Int)) = true then (
 some true) else (
 if ((a4.Challenges.length : Int) != 1) = true then (
 some true) else (
 (ix a2 0).bind fun x6 =>
 if ((a4.Responses.length : Int) != (x6.length : Int)) = true then (
 some true) else (
 (zdp a0 a4.Commits).bind fun z8 =>
 if (!z8) = true then (
 some true) else (
 (zcB a0 a4.Responses).bind fun z10 =>
 some (!z10))))) : Option (Bool)).bind fun x3 =>
 if x3 = true then (
 some false) else (
 (ix a4.Challenges 0).bind fun x12 =>
 (zbQ a2 a3 a4.Commits).bind fun z13 =>
 (za7 a0 a1 z13).bind fun z14 =>
 if (x12 != z14) = true then (
 some false) else (
 ((rloop (σ := Unit) (fun i20 s19 =>
 (ix a2 i20).bind fun x26 =>
 (ix a4.Commits i20).bind fun x27 =>
 (ix a3 i20).bind fun x28 =>
 (zbP a0 x26 a4.Responses).bind fun z29 =>
 (zaE a0 x28 x12).bind fun z30 =>
 (zdv a0 [x27, z30]).bind fun z31 =>
 if (z29 != z31) = true then (
 some (.out (.inr false))) else (
 some (.go ()))) (fun s19 => .inl ()) (a2.length) 0 () : Option (Unit ⊕ Bool)).bind (Sum.elim (fun x18 =>
 some true) some)))))
theorem zgi : ∀ {a0} {a1} {a2} {a3} {a4} {r}, zcY a0 a1 a2 a3 a4 = some r → PCalls Tryz.prog 132 [(.sh, .agg [.int .i64 a0.P, .int .i64 a0.Q, .int .i64 a0.G]), (.sh, .str a1), (.sh, .sl false 1 (a2.map zaf)), (.sh, .sl false 1 (a3.map zaa)), (.sh, .agg [.sl false 1 (a4.Commits.map zaa), .sl false 1 (a4.Challenges.map zaa), .sl false 1 (a4.Responses.map zaa)])] (Eo (.bool r) [.junk, .junk, .junk, .junk, .junk]) := by
 intro a0 a1 a2 a3 a4 r hr
 apply pF 93 [] [] [] [.tmp 10] hr cl132 Tryz.func132
 intro Φ hΦ hF g
 unfold zcY at hF
 try simp [go_sem, g]
 refine pw_wk ?_
 repeat rw [sq]
 refine pJ hF (fun x3 => [(1, .v (.str a1)), (2, .v (.sl false 1 (a2.map zaf))), (3, .v (.sl false 1 (a3.map zaa))), (5, .bl [.int .i64 a0.P, .int .i64 a0.Q, .int .i64 a0.G]), (9, .bl [.sl false 1 (a4.Commits.map zaa), .sl false 1 (a4.Challenges.map zaa), .sl false 1 (a4.Responses.map zaa)]), (49, .v (.bool x3))]) (fun x3 hF => ?_) fun _ hj1 hF => ?_
 ·repeat rw [sq]
  refine pI hF (fun h11 hF => ?_) (fun h11 hF => ?_)
  ·cases hΦ _ (Rn_some hF)
   try simp [go_sem, g]
   refine pw_wk ?_
   try simp [go_sem, g]
  ·obtain ⟨x12, g, hF⟩ := Rxn g 0 hF
   iterate 2 (try simp [go_sem, g]; refine pw_wk ?_)
   repeat rw [sq]
   refine pw_draw ziw follows (by kernel_rfl) rfl ?_
   try simp only [go_sem, ziw]
   try simp [go_sem, g]
   refine pC hF [.sh, .sh, .sh] zee (fun z13 hF => ?_)
   try simp [go_sem, g]
   refine pC hF [.sh, .sh, .sh] zeh (fun z14 hF => ?_)
   try simp [go_sem, g]
   refine pw_wkK [2, 3, 5, 9, 11, 63] (by simp [go_sem, g]; rfl) ?_
   repeat rw [sq]
   refine pI hF (fun h15 hF => ?_) (fun h15 hF => ?_)
   ·cases hΦ _ (Rn_some hF)
    try simp [go_sem, g]
    refine pw_wk ?_
    try simp [go_sem, g]
   ·iterate 2 (try simp [go_sem, g]; try intros; refine pw_wk ?_)
    repeat rw [sq]
    refine pJs hF (fun x18 => []) (fun x18 hF => ?_) fun _ hj16 hr17 hF => ?_
    ·cases hΦ _ (Rn_some hF)
     try simp [go_sem, g]
     refine pw_wk ?_
     try simp [go_sem, g]
    ·repeat rw [sq]
     rw [pw_block]
     obtain ⟨b33, hb34, hψ23⟩ := hF
     refine pR hb34 (fun i20 s19 => [(3, .v (.sl false 1 (a3.map zaa))), (5, .bl [.int .i64 a0.P, .int .i64 a0.Q, .int .i64 a0.G]), (9, .bl [.sl false 1 (a4.Commits.map zaa), .sl false 1 (a4.Challenges.map zaa), .sl false 1 (a4.Responses.map zaa)]), (11, .v (.int .i64 x12)), (64, .v (.sl false 1 (a2.map zaf))), (65, .v (.int .i64 (a2.length : Int))), (66, .v (.int .i64 i20))]) (fun s19 _ hN35 => ?_) (fun i20 s19 _ _ hi24 hi25 ho21 hg22 hF => ?_)
     ·subst hN35
      try simp [go_sem]
      refine pw_wk ?_
      repeat rw [sq]
      refine pw_cond_f (by simp [go_sem]) ?_
      try simp [go_sem]
      exact pT (hj16 ()) hψ23 (by simp [go_sem])
     ·try simp [go_sem, g]
      refine pw_wk ?_
      repeat rw [sq]
      refine pw_cond_t (by simp [go_sem, g, hi24, hi25]) ?_
      try simp [go_sem, g]
      refine pw_wk ?_
      repeat rw [sq]
      rw [pw_block]
      obtain ⟨x26, g, hF⟩ := Rx g hF
      try simp [go_sem, g]
      refine pw_wk ?_
      repeat rw [sq]
      refine pw_draw zh7 follows (by kernel_rfl) rfl ?_
      try simp only [go_sem, zh7]
      obtain ⟨x27, g, hF⟩ := Rx g hF
      obtain ⟨x28, g, hF⟩ := Rx g hF
      try simp [go_sem, g]
      refine pCD hF zfq (fun z29 hF => ?_)
      try simp [go_sem, g]
      refine pCD hF zdw (fun z30 hF => ?_)
      try simp [go_sem, g]
      refine pC hF [.sh, .sh] zhg (fun z31 hF => ?_)
      try simp [go_sem, g]
      refine pw_wkK [3, 5, 9, 11, 64, 65, 66, 91] (by simp [go_sem, g]; rfl) ?_
      repeat rw [sq]
      refine pI hF (fun h32 hF => ?_) (fun h32 hF => ?_)
      ·cases ho21 _ (Rn_some hF)
       cases hΦ _ (hr17 _ hψ23)
       try simp [go_sem, g]
       refine pw_wk ?_
       try simp [go_sem, g]
      ·try simp [go_sem, g]
       refine pw_wk ?_
       try simp [go_sem, g]
       exact pT (hg22 ()) (Rn_some hF) (by simp [go_sem, g, wr_i hi24 hi25 (by assumption)])
 ·repeat rw [sq]
  refine pw_draw zij follows (by kernel_rfl) rfl ?_
  try simp only [go_sem, zij]
  try simp [go_sem, g]
  try intros
  refine pwgD_F hF (fun h4 hF => ?_) fun h4 hF => ?_
  ·try simp [go_sem, g, h4]
   exact pT (hj1 true) (Rn_some hF)
  ·try simp [go_sem, g, h4]
   try intros
   refine pwgD_F hF (fun h5 hF => ?_) fun h5 hF => ?_
   ·try simp [go_sem, g, h5]
    exact pT (hj1 true) (Rn_some hF)
   ·obtain ⟨x6, g, hF⟩ := Rxn g 0 hF
    try simp [go_sem, g, h5]
    try intros
    refine pwgD_F hF (fun h7 hF => ?_) fun h7 hF => ?_
    ·try simp [go_sem, g, h7]
     exact pT (hj1 true) (Rn_some hF)
    ·try simp [go_sem, g, h7]
     refine pC hF [.sh, .sh] zgh (fun z8 hF => ?_)
     try simp [go_sem, g, h7]
     refine pwgD_F hF (fun h9 hF => ?_) fun h9 hF => ?_
     ·try simp [go_sem, g, h9]
      exact pT (hj1 true) (Rn_some hF)
     ·try simp [go_sem, g, h9]
      refine pC hF [.sh, .sh] zft (fun z10 hF => ?_)
      try simp [go_sem, g, h9]
      exact pT (hj1 (!z10)) (Rn_some hF)
noncomputable def zcZ (a0 : Group) (a1 : ByteArray) (a2 : Int) (a3 : Proof) : Option (Bool) :=
 (zcY a0 a1 [[a0.G]] [a2] a3).bind fun z1 =>
 some z1
theorem zgq : ∀ {a0} {a1} {a2} {a3} {r}, zcZ a0 a1 a2 a3 = some r → PCalls Tryz.prog 119 [(.sh, .agg [.int .i64 a0.P, .int .i64 a0.Q, .int .i64 a0.G]), (.sh, .str a1), (.sh, .int .i64 a2), (.sh, .agg [.sl false 1 (a3.Commits.map zaa), .sl false 1 (a3.Challenges.map zaa), .sl false 1 (a3.Responses.map zaa)])] (Eo (.bool r) [.junk, .junk, .junk, .junk]) := by
 intro a0 a1 a2 a3 r hr
 apply pF 19 [] [] [] [.tmp 8] hr cl119 Tryz.func119
 intro Φ hΦ hF g
 unfold zcZ at hF
 try simp [go_sem, g]
 refine pw_wk ?_
 try simp [go_sem, g]
 refine pC hF [.sh, .sh, .sh, .sh, .sh] zgi (fun z1 hF => ?_)
 try simp [go_sem, g]
 refine pw_wkK [8] (by simp [go_sem, g]; rfl) ?_
 cases hΦ _ (Rn_some hF)
 try simp [go_sem, g]
def zjF : List DE := [d2 0 [5] 5 5, d3 1 [7], d0 2 [8], d2 3 [3, 9] 3 3, d2 4 [5, 9] 5 5, d0 6 [1, 9], d1 7 [5, 9] 5, d2 8 [14, 9] 5 14, d3 5 [11, 9], d3 9 [10, 12, 13, 15, 9], d0 10 [9, 16], d0 11 [17]]
noncomputable def zcw (a0 : Group) (a1 : Int) (a2 : Head) : Option (Bool) :=
 (((zcz a2).bind fun z4 =>
 if z4 = true then (
 (za6 a2).bind fun z6 =>
 (zcZ a0 z6 a1 a2.Sign).bind fun z7 =>
 some z7) else (
 some false) : Option (Bool)).bind fun x3 =>
 some x3)
theorem zeU : ∀ {a0} {a1} {a2} {r}, zcw a0 a1 a2 = some r → PCalls Tryz.prog 97 [(.sh, .agg [.int .i64 a0.P, .int .i64 a0.Q, .int .i64 a0.G]), (.sh, .int .i64 a1), (.sh, .agg [.int .i64 a2.Author, .int .i64 a2.Size, .int .i64 a2.Root, .sl false 1 (a2.Sign.Commits.map zaa), .sl false 1 (a2.Sign.Challenges.map zaa), .sl false 1 (a2.Sign.Responses.map zaa)])] (Eo (.bool r) [.junk, .junk, .junk]) := by
 intro a0 a1 a2 r hr
 apply pF 18 [] [] [] [.tmp 6] hr cl97 Tryz.func97
 intro Φ hΦ hF g
 unfold zcw at hF
 try simp [go_sem, g]
 refine pw_wk ?_
 repeat rw [sq]
 refine pJ hF (fun x3 => [(6, .v (.bool x3))]) (fun x3 hF => ?_) fun _ hj1 hF => ?_
 ·cases hΦ _ (Rn_some hF)
  try simp [go_sem, g]
 ·repeat rw [sq]
  refine pw_draw zjF follows (by kernel_rfl) rfl ?_
  try simp only [go_sem, zjF]
  try simp [go_sem, g]
  refine pC hF [.sh] zeu (fun z4 hF => ?_)
  try simp [go_sem, g]
  refine pwgD_F hF (fun h5 hF => ?_) fun h5 hF => ?_
  ·try simp [go_sem, g, h5]
   refine pC hF [.sh] zef (fun z6 hF => ?_)
   try simp [go_sem, g, h5]
   refine pC hF [.sh, .sh, .sh, .sh] zgq (fun z7 hF => ?_)
   try simp [go_sem, g, h5]
   exact pT (hj1 z7) (Rn_some hF)
  ·try simp [go_sem, g, h5]
   exact pT (hj1 false) (Rn_some hF)
def zjJ : List DE := [d1 0 [5] 5, d2 1 [9] 5 9, d1 2 [5] 5, d2 3 [11] 5 11, d0 4 [], d0 5 [], d2 6 [7, 10] 7 7, d2 7 [8, 12] 8 8]
def zjo : List DE := [d2 0 [3] 3 3, d0 1 [1], d1 2 [7] 7, d2 3 [43] 7 43, d0 4 [42, 44], d0 5 [45], d2 6 [7] 7 7, d3 7 [41, 46, 47], d0 8 [48], d2 9 [3, 49] 3 3, d0 10 [1, 49], d1 11 [8, 49] 8, d2 12 [52, 49] 8 52, d0 13 [51, 53, 49], d0 14 [54, 49], d2 15 [8, 49] 8 8, d3 16 [50, 55, 56, 49], d0 17 [49, 57], d0 18 [58]]
noncomputable def zb3 (a0 : Group) (a1 : (List Int)) (a2 : ForkEvidence) : Option (Bool) :=
 ((if (a2.First.Author != a2.Second.Author) = true then (
 some true) else (
 if (a2.First.Size != a2.Second.Size) = true then (
 some true) else (
 if (a2.First.Root == a2.Second.Root) = true then (
 some true) else (
 (zaC a2.First.Author 0 (i64.wrap ((a1.length : Int) - 1))).bind fun z7 =>
 some (!z7)))) : Option (Bool)).bind fun x3 =>
 if x3 = true then (
 some false) else (
 (((ix a1 a2.First.Author).bind fun x12 =>
 (zcw a0 x12 a2.First).bind fun z13 =>
 if z13 = true then (
 (ix a1 a2.Second.Author).bind fun x15 =>
 (zcw a0 x15 a2.Second).bind fun z16 =>
 some z16) else (
 some false) : Option (Bool)).bind fun x11 =>
 some x11)))
theorem zfY : ∀ {a0} {a1} {a2} {r}, zb3 a0 a1 a2 = some r → PCalls Tryz.prog 66 [(.sh, .agg [.int .i64 a0.P, .int .i64 a0.Q, .int .i64 a0.G]), (.sh, .sl false 1 (a1.map zaa)), (.sh, .agg [.int .i64 a2.First.Author, .int .i64 a2.First.Size, .int .i64 a2.First.Root, .sl false 1 (a2.First.Sign.Commits.map zaa), .sl false 1 (a2.First.Sign.Challenges.map zaa), .sl false 1 (a2.First.Sign.Responses.map zaa), .int .i64 a2.Second.Author, .int .i64 a2.Second.Size, .int .i64 a2.Second.Root, .sl false 1 (a2.Second.Sign.Commits.map zaa), .sl false 1 (a2.Second.Sign.Challenges.map zaa), .sl false 1 (a2.Second.Sign.Responses.map zaa)])] (Eo (.bool r) [.junk, .junk, .junk]) := by
 intro a0 a1 a2 r hr
 apply pF 59 [] [] [] [.tmp 6] hr cl66 Tryz.func66
 intro Φ hΦ hF g
 unfold zb3 at hF
 try simp [go_sem, g]
 refine pw_wk ?_
 repeat rw [sq]
 refine pw_draw zjJ follows (by kernel_rfl) rfl ?_
 try simp only [go_sem, zjJ]
 try simp [go_sem, g]
 refine pw_wkK [1, 3, 7, 8] (by simp [go_sem, g]; rfl) ?_
 repeat rw [sq]
 refine pJ hF (fun x3 => [(1, .v (.sl false 1 (a1.map zaa))), (3, .bl [.int .i64 a0.P, .int .i64 a0.Q, .int .i64 a0.G]), (7, .bl [.int .i64 a2.First.Author, .int .i64 a2.First.Size, .int .i64 a2.First.Root, .sl false 1 (a2.First.Sign.Commits.map zaa), .sl false 1 (a2.First.Sign.Challenges.map zaa), .sl false 1 (a2.First.Sign.Responses.map zaa)]), (8, .bl [.int .i64 a2.Second.Author, .int .i64 a2.Second.Size, .int .i64 a2.Second.Root, .sl false 1 (a2.Second.Sign.Commits.map zaa), .sl false 1 (a2.Second.Sign.Challenges.map zaa), .sl false 1 (a2.Second.Sign.Responses.map zaa)]), (40, .v (.bool x3))]) (fun x3 hF => ?_) fun _ hj1 hF => ?_
 ·repeat rw [sq]
  refine pI hF (fun h8 hF => ?_) (fun h8 hF => ?_)
  ·cases hΦ _ (Rn_some hF)
   try simp [go_sem, g]
   refine pw_wk ?_
   try simp [go_sem, g]
  ·try simp [go_sem, g]
   refine pw_wk ?_
   repeat rw [sq]
   refine pJ hF (fun x11 => [(6, .v (.bool x11))]) (fun x11 hF => ?_) fun _ hj9 hF => ?_
   ·cases hΦ _ (Rn_some hF)
    try simp [go_sem, g]
   ·repeat rw [sq]
    refine pw_draw zjo follows (by kernel_rfl) rfl ?_
    try simp only [go_sem, zjo]
    obtain ⟨x12, g, hF⟩ := Rx g hF
    try simp [go_sem, g]
    refine pC hF [.sh, .sh, .sh] zeU (fun z13 hF => ?_)
    try simp [go_sem, g]
    refine pwgD_F hF (fun h14 hF => ?_) fun h14 hF => ?_
    ·obtain ⟨x15, g, hF⟩ := Rx g hF
     try simp [go_sem, g, h14]
     refine pC hF [.sh, .sh, .sh] zeU (fun z16 hF => ?_)
     try simp [go_sem, g, h14]
     exact pT (hj9 z16) (Rn_some hF)
    ·try simp [go_sem, g, h14]
     exact pT (hj9 false) (Rn_some hF)
 ·try simp [go_sem, g]
  refine pwg_F hF (fun h4 hF => ?_) fun h4 hF => ?_
  ·try simp [go_sem, g, h4]
   exact pT (hj1 true) (Rn_some hF)
  ·try simp [go_sem, g, h4]
   refine pwg_F hF (fun h5 hF => ?_) fun h5 hF => ?_
   ·try simp [go_sem, g, h5]
    exact pT (hj1 true) (Rn_some hF)
   ·try simp [go_sem, g, h5]
    refine pwg_F hF (fun h6 hF => ?_) fun h6 hF => ?_
    ·try simp [go_sem, g, h6]
     exact pT (hj1 true) (Rn_some hF)
    ·try simp [go_sem, g, h6]
     try intros
     refine pC hF [.sh, .sh, .sh] za5 (fun z7 hF => ?_)
     try simp [go_sem, g, h6]
     exact pT (hj1 (!z7)) (Rn_some hF)
def zjI : List DE := [d2 0 [9] 9 9, d2 2 [11] 11 11, d3 1 [36], d3 3 [38], d0 4 [37, 39], d2 5 [6, 40] 6 6, d0 6 []]
noncomputable def zdO (a0 : Group) (a1 : (List Int)) (a2 : (List Head)) : Option (ForkEvidence × Bool) :=
 ((rloop (σ := Unit) (fun i5 s4 =>
 (((ix a2 i5).bind fun x14 =>
 gd (0 ≤ (i64.wrap (i5 + 1))) <|
 gd ((i64.wrap (i5 + 1)).toNat ≤ a2.length ∧ a2.length ≤ a2.length) <|
 rloop (σ := Unit) (fun i16 s15 =>
 (ix ((a2.take a2.length).drop ((i64.wrap (i5 + 1)).toNat)) i16).bind fun x23 =>
 (zb3 a0 a1 (ForkEvidence.mk x14 x23)).bind fun z24 =>
 if z24 = true then (
 (zcu x14).bind fun z26 =>
 (zcu x23).bind fun z27 =>
 some (.out (.inr (.out (.inr ((ForkEvidence.mk z26 z27), true)))))) else (
 some (.go ()))) (fun s15 => .inl ()) (((a2.take a2.length).drop ((i64.wrap (i5 + 1)).toNat)).length) 0 () : Option (Unit ⊕ (Stp Unit (Unit ⊕ (ForkEvidence × Bool))))).bind (Sum.elim (fun x13 =>
 some (.go ())) some))) (fun s4 => .inl ()) (a2.length) 0 () : Option (Unit ⊕ (ForkEvidence × Bool))).bind (Sum.elim (fun x3 =>
 some ((ForkEvidence.mk (Head.mk 0 0 0 (Proof.mk [] [] [])) (Head.mk 0 0 0 (Proof.mk [] [] []))), false)) some))
theorem zgW : ∀ {a0} {a1} {a2} {r}, zdO a0 a1 a2 = some r → PCalls Tryz.prog 31 [(.sh, .agg [.int .i64 a0.P, .int .i64 a0.Q, .int .i64 a0.G]), (.sh, .sl false 1 (a1.map zaa)), (.sh, .sl false 6 (a2.map zad))] (Eo (.tup [.agg [.int .i64 r.1.First.Author, .int .i64 r.1.First.Size, .int .i64 r.1.First.Root, .sl true 1 (r.1.First.Sign.Commits.map zaa), .sl true 1 (r.1.First.Sign.Challenges.map zaa), .sl true 1 (r.1.First.Sign.Responses.map zaa), .int .i64 r.1.Second.Author, .int .i64 r.1.Second.Size, .int .i64 r.1.Second.Root, .sl true 1 (r.1.Second.Sign.Commits.map zaa), .sl true 1 (r.1.Second.Sign.Challenges.map zaa), .sl true 1 (r.1.Second.Sign.Responses.map zaa)], .bool r.2]) [.junk, .junk, .junk]) := by
 intro a0 a1 a2 r hr
 apply pF 44 [] [] [] [.cell 6 35, .tmp 7] hr cl31 Tryz.func31
 intro Φ hΦ hF g
 unfold zdO at hF
 iterate 2 (try simp [go_sem, g]; try intros; refine pw_wk ?_)
 repeat rw [sq]
 refine pJs hF (fun x3 => [(6, .bl [.int .i64 0, .int .i64 0, .int .i64 0, .sl true 1 [], .sl true 1 [], .sl true 1 [], .int .i64 0, .int .i64 0, .int .i64 0, .sl true 1 [], .sl true 1 [], .sl true 1 []])]) (fun x3 hF => ?_) fun _ hj1 hr2 hF => ?_
 ·cases hΦ _ (Rn_some hF)
  try simp [go_sem, g]
  refine pw_wk ?_
  try simp [go_sem, g]
 ·repeat rw [sq]
  rw [pw_block]
  obtain ⟨b32, hb33, hψ8⟩ := hF
  refine pR hb33 (fun i5 s4 => [(1, .v (.sl false 1 (a1.map zaa))), (2, .v (.sl false 6 (a2.map zad))), (3, .bl [.int .i64 a0.P, .int .i64 a0.Q, .int .i64 a0.G]), (6, .bl [.int .i64 0, .int .i64 0, .int .i64 0, .sl true 1 [], .sl true 1 [], .sl true 1 [], .int .i64 0, .int .i64 0, .int .i64 0, .sl true 1 [], .sl true 1 [], .sl true 1 []]), (13, .v (.sl false 6 (a2.map zad))), (14, .v (.int .i64 (a2.length : Int))), (15, .v (.int .i64 i5))]) (fun s4 _ hN34 => ?_) (fun i5 s4 _ _ hi9 hi10 ho6 hg7 hF => ?_)
  ·subst hN34
   try simp [go_sem]
   refine pw_wk ?_
   repeat rw [sq]
   refine pw_cond_f (by simp [go_sem]) ?_
   try simp [go_sem]
   exact pT (hj1 ()) hψ8 (by simp [go_sem])
  ·try simp [go_sem, g]
   refine pw_wk ?_
   repeat rw [sq]
   refine pw_cond_t (by simp [go_sem, g, hi9, hi10]) ?_
   try simp [go_sem, g]
   refine pw_wk ?_
   repeat rw [sq]
   refine pJs hF (fun x13 => [(1, .v (.sl false 1 (a1.map zaa))), (2, .v (.sl false 6 (a2.map zad))), (3, .bl [.int .i64 a0.P, .int .i64 a0.Q, .int .i64 a0.G]), (6, .bl [.int .i64 0, .int .i64 0, .int .i64 0, .sl true 1 [], .sl true 1 [], .sl true 1 [], .int .i64 0, .int .i64 0, .int .i64 0, .sl true 1 [], .sl true 1 [], .sl true 1 []]), (13, .v (.sl false 6 (a2.map zad))), (14, .v (.int .i64 (a2.length : Int))), (15, .v (.int .i64 i5))]) (fun x13 hF => ?_) fun _ hj11 hr12 hF => ?_
   ·try simp [go_sem, g]
    exact pT (hg7 ()) (Rn_some hF) (by simp [go_sem, g, wr_i hi9 hi10 (by assumption)])
   ·repeat rw [sq]
    rw [pw_block]
    obtain ⟨x14, g, hF⟩ := Rx g hF
    try simp [go_sem, g]
    refine pw_wkK [1, 2, 3, 6, 8, 9, 13, 14, 15] (by simp [go_sem, g]; rfl) ?_
    obtain ⟨g, hF⟩ := Rg g hF
    obtain ⟨g, hF⟩ := Rg g hF
    try simp [go_sem, g]
    try intros
    refine pw_wk ?_
    repeat rw [sq]
    rw [pw_block]
    obtain ⟨b28, hb29, hψ19⟩ := hF
    refine pR hb29 (fun i16 s15 => [(1, .v (.sl false 1 (a1.map zaa))), (2, .v (.sl false 6 (a2.map zad))), (3, .bl [.int .i64 a0.P, .int .i64 a0.Q, .int .i64 a0.G]), (6, .bl [.int .i64 0, .int .i64 0, .int .i64 0, .sl true 1 [], .sl true 1 [], .sl true 1 [], .int .i64 0, .int .i64 0, .int .i64 0, .sl true 1 [], .sl true 1 [], .sl true 1 []]), (9, .bl [.int .i64 x14.Author, .int .i64 x14.Size, .int .i64 x14.Root, .sl false 1 (x14.Sign.Commits.map zaa), .sl false 1 (x14.Sign.Challenges.map zaa), .sl false 1 (x14.Sign.Responses.map zaa)]), (13, .v (.sl false 6 (a2.map zad))), (14, .v (.int .i64 (a2.length : Int))), (15, .v (.int .i64 i5)), (23, .v (.sl false 6 (((a2.take a2.length).drop ((i64.wrap (i5 + 1)).toNat)).map zad))), (24, .v (.int .i64 (((a2.take a2.length).drop ((i64.wrap (i5 + 1)).toNat)).length : Int))), (25, .v (.int .i64 i16))]) (fun s15 _ hN30 => ?_) (fun i16 s15 _ _ hi20 hi21 ho17 hg18 hF => ?_)
    ·subst hN30
     try simp [go_sem]
     refine pw_wk ?_
     repeat rw [sq]
     refine pw_cond_f (by simp [go_sem]) ?_
     try simp [go_sem]
     exact pT (hj11 ()) hψ19 (by simp [go_sem])
    ·have hi22 := hi21
     try simp at hi22
     try simp [go_sem, g]
     refine pw_wk ?_
     repeat rw [sq]
     refine pw_cond_t (by simp [go_sem, g, hi20, hi21, hi22]) ?_
     try simp [go_sem, g]
     refine pw_wk ?_
     repeat rw [sq]
     rw [pw_block]
     obtain ⟨x23, g, hF⟩ := Rxq g hF
     try simp [go_sem, g]
     refine pw_wkK [1, 2, 3, 6, 9, 11, 13, 14, 15, 23, 24, 25] (by simp [go_sem, g]; rfl) ?_
     try simp [go_sem, g]
     refine pw_wk ?_
     try simp [go_sem, g]
     refine pC hF [.sh, .sh, .sh] zfY (fun z24 hF => ?_)
     try simp [go_sem, g]
     refine pw_wk ?_
     repeat rw [sq]
     refine pI hF (fun h25 hF => ?_) (fun h25 hF => ?_)
     ·repeat rw [sq]
      refine pw_draw zjI follows (by kernel_rfl) rfl ?_
      try simp only [go_sem, zjI]
      try simp [go_sem, g]
      refine pC hF [.sh] zd3 (fun z26 hF => ?_)
      try simp [go_sem, g]
      refine pC hF [.sh] zd3 (fun z27 hF => ?_)
      try simp [go_sem, g]
      refine pw_wkK [6, 7] (by simp [go_sem, g]; rfl) ?_
      cases ho17 _ (Rn_some hF)
      cases ho6 _ (hr12 _ hψ19)
      cases hΦ _ (hr2 _ hψ8)
      try simp [go_sem, g]
     ·try simp [go_sem, g]
      refine pw_wk ?_
      try simp [go_sem, g]
      exact pT (hg18 ()) (Rn_some hF) (by simp [go_sem, g, wr_i hi20 hi21 (by first | assumption | (simp; assumption) | (simp; omega))])
noncomputable def zbF (a0 : Group) (a1 : (List Int)) (a2 : (List Reader)) (a3 : (List (List Int))) (a4 : Int) : Option (Int × Int × Bool) :=
 (((zdj a0 a1).bind fun z4 =>
 if (!z4) = true then (
 some true) else (
 (zcl a2 a3).bind fun z6 =>
 if (!z6) = true then (
 some true) else (
 (zaC a4 0 10).bind fun z8 =>
 some (!z8))) : Option (Bool)).bind fun x3 =>
 if x3 = true then (
 some (0, 0, false)) else (
 ((wloop (σ := (List Reader) × Int) (fun s13 =>
 if decide (s13.2 ≤ a4) = true then (
 ((rloop (σ := Unit) (fun i23 s22 =>
 (ix s13.1 i23).bind fun x29 =>
 (zdO a0 a1 x29.Heads).bind fun z30 =>
 if z30.2 = true then (
 some (.out (.inr (.out (.inr (s13.2, i23, true)))))) else (
 some (.go ()))) (fun s22 => .inl ()) (s13.1.length) 0 () : Option (Unit ⊕ (Stp ((List Reader) × Int) (Unit ⊕ (Int × Int × Bool))))).bind (Sum.elim (fun x21 =>
 (zcK s13.1 a3).bind fun z36 =>
 if (!z36.2) = true then (
 some (.out (.inr (0, 0, false)))) else (
 some (.go (z36.1, i64.wrap (s13.2 + 1))))) some))) else (
 some (.out (.inl ())))) (a2, 0) : Option (Unit ⊕ (Int × Int × Bool))).bind (Sum.elim (fun x12 =>
 some (0, 0, false)) some))))
theorem zeO : ∀ {a0} {a1} {a2} {a3} {a4} {r}, zbF a0 a1 a2 a3 a4 = some r → PCalls Tryz.prog 19 [(.sh, .agg [.int .i64 a0.P, .int .i64 a0.Q, .int .i64 a0.G]), (.sh, .sl false 1 (a1.map zaa)), (.sh, .sl false 1 (a2.map zae)), (.sh, .sl false 1 (a3.map zaf)), (.sh, .int .i64 a4)] (Eo (.tup [.int .i64 r.1, .int .i64 r.2.1, .bool r.2.2]) [.junk, .junk, .junk, .junk, .junk]) := by
 intro a0 a1 a2 a3 a4 r hr
 apply pF 68 [] [2] [] [.tmp 10, .tmp 11, .tmp 12] hr cl19 Tryz.func19
 intro Φ hΦ hF g
 unfold zbF at hF
 try simp [go_sem, g]
 refine pw_wk ?_
 repeat rw [sq]
 refine pJ hF (fun x3 => [(1, .v (.sl false 1 (a1.map zaa))), (2, .v (.sl false 1 (a2.map zae))), (3, .v (.sl false 1 (a3.map zaf))), (4, .v (.int .i64 a4)), (5, .bl [.int .i64 a0.P, .int .i64 a0.Q, .int .i64 a0.G]), (34, .v (.bool x3))]) (fun x3 hF => ?_) fun _ hj1 hF => ?_
 ·repeat rw [sq]
  refine pI hF (fun h9 hF => ?_) (fun h9 hF => ?_)
  ·cases hΦ _ (Rn_some hF)
   try simp [go_sem, g]
   refine pw_wk ?_
   try simp [go_sem, g]
  ·iterate 2 (try simp [go_sem, g]; refine pw_wk ?_)
   repeat rw [sq]
   refine pJs hF (fun x12 => []) (fun x12 hF => ?_) fun _ hj10 hr11 hF => ?_
   ·cases hΦ _ (Rn_some hF)
    try simp [go_sem, g]
    refine pw_wk ?_
    try simp [go_sem, g]
   ·repeat rw [sq]
    rw [pw_block]
    obtain ⟨b38, hb39, hψ17⟩ := hF
    refine pL hb39 (fun s13 => [(1, .v (.sl false 1 (a1.map zaa))), (2, .v (.sl false 1 (s13.1.map zae))), (3, .v (.sl false 1 (a3.map zaf))), (4, .v (.int .i64 a4)), (5, .bl [.int .i64 a0.P, .int .i64 a0.Q, .int .i64 a0.G]), (13, .v (.int .i64 s13.2))]) (fun s13 _ _ ho15 hg16 hF => ?_)
    try simp [go_sem, g]
    refine pw_wk ?_
    repeat rw [sq]
    refine pI hF (fun h18 hF => ?_) (fun h18 hF => ?_)
    ·try simp [go_sem, g]
     refine pw_wk ?_
     repeat rw [sq]
     rw [pw_block]
     try simp [go_sem, g]
     try intros
     refine pw_wkK [1, 2, 3, 4, 5, 13, 40, 41, 42] (by simp [go_sem, g]; rfl) ?_
     repeat rw [sq]
     refine pJs hF (fun x21 => [(1, .v (.sl false 1 (a1.map zaa))), (2, .v (.sl false 1 (s13.1.map zae))), (3, .v (.sl false 1 (a3.map zaf))), (4, .v (.int .i64 a4)), (5, .bl [.int .i64 a0.P, .int .i64 a0.Q, .int .i64 a0.G]), (13, .v (.int .i64 s13.2))]) (fun x21 hF => ?_) fun _ hj19 hr20 hF => ?_
     ·try simp [go_sem, g]
      refine pC hF [.sh, .sh] ze7 (fun z36 hF => ?_)
      try simp [go_sem, g]
      refine pw_wk ?_
      try simp [go_sem, g]
      refine pw_wkK [1, 3, 4, 5, 13, 18, 66] (by simp [go_sem, g]; rfl) ?_
      repeat rw [sq]
      refine pI hF (fun h37 hF => ?_) (fun h37 hF => ?_)
      ·cases ho15 _ (Rn_some hF)
       cases hΦ _ (hr11 _ hψ17)
       try simp [go_sem, g]
       refine pw_wk ?_
       try simp [go_sem, g]
      ·iterate 2 (try simp [go_sem, g]; refine pw_wk ?_)
       try simp [go_sem, g]
       exact pT (hg16 (z36.1, i64.wrap (s13.2 + 1))) (Rn_some hF)
     ·repeat rw [sq]
      rw [pw_block]
      obtain ⟨b32, hb33, hψ26⟩ := hF
      refine pR hb33 (fun i23 s22 => [(1, .v (.sl false 1 (a1.map zaa))), (2, .v (.sl false 1 (s13.1.map zae))), (3, .v (.sl false 1 (a3.map zaf))), (4, .v (.int .i64 a4)), (5, .bl [.int .i64 a0.P, .int .i64 a0.Q, .int .i64 a0.G]), (13, .v (.int .i64 s13.2)), (40, .v (.sl false 1 (s13.1.map zae))), (41, .v (.int .i64 (s13.1.length : Int))), (42, .v (.int .i64 i23))]) (fun s22 _ hN34 => ?_) (fun i23 s22 _ _ hi27 hi28 ho24 hg25 hF => ?_)
      ·subst hN34
       try simp [go_sem]
       refine pw_wk ?_
       repeat rw [sq]
       refine pw_cond_f (by simp [go_sem]) ?_
       try simp [go_sem]
       exact pT (hj19 ()) hψ26 (by simp [go_sem])
      ·try simp [go_sem, g]
       refine pw_wk ?_
       repeat rw [sq]
       refine pw_cond_t (by simp [go_sem, g, hi27, hi28]) ?_
       try simp [go_sem, g]
       refine pw_wk ?_
       repeat rw [sq]
       rw [pw_block]
       obtain ⟨x29, g, hF⟩ := Rx g hF
       try simp [go_sem, g]
       refine pw_wk ?_
       try simp [go_sem, g]
       refine pC hF [.sh, .sh, .sh] zgW (fun z30 hF => ?_)
       try simp [go_sem, g]
       refine pw_wkK [1, 2, 3, 4, 5, 13, 14, 17, 40, 41, 42] (by simp [go_sem, g]; rfl) ?_
       try simp [go_sem, g]
       refine pw_wk ?_
       repeat rw [sq]
       refine pI hF (fun h31 hF => ?_) (fun h31 hF => ?_)
       ·cases ho24 _ (Rn_some hF)
        cases ho15 _ (hr20 _ hψ26)
        cases hΦ _ (hr11 _ hψ17)
        try simp [go_sem, g]
        refine pw_wk ?_
        try simp [go_sem, g]
       ·try simp [go_sem, g]
        refine pw_wk ?_
        try simp [go_sem, g]
        exact pT (hg25 ()) (Rn_some hF) (by simp [go_sem, g, wr_i hi27 hi28 (by assumption)])
    ·try simp [go_sem, g]
     cases ho15 _ (Rn_some hF)
     exact pT (hj10 ()) hψ17
 ·try simp [go_sem, g]
  refine pC hF [.sh, .sh] zgK (fun z4 hF => ?_)
  try simp [go_sem, g]
  refine pwg_F hF (fun h5 hF => ?_) fun h5 hF => ?_
  ·try simp [go_sem, g, h5]
   exact pT (hj1 true) (Rn_some hF)
  ·try simp [go_sem, g, h5]
   refine pC hF [.sh, .sh] zeG (fun z6 hF => ?_)
   try simp [go_sem, g, h5]
   refine pwg_F hF (fun h7 hF => ?_) fun h7 hF => ?_
   ·try simp [go_sem, g, h7]
    exact pT (hj1 true) (Rn_some hF)
   ·try simp [go_sem, g, h7]
    refine pC hF [.sh, .sh, .sh] za5 (fun z8 hF => ?_)
    try simp [go_sem, g, h7]
    exact pT (hj1 (!z8)) (Rn_some hF)
noncomputable def zch (a0 : (List Int)) : Option (Int × (List (List Int)) × Int) :=
 (zaJ a0 0 0).bind fun z1 =>
 (zac z1.2.2.2.2.1 z1.2.2.2.2.2.1 z1.2.2.2.2.2.2 (i64.wrap ((z1.2.2.1.length : Int) + 1))).bind fun z2 =>
 (zac z2.2.1 z2.2.2.1 z2.2.2.2 20).bind fun z3 =>
 some ((z1.2.2.1.length : Int), z1.2.2.2.1, i64.wrap (z2.1 - (i64.wrap (z3.1.tdiv 19))))
theorem zfm : ∀ {a0} {r}, zch a0 = some r → PCalls Tryz.prog 20 [(.sh, .sl false 1 (a0.map zag))] (Eo (.tup [.int .i64 r.1, .sl true 1 (r.2.1.map zbz), .int .i64 r.2.2]) [.junk]) := by
 intro a0 r hr
 apply pF 32 [] [] [12] [.tmp 2, .tmp 3, .tmp 4] hr cl20 Tryz.func20
 intro Φ hΦ hF g
 unfold zch at hF
 iterate 2 (try simp [go_sem, g]; refine pw_wk ?_)
 try simp [go_sem, g]
 refine pC hF [.io] zcG (fun z1 hF => ?_)
 try simp [go_sem, g]
 refine pw_wkK [5, 8, 9] (by simp [go_sem, g]; rfl) ?_
 try simp [go_sem, g]
 try intros
 refine pC hF [.io, .sh] zab (fun z2 hF => ?_)
 try simp [go_sem, g]
 refine pC hF [.io, .sh] zab (fun z3 hF => ?_)
 have g := Ld g 19
 try simp [go_sem, g]
 refine pw_wkK [2, 3, 4] (by simp [go_sem, g]; rfl) ?_
 cases hΦ _ (Rn_some hF)
 try simp [go_sem, g]
def zjm : List DE := [d0 0 [8], d0 1 [10], d0 2 [57], d0 3 [58], d0 4 [8], d0 5 [10], d0 6 [61], d0 7 [62], d0 8 [11], d0 9 [11], d0 10 [56, 59], d0 11 [66, 64], d0 12 [60, 63], d0 13 [67, 65]]
noncomputable def zc0 (a0 : Int) (a1 : (List (List Int))) (a2 : Int) : Option ((List Int) × Bool) :=
 (((zap a0 1 8).bind fun z4 =>
 if (!z4) = true then (
 some true) else (
 (zbp a1 a0).bind fun z6 =>
 if (!z6) = true then (
 some true) else (
 (zap a2 0 (i64.wrap (a0 - 1))).bind fun z8 =>
 some (!z8))) : Option (Bool)).bind fun x3 =>
 if x3 = true then (
 some ([], false)) else (
 gd (0 ≤ a0 ∧ a0 ≤ a0 ∧ 1 * a0 ≤ 140737488355328 ∧ a0 ≤ 4611686018427387904) <|
 (some (List.replicate a0.toNat false)).bind fun x10 =>
 (ix x10 a2).bind fun x13 =>
 ((rloop (σ := (List Bool)) (fun i38 s37 =>
 (ix a1 i38).bind fun x44 =>
 (((ix x44 0).bind fun x48 =>
 (ix s37 x48).bind fun x49 =>
 if x49 = true then (
 some true) else (
 (ix x44 1).bind fun x51 =>
 (ix s37 x51).bind fun x52 =>
 some x52) : Option (Bool)).bind fun x47 =>
 (ix x44 0).bind fun x53 =>
 (ix x44 1).bind fun x54 =>
 (ix s37 x53).bind fun x55 =>
 (ix (s37.set x53.toNat x47) x54).bind fun x56 =>
 some (.go ((s37.set x53.toNat x47).set x54.toNat x47)))) (fun s37 => s37) (a1.length) 0 (x10.set a2.toNat true) : Option ((List Bool))).bind fun x16 =>
 ((rloop (σ := (List Int)) (fun i65 s64 =>
 (((ix x16 i65).bind fun x74 =>
 if x74 = true then (
 gd ((s64.length + 1) * 8 ≤ 140737488355328 ∧ s64.length + 1 ≤ 4611686018427387904) <|
 some (s64 ++ [i65])) else (
 some s64) : Option ((List Int))).bind fun x73 =>
 some (.go x73))) (fun s64 => s64) (x16.length) 0 [] : Option ((List Int))).bind fun x63 =>
 some (x63, true)))))
theorem zgu : ∀ {a0} {a1} {a2} {r}, zc0 a0 a1 a2 = some r → PCalls Tryz.prog 21 [(.sh, .int .i64 a0), (.sh, .sl false 1 (a1.map zaf)), (.sh, .int .i64 a2)] (Eo (.tup [.sl true 1 (r.1.map zaa), .bool r.2]) [.junk, .junk, .junk]) := by
 intro a0 a1 a2 r hr
 apply pF 84 [] [] [] [.tmp 6, .tmp 7] hr cl21 Tryz.func21
 intro Φ hΦ hF g
 unfold zc0 at hF
 try simp [go_sem, g]
 refine pw_wk ?_
 repeat rw [sq]
 refine pJ hF (fun x3 => [(0, .v (.int .i64 a0)), (1, .v (.sl false 1 (a1.map zaf))), (2, .v (.int .i64 a2)), (30, .v (.bool x3))]) (fun x3 hF => ?_) fun _ hj1 hF => ?_
 ·repeat rw [sq]
  refine pI hF (fun h9 hF => ?_) (fun h9 hF => ?_)
  ·cases hΦ _ (Rn_some hF)
   try simp [go_sem, g]
   refine pw_wk ?_
   try simp [go_sem, g]
  ·obtain ⟨g, hF⟩ := Rg g hF
   obtain ⟨x10, e11, hF⟩ := Rn_bind hF
   have g12 : List.replicate a0.toNat ([.bool false] : List PV) = x10.map zdo := by injection e11 with e11; rw [← e11]; simp [go_sem]
   obtain ⟨x13, g, hF⟩ := Rx g hF
   iterate 3 (try simp [go_sem, g, g12]; try intros; refine pw_wk ?_)
   try simp [go_sem, g, g12]
   try intros
   refine pw_wkK [8, 36, 37, 38] (by simp [go_sem, g]; rfl) ?_
   repeat rw [sq]
   refine pJ hF (fun x16 => [(8, .v (.sl true 1 (x16.map zdo)))]) (fun x16 hF => ?_) fun _ hj14 hF => ?_
   ·iterate 2 (try simp [go_sem, g]; try intros; refine pw_wk ?_)
    repeat rw [sq]
    refine pJ hF (fun x63 => [(12, .v (.sl true 1 (x63.map zaa)))]) (fun x63 hF => ?_) fun _ hj61 hF => ?_
    ·cases hΦ _ (Rn_some hF)
     try simp [go_sem, g]
     refine pw_wk ?_
     try simp [go_sem, g]
    ·repeat rw [sq]
     rw [pw_block]
     obtain ⟨b76, hb77, hψ68⟩ := hF
     refine pR hb77 (fun i65 s64 => [(8, .v (.sl true 1 (x16.map zdo))), (12, .v (.sl true 1 (s64.map zaa))), (70, .rf 8 []), (71, .v (.int .i64 (x16.length : Int))), (72, .v (.int .i64 i65))]) (fun s64 _ hN78 => ?_) (fun i65 s64 _ _ hi69 hi70 ho66 hg67 hF => ?_)
     ·subst hN78
      try simp [go_sem]
      refine pw_wk ?_
      repeat rw [sq]
      refine pw_cond_f (by simp [go_sem]) ?_
      try simp [go_sem]
      exact pT (hj61 s64) hψ68 (by simp [go_sem])
     ·try simp [go_sem, g]
      refine pw_wk ?_
      repeat rw [sq]
      refine pw_cond_t (by simp [go_sem, g, hi69, hi70]) ?_
      try simp [go_sem, g]
      refine pw_wk ?_
      repeat rw [sq]
      refine pJ hF (fun x73 => [(8, .v (.sl true 1 (x16.map zdo))), (12, .v (.sl true 1 (x73.map zaa))), (70, .rf 8 []), (71, .v (.int .i64 (x16.length : Int))), (72, .v (.int .i64 i65))]) (fun x73 hF => ?_) fun _ hj71 hF => ?_
      ·try simp [go_sem, g]
       exact pT (hg67 x73) (Rn_some hF) (by simp [go_sem, g, wr_i hi69 hi70 (by assumption)])
      ·repeat rw [sq]
       rw [pw_block]
       obtain ⟨x74, g, hF⟩ := Rx g hF
       try simp [go_sem, g]
       refine pw_wkK [8, 12, 13, 14, 70, 71, 72] (by simp [go_sem, g]; rfl) ?_
       try simp [go_sem, g]
       refine pw_wk ?_
       repeat rw [sq]
       refine pI hF (fun h75 hF => ?_) (fun h75 hF => ?_)
       ·obtain ⟨g, hF⟩ := Rg g hF
        try simp [go_sem, g]
        exact pT (hj71 (s64 ++ [i65])) (Rn_some hF)
       ·try simp [go_sem, g]
        first | exact pT (hj71 s64) (Rn_some hF) | exact pT (hj71 _) (Rn_some hF)
   ·repeat rw [sq]
    rw [pw_block]
    obtain ⟨b57, hb58, hψ41⟩ := hF
    refine pR hb58 (fun i38 s37 => [(8, .v (.sl true 1 (s37.map zdo))), (36, .v (.sl false 1 (a1.map zaf))), (37, .v (.int .i64 (a1.length : Int))), (38, .v (.int .i64 i38))]) (fun s37 _ hN59 => ?_) (fun i38 s37 _ _ hi42 hi43 ho39 hg40 hF => ?_)
    ·subst hN59
     try simp [go_sem]
     refine pw_wk ?_
     repeat rw [sq]
     refine pw_cond_f (by simp [go_sem]) ?_
     try simp [go_sem]
     exact pT (hj14 s37) hψ41 (by simp [go_sem])
    ·try simp [go_sem, g]
     refine pw_wk ?_
     repeat rw [sq]
     refine pw_cond_t (by simp [go_sem, g, hi42, hi43]) ?_
     try simp [go_sem, g]
     refine pw_wk ?_
     repeat rw [sq]
     rw [pw_block]
     obtain ⟨x44, g, hF⟩ := Rx g hF
     try simp [go_sem, g]
     refine pw_wk ?_
     repeat rw [sq]
     refine pJ hF (fun x47 => [(8, .v (.sl true 1 (s37.map zdo))), (10, .v (.sl false 1 (x44.map zaa))), (11, .v (.bool x47)), (36, .v (.sl false 1 (a1.map zaf))), (37, .v (.int .i64 (a1.length : Int))), (38, .v (.int .i64 i38))]) (fun x47 hF => ?_) fun _ hj45 hF => ?_
     ·repeat rw [sq]
      refine pw_draw zjm follows (by kernel_rfl) rfl ?_
      try simp only [go_sem, zjm]
      obtain ⟨x53, g, hF⟩ := Rxn g 0 hF
      obtain ⟨x54, g, hF⟩ := Rxn g 1 hF
      obtain ⟨x55, g, hF⟩ := Rx g hF
      obtain ⟨x56, g, hF⟩ := Rx g hF
      try simp only [List.length_set] at g
      try simp [go_sem, g]
      refine pw_wkK [8, 36, 37, 38] (by simp [go_sem, g]; rfl) ?_
      try simp [go_sem, g]
      exact pT (hg40 ((s37.set x53.toNat x47).set x54.toNat x47)) (Rn_some hF) (by simp [go_sem, g, wr_i hi42 hi43 (by assumption)])
     ·obtain ⟨x48, g, hF⟩ := Rxn g 0 hF
      obtain ⟨x49, g, hF⟩ := Rx g hF
      try simp [go_sem, g]
      refine pwg_F hF (fun h50 hF => ?_) fun h50 hF => ?_
      ·try simp [go_sem, g, h50]
       exact pT (hj45 true) (Rn_some hF)
      ·obtain ⟨x51, g, hF⟩ := Rxn g 1 hF
       obtain ⟨x52, g, hF⟩ := Rx g hF
       try simp [go_sem, g, h50]
       exact pT (hj45 x52) (Rn_some hF)
 ·try simp [go_sem, g]
  refine pC hF [.sh, .sh, .sh] zaH (fun z4 hF => ?_)
  try simp [go_sem, g]
  refine pwg_F hF (fun h5 hF => ?_) fun h5 hF => ?_
  ·try simp [go_sem, g, h5]
   exact pT (hj1 true) (Rn_some hF)
  ·try simp [go_sem, g, h5]
   refine pC hF [.sh, .sh] zdL (fun z6 hF => ?_)
   try simp [go_sem, g, h5]
   refine pwg_F hF (fun h7 hF => ?_) fun h7 hF => ?_
   ·try simp [go_sem, g, h7]
    exact pT (hj1 true) (Rn_some hF)
   ·try simp [go_sem, g, h7]
    refine pC hF [.sh, .sh, .sh] zaH (fun z8 hF => ?_)
    try simp [go_sem, g, h7]
    exact pT (hj1 (!z8)) (Rn_some hF)
noncomputable def zci (a0 : (List Int)) (a1 : Int) : Option (Bool) :=
 ((rloop (σ := Unit) (fun i5 s4 =>
 (ix a0 i5).bind fun x11 =>
 if (x11 == a1) = true then (
 some (.out (.inr true))) else (
 some (.go ()))) (fun s4 => .inl ()) (a0.length) 0 () : Option (Unit ⊕ Bool)).bind (Sum.elim (fun x3 =>
 some false) some))
theorem zfi : ∀ {a0} {a1} {r}, zci a0 a1 = some r → PCalls Tryz.prog 52 [(.sh, .sl false 1 (a0.map zaa)), (.sh, .int .i64 a1)] (Eo (.bool r) [.junk, .junk]) := by
 intro a0 a1 r hr
 apply pF 17 [] [] [] [.tmp 4] hr cl52 Tryz.func52
 intro Φ hΦ hF g
 unfold zci at hF
 iterate 2 (try simp [go_sem, g]; try intros; refine pw_wk ?_)
 repeat rw [sq]
 refine pJs hF (fun x3 => []) (fun x3 hF => ?_) fun _ hj1 hr2 hF => ?_
 ·cases hΦ _ (Rn_some hF)
  try simp [go_sem, g]
  refine pw_wk ?_
  try simp [go_sem, g]
 ·repeat rw [sq]
  rw [pw_block]
  obtain ⟨b13, hb14, hψ8⟩ := hF
  refine pR hb14 (fun i5 s4 => [(1, .v (.int .i64 a1)), (7, .v (.sl false 1 (a0.map zaa))), (8, .v (.int .i64 (a0.length : Int))), (9, .v (.int .i64 i5))]) (fun s4 _ hN15 => ?_) (fun i5 s4 _ _ hi9 hi10 ho6 hg7 hF => ?_)
  ·subst hN15
   try simp [go_sem]
   refine pw_wk ?_
   repeat rw [sq]
   refine pw_cond_f (by simp [go_sem]) ?_
   try simp [go_sem]
   exact pT (hj1 ()) hψ8 (by simp [go_sem])
  ·try simp [go_sem, g]
   refine pw_wk ?_
   repeat rw [sq]
   refine pw_cond_t (by simp [go_sem, g, hi9, hi10]) ?_
   try simp [go_sem, g]
   refine pw_wk ?_
   repeat rw [sq]
   rw [pw_block]
   obtain ⟨x11, g, hF⟩ := Rx g hF
   try simp [go_sem, g]
   refine pw_wk ?_
   try simp [go_sem, g]
   refine pw_wkK [1, 7, 8, 9, 15] (by simp [go_sem, g]; rfl) ?_
   repeat rw [sq]
   refine pI hF (fun h12 hF => ?_) (fun h12 hF => ?_)
   ·cases ho6 _ (Rn_some hF)
    cases hΦ _ (hr2 _ hψ8)
    try simp [go_sem, g]
    refine pw_wk ?_
    try simp [go_sem, g]
   ·try simp [go_sem, g]
    refine pw_wk ?_
    try simp [go_sem, g]
    exact pT (hg7 ()) (Rn_some hF) (by simp [go_sem, g, wr_i hi9 hi10 (by assumption)])
noncomputable def zcg (a0 : (List Int)) (a1 : Int) : Option ((List Int)) :=
 ((wloop (σ := Int) (fun s4 =>
 ((if decide (s4 < (a0.length : Int)) = true then (
 (ix a0 s4).bind fun x13 =>
 some (decide (x13 < a1))) else (
 some false) : Option (Bool)).bind fun x11 =>
 if x11 = true then (
 some (.go (i64.wrap (s4 + 1)))) else (
 some (.out s4)))) 0 : Option (Int)).bind fun x3 =>
 ((if decide (x3 < (a0.length : Int)) = true then (
 (ix a0 x3).bind fun x21 =>
 some (x21 == a1)) else (
 some false) : Option (Bool)).bind fun x19 =>
 if x19 = true then (
 some a0) else (
 gd (0 ≤ x3) <|
 gd (0 ≤ x3.toNat ∧ x3.toNat ≤ a0.length) <|
 gd ((((a0.take x3.toNat).drop 0).length) * 8 ≤ 140737488355328 ∧ ((a0.take x3.toNat).drop 0).length ≤ 4611686018427387904) <|
 gd ((((a0.take x3.toNat).drop 0).length + 1) * 8 ≤ 140737488355328 ∧ ((a0.take x3.toNat).drop 0).length + 1 ≤ 4611686018427387904) <|
 gd (0 ≤ x3) <|
 gd (x3.toNat ≤ a0.length ∧ a0.length ≤ a0.length) <|
 gd ((((a0.take x3.toNat).drop 0 ++ [a1]).length + ((a0.take a0.length).drop x3.toNat).length) * 8 ≤ 140737488355328 ∧ ((a0.take x3.toNat).drop 0 ++ [a1]).length + ((a0.take a0.length).drop x3.toNat).length ≤ 4611686018427387904) <|
 some ((a0.take x3.toNat).drop 0 ++ [a1] ++ (a0.take a0.length).drop x3.toNat))))
theorem zfn : ∀ {a0} {a1} {r}, zcg a0 a1 = some r → PCalls Tryz.prog 53 [(.sh, .sl false 1 (a0.map zaa)), (.sh, .int .i64 a1)] (Eo (.sl false 1 (r.map zaa)) [.junk, .junk]) := by
 intro a0 a1 r hr
 apply pF 48 [] [4] [] [.tmp 4] hr cl53 Tryz.func53
 intro Φ hΦ hF g
 unfold zcg at hF
 iterate 2 (try simp [go_sem, g]; refine pw_wk ?_)
 repeat rw [sq]
 refine pJ hF (fun x3 => [(0, .v (.sl false 1 (a0.map zaa))), (1, .v (.int .i64 a1)), (5, .v (.int .i64 x3))]) (fun x3 hF => ?_) fun _ hj1 hF => ?_
 ·repeat rw [sq]
  refine pJ hF (fun x19 => [(0, .v (.sl false 1 (a0.map zaa))), (1, .v (.int .i64 a1)), (5, .v (.int .i64 x3)), (32, .v (.bool x19))]) (fun x19 hF => ?_) fun _ hj17 hF => ?_
  ·repeat rw [sq]
   refine pI hF (fun h22 hF => ?_) (fun h22 hF => ?_)
   ·cases hΦ _ (Rn_some hF)
    try simp [go_sem, g]
    refine pw_wk ?_
    try simp [go_sem, g]
   ·obtain ⟨g, hF⟩ := Rg g hF
    obtain ⟨g, hF⟩ := Rg g hF
    obtain ⟨g, hF⟩ := Rg g hF
    have w := g.1.2
    try simp [g.1.1] at w
    try have g := And.intro g w
    obtain ⟨g, hF⟩ := Rg g hF
    have w := g.1.2
    try simp [g.1.1] at w
    try have g := And.intro g w
    iterate 2 (try simp [go_sem, g]; refine pw_wk ?_)
    try simp [go_sem, g]
    refine pw_wkK [0, 5, 6] (by simp [go_sem, g]; rfl) ?_
    obtain ⟨g, hF⟩ := Rg g hF
    obtain ⟨g, hF⟩ := Rg g hF
    obtain ⟨g, hF⟩ := Rg g hF
    have w := g.1.2
    try simp [g.1.1] at w
    try have g := And.intro g w
    cases hΦ _ (Rn_some hF)
    try simp [go_sem, g]
    refine pw_wk ?_
    try simp [go_sem, g]
  ·try simp [go_sem, g]
   try intros
   refine pwg_F hF (fun h20 hF => ?_) fun h20 hF => ?_
   ·obtain ⟨x21, g, hF⟩ := Rx g hF
    try simp [go_sem, g, h20]
    exact pT (hj17 (x21 == a1)) (Rn_some hF)
   ·try simp [go_sem, g, h20]
    exact pT (hj17 false) (Rn_some hF)
 ·repeat rw [sq]
  rw [pw_block]
  obtain ⟨b15, hb16, hψ8⟩ := hF
  refine pL hb16 (fun s4 => [(0, .v (.sl false 1 (a0.map zaa))), (1, .v (.int .i64 a1)), (5, .v (.int .i64 s4))]) (fun s4 _ _ ho6 hg7 hF => ?_)
  repeat rw [sq]
  refine pJ hF (fun x11 => [(0, .v (.sl false 1 (a0.map zaa))), (1, .v (.int .i64 a1)), (5, .v (.int .i64 s4)), (18, .v (.bool x11))]) (fun x11 hF => ?_) fun _ hj9 hF => ?_
  ·repeat rw [sq]
   refine pI hF (fun h14 hF => ?_) (fun h14 hF => ?_)
   ·try simp [go_sem, g]
    refine pw_wk ?_
    repeat rw [sq]
    rw [pw_block]
    try simp [go_sem, g]
    exact pT (hg7 (i64.wrap (s4 + 1))) (Rn_some hF)
   ·try simp [go_sem, g]
    cases ho6 _ (Rn_some hF)
    first | exact pT (hj1 s4) hψ8 | exact pT (hj1 _) hψ8
  ·try simp [go_sem, g]
   try intros
   refine pwg_F hF (fun h12 hF => ?_) fun h12 hF => ?_
   ·obtain ⟨x13, g, hF⟩ := Rx g hF
    try simp [go_sem, g, h12]
    exact pT (hj9 (decide (x13 < a1))) (Rn_some hF)
   ·try simp [go_sem, g, h12]
    exact pT (hj9 false) (Rn_some hF)
def zjv : List DE := [d0 0 [8], d0 1 [10], d0 2 [48], d0 3 [49], d0 5 [10], d0 6 [52], d0 7 [53], ⟨4, [47, 50], [], none, false, true, false⟩, d3 8 [51, 54], d0 9 [55]]
noncomputable def zc2 (a0 : Int) (a1 : (List (List Int))) (a2 : Int) : Option ((List Int) × Bool) :=
 (((zaC a0 1 8).bind fun z4 =>
 if (!z4) = true then (
 some true) else (
 (zcL a0 a1).bind fun z6 =>
 if (!z6) = true then (
 some true) else (
 (zaC a2 0 (i64.wrap (a0 - 1))).bind fun z8 =>
 some (!z8))) : Option (Bool)).bind fun x3 =>
 if x3 = true then (
 some ([], false)) else (
 ((rloop (σ := (List Int)) (fun i14 s13 =>
 (((ix a1 i14).bind fun x23 =>
 (((ix x23 0).bind fun x27 =>
 (zci s13 x27).bind fun z28 =>
 if z28 = true then (
 some true) else (
 (ix x23 1).bind fun x30 =>
 (zci s13 x30).bind fun z31 =>
 some z31) : Option (Bool)).bind fun x26 =>
 if x26 = true then (
 (ix x23 0).bind fun x33 =>
 (ix x23 1).bind fun x34 =>
 (zcg s13 x33).bind fun z35 =>
 (zcg z35 x34).bind fun z36 =>
 some z36) else (
 some s13)) : Option ((List Int))).bind fun x22 =>
 some (.go x22))) (fun s13 => s13) (a1.length) 0 [a2] : Option ((List Int))).bind fun x12 =>
 some (x12, true))))
theorem zgs : ∀ {a0} {a1} {a2} {r}, zc2 a0 a1 a2 = some r → PCalls Tryz.prog 22 [(.sh, .int .i64 a0), (.sh, .sl false 1 (a1.map zaf)), (.sh, .int .i64 a2)] (Eo (.tup [.sl false 1 (r.1.map zaa), .bool r.2]) [.junk, .junk, .junk]) := by
 intro a0 a1 a2 r hr
 apply pF 58 [] [6, 8, 47] [] [.tmp 6, .tmp 7] hr cl22 Tryz.func22
 intro Φ hΦ hF g
 unfold zc2 at hF
 try simp [go_sem, g]
 refine pw_wk ?_
 repeat rw [sq]
 refine pJ hF (fun x3 => [(1, .v (.sl false 1 (a1.map zaf))), (2, .v (.int .i64 a2)), (26, .v (.bool x3))]) (fun x3 hF => ?_) fun _ hj1 hF => ?_
 ·repeat rw [sq]
  refine pI hF (fun h9 hF => ?_) (fun h9 hF => ?_)
  ·cases hΦ _ (Rn_some hF)
   try simp [go_sem, g]
   refine pw_wk ?_
   try simp [go_sem, g]
  ·iterate 3 (try simp [go_sem, g]; try intros; refine pw_wk ?_)
   repeat rw [sq]
   refine pJ hF (fun x12 => [(8, .v (.sl false 1 (x12.map zaa)))]) (fun x12 hF => ?_) fun _ hj10 hF => ?_
   ·try simp [go_sem, g]
    refine pw_wkK [6, 7] (by simp [go_sem, g]; rfl) ?_
    cases hΦ _ (Rn_some hF)
    try simp [go_sem, g]
   ·repeat rw [sq]
    rw [pw_block]
    obtain ⟨b37, hb38, hψ17⟩ := hF
    refine pR hb38 (fun i14 s13 => [(8, .v (.sl false 1 (s13.map zaa))), (29, .v (.sl false 1 (a1.map zaf))), (30, .v (.int .i64 (a1.length : Int))), (31, .v (.int .i64 i14))]) (fun s13 _ hN39 => ?_) (fun i14 s13 _ _ hi18 hi19 ho15 hg16 hF => ?_)
    ·subst hN39
     try simp [go_sem]
     refine pw_wk ?_
     repeat rw [sq]
     refine pw_cond_f (by simp [go_sem]) ?_
     try simp [go_sem]
     exact pT (hj10 s13) hψ17 (by simp [go_sem])
    ·try simp [go_sem, g]
     refine pw_wk ?_
     repeat rw [sq]
     refine pw_cond_t (by simp [go_sem, g, hi18, hi19]) ?_
     try simp [go_sem, g]
     refine pw_wk ?_
     repeat rw [sq]
     refine pJ hF (fun x22 => [(8, .v (.sl false 1 (x22.map zaa))), (29, .v (.sl false 1 (a1.map zaf))), (30, .v (.int .i64 (a1.length : Int))), (31, .v (.int .i64 i14))]) (fun x22 hF => ?_) fun _ hj20 hF => ?_
     ·try simp [go_sem, g]
      exact pT (hg16 x22) (Rn_some hF) (by simp [go_sem, g, wr_i hi18 hi19 (by assumption)])
     ·repeat rw [sq]
      rw [pw_block]
      obtain ⟨x23, g, hF⟩ := Rx g hF
      try simp [go_sem, g]
      refine pw_wkK [8, 10, 29, 30, 31] (by simp [go_sem, g]; rfl) ?_
      repeat rw [sq]
      refine pJ hF (fun x26 => [(8, .v (.sl false 1 (s13.map zaa))), (10, .v (.sl false 1 (x23.map zaa))), (29, .v (.sl false 1 (a1.map zaf))), (30, .v (.int .i64 (a1.length : Int))), (31, .v (.int .i64 i14)), (46, .v (.bool x26))]) (fun x26 hF => ?_) fun _ hj24 hF => ?_
      ·repeat rw [sq]
       refine pI hF (fun h32 hF => ?_) (fun h32 hF => ?_)
       ·repeat rw [sq]
        refine pw_draw zjv follows (by kernel_rfl) rfl ?_
        try simp only [go_sem, zjv]
        obtain ⟨x33, g, hF⟩ := Rxn g 0 hF
        obtain ⟨x34, g, hF⟩ := Rxn g 1 hF
        try simp [go_sem, g]
        refine pCD hF zfn (fun z35 hF => ?_)
        try simp [go_sem, g]
        refine pC hF [.sh, .sh] zfn (fun z36 hF => ?_)
        try simp [go_sem, g]
        exact pT (hj20 z36) (Rn_some hF)
       ·try simp [go_sem, g]
        first | exact pT (hj20 s13) (Rn_some hF) | exact pT (hj20 _) (Rn_some hF)
      ·obtain ⟨x27, g, hF⟩ := Rxn g 0 hF
       try simp [go_sem, g]
       refine pC hF [.sh, .sh] zfi (fun z28 hF => ?_)
       try simp [go_sem, g]
       refine pwg_F hF (fun h29 hF => ?_) fun h29 hF => ?_
       ·try simp [go_sem, g, h29]
        exact pT (hj24 true) (Rn_some hF)
       ·obtain ⟨x30, g, hF⟩ := Rxn g 1 hF
        try simp [go_sem, g, h29]
        refine pC hF [.sh, .sh] zfi (fun z31 hF => ?_)
        try simp [go_sem, g, h29]
        exact pT (hj24 z31) (Rn_some hF)
 ·try simp [go_sem, g]
  refine pC hF [.sh, .sh, .sh] za5 (fun z4 hF => ?_)
  try simp [go_sem, g]
  refine pwg_F hF (fun h5 hF => ?_) fun h5 hF => ?_
  ·try simp [go_sem, g, h5]
   exact pT (hj1 true) (Rn_some hF)
  ·try simp [go_sem, g, h5]
   refine pC hF [.sh, .sh] ze8 (fun z6 hF => ?_)
   try simp [go_sem, g, h5]
   refine pwg_F hF (fun h7 hF => ?_) fun h7 hF => ?_
   ·try simp [go_sem, g, h7]
    exact pT (hj1 true) (Rn_some hF)
   ·try simp [go_sem, g, h7]
    refine pC hF [.sh, .sh, .sh] za5 (fun z8 hF => ?_)
    try simp [go_sem, g, h7]
    exact pT (hj1 (!z8)) (Rn_some hF)
def zjd : List DE := [d0 0 [0], d0 1 [5], d0 2 [16, 17], d0 3 [18], d0 4 [1], d0 5 [5], d0 6 [20, 21], d0 7 [22], d0 8 [19, 23]]
noncomputable def zcO (a0 : (List Int)) (a1 : (List Int)) : Option (Bool) :=
 if ((a0.length : Int) != (a1.length : Int)) = true then (
 some false) else (
 ((rloop (σ := Unit) (fun i6 s5 =>
 (ix a0 i6).bind fun x12 =>
 (ix a1 i6).bind fun x13 =>
 if (x12 != x13) = true then (
 some (.out (.inr false))) else (
 some (.go ()))) (fun s5 => .inl ()) (a0.length) 0 () : Option (Unit ⊕ Bool)).bind (Sum.elim (fun x4 =>
 some true) some)))
theorem zgf : ∀ {a0} {a1} {r}, zcO a0 a1 = some r → PCalls Tryz.prog 23 [(.sh, .sl false 1 (a0.map zaa)), (.sh, .sl false 1 (a1.map zaa))] (Eo (.bool r) [.junk, .junk]) := by
 intro a0 a1 r hr
 apply pF 26 [] [] [] [.tmp 4] hr cl23 Tryz.func23
 intro Φ hΦ hF g
 unfold zcO at hF
 iterate 2 (try simp [go_sem, g]; try intros; refine pw_wk ?_)
 repeat rw [sq]
 refine pI hF (fun h1 hF => ?_) (fun h1 hF => ?_)
 ·cases hΦ _ (Rn_some hF)
  try simp [go_sem, g]
  refine pw_wk ?_
  try simp [go_sem, g]
 ·iterate 2 (try simp [go_sem, g]; try intros; refine pw_wk ?_)
  repeat rw [sq]
  refine pJs hF (fun x4 => []) (fun x4 hF => ?_) fun _ hj2 hr3 hF => ?_
  ·try simp [go_sem, g]
   refine pw_wkK [4] (by simp [go_sem, g]; rfl) ?_
   cases hΦ _ (Rn_some hF)
   try simp [go_sem, g]
  ·repeat rw [sq]
   rw [pw_block]
   obtain ⟨b15, hb16, hψ9⟩ := hF
   refine pR hb16 (fun i6 s5 => [(0, .v (.sl false 1 (a0.map zaa))), (1, .v (.sl false 1 (a1.map zaa))), (12, .v (.int .i64 (a0.length : Int))), (13, .v (.int .i64 i6))]) (fun s5 _ hN17 => ?_) (fun i6 s5 _ _ hi10 hi11 ho7 hg8 hF => ?_)
   ·subst hN17
    try simp [go_sem]
    refine pw_wk ?_
    repeat rw [sq]
    refine pw_cond_f (by simp [go_sem]) ?_
    try simp [go_sem]
    exact pT (hj2 ()) hψ9 (by simp [go_sem])
   ·try simp [go_sem, g]
    refine pw_wkK [0, 1, 12, 13, 14] (by simp [go_sem, g]; rfl) ?_
    repeat rw [sq]
    refine pw_cond_t (by simp [go_sem, g, hi10, hi11]) ?_
    try simp [go_sem, g]
    refine pw_wk ?_
    repeat rw [sq]
    rw [pw_block]
    try simp [go_sem, g]
    refine pw_wk ?_
    repeat rw [sq]
    refine pw_draw zjd follows (by kernel_rfl) rfl ?_
    try simp only [go_sem, zjd]
    obtain ⟨x12, g, hF⟩ := Rx g hF
    obtain ⟨x13, g, hF⟩ := Rx g hF
    try simp [go_sem, g]
    refine pw_wkK [0, 1, 12, 13, 24] (by simp [go_sem, g]; rfl) ?_
    repeat rw [sq]
    refine pI hF (fun h14 hF => ?_) (fun h14 hF => ?_)
    ·cases ho7 _ (Rn_some hF)
     cases hΦ _ (hr3 _ hψ9)
     try simp [go_sem, g]
     refine pw_wk ?_
     try simp [go_sem, g]
    ·try simp [go_sem, g]
     refine pw_wk ?_
     try simp [go_sem, g]
     exact pT (hg8 ()) (Rn_some hF) (by simp [go_sem, g, wr_i hi10 hi11 (by assumption)])
def zjx : List DE := [d0 0 [7], d0 1 [11], d0 2 [68, 69], d0 3 [70], d0 4 [71], d0 5 [72], d0 6 [9], d0 7 [11], d0 8 [74, 75], d0 9 [76], d0 10 [77], d0 11 [78], d0 12 [73, 79], d0 13 [80], d0 14 [7, 81], d0 15 [11, 81], d0 16 [82, 83, 81], d0 17 [84, 81], d0 18 [85, 81], d0 19 [86, 81], d0 20 [5, 81], d0 21 [11, 81], d0 22 [88, 89, 81], d0 23 [90, 81], d0 24 [91, 81], d0 25 [92, 81], d0 26 [87, 93, 81], d0 27 [81, 94]]
noncomputable def zcR (a0 : (List Int)) (a1 : (List Int)) : Option (Bool) :=
 (zem a0 a1).bind fun z1 =>
 if z1 = true then (
 some true) else (
 (zbx a0).bind fun z3 =>
 (zcb z3.1 z3.2).bind fun z4 =>
 (zcd z3.1 z3.2).bind fun z5 =>
 ((if (z4.2 != z5.2) = true then (
 some true) else (
 some ((z4.1.length : Int) != (z5.1.length : Int))) : Option (Bool)).bind fun x8 =>
 if x8 = true then (
 some false) else (
 ((rloop (σ := Unit) (fun i15 s14 =>
 (((ix z4.1 i15).bind fun x24 =>
 (ix z5.1 i15).bind fun x25 =>
 if ((x24.Heads.length : Int) != (x25.Heads.length : Int)) = true then (
 some true) else (
 (ix z3.1 i15).bind fun x27 =>
 some (decide ((x24.Heads.length : Int) < (x27.Heads.length : Int)))) : Option (Bool)).bind fun x23 =>
 if x23 = true then (
 some (.out (.inr false))) else (
 some (.go ())))) (fun s14 => .inl ()) (z5.1.length) 0 () : Option (Unit ⊕ Bool)).bind (Sum.elim (fun x13 =>
 (zbb a1).bind fun z33 =>
 (zbd z33.1 z33.2.1 z33.2.2.1 z33.2.2.2.1 z33.2.2.2.2).bind fun z34 =>
 (zbF z33.1 z33.2.1 z33.2.2.1 z33.2.2.2.1 z33.2.2.2.2).bind fun z35 =>
 ((if (z34.2.2 != z35.2.2) = true then (
 some true) else (
 if (z34.1 != z35.1) = true then (
 some true) else (
 some (z34.2.1 != z35.2.1))) : Option (Bool)).bind fun x38 =>
 if x38 = true then (
 some false) else (
 ((if z34.2.2 = true then (
 some (decide (0 < z34.1))) else (
 some false) : Option (Bool)).bind fun x44 =>
 ((if x44 = true then (
 (zbd z33.1 z33.2.1 z33.2.2.1 z33.2.2.2.1 (i64.wrap (z34.1 - 1))).bind fun z50 =>
 if z50.2.2 = true then (
 some (.inr false)) else (
 some (.inl ()))) else (
 some (.inl ())) : Option (Unit ⊕ Bool)).bind (Sum.elim (fun x48 =>
 (zch a1).bind fun z52 =>
 (zc0 z52.1 z52.2.1 z52.2.2).bind fun z53 =>
 (zc2 z52.1 z52.2.1 z52.2.2).bind fun z54 =>
 ((if (z53.2 == z54.2) = true then (
 (zcO z53.1 z54.1).bind fun z59 =>
 some z59) else (
 some false) : Option (Bool)).bind fun x57 =>
 some x57)) some)))))) some)))))
theorem zgc : ∀ {a0} {a1} {r}, zcR a0 a1 = some r → PCalls Tryz.prog 4 [(.sh, .sl false 1 (a0.map zag)), (.sh, .sl false 1 (a1.map zag))] (Eo (.bool r) [.junk, .junk]) := by
 intro a0 a1 r hr
 apply pF 183 [] [48, 49, 170] [] [.tmp 4] hr cl4 Tryz.func4
 intro Φ hΦ hF g
 unfold zcR at hF
 try simp [go_sem, g]
 refine pw_wk ?_
 try simp [go_sem, g]
 refine pC hF [.sh, .sh] zhP (fun z1 hF => ?_)
 try simp [go_sem, g]
 refine pw_wk ?_
 repeat rw [sq]
 refine pI hF (fun h2 hF => ?_) (fun h2 hF => ?_)
 ·cases hΦ _ (Rn_some hF)
  try simp [go_sem, g]
  refine pw_wk ?_
  try simp [go_sem, g]
 ·try simp [go_sem, g]
  refine pw_wk ?_
  try simp [go_sem, g]
  refine pC hF [.sh] zeK (fun z3 hF => ?_)
  try simp [go_sem, g]
  refine pw_wkK [1, 5, 6] (by simp [go_sem, g]; rfl) ?_
  try simp [go_sem, g]
  refine pC hF [.sh, .sh] zfh (fun z4 hF => ?_)
  try simp [go_sem, g]
  refine pw_wk ?_
  try simp [go_sem, g]
  refine pC hF [.sh, .sh] zfo (fun z5 hF => ?_)
  try simp [go_sem, g]
  refine pw_wkK [1, 5, 7, 8, 9, 10] (by simp [go_sem, g]; rfl) ?_
  repeat rw [sq]
  refine pJ hF (fun x8 => [(1, .v (.sl false 1 (a1.map zag))), (5, .v (.sl false 1 (z3.1.map zae))), (7, .v (.sl true 1 (z4.1.map zaq))), (9, .v (.sl true 1 (z5.1.map zae))), (62, .v (.bool x8))]) (fun x8 hF => ?_) fun _ hj6 hF => ?_
  ·repeat rw [sq]
   refine pI hF (fun h10 hF => ?_) (fun h10 hF => ?_)
   ·cases hΦ _ (Rn_some hF)
    try simp [go_sem, g]
    refine pw_wk ?_
    try simp [go_sem, g]
   ·iterate 2 (try simp [go_sem, g]; try intros; refine pw_wk ?_)
    repeat rw [sq]
    refine pJs hF (fun x13 => [(1, .v (.sl false 1 (a1.map zag)))]) (fun x13 hF => ?_) fun _ hj11 hr12 hF => ?_
    ·try simp [go_sem, g]
     refine pC hF [.sh] zel (fun z33 hF => ?_)
     try simp [go_sem, g]
     refine pw_wkK [1, 12, 13, 14, 15, 16] (by simp [go_sem, g]; rfl) ?_
     try simp [go_sem, g]
     refine pC hF [.sh, .sh, .sh, .sh, .sh] zdE (fun z34 hF => ?_)
     try simp [go_sem, g]
     refine pw_wkK [1, 12, 13, 14, 15, 16, 17, 18, 19] (by simp [go_sem, g]; rfl) ?_
     try simp [go_sem, g]
     refine pC hF [.sh, .sh, .sh, .sh, .sh] zeO (fun z35 hF => ?_)
     try simp [go_sem, g]
     refine pw_wkK [1, 12, 13, 14, 15, 17, 18, 19, 20, 21, 22] (by simp [go_sem, g]; rfl) ?_
     repeat rw [sq]
     refine pJ hF (fun x38 => [(1, .v (.sl false 1 (a1.map zag))), (12, .bl [.int .i64 z33.1.P, .int .i64 z33.1.Q, .int .i64 z33.1.G]), (13, .v (.sl true 1 (z33.2.1.map zaa))), (14, .v (.sl true 1 (z33.2.2.1.map zaB))), (15, .v (.sl true 1 (z33.2.2.2.1.map zbz))), (17, .v (.int .i64 z34.1)), (19, .v (.bool z34.2.2)), (137, .v (.bool x38))]) (fun x38 hF => ?_) fun _ hj36 hF => ?_
     ·repeat rw [sq]
      refine pI hF (fun h41 hF => ?_) (fun h41 hF => ?_)
      ·cases hΦ _ (Rn_some hF)
       try simp [go_sem, g]
       refine pw_wk ?_
       try simp [go_sem, g]
      ·try simp [go_sem, g]
       refine pw_wk ?_
       repeat rw [sq]
       refine pJ hF (fun x44 => [(1, .v (.sl false 1 (a1.map zag))), (12, .bl [.int .i64 z33.1.P, .int .i64 z33.1.Q, .int .i64 z33.1.G]), (13, .v (.sl true 1 (z33.2.1.map zaa))), (14, .v (.sl true 1 (z33.2.2.1.map zaB))), (15, .v (.sl true 1 (z33.2.2.2.1.map zbz))), (17, .v (.int .i64 z34.1)), (142, .v (.bool x44))]) (fun x44 hF => ?_) fun _ hj42 hF => ?_
       ·repeat rw [sq]
        refine pJs hF (fun x48 => [(1, .v (.sl false 1 (a1.map zag)))]) (fun x48 hF => ?_) fun _ hj46 hr47 hF => ?_
        ·try simp [go_sem, g]
         refine pC hF [.sh] zfm (fun z52 hF => ?_)
         try simp [go_sem, g]
         refine pw_wk ?_
         try simp [go_sem, g]
         refine pC hF [.sh, .sh, .sh] zgu (fun z53 hF => ?_)
         try simp [go_sem, g]
         refine pw_wkK [26, 27, 28, 29, 30] (by simp [go_sem, g]; rfl) ?_
         try simp [go_sem, g]
         refine pC hF [.sh, .sh, .sh] zgs (fun z54 hF => ?_)
         try simp [go_sem, g]
         refine pw_wk ?_
         repeat rw [sq]
         refine pJ hF (fun x57 => [(4, .v (.bool x57))]) (fun x57 hF => ?_) fun _ hj55 hF => ?_
         ·cases hΦ _ (Rn_some hF)
          try simp [go_sem, g]
         ·try simp [go_sem, g]
          refine pwg_F hF (fun h58 hF => ?_) fun h58 hF => ?_
          ·try simp [go_sem, g, h58]
           refine pC hF [.sh, .sh] zgf (fun z59 hF => ?_)
           try simp [go_sem, g, h58]
           exact pT (hj55 z59) (Rn_some hF)
          ·try simp [go_sem, g, h58]
           exact pT (hj55 false) (Rn_some hF)
        ·repeat rw [sq]
         refine pI hF (fun h49 hF => ?_) (fun h49 hF => ?_)
         ·try simp [go_sem, g]
          refine pC hF [.sh, .sh, .sh, .sh, .sh] zdE (fun z50 hF => ?_)
          try simp [go_sem, g]
          refine pw_wkK [1, 25] (by simp [go_sem, g]; rfl) ?_
          try simp [go_sem, g]
          refine pw_wk ?_
          repeat rw [sq]
          refine pI hF (fun h51 hF => ?_) (fun h51 hF => ?_)
          ·cases hΦ _ (hr47 _ (Rn_some hF))
           try simp [go_sem, g]
           refine pw_wk ?_
           try simp [go_sem, g]
          ·try simp [go_sem, g]
           exact pT (hj46 ()) (Rn_some hF)
         ·try simp [go_sem, g]
          exact pT (hj46 ()) (Rn_some hF)
       ·try simp [go_sem, g]
        refine pwg_F hF (fun h45 hF => ?_) fun h45 hF => ?_
        ·try simp [go_sem, g, h45]
         exact pT (hj42 (decide (0 < z34.1))) (Rn_some hF)
        ·try simp [go_sem, g, h45]
         exact pT (hj42 false) (Rn_some hF)
     ·try simp [go_sem, g]
      refine pwg_F hF (fun h39 hF => ?_) fun h39 hF => ?_
      ·try simp [go_sem, g, h39]
       exact pT (hj36 true) (Rn_some hF)
      ·try simp [go_sem, g, h39]
       refine pwg_F hF (fun h40 hF => ?_) fun h40 hF => ?_
       ·try simp [go_sem, g, h40]
        exact pT (hj36 true) (Rn_some hF)
       ·try simp [go_sem, g, h40]
        exact pT (hj36 (z34.2.1 != z35.2.1)) (Rn_some hF)
    ·repeat rw [sq]
     rw [pw_block]
     obtain ⟨b29, hb30, hψ18⟩ := hF
     refine pR hb30 (fun i15 s14 => [(1, .v (.sl false 1 (a1.map zag))), (5, .v (.sl false 1 (z3.1.map zae))), (7, .v (.sl true 1 (z4.1.map zaq))), (9, .v (.sl true 1 (z5.1.map zae))), (64, .v (.int .i64 (z5.1.length : Int))), (65, .v (.int .i64 i15))]) (fun s14 _ hN31 => ?_) (fun i15 s14 _ _ hi19 hi20 ho16 hg17 hF => ?_)
     ·subst hN31
      try simp [go_sem]
      refine pw_wk ?_
      repeat rw [sq]
      refine pw_cond_f (by simp [go_sem]) ?_
      try simp [go_sem]
      exact pT (hj11 ()) hψ18 (by simp [go_sem])
     ·try simp [go_sem, g]
      refine pw_wk ?_
      repeat rw [sq]
      refine pw_cond_t (by simp [go_sem, g, hi19, hi20]) ?_
      try simp [go_sem, g]
      refine pw_wk ?_
      repeat rw [sq]
      rw [pw_block]
      try simp [go_sem, g]
      refine pw_wk ?_
      repeat rw [sq]
      refine pJ hF (fun x23 => [(1, .v (.sl false 1 (a1.map zag))), (5, .v (.sl false 1 (z3.1.map zae))), (7, .v (.sl true 1 (z4.1.map zaq))), (9, .v (.sl true 1 (z5.1.map zae))), (64, .v (.int .i64 (z5.1.length : Int))), (65, .v (.int .i64 i15)), (95, .v (.bool x23))]) (fun x23 hF => ?_) fun _ hj21 hF => ?_
      ·repeat rw [sq]
       refine pI hF (fun h28 hF => ?_) (fun h28 hF => ?_)
       ·cases ho16 _ (Rn_some hF)
        cases hΦ _ (hr12 _ hψ18)
        try simp [go_sem, g]
        refine pw_wk ?_
        try simp [go_sem, g]
       ·try simp [go_sem, g]
        refine pw_wk ?_
        try simp [go_sem, g]
        exact pT (hg17 ()) (Rn_some hF) (by simp [go_sem, g, wr_i hi19 hi20 (by assumption)])
      ·repeat rw [sq]
       refine pw_draw zjx follows (by kernel_rfl) rfl ?_
       try simp only [go_sem, zjx]
       obtain ⟨x24, g, hF⟩ := Rx g hF
       obtain ⟨x25, g, hF⟩ := Rx g hF
       try simp [go_sem, g]
       try intros
       refine pwgD_F hF (fun h26 hF => ?_) fun h26 hF => ?_
       ·try simp [go_sem, g, h26]
        exact pT (hj21 true) (Rn_some hF)
       ·obtain ⟨x27, g, hF⟩ := Rx g hF
        try simp [go_sem, g, h26]
        try intros
        exact pT (hj21 (decide ((x24.Heads.length : Int) < (x27.Heads.length : Int)))) (Rn_some hF)
  ·try simp [go_sem, g]
   refine pwg_F hF (fun h9 hF => ?_) fun h9 hF => ?_
   ·try simp [go_sem, g, h9]
    exact pT (hj6 true) (Rn_some hF)
   ·try simp [go_sem, g, h9]
    try intros
    exact pT (hj6 ((z4.1.length : Int) != (z5.1.length : Int))) (Rn_some hF)
end Go.Pm
