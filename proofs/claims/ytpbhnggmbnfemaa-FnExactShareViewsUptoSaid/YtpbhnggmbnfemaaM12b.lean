/-
  Plain functions and their walks. Written by wip/tools/lift.py.
-/
import Derived.Test.YtpbhnggmbnfemaaM12
namespace Go.Pm
open Go.Am
open Go.Proofs
set_option maxRecDepth 100000
attribute [local irreducible] pw pwx pw1 pwg qv qz qf
set_option linter.unusedSimpArgs false
set_option linter.unusedVariables false
theorem c_laws_FnExactShareViews {a0 : Group} {a1 : Int} {a2 : Int} {a3 : (List Int)} {r : Bool} (hr : F_laws_FnExactShareViews a0 a1 a2 a3 = some r) : PCalls Try.prog 6 [(.sh, .agg [.int .i64 a0.P, .int .i64 a0.Q, .int .i64 a0.G]), (.sh, .int .i64 a1), (.sh, .int .i64 a2), (.sh, .sl false 1 (a3.map row_i64))] (Eo (.bool r) [.junk, .junk, .junk, .junk]) := by
  apply pcalls_lf 111 [] [28] [] [.tmp 8] hr cl6 Try.func6 rfl rfl rfl
  · exact ⟨by simp, rfl⟩
  intro Φ hΦ hF
  unfold F_laws_FnExactShareViews at hF
  iterate 2 (try simp [-List.map_set, go_sem]; try intros; refine pw_wk ?_)
  repeat rw [sq]
  refine pw_cF hF (by simp [-List.map_set, go_sem]) (fun h1 hF2 => ?_) fun h1 hF2 => ?_
  ·cases hΦ _ (Rn_some hF2)
   try simp [-List.map_set, go_sem]
   refine pw_wk ?_
   try simp [-List.map_set, go_sem]
  ·try simp [-List.map_set, go_sem]
   refine pw_wk ?_
   try simp [-List.map_set, go_sem]
   refine pw_cl hF2 [.sh] c_laws_toGroup rfl rfl (by (try simp [-List.map_set, go_sem, clE]); first | rfl | done) (by rfl) (by (try simp [-List.map_set, go_sem]); first | rfl | done) fun z3 hF4 => ⟨by simp [go_sem], ?_⟩
   try simp [-List.map_set, go_sem]
   refine pw_cl hF4 [.sh] c_laws_toIntS rfl rfl (by (try simp [-List.map_set, go_sem, clE]); first | rfl | done) (by rfl) (by (try simp [-List.map_set, go_sem]); first | rfl | done) fun z5 hF6 => ⟨by simp [go_sem], ?_⟩
   try simp [-List.map_set, go_sem]
   refine pw_cl hF6 [.sh, .sh, .sh, .sh] c_spec_ShareViews rfl rfl (by (try simp [-List.map_set, go_sem, clE]); first | rfl | done) (by rfl) (by (try simp [-List.map_set, go_sem]); first | rfl | done) fun z7 hF8 => ⟨by simp [go_sem], ?_⟩
   try simp [-List.map_set, go_sem]
   refine pw_wkK [1, 2, 3, 4, 9, 10] (by simp [-List.map_set, go_sem]; rfl) ?_
   try simp [-List.map_set, go_sem]
   refine pw_cl hF8 [.sh] c_laws_toIntS rfl rfl (by (try simp [-List.map_set, go_sem, clE]); first | rfl | done) (by rfl) (by (try simp [-List.map_set, go_sem]); first | rfl | done) fun z9 hF10 => ⟨by simp [go_sem], ?_⟩
   try simp [-List.map_set, go_sem]
   refine pw_wk ?_
   try simp [-List.map_set, go_sem]
   refine pw_cl hF10 [.sh] c_laws_toGroup rfl rfl (by (try simp [-List.map_set, go_sem, clE]); first | rfl | done) (by rfl) (by (try simp [-List.map_set, go_sem]); first | rfl | done) fun z11 hF12 => ⟨by simp [go_sem], ?_⟩
   try simp [-List.map_set, go_sem]
   refine pw_cl hF12 [.sh, .sh, .sh, .sh] c_impl_ShareViews rfl rfl (by (try simp [-List.map_set, go_sem, clE]); first | rfl | done) (by rfl) (by (try simp [-List.map_set, go_sem]); first | rfl | done) fun z13 hF14 => ⟨by simp [go_sem], ?_⟩
   try simp [-List.map_set, go_sem]
   refine pw_wkK [1, 2, 3, 4, 9, 10, 11, 12, 13] (by simp [-List.map_set, go_sem]; rfl) ?_
   repeat rw [sq]
   refine pw_joinF (fun (x19 : Bool) => [(1, .v (.int .i64 a1)), (2, .v (.int .i64 a2)), (3, .v (.sl false 1 (a3.map row_i64))), (4, .bl [.int .i64 a0.P, .int .i64 a0.Q, .int .i64 a0.G]), (9, .v (.sl false 2 (z7.1.map row_ViewCount_z))), (10, .v (.bool z7.2)), (11, .v (.sl true 1 (z9.map row_i64))), (12, .v (.sl true 2 (z13.1.map row_ViewCount_o))), (13, .v (.bool z13.2)), (51, .v (.bool x19))]) hF14 ?_ ?_
   ·intro x19 hF20
    repeat rw [sq]
    refine pw_cF hF20 (by simp [-List.map_set, go_sem]) (fun h25 hF26 => ?_) fun h25 hF26 => ?_
    ·cases hΦ _ (Rn_some hF26)
     try simp [-List.map_set, go_sem]
     refine pw_wk ?_
     try simp [-List.map_set, go_sem]
    ·try simp [-List.map_set, go_sem]
     refine pw_wk ?_
     try simp [-List.map_set, go_sem]
     refine pw_cl hF26 [.sh] c_laws_toIntS rfl rfl (by (try simp [-List.map_set, go_sem, clE]); first | rfl | done) (by rfl) (by (try simp [-List.map_set, go_sem]); first | rfl | done) fun z27 hF28 => ⟨by simp [go_sem], ?_⟩
     try simp [-List.map_set, go_sem]
     refine pw_cl hF28 [.sh, .sh] c_laws_eqIntS rfl rfl (by (try simp [-List.map_set, go_sem, clE]); first | rfl | done) (by rfl) (by (try simp [-List.map_set, go_sem]); first | rfl | done) fun z29 hF30 => ⟨by simp [go_sem], ?_⟩
     try simp [-List.map_set, go_sem]
     refine pw_wk ?_
     repeat rw [sq]
     refine pw_cF hF30 (by simp [-List.map_set, go_sem]) (fun h31 hF32 => ?_) fun h31 hF32 => ?_
     ·cases hΦ _ (Rn_some hF32)
      try simp [-List.map_set, go_sem]
      refine pw_wk ?_
      try simp [-List.map_set, go_sem]
     ·iterate 2 (try simp [-List.map_set, go_sem]; refine pw_wk ?_)
      try simp [-List.map_set, go_sem]
      refine pw_cl hF32 [.io, .sh] c_laws_markIntS__io0 rfl rfl (by (try simp [-List.map_set, go_sem, clE]); first | rfl | done) (by rfl) (by (try simp [-List.map_set, go_sem]); first | rfl | done) fun z33 hF34 => ⟨by simp [go_sem], ?_⟩
      try simp [-List.map_set, go_sem]
      refine pw_wkK [1, 2, 3, 4, 9, 10, 12, 13, 14] (by simp [-List.map_set, go_sem]; rfl) ?_
      repeat rw [sq]
      refine pw_joinF (fun (x39 : Bool) => [(1, .v (.int .i64 a1)), (2, .v (.int .i64 a2)), (3, .v (.sl false 1 (a3.map row_i64))), (4, .bl [.int .i64 a0.P, .int .i64 a0.Q, .int .i64 a0.G]), (9, .v (.sl false 2 (z7.1.map row_ViewCount_z))), (10, .v (.bool z7.2)), (12, .v (.sl true 2 (z13.1.map row_ViewCount_o))), (72, .v (.bool x39))]) hF34 ?_ ?_
      ·intro x39 hF40
       repeat rw [sq]
       refine pw_cF hF40 (by simp [-List.map_set, go_sem]) (fun h47 hF48 => ?_) fun h47 hF48 => ?_
       ·cases hΦ _ (Rn_some hF48)
        try simp [-List.map_set, go_sem]
        refine pw_wk ?_
        try simp [-List.map_set, go_sem]
       ·iterate 2 (try simp [-List.map_set, go_sem]; refine pw_wk ?_)
        try simp [-List.map_set, go_sem]
        refine pw_cl hF48 [.io, .sh] c_laws_markViewCountS__io0 rfl rfl (by (try simp [-List.map_set, go_sem, clE]); first | rfl | done) (by rfl) (by (try simp [-List.map_set, go_sem]); first | rfl | done) fun z49 hF50 => ⟨by simp [go_sem], ?_⟩
        iterate 2 (try simp [-List.map_set, go_sem]; refine pw_wk ?_)
        try simp [-List.map_set, go_sem]
        refine pw_cl hF50 [.sh, .sh] c_laws_heldViewCountS rfl rfl (by (try simp [-List.map_set, go_sem, clE]); first | rfl | done) (by rfl) (by (try simp [-List.map_set, go_sem]); first | rfl | done) fun z51 hF52 => ⟨by simp [go_sem], ?_⟩
        try simp [-List.map_set, go_sem]
        refine pw_wkK [1, 2, 3, 4, 9, 10, 12, 15, 16] (by simp [-List.map_set, go_sem]; rfl) ?_
        try simp [-List.map_set, go_sem]
        refine pw_wk ?_
        repeat rw [sq]
        refine pw_cF hF52 (by simp [-List.map_set, go_sem]) (fun h53 hF54 => ?_) fun h53 hF54 => ?_
        ·cases hΦ _ (Rn_some hF54)
         try simp [-List.map_set, go_sem]
         refine pw_wk ?_
         try simp [-List.map_set, go_sem]
        ·iterate 2 (try simp [-List.map_set, go_sem]; refine pw_wk ?_)
         repeat rw [sq]
         refine pw_cF hF54 (by simp [-List.map_set, go_sem]) (fun h55 hF56 => ?_) fun h55 hF56 => ?_
         ·cases hΦ _ (Rn_some hF56)
          try simp [-List.map_set, go_sem]
          refine pw_wk ?_
          try simp [-List.map_set, go_sem]
         ·try simp [-List.map_set, go_sem]
          refine pw_wk ?_
          try simp [-List.map_set, go_sem]
          refine pw_cl hF56 [.sh] c_laws_toGroup rfl rfl (by (try simp [-List.map_set, go_sem, clE]); first | rfl | done) (by rfl) (by (try simp [-List.map_set, go_sem]); first | rfl | done) fun z57 hF58 => ⟨by simp [go_sem], ?_⟩
          try simp [-List.map_set, go_sem]
          refine pw_cl hF58 [.sh] c_laws_toIntS rfl rfl (by (try simp [-List.map_set, go_sem, clE]); first | rfl | done) (by rfl) (by (try simp [-List.map_set, go_sem]); first | rfl | done) fun z59 hF60 => ⟨by simp [go_sem], ?_⟩
          try simp [-List.map_set, go_sem]
          refine pw_cl hF60 [.sh, .sh, .sh, .sh] c_impl_ShareViews rfl rfl (by (try simp [-List.map_set, go_sem, clE]); first | rfl | done) (by rfl) (by (try simp [-List.map_set, go_sem]); first | rfl | done) fun z61 hF62 => ⟨by simp [go_sem], ?_⟩
          try simp [-List.map_set, go_sem]
          refine pw_wkK [9, 10, 12, 15, 17, 18] (by simp [-List.map_set, go_sem]; rfl) ?_
          repeat rw [sq]
          refine pw_joinF (fun (x67 : Bool) => [(12, .v (.sl true 2 (z49.2.map row_ViewCount_o))), (15, .v (.int .i64 z49.1)), (102, .v (.bool x67))]) hF62 ?_ ?_
          ·intro x67 hF68
           repeat rw [sq]
           refine pw_cF hF68 (by simp [-List.map_set, go_sem]) (fun h73 hF74 => ?_) fun h73 hF74 => ?_
           ·cases hΦ _ (Rn_some hF74)
            try simp [-List.map_set, go_sem]
            refine pw_wk ?_
            try simp [-List.map_set, go_sem]
           ·iterate 2 (try simp [-List.map_set, go_sem]; refine pw_wk ?_)
            try simp [-List.map_set, go_sem]
            refine pw_cl hF74 [.sh, .sh] c_laws_heldViewCountS rfl rfl (by (try simp [-List.map_set, go_sem, clE]); first | rfl | done) (by rfl) (by (try simp [-List.map_set, go_sem]); first | rfl | done) fun z75 hF76 => ⟨by simp [go_sem], ?_⟩
            iterate 2 (try simp [-List.map_set, go_sem]; refine pw_wk ?_)
            repeat rw [sq]
            refine pw_cF hF76 (by simp [-List.map_set, go_sem]) (fun h77 hF78 => ?_) fun h77 hF78 => ?_
            ·cases hΦ _ (Rn_some hF78)
             try simp [-List.map_set, go_sem]
             refine pw_wk ?_
             try simp [-List.map_set, go_sem]
            ·try simp [-List.map_set, go_sem]
             refine pw_wk ?_
             try simp [-List.map_set, go_sem]
             refine pw_wkK [110] (by simp [-List.map_set, go_sem]; rfl) ?_
             repeat rw [sq]
             refine pw_cF hF78 (by simp [-List.map_set, go_sem]) (fun h79 hF80 => ?_) fun h79 hF80 => ?_
             ·cases hΦ _ (Rn_some hF80)
              try simp [-List.map_set, go_sem]
              refine pw_wk ?_
              try simp [-List.map_set, go_sem]
             ·cases hΦ _ (Rn_some hF80)
              iterate 2 (try simp [-List.map_set, go_sem]; refine pw_wk ?_)
              try simp [-List.map_set, go_sem]
          ·intro ψ65 hj63 hF66
           try simp [-List.map_set, go_sem]
           refine pw_cl hF66 [.sh, .sh] c_laws_eqViewCountS rfl rfl (by (try simp [-List.map_set, go_sem, clE]); first | rfl | done) (by rfl) (by (try simp [-List.map_set, go_sem]); first | rfl | done) fun z69 hF70 => ⟨by simp [go_sem], ?_⟩
           try simp [-List.map_set, go_sem]
           refine pwg_F hF70 (fun h71 hF72 => ?_) fun h71 hF72 => ?_
           ·try simp [-List.map_set, go_sem, h71]
            exact hj63 true _ (by simp [-List.map_set, go_sem]) (Rn_some hF72)
           ·try simp [-List.map_set, go_sem, h71]
            exact hj63 (z61.2 != z7.2) _ (by simp [-List.map_set, go_sem]) (Rn_some hF72)
      ·intro ψ37 hj35 hF38
       try simp [-List.map_set, go_sem]
       refine pwg_F hF38 (fun h41 hF42 => ?_) fun h41 hF42 => ?_
       ·try simp [-List.map_set, go_sem, h41]
        exact hj35 true _ (by simp [-List.map_set, go_sem]) (Rn_some hF42)
       ·try simp [-List.map_set, go_sem, h41]
        refine pw_cl hF42 [.sh, .sh] c_laws_eqViewCountS rfl rfl (by (try simp [-List.map_set, go_sem, clE]); first | rfl | done) (by rfl) (by (try simp [-List.map_set, go_sem]); first | rfl | done) fun z43 hF44 => ⟨by simp [go_sem], ?_⟩
        try simp [-List.map_set, go_sem, h41]
        refine pwg_F hF44 (fun h45 hF46 => ?_) fun h45 hF46 => ?_
        ·try simp [-List.map_set, go_sem, h45]
         exact hj35 true _ (by simp [-List.map_set, go_sem]) (Rn_some hF46)
        ·try simp [-List.map_set, go_sem, h45]
         exact hj35 (z13.2 != z7.2) _ (by simp [-List.map_set, go_sem]) (Rn_some hF46)
   ·intro ψ17 hj15 hF18
    try simp [-List.map_set, go_sem]
    refine pw_cl hF18 [.sh, .sh] c_laws_eqViewCountS rfl rfl (by (try simp [-List.map_set, go_sem, clE]); first | rfl | done) (by rfl) (by (try simp [-List.map_set, go_sem]); first | rfl | done) fun z21 hF22 => ⟨by simp [go_sem], ?_⟩
    try simp [-List.map_set, go_sem]
    refine pwg_F hF22 (fun h23 hF24 => ?_) fun h23 hF24 => ?_
    ·try simp [-List.map_set, go_sem, h23]
     exact hj15 true _ (by simp [-List.map_set, go_sem]) (Rn_some hF24)
    ·try simp [-List.map_set, go_sem, h23]
     exact hj15 (z13.2 != z7.2) _ (by simp [-List.map_set, go_sem]) (Rn_some hF24)
end Go.Pm
