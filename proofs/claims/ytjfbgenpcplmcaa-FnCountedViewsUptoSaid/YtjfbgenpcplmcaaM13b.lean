/-
  Plain functions and their walks. Written by wip/tools/lift.py.
-/
import Derived.Test.YtjfbgenpcplmcaaM13
namespace Go.Pm
open Go.Am IntKind
open Go.Proofs
set_option maxRecDepth 100000
attribute [local irreducible] pw pwx pw1 pwg qv qz qf
attribute [-simp] List.map_set
set_option linter.unusedSimpArgs false
set_option linter.unusedVariables false
theorem c_laws_FnCountedViews : ∀ {a0} {a1} {r}, F_laws_FnCountedViews a0 a1 = some r → PCalls Try.prog 4 [(.sh, .sl false 1 (a0.map row_u8)), (.sh, .sl false 1 (a1.map row_u8))] (Eo (.bool r) [.junk, .junk]) := by
  intro a0 a1 r hr
  apply pF 194 [] [24, 43] [] [.tmp 4] hr cl4 Try.func4
  intro Φ hΦ hF g
  unfold F_laws_FnCountedViews at hF
  iterate 2 (try simp [go_sem, g]; try intros; refine pw_wk ?_)
  repeat rw [sq]
  refine pI hF (fun h1 hF => ?_) (fun h1 hF => ?_)
  ·cases hΦ _ (Rn_some hF)
   try simp [go_sem, g]
   refine pw_wk ?_
   try simp [go_sem, g]
  ·try simp [go_sem, g]
   refine pw_wk ?_
   try simp [go_sem, g]
   refine pC hF [.sh] c_spec_DrawCountViews (fun z2 hF => ?_)
   try simp [go_sem, g]
   refine pw_wkK [1, 5] (by simp [go_sem, g]; rfl) ?_
   try simp [go_sem, g]
   refine pC hF [.sh] c_impl_CountViews (fun z3 hF => ?_)
   try simp [go_sem, g]
   refine pw_wk ?_
   try simp [go_sem, g]
   refine pC hF [.sh] c_spec_CountViews (fun z4 hF => ?_)
   try simp [go_sem, g]
   refine pw_wkK [1, 5, 6, 7, 8, 9] (by simp [go_sem, g]; rfl) ?_
   try simp [go_sem, g]
   refine pC hF [.sh] c_spec_DrawCommitViews (fun z5 hF => ?_)
   try simp [go_sem, g]
   refine pw_wkK [5, 6, 7, 8, 9, 10, 11, 12] (by simp [go_sem, g]; rfl) ?_
   try simp [go_sem, g]
   refine pC hF [.sh, .sh, .sh] c_impl_CommitViews (fun z6 hF => ?_)
   try simp [go_sem, g]
   refine pw_wk ?_
   try simp [go_sem, g]
   refine pC hF [.sh, .sh, .sh] c_spec_CommitViews (fun z7 hF => ?_)
   try simp [go_sem, g]
   refine pw_wkK [5, 6, 7, 8, 9, 10, 11, 12, 13, 14, 15, 16] (by simp [go_sem, g]; rfl) ?_
   repeat rw [sq]
   refine pJ hF (fun x10 => [(5, .v (.sl false 1 (z2.map row_zi64))), (6, .v (.sl true 2 (z3.1.map row_ViewCount_o))), (7, .v (.bool z3.2)), (8, .v (.sl false 2 (z4.1.map row_ViewCount_z))), (10, .bl [.int .i64 z5.1.P, .int .i64 z5.1.Q, .int .i64 z5.1.G]), (11, .v (.int .i64 z5.2.1)), (12, .v (.int .i64 z5.2.2)), (13, .v (.sl true 2 (z6.1.map row_ViewCount_o))), (14, .v (.bool z6.2)), (88, .v (.bool x10))]) (fun x10 hF => ?_) fun _ hj8 hF => ?_
   ·repeat rw [sq]
    refine pI hF (fun h14 hF => ?_) (fun h14 hF => ?_)
    ·cases hΦ _ (Rn_some hF)
     try simp [go_sem, g]
     refine pw_wk ?_
     try simp [go_sem, g]
    ·iterate 3 (try simp [go_sem, g]; try intros; refine pw_wk ?_)
     repeat rw [sq]
     refine pJs hF (fun x17 => [(5, .v (.sl false 1 (z2.map row_zi64))), (6, .v (.sl true 2 (z3.1.map row_ViewCount_o))), (7, .v (.bool z3.2)), (10, .bl [.int .i64 z5.1.P, .int .i64 z5.1.Q, .int .i64 z5.1.G]), (11, .v (.int .i64 z5.2.1)), (12, .v (.int .i64 z5.2.2)), (13, .v (.sl true 2 (z6.1.map row_ViewCount_o))), (14, .v (.bool z6.2)), (17, .v (.int .i64 x17))]) (fun x17 hF => ?_) fun _ hj15 hr16 hF => ?_
     ·repeat rw [sq]
      refine pJ hF (fun x40 => [(5, .v (.sl false 1 (z2.map row_zi64))), (6, .v (.sl true 2 (z3.1.map row_ViewCount_o))), (7, .v (.bool z3.2)), (10, .bl [.int .i64 z5.1.P, .int .i64 z5.1.Q, .int .i64 z5.1.G]), (11, .v (.int .i64 z5.2.1)), (12, .v (.int .i64 z5.2.2)), (13, .v (.sl true 2 (z6.1.map row_ViewCount_o))), (17, .v (.int .i64 x17)), (131, .v (.bool x40))]) (fun x40 hF => ?_) fun _ hj38 hF => ?_
      ·repeat rw [sq]
       refine pJs hF (fun x44 => [(5, .v (.sl false 1 (z2.map row_zi64))), (6, .v (.sl true 2 (z3.1.map row_ViewCount_o))), (7, .v (.bool z3.2)), (17, .v (.int .i64 x17))]) (fun x44 hF => ?_) fun _ hj42 hr43 hF => ?_
       ·try simp [go_sem, g]
        refine pw_wk ?_
        repeat rw [sq]
        refine pI hF (fun h54 hF => ?_) (fun h54 hF => ?_)
        ·cases hΦ _ (Rn_some hF)
         try simp [go_sem, g]
         refine pw_wk ?_
         try simp [go_sem, g]
        ·try simp [go_sem, g]
         refine pw_wk ?_
         try simp [go_sem, g]
         refine pC hF [.sh, .sh, .sh] c_impl_ProjectCounts (fun z55 hF => ?_)
         try simp [go_sem, g]
         refine pw_wkK [5, 6, 17, 24, 25] (by simp [go_sem, g]; rfl) ?_
         iterate 2 (try simp [go_sem, g]; try intros; refine pw_wk ?_)
         repeat rw [sq]
         refine pJ hF (fun x58 => [(5, .v (.sl false 1 (z2.map row_zi64))), (6, .v (.sl true 2 (z3.1.map row_ViewCount_o))), (17, .v (.int .i64 x17)), (25, .v (.bool z55.2)), (26, .v (.int .i64 x58))]) (fun x58 hF => ?_) fun _ hj56 hF => ?_
         ·repeat rw [sq]
          refine pJ hF (fun x73 => [(4, .v (.bool x73))]) (fun x73 hF => ?_) fun _ hj71 hF => ?_
          ·cases hΦ _ (Rn_some hF)
           try simp [go_sem, g]
          ·try simp [go_sem, g]
           refine pwg_F hF (fun h74 hF => ?_) fun h74 hF => ?_
           ·try simp [go_sem, g, h74]
            refine pC hF [.sh] c_impl_IsValidCount (fun z75 hF => ?_)
            try simp [go_sem, g, h74]
            refine pwg_F hF (fun h76 hF => ?_) fun h76 hF => ?_
            ·try simp [go_sem, g, h76]
             try intros
             refine pwg_F hF (fun h77 hF => ?_) fun h77 hF => ?_
             ·try simp [go_sem, g, h77]
              exact pT (hj71 (x58 == x17)) (Rn_some hF)
             ·try simp [go_sem, g, h77]
              exact pT (hj71 false) (Rn_some hF)
            ·try simp [go_sem, g, h76]
             exact pT (hj71 false) (Rn_some hF)
           ·try simp [go_sem, g, h74]
            exact pT (hj71 false) (Rn_some hF)
         ·repeat rw [sq]
          rw [pw_block]
          obtain ⟨b67, hb68, hψ63⟩ := hF
          refine pR hb68 (fun i60 s59 => [(5, .v (.sl false 1 (z2.map row_zi64))), (6, .v (.sl true 2 (z3.1.map row_ViewCount_o))), (17, .v (.int .i64 x17)), (25, .v (.bool z55.2)), (26, .v (.int .i64 s59)), (167, .v (.sl false 2 (z55.1.map row_ViewCount_z))), (168, .v (.int .i64 (z55.1.length : Int))), (169, .v (.int .i64 i60))]) (fun s59 _ hN69 => ?_) (fun i60 s59 _ _ hi64 hi65 ho61 hg62 hF => ?_)
          ·subst hN69
           try simp [go_sem]
           refine pw_wk ?_
           repeat rw [sq]
           refine pw_cond_f (by simp [go_sem]) ?_
           try simp [go_sem]
           exact pT (hj56 s59) hψ63 (by simp [go_sem])
          ·try simp [go_sem, g]
           refine pw_wk ?_
           repeat rw [sq]
           refine pw_cond_t (by simp [go_sem, g, hi64, hi65]) ?_
           try simp [go_sem, g]
           refine pw_wk ?_
           repeat rw [sq]
           rw [pw_block]
           obtain ⟨x66, g, hF⟩ := Rx g hF
           try simp [go_sem, g]
           refine pw_wk ?_
           try simp [go_sem, g]
           refine pw_wkK [5, 6, 17, 25, 26, 167, 168, 169] (by simp [go_sem, g]; rfl) ?_
           try simp [go_sem, g]
           exact pT (hg62 (i64.wrap (s59 + x66.Times))) (Rn_some hF) (by simp [go_sem, g, wr_i hi64 hi65 (by assumption)])
       ·repeat rw [sq]
        refine pI hF (fun h45 hF => ?_) (fun h45 hF => ?_)
        ·repeat rw [sq]
         refine pw_draw D4_20 follows (by kernel_rfl) rfl ?_
         try simp only [go_sem, D4_20]
         obtain ⟨g, hF⟩ := Rz g hF
         try simp [go_sem, g]
         refine pC hF [.sh, .sh, .sh] c_impl_CommitViews (fun z46 hF => ?_)
         try simp [go_sem, g]
         refine pw_wkK [5, 6, 7, 13, 17, 19, 20] (by simp [go_sem, g]; rfl) ?_
         try simp [go_sem, g]
         refine pC hF [.sh, .sh] c_impl_DistanceOf (fun z47 hF => ?_)
         try simp [go_sem, g]
         refine pw_wkK [5, 6, 7, 17, 20, 21, 23] (by simp [go_sem, g]; rfl) ?_
         repeat rw [sq]
         refine pJ hF (fun x50 => [(5, .v (.sl false 1 (z2.map row_zi64))), (6, .v (.sl true 2 (z3.1.map row_ViewCount_o))), (7, .v (.bool z3.2)), (17, .v (.int .i64 x17)), (159, .v (.bool x50))]) (fun x50 hF => ?_) fun _ hj48 hF => ?_
         ·repeat rw [sq]
          refine pI hF (fun h53 hF => ?_) (fun h53 hF => ?_)
          ·cases hΦ _ (hr43 _ (Rn_some hF))
           try simp [go_sem, g]
           refine pw_wk ?_
           try simp [go_sem, g]
          ·try simp [go_sem, g]
           exact pT (hj42 ()) (Rn_some hF)
         ·try simp [go_sem, g]
          refine pwg_F hF (fun h51 hF => ?_) fun h51 hF => ?_
          ·try simp [go_sem, g, h51]
           exact pT (hj48 true) (Rn_some hF)
          ·try simp [go_sem, g, h51]
           refine pwg_F hF (fun h52 hF => ?_) fun h52 hF => ?_
           ·try simp [go_sem, g, h52]
            exact pT (hj48 true) (Rn_some hF)
           ·try simp [go_sem, g, h52]
            exact pT (hj48 (z47.1 != 0)) (Rn_some hF)
        ·try simp [go_sem, g]
         exact pT (hj42 ()) (Rn_some hF)
      ·try simp [go_sem, g]
       refine pwg_F hF (fun h41 hF => ?_) fun h41 hF => ?_
       ·try simp [go_sem, g, h41]
        exact pT (hj38 (z5.2.1 != 1)) (Rn_some hF)
       ·try simp [go_sem, g, h41]
        exact pT (hj38 false) (Rn_some hF)
     ·repeat rw [sq]
      rw [pw_block]
      obtain ⟨b34, hb35, hψ22⟩ := hF
      refine pR hb35 (fun i19 s18 => [(5, .v (.sl false 1 (z2.map row_zi64))), (6, .v (.sl true 2 (z3.1.map row_ViewCount_o))), (7, .v (.bool z3.2)), (8, .v (.sl false 2 (z4.1.map row_ViewCount_z))), (10, .bl [.int .i64 z5.1.P, .int .i64 z5.1.Q, .int .i64 z5.1.G]), (11, .v (.int .i64 z5.2.1)), (12, .v (.int .i64 z5.2.2)), (13, .v (.sl true 2 (z6.1.map row_ViewCount_o))), (14, .v (.bool z6.2)), (17, .v (.int .i64 s18)), (90, .v (.int .i64 (z3.1.length : Int))), (91, .v (.int .i64 i19))]) (fun s18 _ hN36 => ?_) (fun i19 s18 _ _ hi23 hi24 ho20 hg21 hF => ?_)
      ·subst hN36
       try simp [go_sem]
       refine pw_wk ?_
       repeat rw [sq]
       refine pw_cond_f (by simp [go_sem]) ?_
       try simp [go_sem]
       exact pT (hj15 s18) hψ22 (by simp [go_sem])
      ·try simp [go_sem, g]
       refine pw_wk ?_
       repeat rw [sq]
       refine pw_cond_t (by simp [go_sem, g, hi23, hi24]) ?_
       try simp [go_sem, g]
       refine pw_wk ?_
       repeat rw [sq]
       rw [pw_block]
       try simp [go_sem, g]
       refine pw_wk ?_
       repeat rw [sq]
       refine pJ hF (fun x27 => [(5, .v (.sl false 1 (z2.map row_zi64))), (6, .v (.sl true 2 (z3.1.map row_ViewCount_o))), (7, .v (.bool z3.2)), (8, .v (.sl false 2 (z4.1.map row_ViewCount_z))), (10, .bl [.int .i64 z5.1.P, .int .i64 z5.1.Q, .int .i64 z5.1.G]), (11, .v (.int .i64 z5.2.1)), (12, .v (.int .i64 z5.2.2)), (13, .v (.sl true 2 (z6.1.map row_ViewCount_o))), (14, .v (.bool z6.2)), (17, .v (.int .i64 s18)), (18, .v (.int .i64 i19)), (90, .v (.int .i64 (z3.1.length : Int))), (91, .v (.int .i64 i19)), (118, .v (.bool x27))]) (fun x27 hF => ?_) fun _ hj25 hF => ?_
       ·repeat rw [sq]
        refine pI hF (fun h32 hF => ?_) (fun h32 hF => ?_)
        ·cases ho20 _ (Rn_some hF)
         cases hΦ _ (hr16 _ hψ22)
         try simp [go_sem, g]
         refine pw_wk ?_
         try simp [go_sem, g]
        ·obtain ⟨x33, g, hF⟩ := Rx g hF
         try simp [go_sem, g]
         refine pw_wk ?_
         try simp [go_sem, g]
         refine pw_wkK [5, 6, 7, 8, 10, 11, 12, 13, 14, 17, 90, 91] (by simp [go_sem, g]; rfl) ?_
         try simp [go_sem, g]
         exact pT (hg21 (i64.wrap (s18 + x33.Times))) (Rn_some hF) (by simp [go_sem, g, wr_i hi23 hi24 (by assumption)])
       ·repeat rw [sq]
        refine pw_draw D4_15 follows (by kernel_rfl) rfl ?_
        try simp only [go_sem, D4_15]
        obtain ⟨x28, g, hF⟩ := Rx g hF
        obtain ⟨x29, g, hF⟩ := Rx g hF
        try simp [go_sem, g]
        refine pC hF [.sh, .sh] c_laws_qInts (fun z30 hF => ?_)
        try simp [go_sem, g]
        refine pwgD_F hF (fun h31 hF => ?_) fun h31 hF => ?_
        ·try simp [go_sem, g, h31]
         exact pT (hj25 true) (Rn_some hF)
        ·try simp [go_sem, g, h31]
         exact pT (hj25 (x28.Times != x29.Times)) (Rn_some hF)
   ·try simp [go_sem, g]
    refine pwg_F hF (fun h11 hF => ?_) fun h11 hF => ?_
    ·try simp [go_sem, g, h11]
     exact pT (hj8 true) (Rn_some hF)
    ·try simp [go_sem, g, h11]
     try intros
     refine pwg_F hF (fun h12 hF => ?_) fun h12 hF => ?_
     ·try simp [go_sem, g, h12]
      exact pT (hj8 true) (Rn_some hF)
     ·try simp [go_sem, g, h12]
      refine pwg_F hF (fun h13 hF => ?_) fun h13 hF => ?_
      ·try simp [go_sem, g, h13]
       exact pT (hj8 true) (Rn_some hF)
      ·try simp [go_sem, g, h13]
       try intros
       exact pT (hj8 ((z6.1.length : Int) != (z7.1.length : Int))) (Rn_some hF)
end Go.Pm
