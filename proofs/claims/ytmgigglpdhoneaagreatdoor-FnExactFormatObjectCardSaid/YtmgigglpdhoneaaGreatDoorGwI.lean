
import Derived.Test.YtmgigglpdhoneaaGreatDoorLibP
import Derived.Test.YtmgigglpdhoneaaGreatDoorGwH
set_option linter.unusedVariables false
set_option linter.unusedSimpArgs false
namespace Go.Proofs.YtmgigglpdhoneaaGreatDoor
open Go.Abs
attribute [local irreducible] AT AOps FC DN
set_option maxRecDepth 10000
set_option maxHeartbeats 4000000
theorem w_FnExactFormatObject_ok (aO : PObj) (q : Bool) (F : w_FnExactFormatObject aO = some q) : FC Tryz.prog 3 [.agg (cObj.row 0 aO)] [] 8 (fun x _ => x = .bool q) := by
 unfold w_FnExactFormatObject at F
 obtain ⟨x2, hx2, F⟩ := c7 F
 refine FC.of_le (bdy Tryz.func3 Tryz.ntmps3 Z Z Z (qn 2 Z (qn 1 Z (qx 2 Z (i8 (w_szObject_ok aO 1048576 x2 hx2) Z ((d7 (m9 cObj aO Z) (d7 (Z) g7))) Z Z ?_)))))
 as_aux_lemma =>
  refine xn 1 Z (c6 (qn 2 Z (i9 F Z (fun G F => ?_) (fun G F => ?_))))
  ·obtain rfl := f6 F
   exact c6 (c8 [] Z (gn 1 Z (u1 Z)))
  ·obtain ⟨x3, hx3, F⟩ := c7 F
   refine e7 (c6 (c8 [1] Z (gx 1 Z (i8 (w_toObject_ok aO x3 hx3) Z ((d7 (m9 cObj aO Z) g7)) (dY cObj x3 Z) Z ?_))))
   as_aux_lemma =>
    obtain ⟨x4, hx4, F⟩ := c7 F
    refine p7 (s_FormatObject_own x3 x4 hx4) Z (k8 (u9 (ag_10 cObj x3 Z)) n8) (Cd.rlR cStr f01 0 _) Z (fun j => by simp [V.rnA, V.rnAL, V.rl, upJ, dn]) Z (n7 (s' := ⟨[(1, .ptr 8 1 0 0), (18, .hsl 9 0 x4.length)], [(8, ⟨5, [cObj.row 0 aO]⟩), (9, ⟨1, x4.map (cStr.enc 0)⟩)], 10, 69, []⟩) ?_ ?_)
    ·exact (e9 (d9 (e8 Z (e8 Z f8)) (g9 Z Z Z (i7 (cObj.row_ok _ Z)) (j8 Z f9)) Z Z Z Z))
    as_aux_lemma =>
     obtain ⟨x5, hx5, F⟩ := c7 F
     refine xn 1 Z (qx 1 Z (call_o3 (w_toObject_own aO x5 hx5) Z (k8 (u9 (m9 cObj aO Z)) n8) (Cd.rlR cInt f01 0 _) (Cd.rlR cInt f01 0 _) (Cd.rlR cCode f01 2 _) Z (fun j k l hd => by simp [V.rnA, V.rnAL, V.rl, upJa, upJb hd, upJc hd]) Z (n7 (s' := ⟨[(1, .ptr 8 1 0 0), (4, .hsl 9 0 x4.length), (20, .agg [.str x5.name, .hsl 10 0 x5.defines.length, .hsl 11 0 x5.uses.length, .hsl 12 0 x5.image.codes.length, .int .i64 x5.image.main])], [(8, ⟨5, [cObj.row 0 aO]⟩), (9, ⟨1, x4.map (cStr.enc 0)⟩), (10, ⟨1, x5.defines.map (cInt.enc 0)⟩), (11, ⟨1, x5.uses.map (cInt.enc 0)⟩), (12, ⟨4, x5.image.codes.map (cCode.enc 2)⟩)], 13, 69, []⟩) ?_ ?_)))
     ·exact (le_rn [(8, 8), (9, 9), (10, 10), (11, 11), (12, 12)] Z Z (z5 Z (rn_ptr Z) (z5 Z (B7 Z) (z5 Z (rn_agg (n5 Z (n5 (B7 Z) (n5 (B7 Z) (n5 (B7 Z) (n5 Z w4)))))) W6))) (v9 Z Z Z (rnR_one (J1 _ (cObj.rl cut2 0 aO))) (v9 Z Z Z (Cd.rnR cStr _ x4 Z) (v9 Z Z Z (Cd.rnR cInt _ x5.defines Z) (v9 Z Z Z (Cd.rnR cInt _ x5.uses Z) (v9 Z Z Z (Cd.rnR cCode _ x5.image.codes Z) X3))))) Z Z)
     as_aux_lemma =>
      obtain ⟨x6, hx6, F⟩ := c7 F
      refine xq 1 Z (B4 K Z Z Z Z Z (m0 (z7 Z) (m0 (L9 Z (by simp)) (m0 (L9 Z (by simp)) (m0 (L9 Z (by simp)) (m0 (z7 Z) D4))))) Z Z Z (j2 (qx 1 Z (p7 (i_FormatObject_own x5 x6 hx6) Z (k8 (rd_agg (k8 (u9 (Z)) (k8 (z9 Z (by simp) (cInt.rlR _ 0 _)) (k8 (z9 Z (by simp) (cInt.rlR _ 0 _)) (k8 (rd_hslD Z (by simp) Z (Cd.dps0 cCode 2 (fun _ => Z) _) (cCode.rlR (fun _ => 0) 2 _)) (k8 (u9 (Z)) n8)))))) n8) (Cd.rlR cStr f01 0 _) Z (fun j => by simp [V.rnA, V.rnAL, V.rl, upJ, dn]) Z (n7 (s' := ⟨[(1, .ptr 8 1 0 0), (4, .hsl 9 0 x4.length), (5, .ptr 13 1 0 0), (22, .hsl 14 0 x6.length)], [(8, ⟨5, [cObj.row 0 aO]⟩), (9, ⟨1, x4.map (cStr.enc 0)⟩), (10, ⟨1, x5.defines.map (cInt.enc 0)⟩), (11, ⟨1, x5.uses.map (cInt.enc 0)⟩), (12, ⟨4, x5.image.codes.map (cCode.enc 2)⟩), (13, ⟨5, [[.str x5.name, .hsl 10 0 x5.defines.length, .hsl 11 0 x5.uses.length, .hsl 12 0 x5.image.codes.length, .int .i64 x5.image.main]]⟩), (14, ⟨1, x6.map (cStr.enc 0)⟩)], 15, 69, []⟩) ?_ ?_)))))
      ·exact (e9 (d9 (e8 Z (e8 Z (e8 Z (e8 Z f8)))) (g9 Z Z Z (i7 (cObj.row_ok _ Z)) (j8 Z (j8 Z (j8 Z (j8 Z (g9 Z Z Z (row_z Z) (j8 Z f9))))))) Z Z Z Z))
      as_aux_lemma =>
       obtain ⟨x7, hx7, F⟩ := c7 F
       refine xn 1 Z (c6 (qx 2 Z (B8 (w_eqStringS_ok x6 x4 x7 hx7) Z (k8 (z9 Z (by simp) (cStr.rlR _ 0 _)) (k8 (z9 Z (by simp) (cStr.rlR _ 0 _)) n8)) Z Z ?_)))
       as_aux_lemma =>
        refine xn 1 Z (v6 F Z (fun G F => ?_) (fun G F => ?_))
        ·obtain rfl := f6 F
         exact c6 (c8 [] Z (gn 1 Z (u1 Z)))
        ·obtain ⟨x8, hx8, F⟩ := c7 F
         obtain ⟨x9, hx9, F⟩ := c7 F
         refine e7 (c6 (c6 (p0 (id := 10) 3 (by kernel_rfl) (by kernel_rfl) (nx K Z (nx K Z (t9 (w_toObject_ok aO x8 hx8) Z ((d7 (m9 cObj aO Z) g7)) (dY cObj x8 Z) Z (y7 Z (B8 (w_eqObject_ok x5 x8 x9 hx9) Z (k8 (rd_agg (k8 (u9 (Z)) (k8 (z9 Z (by simp) (cInt.rlR _ 0 _)) (k8 (z9 Z (by simp) (cInt.rlR _ 0 _)) (k8 (rd_hslD Z (by simp) Z (Cd.dps0 cCode 2 (fun _ => Z) _) (cCode.rlR (fun _ => 0) 2 _)) (k8 (u9 (Z)) n8)))))) (k8 (u9 (ag_10 cObj x8 Z)) n8)) Z Z ?_))))))))
         as_aux_lemma =>
          refine xn 1 Z (v6 F Z (fun G F => ?_) (fun G F => ?_))
          ·obtain rfl := f6 F
           exact c6 (c8 [] Z (gn 1 Z (u1 Z)))
          ·obtain ⟨x10, hx10, F⟩ := c7 F
           obtain ⟨hb_x10_0, F⟩ := d8 F
           obtain ⟨hb_x10_1, F⟩ := d8 F
           obtain ⟨hb_x10_2, F⟩ := d8 F
           refine e7 (c6 (c8 [1, 4, 5, 6] Z (gn 1 Z (qx 2 Z (call_lendL [10, 11, 12] (w_markObject_ok x5 1 x10 hx10) Z Z Z Z (n5 Z (n5 Z w4)) Z (.cons (Cd.rnR cInt _ x5.defines Z) (.cons (Cd.rnR cInt _ x5.uses Z) (.cons (Cd.rnR cCode _ x5.image.codes Z) .nil))) (s8 _ Z) (.cons (Cd.rnR cInt _ x10.2.1 Z) (.cons (Cd.rnR cInt _ x10.2.2.1 Z) (.cons (Cd.rnR cCode _ x10.2.2.2 Z) .nil))) Z (n7 (L6 13 (rows' := [[.str x5.name, .hsl 10 0 x10.2.1.length, .hsl 11 0 x10.2.2.1.length, .hsl 12 0 x10.2.2.2.length, .int .i64 x5.image.main]]) Z (by simp only [hb_x10_0, hb_x10_1, hb_x10_2]) Z) (n7 (s' := ⟨[(1, .ptr 8 1 0 0), (4, .hsl 9 0 x4.length), (6, .hsl 14 0 x6.length), (7, .int .i64 1), (34, .int .i64 x10.1)], [(8, ⟨5, [cObj.row 0 aO]⟩), (9, ⟨1, x4.map (cStr.enc 0)⟩), (14, ⟨1, x6.map (cStr.enc 0)⟩)], 15, 69, []⟩) ?_ ?_)))))))
           ·exact (e9 (d9 (e8 Z (e8 Z (e8 Z (e8 Z (e8 Z f8))))) (g9 Z Z Z (i7 (cObj.row_ok _ Z)) (j8 Z (j8 Z f9))) Z Z Z Z))
           as_aux_lemma =>
            refine xn 1 Z (c6 (qx 3 Z (l7 (g := 37) F Z (fun G F => ?_) (fun G F => ?_))))
            ·obtain rfl := f6 F
             exact xn 5 Z (j6 Z (c6 (c8 [] Z (gn 1 Z (u1 Z)))))
            ·obtain ⟨x11, hx11, F⟩ := c7 F
             refine xq 2 Z (B8 (w_eqStringS_ok x6 x4 x11 hx11) Z (k8 (z9 Z (by simp) (cStr.rlR _ 0 _)) (k8 (z9 Z (by simp) (cStr.rlR _ 0 _)) n8)) Z Z ?_)
             as_aux_lemma =>
              refine xn 2 Z (v6 F Z (fun G F => ?_) (fun G F => ?_))
              ·obtain rfl := f6 F
               exact c6 (c8 [] Z (gn 1 Z (u1 Z)))
              ·obtain ⟨x12, hx12, F⟩ := c7 F
               obtain ⟨hb_x12, F⟩ := d8 F
               refine e7 (c6 (c8 [1, 4, 6] Z (gn 1 Z (qx 2 Z (s7 14 (w_markStringS_ok x6 1 x12 hx12) Z (n5 Z (n5 Z w4)) Z (Cd.rnR cStr _ x6 Z) (s8 _ Z) (Cd.rnR cStr _ x12.2 Z) Z (n7 (o8 (y := .hsl 14 0 x12.2.length) 6 Z (q9 (congrArg (V.hsl 14 0) hb_x12.symm)) Z) ?_))))))
               as_aux_lemma =>
                obtain ⟨x13, hx13, F⟩ := c7 F
                refine xn 1 Z (qn 1 Z (qx 2 Z (B8 (w_heldStringS_ok x12.2 1 x13 hx13) Z (k8 (z9 Z (by simp) (cStr.rlR _ 0 _)) (k8 (u9 (Z)) n8)) Z Z ?_)))
                as_aux_lemma =>
                 refine xn 1 Z (c6 (qn 2 Z (i9 F Z (fun G F => ?_) (fun G F => ?_))))
                 ·obtain rfl := f6 F
                  exact c6 (c8 [] Z (gn 1 Z (u1 Z)))
                 ·refine e7 (c6 (c6 (c8 [1, 4, 6, 8, 9] Z (gn 3 Z (t7 F Z (fun G F => ?_) (fun G F => ?_))))))
                  ·obtain rfl := f6 F
                   exact c6 (c8 [] Z (gn 1 Z (u1 Z)))
                  ·obtain ⟨x14, hx14, F⟩ := c7 F
                   refine e7 (qx 1 Z (i8 (w_toObject_ok aO x14 hx14) Z ((d7 (m9 cObj aO Z) g7)) (dY cObj x14 Z) Z ?_))
                   as_aux_lemma =>
                    obtain ⟨x15, hx15, F⟩ := c7 F
                    refine p7 (i_FormatObject_own x14 x15 hx15) Z (k8 (u9 (ag_10 cObj x14 Z)) n8) (Cd.rlR cStr f01 0 _) Z (fun j => by simp [V.rnA, V.rnAL, V.rl, upJ, dn]) Z (n7 (s' := ⟨[(4, .hsl 9 0 x4.length), (6, .hsl 14 0 x12.2.length), (8, .int .i64 x12.1), (56, .hsl 15 0 x15.length)], [(9, ⟨1, x4.map (cStr.enc 0)⟩), (14, ⟨1, x12.2.map (cStr.enc 0)⟩), (15, ⟨1, x15.map (cStr.enc 0)⟩)], 16, 69, []⟩) ?_ ?_)
                    ·exact (e9 (d9 (e8 Z (e8 Z (e8 Z (e8 Z f8)))) (j8 Z (j8 Z (j8 Z f9))) Z Z Z Z))
                    as_aux_lemma =>
                     obtain ⟨x16, hx16, F⟩ := c7 F
                     refine xn 1 Z (c6 (qx 2 Z (B8 (w_eqStringS_ok x15 x4 x16 hx16) Z (k8 (z9 Z (by simp) (cStr.rlR _ 0 _)) (k8 (z9 Z (by simp) (cStr.rlR _ 0 _)) n8)) Z Z ?_)))
                     as_aux_lemma =>
                      refine xn 1 Z (v6 F Z (fun G F => ?_) (fun G F => ?_))
                      ·obtain rfl := f6 F
                       exact c6 (c8 [] Z (gn 1 Z (u1 Z)))
                      ·obtain ⟨x17, hx17, F⟩ := c7 F
                       refine e7 (c6 (c8 [6, 8] Z (gn 1 Z (qx 2 Z (B8 (w_heldStringS_ok x12.2 1 x17 hx17) Z (k8 (z9 Z (by simp) (cStr.rlR _ 0 _)) (k8 (u9 (Z)) n8)) Z Z ?_)))))
                       as_aux_lemma =>
                        refine xn 1 Z (c6 (qn 2 Z (i9 F Z (fun G F => ?_) (fun G F => ?_))))
                        ·obtain rfl := f6 F
                         exact c6 (c8 [] Z (gn 1 Z (u1 Z)))
                        ·refine e7 (c6 (qn 3 Z (t7 F Z (fun G F => ?_) (fun G F => ?_))))
                         ·obtain rfl := f6 F
                          exact c6 (c8 [] Z (gn 1 Z (u1 Z)))
                         ·obtain rfl := f6 F
                          exact e7 (c6 (c8 [] Z (gn 1 Z (u0 Z))))
end Go.Proofs.YtmgigglpdhoneaaGreatDoor
