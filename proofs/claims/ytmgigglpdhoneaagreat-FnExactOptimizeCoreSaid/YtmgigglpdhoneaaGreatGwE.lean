
import Derived.Test.YtmgigglpdhoneaaGreatLibP
import Derived.Test.YtmgigglpdhoneaaGreatGwC
set_option linter.unusedVariables false
set_option linter.unusedSimpArgs false
namespace Go.Proofs.YtmgigglpdhoneaaGreat
open Go.Abs
attribute [local irreducible] AT AOps FC DN APl
set_option maxRecDepth 10000
set_option maxHeartbeats 4000000
theorem pL (c : PC) (q : LI) (F : D6 c = some q) : FC Tryz.prog 87 [.agg (cCore.row 0 c)] [] 8 (fun x h2 => ∃ j, x = .hsl j 0 q.length ∧ hget h2 j = some ⟨1, q.map (cInt.enc 0)⟩) := by
 unfold D6 at F
 obtain ⟨x2, hx2, F⟩ := d7 F
 obtain rfl := g8 F
 exact bdy Tryz.func87 Tryz.ntmps87 Z Z Z (qn 2 Z (qx 1 Z (J1 cInt (l := 0) ([] : LI) K Z Z Z Z Z Z Z (lJ 9 (FC.weaken (uW c [] ([] : LI) x2 hx2) (.cons (i8 _) (.cons (O3 _ _) (.cons (i8 _) .nil)))) Z (d9 (m7 _ (p9 cCore c Z)) (d9 Z (d9 Z l6))) Z (Cd.rnR cInt _ ([] : LI) Z) Z (Cd.rnR cInt _ x2 Z) Z (xn 1 Z (j8 (⟨_, Z, 9, Z, Z⟩)))))))
theorem sC (c : PC) (q : LI) (F : iK c = some q) : FC Tryz.prog 62 [.agg (cCore.row 0 c)] [] 8 (fun x h2 => ∃ j, x = .hsl j 0 q.length ∧ hget h2 j = some ⟨1, q.map (cInt.enc 0)⟩) := by
 unfold iK at F
 obtain ⟨x2, hx2, F⟩ := d7 F
 refine bdy Tryz.func62 Tryz.ntmps62 Z Z Z (qn 2 Z (d6 (iW (id := 1) 3 ⟨[(4, .hsl 9 0 x2.length), (5, .agg (cCore.row 0 c))], [(9, ⟨1, x2.map (cInt.enc 0)⟩)], 10, 8, []⟩ (by kernel_rfl) (by kernel_rfl) ?_ ?_)))
 ·refine E6 [] Z ?_
  repeat' first | refine xn 1 Z ?_ | refine aE (nZ c x2 hx2) Z (i7 (s4 (p9 cCore c Z)) o8) (Cd.rlR cInt f01 0 _) Z (fun j => by simp [V.rnA, V.rnAL, V.rl, upJ, dn]) Z (j9 ?_) | refine j3 [0, 2] [1] (by kernel_rfl) Z (f6 Z ?_ j5) | refine j3 [0, 1] [2] (by kernel_rfl) Z (f6 Z ?_ j5) | refine j3 [0] [1, 2] (by kernel_rfl) Z (f6 Z ?_ (f6 Z ?_ j5)) | refine j3 [2] [0] (by kernel_rfl) Z (f6 Z ?_ j5) | refine j3 [] [0, 2] (by kernel_rfl) Z (f6 Z ?_ (f6 Z ?_ j5)) | exact S9 (by kernel_rfl) (f7 (e8 (f9 Z (ee_ag cCore Z j1)) (l7 Z j2) Z Z Z Z))
 ·obtain ⟨x3, hx3, F⟩ := d7 F
  obtain ⟨H1, F⟩ := g7 F
  obtain rfl := g8 F
  exact aE (pL c x3 hx3) Z (i7 (s4 (p9 cCore c Z)) o8) (Cd.rlR cInt f01 0 _) Z (fun j => by simp [V.rnA, V.rnAL, V.rl, upJ, dn]) Z (B7 cInt (l := 0) (xs := x2) (ys := x3) H1 Z K Z Z Z Z Z Z Z (S7 cInt Z Z Z) Z (xn 1 Z (j8 (⟨_, Z, 9, Z, Z⟩))))
theorem zI (c : PC) (globals : LI) (q : PC × Int) (F : cG c globals = some q) : FC Tryz.prog 64 [.agg (cCore.row 0 c), .psl 0 1 (globals.map (cInt.enc 0))] [] 8 (fun x _ => x = .tup [.agg (cCore.row 1 q.1), .int .i64 q.2]) := by
 unfold cG at F
 obtain ⟨x3, hx3, F⟩ := d7 F
 obtain ⟨hb4, F⟩ := g7 F
 refine FC.of_le (bdy Tryz.func64 Tryz.ntmps64 Z Z Z (qn 3 Z (qn 1 Z (i9 (at_peel (i9 (qn 2 Z (d6 (iW (id := 3) 5 ⟨[(1, .psl 0 1 (globals.map (cInt.enc 0))), (2, .ptr 8 1 0 0), (4, .ptr 9 1 0 0), (6, .int .i64 0), (7, .ptr 10 1 0 0), (8, .agg (cCore.row 0 c)), (12, .hsl 11 0 (x3 ++ globals).length)], [(8, ⟨8, [cCore.row 0 c]⟩), (9, ⟨8, [A0]⟩), (10, ⟨1, [[.int .i64 0]]⟩), (11, ⟨1, (x3 ++ globals).map (cInt.enc 0)⟩)], 12, 21, []⟩ (by kernel_rfl) (by kernel_rfl) ?_ ?_)))))))))
 ·refine E6 [] Z ?_
  repeat' first | refine xn 1 Z ?_ | refine B7 cInt (l := 0) (xs := x3) (ys := globals) hb4 Z K Z Z Z Z Z Z Z (cW cInt (l := 0) Z Z Z) Z (j9 ?_) | refine aE (sC c x3 hx3) Z (i7 (s4 (p9 cCore c Z)) o8) (Cd.rlR cInt f01 0 _) Z (fun j => by simp [V.rnA, V.rnAL, V.rl, upJ, dn]) Z (j9 ?_) | refine j3 [0, 1, 2, 3] [4] (by kernel_rfl) Z (f6 Z ?_ j5) | refine j3 [0, 1, 3] [2] (by kernel_rfl) Z (f6 Z ?_ j5) | refine j3 [0, 1, 2] [3] (by kernel_rfl) Z (f6 Z ?_ j5) | refine j3 [1, 2, 3, 4] [0] (by kernel_rfl) Z (f6 Z ?_ j5) | refine j3 [1, 2, 3] [0, 4] (by kernel_rfl) Z (f6 Z ?_ (f6 Z ?_ j5)) | refine j3 [0, 1] [2, 3] (by kernel_rfl) Z (f6 Z ?_ (f6 Z ?_ j5)) | refine j3 [0, 3] [1] (by kernel_rfl) Z (f6 Z ?_ j5) | refine j3 [1, 3] [0, 2] (by kernel_rfl) Z (f6 Z ?_ (f6 Z ?_ j5)) | refine j3 [0] [1, 3] (by kernel_rfl) Z (f6 Z ?_ (f6 Z ?_ j5)) | refine j3 [1, 2] [0, 3] (by kernel_rfl) Z (f6 Z ?_ (f6 Z ?_ j5)) | refine j3 [1] [0, 2, 3] (by kernel_rfl) Z (f6 Z ?_ (f6 Z ?_ (f6 Z ?_ j5))) | refine j3 [3] [0, 1] (by kernel_rfl) Z (f6 Z ?_ (f6 Z ?_ j5)) | refine j3 [] [0, 1, 3] (by kernel_rfl) Z (f6 Z ?_ (f6 Z ?_ (f6 Z ?_ j5))) | exact S9 (by kernel_rfl) (f7 (e8 (m5 cInt Z (f9 Z (f9 Z (f9 Z (f9 Z (ee_ag cCore Z (f9 Z j1))))))) (z8 cCore Z (A7 Z (A7 Z (l7 Z j2)))) Z Z Z Z))
 ·obtain ⟨x4, hx4, F⟩ := d7 F
  obtain ⟨H1, F⟩ := g7 F
  refine call_lr0 [10] [11] Z Z Z Z Z (N3 (ru_rl (p9 cCore c Z)) (N3 (ru_hslF Z (by simp) Z (cInt.rlR _ 0 _)) (N3 (ru_ptr Z Z) ah5))) Z (.cons (u4 (d9 Z l6)) .nil) (.cons (u4 (d9 Z l6)) .nil) Z (cU Z pE) (cU Z pE) (fc_n1 (zK RF c (x3 ++ globals) 0 x4 hx4)) (m7 _ (K6 cCore x4.1 Z)) (K6 cCore x4.1 Z) Z (xn 1 Z (qx 2 Z (t7 K Z Z Z H1 Z (xn 1 Z (qn 2 Z (l5 F Z (fun G F => ?_) (fun G F => ?_)))))))
  ·obtain rfl := g8 F
   exact d6 (e7 [2, 4, 6] Z (gn 4 Z (j8 (A2 (u5 (A2 (s7 Z (i8 _))))))))
  ·refine f8 (I2 (cl_loopP (σ := Int × PC) (fun v => match v with | (total5, c6) => ⟨[(1, .psl 0 1 (globals.map (cInt.enc 0))), (2, .ptr 8 1 0 0), (4, .ptr 9 1 0 0), (6, .int .i64 total5)], [(8, ⟨8, [cCore.row 1 c6]⟩), (9, ⟨8, [A0]⟩)], 12, 21, []⟩) (eQ globals) LF ((0 + x4.2), x4.1) F (f7 (e8 (m5 cInt Z (f9 Z (f9 Z (f9 Z j1)))) (z8 cCore Z (A7 Z j2)) Z Z Z Z)) ?_))
   rintro go7 ⟨total5, c6⟩ F
   replace F : R0 globals go7 total5 c6 = some q := F
   unfold R0 at F
   obtain ⟨x8, hx8, F⟩ := d7 F
   obtain ⟨hb4, F⟩ := g7 F
   refine at_eq (s' := ⟨[(1, .psl 0 1 (globals.map (cInt.enc 0))), (2, .ptr 8 1 0 0), (4, .ptr 9 1 0 0), (6, .int .i64 total5)], [(8, ⟨8, [cCore.row 1 c6]⟩), (9, ⟨8, [A0]⟩)], 12, 21, []⟩) Z (i9 (qn 2 Z (d6 (iW (id := 3) 5 ⟨[(1, .psl 0 1 (globals.map (cInt.enc 0))), (2, .ptr 8 1 0 0), (4, .ptr 9 1 0 0), (6, .int .i64 total5), (7, .ptr 12 1 0 0), (8, .agg (cCore.row 1 c6)), (12, .hsl 13 0 (x8 ++ globals).length)], [(8, ⟨8, [cCore.row 1 c6]⟩), (9, ⟨8, [A0]⟩), (12, ⟨1, [[.int .i64 0]]⟩), (13, ⟨1, (x8 ++ globals).map (cInt.enc 0)⟩)], 14, 21, []⟩ (by kernel_rfl) (by kernel_rfl) ?_ ?_))))
   ·refine E6 [] Z ?_
    repeat' first | refine xn 1 Z ?_ | refine B7 cInt (l := 0) (xs := x8) (ys := globals) hb4 Z K Z Z Z Z Z Z Z (cW cInt (l := 0) Z Z Z) Z (j9 ?_) | refine aE (sC c6 x8 hx8) Z (i7 (s4 (wM cCore c6 Z)) o8) (Cd.rlR cInt f01 0 _) Z (fun j => by simp [V.rnA, V.rnAL, V.rl, upJ, dn]) Z (j9 ?_) | refine j3 [0, 1, 2, 3] [4] (by kernel_rfl) Z (f6 Z ?_ j5) | refine j3 [0, 1, 3] [2] (by kernel_rfl) Z (f6 Z ?_ j5) | refine j3 [0, 1, 2] [3] (by kernel_rfl) Z (f6 Z ?_ j5) | refine j3 [1, 2, 3, 4] [0] (by kernel_rfl) Z (f6 Z ?_ j5) | refine j3 [1, 2, 3] [0, 4] (by kernel_rfl) Z (f6 Z ?_ (f6 Z ?_ j5)) | refine j3 [0, 1] [2, 3] (by kernel_rfl) Z (f6 Z ?_ (f6 Z ?_ j5)) | refine j3 [0, 3] [1] (by kernel_rfl) Z (f6 Z ?_ j5) | refine j3 [1, 3] [0, 2] (by kernel_rfl) Z (f6 Z ?_ (f6 Z ?_ j5)) | refine j3 [0] [1, 3] (by kernel_rfl) Z (f6 Z ?_ (f6 Z ?_ j5)) | refine j3 [1, 2] [0, 3] (by kernel_rfl) Z (f6 Z ?_ (f6 Z ?_ j5)) | refine j3 [1] [0, 2, 3] (by kernel_rfl) Z (f6 Z ?_ (f6 Z ?_ (f6 Z ?_ j5))) | refine j3 [3] [0, 1] (by kernel_rfl) Z (f6 Z ?_ (f6 Z ?_ j5)) | refine j3 [] [0, 1, 3] (by kernel_rfl) Z (f6 Z ?_ (f6 Z ?_ (f6 Z ?_ j5))) | exact S9 (by kernel_rfl) (f7 (e8 (m5 cInt Z (f9 Z (f9 Z (f9 Z (f9 Z (ee_ag cCore Z (f9 Z j1))))))) (z8 cCore Z (A7 Z (A7 Z (l7 Z j2)))) Z Z Z Z))
   ·obtain ⟨x9, hx9, F⟩ := d7 F
    obtain ⟨H1, F⟩ := g7 F
    refine call_lr0 [12] [13] Z Z Z Z Z (N3 (ru_rl (wM cCore c6 Z)) (N3 (ru_hslF Z (by simp) Z (cInt.rlR _ 0 _)) (N3 (ru_ptr Z Z) ah5))) Z (.cons (u4 (d9 Z l6)) .nil) (.cons (u4 (d9 Z l6)) .nil) Z (cU Z pE) (cU Z pE) (fc_n1 (zK RF c6 (x8 ++ globals) 0 x9 hx9)) (m7 _ (K6 cCore x9.1 Z)) (K6 cCore x9.1 Z) Z (xn 1 Z (qx 2 Z (t7 K Z Z Z H1 Z (xn 1 Z (qn 2 Z (l5 F Z (fun G F => ?_) (fun G F => ?_)))))))
    ·obtain rfl := g8 F
     exact d6 (e7 [2, 4, 6] Z (gn 4 Z (j8 (A2 (cP (A2 (s7 Z (i8 _))))))))
    ·exact f8 (I2 (m0 ⟨((total5 + x9.2), x9.1), F, (f7 (e8 (m5 cInt Z (f9 Z (f9 Z (f9 Z j1)))) (z8 cCore Z (A7 Z j2)) Z Z Z Z))⟩))
theorem tT (c : PC) (q : PC × Int) (F : X6 c = some q) : FC Tryz.prog 21 [.agg (cCore.row 0 c)] [] 8 (fun x _ => x = .tup [.agg (cCore.row 1 q.1), .int .i64 q.2]) := by
 unfold X6 at F
 obtain ⟨x2, hx2, F⟩ := d7 F
 refine FC.of_le (bdy Tryz.func21 Tryz.ntmps21 Z Z Z (qn 3 Z (d6 (qx 1 Z (j7 (s_l5Valid_ok c x2 hx2) Z ((e9 (p9 cCore c Z) j4)) Z Z (xn 1 Z (X3 F Z (fun G F => ?_) (fun G F => ?_))))))))
 ·obtain rfl := g8 F
  exact qr (sv Z (l0 K Z Z) Z (xn 2 Z (j8 (u5 (s7 Z (O4 (.cons Q3 (.cons (i8 _) .nil))))))))
 ·obtain ⟨x3, hx3, F⟩ := d7 F
  obtain rfl := g8 F
  exact f8 (qx 1 Z (j7 (FC.weaken (zI c [] x3 hx3) (.cons (i8 _) (.cons (O3 _ _) .nil))) Z ((e9 (p9 cCore c Z) (e9 (Z) j4))) (cR (e9 (K6 cCore x3.1 Z) (e9 (Z) j4))) Z (xn 6 Z (d6 (e7 [2, 4, 5] Z (gn 4 Z (u0 Z)))))))
end Go.Proofs.YtmgigglpdhoneaaGreat
