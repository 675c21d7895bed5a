
import Derived.Test.YtmgigglpdhoneaaGreatLibP
import Derived.Test.YtmgigglpdhoneaaGreatGwA
set_option linter.unusedVariables false
set_option linter.unusedSimpArgs false
namespace Go.Proofs.YtmgigglpdhoneaaGreat
open Go.Abs
attribute [local irreducible] AT AOps FC DN APl
set_option maxRecDepth 10000
set_option maxHeartbeats 4000000
theorem eB (list : LI) (q : LI) (F : cQ list = some q) : FC Tryz.prog 79 [.psl 0 1 (list.map (cInt.enc 0))] [] 8 (fun x h2 => ∃ j, x = .hsl j 0 q.length ∧ hget h2 j = some ⟨1, q.map (cInt.enc 0)⟩) := by
 unfold cQ at F
 obtain ⟨H1, F⟩ := f5 F
 obtain rfl := f6 F
 exact bdy Tryz.func79 Tryz.ntmps79 Z Z Z (qn 1 Z (qr (J5 cInt (l := 0) ([] : LI) K Z Z Z Z Z Z Z (xq 1 Z (B9 cInt (l := 0) (xs := ([] : LI)) (ys := list) H1 Z K Z Z Z Z Z Z Z (fT cInt (l := 0) Z Z Z) Z (xn 1 Z (i8 (⟨_, Z, 8, Z, Z⟩))))))))
def yT (D9 : PC → Int → Option (Bool × Int)) : Prop := ∀ (c : PC) (left : Int) (q : Bool × Int), D9 c left = some q → FC Tryz.prog 143 [.agg (cCore.row 0 c), .ptr 0 1 0 0] [(0, ⟨1, [cInt.row 1 left]⟩)] 8 (fun x h2 => x = .bool q.1 ∧ hget h2 0 = some ⟨1, [cInt.row 1 q.2]⟩)
theorem s_l5Few_bok (D9 : PC → Int → Option (Bool × Int)) (h_s_l5Few : yT D9) : yT (lX D9) := by
 intro c left q F
 unfold lX at F
 obtain ⟨H1, F⟩ := f5 F
 refine FC.of_le_lent (bdy Tryz.func143 Tryz.ntmps143 Z Z Z (qn 2 Z (qx 4 Z (kT K Z Z Z H1 Z (xn 2 Z (c6 (c6 (d6 [1, 2] Z (gn 1 Z (f8 (t4 (fun i4 left5 => ⟨[(1, .ptr 0 1 0 0), (2, .ptr 8 1 0 0), (5, .int .i64 i4)], [(0, ⟨1, [[.int .i64 left5]]⟩), (8, ⟨8, [cCore.row 0 c]⟩)], 9, 36, []⟩) (tM D9 c) LF 0 (left - 1) F (e7 (d8 (e9 Z (e9 Z (e9 Z g7))) (A1 Z (y9 cCore Z g8)) Z Z Z Z)) ?_)))))))))))
 intro go6 i4 left5 F
 replace F : Y6 D9 c go6 i4 left5 = some q := F
 unfold Y6 at F
 refine c6 (c6 (u4 (fun (x7 : Bool) => ⟨[(1, .ptr 0 1 0 0), (2, .ptr 8 1 0 0), (5, .int .i64 i4), (22, .bool x7)], [(0, ⟨1, [[.int .i64 left5]]⟩), (8, ⟨8, [cCore.row 0 c]⟩)], 9, 36, []⟩) (fun x7 => bC D9 c i4 left5 go6 x7 = some q) ?_ ?_))
 ·refine gx 3 Z (sv Z (n8 cCore K Z Z Z) Z (xq 2 Z (m8 (g := 17) F Z (fun G F => ?_) (fun G F => ?_))))
  ·exact xn 5 Z (j5 ⟨(decide (left5 ≥ 0)), F, (e7 (d8 (e9 Z (e9 Z (e9 Z (e9 Z g7)))) (A1 Z (y9 cCore Z g8)) Z Z Z Z))⟩)
  ·exact xn 5 Z (j5 ⟨false, F, (e7 (d8 (e9 Z (e9 Z (e9 Z (e9 Z g7)))) (A1 Z (y9 cCore Z g8)) Z Z Z Z))⟩)
 ·intro x7 F
  replace F : bC D9 c i4 left5 go6 x7 = some q := F
  unfold bC at F
  refine kZ F Z (fun G F => ?_) (fun G F => ?_)
  ·obtain ⟨x8, hn_x8, F⟩ := c7 F
   obtain ⟨x9, hx9, F⟩ := c7 F
   obtain ⟨H1, F⟩ := f5 F
   exact e8 (c6 (f8 (gx 3 Z (sv Z (j3 cCore hn_x8 K Z Z Z Z) Z (xq 2 Z (B2 0 (h_s_l5Few x8 left5 x9 hx9) Z (c9 (m7 _ (o6 cCore x8 Z)) (c9 Z j9)) Z Z Z Z Z (j6 (I5 (d6 [1, 2, 5] Z (gx 1 Z (t6 K Z Z Z H1 Z (xn 1 Z (l6 ⟨((i4 + 1), x9.2), F, (e7 (d8 (e9 Z (e9 Z (e9 Z g7))) (A1 Z (y9 cCore Z g8)) Z Z Z Z))⟩)))))))))))))
  ·obtain rfl := f6 F
   exact o3 (W4 (W3 (s9 (qn 5 Z (i8 (w8 Z ((d7 _)) Z))))))
theorem s_l5Few_ok (n : Nat) : yT (D9 n) := by
 induction n with
 | zero => exact fun _ _ q h => by cases h
 | succ n ih => exact fun c left q h => s_l5Few_bok (D9 n) ih c left q h
theorem uN (c : PC) (q : Bool) (F : hU c = some q) : FC Tryz.prog 86 [.agg (cCore.row 0 c)] [] 8 (fun x _ => x = .bool q) := by
 unfold hU at F
 obtain ⟨x2, hx2, F⟩ := c7 F
 obtain rfl := f6 F
 exact FC.of_le (bdy Tryz.func86 Tryz.ntmps86 Z Z Z (qn 2 Z (qn 2 Z (qx 1 Z (B2 9 (s_l5Few_ok RF c 3000 x2 hx2) Z (c9 (m7 _ (o6 cCore c Z)) (c9 Z j9)) Z Z Z Z Z (xn 1 Z (u0 Z)))))))
theorem E5 (list : LI) (x_1 : Int) (q : Bool) (F : F8 list x_1 = some q) : FC Tryz.prog 88 [.psl 0 1 (list.map (cInt.enc 0)), .int .i64 x_1] [] 8 (fun x _ => x = .bool q) := by
 unfold F8 at F
 refine FC.of_le (bdy Tryz.func88 Tryz.ntmps88 Z Z Z (qn 1 Z (c6 (qx 1 Z (sv Z (n8 cInt K Z Z Z) Z (xn 1 Z (f8 (J8 (fun x3 => ⟨[(1, .int .i64 x_1), (7, .psl 0 1 (list.map (cInt.enc 0))), (8, .int .i64 (list.length : Int)), (9, .int .i64 x3)], [], 8, 17, []⟩) (rK list x_1) LF 0 F (e7 (d8 (e9 Z (l7 cInt Z (e9 Z (e9 Z g7)))) g8 Z Z Z Z)) ?_))))))))
 intro go4 x3 F
 replace F : gC list x_1 go4 x3 = some q := F
 unfold gC at F
 refine qn 1 Z (c6 (j8 F Z (fun G F => ?_) (fun G F => ?_)))
 ·obtain ⟨x5, hn_x5, F⟩ := c7 F
  refine e8 (c6 (f8 (qr (sv Z (j3 cInt hn_x5 K Z Z Z Z) Z (xn 2 Z (qn 3 Z (j8 F Z (fun G F => ?_) (fun G F => ?_))))))))
  ·obtain rfl := f6 F
   exact c6 (d6 [] Z (gn 1 Z (i8 (z4 (q8 (cO (z4 (q8 (l5 Z (d7 _))))))))))
  ·obtain ⟨H1, F⟩ := f5 F
   exact e8 (I5 (d6 [1, 7, 8, 9] Z (i9 (t6 K Z Z Z H1 Z (xn 1 Z (l6 ⟨(x3 + 1), F, (e7 (d8 (e9 Z (l7 cInt Z (e9 Z (e9 Z g7)))) g8 Z Z Z Z))⟩))))))
 ·obtain rfl := f6 F
  exact o3 (W4 (W3 (s9 (qn 1 Z (u0 Z)))))
theorem fO (c : PC) (q : Bool) (F : cD c = some q) : FC Tryz.prog 178 [.agg (cCore.row 0 c)] [] 8 (fun x _ => x = .bool q) := by
 unfold cD at F
 refine FC.of_le (bdy Tryz.func178 Tryz.ntmps178 Z Z Z (qn 2 Z (qx 4 Z (m8 (g := 6) F Z (fun G F => ?_) (fun G F => ?_)))))
 ·obtain rfl := f6 F
  exact xn 5 Z (u0 Z)
 ·obtain rfl := f6 F
  exact xn 5 Z (u0 Z)
def tN (v7 : PC → LI → LI → Option (LI)) : Prop := ∀ (c : PC) (bound : LI) (out : LI) (q : LI), v7 c bound out = some q → FC Tryz.prog 144 [.agg (cCore.row 0 c), .hsl 0 0 bound.length, .hsl 1 0 out.length] (numb 0 [⟨1, bound.map (cInt.enc 0)⟩, ⟨1, out.map (cInt.enc 0)⟩]) 8 (fun x h2 => x = .hsl 1 0 q.length ∧ rowsAt h2 0 [⟨1, bound.map (cInt.enc 0)⟩, ⟨1, q.map (cInt.enc 0)⟩])
theorem s_l5Free_bok (v7 : PC → LI → LI → Option (LI)) (h_s_l5Free : tN v7) : tN (hO v7) := by
 intro c bound out q F
 unfold hO at F
 refine FC.of_le_lent (bdy Tryz.func144 Tryz.ntmps144 Z Z Z (qn 2 Z (c6 (c6 (u4 (fun (x5 : Bool) => ⟨[(1, .hsl 0 0 bound.length), (2, .hsl 1 0 out.length), (3, .ptr 8 1 0 0), (24, .bool x5)], [(0, ⟨1, bound.map (cInt.enc 0)⟩), (1, ⟨1, out.map (cInt.enc 0)⟩), (8, ⟨8, [cCore.row 0 c]⟩)], 9, 48, []⟩) (fun x5 => U5 v7 c bound out x5 = some q) ?_ ?_)))))
 ·obtain ⟨x5, hx5, F⟩ := c7 F
  refine gx 1 Z (j2 (fO c x5 hx5) Z ((d9 (o6 cCore c Z) i7)) Z Z (xq 1 Z (Y3 (g := 11) F Z (fun G F => ?_) (fun G F => ?_))))
  ·obtain ⟨x6, hx6, F⟩ := c7 F
   refine xq 3 Z (N9 (E5 bound c.number x6 hx6) Z (f9 (O7 Z (by simp) (cInt.rlR _ 0 _)) (f9 (s8 (Z)) o8)) Z Z (xq 3 Z (X8 (g := 18) F Z (fun G F => ?_) (fun G F => ?_))))
   ·obtain ⟨x7, hx7, F⟩ := c7 F
    exact xq 3 Z (N9 (E5 out c.number x7 hx7) Z (f9 (O7 Z (by simp) (cInt.rlR _ 0 _)) (f9 (s8 (Z)) o8)) Z Z (xn 2 Z (j5 ⟨(!x7), F, (e7 (d8 (e9 Z (e9 Z (e9 Z (e9 Z g7)))) (l4 Z (l4 Z (y9 cCore Z g8))) Z Z Z Z))⟩)))
   ·exact xn 6 Z (j5 ⟨false, F, (e7 (d8 (e9 Z (e9 Z (e9 Z (e9 Z g7)))) (l4 Z (l4 Z (y9 cCore Z g8))) Z Z Z Z))⟩)
  ·exact xn 13 Z (j5 ⟨false, F, (e7 (d8 (e9 Z (e9 Z (e9 Z (e9 Z g7)))) (l4 Z (l4 Z (y9 cCore Z g8))) Z Z Z Z))⟩)
 ·intro x5 F
  replace F : U5 v7 c bound out x5 = some q := F
  unfold U5 at F
  refine u4 (fun (out6 : LI) => ⟨[(1, .hsl 0 0 bound.length), (2, .hsl 1 0 out6.length), (3, .ptr 8 1 0 0)], [(0, ⟨1, bound.map (cInt.enc 0)⟩), (1, ⟨1, out6.map (cInt.enc 0)⟩), (8, ⟨8, [cCore.row 0 c]⟩)], 9, 48, []⟩) (fun out6 => Y7 v7 c bound out6 = some q) ?_ ?_
  ·refine kZ F Z (fun G F => ?_) (fun G F => ?_)
   ·obtain ⟨H1, F⟩ := f5 F
    exact gx 3 Z (J5 cInt (l := 0) ([c.number] : LI) K Z Z Z Z Z Z Z (B9 cInt (l := 0) (xs := out) (ys := ([c.number] : LI)) H1 Z K Z Z Z Z Z Z Z (W0 cInt Z Z Z) Z (xn 1 Z (j5 ⟨(out ++ ([c.number] : LI)), F, (e7 (d8 (e9 Z (e9 Z (e9 Z g7))) (l4 Z (l4 Z (y9 cCore Z g8))) Z Z Z Z))⟩))))
   ·exact e8 (j5 ⟨out, F, (e7 (d8 (e9 Z (e9 Z (e9 Z g7))) (l4 Z (l4 Z (y9 cCore Z g8))) Z Z Z Z))⟩)
  ·intro out6 F
   replace F : Y7 v7 c bound out6 = some q := F
   unfold Y7 at F
   obtain ⟨x7, hx7, F⟩ := c7 F
   refine c6 (nY (id := 3) 4 ⟨[(2, .hsl 1 0 out6.length), (3, .ptr 8 1 0 0), (31, .hsl 9 0 x7.length), (33, .psl 0 1 (c.params.map (cInt.enc 0)))], [(0, ⟨1, bound.map (cInt.enc 0)⟩), (1, ⟨1, out6.map (cInt.enc 0)⟩), (8, ⟨8, [cCore.row 0 c]⟩), (9, ⟨1, x7.map (cInt.enc 0)⟩)], 10, 48, []⟩ (by kernel_rfl) (by kernel_rfl) ?_ ?_)
   ·refine W1 [] Z ?_
    repeat' first | refine xn 1 Z ?_ | refine fW (eB bound x7 hx7) Z (f9 (O7 Z (by simp) (cInt.rlR _ 0 _)) o8) (Cd.rlR cInt f01 0 _) Z (fun j => by simp [V.rnA, V.rnAL, V.rl, upJ, dn]) Z (j6 ?_) | refine j1 [0, 1, 2] [3] (by kernel_rfl) Z (g9 Z ?_ j7) | refine j1 [0, 2, 3] [1] (by kernel_rfl) Z (g9 Z ?_ j7) | refine j1 [0, 2] [1, 3] (by kernel_rfl) Z (g9 Z ?_ (g9 Z ?_ j7)) | refine j1 [0, 1] [2] (by kernel_rfl) Z (g9 Z ?_ j7) | refine j1 [0] [1, 2] (by kernel_rfl) Z (g9 Z ?_ (g9 Z ?_ j7)) | refine j1 [2, 3] [0] (by kernel_rfl) Z (g9 Z ?_ j7) | refine j1 [2] [0, 3] (by kernel_rfl) Z (g9 Z ?_ (g9 Z ?_ j7)) | refine j1 [] [0, 2] (by kernel_rfl) Z (g9 Z ?_ (g9 Z ?_ j7)) | exact Z8 (by kernel_rfl) (e7 (d8 (e9 Z (e9 Z (e9 Z (l7 cInt Z g7)))) (l4 Z (l4 Z (y9 cCore Z (l4 Z g8)))) Z Z Z Z))
   ·obtain ⟨H1, F⟩ := f5 F
    refine B9 cInt (l := 0) (xs := x7) (ys := c.params) H1 Z K Z Z Z Z Z Z Z (fT cInt (l := 0) Z Z Z) Z (xn 1 Z (c6 (qx 2 Z (sv Z (n8 cCore K Z Z Z) Z (xn 1 Z (f8 (t4 (fun x8 out9 => ⟨[(1, .hsl 9 0 (x7 ++ c.params).length), (2, .hsl 1 0 out9.length), (36, .psl 0 8 (c.kids.map (cCore.enc 0))), (37, .int .i64 (c.kids.length : Int)), (38, .int .i64 x8)], [(0, ⟨1, bound.map (cInt.enc 0)⟩), (1, ⟨1, out9.map (cInt.enc 0)⟩), (9, ⟨1, (x7 ++ c.params).map (cInt.enc 0)⟩)], 10, 48, []⟩) (pI v7 c x7) LF 0 out6 F (e7 (d8 (e9 Z (e9 Z (l7 cCore Z (e9 Z (e9 Z g7))))) (l4 Z (l4 Z (l4 Z g8))) Z Z Z Z)) ?_)))))))
    intro go10 x8 out9 F
    replace F : lZ v7 c x7 go10 x8 out9 = some q := F
    unfold lZ at F
    refine qn 1 Z (c6 (j8 F Z (fun G F => ?_) (fun G F => ?_)))
    ·obtain ⟨x11, hn_x11, F⟩ := c7 F
     obtain ⟨x12, hx12, F⟩ := c7 F
     obtain ⟨H1, F⟩ := f5 F
     exact e8 (c6 (f8 (qr (sv Z (j3 cCore hn_x11 K Z Z Z Z) Z (xn 3 Z (gx 3 Z (K0 [9, 1] (h_s_l5Free x11 (x7 ++ c.params) out9 x12 hx12) Z Z Z Z (c9 (m7 _ (o6 cCore x11 Z)) (c9 Z (c9 Z j9))) Z (.cons (Cd.rnR cInt _ (x7 ++ c.params) Z) (.cons (Cd.rnR cInt _ out9 Z) .nil)) (y8 Z) (.cons (Cd.rnR cInt _ (x7 ++ c.params) Z) (.cons (Cd.rnR cInt _ x12 Z) .nil)) Z (xn 1 Z (I5 (d6 [1, 2, 36, 37, 38] Z (i9 (t6 K Z Z Z H1 Z (xn 1 Z (l6 ⟨((x8 + 1), x12), F, (e7 (d8 (e9 Z (e9 Z (l7 cCore Z (e9 Z (e9 Z g7))))) (l4 Z (l4 Z (l4 Z g8))) Z Z Z Z))⟩))))))))))))))
    ·obtain rfl := f6 F
     exact o3 (W4 (W3 (s9 (qn 2 Z (i8 (W9 Z ((d7 _)) (raC Z (ra1 Z))))))))
theorem s_l5Free_ok (n : Nat) : tN (v7 n) := by
 induction n with
 | zero => exact fun _ _ _ q h => by cases h
 | succ n ih => exact fun c bound out q h => s_l5Free_bok (v7 n) ih c bound out q h
theorem s_l5FreeA_ok (c : PC) (bound : LI) (out : LI) (q : LI) (F : rQ c bound out = some q) : FC Tryz.prog 144 [.agg (cCore.row 0 c), .psl 0 1 (bound.map (cInt.enc 0)), .hsl 0 0 out.length] [(0, ⟨1, out.map (cInt.enc 0)⟩)] 8 (fun x h2 => x = .hsl 0 0 q.length ∧ hget h2 0 = some ⟨1, q.map (cInt.enc 0)⟩) := by
 unfold rQ at F
 refine FC.of_le_lent (bdy Tryz.func144 Tryz.ntmps144 Z Z Z (qn 2 Z (c6 (c6 (u4 (fun (x4 : Bool) => ⟨[(1, .psl 0 1 (bound.map (cInt.enc 0))), (2, .hsl 0 0 out.length), (3, .ptr 8 1 0 0), (24, .bool x4)], [(0, ⟨1, out.map (cInt.enc 0)⟩), (8, ⟨8, [cCore.row 0 c]⟩)], 9, 48, []⟩) (fun x4 => N6 c bound out x4 = some q) ?_ ?_)))))
 ·obtain ⟨x4, hx4, F⟩ := c7 F
  refine gx 1 Z (j2 (fO c x4 hx4) Z ((d9 (o6 cCore c Z) i7)) Z Z (xq 1 Z (Y3 (g := 11) F Z (fun G F => ?_) (fun G F => ?_))))
  ·obtain ⟨x5, hx5, F⟩ := c7 F
   refine xq 3 Z (j2 (E5 bound c.number x5 hx5) Z ((d9 (M4 cInt bound Z) (d9 (Z) i7))) Z Z (xq 3 Z (X8 (g := 18) F Z (fun G F => ?_) (fun G F => ?_))))
   ·obtain ⟨x6, hx6, F⟩ := c7 F
    exact xq 3 Z (N9 (E5 out c.number x6 hx6) Z (f9 (O7 Z (by simp) (cInt.rlR _ 0 _)) (f9 (s8 (Z)) o8)) Z Z (xn 2 Z (j5 ⟨(!x6), F, (e7 (d8 (l7 cInt Z (e9 Z (e9 Z (e9 Z g7)))) (l4 Z (y9 cCore Z g8)) Z Z Z Z))⟩)))
   ·exact xn 6 Z (j5 ⟨false, F, (e7 (d8 (l7 cInt Z (e9 Z (e9 Z (e9 Z g7)))) (l4 Z (y9 cCore Z g8)) Z Z Z Z))⟩)
  ·exact xn 13 Z (j5 ⟨false, F, (e7 (d8 (l7 cInt Z (e9 Z (e9 Z (e9 Z g7)))) (l4 Z (y9 cCore Z g8)) Z Z Z Z))⟩)
 ·intro x4 F
  replace F : N6 c bound out x4 = some q := F
  unfold N6 at F
  refine u4 (fun (out5 : LI) => ⟨[(1, .psl 0 1 (bound.map (cInt.enc 0))), (2, .hsl 0 0 out5.length), (3, .ptr 8 1 0 0)], [(0, ⟨1, out5.map (cInt.enc 0)⟩), (8, ⟨8, [cCore.row 0 c]⟩)], 9, 48, []⟩) (fun out5 => U4 c bound out5 = some q) ?_ ?_
  ·refine kZ F Z (fun G F => ?_) (fun G F => ?_)
   ·obtain ⟨H1, F⟩ := f5 F
    exact gx 3 Z (J5 cInt (l := 0) ([c.number] : LI) K Z Z Z Z Z Z Z (B9 cInt (l := 0) (xs := out) (ys := ([c.number] : LI)) H1 Z K Z Z Z Z Z Z Z (W0 cInt Z Z Z) Z (xn 1 Z (j5 ⟨(out ++ ([c.number] : LI)), F, (e7 (d8 (l7 cInt Z (e9 Z (e9 Z g7))) (l4 Z (y9 cCore Z g8)) Z Z Z Z))⟩))))
   ·exact e8 (j5 ⟨out, F, (e7 (d8 (l7 cInt Z (e9 Z (e9 Z g7))) (l4 Z (y9 cCore Z g8)) Z Z Z Z))⟩)
  ·intro out5 F
   replace F : U4 c bound out5 = some q := F
   unfold U4 at F
   obtain ⟨x6, hx6, F⟩ := c7 F
   obtain ⟨H1, F⟩ := f5 F
   refine c6 (A6 (id := 3) 4 (by kernel_rfl) (by kernel_rfl) (nx K Z (n_own (by simp) (Cd.flats cInt x6 Z) (eB bound x6 hx6) Z (c9 (m7 _ (M4 cInt bound Z)) j9) (Cd.rnR cInt _ x6 Z) Z (nx K Z (nx K Z (E3 Z (n9 (E9 (y := .hsl 9 0 x6.length) 31 Z (N7 (congrArg (V.hsl 9 0) (by simp))) Z) (B9 cInt (l := 0) (xs := x6) (ys := c.params) H1 Z K Z Z Z Z Z Z Z (fT cInt (l := 0) Z Z Z) Z (xn 1 Z (c6 (qx 2 Z (sv Z (n8 cCore K Z Z Z) Z (xn 1 Z (f8 (t4 (fun x7 out8 => ⟨[(1, .hsl 9 0 (x6 ++ c.params).length), (2, .hsl 0 0 out8.length), (36, .psl 0 8 (c.kids.map (cCore.enc 0))), (37, .int .i64 (c.kids.length : Int)), (38, .int .i64 x7)], [(0, ⟨1, out8.map (cInt.enc 0)⟩), (9, ⟨1, (x6 ++ c.params).map (cInt.enc 0)⟩)], 10, 48, []⟩) (lY c x6) LF 0 out5 F (e7 (d8 (e9 Z (e9 Z (l7 cCore Z (e9 Z (e9 Z g7))))) (l4 Z (l4 Z g8)) Z Z Z Z)) ?_)))))))))))))))
   intro go9 x7 out8 F
   replace F : jS c x6 go9 x7 out8 = some q := F
   unfold jS at F
   refine qn 1 Z (c6 (j8 F Z (fun G F => ?_) (fun G F => ?_)))
   ·obtain ⟨x10, hn_x10, F⟩ := c7 F
    obtain ⟨x11, hx11, F⟩ := c7 F
    obtain ⟨H1, F⟩ := f5 F
    exact e8 (c6 (f8 (qr (sv Z (j3 cCore hn_x10 K Z Z Z Z) Z (xn 3 Z (gx 3 Z (K0 [9, 0] (s_l5Free_ok RF x10 (x6 ++ c.params) out8 x11 hx11) Z Z Z Z (c9 (m7 _ (o6 cCore x10 Z)) (c9 Z (c9 Z j9))) Z (.cons (Cd.rnR cInt _ (x6 ++ c.params) Z) (.cons (Cd.rnR cInt _ out8 Z) .nil)) (y8 Z) (.cons (Cd.rnR cInt _ (x6 ++ c.params) Z) (.cons (Cd.rnR cInt _ x11 Z) .nil)) Z (xn 1 Z (I5 (d6 [1, 2, 36, 37, 38] Z (i9 (t6 K Z Z Z H1 Z (xn 1 Z (l6 ⟨((x7 + 1), x11), F, (e7 (d8 (e9 Z (e9 Z (l7 cCore Z (e9 Z (e9 Z g7))))) (l4 Z (l4 Z g8)) Z Z Z Z))⟩))))))))))))))
   ·obtain rfl := f6 F
    exact o3 (W4 (W3 (s9 (qn 2 Z (i8 (w8 Z ((d7 _)) Z))))))
theorem aL (c : PC) (q : LI) (F : J4 c = some q) : FC Tryz.prog 87 [.agg (cCore.row 0 c)] [] 8 (fun x _ => x = .psl 1 1 (q.map (cInt.enc 1))) := by
 unfold J4 at F
 obtain ⟨x2, hx2, F⟩ := c7 F
 obtain rfl := f6 F
 exact FC.of_le (bdy Tryz.func87 Tryz.ntmps87 Z Z Z (qn 2 Z (qx 1 Z (J5 cInt (l := 0) ([] : LI) K Z Z Z Z Z Z Z (nZ 9 (FC.weaken (s_l5FreeA_ok c [] ([] : LI) x2 hx2) (.cons (d7 _) (.cons (R0 _ _) (.cons (d7 _) .nil)))) Z (c9 (m7 _ (o6 cCore c Z)) (c9 Z (c9 Z j9))) Z (Cd.rnR cInt _ ([] : LI) Z) Z (Cd.rnR cInt _ x2 Z) Z (xn 1 Z (Q9 (bZ 2 Z Z (by simp) Z) (u0 Z))))))))
def dW (r7 : PC → Option Int) : Prop := ∀ (c : PC) (q : Int), r7 c = some q → FC Tryz.prog 116 [.agg (cCore.row 0 c)] [] 8 (fun x _ => x = .int .i64 q)
theorem tI (r7 : PC → Option Int) (h_s_DepthOfCore : dW r7) : dW (S7 r7) := by
 intro c q F
 unfold S7 at F
 refine FC.of_le (bdy Tryz.func116 Tryz.ntmps116 Z Z Z (qn 2 Z (qn 1 Z (c6 (qx 2 Z (sv Z (n8 cCore K Z Z Z) Z (xn 1 Z (f8 (t4 (fun x3 x4 => ⟨[(3, .int .i64 x3), (7, .psl 0 8 (c.kids.map (cCore.enc 0))), (8, .int .i64 (c.kids.length : Int)), (9, .int .i64 x4)], [], 9, 20, []⟩) (cN r7 c) LF 0 0 F (e7 (d8 (e9 Z (l7 cCore Z (e9 Z (e9 Z g7)))) g8 Z Z Z Z)) ?_)))))))))
 intro go5 x3 x4 F
 replace F : D7 r7 c go5 x3 x4 = some q := F
 unfold D7 at F
 refine qn 1 Z (c6 (j8 F Z (fun G F => ?_) (fun G F => ?_)))
 ·obtain ⟨x6, hn_x6, F⟩ := c7 F
  obtain ⟨x7, hx7, F⟩ := c7 F
  obtain ⟨H1, F⟩ := f5 F
  exact e8 (c6 (f8 (qr (sv Z (j3 cCore hn_x6 K Z Z Z Z) Z (xn 3 Z (gx 2 Z (j2 (h_s_DepthOfCore x6 x7 hx7) Z ((d9 (o6 cCore x6 Z) i7)) Z Z (sv Z (ov_max Z Z) Z (xn 1 Z (I5 (d6 [3, 7, 8, 9] Z (i9 (t6 K Z Z Z H1 Z (xn 1 Z (l6 ⟨((max x3 x7), (x4 + 1)), F, (e7 (d8 (e9 Z (l7 cCore Z (e9 Z (e9 Z g7)))) g8 Z Z Z Z))⟩)))))))))))))))
 ·obtain ⟨H1, F⟩ := f5 F
  obtain rfl := f6 F
  exact o3 (W4 (W3 (s9 (qx 1 Z (t6 K Z Z Z H1 Z (xn 1 Z (u0 Z)))))))
theorem uY (n : Nat) : dW (r7 n) := by
 induction n with
 | zero => exact fun _ q h => by cases h
 | succ n ih => exact fun c q h => tI (r7 n) ih c q h
theorem N3 (x_1 : Int) (a : Int) (b : Int) (q : Bool) (F : aR x_1 a b = some q) : FC Tryz.prog 123 [.int .i64 x_1, .int .i64 a, .int .i64 b] [] 8 (fun x _ => x = .bool q) := by
 unfold aR at F
 refine FC.of_le (bdy Tryz.func123 Tryz.ntmps123 Z Z Z (qn 1 Z (qx 4 Z (m8 (g := 10) F Z (fun G F => ?_) (fun G F => ?_)))))
 ·obtain rfl := f6 F
  exact xn 5 Z (u0 Z)
 ·obtain rfl := f6 F
  exact xn 5 Z (u0 Z)
theorem Y4 (q : List (LB)) (F : m9 = some q) : FC Tryz.prog 181 [] [] 8 (fun x _ => x = .psl 1 1 (q.map (cStr.enc 1))) := by
 unfold m9 at F
 obtain rfl := f6 F
 exact FC.of_le (bdy Tryz.func181 Tryz.ntmps181 Z Z Z (qn 1 Z (qr (J5 cStr (l := 0) ([([43] : LB), ([45] : LB), ([42] : LB), ([61] : LB), ([60] : LB), ([99, 111, 110, 115] : LB), ([99, 97, 114] : LB), ([99, 100, 114] : LB), ([110, 117, 108, 108, 63] : LB), ([112, 97, 105, 114, 63] : LB), ([110, 117, 109, 98, 101, 114, 63] : LB), ([101, 113, 63] : LB), ([110, 111, 116] : LB), ([100, 105, 115, 112, 108, 97, 121] : LB)] : List (LB)) K Z Z Z Z Z Z Z (xn 1 Z (Q9 (bZ 0 Z Z (by simp) Z) (u0 Z)))))))
def jL (w5 : PD → PD → Option Bool) : Prop := ∀ (a : PD) (b : PD) (q : Bool), w5 a b = some q → FC Tryz.prog 190 [.agg (cDat.row 0 a), .agg (cDat.row 0 b)] [] 8 (fun x _ => x = .bool q)
theorem yQ (w5 : PD → PD → Option Bool) (h_s_EqualData : jL w5) : jL (aK w5) := by
 intro a b q F
 unfold aK at F
 refine FC.of_le (bdy Tryz.func190 Tryz.ntmps190 Z Z Z (qn 3 Z (c6 (qx 6 Z (J2 (g := 11) F Z (fun G F => ?_) (fun G F => ?_))))))
 ·obtain rfl := f6 F
  exact xn 22 Z (o9 Z (c6 (d6 [] Z (gn 1 Z (u1 Z)))))
 ·refine xq 7 Z (J2 (g := 18) F Z (fun G F => ?_) (fun G F => ?_))
  ·obtain rfl := f6 F
   exact xn 15 Z (o9 Z (c6 (d6 [] Z (gn 1 Z (u1 Z)))))
  ·refine xq 7 Z (J2 (g := 25) F Z (fun G F => ?_) (fun G F => ?_))
   ·obtain rfl := f6 F
    exact xn 8 Z (o9 Z (c6 (d6 [] Z (gn 1 Z (u1 Z)))))
   ·refine xq 2 Z (sv Z (n8 cDat K Z Z Z) Z (xq 2 Z (sv Z (n8 cDat K Z Z Z) Z (xn 2 Z (D5 F Z (fun G F => ?_) (fun G F => ?_))))))
    ·obtain rfl := f6 F
     exact c6 (d6 [] Z (gn 1 Z (u1 Z)))
    ·refine e8 (c6 (c6 (d6 [2, 3] Z (gx 2 Z (sv Z (n8 cDat K Z Z Z) Z (xn 1 Z (f8 (J8 (fun x4 => ⟨[(2, .ptr 8 1 0 0), (3, .ptr 9 1 0 0), (36, .int .i64 (a.items.length : Int)), (37, .int .i64 x4)], [(8, ⟨4, [cDat.row 0 a]⟩), (9, ⟨4, [cDat.row 0 b]⟩)], 10, 53, []⟩) (gB w5 a b) LF 0 F (e7 (d8 (e9 Z (e9 Z (e9 Z (e9 Z g7)))) (y9 cDat Z (y9 cDat Z g8)) Z Z Z Z)) ?_))))))))
     intro go5 x4 F
     replace F : dY w5 a b go5 x4 = some q := F
     unfold dY at F
     refine qn 1 Z (c6 (j8 F Z (fun G F => ?_) (fun G F => ?_)))
     ·obtain ⟨x6, hn_x6, F⟩ := c7 F
      obtain ⟨x7, hn_x7, F⟩ := c7 F
      obtain ⟨x8, hx8, F⟩ := c7 F
      refine e8 (c6 (f8 (qn 2 Z (c6 (A6 (id := 6) 10 (by kernel_rfl) (by kernel_rfl) (nx K Z (nx K Z (nx K Z (nv Z (j3 cDat hn_x6 K Z Z Z Z) Z (nx K Z (nx K Z (nx K Z (nx K Z (nv Z (j3 cDat hn_x7 K Z Z Z Z) Z (nx K Z (E3 Z (j2 (h_s_EqualData x6 x7 x8 hx8) Z ((d9 (o6 cDat x6 Z) (d9 (o6 cDat x7 Z) i7))) Z Z (xn 1 Z (W6 F Z (fun G F => ?_) (fun G F => ?_))))))))))))))))))))
      ·obtain rfl := f6 F
       exact c6 (d6 [] Z (gn 1 Z (i8 (z4 (q8 (cO (z4 (q8 (l5 Z (d7 _))))))))))
      ·obtain ⟨H1, F⟩ := f5 F
       exact e8 (I5 (d6 [2, 3, 36, 37] Z (i9 (t6 K Z Z Z H1 Z (xn 1 Z (l6 ⟨(x4 + 1), F, (e7 (d8 (e9 Z (e9 Z (e9 Z (e9 Z g7)))) (y9 cDat Z (y9 cDat Z g8)) Z Z Z Z))⟩))))))
     ·obtain rfl := f6 F
      exact o3 (W4 (W3 (s9 (qn 1 Z (u0 Z)))))
theorem zV (n : Nat) : jL (w5 n) := by
 induction n with
 | zero => exact fun _ _ q h => by cases h
 | succ n ih => exact fun a b q h => yQ (w5 n) ih a b q h
def yS (D8 : PD → Int → Option (Bool × Int)) : Prop := ∀ (d : PD) (left : Int) (q : Bool × Int), D8 d left = some q → FC Tryz.prog 200 [.agg (cDat.row 0 d), .ptr 0 1 0 0] [(0, ⟨1, [cInt.row 1 left]⟩)] 8 (fun x h2 => x = .bool q.1 ∧ hget h2 0 = some ⟨1, [cInt.row 1 q.2]⟩)
theorem s_l1Few_bok (D8 : PD → Int → Option (Bool × Int)) (h_s_l1Few : yS D8) : yS (lT D8) := by
 intro d left q F
 unfold lT at F
 obtain ⟨H1, F⟩ := f5 F
 refine FC.of_le_lent (bdy Tryz.func200 Tryz.ntmps200 Z Z Z (qn 2 Z (qx 4 Z (kT K Z Z Z H1 Z (xn 2 Z (c6 (c6 (d6 [1, 2] Z (gn 1 Z (f8 (t4 (fun i4 left5 => ⟨[(1, .ptr 0 1 0 0), (2, .ptr 8 1 0 0), (5, .int .i64 i4)], [(0, ⟨1, [[.int .i64 left5]]⟩), (8, ⟨4, [cDat.row 0 d]⟩)], 9, 36, []⟩) (tL D8 d) LF 0 (left - 1) F (e7 (d8 (e9 Z (e9 Z (e9 Z g7))) (A1 Z (y9 cDat Z g8)) Z Z Z Z)) ?_)))))))))))
 intro go6 i4 left5 F
 replace F : Y5 D8 d go6 i4 left5 = some q := F
 unfold Y5 at F
 refine c6 (c6 (u4 (fun (x7 : Bool) => ⟨[(1, .ptr 0 1 0 0), (2, .ptr 8 1 0 0), (5, .int .i64 i4), (22, .bool x7)], [(0, ⟨1, [[.int .i64 left5]]⟩), (8, ⟨4, [cDat.row 0 d]⟩)], 9, 36, []⟩) (fun x7 => bB D8 d i4 left5 go6 x7 = some q) ?_ ?_))
 ·refine gx 3 Z (sv Z (n8 cDat K Z Z Z) Z (xq 2 Z (m8 (g := 17) F Z (fun G F => ?_) (fun G F => ?_))))
  ·exact xn 5 Z (j5 ⟨(decide (left5 ≥ 0)), F, (e7 (d8 (e9 Z (e9 Z (e9 Z (e9 Z g7)))) (A1 Z (y9 cDat Z g8)) Z Z Z Z))⟩)
  ·exact xn 5 Z (j5 ⟨false, F, (e7 (d8 (e9 Z (e9 Z (e9 Z (e9 Z g7)))) (A1 Z (y9 cDat Z g8)) Z Z Z Z))⟩)
 ·intro x7 F
  replace F : bB D8 d i4 left5 go6 x7 = some q := F
  unfold bB at F
  refine kZ F Z (fun G F => ?_) (fun G F => ?_)
  ·obtain ⟨x8, hn_x8, F⟩ := c7 F
   obtain ⟨x9, hx9, F⟩ := c7 F
   obtain ⟨H1, F⟩ := f5 F
   exact e8 (c6 (f8 (gx 3 Z (sv Z (j3 cDat hn_x8 K Z Z Z Z) Z (xq 2 Z (B2 0 (h_s_l1Few x8 left5 x9 hx9) Z (c9 (m7 _ (o6 cDat x8 Z)) (c9 Z j9)) Z Z Z Z Z (j6 (I5 (d6 [1, 2, 5] Z (gx 1 Z (t6 K Z Z Z H1 Z (xn 1 Z (l6 ⟨((i4 + 1), x9.2), F, (e7 (d8 (e9 Z (e9 Z (e9 Z g7))) (A1 Z (y9 cDat Z g8)) Z Z Z Z))⟩)))))))))))))
  ·obtain rfl := f6 F
   exact o3 (W4 (W3 (s9 (qn 5 Z (i8 (w8 Z ((d7 _)) Z))))))
theorem s_l1Few_ok (n : Nat) : yS (D8 n) := by
 induction n with
 | zero => exact fun _ _ q h => by cases h
 | succ n ih => exact fun d left q h => s_l1Few_bok (D8 n) ih d left q h
def oY (A9 : PD → Option Int) : Prop := ∀ (d : PD) (q : Int), A9 d = some q → FC Tryz.prog 201 [.agg (cDat.row 0 d)] [] 8 (fun x _ => x = .int .i64 q)
theorem ag6 (A9 : PD → Option Int) (h_s_DepthOf : oY A9) : oY (dX A9) := by
 intro d q F
 unfold dX at F
 refine FC.of_le (bdy Tryz.func201 Tryz.ntmps201 Z Z Z (qn 2 Z (qn 1 Z (c6 (qx 2 Z (sv Z (n8 cDat K Z Z Z) Z (xn 1 Z (f8 (t4 (fun x3 x4 => ⟨[(3, .int .i64 x3), (7, .psl 0 4 (d.items.map (cDat.enc 0))), (8, .int .i64 (d.items.length : Int)), (9, .int .i64 x4)], [], 9, 20, []⟩) (lR A9 d) LF 0 0 F (e7 (d8 (e9 Z (l7 cDat Z (e9 Z (e9 Z g7)))) g8 Z Z Z Z)) ?_)))))))))
 intro go5 x3 x4 F
 replace F : O8 A9 d go5 x3 x4 = some q := F
 unfold O8 at F
 refine qn 1 Z (c6 (j8 F Z (fun G F => ?_) (fun G F => ?_)))
 ·obtain ⟨x6, hn_x6, F⟩ := c7 F
  obtain ⟨x7, hx7, F⟩ := c7 F
  obtain ⟨H1, F⟩ := f5 F
  exact e8 (c6 (f8 (qr (sv Z (j3 cDat hn_x6 K Z Z Z Z) Z (xn 3 Z (gx 2 Z (j2 (h_s_DepthOf x6 x7 hx7) Z ((d9 (o6 cDat x6 Z) i7)) Z Z (sv Z (ov_max Z Z) Z (xn 1 Z (I5 (d6 [3, 7, 8, 9] Z (i9 (t6 K Z Z Z H1 Z (xn 1 Z (l6 ⟨((max x3 x7), (x4 + 1)), F, (e7 (d8 (e9 Z (l7 cDat Z (e9 Z (e9 Z g7)))) g8 Z Z Z Z))⟩)))))))))))))))
 ·obtain ⟨H1, F⟩ := f5 F
  obtain rfl := f6 F
  exact o3 (W4 (W3 (s9 (qx 1 Z (t6 K Z Z Z H1 Z (xn 1 Z (u0 Z)))))))
theorem s_DepthOf_ok (n : Nat) : oY (A9 n) := by
 induction n with
 | zero => exact fun _ q h => by cases h
 | succ n ih => exact fun d q h => ag6 (A9 n) ih d q h
theorem fM (b : Int) (q : Bool) (F : cB b = some q) : FC Tryz.prog 195 [.int .u8 b] [] 8 (fun x _ => x = .bool q) := by
 unfold cB at F
 refine FC.of_le (bdy Tryz.func195 Tryz.ntmps195 Z Z Z (qn 1 Z (qx 3 Z (m8 (g := 5) F Z (fun G F => ?_) (fun G F => ?_)))))
 ·obtain rfl := f6 F
  exact xn 4 Z (u0 Z)
 ·obtain rfl := f6 F
  exact xn 4 Z (u0 Z)
theorem s_l1Mark_ok (b : Int) (q : Bool) (F : rL b = some q) : FC Tryz.prog 196 [.int .u8 b] [] 8 (fun x _ => x = .bool q) := by
 unfold rL at F
 refine FC.of_le (bdy Tryz.func196 Tryz.ntmps196 Z Z Z (qn 1 Z (c6 (c6 (u4 (fun (x2 : Bool) => ⟨[(0, .int .u8 b), (14, .bool x2)], [], 8, 26, []⟩) (fun x2 => T9 b x2 = some q) ?_ ?_)))))
 ·refine gx 3 Z (m8 (g := 7) F Z (fun G F => ?_) (fun G F => ?_))
  ·refine xq 4 Z (m8 (g := 11) F Z (fun G F => ?_) (fun G F => ?_))
   ·exact xn 3 Z (j5 ⟨true, F, (e7 (d8 (e9 Z (e9 Z g7)) g8 Z Z Z Z))⟩)
   ·obtain ⟨x2, hx2, F⟩ := c7 F
    exact xq 1 Z (j2 (fM b x2 hx2) Z ((d9 (Z) i7)) Z Z (xn 1 Z (j5 ⟨x2, F, (e7 (d8 (e9 Z (e9 Z g7)) g8 Z Z Z Z))⟩)))
  ·obtain ⟨x2, hx2, F⟩ := c7 F
   exact xq 5 Z (j2 (fM b x2 hx2) Z ((d9 (Z) i7)) Z Z (xn 1 Z (j5 ⟨x2, F, (e7 (d8 (e9 Z (e9 Z g7)) g8 Z Z Z Z))⟩)))
 ·intro x2 F
  replace F : T9 b x2 = some q := F
  unfold T9 at F
  refine kZ F Z (fun G F => ?_) (fun G F => ?_)
  ·obtain rfl := f6 F
   exact qn 1 Z (u1 Z)
  ·refine e8 (qn 1 Z (c6 (qn 1 Z (f8 (J8 (fun i3 => ⟨[(0, .int .u8 b), (3, .str ([33, 63, 42, 60, 62, 61, 47, 43, 45, 46, 95] : LB)), (4, .int .i64 i3)], [], 8, 26, []⟩) (pB b) LF 0 F (e7 (d8 (e9 Z (e9 Z (e9 Z g7))) g8 Z Z Z Z)) ?_)))))
   intro go4 i3 F
   replace F : Z4 b go4 i3 = some q := F
   unfold Z4 at F
   refine c6 (qn 4 Z (j8 F Z (fun G F => ?_) (fun G F => ?_)))
   ·obtain ⟨x5, hn_x5, F⟩ := c7 F
    refine e8 (c6 (f8 (qx 2 Z (sv Z (Y2 hn_x5 K Z Z Z) Z (xn 2 Z (j8 F Z (fun G F => ?_) (fun G F => ?_)))))))
    ·obtain rfl := f6 F
     exact c6 (d6 [] Z (gn 1 Z (i8 (z4 (q8 (cO (z4 (q8 (l5 Z (d7 _))))))))))
    ·obtain ⟨H1, F⟩ := f5 F
     exact e8 (I5 (d6 [0, 3, 4] Z (gx 1 Z (t6 K Z Z Z H1 Z (xn 1 Z (l6 ⟨(i3 + 1), F, (e7 (d8 (e9 Z (e9 Z (e9 Z g7))) g8 Z Z Z Z))⟩))))))
   ·obtain rfl := f6 F
    exact o3 (W4 (W3 (s9 (c6 (d6 [] Z (gn 1 Z (u0 Z)))))))
theorem ag9 (s : LB) (q : Bool) (F : gX s = some q) : FC Tryz.prog 179 [.str s] [] 8 (fun x _ => x = .bool q) := by
 unfold gX at F
 refine FC.of_le (bdy Tryz.func179 Tryz.ntmps179 Z Z Z (qn 1 Z (c6 (c6 (u4 (fun (x2 : Bool) => ⟨[(0, .str s), (27, .bool x2)], [], 8, 39, []⟩) (fun x2 => E6 s x2 = some q) ?_ ?_)))))
 ·obtain ⟨x2, hx2, F⟩ := c7 F
  refine gx 2 Z (j2 (N3 (s.length : Int) 1 16 x2 hx2) Z ((d9 (Z) (d9 (Z) (d9 (Z) i7)))) Z Z (xq 2 Z (X8 (g := 8) F Z (fun G F => ?_) (fun G F => ?_))))
  ·exact xn 19 Z (j5 ⟨true, F, (e7 (d8 (e9 Z (e9 Z g7)) g8 Z Z Z Z))⟩)
  ·obtain ⟨x3, hn_x3, F⟩ := c7 F
   obtain ⟨x4, hx4, F⟩ := c7 F
   refine xq 1 Z (sv Z (Y2 hn_x3 K Z Z Z) Z (j2 (fM (x3.toNat : Int) x4 hx4) Z ((d9 (Z) i7)) Z Z (xq 2 Z (Y3 (g := 13) F Z (fun G F => ?_) (fun G F => ?_)))))
   ·exact xn 14 Z (j5 ⟨true, F, (e7 (d8 (e9 Z (e9 Z g7)) g8 Z Z Z Z))⟩)
   ·obtain ⟨x5, hn_x5, F⟩ := c7 F
    refine xq 1 Z (sv Z (Y2 hn_x5 K Z Z Z) Z (xq 2 Z (m8 (g := 17) F Z (fun G F => ?_) (fun G F => ?_))))
    ·refine xq 5 Z (m8 (g := 22) F Z (fun G F => ?_) (fun G F => ?_))
     ·obtain ⟨x6, hn_x6, F⟩ := c7 F
      obtain ⟨x7, hx7, F⟩ := c7 F
      exact xq 1 Z (sv Z (Y2 hn_x6 K Z Z Z) Z (j2 (fM (x6.toNat : Int) x7 hx7) Z ((d9 (Z) i7)) Z Z (xn 2 Z (j5 ⟨x7, F, (e7 (d8 (e9 Z (e9 Z g7)) g8 Z Z Z Z))⟩))))
     ·exact xn 5 Z (j5 ⟨false, F, (e7 (d8 (e9 Z (e9 Z g7)) g8 Z Z Z Z))⟩)
    ·exact xn 10 Z (j5 ⟨false, F, (e7 (d8 (e9 Z (e9 Z g7)) g8 Z Z Z Z))⟩)
 ·intro x2 F
  replace F : E6 s x2 = some q := F
  unfold E6 at F
  refine kZ F Z (fun G F => ?_) (fun G F => ?_)
  ·obtain rfl := f6 F
   exact qn 1 Z (u1 Z)
  ·refine e8 (c6 (qn 1 Z (f8 (J8 (fun i3 => ⟨[(0, .str s), (3, .int .i64 i3)], [], 8, 39, []⟩) (jN s) LF 0 F (e7 (d8 (e9 Z (e9 Z g7)) g8 Z Z Z Z)) ?_))))
   intro go4 i3 F
   replace F : L6 s go4 i3 = some q := F
   unfold L6 at F
   refine c6 (qn 4 Z (j8 F Z (fun G F => ?_) (fun G F => ?_)))
   ·obtain ⟨x5, hn_x5, F⟩ := c7 F
    obtain ⟨x6, hx6, F⟩ := c7 F
    refine e8 (c6 (f8 (qx 2 Z (sv Z (Y2 hn_x5 K Z Z Z) Z (j2 (s_l1Mark_ok (x5.toNat : Int) x6 hx6) Z ((d9 (Z) i7)) Z Z (xn 1 Z (W6 F Z (fun G F => ?_) (fun G F => ?_))))))))
    ·obtain rfl := f6 F
     exact c6 (d6 [] Z (gn 1 Z (i8 (z4 (q8 (cO (z4 (q8 (l5 Z (d7 _))))))))))
    ·obtain ⟨H1, F⟩ := f5 F
     exact e8 (I5 (d6 [0, 3] Z (gx 1 Z (t6 K Z Z Z H1 Z (xn 1 Z (l6 ⟨(i3 + 1), F, (e7 (d8 (e9 Z (e9 Z g7)) g8 Z Z Z Z))⟩))))))
   ·obtain rfl := f6 F
    exact o3 (W4 (W3 (s9 (qn 1 Z (u0 Z)))))
theorem ah3 (s : LB) (q : Bool) (F : gZ s = some q) : FC Tryz.prog 206 [.str s] [] 8 (fun x _ => x = .bool q) := by
 unfold gZ at F
 refine FC.of_le (bdy Tryz.func206 Tryz.ntmps206 Z Z Z (qn 1 Z (c6 (qn 1 Z (f8 (J8 (fun i2 => ⟨[(0, .str s), (3, .int .i64 i2)], [], 8, 29, []⟩) (rO s) LF 0 F (e7 (d8 (e9 Z (e9 Z g7)) g8 Z Z Z Z)) ?_))))))
 intro go3 i2 F
 replace F : L7 s go3 i2 = some q := F
 unfold L7 at F
 refine c6 (qn 4 Z (j8 F Z (fun G F => ?_) (fun G F => ?_)))
 ·obtain ⟨x4, hn_x4, F⟩ := c7 F
  refine e8 (c6 (f8 (qx 2 Z (sv Z (Y2 hn_x4 K Z Z Z) Z (xq 2 Z (m8 (g := 14) F Z (fun G F => ?_) (fun G F => ?_)))))))
  ·obtain rfl := f6 F
   exact xn 11 Z (o9 Z (c6 (d6 [] Z (gn 1 Z (i8 (z4 (q8 (cO (z4 (q8 (l5 Z (d7 _))))))))))))
  ·obtain ⟨x5, hn_x5, F⟩ := c7 F
   refine xq 2 Z (sv Z (Y2 hn_x5 K Z Z Z) Z (xq 3 Z (m8 (g := 20) F Z (fun G F => ?_) (fun G F => ?_))))
   ·obtain rfl := f6 F
    exact xn 5 Z (o9 Z (c6 (d6 [] Z (gn 1 Z (i8 (z4 (q8 (cO (z4 (q8 (l5 Z (d7 _))))))))))))
   ·obtain ⟨x6, hn_x6, F⟩ := c7 F
    refine xq 2 Z (sv Z (Y2 hn_x6 K Z Z Z) Z (xn 2 Z (j8 F Z (fun G F => ?_) (fun G F => ?_))))
    ·obtain rfl := f6 F
     exact c6 (d6 [] Z (gn 1 Z (i8 (z4 (q8 (cO (z4 (q8 (l5 Z (d7 _))))))))))
    ·obtain ⟨H1, F⟩ := f5 F
     exact e8 (I5 (d6 [0, 3, 15, 16, 17, 18, 21, 22, 23, 24] Z (gx 1 Z (t6 K Z Z Z H1 Z (xn 1 Z (l6 ⟨(i2 + 1), F, (e7 (d8 (e9 Z (e9 Z g7)) g8 Z Z Z Z))⟩))))))
 ·obtain rfl := f6 F
  exact o3 (W4 (W3 (s9 (qn 4 Z (u0 Z)))))
theorem s_l1Node_ok (kind : Int) (number : Int) (text : LB) (items : Int) (q : Bool) (F : rN kind number text items = some q) : FC Tryz.prog 204 [.int .i64 kind, .int .i64 number, .str text, .int .i64 items] [] 8 (fun x _ => x = .bool q) := by
 unfold rN at F
 refine FC.of_le (bdy Tryz.func204 Tryz.ntmps204 Z Z Z (qn 1 Z (c6 (qn 1 Z (f8 (qn 2 Z (j8 F Z (fun G F => ?_) (fun G F => ?_))))))))
 ·refine qx 3 Z (m8 (g := 14) F Z (fun G F => ?_) (fun G F => ?_))
  ·obtain rfl := f6 F
   exact xn 4 Z (u2 Z)
  ·obtain rfl := f6 F
   exact xn 4 Z (u2 Z)
 ·refine qn 2 Z (j8 F Z (fun G F => ?_) (fun G F => ?_))
  ·refine c6 (d6 [1, 2, 3] Z (gx 3 Z (m8 (g := 22) F Z (fun G F => ?_) (fun G F => ?_))))
   ·obtain ⟨x5, hx5, F⟩ := c7 F
    refine xq 1 Z (j2 (ag9 text x5 hx5) Z ((d9 (Z) i7)) Z Z (xq 2 Z (Y3 (g := 26) F Z (fun G F => ?_) (fun G F => ?_))))
    ·obtain rfl := f6 F
     exact xn 4 Z (u2 Z)
    ·obtain rfl := f6 F
     exact xn 4 Z (u2 Z)
   ·obtain rfl := f6 F
    exact xn 8 Z (u2 Z)
  ·refine qn 2 Z (j8 F Z (fun G F => ?_) (fun G F => ?_))
   ·obtain ⟨x5, hx5, F⟩ := c7 F
    refine c6 (d6 [1, 2, 3] Z (gx 1 Z (j2 (N3 number (-999999999) 999999999 x5 hx5) Z ((d9 (Z) (d9 (Z) (d9 (Z) i7)))) Z Z (xq 1 Z (Y3 (g := 34) F Z (fun G F => ?_) (fun G F => ?_))))))
    ·refine xq 4 Z (m8 (g := 38) F Z (fun G F => ?_) (fun G F => ?_))
     ·obtain rfl := f6 F
      exact xn 4 Z (u2 Z)
     ·obtain rfl := f6 F
      exact xn 4 Z (u2 Z)
    ·obtain rfl := f6 F
     exact xn 8 Z (u2 Z)
   ·refine c6 (d6 [1, 2, 3, 9] Z (gn 2 Z (j8 F Z (fun G F => ?_) (fun G F => ?_))))
    ·obtain ⟨x5, hx5, F⟩ := c7 F
     refine qx 1 Z (j2 (N3 number 0 1 x5 hx5) Z ((d9 (Z) (d9 (Z) (d9 (Z) i7)))) Z Z (xq 1 Z (Y3 (g := 46) F Z (fun G F => ?_) (fun G F => ?_))))
     ·refine xq 4 Z (m8 (g := 50) F Z (fun G F => ?_) (fun G F => ?_))
      ·obtain rfl := f6 F
       exact xn 4 Z (u2 Z)
      ·obtain rfl := f6 F
       exact xn 4 Z (u2 Z)
     ·obtain rfl := f6 F
      exact xn 8 Z (u2 Z)
    ·refine qn 2 Z (j8 F Z (fun G F => ?_) (fun G F => ?_))
     ·refine qx 3 Z (m8 (g := 58) F Z (fun G F => ?_) (fun G F => ?_))
      ·obtain ⟨x5, hx5, F⟩ := c7 F
       refine xq 1 Z (j2 (ah3 text x5 hx5) Z ((d9 (Z) i7)) Z Z (xq 2 Z (Y3 (g := 62) F Z (fun G F => ?_) (fun G F => ?_))))
       ·obtain rfl := f6 F
        exact xn 4 Z (u2 Z)
       ·obtain rfl := f6 F
        exact xn 4 Z (u2 Z)
      ·obtain rfl := f6 F
       exact xn 8 Z (u2 Z)
     ·obtain rfl := f6 F
      exact e8 (I5 (c6 (d6 [] Z (gn 1 Z (u0 Z)))))
def pC (B0 : PD → Option Bool) : Prop := ∀ (d : PD) (q : Bool), B0 d = some q → FC Tryz.prog 202 [.agg (cDat.row 0 d)] [] 8 (fun x _ => x = .bool q)
theorem ah1 (B0 : PD → Option Bool) (h_s_l1Nodes : pC B0) : pC (dZ B0) := by
 intro d q F
 unfold dZ at F
 refine FC.of_le (bdy Tryz.func202 Tryz.ntmps202 Z Z Z (qn 2 Z (c6 (qx 2 Z (sv Z (n8 cDat K Z Z Z) Z (xn 1 Z (f8 (J8 (fun x3 => ⟨[(1, .ptr 8 1 0 0), (6, .psl 0 4 (d.items.map (cDat.enc 0))), (7, .int .i64 (d.items.length : Int)), (8, .int .i64 x3)], [(8, ⟨4, [cDat.row 0 d]⟩)], 9, 26, []⟩) (lU B0 d) LF 0 F (e7 (d8 (e9 Z (l7 cDat Z (e9 Z (e9 Z g7)))) (y9 cDat Z g8) Z Z Z Z)) ?_))))))))
 intro go4 x3 F
 replace F : O9 B0 d go4 x3 = some q := F
 unfold O9 at F
 refine qn 1 Z (c6 (j8 F Z (fun G F => ?_) (fun G F => ?_)))
 ·obtain ⟨x5, hn_x5, F⟩ := c7 F
  obtain ⟨x6, hx6, F⟩ := c7 F
  refine e8 (c6 (f8 (qr (sv Z (j3 cDat hn_x5 K Z Z Z Z) Z (xn 3 Z (qx 1 Z (j2 (h_s_l1Nodes x5 x6 hx6) Z ((d9 (o6 cDat x5 Z) i7)) Z Z (xn 1 Z (W6 F Z (fun G F => ?_) (fun G F => ?_))))))))))
  ·obtain rfl := f6 F
   exact c6 (d6 [] Z (gn 1 Z (i8 (z4 (q8 (cO (z4 (q8 (l5 Z (d7 _))))))))))
  ·obtain ⟨H1, F⟩ := f5 F
   exact e8 (I5 (d6 [1, 6, 7, 8] Z (i9 (t6 K Z Z Z H1 Z (xn 1 Z (l6 ⟨(x3 + 1), F, (e7 (d8 (e9 Z (l7 cDat Z (e9 Z (e9 Z g7)))) (y9 cDat Z g8) Z Z Z Z))⟩))))))
 ·obtain ⟨x5, hx5, F⟩ := c7 F
  obtain rfl := f6 F
  exact o3 (W4 (W3 (s9 (qx 8 Z (sv Z (n8 cDat K Z Z Z) Z (j2 (s_l1Node_ok d.kind d.number d.text (d.items.length : Int) x5 hx5) Z ((d9 (Z) (d9 (Z) (d9 (Z) (d9 (Z) i7))))) Z Z (xn 1 Z (u0 Z))))))))
theorem s_l1Nodes_ok (n : Nat) : pC (B0 n) := by
 induction n with
 | zero => exact fun _ q h => by cases h
 | succ n ih => exact fun d q h => ah1 (B0 n) ih d q h
theorem s_IsDatum_ok (d : PD) (q : Bool) (F : lS d = some q) : FC Tryz.prog 191 [.agg (cDat.row 0 d)] [] 8 (fun x _ => x = .bool q) := by
 unfold lS at F
 obtain ⟨x2, hx2, F⟩ := c7 F
 refine FC.of_le (bdy Tryz.func191 Tryz.ntmps191 Z Z Z (qn 2 Z (qn 2 Z (qx 1 Z (B2 9 (s_l1Few_ok RF d 600 x2 hx2) Z (c9 (m7 _ (o6 cDat d Z)) (c9 Z j9)) Z Z Z Z Z (xq 1 Z (Y3 (g := 6) F Z (fun G F => ?_) (fun G F => ?_))))))))
 ·obtain ⟨x3, hx3, F⟩ := c7 F
  refine xq 1 Z (j2 (s_DepthOf_ok RF d x3 hx3) Z ((d9 (o6 cDat d Z) i7)) Z Z (xq 3 Z (m8 (g := 11) F Z (fun G F => ?_) (fun G F => ?_))))
  ·obtain ⟨x4, hx4, F⟩ := c7 F
   obtain rfl := f6 F
   exact xq 1 Z (j2 (s_l1Nodes_ok RF d x4 hx4) Z ((d9 (o6 cDat d Z) i7)) Z Z (xn 2 Z (u0 Z)))
  ·obtain rfl := f6 F
   exact xn 4 Z (u0 Z)
 ·obtain rfl := f6 F
  exact xn 9 Z (u0 Z)
theorem s_l5Shape_ok (c : PC) (q : Bool) (F : mC c = some q) : FC Tryz.prog 160 [.agg (cCore.row 0 c)] [] 8 (fun x _ => x = .bool q) := by
 unfold mC at F
 refine FC.of_le (bdy Tryz.func160 Tryz.ntmps160 Z Z Z (qn 2 Z (qx 2 Z (sv Z (n8 cCore K Z Z Z) Z (xn 1 Z (qx 2 Z (sv Z (n8 cInt K Z Z Z) Z (xn 1 Z (c6 (c6 (u4 (fun (x2 : Bool) => ⟨[(1, .ptr 8 1 0 0), (3, .int .i64 (c.kids.length : Int)), (4, .int .i64 (c.params.length : Int)), (35, .bool x2)], [(8, ⟨8, [cCore.row 0 c]⟩)], 9, 139, []⟩) (fun x2 => D4 c x2 = some q) ?_ ?_)))))))))))
 ·refine d6 [1, 3, 4] Z (gx 4 Z (J2 (g := 14) F Z (fun G F => ?_) (fun G F => ?_)))
  ·obtain ⟨x2, hx2, F⟩ := c7 F
   refine xq 2 Z (sv Z (j4 K Z Z) Z (j2 (FC.weaken (zV RF c.datum (PD.mk 0 0 ([] : LB) []) x2 hx2) (.cons (d7 _) (.cons (jY (.cons (d7 _) (.cons (d7 _) (.cons (d7 _) (.cons (R0 _ _) .nil))))) .nil))) Z ((d9 (o6 cDat c.datum Z) (d9 (rl_aggL (d9 (Z) (d9 (Z) (d9 (Z) (d9 (Z) i7))))) i7))) Z Z (xq 3 Z (X8 (g := 21) F Z (fun G F => ?_) (fun G F => ?_)))))
   ·exact xn 14 Z (j5 ⟨true, F, (e7 (d8 (e9 Z (e9 Z (e9 Z (e9 Z g7)))) (y9 cCore Z g8) Z Z Z Z))⟩)
   ·refine xq 4 Z (J2 (g := 25) F Z (fun G F => ?_) (fun G F => ?_))
    ·obtain ⟨x3, hx3, F⟩ := c7 F
     refine xq 1 Z (j2 (fO c x3 hx3) Z ((d9 (o6 cCore c Z) i7)) Z Z (xq 3 Z (X8 (g := 30) F Z (fun G F => ?_) (fun G F => ?_))))
     ·exact xn 5 Z (j5 ⟨(!decide (c.kind = 3)), F, (e7 (d8 (e9 Z (e9 Z (e9 Z (e9 Z g7)))) (y9 cCore Z g8) Z Z Z Z))⟩)
     ·exact xn 5 Z (j5 ⟨false, F, (e7 (d8 (e9 Z (e9 Z (e9 Z (e9 Z g7)))) (y9 cCore Z g8) Z Z Z Z))⟩)
    ·exact xn 10 Z (j5 ⟨false, F, (e7 (d8 (e9 Z (e9 Z (e9 Z (e9 Z g7)))) (y9 cCore Z g8) Z Z Z Z))⟩)
  ·refine xq 11 Z (J2 (g := 25) F Z (fun G F => ?_) (fun G F => ?_))
   ·obtain ⟨x2, hx2, F⟩ := c7 F
    refine xq 1 Z (j2 (fO c x2 hx2) Z ((d9 (o6 cCore c Z) i7)) Z Z (xq 3 Z (X8 (g := 30) F Z (fun G F => ?_) (fun G F => ?_))))
    ·exact xn 5 Z (j5 ⟨(!decide (c.kind = 3)), F, (e7 (d8 (e9 Z (e9 Z (e9 Z (e9 Z g7)))) (y9 cCore Z g8) Z Z Z Z))⟩)
    ·exact xn 5 Z (j5 ⟨false, F, (e7 (d8 (e9 Z (e9 Z (e9 Z (e9 Z g7)))) (y9 cCore Z g8) Z Z Z Z))⟩)
   ·exact xn 10 Z (j5 ⟨false, F, (e7 (d8 (e9 Z (e9 Z (e9 Z (e9 Z g7)))) (y9 cCore Z g8) Z Z Z Z))⟩)
 ·intro x2 F
  replace F : D4 c x2 = some q := F
  unfold D4 at F
  refine kZ F Z (fun G F => ?_) (fun G F => ?_)
  ·obtain rfl := f6 F
   exact qn 1 Z (u1 Z)
  ·refine e8 (c6 (qn 2 Z (f8 (qn 2 Z (j8 F Z (fun G F => ?_) (fun G F => ?_))))))
   ·refine qx 3 Z (m8 (g := 42) F Z (fun G F => ?_) (fun G F => ?_))
    ·refine xq 4 Z (m8 (g := 46) F Z (fun G F => ?_) (fun G F => ?_))
     ·obtain ⟨x3, hx3, F⟩ := c7 F
      obtain rfl := f6 F
      exact xq 2 Z (j2 (s_IsDatum_ok c.datum x3 hx3) Z ((d9 (o6 cDat c.datum Z) i7)) Z Z (xn 2 Z (u2 Z)))
     ·obtain rfl := f6 F
      exact xn 5 Z (u2 Z)
    ·obtain rfl := f6 F
     exact xn 9 Z (u2 Z)
   ·refine qn 2 Z (j8 F Z (fun G F => ?_) (fun G F => ?_))
    ·refine c6 (d6 [3, 4] Z (gx 3 Z (m8 (g := 55) F Z (fun G F => ?_) (fun G F => ?_))))
     ·obtain rfl := f6 F
      exact xn 4 Z (u2 Z)
     ·obtain rfl := f6 F
      exact xn 4 Z (u2 Z)
    ·refine qn 2 Z (j8 F Z (fun G F => ?_) (fun G F => ?_))
     ·refine c6 (d6 [1, 3, 4] Z (A6 (id := 11) 12 (by kernel_rfl) (by kernel_rfl) (nx K Z (nx K Z (nx K Z (dn_if (g := 63) F Z (fun G F => ?_) (fun G F => ?_)))))))
      ·refine nx K Z (nx K Z (nx K Z (nx K Z (dn_if (g := 67) F Z (fun G F => ?_) (fun G F => ?_)))))
       ·obtain ⟨x3, hx3, F⟩ := c7 F
        obtain ⟨H1, F⟩ := f5 F
        obtain ⟨x4, hx4, F⟩ := c7 F
        obtain rfl := f6 F
        exact nx K Z (nx K Z (gV (Y4  x3 hx3) Z (i7) (kS cStr x3 Z) Z (nv Z (n8 cStr K Z Z Z) Z (nv Z (ov_sub K Z Z H1) Z (E3 Z (j2 (N3 c.number 0 ((x3.length : Int) - 1) x4 hx4) Z ((d9 (Z) (d9 (Z) (d9 (Z) i7)))) Z Z (xn 2 Z (u2 Z))))))))
       ·obtain rfl := f6 F
        exact nx K Z (nx K Z (nx K Z (nx K Z (nx K Z (E3 Z (xn 3 Z (u2 Z)))))))
      ·obtain rfl := f6 F
       exact nx K Z (nx K Z (nx K Z (nx K Z (nx K Z (nx K Z (nx K Z (nx K Z (nx K Z (E3 Z (xn 3 Z (u2 Z)))))))))))
     ·refine c6 (d6 [3, 4, 37] Z (gn 2 Z (j8 F Z (fun G F => ?_) (fun G F => ?_))))
      ·refine qx 3 Z (m8 (g := 79) F Z (fun G F => ?_) (fun G F => ?_))
       ·obtain rfl := f6 F
        exact xn 4 Z (u2 Z)
       ·obtain rfl := f6 F
        exact xn 4 Z (u2 Z)
      ·refine qn 2 Z (j8 F Z (fun G F => ?_) (fun G F => ?_))
       ·refine qx 3 Z (m8 (g := 87) F Z (fun G F => ?_) (fun G F => ?_))
        ·obtain rfl := f6 F
         exact xn 4 Z (u2 Z)
        ·obtain rfl := f6 F
         exact xn 4 Z (u2 Z)
       ·refine qn 2 Z (j8 F Z (fun G F => ?_) (fun G F => ?_))
        ·obtain ⟨x3, hx3, F⟩ := c7 F
         refine c6 (d6 [3, 4] Z (gx 1 Z (j2 (N3 (c.kids.length : Int) 1 9 x3 hx3) Z ((d9 (Z) (d9 (Z) (d9 (Z) i7)))) Z Z (xq 1 Z (Y3 (g := 95) F Z (fun G F => ?_) (fun G F => ?_))))))
         ·obtain rfl := f6 F
          exact xn 4 Z (u2 Z)
         ·obtain rfl := f6 F
          exact xn 4 Z (u2 Z)
        ·refine qn 2 Z (j8 F Z (fun G F => ?_) (fun G F => ?_))
         ·refine c6 (d6 [3, 4] Z (gx 3 Z (m8 (g := 103) F Z (fun G F => ?_) (fun G F => ?_))))
          ·obtain rfl := f6 F
           exact xn 4 Z (u2 Z)
          ·obtain rfl := f6 F
           exact xn 4 Z (u2 Z)
         ·refine c6 (d6 [3, 4, 37] Z (gn 2 Z (j8 F Z (fun G F => ?_) (fun G F => ?_))))
          ·obtain ⟨x3, hx3, F⟩ := c7 F
           refine qx 1 Z (j2 (N3 (c.kids.length : Int) 2 60 x3 hx3) Z ((d9 (Z) (d9 (Z) (d9 (Z) i7)))) Z Z (xq 1 Z (Y3 (g := 111) F Z (fun G F => ?_) (fun G F => ?_))))
           ·obtain rfl := f6 F
            exact xn 4 Z (u2 Z)
           ·obtain rfl := f6 F
            exact xn 4 Z (u2 Z)
          ·refine qn 2 Z (j8 F Z (fun G F => ?_) (fun G F => ?_))
           ·obtain ⟨x3, hx3, F⟩ := c7 F
            refine qx 1 Z (j2 (N3 (c.kids.length : Int) 1 60 x3 hx3) Z ((d9 (Z) (d9 (Z) (d9 (Z) i7)))) Z Z (xq 1 Z (Y3 (g := 119) F Z (fun G F => ?_) (fun G F => ?_))))
            ·obtain ⟨x4, hx4, F⟩ := c7 F
             obtain rfl := f6 F
             exact xq 1 Z (j2 (N3 (c.params.length : Int) 1 60 x4 hx4) Z ((d9 (Z) (d9 (Z) (d9 (Z) i7)))) Z Z (xn 2 Z (u2 Z)))
            ·obtain rfl := f6 F
             exact xn 4 Z (u2 Z)
           ·refine qn 2 Z (j8 F Z (fun G F => ?_) (fun G F => ?_))
            ·refine c6 (d6 [3, 4] Z (gx 3 Z (m8 (g := 127) F Z (fun G F => ?_) (fun G F => ?_))))
             ·obtain rfl := f6 F
              exact xn 4 Z (u2 Z)
             ·obtain rfl := f6 F
              exact xn 4 Z (u2 Z)
            ·refine qn 2 Z (j8 F Z (fun G F => ?_) (fun G F => ?_))
             ·refine c6 (d6 [3, 4] Z (gx 3 Z (m8 (g := 135) F Z (fun G F => ?_) (fun G F => ?_))))
              ·obtain rfl := f6 F
               exact xn 4 Z (u2 Z)
              ·obtain rfl := f6 F
               exact xn 4 Z (u2 Z)
             ·obtain rfl := f6 F
              exact e8 (I5 (c6 (d6 [] Z (gn 1 Z (u0 Z)))))
def pJ (B1 : PC → Option Bool) : Prop := ∀ (c : PC) (q : Bool), B1 c = some q → FC Tryz.prog 117 [.agg (cCore.row 0 c)] [] 8 (fun x _ => x = .bool q)
theorem ah7 (B1 : PC → Option Bool) (h_s_l5Nodes : pJ B1) : pJ (eF B1) := by
 intro c q F
 unfold eF at F
 refine FC.of_le (bdy Tryz.func117 Tryz.ntmps117 Z Z Z (qn 2 Z (c6 (qx 2 Z (sv Z (n8 cCore K Z Z Z) Z (xn 1 Z (f8 (J8 (fun x3 => ⟨[(1, .ptr 8 1 0 0), (6, .psl 0 8 (c.kids.map (cCore.enc 0))), (7, .int .i64 (c.kids.length : Int)), (8, .int .i64 x3)], [(8, ⟨8, [cCore.row 0 c]⟩)], 9, 28, []⟩) (mB B1 c) LF 0 F (e7 (d8 (e9 Z (l7 cCore Z (e9 Z (e9 Z g7)))) (y9 cCore Z g8) Z Z Z Z)) ?_))))))))
 intro go4 x3 F
 replace F : P4 B1 c go4 x3 = some q := F
 unfold P4 at F
 refine qn 1 Z (c6 (j8 F Z (fun G F => ?_) (fun G F => ?_)))
 ·obtain ⟨x5, hn_x5, F⟩ := c7 F
  refine e8 (c6 (f8 (qr (sv Z (j3 cCore hn_x5 K Z Z Z Z) Z (xn 3 Z (c6 (u4 (fun (x6 : Bool) => ⟨[(1, .ptr 8 1 0 0), (6, .psl 0 8 (c.kids.map (cCore.enc 0))), (7, .int .i64 (c.kids.length : Int)), (8, .int .i64 x3), (24, .bool x6)], [(8, ⟨8, [cCore.row 0 c]⟩)], 9, 28, []⟩) (fun x6 => U6 x3 go4 x6 = some q) ?_ ?_)))))))
  ·obtain ⟨x6, hx6, F⟩ := c7 F
   refine gx 1 Z (j2 (h_s_l5Nodes x5 x6 hx6) Z ((d9 (o6 cCore x5 Z) i7)) Z Z (xq 2 Z (X8 (g := 15) F Z (fun G F => ?_) (fun G F => ?_))))
   ·exact xn 9 Z (j5 ⟨true, F, (e7 (d8 (e9 Z (l7 cCore Z (e9 Z (e9 Z (e9 Z g7))))) (y9 cCore Z g8) Z Z Z Z))⟩)
   ·refine xq 4 Z (m8 (g := 19) F Z (fun G F => ?_) (fun G F => ?_))
    ·exact xn 5 Z (j5 ⟨(decide (x5.kind = 8)), F, (e7 (d8 (e9 Z (l7 cCore Z (e9 Z (e9 Z (e9 Z g7))))) (y9 cCore Z g8) Z Z Z Z))⟩)
    ·exact xn 5 Z (j5 ⟨false, F, (e7 (d8 (e9 Z (l7 cCore Z (e9 Z (e9 Z (e9 Z g7))))) (y9 cCore Z g8) Z Z Z Z))⟩)
  ·intro x6 F
   replace F : U6 x3 go4 x6 = some q := F
   unfold U6 at F
   refine kZ F Z (fun G F => ?_) (fun G F => ?_)
   ·obtain rfl := f6 F
    exact qn 1 Z (i8 (z4 (q8 (cO (z4 (q8 (l5 Z (d7 _))))))))
   ·obtain ⟨H1, F⟩ := f5 F
    exact e8 (I5 (i9 (t6 K Z Z Z H1 Z (xn 1 Z (l6 ⟨(x3 + 1), F, (e7 (d8 (e9 Z (l7 cCore Z (e9 Z (e9 Z g7)))) (y9 cCore Z g8) Z Z Z Z))⟩)))))
 ·obtain ⟨x5, hx5, F⟩ := c7 F
  obtain rfl := f6 F
  exact o3 (W4 (W3 (s9 (qx 1 Z (j2 (s_l5Shape_ok c x5 hx5) Z ((d9 (o6 cCore c Z) i7)) Z Z (xn 1 Z (u0 Z)))))))
theorem s_l5Nodes_ok (n : Nat) : pJ (B1 n) := by
 induction n with
 | zero => exact fun _ q h => by cases h
 | succ n ih => exact fun c q h => ah7 (B1 n) ih c q h
theorem ah9 (list : LI) (q : Bool) (F : hX list = some q) : FC Tryz.prog 118 [.psl 0 1 (list.map (cInt.enc 0))] [] 8 (fun x _ => x = .bool q) := by
 unfold hX at F
 refine FC.of_le (bdy Tryz.func118 Tryz.ntmps118 Z Z Z (qn 1 Z (c6 (qx 1 Z (sv Z (n8 cInt K Z Z Z) Z (xn 1 Z (f8 (J8 (fun x2 => ⟨[(0, .psl 0 1 (list.map (cInt.enc 0))), (5, .psl 0 1 (list.map (cInt.enc 0))), (6, .int .i64 (list.length : Int)), (7, .int .i64 x2)], [], 8, 23, []⟩) (jT list) LF 0 F (e7 (d8 (l7 cInt Z (l7 cInt Z (e9 Z (e9 Z g7)))) g8 Z Z Z Z)) ?_))))))))
 intro go3 x2 F
 replace F : L8 list go3 x2 = some q := F
 unfold L8 at F
 refine qn 1 Z (c6 (j8 F Z (fun G F => ?_) (fun G F => ?_)))
 ·obtain ⟨x4, hn_x4, F⟩ := c7 F
  obtain ⟨x5, hx5, F⟩ := c7 F
  refine e8 (c6 (f8 (qx 1 Z (sv Z (j3 cInt hn_x4 K Z Z Z Z) Z (xn 3 Z (qx 1 Z (j2 (N3 x4 0 99999 x5 hx5) Z ((d9 (Z) (d9 (Z) (d9 (Z) i7)))) Z Z (xq 2 Z (X8 (g := 15) F Z (fun G F => ?_) (fun G F => ?_))))))))))
  ·obtain rfl := f6 F
   exact xn 6 Z (o9 Z (c6 (d6 [] Z (gn 1 Z (i8 (z4 (q8 (cO (z4 (q8 (l5 Z (d7 _))))))))))))
  ·obtain ⟨H1, F⟩ := f5 F
   obtain ⟨x6, hx6, F⟩ := c7 F
   refine xq 2 Z (sv Z (oc_psub_h cInt H1 K Z Z Z Z) Z (xq 1 Z (j2 (E5 (list.take x2.toNat) x4 x6 hx6) Z ((d9 (M4 cInt (list.take x2.toNat) Z) (d9 (Z) i7))) Z Z (xn 1 Z (kZ F Z (fun G F => ?_) (fun G F => ?_))))))
   ·obtain rfl := f6 F
    exact c6 (d6 [] Z (gn 1 Z (i8 (z4 (q8 (cO (z4 (q8 (l5 Z (d7 _))))))))))
   ·obtain ⟨H1, F⟩ := f5 F
    exact e8 (I5 (d6 [0, 5, 6, 7, 16, 17, 18, 19, 20] Z (i9 (t6 K Z Z Z H1 Z (xn 1 Z (l6 ⟨(x2 + 1), F, (e7 (d8 (l7 cInt Z (l7 cInt Z (e9 Z (e9 Z g7)))) g8 Z Z Z Z))⟩))))))
 ·obtain rfl := f6 F
  exact o3 (W4 (W3 (s9 (qn 1 Z (u0 Z)))))
def pD (B6 : PC → LI → Option (LI)) : Prop := ∀ (c : PC) (out : LI) (q : LI), B6 c out = some q → FC Tryz.prog 119 [.agg (cCore.row 0 c), .hsl 0 0 out.length] [(0, ⟨1, out.map (cInt.enc 0)⟩)] 8 (fun x h2 => x = .hsl 0 0 q.length ∧ hget h2 0 = some ⟨1, q.map (cInt.enc 0)⟩)
theorem ah4 (B6 : PC → LI → Option (LI)) (h_s_l5Bound : pD B6) : pD (eC B6) := by
 intro c out q F
 unfold eC at F
 obtain ⟨H1, F⟩ := f5 F
 refine FC.of_le_lent (bdy Tryz.func119 Tryz.ntmps119 Z Z Z (qn 2 Z (qx 3 Z (B9 cInt (l := 0) (xs := out) (ys := c.params) H1 Z K Z Z Z Z Z Z Z (fT cInt (l := 0) Z Z Z) Z (xn 1 Z (c6 (qx 2 Z (sv Z (n8 cCore K Z Z Z) Z (xn 1 Z (f8 (t4 (fun x4 out5 => ⟨[(1, .hsl 0 0 out5.length), (12, .psl 0 8 (c.kids.map (cCore.enc 0))), (13, .int .i64 (c.kids.length : Int)), (14, .int .i64 x4)], [(0, ⟨1, out5.map (cInt.enc 0)⟩)], 9, 23, []⟩) (lV B6 c) LF 0 (out ++ c.params) F (e7 (d8 (e9 Z (l7 cCore Z (e9 Z (e9 Z g7)))) (l4 Z g8) Z Z Z Z)) ?_)))))))))))
 intro go6 x4 out5 F
 replace F : jP B6 c go6 x4 out5 = some q := F
 unfold jP at F
 refine qn 1 Z (c6 (j8 F Z (fun G F => ?_) (fun G F => ?_)))
 ·obtain ⟨x7, hn_x7, F⟩ := c7 F
  obtain ⟨x8, hx8, F⟩ := c7 F
  obtain ⟨H1, F⟩ := f5 F
  exact e8 (c6 (f8 (qr (sv Z (j3 cCore hn_x7 K Z Z Z Z) Z (xn 3 Z (gx 2 Z (nZ 0 (h_s_l5Bound x7 out5 x8 hx8) Z (c9 (m7 _ (o6 cCore x7 Z)) (c9 Z j9)) Z (Cd.rnR cInt _ out5 Z) Z (Cd.rnR cInt _ x8 Z) Z (xn 1 Z (I5 (d6 [1, 12, 13, 14] Z (i9 (t6 K Z Z Z H1 Z (xn 1 Z (l6 ⟨((x4 + 1), x8), F, (e7 (d8 (e9 Z (l7 cCore Z (e9 Z (e9 Z g7)))) (l4 Z g8) Z Z Z Z))⟩))))))))))))))
 ·obtain rfl := f6 F
  exact o3 (W4 (W3 (s9 (qn 2 Z (i8 (w8 Z ((d7 _)) Z))))))
theorem s_l5Bound_ok (n : Nat) : pD (B6 n) := by
 induction n with
 | zero => exact fun _ _ q h => by cases h
 | succ n ih => exact fun c out q h => ah4 (B6 n) ih c out q h
theorem s_IsCore_ok (c : PC) (globals : LI) (q : Bool) (F : vO c globals = some q) : FC Tryz.prog 66 [.agg (cCore.row 0 c), .psl 0 1 (globals.map (cInt.enc 0))] [] 8 (fun x _ => x = .bool q) := by
 unfold vO at F
 obtain ⟨x3, hx3, F⟩ := c7 F
 refine FC.of_le (bdy Tryz.func66 Tryz.ntmps66 Z Z Z (qn 2 Z (c6 (c6 (A6 (id := 1) 17 (by kernel_rfl) (by kernel_rfl) (nx K Z (gV (uN c x3 hx3) Z ((d9 (o6 cCore c Z) i7)) Z Z (nx K Z (nx K Z (dn_ifnb (g := 10) F Z (fun G F => ?_) (fun G F => ?_)))))))))))
 ·obtain rfl := f6 F
  exact nx K Z (nx K Z (nx K Z (nx K Z (nx K Z (nx K Z (nx K Z (nx K Z (nx K Z (nx K Z (nx K Z (nx K Z (nx K Z (E3 Z (xn 5 Z (o9 Z (c6 (d6 [] Z (gn 1 Z (u1 Z)))))))))))))))))))
 ·obtain ⟨x4, hx4, F⟩ := c7 F
  refine nx K Z (gV (uY RF c x4 hx4) Z ((d9 (o6 cCore c Z) i7)) Z Z (nx K Z (nx K Z (nx K Z (dn_if (g := 15) F Z (fun G F => ?_) (fun G F => ?_))))))
  ·obtain rfl := f6 F
   exact nx K Z (nx K Z (nx K Z (nx K Z (nx K Z (nx K Z (nx K Z (nx K Z (E3 Z (xn 5 Z (o9 Z (c6 (d6 [] Z (gn 1 Z (u1 Z))))))))))))))
  ·obtain ⟨x5, hx5, F⟩ := c7 F
   refine nx K Z (gV (s_l5Nodes_ok RF c x5 hx5) Z ((d9 (o6 cCore c Z) i7)) Z Z (nx K Z (nx K Z (nx K Z (dn_ifnb (g := 20) F Z (fun G F => ?_) (fun G F => ?_))))))
   ·obtain rfl := f6 F
    exact nx K Z (nx K Z (nx K Z (E3 Z (xn 5 Z (o9 Z (c6 (d6 [] Z (gn 1 Z (u1 Z)))))))))
   ·obtain ⟨x6, hx6, F⟩ := c7 F
    obtain ⟨x7, hx7, F⟩ := c7 F
    obtain ⟨H1, F⟩ := f5 F
    obtain ⟨x8, hx8, F⟩ := c7 F
    refine nx K Z (n_own (by simp) (Cd.flats cInt x6 Z) (eB globals x6 hx6) Z (c9 (m7 _ (M4 cInt globals Z)) j9) (Cd.rnR cInt _ x6 Z) Z (nx K Z (E3 Z (n9 (E9 (y := .hsl 9 0 x6.length) 22 Z (N7 (congrArg (V.hsl 9 0) (by simp))) Z) (qB 10 (pre := [.agg (cCore.row 0 c)]) (suf := []) (s_l5Bound_ok RF c [] x7 hx7) Z Z Z (c9 (m7 _ (o6 cCore c Z)) (c9 Z j9)) Z (Cd.rnR cInt _ x7 Z) Z (B9 cInt (l := 0) (xs := x6) (ys := x7) H1 Z K Z Z Z Z Z Z Z (W0 cInt Z Z Z) Z (N9 (ah9 (x6 ++ x7) x8 hx8) Z (f9 (O7 Z (by simp) (cInt.rlR _ 0 _)) o8) Z Z (xn 2 Z (W6 F Z (fun G F => ?_) (fun G F => ?_))))))))))
    ·obtain rfl := f6 F
     exact c6 (d6 [] Z (gn 1 Z (u1 Z)))
    ·obtain ⟨x9, hx9, F⟩ := c7 F
     refine e8 (c6 (c6 (d6 [1, 2] Z (gx 1 Z (j2 (aL c x9 hx9) Z ((d9 (o6 cCore c Z) i7)) (kS cInt x9 Z) Z (sv Z (n8 cInt K Z Z Z) Z (xn 1 Z (f8 (J8 (fun x10 => ⟨[(1, .psl 0 1 (globals.map (cInt.enc 0))), (30, .psl 1 1 (x9.map (cInt.enc 1))), (31, .int .i64 (x9.length : Int)), (32, .int .i64 x10)], [], 11, 41, []⟩) (jM globals x9) LF 0 F (e7 (d8 (l7 cInt Z (l7 cInt Z (e9 Z (e9 Z g7)))) g8 Z Z Z Z)) ?_)))))))))
     intro go11 x10 F
     replace F : S8 globals x9 go11 x10 = some q := F
     unfold S8 at F
     refine qn 1 Z (c6 (j8 F Z (fun G F => ?_) (fun G F => ?_)))
     ·obtain ⟨x12, hn_x12, F⟩ := c7 F
      obtain ⟨x13, hx13, F⟩ := c7 F
      refine e8 (c6 (f8 (qr (sv Z (j3 cInt hn_x12 K Z Z Z Z) Z (xn 2 Z (qx 2 Z (j2 (E5 globals x12 x13 hx13) Z ((d9 (M4 cInt globals Z) (d9 (Z) i7))) Z Z (xn 1 Z (W6 F Z (fun G F => ?_) (fun G F => ?_))))))))))
      ·obtain rfl := f6 F
       exact c6 (d6 [] Z (gn 1 Z (i8 (z4 (q8 (cO (z4 (q8 (l5 Z (d7 _))))))))))
      ·obtain ⟨H1, F⟩ := f5 F
       exact e8 (I5 (d6 [1, 30, 31, 32] Z (i9 (t6 K Z Z Z H1 Z (xn 1 Z (l6 ⟨(x10 + 1), F, (e7 (d8 (l7 cInt Z (l7 cInt Z (e9 Z (e9 Z g7)))) g8 Z Z Z Z))⟩))))))
     ·obtain rfl := f6 F
      exact o3 (W4 (W3 (s9 (qn 1 Z (u0 Z)))))
theorem s_l5Valid_ok (c : PC) (q : Bool) (F : mE c = some q) : FC Tryz.prog 47 [.agg (cCore.row 0 c)] [] 8 (fun x _ => x = .bool q) := by
 unfold mE at F
 obtain ⟨x2, hx2, F⟩ := c7 F
 refine FC.of_le (bdy Tryz.func47 Tryz.ntmps47 Z Z Z (qn 2 Z (c6 (A6 (id := 1) 6 (by kernel_rfl) (by kernel_rfl) (nx K Z (gV (uN c x2 hx2) Z ((d9 (o6 cCore c Z) i7)) Z Z (nx K Z (dn_ifb (g := 5) F Z (fun G F => ?_) (fun G F => ?_)))))))))
 ·obtain ⟨x3, hx3, F⟩ := c7 F
  obtain ⟨x4, hx4, F⟩ := c7 F
  obtain rfl := f6 F
  exact nx K Z (nx K Z (gV (aL c x3 hx3) Z ((d9 (o6 cCore c Z) i7)) (kS cInt x3 Z) Z (E3 Z (j2 (s_IsCore_ok c x3 x4 hx4) Z ((d9 (o6 cCore c Z) (d9 (ps_10 cInt x3 Z) i7))) Z Z (xn 2 Z (u0 Z))))))
 ·obtain rfl := f6 F
  exact nx K Z (nx K Z (nx K Z (E3 Z (xn 3 Z (u0 Z)))))
def pE (m6 : PC → LI → Option (LI)) : Prop := ∀ (c : PC) (out : LI) (q : LI), m6 c out = some q → FC Tryz.prog 122 [.agg (cCore.row 0 c), .hsl 0 0 out.length] [(0, ⟨1, out.map (cInt.enc 0)⟩)] 8 (fun x h2 => x = .hsl 0 0 q.length ∧ hget h2 0 = some ⟨1, q.map (cInt.enc 0)⟩)
theorem ah5 (m6 : PC → LI → Option (LI)) (h_s_l5Boxed : pE m6) : pE (eD m6) := by
 intro c out q F
 unfold eD at F
 refine FC.of_le_lent (bdy Tryz.func122 Tryz.ntmps122 Z Z Z (qn 2 Z (c6 (c6 (u4 (fun (x4 : Bool) => ⟨[(1, .hsl 0 0 out.length), (2, .ptr 8 1 0 0), (17, .bool x4)], [(0, ⟨1, out.map (cInt.enc 0)⟩), (8, ⟨8, [cCore.row 0 c]⟩)], 9, 63, []⟩) (fun x4 => Z5 m6 c out x4 = some q) ?_ ?_)))))
 ·refine gx 4 Z (m8 (g := 11) F Z (fun G F => ?_) (fun G F => ?_))
  ·obtain ⟨x4, hx4, F⟩ := c7 F
   exact xq 3 Z (N9 (E5 out c.number x4 hx4) Z (f9 (O7 Z (by simp) (cInt.rlR _ 0 _)) (f9 (s8 (Z)) o8)) Z Z (xn 2 Z (j5 ⟨(!x4), F, (e7 (d8 (e9 Z (e9 Z (e9 Z g7))) (l4 Z (y9 cCore Z g8)) Z Z Z Z))⟩)))
  ·exact xn 6 Z (j5 ⟨false, F, (e7 (d8 (e9 Z (e9 Z (e9 Z g7))) (l4 Z (y9 cCore Z g8)) Z Z Z Z))⟩)
 ·intro x4 F
  replace F : Z5 m6 c out x4 = some q := F
  unfold Z5 at F
  refine u4 (fun (out5 : LI) => ⟨[(1, .hsl 0 0 out5.length), (2, .ptr 8 1 0 0)], [(0, ⟨1, out5.map (cInt.enc 0)⟩), (8, ⟨8, [cCore.row 0 c]⟩)], 9, 63, []⟩) (fun out5 => U0 m6 c out5 = some q) ?_ ?_
  ·refine kZ F Z (fun G F => ?_) (fun G F => ?_)
   ·obtain ⟨H1, F⟩ := f5 F
    exact gx 3 Z (J5 cInt (l := 0) ([c.number] : LI) K Z Z Z Z Z Z Z (B9 cInt (l := 0) (xs := out) (ys := ([c.number] : LI)) H1 Z K Z Z Z Z Z Z Z (W0 cInt Z Z Z) Z (xn 1 Z (j5 ⟨(out ++ ([c.number] : LI)), F, (e7 (d8 (e9 Z (e9 Z g7)) (l4 Z (y9 cCore Z g8)) Z Z Z Z))⟩))))
   ·exact e8 (j5 ⟨out, F, (e7 (d8 (e9 Z (e9 Z g7)) (l4 Z (y9 cCore Z g8)) Z Z Z Z))⟩)
  ·intro out5 F
   replace F : U0 m6 c out5 = some q := F
   unfold U0 at F
   refine c6 (qn 1 Z (f8 (t4 (fun i6 out7 => ⟨[(1, .hsl 0 0 out7.length), (2, .ptr 8 1 0 0), (5, .int .i64 i6)], [(0, ⟨1, out7.map (cInt.enc 0)⟩), (8, ⟨8, [cCore.row 0 c]⟩)], 9, 63, []⟩) (cC m6 c) LF 0 out5 F (e7 (d8 (e9 Z (e9 Z (e9 Z g7))) (l4 Z (y9 cCore Z g8)) Z Z Z Z)) ?_)))
   intro go8 i6 out7 F
   replace F : I2 m6 c go8 i6 out7 = some q := F
   unfold I2 at F
   refine c6 (c6 (u4 (fun (x9 : Bool) => ⟨[(1, .hsl 0 0 out7.length), (2, .ptr 8 1 0 0), (5, .int .i64 i6), (32, .bool x9)], [(0, ⟨1, out7.map (cInt.enc 0)⟩), (8, ⟨8, [cCore.row 0 c]⟩)], 9, 63, []⟩) (fun x9 => N5 m6 c i6 out7 go8 x9 = some q) ?_ ?_))
   ·refine gx 3 Z (sv Z (n8 cInt K Z Z Z) Z (xq 2 Z (m8 (g := 28) F Z (fun G F => ?_) (fun G F => ?_))))
    ·exact xn 4 Z (j5 ⟨(decide (c.kind = 9)), F, (e7 (d8 (e9 Z (e9 Z (e9 Z (e9 Z g7)))) (l4 Z (y9 cCore Z g8)) Z Z Z Z))⟩)
    ·exact xn 4 Z (j5 ⟨false, F, (e7 (d8 (e9 Z (e9 Z (e9 Z (e9 Z g7)))) (l4 Z (y9 cCore Z g8)) Z Z Z Z))⟩)
   ·intro x9 F
    replace F : N5 m6 c i6 out7 go8 x9 = some q := F
    unfold N5 at F
    refine kZ F Z (fun G F => ?_) (fun G F => ?_)
    ·refine e8 (c6 (u4 (fun (out10 : LI) => ⟨[(1, .hsl 0 0 out10.length), (2, .ptr 8 1 0 0), (5, .int .i64 i6)], [(0, ⟨1, out10.map (cInt.enc 0)⟩), (8, ⟨8, [cCore.row 0 c]⟩)], 9, 63, []⟩) (fun out10 => Z6 i6 go8 out10 = some q) ?_ ?_))
     ·obtain ⟨x10, hn_x10, F⟩ := c7 F
      obtain ⟨x11, hx11, F⟩ := c7 F
      refine f8 (qx 4 Z (sv Z (j3 cInt hn_x10 K Z Z Z Z) Z (xq 1 Z (N9 (E5 out7 x10 x11 hx11) Z (f9 (O7 Z (by simp) (cInt.rlR _ 0 _)) (f9 (s8 (Z)) o8)) Z Z (xn 1 Z (W6 F Z (fun G F => ?_) (fun G F => ?_)))))))
      ·obtain ⟨x12, hn_x12, F⟩ := c7 F
       obtain ⟨H1, F⟩ := f5 F
       exact d6 [1, 2, 5] Z (gx 4 Z (sv Z (j3 cInt hn_x12 K Z Z Z Z) Z (xq 1 Z (J5 cInt (l := 0) ([x12] : LI) K Z Z Z Z Z Z Z (B9 cInt (l := 0) (xs := out7) (ys := ([x12] : LI)) H1 Z K Z Z Z Z Z Z Z (W0 cInt Z Z Z) Z (xn 1 Z (I5 (j5 ⟨(out7 ++ ([x12] : LI)), F, (e7 (d8 (e9 Z (e9 Z (e9 Z g7))) (l4 Z (y9 cCore Z g8)) Z Z Z Z))⟩))))))))
      ·exact e8 (I5 (j5 ⟨out7, F, (e7 (d8 (e9 Z (e9 Z (e9 Z g7))) (l4 Z (y9 cCore Z g8)) Z Z Z Z))⟩))
     ·intro out10 F
      replace F : Z6 i6 go8 out10 = some q := F
      unfold Z6 at F
      obtain ⟨H1, F⟩ := f5 F
      exact gx 1 Z (t6 K Z Z Z H1 Z (xn 1 Z (l6 ⟨((i6 + 1), out10), F, (e7 (d8 (e9 Z (e9 Z (e9 Z g7))) (l4 Z (y9 cCore Z g8)) Z Z Z Z))⟩)))
    ·refine o3 (W4 (W3 (s9 (c6 (qx 2 Z (sv Z (n8 cCore K Z Z Z) Z (xn 1 Z (f8 (t4 (fun x10 out11 => ⟨[(1, .hsl 0 0 out11.length), (52, .psl 0 8 (c.kids.map (cCore.enc 0))), (53, .int .i64 (c.kids.length : Int)), (54, .int .i64 x10)], [(0, ⟨1, out11.map (cInt.enc 0)⟩)], 9, 63, []⟩) (fN m6 c) LF 0 out7 F (e7 (d8 (e9 Z (l7 cCore Z (e9 Z (e9 Z g7)))) (l4 Z g8) Z Z Z Z)) ?_)))))))))
     intro go12 x10 out11 F
     replace F : P3 m6 c go12 x10 out11 = some q := F
     unfold P3 at F
     refine qn 1 Z (c6 (j8 F Z (fun G F => ?_) (fun G F => ?_)))
     ·obtain ⟨x13, hn_x13, F⟩ := c7 F
      obtain ⟨x14, hx14, F⟩ := c7 F
      obtain ⟨H1, F⟩ := f5 F
      exact e8 (c6 (f8 (qr (sv Z (j3 cCore hn_x13 K Z Z Z Z) Z (xn 3 Z (gx 2 Z (nZ 0 (h_s_l5Boxed x13 out11 x14 hx14) Z (c9 (m7 _ (o6 cCore x13 Z)) (c9 Z j9)) Z (Cd.rnR cInt _ out11 Z) Z (Cd.rnR cInt _ x14 Z) Z (xn 1 Z (I5 (d6 [1, 52, 53, 54] Z (i9 (t6 K Z Z Z H1 Z (xn 1 Z (l6 ⟨((x10 + 1), x14), F, (e7 (d8 (e9 Z (l7 cCore Z (e9 Z (e9 Z g7)))) (l4 Z g8) Z Z Z Z))⟩))))))))))))))
     ·obtain rfl := f6 F
      exact o3 (W4 (W3 (s9 (qn 2 Z (i8 (w8 Z ((d7 _)) Z))))))
theorem s_l5Boxed_ok (n : Nat) : pE (m6 n) := by
 induction n with
 | zero => exact fun _ _ q h => by cases h
 | succ n ih => exact fun c out q h => ah5 (m6 n) ih c out q h
theorem nI (c : PC) (q : LI) (F : Q2 c = some q) : FC Tryz.prog 68 [.agg (cCore.row 0 c)] [] 8 (fun x h2 => ∃ j, x = .hsl j 0 q.length ∧ hget h2 j = some ⟨1, q.map (cInt.enc 0)⟩) := by
 unfold Q2 at F
 obtain ⟨x2, hx2, F⟩ := c7 F
 obtain rfl := f6 F
 exact bdy Tryz.func68 Tryz.ntmps68 Z Z Z (qn 2 Z (qx 1 Z (J5 cInt (l := 0) ([] : LI) K Z Z Z Z Z Z Z (nZ 9 (s_l5Boxed_ok RF c ([] : LI) x2 hx2) Z (c9 (m7 _ (o6 cCore c Z)) (c9 Z j9)) Z (Cd.rnR cInt _ ([] : LI) Z) Z (Cd.rnR cInt _ x2 Z) Z (xn 1 Z (i8 (⟨_, Z, 9, Z, Z⟩)))))))
theorem s_l9Boxed_ok (c : PC) (q : LI) (F : rR c = some q) : FC Tryz.prog 62 [.agg (cCore.row 0 c)] [] 8 (fun x _ => x = .psl 1 1 (q.map (cInt.enc 1))) := by
 unfold rR at F
 obtain ⟨x2, hx2, F⟩ := c7 F
 obtain ⟨x3, hx3, F⟩ := c7 F
 obtain ⟨H1, F⟩ := f5 F
 obtain rfl := f6 F
 exact FC.of_le (bdy Tryz.func62 Tryz.ntmps62 Z Z Z (qn 2 Z (c6 (A6 (id := 1) 3 (by kernel_rfl) (by kernel_rfl) (nx K Z (n_own (by simp) (Cd.flats cInt x2 Z) (nI c x2 hx2) Z (c9 (m7 _ (o6 cCore c Z)) j9) (Cd.rnR cInt _ x2 Z) Z (nx K Z (E3 Z (n9 (E9 (y := .hsl 9 0 x2.length) 4 Z (N7 (congrArg (V.hsl 9 0) (by simp))) Z) (j2 (aL c x3 hx3) Z ((d9 (o6 cCore c Z) i7)) (kS cInt x3 Z) Z (B9 cInt (l := 0) (xs := x2) (ys := x3) H1 Z K Z Z Z Z Z Z Z (fT cInt (l := 1) Z Z Z) Z (xn 1 Z (Q9 (bZ 2 Z Z (by simp) Z) (u0 Z))))))))))))))
theorem pM (c : PC) (q : Bool) (F : fR c = some q) : FC Tryz.prog 98 [.agg (cCore.row 0 c)] [] 8 (fun x _ => x = .bool q) := by
 unfold fR at F
 refine FC.of_le (bdy Tryz.func98 Tryz.ntmps98 Z Z Z (qn 2 Z (qx 4 Z (m8 (g := 6) F Z (fun G F => ?_) (fun G F => ?_)))))
 ·obtain rfl := f6 F
  exact xq 3 Z (sv Z (n8 cDat K Z Z Z) Z (xn 3 Z (u0 Z)))
 ·obtain rfl := f6 F
  exact xn 7 Z (u0 Z)
def pK (A0 : PD → List PPair → Option (PVal × List PPair)) : Prop := ∀ (d : PD) (pairs : List PPair) (q : PVal × List PPair), A0 d pairs = some q → FC Tryz.prog 99 [.agg (cDat.row 0 d), .hsl 0 0 pairs.length] [(0, ⟨6, pairs.map (cPair.enc 0)⟩)] 8 (fun x h2 => x = .tup [.agg (cVal.row 1 q.1), .hsl 0 0 q.2.length] ∧ hget h2 0 = some ⟨6, q.2.map (cPair.enc 0)⟩)
theorem ai0 (A0 : PD → List PPair → Option (PVal × List PPair)) (h_s_l8Quote : pK A0) : pK (eG A0) := by
 intro d pairs q F
 unfold eG at F
 refine FC.of_le_lent (bdy Tryz.func99 Tryz.ntmps99 Z Z Z (qn 3 Z (c6 (qn 2 Z (f8 (qn 2 Z (j8 F Z (fun G F => ?_) (fun G F => ?_))))))))
 ·obtain rfl := f6 F
  exact qx 2 Z (sv Z (j4 K Z Z) Z (xn 3 Z (i8 (z4 (q8 (w8 Z ((l9 (.cons (d7 _) (.cons (d7 _) .nil)))) Z))))))
 ·refine qn 2 Z (j8 F Z (fun G F => ?_) (fun G F => ?_))
  ·obtain rfl := f6 F
   exact c6 (d6 [1, 2, 4] Z (gx 2 Z (sv Z (j4 K Z Z) Z (xn 3 Z (i8 (z4 (q8 (w8 Z ((l9 (.cons (d7 _) (.cons (d7 _) .nil)))) Z))))))))
  ·refine c6 (d6 [1, 2, 4, 10] Z (gn 2 Z (j8 F Z (fun G F => ?_) (fun G F => ?_))))
   ·obtain rfl := f6 F
    exact qx 2 Z (sv Z (j4 K Z Z) Z (xn 3 Z (i8 (z4 (q8 (w8 Z ((l9 (.cons (d7 _) (.cons (d7 _) .nil)))) Z))))))
   ·refine qn 2 Z (j8 F Z (fun G F => ?_) (fun G F => ?_))
    ·obtain rfl := f6 F
     exact qx 2 Z (sv Z (j4 K Z Z) Z (xn 3 Z (i8 (z4 (q8 (w8 Z ((l9 (.cons (d7 _) (.cons (d7 _) .nil)))) Z))))))
    ·obtain ⟨H1, F⟩ := f5 F
     refine e8 (I5 (qr (sv Z (j4 K Z Z) Z (xn 2 Z (c6 (qx 2 Z (sv Z (n8 cDat K Z Z Z) Z (kT K Z Z Z H1 Z (xn 1 Z (f8 (cP (fun i4 pairs5 tail6 => ⟨[(1, .hsl 0 0 pairs5.length), (2, .ptr 8 1 0 0), (4, .ptr 9 1 0 0), (6, .ptr 10 1 0 0), (7, .int .i64 i4)], [(0, ⟨6, pairs5.map (cPair.enc 0)⟩), (8, ⟨4, [cDat.row 0 d]⟩), (9, ⟨3, [[.int .i64 0, .int .i64 0, .str ([] : LB)]]⟩), (10, ⟨3, [cVal.row 0 tail6]⟩)], 11, 67, []⟩) (fQ A0 d) LF ((d.items.length : Int) - 1) pairs (PVal.mk 1 0 ([] : LB)) F (e7 (d8 (e9 Z (e9 Z (e9 Z (e9 Z (e9 Z g7))))) (l4 Z (y9 cDat Z (A1 Z (y9 cVal Z g8)))) Z Z Z Z)) ?_)))))))))))
     intro go7 i4 pairs5 tail6 F
     replace F : jU A0 d go7 i4 pairs5 tail6 = some q := F
     unfold jU at F
     refine c6 (qn 2 Z (j8 F Z (fun G F => ?_) (fun G F => ?_)))
     ·obtain ⟨x8, hn_x8, F⟩ := c7 F
      obtain ⟨x9, hx9, F⟩ := c7 F
      obtain ⟨H1, F⟩ := f5 F
      obtain ⟨H2, F⟩ := f5 F
      obtain ⟨H3, F⟩ := f5 F
      exact e8 (c6 (f8 (qr (sv Z (j4 K Z Z) Z (xn 2 Z (qx 3 Z (sv Z (j3 cDat hn_x8 K Z Z Z Z) Z (xq 2 Z (nZ 0 (h_s_l8Quote x8 pairs5 x9 hx9) Z (c9 (m7 _ (o6 cDat x8 Z)) (c9 Z j9)) Z (Cd.rnR cPair _ pairs5 Z) (yN (c9 (m7 _ (K5 cVal x9.1 Z)) (c9 Z j9))) (Cd.rnR cPair _ x9.2 Z) Z (xn 5 Z (c6 (d6 [1, 2, 4, 6, 7, 8] Z (gx 3 Z (sv Z (j4 K Z Z) Z (J5 cPair (l := 0) ([(PPair.mk x9.1 tail6)] : List PPair) K Z Z Z Z Z Z Z (B9 cPair (l := 0) (xs := x9.2) (ys := ([(PPair.mk x9.1 tail6)] : List PPair)) H1 Z K Z Z Z Z Z Z Z (W0 cPair Z Z Z) Z (xn 1 Z (d6 [1, 2, 4, 6, 7] Z (gx 1 Z (sv Z (dU cPair K Z Z Z) Z (kT K Z Z Z H2 Z (sv Z (j4 K Z Z) Z (xn 1 Z (I5 (gx 1 Z (kT K Z Z Z H3 Z (xn 1 Z (l6 ⟨((i4 - 1), (x9.2 ++ ([(PPair.mk x9.1 tail6)] : List PPair)), (PVal.mk 7 (((x9.2 ++ ([(PPair.mk x9.1 tail6)] : List PPair)).length : Int) - 1) ([] : LB))), F, (e7 (d8 (e9 Z (e9 Z (e9 Z (e9 Z (e9 Z g7))))) (l4 Z (y9 cDat Z (A1 Z (y9 cVal Z g8)))) Z Z Z Z))⟩))))))))))))))))))))))))))))
     ·obtain rfl := f6 F
      exact o3 (W4 (W3 (s9 (qn 4 Z (i8 (w8 Z ((l9 (.cons (d7 _) (.cons (d7 _) .nil)))) Z))))))
theorem uP (n : Nat) : pK (A0 n) := by
 induction n with
 | zero => exact fun _ _ q h => by cases h
 | succ n ih => exact fun d pairs q h => ai0 (A0 n) ih d pairs q h
theorem s_ArityOf_ok (primitive : Int) (q : Int) (F : lQ primitive = some q) : FC Tryz.prog 148 [.int .i64 primitive] [] 8 (fun x _ => x = .int .i64 q) := by
 unfold lQ at F
 obtain ⟨x2, hx2, F⟩ := c7 F
 obtain ⟨H1, F⟩ := f5 F
 obtain ⟨x3, hx3, F⟩ := c7 F
 refine FC.of_le (bdy Tryz.func148 Tryz.ntmps148 Z Z Z (qn 1 Z (c6 (qx 1 Z (j2 (Y4  x2 hx2) Z (i7) (kS cStr x2 Z) Z (sv Z (n8 cStr K Z Z Z) Z (kT K Z Z Z H1 Z (j2 (N3 primitive 0 ((x2.length : Int) - 1) x3 hx3) Z ((d9 (Z) (d9 (Z) (d9 (Z) i7)))) Z Z (xn 1 Z (W6 F Z (fun G F => ?_) (fun G F => ?_)))))))))))
 ·obtain rfl := f6 F
  exact c6 (d6 [] Z (gn 1 Z (u1 Z)))
 ·obtain ⟨x4, hn_x4, F⟩ := c7 F
  obtain rfl := f6 F
  exact e8 (c6 (d6 [0] Z (i9 (J5 cInt (l := 0) ([2, 2, 2, 2, 2, 2, 1, 1, 1, 1, 1, 2, 1, 1] : LI) K Z Z Z Z Z Z Z (xq 1 Z (sv Z (F7 cInt hn_x4 K Z Z Z Z) Z (sv Z (oc_load cInt hn_x4 K Z Z Z Z) Z (xn 1 Z (u0 Z)))))))))
theorem uO (x_1 : PVal) (q : Bool) (F : hY x_1 = some q) : FC Tryz.prog 100 [.agg (cVal.row 0 x_1)] [] 8 (fun x _ => x = .bool q) := by
 unfold hY at F
 refine FC.of_le (bdy Tryz.func100 Tryz.ntmps100 Z Z Z (qn 2 Z (qx 4 Z (m8 (g := 6) F Z (fun G F => ?_) (fun G F => ?_)))))
 ·obtain rfl := f6 F
  exact xn 5 Z (u0 Z)
 ·obtain rfl := f6 F
  exact xn 5 Z (u0 Z)
theorem Y8 (b : Bool) (q : PVal) (F : bP b = some q) : FC Tryz.prog 183 [.bool b] [] 8 (fun x _ => x = .agg (cVal.row 1 q)) := by
 unfold bP at F
 refine FC.of_le (bdy Tryz.func183 Tryz.ntmps183 Z Z Z (qn 1 Z (c6 (qn 1 Z (kZ F Z (fun G F => ?_) (fun G F => ?_))))))
 ·obtain rfl := f6 F
  exact qr (sv Z (j4 K Z Z) Z (xn 1 Z (u1 Z)))
 ·obtain rfl := f6 F
  exact e8 (qr (sv Z (j4 K Z Z) Z (xn 1 Z (u0 Z))))
theorem zX (p : Int) (a : Int) (b : Int) (q : PVal × LB) (F : bE p a b = some q) : FC Tryz.prog 182 [.int .i64 p, .int .i64 a, .int .i64 b] [] 8 (fun x _ => x = .tup [.agg (cVal.row 1 q.1), .str q.2]) := by
 unfold bE at F
 refine FC.of_le (bdy Tryz.func182 Tryz.ntmps182 Z Z Z (qn 2 Z (qn 1 Z (c6 (qn 1 Z (f8 (qn 2 Z (j8 F Z (fun G F => ?_) (fun G F => ?_)))))))))
 ·obtain ⟨H1, F⟩ := f5 F
  obtain ⟨x4, hx4, F⟩ := c7 F
  refine gx 2 Z (t6 K Z Z Z H1 Z (xn 1 Z (I5 (c6 (c6 (d6 [6, 8] Z (gx 1 Z (j2 (N3 (a + b) (-999999999) 999999999 x4 hx4) Z ((d9 (Z) (d9 (Z) (d9 (Z) i7)))) Z Z (xn 1 Z (W6 F Z (fun G F => ?_) (fun G F => ?_)))))))))))
  ·obtain rfl := f6 F
   exact qr (sv Z (j4 K Z Z) Z (xn 2 Z (i8 (q8 (l5 Z (l9 (.cons (d7 _) (.cons (d7 _) .nil))))))))
  ·obtain rfl := f6 F
   exact e8 (qx 1 Z (sv Z (j4 K Z Z) Z (xn 2 Z (i8 (l5 Z (l9 (.cons (d7 _) (.cons (d7 _) .nil))))))))
 ·refine qn 2 Z (j8 F Z (fun G F => ?_) (fun G F => ?_))
  ·obtain ⟨H1, F⟩ := f5 F
   obtain ⟨x4, hx4, F⟩ := c7 F
   refine d6 [1, 2, 6] Z (gx 2 Z (kT K Z Z Z H1 Z (xn 1 Z (I5 (c6 (qx 1 Z (j2 (N3 (a - b) (-999999999) 999999999 x4 hx4) Z ((d9 (Z) (d9 (Z) (d9 (Z) i7)))) Z Z (xn 1 Z (W6 F Z (fun G F => ?_) (fun G F => ?_))))))))))
   ·obtain rfl := f6 F
    exact c6 (d6 [6] Z (i9 (sv Z (j4 K Z Z) Z (xn 2 Z (i8 (q8 (l5 Z (l9 (.cons (d7 _) (.cons (d7 _) .nil))))))))))
   ·obtain rfl := f6 F
    exact e8 (c6 (d6 [6, 8] Z (gx 1 Z (sv Z (j4 K Z Z) Z (xn 2 Z (i8 (l5 Z (l9 (.cons (d7 _) (.cons (d7 _) .nil))))))))))
  ·refine c6 (d6 [1, 2, 6, 9] Z (gn 2 Z (j8 F Z (fun G F => ?_) (fun G F => ?_))))
   ·obtain ⟨H1, F⟩ := f5 F
    obtain ⟨x4, hx4, F⟩ := c7 F
    refine gx 2 Z (s_mul K Z Z Z H1 Z (xn 1 Z (I5 (c6 (c6 (d6 [6, 8] Z (gx 1 Z (j2 (N3 (a * b) (-999999999) 999999999 x4 hx4) Z ((d9 (Z) (d9 (Z) (d9 (Z) i7)))) Z Z (xn 1 Z (W6 F Z (fun G F => ?_) (fun G F => ?_)))))))))))
    ·obtain rfl := f6 F
     exact qr (sv Z (j4 K Z Z) Z (xn 2 Z (i8 (q8 (l5 Z (l9 (.cons (d7 _) (.cons (d7 _) .nil))))))))
    ·obtain rfl := f6 F
     exact e8 (qx 1 Z (sv Z (j4 K Z Z) Z (xn 2 Z (i8 (l5 Z (l9 (.cons (d7 _) (.cons (d7 _) .nil))))))))
   ·refine qn 2 Z (j8 F Z (fun G F => ?_) (fun G F => ?_))
    ·obtain ⟨x4, hx4, F⟩ := c7 F
     obtain rfl := f6 F
     exact qx 3 Z (j2 (Y8 (decide (a = b)) x4 hx4) Z ((d9 (Z) i7)) (K5 cVal x4 Z) Z (xn 2 Z (i8 (z4 (q8 (l5 Z (l9 (.cons (d7 _) (.cons (d7 _) .nil)))))))))
    ·obtain ⟨x4, hx4, F⟩ := c7 F
     obtain rfl := f6 F
     exact qx 3 Z (j2 (Y8 (decide (a < b)) x4 hx4) Z ((d9 (Z) i7)) (K5 cVal x4 Z) Z (xn 2 Z (i8 (z4 (q8 (l5 Z (l9 (.cons (d7 _) (.cons (d7 _) .nil)))))))))
theorem s_l8Apply_ok (p : Int) (args : List PVal) (pairs : List PPair) (q : PVal × LB) (F : t7 p args pairs = some q) : FC Tryz.prog 149 [.int .i64 p, .psl 0 3 (args.map (cVal.enc 0)), .psl 0 6 (pairs.map (cPair.enc 0))] [] 8 (fun x _ => x = .tup [.agg (cVal.row 1 q.1), .str q.2]) := by
 unfold t7 at F
 obtain ⟨x4, hx4, F⟩ := c7 F
 obtain ⟨x5, hn_x5, F⟩ := c7 F
 obtain ⟨H1, F⟩ := f5 F
 obtain ⟨x6, hn_x6, F⟩ := c7 F
 refine FC.of_le (bdy Tryz.func149 Tryz.ntmps149 Z Z Z (qn 2 Z (qr (j2 (Y4  x4 hx4) Z (i7) (kS cStr x4 Z) Z (xq 1 Z (sv Z (j3 cStr hn_x5 K Z Z Z Z) Z (xq 1 Z (sv Z (ac1 Z Z H1) Z (xn 1 Z (qx 1 Z (sv Z (j3 cVal hn_x6 K Z Z Z Z) Z (xn 3 Z (c6 (c6 (d6 [0, 1, 2, 6, 8, 9] Z (gn 1 Z (f8 (c6 (qn 2 Z (u4 (fun (x7 : Bool) => ⟨[(0, .int .i64 p), (1, .psl 0 3 (args.map (cVal.enc 0))), (2, .psl 0 6 (pairs.map (cPair.enc 0))), (6, .ptr 8 1 0 0), (8, .str (x5 ++ ([58, 32, 98, 97, 100, 32, 97, 114, 103, 117, 109, 101, 110, 116] : LB))), (9, .ptr 9 1 0 0), (18, .int .i64 p), (19, .bool x7)], [(8, ⟨3, [[.int .i64 0, .int .i64 0, .str ([] : LB)]]⟩), (9, ⟨3, [cVal.row 0 x6]⟩)], 10, 98, []⟩) (fun x7 => s6 p args pairs x5 x6 x7 = some q) ?_ ?_))))))))))))))))))))
 ·refine j8 F Z (fun G F => ?_) (fun G F => ?_)
  ·exact e8 (j5 ⟨true, F, (e7 (d8 (e9 Z (l7 cVal Z (l7 cPair Z (e9 Z (e9 Z (e9 Z (e9 Z (e9 Z g7)))))))) (A1 Z (y9 cVal Z g8)) Z Z Z Z))⟩)
  ·refine qn 2 Z (j8 F Z (fun G F => ?_) (fun G F => ?_))
   ·exact e8 (j5 ⟨true, F, (e7 (d8 (e9 Z (l7 cVal Z (l7 cPair Z (e9 Z (e9 Z (e9 Z (e9 Z (e9 Z g7)))))))) (A1 Z (y9 cVal Z g8)) Z Z Z Z))⟩)
   ·refine qn 2 Z (j8 F Z (fun G F => ?_) (fun G F => ?_))
    ·exact e8 (j5 ⟨true, F, (e7 (d8 (e9 Z (l7 cVal Z (l7 cPair Z (e9 Z (e9 Z (e9 Z (e9 Z (e9 Z g7)))))))) (A1 Z (y9 cVal Z g8)) Z Z Z Z))⟩)
    ·refine qn 2 Z (j8 F Z (fun G F => ?_) (fun G F => ?_))
     ·exact e8 (j5 ⟨true, F, (e7 (d8 (e9 Z (l7 cVal Z (l7 cPair Z (e9 Z (e9 Z (e9 Z (e9 Z (e9 Z g7)))))))) (A1 Z (y9 cVal Z g8)) Z Z Z Z))⟩)
     ·exact gn 2 Z (j5 ⟨(decide (p = 4)), F, (e7 (d8 (e9 Z (l7 cVal Z (l7 cPair Z (e9 Z (e9 Z (e9 Z (e9 Z (e9 Z g7)))))))) (A1 Z (y9 cVal Z g8)) Z Z Z Z))⟩)
 ·intro x7 F
  replace F : s6 p args pairs x5 x6 x7 = some q := F
  unfold s6 at F
  refine kZ F Z (fun G F => ?_) (fun G F => ?_)
  ·refine c6 (qx 4 Z (J2 (g := 28) F Z (fun G F => ?_) (fun G F => ?_)))
   ·obtain rfl := f6 F
    exact xn 6 Z (o9 Z (c6 (d6 [6, 8] Z (i9 (sv Z (j4 K Z Z) Z (xn 3 Z (i8 (q8 (z4 (q8 (l5 Z (l9 (.cons (d7 _) (.cons (d7 _) .nil))))))))))))))
   ·obtain ⟨x8, hn_x8, F⟩ := c7 F
    refine xq 1 Z (sv Z (j3 cVal hn_x8 K Z Z Z Z) Z (xn 4 Z (D5 F Z (fun G F => ?_) (fun G F => ?_))))
    ·obtain rfl := f6 F
     exact c6 (d6 [6, 8] Z (i9 (sv Z (j4 K Z Z) Z (xn 3 Z (i8 (q8 (z4 (q8 (l5 Z (l9 (.cons (d7 _) (.cons (d7 _) .nil))))))))))))
    ·obtain ⟨x9, hn_x9, F⟩ := c7 F
     obtain ⟨x10, hx10, F⟩ := c7 F
     obtain rfl := f6 F
     exact e8 (c6 (d6 [0, 1, 6, 9] Z (A6 (id := 11) 10 (by kernel_rfl) (by kernel_rfl) (nx K Z (nx K Z (nx K Z (nx K Z (nv Z (j3 cVal hn_x9 K Z Z Z Z) Z (nx K Z (nx K Z (gV (zX p x6.number x9.number x10 hx10) Z ((d9 (Z) (d9 (Z) (d9 (Z) i7)))) (dV (d9 (K5 cVal x10.1 Z) (d9 (Z) i7))) Z (nx K Z (nx K Z (E3 Z (xn 2 Z (i8 (z4 (q8 (l5 Z (l9 (.cons (d7 _) (.cons (d7 _) .nil))))))))))))))))))))))
  ·refine c6 (qn 2 Z (u4 (fun (x8 : Bool) => ⟨[(0, .int .i64 p), (1, .psl 0 3 (args.map (cVal.enc 0))), (2, .psl 0 6 (pairs.map (cPair.enc 0))), (6, .ptr 8 1 0 0), (8, .str (x5 ++ ([58, 32, 98, 97, 100, 32, 97, 114, 103, 117, 109, 101, 110, 116] : LB))), (9, .ptr 9 1 0 0), (18, .int .i64 p), (47, .bool x8)], [(8, ⟨3, [[.int .i64 0, .int .i64 0, .str ([] : LB)]]⟩), (9, ⟨3, [cVal.row 0 x6]⟩)], 10, 98, []⟩) (fun x8 => F3 p args pairs x5 x6 x8 = some q) ?_ ?_))
   ·refine j8 F Z (fun G F => ?_) (fun G F => ?_)
    ·exact e8 (j5 ⟨true, F, (e7 (d8 (e9 Z (l7 cVal Z (l7 cPair Z (e9 Z (e9 Z (e9 Z (e9 Z (e9 Z g7)))))))) (A1 Z (y9 cVal Z g8)) Z Z Z Z))⟩)
    ·exact gn 2 Z (j5 ⟨(decide (p = 7)), F, (e7 (d8 (e9 Z (l7 cVal Z (l7 cPair Z (e9 Z (e9 Z (e9 Z (e9 Z (e9 Z g7)))))))) (A1 Z (y9 cVal Z g8)) Z Z Z Z))⟩)
   ·intro x8 F
    replace F : F3 p args pairs x5 x6 x8 = some q := F
    unfold F3 at F
    refine kZ F Z (fun G F => ?_) (fun G F => ?_)
    ·refine c6 (qn 3 Z (D5 F Z (fun G F => ?_) (fun G F => ?_)))
     ·obtain rfl := f6 F
      exact c6 (d6 [6, 8] Z (i9 (sv Z (j4 K Z Z) Z (xn 3 Z (i8 (q8 (z4 (q8 (l5 Z (l9 (.cons (d7 _) (.cons (d7 _) .nil))))))))))))
     ·refine e8 (c6 (c6 (d6 [0, 2, 6, 9] Z (gn 2 Z (j8 F Z (fun G F => ?_) (fun G F => ?_))))))
      ·obtain ⟨x9, hn_x9, F⟩ := c7 F
       obtain rfl := f6 F
       exact qx 3 Z (sv Z (j3 cPair hn_x9 K Z Z Z Z) Z (xn 4 Z (i8 (q8 (z4 (q8 (l5 Z (l9 (.cons (d7 _) (.cons (d7 _) .nil))))))))))
      ·obtain ⟨x9, hn_x9, F⟩ := c7 F
       obtain rfl := f6 F
       exact e8 (qx 3 Z (sv Z (j3 cPair hn_x9 K Z Z Z Z) Z (xn 4 Z (i8 (z4 (q8 (l5 Z (l9 (.cons (d7 _) (.cons (d7 _) .nil))))))))))
    ·refine qn 2 Z (j8 F Z (fun G F => ?_) (fun G F => ?_))
     ·obtain ⟨x9, hx9, F⟩ := c7 F
      obtain rfl := f6 F
      exact c6 (d6 [6, 9] Z (gx 3 Z (j2 (Y8 (decide (x6.kind = 1)) x9 hx9) Z ((d9 (Z) i7)) (K5 cVal x9 Z) Z (xn 2 Z (i8 (z4 (q8 (l5 Z (l9 (.cons (d7 _) (.cons (d7 _) .nil)))))))))))
     ·refine qn 2 Z (j8 F Z (fun G F => ?_) (fun G F => ?_))
      ·obtain ⟨x9, hx9, F⟩ := c7 F
       obtain rfl := f6 F
       exact c6 (d6 [6, 9] Z (gx 3 Z (j2 (Y8 (decide (x6.kind = 7)) x9 hx9) Z ((d9 (Z) i7)) (K5 cVal x9 Z) Z (xn 2 Z (i8 (z4 (q8 (l5 Z (l9 (.cons (d7 _) (.cons (d7 _) .nil)))))))))))
      ·refine c6 (d6 [1, 6, 9, 18] Z (gn 2 Z (j8 F Z (fun G F => ?_) (fun G F => ?_))))
       ·obtain ⟨x9, hx9, F⟩ := c7 F
        obtain rfl := f6 F
        exact qx 3 Z (j2 (Y8 (decide (x6.kind = 3)) x9 hx9) Z ((d9 (Z) i7)) (K5 cVal x9 Z) Z (xn 2 Z (i8 (z4 (q8 (l5 Z (l9 (.cons (d7 _) (.cons (d7 _) .nil)))))))))
       ·refine qn 2 Z (j8 F Z (fun G F => ?_) (fun G F => ?_))
        ·obtain ⟨x9, hn_x9, F⟩ := c7 F
         obtain ⟨x10, hx10, F⟩ := c7 F
         obtain rfl := f6 F
         exact c6 (A6 (id := 26) 4 (by kernel_rfl) (by kernel_rfl) (nx K Z (nx K Z (nv Z (j3 cVal hn_x9 K Z Z Z Z) Z (nx K Z (E3 Z (sv Z (ov_veq veq114 Z Z) Z (j2 (Y8 (decide (x6 = x9)) x10 hx10) Z ((d9 (Z) i7)) (K5 cVal x10 Z) Z (xn 2 Z (i8 (z4 (q8 (l5 Z (l9 (.cons (d7 _) (.cons (d7 _) .nil))))))))))))))))
        ·obtain ⟨x9, hx9, F⟩ := c7 F
         obtain ⟨x10, hx10, F⟩ := c7 F
         obtain rfl := f6 F
         exact e8 (I5 (qx 1 Z (j2 (uO x6 x9 hx9) Z ((d9 (o6 cVal x6 Z) i7)) Z Z (j2 (Y8 x9 x10 hx10) Z ((d9 (Z) i7)) (K5 cVal x10 Z) Z (xn 2 Z (i8 (l5 Z (l9 (.cons (d7 _) (.cons (d7 _) .nil))))))))))
theorem s_l9Datum_ok (x_1 : PVal) (q : PD × Bool) (F : hZ x_1 = some q) : FC Tryz.prog 150 [.agg (cVal.row 0 x_1)] [] 8 (fun x _ => x = .tup [.agg (cDat.row 1 q.1), .bool q.2]) := by
 unfold hZ at F
 refine FC.of_le (bdy Tryz.func150 Tryz.ntmps150 Z Z Z (qn 3 Z (c6 (qn 2 Z (f8 (qn 2 Z (j8 F Z (fun G F => ?_) (fun G F => ?_))))))))
 ·obtain rfl := f6 F
  exact c6 (d6 [2] Z (i9 (sv Z (j4 K Z Z) Z (xn 2 Z (i8 (z4 (q8 (l5 Z (l9 (.cons (jY (.cons (d7 _) (.cons (d7 _) (.cons (d7 _) (.cons (R0 _ _) .nil))))) (.cons (d7 _) .nil)))))))))))
 ·refine qn 2 Z (j8 F Z (fun G F => ?_) (fun G F => ?_))
  ·obtain rfl := f6 F
   exact c6 (d6 [1, 2] Z (gx 2 Z (sv Z (j4 K Z Z) Z (xn 2 Z (i8 (z4 (q8 (l5 Z (l9 (.cons (jY (.cons (d7 _) (.cons (d7 _) (.cons (d7 _) (.cons (R0 _ _) .nil))))) (.cons (d7 _) .nil)))))))))))
  ·refine c6 (d6 [1, 2, 5] Z (gn 2 Z (j8 F Z (fun G F => ?_) (fun G F => ?_))))
   ·obtain rfl := f6 F
    exact qx 2 Z (sv Z (j4 K Z Z) Z (xn 2 Z (i8 (z4 (q8 (l5 Z (l9 (.cons (jY (.cons (d7 _) (.cons (d7 _) (.cons (d7 _) (.cons (R0 _ _) .nil))))) (.cons (d7 _) .nil)))))))))
   ·obtain rfl := f6 F
    exact e8 (I5 (qr (sv Z (j4 K Z Z) Z (xn 2 Z (i8 (l5 Z (l9 (.cons (jY (.cons (d7 _) (.cons (d7 _) (.cons (d7 _) (.cons (R0 _ _) .nil))))) (.cons (d7 _) .nil)))))))))
theorem s_l9Fold_ok (c : PC) (q : PC × Bool) (F : rS c = some q) : FC Tryz.prog 96 [.agg (cCore.row 0 c)] [] 8 (fun x _ => x = .tup [.agg (cCore.row 1 q.1), .bool q.2]) := by
 unfold rS at F
 refine FC.of_le (bdy Tryz.func96 Tryz.ntmps96 Z Z Z (qn 3 Z (c6 (qx 4 Z (J2 (g := 17) F Z (fun G F => ?_) (fun G F => ?_))))))
 ·obtain rfl := f6 F
  exact xn 7 Z (o9 Z (c6 (d6 [2] Z (i9 (sv Z (j4 K Z Z) Z (xn 2 Z (i8 (q8 (l5 Z (l9 (.cons P6 (.cons (d7 _) .nil))))))))))))
 ·obtain ⟨x2, hn_x2, F⟩ := c7 F
  refine xq 2 Z (sv Z (j3 cCore hn_x2 K Z Z Z Z) Z (xn 4 Z (D5 F Z (fun G F => ?_) (fun G F => ?_))))
  ·obtain rfl := f6 F
   exact c6 (d6 [2] Z (i9 (sv Z (j4 K Z Z) Z (xn 2 Z (i8 (q8 (l5 Z (l9 (.cons P6 (.cons (d7 _) .nil))))))))))
  ·obtain ⟨x3, hn_x3, F⟩ := c7 F
   obtain ⟨H1, F⟩ := f5 F
   refine e8 (c6 (d6 [1, 2] Z (gx 2 Z (sv Z (j3 cCore hn_x3 K Z Z Z Z) Z (xn 3 Z (qr (J5 cVal (l := 0) ([] : List PVal) K Z Z Z Z Z Z Z (xn 1 Z (c6 (qx 2 Z (sv Z (oc_psub_l cCore H1 K Z Z Z Z) Z (sv Z (n8 cCore K Z Z Z) Z (xn 1 Z (f8 (t4 (fun x4 args5 => ⟨[(2, .ptr 9 1 0 0), (4, .int .i64 x3.number), (5, .hsl 10 0 args5.length), (34, .psl 0 8 ((c.kids.drop (1 : Int).toNat).map (cCore.enc 0))), (35, .int .i64 ((c.kids.drop (1 : Int).toNat).length : Int)), (36, .int .i64 x4)], [(9, ⟨8, [z8]⟩), (10, ⟨3, args5.map (cVal.enc 0)⟩)], 11, 89, []⟩) (pP c x3) LF 0 ([] : List PVal) F (e7 (d8 (e9 Z (e9 Z (e9 Z (l7 cCore Z (e9 Z (e9 Z g7)))))) (A1 Z (l4 Z g8)) Z Z Z Z)) ?_)))))))))))))))
   intro go6 x4 args5 F
   replace F : cE c x3 go6 x4 args5 = some q := F
   unfold cE at F
   refine qn 1 Z (c6 (j8 F Z (fun G F => ?_) (fun G F => ?_)))
   ·obtain ⟨x7, hn_x7, F⟩ := c7 F
    obtain ⟨x8, hx8, F⟩ := c7 F
    refine e8 (c6 (f8 (qr (sv Z (j3 cCore hn_x7 K Z Z Z Z) Z (xn 3 Z (c6 (qx 1 Z (j2 (pM x7 x8 hx8) Z ((d9 (o6 cCore x7 Z) i7)) Z Z (xn 1 Z (W6 F Z (fun G F => ?_) (fun G F => ?_)))))))))))
    ·obtain rfl := f6 F
     exact c6 (d6 [2] Z (i9 (sv Z (j4 K Z Z) Z (xn 2 Z (i8 (q8 (z4 (q8 (cO (z4 (q8 (l5 Z (l9 (.cons P6 (.cons (d7 _) .nil)))))))))))))))
    ·obtain ⟨x9, hx9, F⟩ := c7 F
     obtain ⟨H1, F⟩ := f5 F
     obtain ⟨H2, F⟩ := f5 F
     exact e8 (qx 2 Z (qB 12 (pre := [.agg (cDat.row 0 x7.datum)]) (suf := []) (uP RF x7.datum [] x9 hx9) Z Z Z (c9 (m7 _ (o6 cDat x7.datum Z)) (c9 Z j9)) (yN (c9 (m7 _ (K5 cVal x9.1 Z)) (c9 Z j9))) (Cd.rnR cPair _ x9.2 Z) Z (xn 6 Z (d6 [2, 4, 5, 8, 34, 35, 36] Z (gx 2 Z (J5 cVal (l := 0) ([x9.1] : List PVal) K Z Z Z Z Z Z Z (B9 cVal (l := 0) (xs := args5) (ys := ([x9.1] : List PVal)) H1 Z K Z Z Z Z Z Z Z (W0 cVal Z Z Z) Z (xn 1 Z (I5 (i9 (t6 K Z Z Z H2 Z (xn 1 Z (l6 ⟨((x4 + 1), (args5 ++ ([x9.1] : List PVal))), F, (e7 (d8 (e9 Z (e9 Z (e9 Z (l7 cCore Z (e9 Z (e9 Z g7)))))) (A1 Z (l4 Z g8)) Z Z Z Z))⟩)))))))))))))
   ·refine o3 (W4 (W3 (s9 (c6 (qx 3 Z (m8 (g := 57) F Z (fun G F => ?_) (fun G F => ?_)))))))
    ·obtain rfl := f6 F
     exact xn 10 Z (o9 Z (c6 (d6 [2] Z (i9 (sv Z (j4 K Z Z) Z (xn 2 Z (i8 (q8 (l5 Z (l9 (.cons P6 (.cons (d7 _) .nil))))))))))))
    ·refine xq 4 Z (m8 (g := 61) F Z (fun G F => ?_) (fun G F => ?_))
     ·obtain rfl := f6 F
      exact xn 6 Z (o9 Z (c6 (d6 [2] Z (i9 (sv Z (j4 K Z Z) Z (xn 2 Z (i8 (q8 (l5 Z (l9 (.cons P6 (.cons (d7 _) .nil))))))))))))
     ·obtain ⟨x7, hx7, F⟩ := c7 F
      refine xq 1 Z (sv Z (dU cVal K Z Z Z) Z (xq 1 Z (j2 (s_ArityOf_ok x3.number x7 hx7) Z ((d9 (Z) i7)) Z Z (xn 2 Z (D5 F Z (fun G F => ?_) (fun G F => ?_))))))
      ·obtain rfl := f6 F
       exact c6 (d6 [2] Z (i9 (sv Z (j4 K Z Z) Z (xn 2 Z (i8 (q8 (l5 Z (l9 (.cons P6 (.cons (d7 _) .nil))))))))))
      ·obtain ⟨x8, hx8, F⟩ := c7 F
       obtain ⟨x9, hx9, F⟩ := c7 F
       refine e8 (c6 (d6 [2, 4, 5] Z (gx 2 Z (N9 (s_l8Apply_ok x3.number args5 [] x8 hx8) Z (f9 (s8 (Z)) (f9 (O7 Z (by simp) (cVal.rlR _ 0 _)) (f9 rd_nil o8))) (dV (d9 (K5 cVal x8.1 Z) (d9 (Z) i7))) Z (xn 6 Z (c6 (d6 [2, 10, 11] Z (gx 1 Z (j2 (s_l9Datum_ok x8.1 x9 hx9) Z ((d9 (ac7 cVal x8.1 Z) i7)) (dV (d9 (K5 cDat x9.1 Z) (d9 (Z) i7))) Z (xn 6 Z (c6 (qx 3 Z (J2 (g := 82) F Z (fun G F => ?_) (fun G F => ?_))))))))))))))
       ·obtain rfl := f6 F
        exact xn 3 Z (o9 Z (c6 (d6 [2] Z (i9 (sv Z (j4 K Z Z) Z (xn 2 Z (i8 (q8 (l5 Z (l9 (.cons P6 (.cons (d7 _) .nil))))))))))))
       ·refine xn 3 Z (W6 F Z (fun G F => ?_) (fun G F => ?_))
        ·obtain rfl := f6 F
         exact c6 (d6 [2] Z (i9 (sv Z (j4 K Z Z) Z (xn 2 Z (i8 (q8 (l5 Z (l9 (.cons P6 (.cons (d7 _) .nil))))))))))
        ·obtain rfl := f6 F
         exact e8 (c6 (d6 [2, 12] Z (gx 1 Z (sv Z (j4 K Z Z) Z (xn 2 Z (i8 (l5 Z (l9 (.cons (jY (.cons (d7 _) (.cons (d7 _) (.cons (R0 _ _) (.cons (d7 _) (.cons (d7 _) (.cons (d7 _) (.cons (d7 _) (.cons (R0 _ _) .nil))))))))) (.cons (d7 _) .nil))))))))))
def jO (C4 : PD → Option PD) : Prop := ∀ (d : PD) (q : PD), C4 d = some q → FC Tryz.prog 113 [.agg (cDat.row 0 d)] [] 8 (fun x h2 => ∃ j, x = .agg [.int .i64 q.kind, .int .i64 q.number, .str q.text, .hsl j 0 q.items.length] ∧ hget h2 j = some ⟨4, q.items.map (cDat.enc 2)⟩)
theorem ah0 (C4 : PD → Option PD) (h_s_l1Copy : jO C4) : jO (gY C4) := by
 intro d q F
 unfold gY at F
 refine bdy Tryz.func113 Tryz.ntmps113 Z Z Z (qn 2 Z (qx 6 Z (sv Z (j4 K Z Z) Z (xn 2 Z (c6 (c6 (d6 [1, 2, 3] Z (gx 2 Z (sv Z (n8 cDat K Z Z Z) Z (xn 1 Z (f8 (t4 (fun x3 x4 => ⟨[(2, .ptr 9 1 0 0), (3, .ptr 10 1 0 0), (14, .psl 0 4 (d.items.map (cDat.enc 0))), (15, .int .i64 (d.items.length : Int)), (16, .int .i64 x3)], [(9, ⟨4, [[.int .i64 0, .int .i64 0, .str ([] : LB), .nilsl]]⟩), (10, ⟨4, [[.int .i64 d.kind, .int .i64 d.number, .str d.text, .hsl 14 0 x4.length]]⟩), (14, ⟨4, x4.map (cDat.enc 2)⟩)], 15, 29, []⟩) (oZ C4 d) LF 0 [] F ((oP 14 Z Z).trans ((z7 10 4 (k := 3) (pre := [.int .i64 d.kind, .int .i64 d.number, .str d.text]) (suf := []) Z Z Z).trans (e7 (d8 (e9 Z (e9 Z (l7 cDat Z (e9 Z (e9 Z g7))))) (A1 Z (A1 Z (l4 Z g8))) Z Z Z Z)))) ?_))))))))))))
 intro go5 x3 x4 F
 replace F : S9 C4 d go5 x3 x4 = some q := F
 unfold S9 at F
 refine qn 1 Z (c6 (j8 F Z (fun G F => ?_) (fun G F => ?_)))
 ·obtain ⟨x6, hn_x6, F⟩ := c7 F
  obtain ⟨x7, hx7, F⟩ := c7 F
  refine e8 (c6 (f8 (qr (sv Z (j3 cDat hn_x6 K Z Z Z Z) Z (xn 3 Z (nY (id := 5) 5 ⟨[(2, .ptr 9 1 0 0), (3, .ptr 10 1 0 0), (14, .psl 0 4 (d.items.map (cDat.enc 0))), (15, .int .i64 (d.items.length : Int)), (16, .int .i64 x3), (21, .hsl 14 0 x4.length), (24, .hsl 17 0 1)], [(9, ⟨4, [[.int .i64 0, .int .i64 0, .str ([] : LB), .nilsl]]⟩), (10, ⟨4, [[.int .i64 d.kind, .int .i64 d.number, .str d.text, .hsl 14 0 x4.length]]⟩), (14, ⟨4, x4.map (cDat.enc 2)⟩), (16, ⟨4, x7.items.map (cDat.enc 2)⟩), (17, ⟨4, [[.int .i64 x7.kind, .int .i64 x7.number, .str x7.text, .hsl 16 0 x7.items.length]]⟩)], 18, 29, []⟩ (by kernel_rfl) (by kernel_rfl) ?_ ?_))))))
  ·refine W1 [] Z ?_
   repeat' first | refine xn 1 Z ?_ | refine rV K Z Z Z Z Z Z Z (j6 ?_) | refine fW (h_s_l1Copy x6 x7 hx7) Z (f9 (s8 (o6 cDat x6 Z)) o8) (Cd.rlR cDat f01 2 _) Z (fun j => by simp [V.rnA, V.rnAL, V.rl, upJ, dn]) Z (j6 ?_) | refine j1 [0, 1, 2, 3] [4] (by kernel_rfl) Z (g9 Z ?_ j7) | refine j1 [0, 2, 3, 4] [1] (by kernel_rfl) Z (g9 Z ?_ j7) | refine j1 [0, 1, 2] [3] (by kernel_rfl) Z (g9 Z ?_ j7) | refine j1 [0, 2, 3] [1, 4] (by kernel_rfl) Z (g9 Z ?_ (g9 Z ?_ j7)) | refine j1 [0, 2] [1, 3] (by kernel_rfl) Z (g9 Z ?_ (g9 Z ?_ j7)) | refine j1 [0, 1] [2] (by kernel_rfl) Z (g9 Z ?_ j7) | refine j1 [0] [1, 2] (by kernel_rfl) Z (g9 Z ?_ (g9 Z ?_ j7)) | refine j1 [2, 3, 4] [0] (by kernel_rfl) Z (g9 Z ?_ j7) | refine j1 [2, 3] [0, 4] (by kernel_rfl) Z (g9 Z ?_ (g9 Z ?_ j7)) | refine j1 [2] [0, 3] (by kernel_rfl) Z (g9 Z ?_ (g9 Z ?_ j7)) | refine j1 [] [0, 2] (by kernel_rfl) Z (g9 Z ?_ (g9 Z ?_ j7)) | exact Z8 (by kernel_rfl) (e7 (d8 (e9 Z (e9 Z (l7 cDat Z (e9 Z (e9 Z (e9 Z (e9 Z g7))))))) (A1 Z (A1 Z (l4 Z (l4 Z (A1 Z g8))))) Z Z Z Z))
  ·obtain ⟨H1, F⟩ := f5 F
   obtain ⟨H2, F⟩ := f5 F
   exact bI cDat (l := 2) (xs := x4) H1 Z K Z Z Z Z Z Z Z Z Z (k9 (C9 Z) (k9 (C9 Z) (k9 (C9 Z) (k9 (eY Z (by simp)) aY)))) Z (n9 (E8 14 16 x7.items.length x4.length [.int .i64 x7.kind, .int .i64 x7.number, .str x7.text] [] Z (s7 _ _) Z Z Z Z (s7 _ _) (Cd.dps0 cDat 2 (fun _ => Z) _) Z) (n9 (L5 14 (rows' := (x4 ++ ([x7] : List PD)).map (cDat.enc 2)) Z (nX cDat (l := 2) x4 x7) Z) (n9 (E9 (y := .hsl 14 0 (x4 ++ ([x7] : List PD)).length) 25 Z (N7 (congrArg (V.hsl 14 0) (by simp))) Z) (xq 1 Z (Q4 (aX Z (by simp)) K Z Z Z Z Z Z Z Z Z (j6 (I5 (i9 (t6 K Z Z Z H2 Z (xn 1 Z (l6 ⟨((x3 + 1), (x4 ++ ([x7] : List PD))), F, (e7 (d8 (e9 Z (e9 Z (l7 cDat Z (e9 Z (e9 Z g7))))) (A1 Z (A1 Z (l4 Z g8))) Z Z Z Z))⟩)))))))))))
 ·obtain rfl := f6 F
  exact o3 (W4 (W3 (s9 (qx 1 Z (r8 K Z Z Z Z Z (k9 (C9 Z) (k9 (C9 Z) (k9 (C9 Z) (k9 (eY Z (by simp)) aY)))) Z Z Z (j6 (i8 (⟨_, Z, 14, Z, Z⟩))))))))
theorem uG (n : Nat) : jO (C4 n) := by
 induction n with
 | zero => exact fun _ q h => by cases h
 | succ n ih => exact fun d q h => ah0 (C4 n) ih d q h
theorem s_l1Copy_ok (n : Nat) (d : PD) (q : PD) (F : C4 n d = some q) : FC Tryz.prog 113 [.agg (cDat.row 0 d)] [] 8 (fun x _ => x = .agg (cDat.row 1 q)) :=
 fc_fz1 (uG n d q F) (fzr cDat 2 q.items Z (fun _ => Z)) (fun _ => (.agg (.cons (.refl _) (.cons (.refl _) (.cons (.refl _) (.cons dz1 .nil))))))
def jQ (z5 : PC → Option PC) : Prop := ∀ (c : PC) (q : PC), z5 c = some q → FC Tryz.prog 101 [.agg (cCore.row 0 c)] [] 8 (fun x h2 => ∃ j k l, x = .agg [.int .i64 q.kind, .int .i64 q.number, .hsl j 0 q.params.length, .int .i64 q.datum.kind, .int .i64 q.datum.number, .str q.datum.text, .hsl k 0 q.datum.items.length, .hsl l 0 q.kids.length] ∧ Go.Abs.distinct [j, k, l] = true ∧ hget h2 j = some ⟨1, q.params.map (cInt.enc 0)⟩ ∧ hget h2 k = some ⟨4, q.datum.items.map (cDat.enc 2)⟩ ∧ hget h2 l = some ⟨8, q.kids.map (cCore.enc 2)⟩)
theorem ah6 (z5 : PC → Option PC) (h_s_l5Copy : jQ z5) : jQ (hC z5) := by
 intro c q F
 unfold hC at F
 obtain ⟨x3, hx3, F⟩ := c7 F
 obtain ⟨x4, hx4, F⟩ := c7 F
 refine bdy Tryz.func101 Tryz.ntmps101 Z Z Z (qn 2 Z (c6 (cY (id := 1) 12 [0, 1, 2, 3, 4, 5, 6, 7, 8, 9] ⟨[(1, .ptr 8 1 0 0), (2, .ptr 9 1 0 0), (3, .ptr 12 1 0 0), (16, .agg [.int .i64 c.kind, .int .i64 c.number, .hsl 10 0 x3.length, .int .i64 x4.kind, .int .i64 x4.number, .str x4.text, .hsl 11 0 x4.items.length, .nilsl])], [(8, ⟨8, [cCore.row 0 c]⟩), (9, ⟨8, [z8]⟩), (10, ⟨1, x3.map (cInt.enc 0)⟩), (11, ⟨4, x4.items.map (cDat.enc 2)⟩), (12, ⟨8, [z8]⟩)], 13, 33, []⟩ (by kernel_rfl) (by kernel_rfl) ?_ ?_)))
 ·refine xx K Z (xx K Z (xx K Z (xx K Z (xx K Z (xx K Z (x_o1 (eB c.params x3 hx3) Z (f9 (s8 (M4 cInt c.params Z)) o8) (Cd.rlR cInt f01 0 _) (fun n j => by simp [V.rnA, V.rnAL, V.rl, upJ, dn]) Z (xx K Z (xx K Z (x_o1 (uG RF c.datum x4 hx4) Z (f9 (s8 (o6 cDat c.datum Z)) o8) (Cd.rlR cDat f01 2 _) (fun n j => by simp [V.rnA, V.rnAL, V.rl, upJ, dn]) Z (dB (x_alloc K Z Z Z Z Z (wO (⟨by kernel_rfl, nW (l' := [[], [11]]) (by kernel_rfl) (I8 ?_ (I8 ?_ iK))⟩)))))))))))))
  refine O5 2 (by kernel_rfl) Z (W1 [0, 1, 2, 3, 4, 5, 6, 7, 8, 9] (by kernel_rfl) ?_)
  rotate_left
  refine O5 1 (by kernel_rfl) Z (W1 [0, 1, 2, 3, 4, 5, 6, 7, 8, 9, 11] (by kernel_rfl) ?_)
  rotate_left
  repeat' first | refine sv Z (lL K Z Z Z (.gen Z (.gen Z (.one Z (eY Z (by simp)) (.gen Z .nil)))) Z) Z (j6 ?_) | refine xn 1 Z ?_ | refine j1 [0, 1, 2, 3, 4, 5, 6, 7, 8, 9, 11] [10] (by kernel_rfl) Z (g9 Z ?_ j7) | refine j1 [0, 1, 2, 3, 4, 5, 6, 7, 8, 9, 10] [11] (by kernel_rfl) Z (g9 Z ?_ j7) | refine j1 [0, 1, 2, 3, 4, 5, 6, 7, 8, 9] [10, 11] (by kernel_rfl) Z (g9 Z ?_ (g9 Z ?_ j7)) | exact Z8 (by kernel_rfl) (zT [(8, 8), (9, 9), (10, 10), (11, 11), (12, 12)] Z Z (s5 Z (M3 Z) (s5 Z (M3 Z) (s5 Z (M3 Z) (s5 Z (uF (c9 Z (c9 Z (c9 (y8 Z) (c9 Z (c9 Z (c9 Z (c9 (y8 Z) (c9 Z j9))))))))) nJ)))) (o5 Z Z Z (v6 (F0 _ (cCore.rl cut2 0 c))) (o5 Z Z Z (v6 (c9 Z (c9 Z (c9 Z (c9 Z (c9 Z (c9 Z (c9 Z (c9 Z j9))))))))) (o5 Z Z Z (Cd.rnR cInt _ x3 Z) (o5 Z Z Z (Cd.rnR cDat _ x4.items Z) (o5 Z Z Z (v6 (c9 Z (c9 Z (c9 Z (c9 Z (c9 Z (c9 Z (c9 Z (c9 Z j9))))))))) nK))))) Z Z)
 ·refine r8 K Z Z Z Z Z (k9 (C9 Z) (k9 (C9 Z) (k9 (eY Z (by simp)) (k9 (C9 Z) (k9 (C9 Z) (k9 (C9 Z) (k9 (eY Z (by simp)) (k9 (C9 Z) aY)))))))) Z Z Z (j6 (c6 (qx 2 Z (sv Z (n8 cCore K Z Z Z) Z (xn 1 Z (f8 (t4 (fun x5 x6 => ⟨[(2, .ptr 9 1 0 0), (3, .ptr 12 1 0 0), (18, .psl 0 8 (c.kids.map (cCore.enc 0))), (19, .int .i64 (c.kids.length : Int)), (20, .int .i64 x5)], [(9, ⟨8, [z8]⟩), (10, ⟨1, x3.map (cInt.enc 0)⟩), (11, ⟨4, x4.items.map (cDat.enc 2)⟩), (12, ⟨8, [[.int .i64 c.kind, .int .i64 c.number, .hsl 10 0 x3.length, .int .i64 x4.kind, .int .i64 x4.number, .str x4.text, .hsl 11 0 x4.items.length, .hsl 18 0 x6.length]]⟩), (18, ⟨8, x6.map (cCore.enc 2)⟩)], 19, 33, []⟩) (pF z5 c x3 x4) LF 0 [] F ((oP 18 Z Z).trans ((z7 12 8 (k := 7) (pre := [.int .i64 c.kind, .int .i64 c.number, .hsl 10 0 x3.length, .int .i64 x4.kind, .int .i64 x4.number, .str x4.text, .hsl 11 0 x4.items.length]) (suf := []) Z Z Z).trans (e7 (d8 (e9 Z (e9 Z (l7 cCore Z (e9 Z (e9 Z g7))))) (A1 Z (l4 Z (l4 Z (A1 Z (l4 Z g8))))) Z Z Z Z)))) ?_)))))))
  intro go7 x5 x6 F
  replace F : U1 z5 c x3 x4 go7 x5 x6 = some q := F
  unfold U1 at F
  refine qn 1 Z (c6 (j8 F Z (fun G F => ?_) (fun G F => ?_)))
  ·obtain ⟨x8, hn_x8, F⟩ := c7 F
   obtain ⟨x9, hx9, F⟩ := c7 F
   refine e8 (c6 (f8 (qr (sv Z (j3 cCore hn_x8 K Z Z Z Z) Z (xn 3 Z (nY (id := 5) 5 ⟨[(2, .ptr 9 1 0 0), (3, .ptr 12 1 0 0), (18, .psl 0 8 (c.kids.map (cCore.enc 0))), (19, .int .i64 (c.kids.length : Int)), (20, .int .i64 x5), (25, .hsl 18 0 x6.length), (28, .hsl 23 0 1)], [(9, ⟨8, [z8]⟩), (10, ⟨1, x3.map (cInt.enc 0)⟩), (11, ⟨4, x4.items.map (cDat.enc 2)⟩), (12, ⟨8, [[.int .i64 c.kind, .int .i64 c.number, .hsl 10 0 x3.length, .int .i64 x4.kind, .int .i64 x4.number, .str x4.text, .hsl 11 0 x4.items.length, .hsl 18 0 x6.length]]⟩), (18, ⟨8, x6.map (cCore.enc 2)⟩), (20, ⟨1, x9.params.map (cInt.enc 0)⟩), (21, ⟨4, x9.datum.items.map (cDat.enc 2)⟩), (22, ⟨8, x9.kids.map (cCore.enc 2)⟩), (23, ⟨8, [[.int .i64 x9.kind, .int .i64 x9.number, .hsl 20 0 x9.params.length, .int .i64 x9.datum.kind, .int .i64 x9.datum.number, .str x9.datum.text, .hsl 21 0 x9.datum.items.length, .hsl 22 0 x9.kids.length]]⟩)], 24, 33, []⟩ (by kernel_rfl) (by kernel_rfl) ?_ ?_))))))
   ·refine W1 [] Z ?_
    repeat' first | refine xn 1 Z ?_ | refine rV K Z Z Z Z Z Z Z (j6 ?_) | refine N8 (h_s_l5Copy x8 x9 hx9) Z (f9 (s8 (o6 cCore x8 Z)) o8) (Cd.rlR cInt f01 0 _) (Cd.rlR cDat f01 2 _) (Cd.rlR cCore f01 2 _) Z (fun j k l hd => by simp [V.rnA, V.rnAL, V.rl, upJa, upJb hd, upJc hd]) Z (j6 ?_) | refine j1 [0, 1, 2, 3] [4] (by kernel_rfl) Z (g9 Z ?_ j7) | refine j1 [0, 2, 3, 4] [1] (by kernel_rfl) Z (g9 Z ?_ j7) | refine j1 [0, 1, 2] [3] (by kernel_rfl) Z (g9 Z ?_ j7) | refine j1 [0, 2, 3] [1, 4] (by kernel_rfl) Z (g9 Z ?_ (g9 Z ?_ j7)) | refine j1 [0, 2] [1, 3] (by kernel_rfl) Z (g9 Z ?_ (g9 Z ?_ j7)) | refine j1 [0, 1] [2] (by kernel_rfl) Z (g9 Z ?_ j7) | refine j1 [0] [1, 2] (by kernel_rfl) Z (g9 Z ?_ (g9 Z ?_ j7)) | refine j1 [2, 3, 4] [0] (by kernel_rfl) Z (g9 Z ?_ j7) | refine j1 [2, 3] [0, 4] (by kernel_rfl) Z (g9 Z ?_ (g9 Z ?_ j7)) | refine j1 [2] [0, 3] (by kernel_rfl) Z (g9 Z ?_ (g9 Z ?_ j7)) | refine j1 [] [0, 2] (by kernel_rfl) Z (g9 Z ?_ (g9 Z ?_ j7)) | exact Z8 (by kernel_rfl) (e7 (d8 (e9 Z (e9 Z (l7 cCore Z (e9 Z (e9 Z (e9 Z (e9 Z g7))))))) (A1 Z (l4 Z (l4 Z (A1 Z (l4 Z (l4 Z (l4 Z (l4 Z (A1 Z g8))))))))) Z Z Z Z))
   ·obtain ⟨H1, F⟩ := f5 F
    obtain ⟨H2, F⟩ := f5 F
    exact bI cCore (l := 2) (xs := x6) H1 Z K Z Z Z Z Z Z Z Z Z (v5 Z (by simp) Z (by simp) Z (by simp)) Z (n9 (E8 18 20 x9.params.length x6.length [.int .i64 x9.kind, .int .i64 x9.number] [.int .i64 x9.datum.kind, .int .i64 x9.datum.number, .str x9.datum.text, .hsl 21 0 x9.datum.items.length, .hsl 22 0 x9.kids.length] Z (s7 _ _) Z Z Z Z (s7 _ _) (Cd.dps0 cInt 0 (fun _ => Z) _) Z) (n9 (E8 18 21 x9.datum.items.length x6.length [.int .i64 x9.kind, .int .i64 x9.number, .psl 2 1 (x9.params.map (cInt.enc 2)), .int .i64 x9.datum.kind, .int .i64 x9.datum.number, .str x9.datum.text] [.hsl 22 0 x9.kids.length] Z (s7 _ _) Z Z Z Z (s7 _ _) (Cd.dps0 cDat 2 (fun _ => Z) _) Z) (n9 (E8 18 22 x9.kids.length x6.length [.int .i64 x9.kind, .int .i64 x9.number, .psl 2 1 (x9.params.map (cInt.enc 2)), .int .i64 x9.datum.kind, .int .i64 x9.datum.number, .str x9.datum.text, .psl 2 4 (x9.datum.items.map (cDat.enc 2))] [] Z (s7 _ _) Z Z Z Z (s7 _ _) (Cd.dps0 cCore 2 (fun _ => Z) _) Z) (n9 (L5 18 (rows' := (x6 ++ ([x9] : List PC)).map (cCore.enc 2)) Z (nX cCore (l := 2) x6 x9) Z) (n9 (E9 (y := .hsl 18 0 (x6 ++ ([x9] : List PC)).length) 29 Z (N7 (congrArg (V.hsl 18 0) (by simp))) Z) (xq 1 Z (Q4 (aX Z (by simp)) K Z Z Z Z Z Z Z Z Z (j6 (I5 (i9 (t6 K Z Z Z H2 Z (xn 1 Z (l6 ⟨((x5 + 1), (x6 ++ ([x9] : List PC))), F, (e7 (d8 (e9 Z (e9 Z (l7 cCore Z (e9 Z (e9 Z g7))))) (A1 Z (l4 Z (l4 Z (A1 Z (l4 Z g8))))) Z Z Z Z))⟩)))))))))))))
  ·obtain rfl := f6 F
   exact o3 (W4 (W3 (s9 (qx 1 Z (r8 K Z Z Z Z Z (v5 Z (by simp) Z (by simp) Z (by simp)) Z Z Z (j6 (i8 (⟨_, Z, 10, 11, 18, Z, Z, Z, Z, Z⟩))))))))
theorem lW (n : Nat) : jQ (z5 n) := by
 induction n with
 | zero => exact fun _ q h => by cases h
 | succ n ih => exact fun c q h => ah6 (z5 n) ih c q h
theorem eE (n : Nat) (c : PC) (q : PC) (F : z5 n c = some q) : FC Tryz.prog 101 [.agg (cCore.row 0 c)] [] 8 (fun x _ => x = .agg (cCore.row 1 q)) :=
 fc_fz3 (lW n c q F) (fzr cInt 0 q.params Z (fun _ => Z)) (fzr cDat 2 q.datum.items Z (fun _ => Z)) (fzr cCore 2 q.kids Z (fun _ => Z)) (fun _ _ _ => (.agg (.cons (.refl _) (.cons (.refl _) (.cons dz1 (.cons (.refl _) (.cons (.refl _) (.cons (.refl _) (.cons dz2 (.cons dz3 .nil))))))))))
theorem ai2 (c : PC) (boxed : LI) (q : Bool) (F : cV c boxed = some q) : FC Tryz.prog 151 [.agg (cCore.row 0 c), .psl 0 1 (boxed.map (cInt.enc 0))] [] 8 (fun x _ => x = .bool q) := by
 unfold cV at F
 obtain ⟨x3, hx3, F⟩ := c7 F
 refine FC.of_le (bdy Tryz.func151 Tryz.ntmps151 Z Z Z (qn 2 Z (qx 1 Z (j2 (pM c x3 hx3) Z ((d9 (o6 cCore c Z) i7)) Z Z (xq 1 Z (Y3 (g := 7) F Z (fun G F => ?_) (fun G F => ?_)))))))
 ·obtain rfl := f6 F
  exact xn 17 Z (u0 Z)
 ·refine xq 5 Z (m8 (g := 12) F Z (fun G F => ?_) (fun G F => ?_))
  ·obtain rfl := f6 F
   exact xn 12 Z (u0 Z)
  ·refine xq 4 Z (m8 (g := 16) F Z (fun G F => ?_) (fun G F => ?_))
   ·obtain ⟨x4, hx4, F⟩ := c7 F
    obtain rfl := f6 F
    exact xq 3 Z (j2 (E5 boxed c.number x4 hx4) Z ((d9 (M4 cInt boxed Z) (d9 (Z) i7))) Z Z (xn 4 Z (u0 Z)))
   ·obtain rfl := f6 F
    exact xn 8 Z (u0 Z)
def Z0 (l8 : PC → Int → PC → Option PC) : Prop := ∀ (c : PC) (x_1 : Int) (x_2 : PC) (q : PC), l8 c x_1 x_2 = some q → FC Tryz.prog 152 [.agg (cCore.row 0 c), .int .i64 x_1, .agg (cCore.row 0 x_2)] [] 8 (fun x h2 => ∃ j k l, x = .agg [.int .i64 q.kind, .int .i64 q.number, .hsl j 0 q.params.length, .int .i64 q.datum.kind, .int .i64 q.datum.number, .str q.datum.text, .hsl k 0 q.datum.items.length, .hsl l 0 q.kids.length] ∧ Go.Abs.distinct [j, k, l] = true ∧ hget h2 j = some ⟨1, q.params.map (cInt.enc 0)⟩ ∧ hget h2 k = some ⟨4, q.datum.items.map (cDat.enc 2)⟩ ∧ hget h2 l = some ⟨8, q.kids.map (cCore.enc 2)⟩)
theorem pR (l8 : PC → Int → PC → Option PC) (h_s_l9Substitute : Z0 l8) : Z0 (Q3 l8) := by
 intro c x_1 x_2 q F
 unfold Q3 at F
 refine bdy Tryz.func152 Tryz.ntmps152 Z Z Z (qn 3 Z (c6 (c6 (u4 (fun (x5 : Bool) => ⟨[(1, .int .i64 x_1), (3, .ptr 8 1 0 0), (5, .ptr 9 1 0 0), (6, .ptr 10 1 0 0), (17, .bool x5)], [(8, ⟨8, [cCore.row 0 c]⟩), (9, ⟨8, [cCore.row 0 x_2]⟩), (10, ⟨8, [z8]⟩)], 11, 42, []⟩) (fun x5 => I7 l8 c x_1 x_2 x5 = some q) ?_ ?_))))
 ·refine gx 4 Z (m8 (g := 12) F Z (fun G F => ?_) (fun G F => ?_))
  ·exact xn 5 Z (j5 ⟨(decide (c.number = x_1)), F, (e7 (d8 (e9 Z (e9 Z (e9 Z (e9 Z (e9 Z g7))))) (y9 cCore Z (y9 cCore Z (A1 Z g8))) Z Z Z Z))⟩)
  ·exact xn 5 Z (j5 ⟨false, F, (e7 (d8 (e9 Z (e9 Z (e9 Z (e9 Z (e9 Z g7))))) (y9 cCore Z (y9 cCore Z (A1 Z g8))) Z Z Z Z))⟩)
 ·intro x5 F
  replace F : I7 l8 c x_1 x_2 x5 = some q := F
  unfold I7 at F
  refine kZ F Z (fun G F => ?_) (fun G F => ?_)
  ·obtain ⟨x6, hx6, F⟩ := c7 F
   obtain rfl := f6 F
   exact qx 1 Z (N8 (lW RF x_2 x6 hx6) Z (f9 (s8 (o6 cCore x_2 Z)) o8) (Cd.rlR cInt f01 0 _) (Cd.rlR cDat f01 2 _) (Cd.rlR cCore f01 2 _) Z (fun j k l hd => by simp [V.rnA, V.rnAL, V.rl, upJa, upJb hd, upJc hd]) Z (r8 K Z Z Z Z Z (v5 Z (by simp) Z (by simp) Z (by simp)) Z Z Z (j6 (i8 (q8 (⟨_, Z, 11, 12, 13, Z, Z, Z, Z, Z⟩))))))
  ·obtain ⟨x6, hx6, F⟩ := c7 F
   refine e8 (qx 1 Z (N8 (lW RF c x6 hx6) Z (f9 (s8 (o6 cCore c Z)) o8) (Cd.rlR cInt f01 0 _) (Cd.rlR cDat f01 2 _) (Cd.rlR cCore f01 2 _) Z (fun j k l hd => by simp [V.rnA, V.rnAL, V.rl, upJa, upJb hd, upJc hd]) Z (xq 1 Z (r8 K Z Z Z Z Z (v5 Z (by simp) Z (by simp) Z (by simp)) Z Z Z (j6 (c6 (qx 2 Z (sv Z (dU cCore K Z Z Z) Z (xn 1 Z (f8 (t4 (fun x7 x8 => ⟨[(1, .int .i64 x_1), (3, .ptr 8 1 0 0), (5, .ptr 9 1 0 0), (6, .ptr 10 1 0 0), (7, .ptr 14 1 0 0), (24, .int .i64 (x6.kids.length : Int)), (25, .int .i64 x7)], [(8, ⟨8, [cCore.row 0 c]⟩), (9, ⟨8, [cCore.row 0 x_2]⟩), (10, ⟨8, [z8]⟩), (11, ⟨1, x6.params.map (cInt.enc 0)⟩), (12, ⟨4, x6.datum.items.map (cDat.enc 2)⟩), (13, ⟨8, x8.map (cCore.enc 2)⟩), (14, ⟨8, [[.int .i64 x6.kind, .int .i64 x6.number, .hsl 11 0 x6.params.length, .int .i64 x6.datum.kind, .int .i64 x6.datum.number, .str x6.datum.text, .hsl 12 0 x6.datum.items.length, .hsl 13 0 x8.length]]⟩)], 15, 42, []⟩) (V8 l8 c x_1 x_2 x6) LF 0 x6.kids F (e7 (d8 (e9 Z (e9 Z (e9 Z (e9 Z (e9 Z (e9 Z (e9 Z g7))))))) (y9 cCore Z (y9 cCore Z (A1 Z (l4 Z (l4 Z (l4 Z (A1 Z g8))))))) Z Z Z Z)) ?_)))))))))))
   intro go9 x7 x8 F
   replace F : D0 l8 c x_1 x_2 x6 go9 x7 x8 = some q := F
   unfold D0 at F
   refine qn 1 Z (c6 (j8 F Z (fun G F => ?_) (fun G F => ?_)))
   ·obtain ⟨x10, hn_x10, F⟩ := c7 F
    obtain ⟨x11, hx11, F⟩ := c7 F
    refine e8 (c6 (f8 (qn 2 Z (cY (id := 7) 11 [0, 1, 2, 3, 4, 5, 6, 7, 8, 9, 10] ⟨[(1, .int .i64 x_1), (3, .ptr 8 1 0 0), (5, .ptr 9 1 0 0), (6, .ptr 10 1 0 0), (7, .ptr 14 1 0 0), (24, .int .i64 (x6.kids.length : Int)), (25, .int .i64 x7), (29, .hsl 13 0 x8.length), (30, .int .i64 x7), (38, .agg [.int .i64 x11.kind, .int .i64 x11.number, .hsl 15 0 x11.params.length, .int .i64 x11.datum.kind, .int .i64 x11.datum.number, .str x11.datum.text, .hsl 16 0 x11.datum.items.length, .hsl 17 0 x11.kids.length])], [(8, ⟨8, [cCore.row 0 c]⟩), (9, ⟨8, [cCore.row 0 x_2]⟩), (10, ⟨8, [z8]⟩), (11, ⟨1, x6.params.map (cInt.enc 0)⟩), (12, ⟨4, x6.datum.items.map (cDat.enc 2)⟩), (13, ⟨8, x8.map (cCore.enc 2)⟩), (14, ⟨8, [[.int .i64 x6.kind, .int .i64 x6.number, .hsl 11 0 x6.params.length, .int .i64 x6.datum.kind, .int .i64 x6.datum.number, .str x6.datum.text, .hsl 12 0 x6.datum.items.length, .hsl 13 0 x8.length]]⟩), (15, ⟨1, x11.params.map (cInt.enc 0)⟩), (16, ⟨4, x11.datum.items.map (cDat.enc 2)⟩), (17, ⟨8, x11.kids.map (cCore.enc 2)⟩)], 18, 42, []⟩ (by kernel_rfl) (by kernel_rfl) ?_ ?_))))
    ·refine xx K Z (xx K Z (xx K Z (xx K Z (xx K Z (xx K Z (xv Z (j3 cCore hn_x10 K Z Z Z Z) Z (xx K Z (xx K Z (xx K Z (x_o3 (h_s_l9Substitute x10 x_1 x_2 x11 hx11) Z (f9 (s8 (o6 cCore x10 Z)) (f9 (s8 (Z)) (f9 (s8 (o6 cCore x_2 Z)) o8))) (Cd.rlR cInt f01 0 _) (Cd.rlR cDat f01 2 _) (Cd.rlR cCore f01 2 _) (fun n j k l hd => by simp [V.rnA, V.rnAL, V.rl, upJa, upJb hd, upJc hd]) Z (wO (⟨by kernel_rfl, nW (l' := [[]]) (by kernel_rfl) (I8 ?_ iK)⟩))))))))))))
     refine O5 0 (by kernel_rfl) Z (W1 [0, 1, 2, 3, 4, 5, 6, 7, 8, 9, 10] (by kernel_rfl) ?_)
     rotate_left
     repeat' first | exact Z8 (by kernel_rfl) (zT [(8, 8), (9, 9), (10, 10), (11, 11), (12, 12), (13, 13), (14, 14), (15, 15), (16, 16), (17, 17)] Z Z (s5 Z Z (s5 Z (M3 Z) (s5 Z (M3 Z) (s5 Z (M3 Z) (s5 Z (M3 Z) (s5 Z Z (s5 Z Z (s5 Z (y8 Z) (s5 Z Z (s5 Z (uF (c9 Z (c9 Z (c9 (y8 Z) (c9 Z (c9 Z (c9 Z (c9 (y8 Z) (c9 (y8 Z) j9))))))))) nJ)))))))))) (o5 Z Z Z (v6 (F0 _ (cCore.rl cut2 0 c))) (o5 Z Z Z (v6 (F0 _ (cCore.rl cut2 0 x_2))) (o5 Z Z Z (v6 (c9 Z (c9 Z (c9 Z (c9 Z (c9 Z (c9 Z (c9 Z (c9 Z j9))))))))) (o5 Z Z Z (Cd.rnR cInt _ x6.params Z) (o5 Z Z Z (Cd.rnR cDat _ x6.datum.items Z) (o5 Z Z Z (Cd.rnR cCore _ x8 Z) (o5 Z Z Z (v6 (c9 Z (c9 Z (c9 (y8 Z) (c9 Z (c9 Z (c9 Z (c9 (y8 Z) (c9 (y8 Z) j9))))))))) (o5 Z Z Z (Cd.rnR cInt _ x11.params Z) (o5 Z Z Z (Cd.rnR cDat _ x11.datum.items Z) (o5 Z Z Z (Cd.rnR cCore _ x11.kids Z) nK)))))))))) Z Z)
    ·obtain ⟨x12, hn_x12, F⟩ := c7 F
     obtain ⟨H1, F⟩ := f5 F
     exact sv Z (F7 cCore hn_x12 K Z Z Z Z) Z (tQ cCore (l := 2) hn_x12 K Z Z Z Z Z (v5 Z (by simp) Z (by simp) Z (by simp)) Z Z Z (n9 (Q1 13 15 x7.toNat x11.params.length [.int .i64 x11.kind, .int .i64 x11.number] [.int .i64 x11.datum.kind, .int .i64 x11.datum.number, .str x11.datum.text, .hsl 16 0 x11.datum.items.length, .hsl 17 0 x11.kids.length] Z Z Z Z Z (s7 _ _) (cCore.atx _ hn_x12) (Cd.dps0 cInt 0 (fun _ => Z) _) Z Z) (n9 (L5 13 Z (V9 _ _ _ _) Z) (n9 (Q1 13 16 x7.toNat x11.datum.items.length [.int .i64 x11.kind, .int .i64 x11.number, .psl 2 1 (x11.params.map (cInt.enc 2)), .int .i64 x11.datum.kind, .int .i64 x11.datum.number, .str x11.datum.text] [.hsl 17 0 x11.kids.length] Z Z Z Z Z (s7 _ _) (cCore.atx _ hn_x12) (Cd.dps0 cDat 2 (fun _ => Z) _) Z Z) (n9 (L5 13 Z (V9 _ _ _ _) Z) (n9 (Q1 13 17 x7.toNat x11.kids.length [.int .i64 x11.kind, .int .i64 x11.number, .psl 2 1 (x11.params.map (cInt.enc 2)), .int .i64 x11.datum.kind, .int .i64 x11.datum.number, .str x11.datum.text, .psl 2 4 (x11.datum.items.map (cDat.enc 2))] [] Z Z Z Z Z (s7 _ _) (cCore.atx _ hn_x12) (Cd.dps0 cCore 2 (fun _ => Z) _) Z Z) (n9 (L5 13 (rows' := (x8.set x7.toNat x11).map (cCore.enc 2)) Z ((V9 _ _ _ _).trans (cCore.setx x8 x7.toNat x11)) Z) (n9 (L5 14 (rows' := [[.int .i64 x6.kind, .int .i64 x6.number, .hsl 11 0 x6.params.length, .int .i64 x6.datum.kind, .int .i64 x6.datum.number, .str x6.datum.text, .hsl 12 0 x6.datum.items.length, .hsl 13 0 (x8.set x7.toNat x11).length]]) Z (by simp only [List.length_set]) Z) (j6 (I5 (i9 (t6 K Z Z Z H1 Z (xn 1 Z (l6 ⟨((x7 + 1), (x8.set x7.toNat x11)), F, (e7 (d8 (e9 Z (e9 Z (e9 Z (e9 Z (e9 Z (e9 Z (e9 Z g7))))))) (y9 cCore Z (y9 cCore Z (A1 Z (l4 Z (l4 Z (l4 Z (A1 Z g8))))))) Z Z Z Z))⟩))))))))))))))
   ·obtain rfl := f6 F
    exact o3 (W4 (W3 (s9 (qx 1 Z (r8 K Z Z Z Z Z (v5 Z (by simp) Z (by simp) Z (by simp)) Z Z Z (j6 (i8 (⟨_, Z, 11, 12, 13, Z, Z, Z, Z, Z⟩))))))))
theorem rU (n : Nat) : Z0 (l8 n) := by
 induction n with
 | zero => exact fun _ _ _ q h => by cases h
 | succ n ih => exact fun c x_1 x_2 q h => pR (l8 n) ih c x_1 x_2 q h
theorem tP (n : Nat) (c : PC) (x_1 : Int) (x_2 : PC) (q : PC) (F : l8 n c x_1 x_2 = some q) : FC Tryz.prog 152 [.agg (cCore.row 0 c), .int .i64 x_1, .agg (cCore.row 0 x_2)] [] 8 (fun x _ => x = .agg (cCore.row 1 q)) :=
 fc_fz3 (rU n c x_1 x_2 q F) (fzr cInt 0 q.params Z (fun _ => Z)) (fzr cDat 2 q.datum.items Z (fun _ => Z)) (fzr cCore 2 q.kids Z (fun _ => Z)) (fun _ _ _ => (.agg (.cons (.refl _) (.cons (.refl _) (.cons dz1 (.cons (.refl _) (.cons (.refl _) (.cons (.refl _) (.cons dz2 (.cons dz3 .nil))))))))))
theorem s_l9Beta_ok (c : PC) (boxed : LI) (q : PC × Bool) (F : jV c boxed = some q) : FC Tryz.prog 97 [.agg (cCore.row 0 c), .psl 0 1 (boxed.map (cInt.enc 0))] [] 8 (fun x _ => x = .tup [.agg (cCore.row 1 q.1), .bool q.2]) := by
 unfold jV at F
 refine FC.of_le (bdy Tryz.func97 Tryz.ntmps97 Z Z Z (qn 3 Z (c6 (c6 (A6 (id := 1) 22 (by kernel_rfl) (by kernel_rfl) (nx K Z (nx K Z (nx K Z (nx K Z (dn_ifn (g := 15) F Z (fun G F => ?_) (fun G F => ?_)))))))))))
 ·obtain rfl := f6 F
  exact nx K Z (nx K Z (nx K Z (nx K Z (nx K Z (nx K Z (nx K Z (nx K Z (nx K Z (nx K Z (nx K Z (nx K Z (nx K Z (nx K Z (nx K Z (nx K Z (nx K Z (nx K Z (E3 Z (xn 2 Z (o9 Z (c6 (d6 [4] Z (i9 (sv Z (j4 K Z Z) Z (xn 2 Z (i8 (q8 (l5 Z (l9 (.cons P6 (.cons (d7 _) .nil)))))))))))))))))))))))))))))))
 ·obtain ⟨x3, hn_x3, F⟩ := c7 F
  refine nx K Z (nx K Z (nv Z (j3 cCore hn_x3 K Z Z Z Z) Z (nx K Z (nx K Z (nx K Z (nx K Z (nx K Z (dn_ifn (g := 23) F Z (fun G F => ?_) (fun G F => ?_)))))))))
  ·obtain rfl := f6 F
   exact nx K Z (nx K Z (nx K Z (nx K Z (nx K Z (nx K Z (nx K Z (nx K Z (nx K Z (nx K Z (E3 Z (xn 2 Z (o9 Z (c6 (d6 [4] Z (i9 (sv Z (j4 K Z Z) Z (xn 2 Z (i8 (q8 (l5 Z (l9 (.cons P6 (.cons (d7 _) .nil)))))))))))))))))))))))
  ·obtain ⟨x4, hn_x4, F⟩ := c7 F
   obtain ⟨H1, F⟩ := f5 F
   refine nx K Z (nx K Z (nv Z (j3 cCore hn_x4 K Z Z Z Z) Z (nx K Z (nx K Z (nv Z (n8 cInt K Z Z Z) Z (nx K Z (nx K Z (nv Z (n8 cCore K Z Z Z) Z (nv Z (ov_sub K Z Z H1) Z (E3 Z (xn 2 Z (D5 F Z (fun G F => ?_) (fun G F => ?_)))))))))))))
   ·obtain rfl := f6 F
    exact c6 (d6 [4] Z (i9 (sv Z (j4 K Z Z) Z (xn 2 Z (i8 (q8 (l5 Z (l9 (.cons P6 (.cons (d7 _) .nil))))))))))
   ·obtain ⟨x5, hn_x5, F⟩ := c7 F
    refine e8 (c6 (d6 [1, 2, 4] Z (gx 2 Z (sv Z (j3 cCore hn_x5 K Z Z Z Z) Z (xn 3 Z (c6 (qx 2 Z (sv Z (n8 cInt K Z Z Z) Z (xn 1 Z (f8 (J8 (fun x6 => ⟨[(1, .psl 0 1 (boxed.map (cInt.enc 0))), (2, .ptr 8 1 0 0), (4, .ptr 9 1 0 0), (6, .ptr 10 1 0 0), (42, .psl 0 1 (x5.params.map (cInt.enc 0))), (43, .int .i64 (x5.params.length : Int)), (44, .int .i64 x6)], [(8, ⟨8, [cCore.row 0 c]⟩), (9, ⟨8, [z8]⟩), (10, ⟨8, [cCore.row 0 x5]⟩)], 11, 89, []⟩) (pN c boxed x5) LF 0 F (e7 (d8 (l7 cInt Z (e9 Z (e9 Z (e9 Z (l7 cInt Z (e9 Z (e9 Z g7))))))) (y9 cCore Z (A1 Z (y9 cCore Z g8))) Z Z Z Z)) ?_)))))))))))
    intro go7 x6 F
    replace F : mF c boxed x5 go7 x6 = some q := F
    unfold mF at F
    refine qn 1 Z (c6 (j8 F Z (fun G F => ?_) (fun G F => ?_)))
    ·obtain ⟨x8, hn_x8, F⟩ := c7 F
     obtain ⟨x9, hx9, F⟩ := c7 F
     refine e8 (c6 (f8 (qx 1 Z (sv Z (j3 cInt hn_x8 K Z Z Z Z) Z (xn 3 Z (qx 2 Z (j2 (E5 boxed x8 x9 hx9) Z ((d9 (M4 cInt boxed Z) (d9 (Z) i7))) Z Z (xq 1 Z (Y3 (g := 52) F Z (fun G F => ?_) (fun G F => ?_))))))))))
     ·obtain rfl := f6 F
      exact xn 10 Z (o9 Z (c6 (d6 [4] Z (i9 (sv Z (j4 K Z Z) Z (xn 2 Z (i8 (z4 (q8 (cO (z4 (q8 (l5 Z (l9 (.cons P6 (.cons (d7 _) .nil))))))))))))))))
     ·obtain ⟨H1, F⟩ := f5 F
      obtain ⟨x10, hn_x10, F⟩ := c7 F
      obtain ⟨x11, hx11, F⟩ := c7 F
      refine xq 3 Z (t6 K Z Z Z H1 Z (sv Z (j3 cCore hn_x10 K Z Z Z Z) Z (xq 2 Z (j2 (ai2 x10 boxed x11 hx11) Z ((d9 (o6 cCore x10 Z) (d9 (M4 cInt boxed Z) i7))) Z Z (xn 2 Z (W6 F Z (fun G F => ?_) (fun G F => ?_)))))))
      ·obtain rfl := f6 F
       exact c6 (d6 [4] Z (i9 (sv Z (j4 K Z Z) Z (xn 2 Z (i8 (z4 (q8 (cO (z4 (q8 (l5 Z (l9 (.cons P6 (.cons (d7 _) .nil))))))))))))))
      ·obtain ⟨H1, F⟩ := f5 F
       exact e8 (I5 (d6 [1, 2, 4, 6, 42, 43, 44, 53, 54, 55, 56, 57, 58, 59, 60, 61] Z (i9 (t6 K Z Z Z H1 Z (xn 1 Z (l6 ⟨(x6 + 1), F, (e7 (d8 (l7 cInt Z (e9 Z (e9 Z (e9 Z (l7 cInt Z (e9 Z (e9 Z g7))))))) (y9 cCore Z (A1 Z (y9 cCore Z g8))) Z Z Z Z))⟩))))))
    ·obtain ⟨x8, hn_x8, F⟩ := c7 F
     obtain ⟨x9, hx9, F⟩ := c7 F
     refine o3 (W4 (W3 (s9 (qx 2 Z (sv Z (j3 cCore hn_x8 K Z Z Z Z) Z (xq 1 Z (j2 (eE RF x8 x9 hx9) Z ((d9 (o6 cCore x8 Z) i7)) (K5 cCore x9 Z) Z (xn 2 Z (c6 (c6 (d6 [2, 4, 6, 9] Z (gx 2 Z (sv Z (n8 cInt K Z Z Z) Z (xn 1 Z (f8 (t4 (fun x10 body11 => ⟨[(2, .ptr 8 1 0 0), (4, .ptr 9 1 0 0), (9, .ptr 11 1 0 0), (71, .psl 0 1 (x5.params.map (cInt.enc 0))), (72, .int .i64 (x5.params.length : Int)), (73, .int .i64 x10)], [(8, ⟨8, [cCore.row 0 c]⟩), (9, ⟨8, [z8]⟩), (11, ⟨8, [cCore.row 1 body11]⟩)], 12, 89, []⟩) (jW c x5) LF 0 x9 F (e7 (d8 (e9 Z (e9 Z (e9 Z (l7 cInt Z (e9 Z (e9 Z g7)))))) (y9 cCore Z (A1 Z (y9 cCore Z g8))) Z Z Z Z)) ?_))))))))))))))))
     intro go12 x10 body11 F
     replace F : U7 c x5 go12 x10 body11 = some q := F
     unfold U7 at F
     refine qn 1 Z (c6 (j8 F Z (fun G F => ?_) (fun G F => ?_)))
     ·obtain ⟨x13, hn_x13, F⟩ := c7 F
      obtain ⟨H1, F⟩ := f5 F
      obtain ⟨x14, hn_x14, F⟩ := c7 F
      obtain ⟨x15, hx15, F⟩ := c7 F
      obtain ⟨H2, F⟩ := f5 F
      exact e8 (c6 (f8 (qx 1 Z (sv Z (j3 cInt hn_x13 K Z Z Z Z) Z (xn 3 Z (A6 (id := 14) 8 (by kernel_rfl) (by kernel_rfl) (nx K Z (nx K Z (nx K Z (nx K Z (nx K Z (nv Z (ov_add K Z Z H1) Z (nv Z (j3 cCore hn_x14 K Z Z Z Z) Z (nx K Z (E3 Z (j2 (tP RF body11 x13 x14 x15 hx15) Z ((d9 (ac7 cCore body11 Z) (d9 (Z) (d9 (o6 cCore x14 Z) i7)))) (K5 cCore x15 Z) Z (xn 1 Z (I5 (d6 [2, 4, 9, 71, 72, 73] Z (i9 (t6 K Z Z Z H2 Z (xn 1 Z (l6 ⟨((x10 + 1), x15), F, (e7 (d8 (e9 Z (e9 Z (e9 Z (l7 cInt Z (e9 Z (e9 Z g7)))))) (y9 cCore Z (A1 Z (y9 cCore Z g8))) Z Z Z Z))⟩)))))))))))))))))))))))
     ·obtain rfl := f6 F
      exact o3 (W4 (W3 (s9 (qn 3 Z (i8 (l5 Z (l9 (.cons (d7 _) (.cons (d7 _) .nil)))))))))
theorem yU (list : List PC) (q : PC) (F : jR list = some q) : FC Tryz.prog 114 [.psl 1 8 (list.map (cCore.enc 1))] [] 8 (fun x _ => x = .agg (cCore.row 1 q)) := by
 unfold jR at F
 refine FC.of_le (bdy Tryz.func114 Tryz.ntmps114 Z Z Z (qn 1 Z (qr (J5 cCore (l := 1) ([] : List PC) K Z Z Z Z Z Z Z (xn 1 Z (c6 (qx 1 Z (sv Z (n8 cCore K Z Z Z) Z (xn 1 Z (f8 (t4 (fun x2 out3 => ⟨[(2, .ptr 8 1 0 0), (3, .hsl 9 0 out3.length), (7, .psl 1 8 (list.map (cCore.enc 1))), (8, .int .i64 (list.length : Int)), (9, .int .i64 x2)], [(8, ⟨8, [z8]⟩), (9, ⟨8, out3.map (cCore.enc 1)⟩)], 10, 33, []⟩) (pG list) LF 0 ([] : List PC) F (e7 (d8 (e9 Z (e9 Z (l7 cCore Z (e9 Z (e9 Z g7))))) (A1 Z (l4 Z g8)) Z Z Z Z)) ?_)))))))))))
 intro go4 x2 out3 F
 replace F : U3 list go4 x2 out3 = some q := F
 unfold U3 at F
 refine qn 1 Z (c6 (j8 F Z (fun G F => ?_) (fun G F => ?_)))
 ·refine e8 (c6 (u4 (fun (out5 : List PC) => ⟨[(2, .ptr 8 1 0 0), (3, .hsl 9 0 out5.length), (7, .psl 1 8 (list.map (cCore.enc 1))), (8, .int .i64 (list.length : Int)), (9, .int .i64 x2)], [(8, ⟨8, [z8]⟩), (9, ⟨8, out5.map (cCore.enc 1)⟩)], 10, 33, []⟩) (fun out5 => bD x2 go4 out5 = some q) ?_ ?_))
  ·obtain ⟨x5, hn_x5, F⟩ := c7 F
   refine f8 (qr (sv Z (j3 cCore hn_x5 K Z Z Z Z) Z (xn 3 Z (qn 3 Z (j8 F Z (fun G F => ?_) (fun G F => ?_))))))
   ·obtain ⟨H1, F⟩ := f5 F
    exact gx 3 Z (B9 cCore (l := 1) (xs := out3) (ys := x5.kids) H1 Z K Z Z Z Z Z Z Z (fT cCore (l := 1) Z Z Z) Z (xn 1 Z (I5 (j5 ⟨(out3 ++ x5.kids), F, (e7 (d8 (e9 Z (e9 Z (l7 cCore Z (e9 Z (e9 Z g7))))) (A1 Z (l4 Z g8)) Z Z Z Z))⟩))))
   ·obtain ⟨H1, F⟩ := f5 F
    exact gx 2 Z (J5 cCore (l := 1) ([x5] : List PC) K Z Z Z Z Z Z Z (B9 cCore (l := 1) (xs := out3) (ys := ([x5] : List PC)) H1 Z K Z Z Z Z Z Z Z (W0 cCore Z Z Z) Z (xn 1 Z (I5 (j5 ⟨(out3 ++ ([x5] : List PC)), F, (e7 (d8 (e9 Z (e9 Z (l7 cCore Z (e9 Z (e9 Z g7))))) (A1 Z (l4 Z g8)) Z Z Z Z))⟩)))))
  ·intro out5 F
   replace F : bD x2 go4 out5 = some q := F
   unfold bD at F
   obtain ⟨H1, F⟩ := f5 F
   exact i9 (t6 K Z Z Z H1 Z (xn 1 Z (l6 ⟨((x2 + 1), out5), F, (e7 (d8 (e9 Z (e9 Z (l7 cCore Z (e9 Z (e9 Z g7))))) (A1 Z (l4 Z g8)) Z Z Z Z))⟩)))
 ·refine o3 (W4 (W3 (s9 (c6 (qx 1 Z (sv Z (dU cCore K Z Z Z) Z (xn 1 Z (j8 F Z (fun G F => ?_) (fun G F => ?_)))))))))
  ·obtain ⟨x5, hn_x5, F⟩ := c7 F
   obtain rfl := f6 F
   exact c6 (d6 [2, 3] Z (gx 1 Z (sv Z (F7 cCore hn_x5 K Z Z Z Z) Z (sv Z (oc_load cCore hn_x5 K Z Z Z Z) Z (xn 1 Z (u1 Z))))))
  ·obtain rfl := f6 F
   exact e8 (c6 (d6 [2, 3] Z (gx 1 Z (sv Z (lL K Z Z Z (.gen Z (.one Z (eY Z (by simp)) .nil)) Z) Z (r8 K Z Z Z Z Z (k9 (C9 Z) (k9 (C9 Z) (k9 (C9 Z) (k9 (C9 Z) (k9 (C9 Z) (k9 (C9 Z) (k9 (C9 Z) (k9 (eY Z (by simp)) aY)))))))) Z Z Z (j6 (Q9 (le_fzc 8 9 (pre := [.int .i64 8, .int .i64 0, .nilsl, .int .i64 0, .int .i64 0, .str ([] : LB), .nilsl]) (suf := []) Z Z Z (by simp) Z Z) (i8 (l5 Z (jY (.cons (d7 _) (.cons (d7 _) (.cons (R0 _ _) (.cons (d7 _) (.cons (d7 _) (.cons (d7 _) (.cons (R0 _ _) (.cons (d7 _) .nil))))))))))))))))))
theorem s_l9Drop_ok (c : PC) (q : PC × Bool) (F : fS c = some q) : FC Tryz.prog 102 [.agg (cCore.row 0 c)] [] 8 (fun x _ => x = .tup [.agg (cCore.row 1 q.1), .bool q.2]) := by
 unfold fS at F
 refine FC.of_le (bdy Tryz.func102 Tryz.ntmps102 Z Z Z (qn 3 Z (c6 (qn 3 Z (D5 F Z (fun G F => ?_) (fun G F => ?_))))))
 ·obtain rfl := f6 F
  exact qr (sv Z (j4 K Z Z) Z (xn 2 Z (i8 (q8 (l5 Z (l9 (.cons P6 (.cons (d7 _) .nil))))))))
 ·refine e8 (qr (J5 cCore (l := 1) ([] : List PC) K Z Z Z Z Z Z Z (xn 1 Z (c6 (qx 2 Z (sv Z (n8 cCore K Z Z Z) Z (xn 1 Z (f8 (t4 (fun x2 kids3 => ⟨[(1, .ptr 8 1 0 0), (2, .ptr 9 1 0 0), (4, .hsl 10 0 kids3.length), (13, .psl 0 8 (c.kids.map (cCore.enc 0))), (14, .int .i64 (c.kids.length : Int)), (15, .int .i64 x2)], [(8, ⟨8, [cCore.row 0 c]⟩), (9, ⟨8, [z8]⟩), (10, ⟨8, kids3.map (cCore.enc 1)⟩)], 11, 55, []⟩) (pO c) LF 0 ([] : List PC) F (e7 (d8 (e9 Z (e9 Z (e9 Z (l7 cCore Z (e9 Z (e9 Z g7)))))) (y9 cCore Z (A1 Z (l4 Z g8))) Z Z Z Z)) ?_)))))))))
  intro go4 x2 kids3 F
  replace F : U9 c go4 x2 kids3 = some q := F
  unfold U9 at F
  refine qn 1 Z (c6 (j8 F Z (fun G F => ?_) (fun G F => ?_)))
  ·refine e8 (c6 (u4 (fun (kids5 : List PC) => ⟨[(1, .ptr 8 1 0 0), (2, .ptr 9 1 0 0), (4, .hsl 10 0 kids5.length), (13, .psl 0 8 (c.kids.map (cCore.enc 0))), (14, .int .i64 (c.kids.length : Int)), (15, .int .i64 x2)], [(8, ⟨8, [cCore.row 0 c]⟩), (9, ⟨8, [z8]⟩), (10, ⟨8, kids5.map (cCore.enc 1)⟩)], 11, 55, []⟩) (fun kids5 => bF x2 go4 kids5 = some q) ?_ ?_))
   ·obtain ⟨x5, hn_x5, F⟩ := c7 F
    refine f8 (qx 1 Z (sv Z (j3 cCore hn_x5 K Z Z Z Z) Z (xn 4 Z (c6 (u4 (fun (x6 : Bool) => ⟨[(1, .ptr 8 1 0 0), (2, .ptr 9 1 0 0), (4, .hsl 10 0 kids3.length), (6, .ptr 11 1 0 0), (13, .psl 0 8 (c.kids.map (cCore.enc 0))), (14, .int .i64 (c.kids.length : Int)), (15, .int .i64 x2), (40, .bool x6)], [(8, ⟨8, [cCore.row 0 c]⟩), (9, ⟨8, [z8]⟩), (10, ⟨8, kids3.map (cCore.enc 1)⟩), (11, ⟨8, [cCore.row 0 x5]⟩)], 12, 55, []⟩) (fun x6 => U8 x2 kids3 go4 x5 x6 = some q) ?_ ?_)))))
    ·obtain ⟨H1, F⟩ := f5 F
     refine gx 3 Z (sv Z (n8 cCore K Z Z Z) Z (kT K Z Z Z H1 Z (xq 2 Z (m8 (g := 26) F Z (fun G F => ?_) (fun G F => ?_)))))
     ·exact xn 14 Z (j5 ⟨true, F, (e7 (d8 (e9 Z (e9 Z (e9 Z (e9 Z (l7 cCore Z (e9 Z (e9 Z (e9 Z g7)))))))) (y9 cCore Z (A1 Z (l4 Z (y9 cCore Z g8)))) Z Z Z Z))⟩)
     ·refine xq 4 Z (J2 (g := 30) F Z (fun G F => ?_) (fun G F => ?_))
      ·refine xq 5 Z (J2 (g := 35) F Z (fun G F => ?_) (fun G F => ?_))
       ·exact xn 5 Z (j5 ⟨(!decide (x5.kind = 5)), F, (e7 (d8 (e9 Z (e9 Z (e9 Z (e9 Z (l7 cCore Z (e9 Z (e9 Z (e9 Z g7)))))))) (y9 cCore Z (A1 Z (l4 Z (y9 cCore Z g8)))) Z Z Z Z))⟩)
       ·exact xn 5 Z (j5 ⟨false, F, (e7 (d8 (e9 Z (e9 Z (e9 Z (e9 Z (l7 cCore Z (e9 Z (e9 Z (e9 Z g7)))))))) (y9 cCore Z (A1 Z (l4 Z (y9 cCore Z g8)))) Z Z Z Z))⟩)
      ·exact xn 10 Z (j5 ⟨false, F, (e7 (d8 (e9 Z (e9 Z (e9 Z (e9 Z (l7 cCore Z (e9 Z (e9 Z (e9 Z g7)))))))) (y9 cCore Z (A1 Z (l4 Z (y9 cCore Z g8)))) Z Z Z Z))⟩)
    ·intro x6 F
     replace F : U8 x2 kids3 go4 x5 x6 = some q := F
     unfold U8 at F
     refine kZ F Z (fun G F => ?_) (fun G F => ?_)
     ·obtain ⟨x7, hx7, F⟩ := c7 F
      obtain ⟨H1, F⟩ := f5 F
      exact gx 2 Z (j2 (eE RF x5 x7 hx7) Z ((d9 (o6 cCore x5 Z) i7)) (K5 cCore x7 Z) Z (J5 cCore (l := 1) ([x7] : List PC) K Z Z Z Z Z Z Z (B9 cCore (l := 1) (xs := kids3) (ys := ([x7] : List PC)) H1 Z K Z Z Z Z Z Z Z (W0 cCore Z Z Z) Z (xn 1 Z (I5 (j5 ⟨(kids3 ++ ([x7] : List PC)), F, (e7 (d8 (e9 Z (e9 Z (e9 Z (l7 cCore Z (e9 Z (e9 Z g7)))))) (y9 cCore Z (A1 Z (l4 Z g8))) Z Z Z Z))⟩))))))
     ·exact e8 (I5 (j5 ⟨kids3, F, (e7 (d8 (e9 Z (e9 Z (e9 Z (l7 cCore Z (e9 Z (e9 Z g7)))))) (y9 cCore Z (A1 Z (l4 Z g8))) Z Z Z Z))⟩))
   ·intro kids5 F
    replace F : bF x2 go4 kids5 = some q := F
    unfold bF at F
    obtain ⟨H1, F⟩ := f5 F
    exact i9 (t6 K Z Z Z H1 Z (xn 1 Z (l6 ⟨((x2 + 1), kids5), F, (e7 (d8 (e9 Z (e9 Z (e9 Z (l7 cCore Z (e9 Z (e9 Z g7)))))) (y9 cCore Z (A1 Z (l4 Z g8))) Z Z Z Z))⟩)))
  ·obtain ⟨x5, hx5, F⟩ := c7 F
   obtain rfl := f6 F
   exact o3 (W4 (W3 (s9 (c6 (Q9 (bZ 4 Z Z (by simp) Z) (aa8 (id := 10) 9 [(9, ⟨2, .ptr, 8, [z8]⟩)] (by kernel_rfl) (by kernel_rfl) ⟨⟨Z, Z, Z, Z, Z, Z⟩, trivial⟩ (by kernel_rfl) Z Z (nx K Z (n_id (yU kids3 x5 hx5) Z (c9 (m7 _ (kS cCore kids3 Z)) j9) (m7 _ (K5 cCore x5 Z)) Z (nx K Z (nv Z (n8 cCore K Z Z Z) Z (nx K Z (nx K Z (nv Z (n8 cCore K Z Z Z) Z (nx K Z (n_sto (cs := [.int .i64 x5.kind, .int .i64 x5.number, .psl 1 1 (x5.params.map (cInt.enc 1)), .int .i64 x5.datum.kind, .int .i64 x5.datum.number, .str x5.datum.text, .psl 1 4 (x5.datum.items.map (cDat.enc 1)), .psl 1 8 (x5.kids.map (cCore.enc 1))]) K Z Z Z Z Z Z Z (E3 Z (xn 1 Z (i8 (l5 Z (l9 (.cons (d7 _) (.cons (d7 _) .nil))))))))))))))))))))))
theorem s_l9Node_ok (c : PC) (boxed : LI) (q : PC × Bool) (F : rT c boxed = some q) : FC Tryz.prog 48 [.agg (cCore.row 0 c), .psl 0 1 (boxed.map (cInt.enc 0))] [] 8 (fun x _ => x = .tup [.agg (cCore.row 1 q.1), .bool q.2]) := by
 unfold rT at F
 obtain ⟨x3, hx3, F⟩ := c7 F
 refine FC.of_le (bdy Tryz.func48 Tryz.ntmps48 Z Z Z (qn 3 Z (c6 (qx 1 Z (j2 (s_l9Fold_ok c x3 hx3) Z ((d9 (o6 cCore c Z) i7)) (dV (d9 (K5 cCore x3.1 Z) (d9 (Z) i7))) Z (xn 6 Z (c6 (d6 [1, 2, 4, 6, 7] Z (gn 1 Z (kZ F Z (fun G F => ?_) (fun G F => ?_)))))))))))
 ·obtain rfl := f6 F
  exact qn 3 Z (i8 (q8 (l5 Z (l9 (.cons (d7 _) (.cons (d7 _) .nil))))))
 ·obtain ⟨x4, hx4, F⟩ := c7 F
  refine e8 (c6 (qx 2 Z (j2 (s_l9Beta_ok c boxed x4 hx4) Z ((d9 (o6 cCore c Z) (d9 (M4 cInt boxed Z) i7))) (dV (d9 (K5 cCore x4.1 Z) (d9 (Z) i7))) Z (xn 6 Z (c6 (d6 [2, 4, 8, 9] Z (gn 1 Z (kZ F Z (fun G F => ?_) (fun G F => ?_)))))))))
  ·obtain rfl := f6 F
   exact qn 3 Z (i8 (q8 (l5 Z (l9 (.cons (d7 _) (.cons (d7 _) .nil))))))
  ·refine e8 (c6 (c6 (u4 (fun (x5 : Bool) => ⟨[(2, .ptr 8 1 0 0), (4, .ptr 9 1 0 0), (36, .bool x5)], [(8, ⟨8, [cCore.row 0 c]⟩), (9, ⟨8, [z8]⟩)], 10, 62, []⟩) (fun x5 => V0 c x5 = some q) ?_ ?_)))
   ·refine gx 4 Z (m8 (g := 30) F Z (fun G F => ?_) (fun G F => ?_))
    ·obtain ⟨x5, hn_x5, F⟩ := c7 F
     obtain ⟨x6, hx6, F⟩ := c7 F
     exact xq 2 Z (sv Z (j3 cCore hn_x5 K Z Z Z Z) Z (xq 1 Z (j2 (pM x5 x6 hx6) Z ((d9 (o6 cCore x5 Z) i7)) Z Z (xn 1 Z (j5 ⟨x6, F, (e7 (d8 (e9 Z (e9 Z (e9 Z g7))) (y9 cCore Z (A1 Z g8)) Z Z Z Z))⟩)))))
    ·exact xn 6 Z (j5 ⟨false, F, (e7 (d8 (e9 Z (e9 Z (e9 Z g7))) (y9 cCore Z (A1 Z g8)) Z Z Z Z))⟩)
   ·intro x5 F
    replace F : V0 c x5 = some q := F
    unfold V0 at F
    refine kZ F Z (fun G F => ?_) (fun G F => ?_)
    ·obtain ⟨x6, hn_x6, F⟩ := c7 F
     obtain ⟨x7, hx7, F⟩ := c7 F
     obtain ⟨x8, hx8, F⟩ := c7 F
     refine qx 2 Z (sv Z (j3 cCore hn_x6 K Z Z Z Z) Z (xq 2 Z (qB 10 (pre := [.agg (cDat.row 0 x6.datum)]) (suf := []) (uP RF x6.datum [] x7 hx7) Z Z Z (c9 (m7 _ (o6 cDat x6.datum Z)) (c9 Z j9)) (yN (c9 (m7 _ (K5 cVal x7.1 Z)) (c9 Z j9))) (Cd.rnR cPair _ x7.2 Z) Z (xn 6 Z (c6 (c6 (d6 [2, 4, 10] Z (gx 1 Z (j2 (uO x7.1 x8 hx8) Z ((d9 (ac7 cVal x7.1 Z) i7)) Z Z (j6 (kZ F Z (fun G F => ?_) (fun G F => ?_))))))))))))
     ·obtain ⟨x9, hn_x9, F⟩ := c7 F
      obtain ⟨x10, hx10, F⟩ := c7 F
      obtain rfl := f6 F
      exact qx 2 Z (sv Z (j3 cCore hn_x9 K Z Z Z Z) Z (xq 1 Z (j2 (eE RF x9 x10 hx10) Z ((d9 (o6 cCore x9 Z) i7)) (K5 cCore x10 Z) Z (xn 2 Z (i8 (q8 (q8 (l5 Z (l9 (.cons (d7 _) (.cons (d7 _) .nil)))))))))))
     ·obtain ⟨x9, hn_x9, F⟩ := c7 F
      obtain ⟨x10, hx10, F⟩ := c7 F
      obtain rfl := f6 F
      exact e8 (qx 2 Z (sv Z (j3 cCore hn_x9 K Z Z Z Z) Z (xq 1 Z (j2 (eE RF x9 x10 hx10) Z ((d9 (o6 cCore x9 Z) i7)) (K5 cCore x10 Z) Z (xn 2 Z (i8 (q8 (l5 Z (l9 (.cons (d7 _) (.cons (d7 _) .nil)))))))))))
    ·obtain ⟨x6, hx6, F⟩ := c7 F
     obtain rfl := f6 F
     exact e8 (qx 1 Z (j2 (s_l9Drop_ok c x6 hx6) Z ((d9 (o6 cCore c Z) i7)) (dV (d9 (K5 cCore x6.1 Z) (d9 (Z) i7))) Z (xn 4 Z (i8 (l5 Z (l9 (.cons (d7 _) (.cons (d7 _) .nil))))))))
def tO (E7 : PC → LI → Int → Option (PC × Int)) : Prop := ∀ (c : PC) (boxed : LI) (x_1 : Int) (q : PC × Int), E7 c boxed x_1 = some q → FC Tryz.prog 61 [.agg (cCore.row 0 c), .psl 0 1 (boxed.map (cInt.enc 0)), .ptr 0 1 0 0] [(0, ⟨1, [cInt.row 1 x_1]⟩)] 8 (fun x h2 => x = .agg (cCore.row 1 q.1) ∧ hget h2 0 = some ⟨1, [cInt.row 1 q.2]⟩)
theorem s_l9Pass_bok (E7 : PC → LI → Int → Option (PC × Int)) (h_s_l9Pass : tO E7) : tO (iA E7) := by
 intro c boxed x_1 q F
 unfold iA at F
 obtain ⟨x5, hx5, F⟩ := c7 F
 obtain ⟨x6, hx6, F⟩ := c7 F
 refine FC.of_le_lent (bdy Tryz.func61 Tryz.ntmps61 Z Z Z (qn 2 Z (qn 4 Z (c6 (cY (id := 2) 12 [0, 1, 2, 3, 4, 5, 6, 7, 8, 9] ⟨[(1, .psl 0 1 (boxed.map (cInt.enc 0))), (2, .ptr 0 1 0 0), (3, .ptr 8 1 0 0), (6, .ptr 9 1 0 0), (7, .int .i64 x_1), (8, .ptr 11 1 0 0), (26, .agg [.int .i64 c.kind, .int .i64 c.number, .hsl 10 0 x5.length, .int .i64 x6.kind, .int .i64 x6.number, .str x6.text, .psl 1 4 (x6.items.map (cDat.enc 1)), .nilsl])], [(0, ⟨1, [[.int .i64 x_1]]⟩), (8, ⟨8, [cCore.row 0 c]⟩), (9, ⟨8, [z8]⟩), (10, ⟨1, x5.map (cInt.enc 0)⟩), (11, ⟨8, [z8]⟩)], 12, 80, []⟩ (by kernel_rfl) (by kernel_rfl) ?_ ?_)))))
 ·refine xx K Z (xx K Z (xx K Z (xx K Z (xx K Z (xx K Z (x_o1 (eB c.params x5 hx5) Z (f9 (s8 (M4 cInt c.params Z)) o8) (Cd.rlR cInt f01 0 _) (fun n j => by simp [V.rnA, V.rnAL, V.rl, upJ, dn]) Z (xx K Z (xx K Z (x_call (s_l1Copy_ok RF c.datum x6 hx6) Z ((d9 (o6 cDat c.datum Z) i7)) (K5 cDat x6 Z) Z (dB (x_alloc K Z Z Z Z Z (wO (⟨by kernel_rfl, nW (l' := [[], [11]]) (by kernel_rfl) (I8 ?_ (I8 ?_ iK))⟩)))))))))))))
  refine O5 2 (by kernel_rfl) Z (W1 [0, 1, 2, 3, 4, 5, 6, 7, 8, 9] (by kernel_rfl) ?_)
  rotate_left
  refine O5 1 (by kernel_rfl) Z (W1 [0, 1, 2, 3, 4, 5, 6, 7, 8, 9, 11] (by kernel_rfl) ?_)
  rotate_left
  repeat' first | refine sv Z (lL K Z Z Z (.gen Z (.gen Z (.one Z (eY Z (by simp)) (.gen Z .nil)))) Z) Z (j6 ?_) | refine xn 1 Z ?_ | refine j1 [0, 1, 2, 3, 4, 5, 6, 7, 8, 9, 11] [10] (by kernel_rfl) Z (g9 Z ?_ j7) | refine j1 [0, 1, 2, 3, 4, 5, 6, 7, 8, 9, 10] [11] (by kernel_rfl) Z (g9 Z ?_ j7) | refine j1 [0, 1, 2, 3, 4, 5, 6, 7, 8, 9] [10, 11] (by kernel_rfl) Z (g9 Z ?_ (g9 Z ?_ j7)) | exact Z8 (by kernel_rfl) (zT [(0, 0), (8, 8), (9, 9), (10, 10), (11, 11)] Z Z (s5 Z (m7 _ (M4 cInt boxed Z)) (s5 Z (M3 Z) (s5 Z (M3 Z) (s5 Z (M3 Z) (s5 Z Z (s5 Z (M3 Z) (s5 Z (uF (c9 Z (c9 Z (c9 (y8 Z) (c9 Z (c9 Z (c9 Z (c9 (m7 _ (kS cDat x6.items Z)) (c9 Z j9))))))))) nJ))))))) (o5 Z Z Z (v6 (c9 Z j9)) (o5 Z Z Z (v6 (F0 _ (cCore.rl cut2 0 c))) (o5 Z Z Z (v6 (c9 Z (c9 Z (c9 Z (c9 Z (c9 Z (c9 Z (c9 Z (c9 Z j9))))))))) (o5 Z Z Z (Cd.rnR cInt _ x5 Z) (o5 Z Z Z (v6 (c9 Z (c9 Z (c9 Z (c9 Z (c9 Z (c9 Z (c9 Z (c9 Z j9))))))))) nK))))) Z Z)
 ·refine r8 K Z Z Z Z Z (k9 (C9 Z) (k9 (C9 Z) (k9 (eY Z (by simp)) (k9 (C9 Z) (k9 (C9 Z) (k9 (C9 Z) (k9 (C9 Z) (k9 (C9 Z) aY)))))))) Z Z Z (j6 (c6 (qx 2 Z (sv Z (n8 cCore K Z Z Z) Z (xn 1 Z (f8 (cP (fun x7 x8 x9 => ⟨[(1, .psl 0 1 (boxed.map (cInt.enc 0))), (2, .ptr 0 1 0 0), (3, .ptr 8 1 0 0), (6, .ptr 9 1 0 0), (7, .int .i64 x_1), (8, .ptr 11 1 0 0), (28, .psl 0 8 (c.kids.map (cCore.enc 0))), (29, .int .i64 (c.kids.length : Int)), (30, .int .i64 x7)], [(0, ⟨1, [[.int .i64 x8]]⟩), (8, ⟨8, [cCore.row 0 c]⟩), (9, ⟨8, [z8]⟩), (10, ⟨1, x5.map (cInt.enc 0)⟩), (11, ⟨8, [[.int .i64 c.kind, .int .i64 c.number, .hsl 10 0 x5.length, .int .i64 x6.kind, .int .i64 x6.number, .str x6.text, .psl 1 4 (x6.items.map (cDat.enc 1)), .hsl 14 0 x9.length]]⟩), (14, ⟨8, x9.map (cCore.enc 1)⟩)], 15, 80, []⟩) (pQ E7 c boxed x_1 x5 x6) LF 0 x_1 [] F ((oP 14 Z Z).trans ((z7 11 8 (k := 7) (pre := [.int .i64 c.kind, .int .i64 c.number, .hsl 10 0 x5.length, .int .i64 x6.kind, .int .i64 x6.number, .str x6.text, .psl 1 4 (x6.items.map (cDat.enc 1))]) (suf := []) Z Z Z).trans (e7 (d8 (l7 cInt Z (e9 Z (e9 Z (e9 Z (e9 Z (e9 Z (l7 cCore Z (e9 Z (e9 Z g7))))))))) (l0 Z Z Z (oU Z) (l0 Z Z Z (p7 (cCore.row_ok _ Z)) (l0 Z Z Z (oU Z) (l0 Z Z Z (cInt.rows_ok _ Z) (l0 Z Z Z (p7 ⟨Z, Z, (a9 Z), Z, Z, Z, (cDat.ok_psl _ Z), (a9 Z), trivial⟩) (l0 Z Z Z (cCore.rows_ok _ Z) g8)))))) Z Z Z Z)))) ?_)))))))
  intro go10 x7 x8 x9 F
  replace F : cF E7 c boxed x_1 x5 x6 go10 x7 x8 x9 = some q := F
  unfold cF at F
  refine qn 1 Z (c6 (j8 F Z (fun G F => ?_) (fun G F => ?_)))
  ·obtain ⟨x11, hn_x11, F⟩ := c7 F
   obtain ⟨x12, hx12, F⟩ := c7 F
   refine e8 (c6 (f8 (qr (sv Z (j3 cCore hn_x11 K Z Z Z Z) Z (xn 3 Z (cY (id := 6) 7 [2, 3, 4] ⟨[(1, .psl 0 1 (boxed.map (cInt.enc 0))), (2, .ptr 0 1 0 0), (3, .ptr 8 1 0 0), (6, .ptr 9 1 0 0), (7, .int .i64 x_1), (8, .ptr 11 1 0 0), (28, .psl 0 8 (c.kids.map (cCore.enc 0))), (29, .int .i64 (c.kids.length : Int)), (30, .int .i64 x7), (35, .hsl 14 0 x9.length), (40, .hsl 16 0 ([x12.1] : List PC).length)], [(0, ⟨1, [[.int .i64 x12.2]]⟩), (8, ⟨8, [cCore.row 0 c]⟩), (9, ⟨8, [z8]⟩), (10, ⟨1, x5.map (cInt.enc 0)⟩), (11, ⟨8, [[.int .i64 c.kind, .int .i64 c.number, .hsl 10 0 x5.length, .int .i64 x6.kind, .int .i64 x6.number, .str x6.text, .psl 1 4 (x6.items.map (cDat.enc 1)), .hsl 14 0 x9.length]]⟩), (14, ⟨8, x9.map (cCore.enc 1)⟩), (16, ⟨8, ([x12.1] : List PC).map (cCore.enc 1)⟩)], 17, 80, []⟩ (by kernel_rfl) (by kernel_rfl) ?_ ?_))))))
   ·refine xx K Z (xx K Z (xx K Z (xx K Z (xx K Z (dB (dB (wO (⟨by kernel_rfl, nW (l' := [[], [0], [0, 1]]) (by kernel_rfl) (I8 ?_ (I8 ?_ (I8 ?_ iK)))⟩))))))))
    refine O5 4 (by kernel_rfl) Z (W1 [2, 3, 4] (by kernel_rfl) ?_)
    rotate_left
    refine O5 3 (by kernel_rfl) Z (W1 [0, 2, 3, 4] (by kernel_rfl) ?_)
    rotate_left
    refine O5 2 (by kernel_rfl) Z (W1 [0, 1, 2, 3, 4] (by kernel_rfl) ?_)
    rotate_left
    repeat' first | refine xn 1 Z ?_ | refine J5 cCore (l := 1) ([x12.1] : List PC) K Z Z Z Z Z Z Z (j6 ?_) | refine B2 0 (h_s_l9Pass x11 boxed x8 x12 hx12) Z (c9 (m7 _ (o6 cCore x11 Z)) (c9 (m7 _ (M4 cInt boxed Z)) (c9 Z j9))) Z Z (m7 _ (K5 cCore x12.1 Z)) Z Z (j6 ?_) | refine j1 [0, 1, 2, 3, 4, 5] [6] (by kernel_rfl) Z (g9 Z ?_ j7) | refine j1 [0, 2, 3, 4, 5, 6] [1] (by kernel_rfl) Z (g9 Z ?_ j7) | refine j1 [0, 1, 2, 3, 4] [5] (by kernel_rfl) Z (g9 Z ?_ j7) | refine j1 [0, 2, 3, 4, 5] [1, 6] (by kernel_rfl) Z (g9 Z ?_ (g9 Z ?_ j7)) | refine j1 [0, 2, 3, 4] [1, 5] (by kernel_rfl) Z (g9 Z ?_ (g9 Z ?_ j7)) | refine j1 [2, 3, 4, 5, 6] [0] (by kernel_rfl) Z (g9 Z ?_ j7) | refine j1 [2, 3, 4, 5] [0, 6] (by kernel_rfl) Z (g9 Z ?_ (g9 Z ?_ j7)) | refine j1 [2, 3, 4] [0, 5] (by kernel_rfl) Z (g9 Z ?_ (g9 Z ?_ j7)) | exact Z8 (by kernel_rfl) (e7 (d8 (l7 cInt Z (e9 Z (e9 Z (e9 Z (e9 Z (e9 Z (l7 cCore Z (e9 Z (e9 Z (e9 Z (e9 Z g7))))))))))) (l0 Z Z Z (oU Z) (l0 Z Z Z (p7 (cCore.row_ok _ Z)) (l0 Z Z Z (oU Z) (l0 Z Z Z (cInt.rows_ok _ Z) (l0 Z Z Z (p7 ⟨Z, Z, (a9 Z), Z, Z, Z, (cDat.ok_psl _ Z), (a9 Z), trivial⟩) (l0 Z Z Z (cCore.rows_ok _ Z) (l0 Z Z Z (cCore.rows_ok _ Z) g8))))))) Z Z Z Z))
   ·obtain ⟨H1, F⟩ := f5 F
    obtain ⟨H2, F⟩ := f5 F
    exact B9 cCore (l := 1) (xs := x9) (ys := ([x12.1] : List PC)) H1 Z K Z Z Z Z Z Z Z (W0 cCore Z Z Z) Z (xq 1 Z (Q4 (aX Z (by simp)) K Z Z Z Z Z Z Z Z Z (j6 (I5 (i9 (t6 K Z Z Z H2 Z (xn 1 Z (l6 ⟨((x7 + 1), x12.2, (x9 ++ ([x12.1] : List PC))), F, (e7 (d8 (l7 cInt Z (e9 Z (e9 Z (e9 Z (e9 Z (e9 Z (l7 cCore Z (e9 Z (e9 Z g7))))))))) (l0 Z Z Z (oU Z) (l0 Z Z Z (p7 (cCore.row_ok _ Z)) (l0 Z Z Z (oU Z) (l0 Z Z Z (cInt.rows_ok _ Z) (l0 Z Z Z (p7 ⟨Z, Z, (a9 Z), Z, Z, Z, (cDat.ok_psl _ Z), (a9 Z), trivial⟩) (l0 Z Z Z (cCore.rows_ok _ Z) g8)))))) Z Z Z Z))⟩))))))))
  ·refine o3 (W4 (W3 (s9 (c6 (qn 3 Z (cl_midn8 (fun (out11 : Int) (out12 : Int) (out13 : LI) (out14 : Int) (out15 : Int) (out16 : LB) (out17 : List PD) (out18 : List PC) => ⟨[(1, .psl 0 1 (boxed.map (cInt.enc 0))), (2, .ptr 0 1 0 0), (3, .ptr 8 1 0 0), (6, .ptr 9 1 0 0), (7, .int .i64 x_1), (8, .ptr 11 1 0 0)], [(0, ⟨1, [[.int .i64 x8]]⟩), (8, ⟨8, [cCore.row 0 c]⟩), (9, ⟨8, [z8]⟩), (11, ⟨8, [[.int .i64 out11, .int .i64 out12, .psl 1 1 (out13.map (cInt.enc 1)), .int .i64 out14, .int .i64 out15, .str out16, .psl 1 4 (out17.map (cDat.enc 1)), .psl 1 8 (out18.map (cCore.enc 1))]]⟩)], 12, 80, []⟩) (fun out11 out12 out13 out14 out15 out16 out17 out18 => bG c boxed x_1 x8 out11 out12 out13 out14 out15 out16 out17 out18 = some q) ?_ ?_))))))
   ·refine j8 F Z (fun G F => ?_) (fun G F => ?_)
    ·obtain ⟨x11, hx11, F⟩ := c7 F
     exact Q9 (le_fzc 11 14 (pre := [.int .i64 c.kind, .int .i64 c.number, .hsl 10 0 x5.length, .int .i64 x6.kind, .int .i64 x6.number, .str x6.text, .psl 1 4 (x6.items.map (cDat.enc 1))]) (suf := []) Z Z Z (by simp) Z Z) (d6 [1, 2, 3, 6, 7, 8] Z (gx 2 Z (call_id (yU x9 x11 hx11) Z (c9 (m7 _ (kS cCore x9 Z)) j9) (m7 _ (K5 cCore x11 Z)) Z (xn 1 Z (j5 ⟨(x11.kind, x11.number, x11.params, x11.datum.kind, x11.datum.number, x11.datum.text, x11.datum.items, x11.kids), F, (e7 (d8 (l7 cInt Z (e9 Z (e9 Z (e9 Z (e9 Z (e9 Z g7)))))) (l0 Z Z Z (oU Z) (l0 Z Z Z (p7 (cCore.row_ok _ Z)) (l0 Z Z Z (oU Z) (l0 Z Z Z (p7 ⟨Z, Z, (cInt.ok_psl _ Z), Z, Z, Z, (cDat.ok_psl _ Z), (cCore.ok_psl _ Z), trivial⟩) g8)))) Z Z Z Z))⟩)))))
    ·exact e8 (j5 ⟨(c.kind, c.number, x5, x6.kind, x6.number, x6.text, x6.items, x9), F, ((le_fzc 11 10 (pre := [.int .i64 c.kind, .int .i64 c.number]) (suf := [.int .i64 x6.kind, .int .i64 x6.number, .str x6.text, .psl 1 4 (x6.items.map (cDat.enc 1)), .hsl 14 0 x9.length]) Z Z Z (by simp) Z Z).trans ((le_fzc 11 14 (pre := [.int .i64 c.kind, .int .i64 c.number, .psl 1 1 (x5.map (cInt.enc 1)), .int .i64 x6.kind, .int .i64 x6.number, .str x6.text, .psl 1 4 (x6.items.map (cDat.enc 1))]) (suf := []) Z Z Z (by simp) Z Z).trans (e7 (d8 (l7 cInt Z (e9 Z (e9 Z (e9 Z (e9 Z (e9 Z g7)))))) (l0 Z Z Z (oU Z) (l0 Z Z Z (p7 (cCore.row_ok _ Z)) (l0 Z Z Z (oU Z) (l0 Z Z Z (p7 ⟨Z, Z, (cInt.ok_psl _ Z), Z, Z, Z, (cDat.ok_psl _ Z), (cCore.ok_psl _ Z), trivial⟩) g8)))) Z Z Z Z))))⟩)
   ·intro out11 out12 out13 out14 out15 out16 out17 out18 F
    replace F : bG c boxed x_1 x8 out11 out12 out13 out14 out15 out16 out17 out18 = some q := F
    unfold bG at F
    refine c6 (c6 (u4 (fun (x19 : Bool) => ⟨[(1, .psl 0 1 (boxed.map (cInt.enc 0))), (2, .ptr 0 1 0 0), (3, .ptr 8 1 0 0), (6, .ptr 9 1 0 0), (7, .int .i64 x_1), (8, .ptr 11 1 0 0), (58, .bool x19)], [(0, ⟨1, [[.int .i64 x8]]⟩), (8, ⟨8, [cCore.row 0 c]⟩), (9, ⟨8, [z8]⟩), (11, ⟨8, [[.int .i64 out11, .int .i64 out12, .psl 1 1 (out13.map (cInt.enc 1)), .int .i64 out14, .int .i64 out15, .str out16, .psl 1 4 (out17.map (cDat.enc 1)), .psl 1 8 (out18.map (cCore.enc 1))]]⟩)], 12, 80, []⟩) (fun x19 => Y9 c boxed x_1 x8 out11 out12 out13 out14 out15 out16 out17 out18 x19 = some q) ?_ ?_))
    ·refine gx 4 Z (m8 (g := 53) F Z (fun G F => ?_) (fun G F => ?_))
     ·exact xq 2 Z (sv Z (n8 cCore K Z Z Z) Z (xn 2 Z (j5 ⟨(decide ((out18.length : Int) > 60)), F, (e7 (d8 (l7 cInt Z (e9 Z (e9 Z (e9 Z (e9 Z (e9 Z (e9 Z g7))))))) (l0 Z Z Z (oU Z) (l0 Z Z Z (p7 (cCore.row_ok _ Z)) (l0 Z Z Z (oU Z) (l0 Z Z Z (p7 ⟨Z, Z, (cInt.ok_psl _ Z), Z, Z, Z, (cDat.ok_psl _ Z), (cCore.ok_psl _ Z), trivial⟩) g8)))) Z Z Z Z))⟩)))
     ·exact xn 5 Z (j5 ⟨false, F, (e7 (d8 (l7 cInt Z (e9 Z (e9 Z (e9 Z (e9 Z (e9 Z (e9 Z g7))))))) (l0 Z Z Z (oU Z) (l0 Z Z Z (p7 (cCore.row_ok _ Z)) (l0 Z Z Z (oU Z) (l0 Z Z Z (p7 ⟨Z, Z, (cInt.ok_psl _ Z), Z, Z, Z, (cDat.ok_psl _ Z), (cCore.ok_psl _ Z), trivial⟩) g8)))) Z Z Z Z))⟩)
    ·intro x19 F
     replace F : Y9 c boxed x_1 x8 out11 out12 out13 out14 out15 out16 out17 out18 x19 = some q := F
     unfold Y9 at F
     refine kZ F Z (fun G F => ?_) (fun G F => ?_)
     ·obtain ⟨x20, hx20, F⟩ := c7 F
      obtain rfl := f6 F
      exact qn 4 Z (c6 (d6 [3, 6] Z (gx 1 Z (j2 (eE RF c x20 hx20) Z ((d9 (o6 cCore c Z) i7)) (K5 cCore x20 Z) Z (xn 1 Z (i8 (q8 (w8 Z ((d7 _)) Z))))))))
     ·obtain ⟨x20, hx20, F⟩ := c7 F
      refine e8 (qx 2 Z (j2 (s_l9Node_ok (PC.mk out11 out12 out13 (PD.mk out14 out15 out16 out17) out18) boxed x20 hx20) Z ((d9 (rl_aggL (d9 (Z) (d9 (Z) (d9 (ps_10 cInt out13 Z) (d9 (Z) (d9 (Z) (d9 (Z) (d9 (ps_10 cDat out17 Z) (d9 (ps_10 cCore out18 Z) i7))))))))) (d9 (M4 cInt boxed Z) i7))) (dV (d9 (K5 cCore x20.1 Z) (d9 (Z) i7))) Z (xn 6 Z (c6 (c6 (d6 [2, 6, 8, 11, 12] Z (gn 2 Z (W6 F Z (fun G F => ?_) (fun G F => ?_)))))))))
      ·obtain rfl := f6 F
       exact qn 2 Z (i8 (q8 (w8 Z ((d7 _)) Z)))
      ·obtain ⟨H1, F⟩ := f5 F
       obtain rfl := f6 F
       exact e8 (qx 4 Z (t6 K Z Z Z H1 Z (xn 2 Z (c6 (d6 [6, 11] Z (gn 2 Z (i8 (w8 Z ((d7 _)) Z))))))))
theorem s_l9Pass_ok (n : Nat) : tO (E7 n) := by
 induction n with
 | zero => exact fun _ _ _ q h => by cases h
 | succ n ih => exact fun c boxed x_1 q h => s_l9Pass_bok (E7 n) ih c boxed x_1 q h
end Go.Proofs.YtmgigglpdhoneaaGreat
