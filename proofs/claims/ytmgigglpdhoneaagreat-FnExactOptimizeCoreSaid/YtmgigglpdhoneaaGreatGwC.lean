
import Derived.Test.YtmgigglpdhoneaaGreatLibP
import Derived.Test.YtmgigglpdhoneaaGreatGwB
set_option linter.unusedVariables false
set_option linter.unusedSimpArgs false
namespace Go.Proofs.YtmgigglpdhoneaaGreat
open Go.Abs
attribute [local irreducible] AT AOps FC DN APl
set_option maxRecDepth 10000
set_option maxHeartbeats 4000000
theorem eJ (list : LI) (q : LI) (F : cV list = some q) : FC Tryz.prog 79 [.psl 0 1 (list.map (cInt.enc 0))] [] 8 (fun x h2 => ∃ j, x = .hsl j 0 q.length ∧ hget h2 j = some ⟨1, q.map (cInt.enc 0)⟩) := by
 unfold cV at F
 obtain ⟨H1, F⟩ := g7 F
 obtain rfl := g8 F
 exact bdy Tryz.func79 Tryz.ntmps79 Z Z Z (qn 1 Z (qr (J1 cInt (l := 0) ([] : LI) K Z Z Z Z Z Z Z (xq 1 Z (B7 cInt (l := 0) (xs := ([] : LI)) (ys := list) H1 Z K Z Z Z Z Z Z Z (cW cInt (l := 0) Z Z Z) Z (xn 1 Z (j8 (⟨_, Z, 8, Z, Z⟩))))))))
def zD (F3 : PC → Int → Option (Bool × Int)) : Prop := ∀ (c : PC) (left : Int) (q : Bool × Int), F3 c left = some q → FC Tryz.prog 143 [.agg (cCore.row 0 c), .ptr 0 1 0 0] [(0, ⟨1, [cInt.row 1 left]⟩)] 8 (fun x h2 => x = .bool q.1 ∧ hget h2 0 = some ⟨1, [cInt.row 1 q.2]⟩)
theorem s_l5Few_bok (F3 : PC → Int → Option (Bool × Int)) (h_s_l5Few : zD F3) : zD (mT F3) := by
 intro c left q F
 unfold mT at F
 obtain ⟨H1, F⟩ := g7 F
 refine FC.of_le_lent (bdy Tryz.func143 Tryz.ntmps143 Z Z Z (qn 2 Z (qx 4 Z (lF K Z Z Z H1 Z (xn 2 Z (d6 (d6 (e7 [1, 2] Z (gn 1 Z (i9 (u6 (fun i4 left5 => ⟨[(1, .ptr 0 1 0 0), (2, .ptr 8 1 0 0), (5, .int .i64 i4)], [(0, ⟨1, [[.int .i64 left5]]⟩), (8, ⟨8, [cCore.row 0 c]⟩)], 9, 36, []⟩) (tV F3 c) LF 0 (left - 1) F (f7 (e8 (f9 Z (f9 Z (f9 Z j1))) (A7 Z (z8 cCore Z j2)) Z Z Z Z)) ?_)))))))))))
 intro go6 i4 left5 F
 replace F : Z2 F3 c go6 i4 left5 = some q := F
 unfold Z2 at F
 refine d6 (d6 (v5 (fun (x7 : Bool) => ⟨[(1, .ptr 0 1 0 0), (2, .ptr 8 1 0 0), (5, .int .i64 i4), (22, .bool x7)], [(0, ⟨1, [[.int .i64 left5]]⟩), (8, ⟨8, [cCore.row 0 c]⟩)], 9, 36, []⟩) (fun x7 => bF F3 c i4 left5 go6 x7 = some q) ?_ ?_))
 ·refine gx 3 Z (sv Z (o5 cCore K Z Z Z) Z (xq 2 Z (n9 (g := 17) F Z (fun G F => ?_) (fun G F => ?_))))
  ·exact xn 5 Z (l4 ⟨(decide (left5 ≥ 0)), F, (f7 (e8 (f9 Z (f9 Z (f9 Z (f9 Z j1)))) (A7 Z (z8 cCore Z j2)) Z Z Z Z))⟩)
  ·exact xn 5 Z (l4 ⟨false, F, (f7 (e8 (f9 Z (f9 Z (f9 Z (f9 Z j1)))) (A7 Z (z8 cCore Z j2)) Z Z Z Z))⟩)
 ·intro x7 F
  replace F : bF F3 c i4 left5 go6 x7 = some q := F
  unfold bF at F
  refine lN F Z (fun G F => ?_) (fun G F => ?_)
  ·obtain ⟨x8, hn_x8, F⟩ := d7 F
   obtain ⟨x9, hx9, F⟩ := d7 F
   obtain ⟨H1, F⟩ := g7 F
   exact f8 (d6 (i9 (gx 3 Z (sv Z (k9 cCore hn_x8 K Z Z Z Z) Z (xq 2 Z (B8 0 (h_s_l5Few x8 left5 x9 hx9) Z (d9 (m7 _ (p9 cCore x8 Z)) (d9 Z l6)) Z Z Z Z Z (j9 (I2 (e7 [1, 2, 5] Z (gx 1 Z (t7 K Z Z Z H1 Z (xn 1 Z (m0 ⟨((i4 + 1), x9.2), F, (f7 (e8 (f9 Z (f9 Z (f9 Z j1))) (A7 Z (z8 cCore Z j2)) Z Z Z Z))⟩)))))))))))))
  ·obtain rfl := g8 F
   exact o7 (X2 (X1 (t8 (qn 5 Z (j8 (z5 Z ((i8 _)) Z))))))
theorem s_l5Few_ok (n : Nat) : zD (F3 n) := by
 induction n with
 | zero => exact fun _ _ q h => by cases h
 | succ n ih => exact fun c left q h => s_l5Few_bok (F3 n) ih c left q h
theorem uY (c : PC) (q : Bool) (F : iG c = some q) : FC Tryz.prog 86 [.agg (cCore.row 0 c)] [] 8 (fun x _ => x = .bool q) := by
 unfold iG at F
 obtain ⟨x2, hx2, F⟩ := d7 F
 obtain rfl := g8 F
 exact FC.of_le (bdy Tryz.func86 Tryz.ntmps86 Z Z Z (qn 2 Z (qn 2 Z (qx 1 Z (B8 9 (s_l5Few_ok RF c 3000 x2 hx2) Z (d9 (m7 _ (p9 cCore c Z)) (d9 Z l6)) Z Z Z Z Z (xn 1 Z (u0 Z)))))))
theorem F5 (list : LI) (x_1 : Int) (q : Bool) (F : G4 list x_1 = some q) : FC Tryz.prog 88 [.psl 0 1 (list.map (cInt.enc 0)), .int .i64 x_1] [] 8 (fun x _ => x = .bool q) := by
 unfold G4 at F
 refine FC.of_le (bdy Tryz.func88 Tryz.ntmps88 Z Z Z (qn 1 Z (d6 (qx 1 Z (sv Z (o5 cInt K Z Z Z) Z (xn 1 Z (i9 (K4 (fun x3 => ⟨[(1, .int .i64 x_1), (7, .psl 0 1 (list.map (cInt.enc 0))), (8, .int .i64 (list.length : Int)), (9, .int .i64 x3)], [], 8, 17, []⟩) (rW list x_1) LF 0 F (f7 (e8 (f9 Z (m5 cInt Z (f9 Z (f9 Z j1)))) j2 Z Z Z Z)) ?_))))))))
 intro go4 x3 F
 replace F : gM list x_1 go4 x3 = some q := F
 unfold gM at F
 refine qn 1 Z (d6 (l5 F Z (fun G F => ?_) (fun G F => ?_)))
 ·obtain ⟨x5, hn_x5, F⟩ := d7 F
  refine f8 (d6 (i9 (qr (sv Z (k9 cInt hn_x5 K Z Z Z Z) Z (xn 2 Z (qn 3 Z (l5 F Z (fun G F => ?_) (fun G F => ?_))))))))
  ·obtain rfl := g8 F
   exact d6 (e7 [] Z (gn 1 Z (j8 (A2 (u5 (cP (A2 (u5 (s7 Z (i8 _))))))))))
  ·obtain ⟨H1, F⟩ := g7 F
   exact f8 (I2 (e7 [1, 7, 8, 9] Z (j6 (t7 K Z Z Z H1 Z (xn 1 Z (m0 ⟨(x3 + 1), F, (f7 (e8 (f9 Z (m5 cInt Z (f9 Z (f9 Z j1)))) j2 Z Z Z Z))⟩))))))
 ·obtain rfl := g8 F
  exact o7 (X2 (X1 (t8 (qn 1 Z (u0 Z)))))
theorem fX (c : PC) (q : Bool) (F : cE c = some q) : FC Tryz.prog 178 [.agg (cCore.row 0 c)] [] 8 (fun x _ => x = .bool q) := by
 unfold cE at F
 refine FC.of_le (bdy Tryz.func178 Tryz.ntmps178 Z Z Z (qn 2 Z (qx 4 Z (n9 (g := 6) F Z (fun G F => ?_) (fun G F => ?_)))))
 ·obtain rfl := g8 F
  exact xn 5 Z (u0 Z)
 ·obtain rfl := g8 F
  exact xn 5 Z (u0 Z)
def tW (w6 : PC → LI → LI → Option (LI)) : Prop := ∀ (c : PC) (bound : LI) (out : LI) (q : LI), w6 c bound out = some q → FC Tryz.prog 144 [.agg (cCore.row 0 c), .hsl 0 0 bound.length, .hsl 1 0 out.length] (numb 0 [⟨1, bound.map (cInt.enc 0)⟩, ⟨1, out.map (cInt.enc 0)⟩]) 8 (fun x h2 => x = .hsl 1 0 q.length ∧ rowsAt h2 0 [⟨1, bound.map (cInt.enc 0)⟩, ⟨1, q.map (cInt.enc 0)⟩])
theorem s_l5Free_bok (w6 : PC → LI → LI → Option (LI)) (h_s_l5Free : tW w6) : tW (iF w6) := by
 intro c bound out q F
 unfold iF at F
 refine FC.of_le_lent (bdy Tryz.func144 Tryz.ntmps144 Z Z Z (qn 2 Z (d6 (d6 (v5 (fun (x5 : Bool) => ⟨[(1, .hsl 0 0 bound.length), (2, .hsl 1 0 out.length), (3, .ptr 8 1 0 0), (24, .bool x5)], [(0, ⟨1, bound.map (cInt.enc 0)⟩), (1, ⟨1, out.map (cInt.enc 0)⟩), (8, ⟨8, [cCore.row 0 c]⟩)], 9, 48, []⟩) (fun x5 => V6 w6 c bound out x5 = some q) ?_ ?_)))))
 ·obtain ⟨x5, hx5, F⟩ := d7 F
  refine gx 1 Z (j7 (fX c x5 hx5) Z ((e9 (p9 cCore c Z) j4)) Z Z (xq 1 Z (Y9 (g := 11) F Z (fun G F => ?_) (fun G F => ?_))))
  ·obtain ⟨x6, hx6, F⟩ := d7 F
   refine xq 3 Z (O8 (F5 bound c.number x6 hx6) Z (i7 (O0 Z (by simp) (cInt.rlR _ 0 _)) (i7 (s4 (Z)) o8)) Z Z (xq 3 Z (Y4 (g := 18) F Z (fun G F => ?_) (fun G F => ?_))))
   ·obtain ⟨x7, hx7, F⟩ := d7 F
    exact xq 3 Z (O8 (F5 out c.number x7 hx7) Z (i7 (O0 Z (by simp) (cInt.rlR _ 0 _)) (i7 (s4 (Z)) o8)) Z Z (xn 2 Z (l4 ⟨(!x7), F, (f7 (e8 (f9 Z (f9 Z (f9 Z (f9 Z j1)))) (l7 Z (l7 Z (z8 cCore Z j2))) Z Z Z Z))⟩)))
   ·exact xn 6 Z (l4 ⟨false, F, (f7 (e8 (f9 Z (f9 Z (f9 Z (f9 Z j1)))) (l7 Z (l7 Z (z8 cCore Z j2))) Z Z Z Z))⟩)
  ·exact xn 13 Z (l4 ⟨false, F, (f7 (e8 (f9 Z (f9 Z (f9 Z (f9 Z j1)))) (l7 Z (l7 Z (z8 cCore Z j2))) Z Z Z Z))⟩)
 ·intro x5 F
  replace F : V6 w6 c bound out x5 = some q := F
  unfold V6 at F
  refine v5 (fun (out6 : LI) => ⟨[(1, .hsl 0 0 bound.length), (2, .hsl 1 0 out6.length), (3, .ptr 8 1 0 0)], [(0, ⟨1, bound.map (cInt.enc 0)⟩), (1, ⟨1, out6.map (cInt.enc 0)⟩), (8, ⟨8, [cCore.row 0 c]⟩)], 9, 48, []⟩) (fun out6 => Z3 w6 c bound out6 = some q) ?_ ?_
  ·refine lN F Z (fun G F => ?_) (fun G F => ?_)
   ·obtain ⟨H1, F⟩ := g7 F
    exact gx 3 Z (J1 cInt (l := 0) ([c.number] : LI) K Z Z Z Z Z Z Z (B7 cInt (l := 0) (xs := out) (ys := ([c.number] : LI)) H1 Z K Z Z Z Z Z Z Z (S7 cInt Z Z Z) Z (xn 1 Z (l4 ⟨(out ++ ([c.number] : LI)), F, (f7 (e8 (f9 Z (f9 Z (f9 Z j1))) (l7 Z (l7 Z (z8 cCore Z j2))) Z Z Z Z))⟩))))
   ·exact f8 (l4 ⟨out, F, (f7 (e8 (f9 Z (f9 Z (f9 Z j1))) (l7 Z (l7 Z (z8 cCore Z j2))) Z Z Z Z))⟩)
  ·intro out6 F
   replace F : Z3 w6 c bound out6 = some q := F
   unfold Z3 at F
   obtain ⟨x7, hx7, F⟩ := d7 F
   refine d6 (iW (id := 3) 4 ⟨[(2, .hsl 1 0 out6.length), (3, .ptr 8 1 0 0), (31, .hsl 9 0 x7.length), (33, .psl 0 1 (c.params.map (cInt.enc 0)))], [(0, ⟨1, bound.map (cInt.enc 0)⟩), (1, ⟨1, out6.map (cInt.enc 0)⟩), (8, ⟨8, [cCore.row 0 c]⟩), (9, ⟨1, x7.map (cInt.enc 0)⟩)], 10, 48, []⟩ (by kernel_rfl) (by kernel_rfl) ?_ ?_)
   ·refine E6 [] Z ?_
    repeat' first | refine xn 1 Z ?_ | refine aE (eJ bound x7 hx7) Z (i7 (O0 Z (by simp) (cInt.rlR _ 0 _)) o8) (Cd.rlR cInt f01 0 _) Z (fun j => by simp [V.rnA, V.rnAL, V.rl, upJ, dn]) Z (j9 ?_) | refine j3 [0, 1, 2] [3] (by kernel_rfl) Z (f6 Z ?_ j5) | refine j3 [0, 2, 3] [1] (by kernel_rfl) Z (f6 Z ?_ j5) | refine j3 [0, 2] [1, 3] (by kernel_rfl) Z (f6 Z ?_ (f6 Z ?_ j5)) | refine j3 [0, 1] [2] (by kernel_rfl) Z (f6 Z ?_ j5) | refine j3 [0] [1, 2] (by kernel_rfl) Z (f6 Z ?_ (f6 Z ?_ j5)) | refine j3 [2, 3] [0] (by kernel_rfl) Z (f6 Z ?_ j5) | refine j3 [2] [0, 3] (by kernel_rfl) Z (f6 Z ?_ (f6 Z ?_ j5)) | refine j3 [] [0, 2] (by kernel_rfl) Z (f6 Z ?_ (f6 Z ?_ j5)) | exact S9 (by kernel_rfl) (f7 (e8 (f9 Z (f9 Z (f9 Z (m5 cInt Z j1)))) (l7 Z (l7 Z (z8 cCore Z (l7 Z j2)))) Z Z Z Z))
   ·obtain ⟨H1, F⟩ := g7 F
    refine B7 cInt (l := 0) (xs := x7) (ys := c.params) H1 Z K Z Z Z Z Z Z Z (cW cInt (l := 0) Z Z Z) Z (xn 1 Z (d6 (qx 2 Z (sv Z (o5 cCore K Z Z Z) Z (xn 1 Z (i9 (u6 (fun x8 out9 => ⟨[(1, .hsl 9 0 (x7 ++ c.params).length), (2, .hsl 1 0 out9.length), (36, .psl 0 8 (c.kids.map (cCore.enc 0))), (37, .int .i64 (c.kids.length : Int)), (38, .int .i64 x8)], [(0, ⟨1, bound.map (cInt.enc 0)⟩), (1, ⟨1, out9.map (cInt.enc 0)⟩), (9, ⟨1, (x7 ++ c.params).map (cInt.enc 0)⟩)], 10, 48, []⟩) (pU w6 c x7) LF 0 out6 F (f7 (e8 (f9 Z (f9 Z (m5 cCore Z (f9 Z (f9 Z j1))))) (l7 Z (l7 Z (l7 Z j2))) Z Z Z Z)) ?_)))))))
    intro go10 x8 out9 F
    replace F : mV w6 c x7 go10 x8 out9 = some q := F
    unfold mV at F
    refine qn 1 Z (d6 (l5 F Z (fun G F => ?_) (fun G F => ?_)))
    ·obtain ⟨x11, hn_x11, F⟩ := d7 F
     obtain ⟨x12, hx12, F⟩ := d7 F
     obtain ⟨H1, F⟩ := g7 F
     exact f8 (d6 (i9 (qr (sv Z (k9 cCore hn_x11 K Z Z Z Z) Z (xn 3 Z (gx 3 Z (K8 [9, 1] (h_s_l5Free x11 (x7 ++ c.params) out9 x12 hx12) Z Z Z Z (d9 (m7 _ (p9 cCore x11 Z)) (d9 Z (d9 Z l6))) Z (.cons (Cd.rnR cInt _ (x7 ++ c.params) Z) (.cons (Cd.rnR cInt _ out9 Z) .nil)) (w8 Z) (.cons (Cd.rnR cInt _ (x7 ++ c.params) Z) (.cons (Cd.rnR cInt _ x12 Z) .nil)) Z (xn 1 Z (I2 (e7 [1, 2, 36, 37, 38] Z (j6 (t7 K Z Z Z H1 Z (xn 1 Z (m0 ⟨((x8 + 1), x12), F, (f7 (e8 (f9 Z (f9 Z (m5 cCore Z (f9 Z (f9 Z j1))))) (l7 Z (l7 Z (l7 Z j2))) Z Z Z Z))⟩))))))))))))))
    ·obtain rfl := g8 F
     exact o7 (X2 (X1 (t8 (qn 2 Z (j8 (X5 Z ((i8 _)) (raC Z (ra1 Z))))))))
theorem s_l5Free_ok (n : Nat) : tW (w6 n) := by
 induction n with
 | zero => exact fun _ _ _ q h => by cases h
 | succ n ih => exact fun c bound out q h => s_l5Free_bok (w6 n) ih c bound out q h
theorem uW (c : PC) (bound : LI) (out : LI) (q : LI) (F : sB c bound out = some q) : FC Tryz.prog 144 [.agg (cCore.row 0 c), .psl 0 1 (bound.map (cInt.enc 0)), .hsl 0 0 out.length] [(0, ⟨1, out.map (cInt.enc 0)⟩)] 8 (fun x h2 => x = .hsl 0 0 q.length ∧ hget h2 0 = some ⟨1, q.map (cInt.enc 0)⟩) := by
 unfold sB at F
 refine FC.of_le_lent (bdy Tryz.func144 Tryz.ntmps144 Z Z Z (qn 2 Z (d6 (d6 (v5 (fun (x4 : Bool) => ⟨[(1, .psl 0 1 (bound.map (cInt.enc 0))), (2, .hsl 0 0 out.length), (3, .ptr 8 1 0 0), (24, .bool x4)], [(0, ⟨1, out.map (cInt.enc 0)⟩), (8, ⟨8, [cCore.row 0 c]⟩)], 9, 48, []⟩) (fun x4 => O7 c bound out x4 = some q) ?_ ?_)))))
 ·obtain ⟨x4, hx4, F⟩ := d7 F
  refine gx 1 Z (j7 (fX c x4 hx4) Z ((e9 (p9 cCore c Z) j4)) Z Z (xq 1 Z (Y9 (g := 11) F Z (fun G F => ?_) (fun G F => ?_))))
  ·obtain ⟨x5, hx5, F⟩ := d7 F
   refine xq 3 Z (j7 (F5 bound c.number x5 hx5) Z ((e9 (K7 cInt bound Z) (e9 (Z) j4))) Z Z (xq 3 Z (Y4 (g := 18) F Z (fun G F => ?_) (fun G F => ?_))))
   ·obtain ⟨x6, hx6, F⟩ := d7 F
    exact xq 3 Z (O8 (F5 out c.number x6 hx6) Z (i7 (O0 Z (by simp) (cInt.rlR _ 0 _)) (i7 (s4 (Z)) o8)) Z Z (xn 2 Z (l4 ⟨(!x6), F, (f7 (e8 (m5 cInt Z (f9 Z (f9 Z (f9 Z j1)))) (l7 Z (z8 cCore Z j2)) Z Z Z Z))⟩)))
   ·exact xn 6 Z (l4 ⟨false, F, (f7 (e8 (m5 cInt Z (f9 Z (f9 Z (f9 Z j1)))) (l7 Z (z8 cCore Z j2)) Z Z Z Z))⟩)
  ·exact xn 13 Z (l4 ⟨false, F, (f7 (e8 (m5 cInt Z (f9 Z (f9 Z (f9 Z j1)))) (l7 Z (z8 cCore Z j2)) Z Z Z Z))⟩)
 ·intro x4 F
  replace F : O7 c bound out x4 = some q := F
  unfold O7 at F
  refine v5 (fun (out5 : LI) => ⟨[(1, .psl 0 1 (bound.map (cInt.enc 0))), (2, .hsl 0 0 out5.length), (3, .ptr 8 1 0 0)], [(0, ⟨1, out5.map (cInt.enc 0)⟩), (8, ⟨8, [cCore.row 0 c]⟩)], 9, 48, []⟩) (fun out5 => V5 c bound out5 = some q) ?_ ?_
  ·refine lN F Z (fun G F => ?_) (fun G F => ?_)
   ·obtain ⟨H1, F⟩ := g7 F
    exact gx 3 Z (J1 cInt (l := 0) ([c.number] : LI) K Z Z Z Z Z Z Z (B7 cInt (l := 0) (xs := out) (ys := ([c.number] : LI)) H1 Z K Z Z Z Z Z Z Z (S7 cInt Z Z Z) Z (xn 1 Z (l4 ⟨(out ++ ([c.number] : LI)), F, (f7 (e8 (m5 cInt Z (f9 Z (f9 Z j1))) (l7 Z (z8 cCore Z j2)) Z Z Z Z))⟩))))
   ·exact f8 (l4 ⟨out, F, (f7 (e8 (m5 cInt Z (f9 Z (f9 Z j1))) (l7 Z (z8 cCore Z j2)) Z Z Z Z))⟩)
  ·intro out5 F
   replace F : V5 c bound out5 = some q := F
   unfold V5 at F
   obtain ⟨x6, hx6, F⟩ := d7 F
   obtain ⟨H1, F⟩ := g7 F
   refine d6 (B9 (id := 3) 4 (by kernel_rfl) (by kernel_rfl) (nx K Z (n_own (by simp) (Cd.flats cInt x6 Z) (eJ bound x6 hx6) Z (d9 (m7 _ (K7 cInt bound Z)) l6) (Cd.rnR cInt _ x6 Z) Z (nx K Z (nx K Z (I3 Z (o6 (G9 (y := .hsl 9 0 x6.length) 31 Z (R3 (congrArg (V.hsl 9 0) (by simp))) Z) (B7 cInt (l := 0) (xs := x6) (ys := c.params) H1 Z K Z Z Z Z Z Z Z (cW cInt (l := 0) Z Z Z) Z (xn 1 Z (d6 (qx 2 Z (sv Z (o5 cCore K Z Z Z) Z (xn 1 Z (i9 (u6 (fun x7 out8 => ⟨[(1, .hsl 9 0 (x6 ++ c.params).length), (2, .hsl 0 0 out8.length), (36, .psl 0 8 (c.kids.map (cCore.enc 0))), (37, .int .i64 (c.kids.length : Int)), (38, .int .i64 x7)], [(0, ⟨1, out8.map (cInt.enc 0)⟩), (9, ⟨1, (x6 ++ c.params).map (cInt.enc 0)⟩)], 10, 48, []⟩) (mU c x6) LF 0 out5 F (f7 (e8 (f9 Z (f9 Z (m5 cCore Z (f9 Z (f9 Z j1))))) (l7 Z (l7 Z j2)) Z Z Z Z)) ?_)))))))))))))))
   intro go9 x7 out8 F
   replace F : kD c x6 go9 x7 out8 = some q := F
   unfold kD at F
   refine qn 1 Z (d6 (l5 F Z (fun G F => ?_) (fun G F => ?_)))
   ·obtain ⟨x10, hn_x10, F⟩ := d7 F
    obtain ⟨x11, hx11, F⟩ := d7 F
    obtain ⟨H1, F⟩ := g7 F
    exact f8 (d6 (i9 (qr (sv Z (k9 cCore hn_x10 K Z Z Z Z) Z (xn 3 Z (gx 3 Z (K8 [9, 0] (s_l5Free_ok RF x10 (x6 ++ c.params) out8 x11 hx11) Z Z Z Z (d9 (m7 _ (p9 cCore x10 Z)) (d9 Z (d9 Z l6))) Z (.cons (Cd.rnR cInt _ (x6 ++ c.params) Z) (.cons (Cd.rnR cInt _ out8 Z) .nil)) (w8 Z) (.cons (Cd.rnR cInt _ (x6 ++ c.params) Z) (.cons (Cd.rnR cInt _ x11 Z) .nil)) Z (xn 1 Z (I2 (e7 [1, 2, 36, 37, 38] Z (j6 (t7 K Z Z Z H1 Z (xn 1 Z (m0 ⟨((x7 + 1), x11), F, (f7 (e8 (f9 Z (f9 Z (m5 cCore Z (f9 Z (f9 Z j1))))) (l7 Z (l7 Z j2)) Z Z Z Z))⟩))))))))))))))
   ·obtain rfl := g8 F
    exact o7 (X2 (X1 (t8 (qn 2 Z (j8 (z5 Z ((i8 _)) Z))))))
theorem fU (c : PC) (q : LI) (F : D6 c = some q) : FC Tryz.prog 87 [.agg (cCore.row 0 c)] [] 8 (fun x _ => x = .psl 1 1 (q.map (cInt.enc 1))) := by
 unfold D6 at F
 obtain ⟨x2, hx2, F⟩ := d7 F
 obtain rfl := g8 F
 exact FC.of_le (bdy Tryz.func87 Tryz.ntmps87 Z Z Z (qn 2 Z (qx 1 Z (J1 cInt (l := 0) ([] : LI) K Z Z Z Z Z Z Z (lJ 9 (FC.weaken (uW c [] ([] : LI) x2 hx2) (.cons (i8 _) (.cons (O3 _ _) (.cons (i8 _) .nil)))) Z (d9 (m7 _ (p9 cCore c Z)) (d9 Z (d9 Z l6))) Z (Cd.rnR cInt _ ([] : LI) Z) Z (Cd.rnR cInt _ x2 Z) Z (xn 1 Z (S8 (dX 2 Z Z (by simp) Z) (u0 Z))))))))
def eD (s6 : PC → Option Int) : Prop := ∀ (c : PC) (q : Int), s6 c = some q → FC Tryz.prog 116 [.agg (cCore.row 0 c)] [] 8 (fun x _ => x = .int .i64 q)
theorem tR (s6 : PC → Option Int) (h_s_DepthOfCore : eD s6) : eD (U6 s6) := by
 intro c q F
 unfold U6 at F
 refine FC.of_le (bdy Tryz.func116 Tryz.ntmps116 Z Z Z (qn 2 Z (qn 1 Z (d6 (qx 2 Z (sv Z (o5 cCore K Z Z Z) Z (xn 1 Z (i9 (u6 (fun x3 x4 => ⟨[(3, .int .i64 x3), (7, .psl 0 8 (c.kids.map (cCore.enc 0))), (8, .int .i64 (c.kids.length : Int)), (9, .int .i64 x4)], [], 9, 20, []⟩) (cS s6 c) LF 0 0 F (f7 (e8 (f9 Z (m5 cCore Z (f9 Z (f9 Z j1)))) j2 Z Z Z Z)) ?_)))))))))
 intro go5 x3 x4 F
 replace F : E9 s6 c go5 x3 x4 = some q := F
 unfold E9 at F
 refine qn 1 Z (d6 (l5 F Z (fun G F => ?_) (fun G F => ?_)))
 ·obtain ⟨x6, hn_x6, F⟩ := d7 F
  obtain ⟨x7, hx7, F⟩ := d7 F
  obtain ⟨H1, F⟩ := g7 F
  exact f8 (d6 (i9 (qr (sv Z (k9 cCore hn_x6 K Z Z Z Z) Z (xn 3 Z (gx 2 Z (j7 (h_s_DepthOfCore x6 x7 hx7) Z ((e9 (p9 cCore x6 Z) j4)) Z Z (sv Z (ov_max Z Z) Z (xn 1 Z (I2 (e7 [3, 7, 8, 9] Z (j6 (t7 K Z Z Z H1 Z (xn 1 Z (m0 ⟨((max x3 x7), (x4 + 1)), F, (f7 (e8 (f9 Z (m5 cCore Z (f9 Z (f9 Z j1)))) j2 Z Z Z Z))⟩)))))))))))))))
 ·obtain ⟨H1, F⟩ := g7 F
  obtain rfl := g8 F
  exact o7 (X2 (X1 (t8 (qx 1 Z (t7 K Z Z Z H1 Z (xn 1 Z (u0 Z)))))))
theorem vL (n : Nat) : eD (s6 n) := by
 induction n with
 | zero => exact fun _ q h => by cases h
 | succ n ih => exact fun c q h => tR (s6 n) ih c q h
theorem O2 (x_1 : Int) (a : Int) (b : Int) (q : Bool) (F : aW x_1 a b = some q) : FC Tryz.prog 123 [.int .i64 x_1, .int .i64 a, .int .i64 b] [] 8 (fun x _ => x = .bool q) := by
 unfold aW at F
 refine FC.of_le (bdy Tryz.func123 Tryz.ntmps123 Z Z Z (qn 1 Z (qx 4 Z (n9 (g := 10) F Z (fun G F => ?_) (fun G F => ?_)))))
 ·obtain rfl := g8 F
  exact xn 5 Z (u0 Z)
 ·obtain rfl := g8 F
  exact xn 5 Z (u0 Z)
theorem Z0 (q : List (LB)) (F : o4 = some q) : FC Tryz.prog 181 [] [] 8 (fun x _ => x = .psl 1 1 (q.map (cStr.enc 1))) := by
 unfold o4 at F
 obtain rfl := g8 F
 exact FC.of_le (bdy Tryz.func181 Tryz.ntmps181 Z Z Z (qn 1 Z (qr (J1 cStr (l := 0) ([([43] : LB), ([45] : LB), ([42] : LB), ([61] : LB), ([60] : LB), ([99, 111, 110, 115] : LB), ([99, 97, 114] : LB), ([99, 100, 114] : LB), ([110, 117, 108, 108, 63] : LB), ([112, 97, 105, 114, 63] : LB), ([110, 117, 109, 98, 101, 114, 63] : LB), ([101, 113, 63] : LB), ([110, 111, 116] : LB), ([100, 105, 115, 112, 108, 97, 121] : LB)] : List (LB)) K Z Z Z Z Z Z Z (xn 1 Z (S8 (dX 0 Z Z (by simp) Z) (u0 Z)))))))
def jW (y7 : PD → PD → Option Bool) : Prop := ∀ (a : PD) (b : PD) (q : Bool), y7 a b = some q → FC Tryz.prog 190 [.agg (cDat.row 0 a), .agg (cDat.row 0 b)] [] 8 (fun x _ => x = .bool q)
theorem zA (y7 : PD → PD → Option Bool) (h_s_EqualData : jW y7) : jW (aQ y7) := by
 intro a b q F
 unfold aQ at F
 refine FC.of_le (bdy Tryz.func190 Tryz.ntmps190 Z Z Z (qn 3 Z (d6 (qx 6 Z (K0 (g := 11) F Z (fun G F => ?_) (fun G F => ?_))))))
 ·obtain rfl := g8 F
  exact xn 22 Z (r7 Z (d6 (e7 [] Z (gn 1 Z (u1 Z)))))
 ·refine xq 7 Z (K0 (g := 18) F Z (fun G F => ?_) (fun G F => ?_))
  ·obtain rfl := g8 F
   exact xn 15 Z (r7 Z (d6 (e7 [] Z (gn 1 Z (u1 Z)))))
  ·refine xq 7 Z (K0 (g := 25) F Z (fun G F => ?_) (fun G F => ?_))
   ·obtain rfl := g8 F
    exact xn 8 Z (r7 Z (d6 (e7 [] Z (gn 1 Z (u1 Z)))))
   ·refine xq 2 Z (sv Z (o5 cDat K Z Z Z) Z (xq 2 Z (sv Z (o5 cDat K Z Z Z) Z (xn 2 Z (E7 F Z (fun G F => ?_) (fun G F => ?_))))))
    ·obtain rfl := g8 F
     exact d6 (e7 [] Z (gn 1 Z (u1 Z)))
    ·refine f8 (d6 (d6 (e7 [2, 3] Z (gx 2 Z (sv Z (o5 cDat K Z Z Z) Z (xn 1 Z (i9 (K4 (fun x4 => ⟨[(2, .ptr 8 1 0 0), (3, .ptr 9 1 0 0), (36, .int .i64 (a.items.length : Int)), (37, .int .i64 x4)], [(8, ⟨4, [cDat.row 0 a]⟩), (9, ⟨4, [cDat.row 0 b]⟩)], 10, 53, []⟩) (gL y7 a b) LF 0 F (f7 (e8 (f9 Z (f9 Z (f9 Z (f9 Z j1)))) (z8 cDat Z (z8 cDat Z j2)) Z Z Z Z)) ?_))))))))
     intro go5 x4 F
     replace F : eF y7 a b go5 x4 = some q := F
     unfold eF at F
     refine qn 1 Z (d6 (l5 F Z (fun G F => ?_) (fun G F => ?_)))
     ·obtain ⟨x6, hn_x6, F⟩ := d7 F
      obtain ⟨x7, hn_x7, F⟩ := d7 F
      obtain ⟨x8, hx8, F⟩ := d7 F
      refine f8 (d6 (i9 (qn 2 Z (d6 (B9 (id := 6) 10 (by kernel_rfl) (by kernel_rfl) (nx K Z (nx K Z (nx K Z (nv Z (k9 cDat hn_x6 K Z Z Z Z) Z (nx K Z (nx K Z (nx K Z (nx K Z (nv Z (k9 cDat hn_x7 K Z Z Z Z) Z (nx K Z (I3 Z (j7 (h_s_EqualData x6 x7 x8 hx8) Z ((e9 (p9 cDat x6 Z) (e9 (p9 cDat x7 Z) j4))) Z Z (xn 1 Z (X3 F Z (fun G F => ?_) (fun G F => ?_))))))))))))))))))))
      ·obtain rfl := g8 F
       exact d6 (e7 [] Z (gn 1 Z (j8 (A2 (u5 (cP (A2 (u5 (s7 Z (i8 _))))))))))
      ·obtain ⟨H1, F⟩ := g7 F
       exact f8 (I2 (e7 [2, 3, 36, 37] Z (j6 (t7 K Z Z Z H1 Z (xn 1 Z (m0 ⟨(x4 + 1), F, (f7 (e8 (f9 Z (f9 Z (f9 Z (f9 Z j1)))) (z8 cDat Z (z8 cDat Z j2)) Z Z Z Z))⟩))))))
     ·obtain rfl := g8 F
      exact o7 (X2 (X1 (t8 (qn 1 Z (u0 Z)))))
theorem aa8 (n : Nat) : jW (y7 n) := by
 induction n with
 | zero => exact fun _ _ q h => by cases h
 | succ n ih => exact fun a b q h => zA (y7 n) ih a b q h
def zC (F0 : PD → Int → Option (Bool × Int)) : Prop := ∀ (d : PD) (left : Int) (q : Bool × Int), F0 d left = some q → FC Tryz.prog 200 [.agg (cDat.row 0 d), .ptr 0 1 0 0] [(0, ⟨1, [cInt.row 1 left]⟩)] 8 (fun x h2 => x = .bool q.1 ∧ hget h2 0 = some ⟨1, [cInt.row 1 q.2]⟩)
theorem s_l1Few_bok (F0 : PD → Int → Option (Bool × Int)) (h_s_l1Few : zC F0) : zC (mM F0) := by
 intro d left q F
 unfold mM at F
 obtain ⟨H1, F⟩ := g7 F
 refine FC.of_le_lent (bdy Tryz.func200 Tryz.ntmps200 Z Z Z (qn 2 Z (qx 4 Z (lF K Z Z Z H1 Z (xn 2 Z (d6 (d6 (e7 [1, 2] Z (gn 1 Z (i9 (u6 (fun i4 left5 => ⟨[(1, .ptr 0 1 0 0), (2, .ptr 8 1 0 0), (5, .int .i64 i4)], [(0, ⟨1, [[.int .i64 left5]]⟩), (8, ⟨4, [cDat.row 0 d]⟩)], 9, 36, []⟩) (tU F0 d) LF 0 (left - 1) F (f7 (e8 (f9 Z (f9 Z (f9 Z j1))) (A7 Z (z8 cDat Z j2)) Z Z Z Z)) ?_)))))))))))
 intro go6 i4 left5 F
 replace F : Z1 F0 d go6 i4 left5 = some q := F
 unfold Z1 at F
 refine d6 (d6 (v5 (fun (x7 : Bool) => ⟨[(1, .ptr 0 1 0 0), (2, .ptr 8 1 0 0), (5, .int .i64 i4), (22, .bool x7)], [(0, ⟨1, [[.int .i64 left5]]⟩), (8, ⟨4, [cDat.row 0 d]⟩)], 9, 36, []⟩) (fun x7 => bE F0 d i4 left5 go6 x7 = some q) ?_ ?_))
 ·refine gx 3 Z (sv Z (o5 cDat K Z Z Z) Z (xq 2 Z (n9 (g := 17) F Z (fun G F => ?_) (fun G F => ?_))))
  ·exact xn 5 Z (l4 ⟨(decide (left5 ≥ 0)), F, (f7 (e8 (f9 Z (f9 Z (f9 Z (f9 Z j1)))) (A7 Z (z8 cDat Z j2)) Z Z Z Z))⟩)
  ·exact xn 5 Z (l4 ⟨false, F, (f7 (e8 (f9 Z (f9 Z (f9 Z (f9 Z j1)))) (A7 Z (z8 cDat Z j2)) Z Z Z Z))⟩)
 ·intro x7 F
  replace F : bE F0 d i4 left5 go6 x7 = some q := F
  unfold bE at F
  refine lN F Z (fun G F => ?_) (fun G F => ?_)
  ·obtain ⟨x8, hn_x8, F⟩ := d7 F
   obtain ⟨x9, hx9, F⟩ := d7 F
   obtain ⟨H1, F⟩ := g7 F
   exact f8 (d6 (i9 (gx 3 Z (sv Z (k9 cDat hn_x8 K Z Z Z Z) Z (xq 2 Z (B8 0 (h_s_l1Few x8 left5 x9 hx9) Z (d9 (m7 _ (p9 cDat x8 Z)) (d9 Z l6)) Z Z Z Z Z (j9 (I2 (e7 [1, 2, 5] Z (gx 1 Z (t7 K Z Z Z H1 Z (xn 1 Z (m0 ⟨((i4 + 1), x9.2), F, (f7 (e8 (f9 Z (f9 Z (f9 Z j1))) (A7 Z (z8 cDat Z j2)) Z Z Z Z))⟩)))))))))))))
  ·obtain rfl := g8 F
   exact o7 (X2 (X1 (t8 (qn 5 Z (j8 (z5 Z ((i8 _)) Z))))))
theorem s_l1Few_ok (n : Nat) : zC (F0 n) := by
 induction n with
 | zero => exact fun _ _ q h => by cases h
 | succ n ih => exact fun d left q h => s_l1Few_bok (F0 n) ih d left q h
def pK (B4 : PD → Option Int) : Prop := ∀ (d : PD) (q : Int), B4 d = some q → FC Tryz.prog 201 [.agg (cDat.row 0 d)] [] 8 (fun x _ => x = .int .i64 q)
theorem ah6 (B4 : PD → Option Int) (h_s_DepthOf : pK B4) : pK (eE B4) := by
 intro d q F
 unfold eE at F
 refine FC.of_le (bdy Tryz.func201 Tryz.ntmps201 Z Z Z (qn 2 Z (qn 1 Z (d6 (qx 2 Z (sv Z (o5 cDat K Z Z Z) Z (xn 1 Z (i9 (u6 (fun x3 x4 => ⟨[(3, .int .i64 x3), (7, .psl 0 4 (d.items.map (cDat.enc 0))), (8, .int .i64 (d.items.length : Int)), (9, .int .i64 x4)], [], 9, 20, []⟩) (mJ B4 d) LF 0 0 F (f7 (e8 (f9 Z (m5 cDat Z (f9 Z (f9 Z j1)))) j2 Z Z Z Z)) ?_)))))))))
 intro go5 x3 x4 F
 replace F : P8 B4 d go5 x3 x4 = some q := F
 unfold P8 at F
 refine qn 1 Z (d6 (l5 F Z (fun G F => ?_) (fun G F => ?_)))
 ·obtain ⟨x6, hn_x6, F⟩ := d7 F
  obtain ⟨x7, hx7, F⟩ := d7 F
  obtain ⟨H1, F⟩ := g7 F
  exact f8 (d6 (i9 (qr (sv Z (k9 cDat hn_x6 K Z Z Z Z) Z (xn 3 Z (gx 2 Z (j7 (h_s_DepthOf x6 x7 hx7) Z ((e9 (p9 cDat x6 Z) j4)) Z Z (sv Z (ov_max Z Z) Z (xn 1 Z (I2 (e7 [3, 7, 8, 9] Z (j6 (t7 K Z Z Z H1 Z (xn 1 Z (m0 ⟨((max x3 x7), (x4 + 1)), F, (f7 (e8 (f9 Z (m5 cDat Z (f9 Z (f9 Z j1)))) j2 Z Z Z Z))⟩)))))))))))))))
 ·obtain ⟨H1, F⟩ := g7 F
  obtain rfl := g8 F
  exact o7 (X2 (X1 (t8 (qx 1 Z (t7 K Z Z Z H1 Z (xn 1 Z (u0 Z)))))))
theorem s_DepthOf_ok (n : Nat) : pK (B4 n) := by
 induction n with
 | zero => exact fun _ q h => by cases h
 | succ n ih => exact fun d q h => ah6 (B4 n) ih d q h
theorem fV (b : Int) (q : Bool) (F : cC b = some q) : FC Tryz.prog 195 [.int .u8 b] [] 8 (fun x _ => x = .bool q) := by
 unfold cC at F
 refine FC.of_le (bdy Tryz.func195 Tryz.ntmps195 Z Z Z (qn 1 Z (qx 3 Z (n9 (g := 5) F Z (fun G F => ?_) (fun G F => ?_)))))
 ·obtain rfl := g8 F
  exact xn 4 Z (u0 Z)
 ·obtain rfl := g8 F
  exact xn 4 Z (u0 Z)
theorem s_l1Mark_ok (b : Int) (q : Bool) (F : rX b = some q) : FC Tryz.prog 196 [.int .u8 b] [] 8 (fun x _ => x = .bool q) := by
 unfold rX at F
 refine FC.of_le (bdy Tryz.func196 Tryz.ntmps196 Z Z Z (qn 1 Z (d6 (d6 (v5 (fun (x2 : Bool) => ⟨[(0, .int .u8 b), (14, .bool x2)], [], 8, 26, []⟩) (fun x2 => V0 b x2 = some q) ?_ ?_)))))
 ·refine gx 3 Z (n9 (g := 7) F Z (fun G F => ?_) (fun G F => ?_))
  ·refine xq 4 Z (n9 (g := 11) F Z (fun G F => ?_) (fun G F => ?_))
   ·exact xn 3 Z (l4 ⟨true, F, (f7 (e8 (f9 Z (f9 Z j1)) j2 Z Z Z Z))⟩)
   ·obtain ⟨x2, hx2, F⟩ := d7 F
    exact xq 1 Z (j7 (fV b x2 hx2) Z ((e9 (Z) j4)) Z Z (xn 1 Z (l4 ⟨x2, F, (f7 (e8 (f9 Z (f9 Z j1)) j2 Z Z Z Z))⟩)))
  ·obtain ⟨x2, hx2, F⟩ := d7 F
   exact xq 5 Z (j7 (fV b x2 hx2) Z ((e9 (Z) j4)) Z Z (xn 1 Z (l4 ⟨x2, F, (f7 (e8 (f9 Z (f9 Z j1)) j2 Z Z Z Z))⟩)))
 ·intro x2 F
  replace F : V0 b x2 = some q := F
  unfold V0 at F
  refine lN F Z (fun G F => ?_) (fun G F => ?_)
  ·obtain rfl := g8 F
   exact qn 1 Z (u1 Z)
  ·refine f8 (qn 1 Z (d6 (qn 1 Z (i9 (K4 (fun i3 => ⟨[(0, .int .u8 b), (3, .str ([33, 63, 42, 60, 62, 61, 47, 43, 45, 46, 95] : LB)), (4, .int .i64 i3)], [], 8, 26, []⟩) (pO b) LF 0 F (f7 (e8 (f9 Z (f9 Z (f9 Z j1))) j2 Z Z Z Z)) ?_)))))
   intro go4 i3 F
   replace F : aA b go4 i3 = some q := F
   unfold aA at F
   refine d6 (qn 4 Z (l5 F Z (fun G F => ?_) (fun G F => ?_)))
   ·obtain ⟨x5, hn_x5, F⟩ := d7 F
    refine f8 (d6 (i9 (qx 2 Z (sv Z (Y8 hn_x5 K Z Z Z) Z (xn 2 Z (l5 F Z (fun G F => ?_) (fun G F => ?_)))))))
    ·obtain rfl := g8 F
     exact d6 (e7 [] Z (gn 1 Z (j8 (A2 (u5 (cP (A2 (u5 (s7 Z (i8 _))))))))))
    ·obtain ⟨H1, F⟩ := g7 F
     exact f8 (I2 (e7 [0, 3, 4] Z (gx 1 Z (t7 K Z Z Z H1 Z (xn 1 Z (m0 ⟨(i3 + 1), F, (f7 (e8 (f9 Z (f9 Z (f9 Z j1))) j2 Z Z Z Z))⟩))))))
   ·obtain rfl := g8 F
    exact o7 (X2 (X1 (t8 (d6 (e7 [] Z (gn 1 Z (u0 Z)))))))
theorem ah9 (s : LB) (q : Bool) (F : iB s = some q) : FC Tryz.prog 179 [.str s] [] 8 (fun x _ => x = .bool q) := by
 unfold iB at F
 refine FC.of_le (bdy Tryz.func179 Tryz.ntmps179 Z Z Z (qn 1 Z (d6 (d6 (v5 (fun (x2 : Bool) => ⟨[(0, .str s), (27, .bool x2)], [], 8, 39, []⟩) (fun x2 => F6 s x2 = some q) ?_ ?_)))))
 ·obtain ⟨x2, hx2, F⟩ := d7 F
  refine gx 2 Z (j7 (O2 (s.length : Int) 1 16 x2 hx2) Z ((e9 (Z) (e9 (Z) (e9 (Z) j4)))) Z Z (xq 2 Z (Y4 (g := 8) F Z (fun G F => ?_) (fun G F => ?_))))
  ·exact xn 19 Z (l4 ⟨true, F, (f7 (e8 (f9 Z (f9 Z j1)) j2 Z Z Z Z))⟩)
  ·obtain ⟨x3, hn_x3, F⟩ := d7 F
   obtain ⟨x4, hx4, F⟩ := d7 F
   refine xq 1 Z (sv Z (Y8 hn_x3 K Z Z Z) Z (j7 (fV (x3.toNat : Int) x4 hx4) Z ((e9 (Z) j4)) Z Z (xq 2 Z (Y9 (g := 13) F Z (fun G F => ?_) (fun G F => ?_)))))
   ·exact xn 14 Z (l4 ⟨true, F, (f7 (e8 (f9 Z (f9 Z j1)) j2 Z Z Z Z))⟩)
   ·obtain ⟨x5, hn_x5, F⟩ := d7 F
    refine xq 1 Z (sv Z (Y8 hn_x5 K Z Z Z) Z (xq 2 Z (n9 (g := 17) F Z (fun G F => ?_) (fun G F => ?_))))
    ·refine xq 5 Z (n9 (g := 22) F Z (fun G F => ?_) (fun G F => ?_))
     ·obtain ⟨x6, hn_x6, F⟩ := d7 F
      obtain ⟨x7, hx7, F⟩ := d7 F
      exact xq 1 Z (sv Z (Y8 hn_x6 K Z Z Z) Z (j7 (fV (x6.toNat : Int) x7 hx7) Z ((e9 (Z) j4)) Z Z (xn 2 Z (l4 ⟨x7, F, (f7 (e8 (f9 Z (f9 Z j1)) j2 Z Z Z Z))⟩))))
     ·exact xn 5 Z (l4 ⟨false, F, (f7 (e8 (f9 Z (f9 Z j1)) j2 Z Z Z Z))⟩)
    ·exact xn 10 Z (l4 ⟨false, F, (f7 (e8 (f9 Z (f9 Z j1)) j2 Z Z Z Z))⟩)
 ·intro x2 F
  replace F : F6 s x2 = some q := F
  unfold F6 at F
  refine lN F Z (fun G F => ?_) (fun G F => ?_)
  ·obtain rfl := g8 F
   exact qn 1 Z (u1 Z)
  ·refine f8 (d6 (qn 1 Z (i9 (K4 (fun i3 => ⟨[(0, .str s), (3, .int .i64 i3)], [], 8, 39, []⟩) (jY s) LF 0 F (f7 (e8 (f9 Z (f9 Z j1)) j2 Z Z Z Z)) ?_))))
   intro go4 i3 F
   replace F : M6 s go4 i3 = some q := F
   unfold M6 at F
   refine d6 (qn 4 Z (l5 F Z (fun G F => ?_) (fun G F => ?_)))
   ·obtain ⟨x5, hn_x5, F⟩ := d7 F
    obtain ⟨x6, hx6, F⟩ := d7 F
    refine f8 (d6 (i9 (qx 2 Z (sv Z (Y8 hn_x5 K Z Z Z) Z (j7 (s_l1Mark_ok (x5.toNat : Int) x6 hx6) Z ((e9 (Z) j4)) Z Z (xn 1 Z (X3 F Z (fun G F => ?_) (fun G F => ?_))))))))
    ·obtain rfl := g8 F
     exact d6 (e7 [] Z (gn 1 Z (j8 (A2 (u5 (cP (A2 (u5 (s7 Z (i8 _))))))))))
    ·obtain ⟨H1, F⟩ := g7 F
     exact f8 (I2 (e7 [0, 3] Z (gx 1 Z (t7 K Z Z Z H1 Z (xn 1 Z (m0 ⟨(i3 + 1), F, (f7 (e8 (f9 Z (f9 Z j1)) j2 Z Z Z Z))⟩))))))
   ·obtain rfl := g8 F
    exact o7 (X2 (X1 (t8 (qn 1 Z (u0 Z)))))
theorem ai3 (s : LB) (q : Bool) (F : iD s = some q) : FC Tryz.prog 206 [.str s] [] 8 (fun x _ => x = .bool q) := by
 unfold iD at F
 refine FC.of_le (bdy Tryz.func206 Tryz.ntmps206 Z Z Z (qn 1 Z (d6 (qn 1 Z (i9 (K4 (fun i2 => ⟨[(0, .str s), (3, .int .i64 i2)], [], 8, 29, []⟩) (rZ s) LF 0 F (f7 (e8 (f9 Z (f9 Z j1)) j2 Z Z Z Z)) ?_))))))
 intro go3 i2 F
 replace F : M7 s go3 i2 = some q := F
 unfold M7 at F
 refine d6 (qn 4 Z (l5 F Z (fun G F => ?_) (fun G F => ?_)))
 ·obtain ⟨x4, hn_x4, F⟩ := d7 F
  refine f8 (d6 (i9 (qx 2 Z (sv Z (Y8 hn_x4 K Z Z Z) Z (xq 2 Z (n9 (g := 14) F Z (fun G F => ?_) (fun G F => ?_)))))))
  ·obtain rfl := g8 F
   exact xn 11 Z (r7 Z (d6 (e7 [] Z (gn 1 Z (j8 (A2 (u5 (cP (A2 (u5 (s7 Z (i8 _))))))))))))
  ·obtain ⟨x5, hn_x5, F⟩ := d7 F
   refine xq 2 Z (sv Z (Y8 hn_x5 K Z Z Z) Z (xq 3 Z (n9 (g := 20) F Z (fun G F => ?_) (fun G F => ?_))))
   ·obtain rfl := g8 F
    exact xn 5 Z (r7 Z (d6 (e7 [] Z (gn 1 Z (j8 (A2 (u5 (cP (A2 (u5 (s7 Z (i8 _))))))))))))
   ·obtain ⟨x6, hn_x6, F⟩ := d7 F
    refine xq 2 Z (sv Z (Y8 hn_x6 K Z Z Z) Z (xn 2 Z (l5 F Z (fun G F => ?_) (fun G F => ?_))))
    ·obtain rfl := g8 F
     exact d6 (e7 [] Z (gn 1 Z (j8 (A2 (u5 (cP (A2 (u5 (s7 Z (i8 _))))))))))
    ·obtain ⟨H1, F⟩ := g7 F
     exact f8 (I2 (e7 [0, 3, 15, 16, 17, 18, 21, 22, 23, 24] Z (gx 1 Z (t7 K Z Z Z H1 Z (xn 1 Z (m0 ⟨(i2 + 1), F, (f7 (e8 (f9 Z (f9 Z j1)) j2 Z Z Z Z))⟩))))))
 ·obtain rfl := g8 F
  exact o7 (X2 (X1 (t8 (qn 4 Z (u0 Z)))))
theorem s_l1Node_ok (kind : Int) (number : Int) (text : LB) (items : Int) (q : Bool) (F : rY kind number text items = some q) : FC Tryz.prog 204 [.int .i64 kind, .int .i64 number, .str text, .int .i64 items] [] 8 (fun x _ => x = .bool q) := by
 unfold rY at F
 refine FC.of_le (bdy Tryz.func204 Tryz.ntmps204 Z Z Z (qn 1 Z (d6 (qn 1 Z (i9 (qn 2 Z (l5 F Z (fun G F => ?_) (fun G F => ?_))))))))
 ·refine qx 3 Z (n9 (g := 14) F Z (fun G F => ?_) (fun G F => ?_))
  ·obtain rfl := g8 F
   exact xn 4 Z (u2 Z)
  ·obtain rfl := g8 F
   exact xn 4 Z (u2 Z)
 ·refine qn 2 Z (l5 F Z (fun G F => ?_) (fun G F => ?_))
  ·refine d6 (e7 [1, 2, 3] Z (gx 3 Z (n9 (g := 22) F Z (fun G F => ?_) (fun G F => ?_))))
   ·obtain ⟨x5, hx5, F⟩ := d7 F
    refine xq 1 Z (j7 (ah9 text x5 hx5) Z ((e9 (Z) j4)) Z Z (xq 2 Z (Y9 (g := 26) F Z (fun G F => ?_) (fun G F => ?_))))
    ·obtain rfl := g8 F
     exact xn 4 Z (u2 Z)
    ·obtain rfl := g8 F
     exact xn 4 Z (u2 Z)
   ·obtain rfl := g8 F
    exact xn 8 Z (u2 Z)
  ·refine qn 2 Z (l5 F Z (fun G F => ?_) (fun G F => ?_))
   ·obtain ⟨x5, hx5, F⟩ := d7 F
    refine d6 (e7 [1, 2, 3] Z (gx 1 Z (j7 (O2 number (-999999999) 999999999 x5 hx5) Z ((e9 (Z) (e9 (Z) (e9 (Z) j4)))) Z Z (xq 1 Z (Y9 (g := 34) F Z (fun G F => ?_) (fun G F => ?_))))))
    ·refine xq 4 Z (n9 (g := 38) F Z (fun G F => ?_) (fun G F => ?_))
     ·obtain rfl := g8 F
      exact xn 4 Z (u2 Z)
     ·obtain rfl := g8 F
      exact xn 4 Z (u2 Z)
    ·obtain rfl := g8 F
     exact xn 8 Z (u2 Z)
   ·refine d6 (e7 [1, 2, 3, 9] Z (gn 2 Z (l5 F Z (fun G F => ?_) (fun G F => ?_))))
    ·obtain ⟨x5, hx5, F⟩ := d7 F
     refine qx 1 Z (j7 (O2 number 0 1 x5 hx5) Z ((e9 (Z) (e9 (Z) (e9 (Z) j4)))) Z Z (xq 1 Z (Y9 (g := 46) F Z (fun G F => ?_) (fun G F => ?_))))
     ·refine xq 4 Z (n9 (g := 50) F Z (fun G F => ?_) (fun G F => ?_))
      ·obtain rfl := g8 F
       exact xn 4 Z (u2 Z)
      ·obtain rfl := g8 F
       exact xn 4 Z (u2 Z)
     ·obtain rfl := g8 F
      exact xn 8 Z (u2 Z)
    ·refine qn 2 Z (l5 F Z (fun G F => ?_) (fun G F => ?_))
     ·refine qx 3 Z (n9 (g := 58) F Z (fun G F => ?_) (fun G F => ?_))
      ·obtain ⟨x5, hx5, F⟩ := d7 F
       refine xq 1 Z (j7 (ai3 text x5 hx5) Z ((e9 (Z) j4)) Z Z (xq 2 Z (Y9 (g := 62) F Z (fun G F => ?_) (fun G F => ?_))))
       ·obtain rfl := g8 F
        exact xn 4 Z (u2 Z)
       ·obtain rfl := g8 F
        exact xn 4 Z (u2 Z)
      ·obtain rfl := g8 F
       exact xn 8 Z (u2 Z)
     ·obtain rfl := g8 F
      exact f8 (I2 (d6 (e7 [] Z (gn 1 Z (u0 Z)))))
def pP (B5 : PD → Option Bool) : Prop := ∀ (d : PD) (q : Bool), B5 d = some q → FC Tryz.prog 202 [.agg (cDat.row 0 d)] [] 8 (fun x _ => x = .bool q)
theorem ai1 (B5 : PD → Option Bool) (h_s_l1Nodes : pP B5) : pP (eG B5) := by
 intro d q F
 unfold eG at F
 refine FC.of_le (bdy Tryz.func202 Tryz.ntmps202 Z Z Z (qn 2 Z (d6 (qx 2 Z (sv Z (o5 cDat K Z Z Z) Z (xn 1 Z (i9 (K4 (fun x3 => ⟨[(1, .ptr 8 1 0 0), (6, .psl 0 4 (d.items.map (cDat.enc 0))), (7, .int .i64 (d.items.length : Int)), (8, .int .i64 x3)], [(8, ⟨4, [cDat.row 0 d]⟩)], 9, 26, []⟩) (mN B5 d) LF 0 F (f7 (e8 (f9 Z (m5 cDat Z (f9 Z (f9 Z j1)))) (z8 cDat Z j2) Z Z Z Z)) ?_))))))))
 intro go4 x3 F
 replace F : P9 B5 d go4 x3 = some q := F
 unfold P9 at F
 refine qn 1 Z (d6 (l5 F Z (fun G F => ?_) (fun G F => ?_)))
 ·obtain ⟨x5, hn_x5, F⟩ := d7 F
  obtain ⟨x6, hx6, F⟩ := d7 F
  refine f8 (d6 (i9 (qr (sv Z (k9 cDat hn_x5 K Z Z Z Z) Z (xn 3 Z (qx 1 Z (j7 (h_s_l1Nodes x5 x6 hx6) Z ((e9 (p9 cDat x5 Z) j4)) Z Z (xn 1 Z (X3 F Z (fun G F => ?_) (fun G F => ?_))))))))))
  ·obtain rfl := g8 F
   exact d6 (e7 [] Z (gn 1 Z (j8 (A2 (u5 (cP (A2 (u5 (s7 Z (i8 _))))))))))
  ·obtain ⟨H1, F⟩ := g7 F
   exact f8 (I2 (e7 [1, 6, 7, 8] Z (j6 (t7 K Z Z Z H1 Z (xn 1 Z (m0 ⟨(x3 + 1), F, (f7 (e8 (f9 Z (m5 cDat Z (f9 Z (f9 Z j1)))) (z8 cDat Z j2) Z Z Z Z))⟩))))))
 ·obtain ⟨x5, hx5, F⟩ := d7 F
  obtain rfl := g8 F
  exact o7 (X2 (X1 (t8 (qx 8 Z (sv Z (o5 cDat K Z Z Z) Z (j7 (s_l1Node_ok d.kind d.number d.text (d.items.length : Int) x5 hx5) Z ((e9 (Z) (e9 (Z) (e9 (Z) (e9 (Z) j4))))) Z Z (xn 1 Z (u0 Z))))))))
theorem s_l1Nodes_ok (n : Nat) : pP (B5 n) := by
 induction n with
 | zero => exact fun _ q h => by cases h
 | succ n ih => exact fun d q h => ai1 (B5 n) ih d q h
theorem s_IsDatum_ok (d : PD) (q : Bool) (F : mL d = some q) : FC Tryz.prog 191 [.agg (cDat.row 0 d)] [] 8 (fun x _ => x = .bool q) := by
 unfold mL at F
 obtain ⟨x2, hx2, F⟩ := d7 F
 refine FC.of_le (bdy Tryz.func191 Tryz.ntmps191 Z Z Z (qn 2 Z (qn 2 Z (qx 1 Z (B8 9 (s_l1Few_ok RF d 600 x2 hx2) Z (d9 (m7 _ (p9 cDat d Z)) (d9 Z l6)) Z Z Z Z Z (xq 1 Z (Y9 (g := 6) F Z (fun G F => ?_) (fun G F => ?_))))))))
 ·obtain ⟨x3, hx3, F⟩ := d7 F
  refine xq 1 Z (j7 (s_DepthOf_ok RF d x3 hx3) Z ((e9 (p9 cDat d Z) j4)) Z Z (xq 3 Z (n9 (g := 11) F Z (fun G F => ?_) (fun G F => ?_))))
  ·obtain ⟨x4, hx4, F⟩ := d7 F
   obtain rfl := g8 F
   exact xq 1 Z (j7 (s_l1Nodes_ok RF d x4 hx4) Z ((e9 (p9 cDat d Z) j4)) Z Z (xn 2 Z (u0 Z)))
  ·obtain rfl := g8 F
   exact xn 4 Z (u0 Z)
 ·obtain rfl := g8 F
  exact xn 9 Z (u0 Z)
theorem s_l5Shape_ok (c : PC) (q : Bool) (F : mY c = some q) : FC Tryz.prog 160 [.agg (cCore.row 0 c)] [] 8 (fun x _ => x = .bool q) := by
 unfold mY at F
 refine FC.of_le (bdy Tryz.func160 Tryz.ntmps160 Z Z Z (qn 2 Z (qx 2 Z (sv Z (o5 cCore K Z Z Z) Z (xn 1 Z (qx 2 Z (sv Z (o5 cInt K Z Z Z) Z (xn 1 Z (d6 (d6 (v5 (fun (x2 : Bool) => ⟨[(1, .ptr 8 1 0 0), (3, .int .i64 (c.kids.length : Int)), (4, .int .i64 (c.params.length : Int)), (35, .bool x2)], [(8, ⟨8, [cCore.row 0 c]⟩)], 9, 139, []⟩) (fun x2 => E5 c x2 = some q) ?_ ?_)))))))))))
 ·refine e7 [1, 3, 4] Z (gx 4 Z (K0 (g := 14) F Z (fun G F => ?_) (fun G F => ?_)))
  ·obtain ⟨x2, hx2, F⟩ := d7 F
   refine xq 2 Z (sv Z (l0 K Z Z) Z (j7 (FC.weaken (aa8 RF c.datum (PD.mk 0 0 ([] : LB) []) x2 hx2) (.cons (i8 _) (.cons (kL (.cons (i8 _) (.cons (i8 _) (.cons (i8 _) (.cons (O3 _ _) .nil))))) .nil))) Z ((e9 (p9 cDat c.datum Z) (e9 (rl_aggL (e9 (Z) (e9 (Z) (e9 (Z) (e9 (Z) j4))))) j4))) Z Z (xq 3 Z (Y4 (g := 21) F Z (fun G F => ?_) (fun G F => ?_)))))
   ·exact xn 14 Z (l4 ⟨true, F, (f7 (e8 (f9 Z (f9 Z (f9 Z (f9 Z j1)))) (z8 cCore Z j2) Z Z Z Z))⟩)
   ·refine xq 4 Z (K0 (g := 25) F Z (fun G F => ?_) (fun G F => ?_))
    ·obtain ⟨x3, hx3, F⟩ := d7 F
     refine xq 1 Z (j7 (fX c x3 hx3) Z ((e9 (p9 cCore c Z) j4)) Z Z (xq 3 Z (Y4 (g := 30) F Z (fun G F => ?_) (fun G F => ?_))))
     ·exact xn 5 Z (l4 ⟨(!decide (c.kind = 3)), F, (f7 (e8 (f9 Z (f9 Z (f9 Z (f9 Z j1)))) (z8 cCore Z j2) Z Z Z Z))⟩)
     ·exact xn 5 Z (l4 ⟨false, F, (f7 (e8 (f9 Z (f9 Z (f9 Z (f9 Z j1)))) (z8 cCore Z j2) Z Z Z Z))⟩)
    ·exact xn 10 Z (l4 ⟨false, F, (f7 (e8 (f9 Z (f9 Z (f9 Z (f9 Z j1)))) (z8 cCore Z j2) Z Z Z Z))⟩)
  ·refine xq 11 Z (K0 (g := 25) F Z (fun G F => ?_) (fun G F => ?_))
   ·obtain ⟨x2, hx2, F⟩ := d7 F
    refine xq 1 Z (j7 (fX c x2 hx2) Z ((e9 (p9 cCore c Z) j4)) Z Z (xq 3 Z (Y4 (g := 30) F Z (fun G F => ?_) (fun G F => ?_))))
    ·exact xn 5 Z (l4 ⟨(!decide (c.kind = 3)), F, (f7 (e8 (f9 Z (f9 Z (f9 Z (f9 Z j1)))) (z8 cCore Z j2) Z Z Z Z))⟩)
    ·exact xn 5 Z (l4 ⟨false, F, (f7 (e8 (f9 Z (f9 Z (f9 Z (f9 Z j1)))) (z8 cCore Z j2) Z Z Z Z))⟩)
   ·exact xn 10 Z (l4 ⟨false, F, (f7 (e8 (f9 Z (f9 Z (f9 Z (f9 Z j1)))) (z8 cCore Z j2) Z Z Z Z))⟩)
 ·intro x2 F
  replace F : E5 c x2 = some q := F
  unfold E5 at F
  refine lN F Z (fun G F => ?_) (fun G F => ?_)
  ·obtain rfl := g8 F
   exact qn 1 Z (u1 Z)
  ·refine f8 (d6 (qn 2 Z (i9 (qn 2 Z (l5 F Z (fun G F => ?_) (fun G F => ?_))))))
   ·refine qx 3 Z (n9 (g := 42) F Z (fun G F => ?_) (fun G F => ?_))
    ·refine xq 4 Z (n9 (g := 46) F Z (fun G F => ?_) (fun G F => ?_))
     ·obtain ⟨x3, hx3, F⟩ := d7 F
      obtain rfl := g8 F
      exact xq 2 Z (j7 (s_IsDatum_ok c.datum x3 hx3) Z ((e9 (p9 cDat c.datum Z) j4)) Z Z (xn 2 Z (u2 Z)))
     ·obtain rfl := g8 F
      exact xn 5 Z (u2 Z)
    ·obtain rfl := g8 F
     exact xn 9 Z (u2 Z)
   ·refine qn 2 Z (l5 F Z (fun G F => ?_) (fun G F => ?_))
    ·refine d6 (e7 [3, 4] Z (gx 3 Z (n9 (g := 55) F Z (fun G F => ?_) (fun G F => ?_))))
     ·obtain rfl := g8 F
      exact xn 4 Z (u2 Z)
     ·obtain rfl := g8 F
      exact xn 4 Z (u2 Z)
    ·refine qn 2 Z (l5 F Z (fun G F => ?_) (fun G F => ?_))
     ·refine d6 (e7 [1, 3, 4] Z (B9 (id := 11) 12 (by kernel_rfl) (by kernel_rfl) (nx K Z (nx K Z (nx K Z (dn_if (g := 63) F Z (fun G F => ?_) (fun G F => ?_)))))))
      ·refine nx K Z (nx K Z (nx K Z (nx K Z (dn_if (g := 67) F Z (fun G F => ?_) (fun G F => ?_)))))
       ·obtain ⟨x3, hx3, F⟩ := d7 F
        obtain ⟨H1, F⟩ := g7 F
        obtain ⟨x4, hx4, F⟩ := d7 F
        obtain rfl := g8 F
        exact nx K Z (nx K Z (hZ (Z0  x3 hx3) Z (j4) (nY cStr x3 Z) Z (nv Z (o5 cStr K Z Z Z) Z (nv Z (ov_sub K Z Z H1) Z (I3 Z (j7 (O2 c.number 0 ((x3.length : Int) - 1) x4 hx4) Z ((e9 (Z) (e9 (Z) (e9 (Z) j4)))) Z Z (xn 2 Z (u2 Z))))))))
       ·obtain rfl := g8 F
        exact nx K Z (nx K Z (nx K Z (nx K Z (nx K Z (I3 Z (xn 3 Z (u2 Z)))))))
      ·obtain rfl := g8 F
       exact nx K Z (nx K Z (nx K Z (nx K Z (nx K Z (nx K Z (nx K Z (nx K Z (nx K Z (I3 Z (xn 3 Z (u2 Z)))))))))))
     ·refine d6 (e7 [3, 4, 37] Z (gn 2 Z (l5 F Z (fun G F => ?_) (fun G F => ?_))))
      ·refine qx 3 Z (n9 (g := 79) F Z (fun G F => ?_) (fun G F => ?_))
       ·obtain rfl := g8 F
        exact xn 4 Z (u2 Z)
       ·obtain rfl := g8 F
        exact xn 4 Z (u2 Z)
      ·refine qn 2 Z (l5 F Z (fun G F => ?_) (fun G F => ?_))
       ·refine qx 3 Z (n9 (g := 87) F Z (fun G F => ?_) (fun G F => ?_))
        ·obtain rfl := g8 F
         exact xn 4 Z (u2 Z)
        ·obtain rfl := g8 F
         exact xn 4 Z (u2 Z)
       ·refine qn 2 Z (l5 F Z (fun G F => ?_) (fun G F => ?_))
        ·obtain ⟨x3, hx3, F⟩ := d7 F
         refine d6 (e7 [3, 4] Z (gx 1 Z (j7 (O2 (c.kids.length : Int) 1 9 x3 hx3) Z ((e9 (Z) (e9 (Z) (e9 (Z) j4)))) Z Z (xq 1 Z (Y9 (g := 95) F Z (fun G F => ?_) (fun G F => ?_))))))
         ·obtain rfl := g8 F
          exact xn 4 Z (u2 Z)
         ·obtain rfl := g8 F
          exact xn 4 Z (u2 Z)
        ·refine qn 2 Z (l5 F Z (fun G F => ?_) (fun G F => ?_))
         ·refine d6 (e7 [3, 4] Z (gx 3 Z (n9 (g := 103) F Z (fun G F => ?_) (fun G F => ?_))))
          ·obtain rfl := g8 F
           exact xn 4 Z (u2 Z)
          ·obtain rfl := g8 F
           exact xn 4 Z (u2 Z)
         ·refine d6 (e7 [3, 4, 37] Z (gn 2 Z (l5 F Z (fun G F => ?_) (fun G F => ?_))))
          ·obtain ⟨x3, hx3, F⟩ := d7 F
           refine qx 1 Z (j7 (O2 (c.kids.length : Int) 2 60 x3 hx3) Z ((e9 (Z) (e9 (Z) (e9 (Z) j4)))) Z Z (xq 1 Z (Y9 (g := 111) F Z (fun G F => ?_) (fun G F => ?_))))
           ·obtain rfl := g8 F
            exact xn 4 Z (u2 Z)
           ·obtain rfl := g8 F
            exact xn 4 Z (u2 Z)
          ·refine qn 2 Z (l5 F Z (fun G F => ?_) (fun G F => ?_))
           ·obtain ⟨x3, hx3, F⟩ := d7 F
            refine qx 1 Z (j7 (O2 (c.kids.length : Int) 1 60 x3 hx3) Z ((e9 (Z) (e9 (Z) (e9 (Z) j4)))) Z Z (xq 1 Z (Y9 (g := 119) F Z (fun G F => ?_) (fun G F => ?_))))
            ·obtain ⟨x4, hx4, F⟩ := d7 F
             obtain rfl := g8 F
             exact xq 1 Z (j7 (O2 (c.params.length : Int) 1 60 x4 hx4) Z ((e9 (Z) (e9 (Z) (e9 (Z) j4)))) Z Z (xn 2 Z (u2 Z)))
            ·obtain rfl := g8 F
             exact xn 4 Z (u2 Z)
           ·refine qn 2 Z (l5 F Z (fun G F => ?_) (fun G F => ?_))
            ·refine d6 (e7 [3, 4] Z (gx 3 Z (n9 (g := 127) F Z (fun G F => ?_) (fun G F => ?_))))
             ·obtain rfl := g8 F
              exact xn 4 Z (u2 Z)
             ·obtain rfl := g8 F
              exact xn 4 Z (u2 Z)
            ·refine qn 2 Z (l5 F Z (fun G F => ?_) (fun G F => ?_))
             ·refine d6 (e7 [3, 4] Z (gx 3 Z (n9 (g := 135) F Z (fun G F => ?_) (fun G F => ?_))))
              ·obtain rfl := g8 F
               exact xn 4 Z (u2 Z)
              ·obtain rfl := g8 F
               exact xn 4 Z (u2 Z)
             ·obtain rfl := g8 F
              exact f8 (I2 (d6 (e7 [] Z (gn 1 Z (u0 Z)))))
def pV (B6 : PC → Option Bool) : Prop := ∀ (c : PC) (q : Bool), B6 c = some q → FC Tryz.prog 117 [.agg (cCore.row 0 c)] [] 8 (fun x _ => x = .bool q)
theorem ai7 (B6 : PC → Option Bool) (h_s_l5Nodes : pV B6) : pV (eO B6) := by
 intro c q F
 unfold eO at F
 refine FC.of_le (bdy Tryz.func117 Tryz.ntmps117 Z Z Z (qn 2 Z (d6 (qx 2 Z (sv Z (o5 cCore K Z Z Z) Z (xn 1 Z (i9 (K4 (fun x3 => ⟨[(1, .ptr 8 1 0 0), (6, .psl 0 8 (c.kids.map (cCore.enc 0))), (7, .int .i64 (c.kids.length : Int)), (8, .int .i64 x3)], [(8, ⟨8, [cCore.row 0 c]⟩)], 9, 28, []⟩) (mX B6 c) LF 0 F (f7 (e8 (f9 Z (m5 cCore Z (f9 Z (f9 Z j1)))) (z8 cCore Z j2) Z Z Z Z)) ?_))))))))
 intro go4 x3 F
 replace F : Q1 B6 c go4 x3 = some q := F
 unfold Q1 at F
 refine qn 1 Z (d6 (l5 F Z (fun G F => ?_) (fun G F => ?_)))
 ·obtain ⟨x5, hn_x5, F⟩ := d7 F
  refine f8 (d6 (i9 (qr (sv Z (k9 cCore hn_x5 K Z Z Z Z) Z (xn 3 Z (d6 (v5 (fun (x6 : Bool) => ⟨[(1, .ptr 8 1 0 0), (6, .psl 0 8 (c.kids.map (cCore.enc 0))), (7, .int .i64 (c.kids.length : Int)), (8, .int .i64 x3), (24, .bool x6)], [(8, ⟨8, [cCore.row 0 c]⟩)], 9, 28, []⟩) (fun x6 => V7 x3 go4 x6 = some q) ?_ ?_)))))))
  ·obtain ⟨x6, hx6, F⟩ := d7 F
   refine gx 1 Z (j7 (h_s_l5Nodes x5 x6 hx6) Z ((e9 (p9 cCore x5 Z) j4)) Z Z (xq 2 Z (Y4 (g := 15) F Z (fun G F => ?_) (fun G F => ?_))))
   ·exact xn 9 Z (l4 ⟨true, F, (f7 (e8 (f9 Z (m5 cCore Z (f9 Z (f9 Z (f9 Z j1))))) (z8 cCore Z j2) Z Z Z Z))⟩)
   ·refine xq 4 Z (n9 (g := 19) F Z (fun G F => ?_) (fun G F => ?_))
    ·exact xn 5 Z (l4 ⟨(decide (x5.kind = 8)), F, (f7 (e8 (f9 Z (m5 cCore Z (f9 Z (f9 Z (f9 Z j1))))) (z8 cCore Z j2) Z Z Z Z))⟩)
    ·exact xn 5 Z (l4 ⟨false, F, (f7 (e8 (f9 Z (m5 cCore Z (f9 Z (f9 Z (f9 Z j1))))) (z8 cCore Z j2) Z Z Z Z))⟩)
  ·intro x6 F
   replace F : V7 x3 go4 x6 = some q := F
   unfold V7 at F
   refine lN F Z (fun G F => ?_) (fun G F => ?_)
   ·obtain rfl := g8 F
    exact qn 1 Z (j8 (A2 (u5 (cP (A2 (u5 (s7 Z (i8 _))))))))
   ·obtain ⟨H1, F⟩ := g7 F
    exact f8 (I2 (j6 (t7 K Z Z Z H1 Z (xn 1 Z (m0 ⟨(x3 + 1), F, (f7 (e8 (f9 Z (m5 cCore Z (f9 Z (f9 Z j1)))) (z8 cCore Z j2) Z Z Z Z))⟩)))))
 ·obtain ⟨x5, hx5, F⟩ := d7 F
  obtain rfl := g8 F
  exact o7 (X2 (X1 (t8 (qx 1 Z (j7 (s_l5Shape_ok c x5 hx5) Z ((e9 (p9 cCore c Z) j4)) Z Z (xn 1 Z (u0 Z)))))))
theorem s_l5Nodes_ok (n : Nat) : pV (B6 n) := by
 induction n with
 | zero => exact fun _ q h => by cases h
 | succ n ih => exact fun c q h => ai7 (B6 n) ih c q h
theorem ai9 (list : LI) (q : Bool) (F : iI list = some q) : FC Tryz.prog 118 [.psl 0 1 (list.map (cInt.enc 0))] [] 8 (fun x _ => x = .bool q) := by
 unfold iI at F
 refine FC.of_le (bdy Tryz.func118 Tryz.ntmps118 Z Z Z (qn 1 Z (d6 (qx 1 Z (sv Z (o5 cInt K Z Z Z) Z (xn 1 Z (i9 (K4 (fun x2 => ⟨[(0, .psl 0 1 (list.map (cInt.enc 0))), (5, .psl 0 1 (list.map (cInt.enc 0))), (6, .int .i64 (list.length : Int)), (7, .int .i64 x2)], [], 8, 23, []⟩) (kE list) LF 0 F (f7 (e8 (m5 cInt Z (m5 cInt Z (f9 Z (f9 Z j1)))) j2 Z Z Z Z)) ?_))))))))
 intro go3 x2 F
 replace F : M8 list go3 x2 = some q := F
 unfold M8 at F
 refine qn 1 Z (d6 (l5 F Z (fun G F => ?_) (fun G F => ?_)))
 ·obtain ⟨x4, hn_x4, F⟩ := d7 F
  obtain ⟨x5, hx5, F⟩ := d7 F
  refine f8 (d6 (i9 (qx 1 Z (sv Z (k9 cInt hn_x4 K Z Z Z Z) Z (xn 3 Z (qx 1 Z (j7 (O2 x4 0 99999 x5 hx5) Z ((e9 (Z) (e9 (Z) (e9 (Z) j4)))) Z Z (xq 2 Z (Y4 (g := 15) F Z (fun G F => ?_) (fun G F => ?_))))))))))
  ·obtain rfl := g8 F
   exact xn 6 Z (r7 Z (d6 (e7 [] Z (gn 1 Z (j8 (A2 (u5 (cP (A2 (u5 (s7 Z (i8 _))))))))))))
  ·obtain ⟨H1, F⟩ := g7 F
   obtain ⟨x6, hx6, F⟩ := d7 F
   refine xq 2 Z (sv Z (oc_psub_h cInt H1 K Z Z Z Z) Z (xq 1 Z (j7 (F5 (list.take x2.toNat) x4 x6 hx6) Z ((e9 (K7 cInt (list.take x2.toNat) Z) (e9 (Z) j4))) Z Z (xn 1 Z (lN F Z (fun G F => ?_) (fun G F => ?_))))))
   ·obtain rfl := g8 F
    exact d6 (e7 [] Z (gn 1 Z (j8 (A2 (u5 (cP (A2 (u5 (s7 Z (i8 _))))))))))
   ·obtain ⟨H1, F⟩ := g7 F
    exact f8 (I2 (e7 [0, 5, 6, 7, 16, 17, 18, 19, 20] Z (j6 (t7 K Z Z Z H1 Z (xn 1 Z (m0 ⟨(x2 + 1), F, (f7 (e8 (m5 cInt Z (m5 cInt Z (f9 Z (f9 Z j1)))) j2 Z Z Z Z))⟩))))))
 ·obtain rfl := g8 F
  exact o7 (X2 (X1 (t8 (qn 1 Z (u0 Z)))))
def pQ (C7 : PC → LI → Option (LI)) : Prop := ∀ (c : PC) (out : LI) (q : LI), C7 c out = some q → FC Tryz.prog 119 [.agg (cCore.row 0 c), .hsl 0 0 out.length] [(0, ⟨1, out.map (cInt.enc 0)⟩)] 8 (fun x h2 => x = .hsl 0 0 q.length ∧ hget h2 0 = some ⟨1, q.map (cInt.enc 0)⟩)
theorem ai4 (C7 : PC → LI → Option (LI)) (h_s_l5Bound : pQ C7) : pQ (eK C7) := by
 intro c out q F
 unfold eK at F
 obtain ⟨H1, F⟩ := g7 F
 refine FC.of_le_lent (bdy Tryz.func119 Tryz.ntmps119 Z Z Z (qn 2 Z (qx 3 Z (B7 cInt (l := 0) (xs := out) (ys := c.params) H1 Z K Z Z Z Z Z Z Z (cW cInt (l := 0) Z Z Z) Z (xn 1 Z (d6 (qx 2 Z (sv Z (o5 cCore K Z Z Z) Z (xn 1 Z (i9 (u6 (fun x4 out5 => ⟨[(1, .hsl 0 0 out5.length), (12, .psl 0 8 (c.kids.map (cCore.enc 0))), (13, .int .i64 (c.kids.length : Int)), (14, .int .i64 x4)], [(0, ⟨1, out5.map (cInt.enc 0)⟩)], 9, 23, []⟩) (mO C7 c) LF 0 (out ++ c.params) F (f7 (e8 (f9 Z (m5 cCore Z (f9 Z (f9 Z j1)))) (l7 Z j2) Z Z Z Z)) ?_)))))))))))
 intro go6 x4 out5 F
 replace F : kA C7 c go6 x4 out5 = some q := F
 unfold kA at F
 refine qn 1 Z (d6 (l5 F Z (fun G F => ?_) (fun G F => ?_)))
 ·obtain ⟨x7, hn_x7, F⟩ := d7 F
  obtain ⟨x8, hx8, F⟩ := d7 F
  obtain ⟨H1, F⟩ := g7 F
  exact f8 (d6 (i9 (qr (sv Z (k9 cCore hn_x7 K Z Z Z Z) Z (xn 3 Z (gx 2 Z (lJ 0 (h_s_l5Bound x7 out5 x8 hx8) Z (d9 (m7 _ (p9 cCore x7 Z)) (d9 Z l6)) Z (Cd.rnR cInt _ out5 Z) Z (Cd.rnR cInt _ x8 Z) Z (xn 1 Z (I2 (e7 [1, 12, 13, 14] Z (j6 (t7 K Z Z Z H1 Z (xn 1 Z (m0 ⟨((x4 + 1), x8), F, (f7 (e8 (f9 Z (m5 cCore Z (f9 Z (f9 Z j1)))) (l7 Z j2) Z Z Z Z))⟩))))))))))))))
 ·obtain rfl := g8 F
  exact o7 (X2 (X1 (t8 (qn 2 Z (j8 (z5 Z ((i8 _)) Z))))))
theorem s_l5Bound_ok (n : Nat) : pQ (C7 n) := by
 induction n with
 | zero => exact fun _ _ q h => by cases h
 | succ n ih => exact fun c out q h => ai4 (C7 n) ih c out q h
theorem s_IsCore_ok (c : PC) (globals : LI) (q : Bool) (F : wA c globals = some q) : FC Tryz.prog 66 [.agg (cCore.row 0 c), .psl 0 1 (globals.map (cInt.enc 0))] [] 8 (fun x _ => x = .bool q) := by
 unfold wA at F
 obtain ⟨x3, hx3, F⟩ := d7 F
 refine FC.of_le (bdy Tryz.func66 Tryz.ntmps66 Z Z Z (qn 2 Z (d6 (d6 (B9 (id := 1) 17 (by kernel_rfl) (by kernel_rfl) (nx K Z (hZ (uY c x3 hx3) Z ((e9 (p9 cCore c Z) j4)) Z Z (nx K Z (nx K Z (dn_ifnb (g := 10) F Z (fun G F => ?_) (fun G F => ?_)))))))))))
 ·obtain rfl := g8 F
  exact nx K Z (nx K Z (nx K Z (nx K Z (nx K Z (nx K Z (nx K Z (nx K Z (nx K Z (nx K Z (nx K Z (nx K Z (nx K Z (I3 Z (xn 5 Z (r7 Z (d6 (e7 [] Z (gn 1 Z (u1 Z)))))))))))))))))))
 ·obtain ⟨x4, hx4, F⟩ := d7 F
  refine nx K Z (hZ (vL RF c x4 hx4) Z ((e9 (p9 cCore c Z) j4)) Z Z (nx K Z (nx K Z (nx K Z (dn_if (g := 15) F Z (fun G F => ?_) (fun G F => ?_))))))
  ·obtain rfl := g8 F
   exact nx K Z (nx K Z (nx K Z (nx K Z (nx K Z (nx K Z (nx K Z (nx K Z (I3 Z (xn 5 Z (r7 Z (d6 (e7 [] Z (gn 1 Z (u1 Z))))))))))))))
  ·obtain ⟨x5, hx5, F⟩ := d7 F
   refine nx K Z (hZ (s_l5Nodes_ok RF c x5 hx5) Z ((e9 (p9 cCore c Z) j4)) Z Z (nx K Z (nx K Z (nx K Z (dn_ifnb (g := 20) F Z (fun G F => ?_) (fun G F => ?_))))))
   ·obtain rfl := g8 F
    exact nx K Z (nx K Z (nx K Z (I3 Z (xn 5 Z (r7 Z (d6 (e7 [] Z (gn 1 Z (u1 Z)))))))))
   ·obtain ⟨x6, hx6, F⟩ := d7 F
    obtain ⟨x7, hx7, F⟩ := d7 F
    obtain ⟨H1, F⟩ := g7 F
    obtain ⟨x8, hx8, F⟩ := d7 F
    refine nx K Z (n_own (by simp) (Cd.flats cInt x6 Z) (eJ globals x6 hx6) Z (d9 (m7 _ (K7 cInt globals Z)) l6) (Cd.rnR cInt _ x6 Z) Z (nx K Z (I3 Z (o6 (G9 (y := .hsl 9 0 x6.length) 22 Z (R3 (congrArg (V.hsl 9 0) (by simp))) Z) (qO 10 (pre := [.agg (cCore.row 0 c)]) (suf := []) (s_l5Bound_ok RF c [] x7 hx7) Z Z Z (d9 (m7 _ (p9 cCore c Z)) (d9 Z l6)) Z (Cd.rnR cInt _ x7 Z) Z (B7 cInt (l := 0) (xs := x6) (ys := x7) H1 Z K Z Z Z Z Z Z Z (S7 cInt Z Z Z) Z (O8 (ai9 (x6 ++ x7) x8 hx8) Z (i7 (O0 Z (by simp) (cInt.rlR _ 0 _)) o8) Z Z (xn 2 Z (X3 F Z (fun G F => ?_) (fun G F => ?_))))))))))
    ·obtain rfl := g8 F
     exact d6 (e7 [] Z (gn 1 Z (u1 Z)))
    ·obtain ⟨x9, hx9, F⟩ := d7 F
     refine f8 (d6 (d6 (e7 [1, 2] Z (gx 1 Z (j7 (fU c x9 hx9) Z ((e9 (p9 cCore c Z) j4)) (nY cInt x9 Z) Z (sv Z (o5 cInt K Z Z Z) Z (xn 1 Z (i9 (K4 (fun x10 => ⟨[(1, .psl 0 1 (globals.map (cInt.enc 0))), (30, .psl 1 1 (x9.map (cInt.enc 1))), (31, .int .i64 (x9.length : Int)), (32, .int .i64 x10)], [], 11, 41, []⟩) (jX globals x9) LF 0 F (f7 (e8 (m5 cInt Z (m5 cInt Z (f9 Z (f9 Z j1)))) j2 Z Z Z Z)) ?_)))))))))
     intro go11 x10 F
     replace F : U7 globals x9 go11 x10 = some q := F
     unfold U7 at F
     refine qn 1 Z (d6 (l5 F Z (fun G F => ?_) (fun G F => ?_)))
     ·obtain ⟨x12, hn_x12, F⟩ := d7 F
      obtain ⟨x13, hx13, F⟩ := d7 F
      refine f8 (d6 (i9 (qr (sv Z (k9 cInt hn_x12 K Z Z Z Z) Z (xn 2 Z (qx 2 Z (j7 (F5 globals x12 x13 hx13) Z ((e9 (K7 cInt globals Z) (e9 (Z) j4))) Z Z (xn 1 Z (X3 F Z (fun G F => ?_) (fun G F => ?_))))))))))
      ·obtain rfl := g8 F
       exact d6 (e7 [] Z (gn 1 Z (j8 (A2 (u5 (cP (A2 (u5 (s7 Z (i8 _))))))))))
      ·obtain ⟨H1, F⟩ := g7 F
       exact f8 (I2 (e7 [1, 30, 31, 32] Z (j6 (t7 K Z Z Z H1 Z (xn 1 Z (m0 ⟨(x10 + 1), F, (f7 (e8 (m5 cInt Z (m5 cInt Z (f9 Z (f9 Z j1)))) j2 Z Z Z Z))⟩))))))
     ·obtain rfl := g8 F
      exact o7 (X2 (X1 (t8 (qn 1 Z (u0 Z)))))
theorem s_l5Valid_ok (c : PC) (q : Bool) (F : mZ c = some q) : FC Tryz.prog 47 [.agg (cCore.row 0 c)] [] 8 (fun x _ => x = .bool q) := by
 unfold mZ at F
 obtain ⟨x2, hx2, F⟩ := d7 F
 refine FC.of_le (bdy Tryz.func47 Tryz.ntmps47 Z Z Z (qn 2 Z (d6 (B9 (id := 1) 6 (by kernel_rfl) (by kernel_rfl) (nx K Z (hZ (uY c x2 hx2) Z ((e9 (p9 cCore c Z) j4)) Z Z (nx K Z (dn_ifb (g := 5) F Z (fun G F => ?_) (fun G F => ?_)))))))))
 ·obtain ⟨x3, hx3, F⟩ := d7 F
  obtain ⟨x4, hx4, F⟩ := d7 F
  obtain rfl := g8 F
  exact nx K Z (nx K Z (hZ (fU c x3 hx3) Z ((e9 (p9 cCore c Z) j4)) (nY cInt x3 Z) Z (I3 Z (j7 (s_IsCore_ok c x3 x4 hx4) Z ((e9 (p9 cCore c Z) (e9 (ps_10 cInt x3 Z) j4))) Z Z (xn 2 Z (u0 Z))))))
 ·obtain rfl := g8 F
  exact nx K Z (nx K Z (nx K Z (I3 Z (xn 3 Z (u0 Z)))))
def pR (n8 : PC → LI → Option (LI)) : Prop := ∀ (c : PC) (out : LI) (q : LI), n8 c out = some q → FC Tryz.prog 122 [.agg (cCore.row 0 c), .hsl 0 0 out.length] [(0, ⟨1, out.map (cInt.enc 0)⟩)] 8 (fun x h2 => x = .hsl 0 0 q.length ∧ hget h2 0 = some ⟨1, q.map (cInt.enc 0)⟩)
theorem ai5 (n8 : PC → LI → Option (LI)) (h_s_l5Boxed : pR n8) : pR (eM n8) := by
 intro c out q F
 unfold eM at F
 refine FC.of_le_lent (bdy Tryz.func122 Tryz.ntmps122 Z Z Z (qn 2 Z (d6 (d6 (v5 (fun (x4 : Bool) => ⟨[(1, .hsl 0 0 out.length), (2, .ptr 8 1 0 0), (17, .bool x4)], [(0, ⟨1, out.map (cInt.enc 0)⟩), (8, ⟨8, [cCore.row 0 c]⟩)], 9, 63, []⟩) (fun x4 => aB n8 c out x4 = some q) ?_ ?_)))))
 ·refine gx 4 Z (n9 (g := 11) F Z (fun G F => ?_) (fun G F => ?_))
  ·obtain ⟨x4, hx4, F⟩ := d7 F
   exact xq 3 Z (O8 (F5 out c.number x4 hx4) Z (i7 (O0 Z (by simp) (cInt.rlR _ 0 _)) (i7 (s4 (Z)) o8)) Z Z (xn 2 Z (l4 ⟨(!x4), F, (f7 (e8 (f9 Z (f9 Z (f9 Z j1))) (l7 Z (z8 cCore Z j2)) Z Z Z Z))⟩)))
  ·exact xn 6 Z (l4 ⟨false, F, (f7 (e8 (f9 Z (f9 Z (f9 Z j1))) (l7 Z (z8 cCore Z j2)) Z Z Z Z))⟩)
 ·intro x4 F
  replace F : aB n8 c out x4 = some q := F
  unfold aB at F
  refine v5 (fun (out5 : LI) => ⟨[(1, .hsl 0 0 out5.length), (2, .ptr 8 1 0 0)], [(0, ⟨1, out5.map (cInt.enc 0)⟩), (8, ⟨8, [cCore.row 0 c]⟩)], 9, 63, []⟩) (fun out5 => V1 n8 c out5 = some q) ?_ ?_
  ·refine lN F Z (fun G F => ?_) (fun G F => ?_)
   ·obtain ⟨H1, F⟩ := g7 F
    exact gx 3 Z (J1 cInt (l := 0) ([c.number] : LI) K Z Z Z Z Z Z Z (B7 cInt (l := 0) (xs := out) (ys := ([c.number] : LI)) H1 Z K Z Z Z Z Z Z Z (S7 cInt Z Z Z) Z (xn 1 Z (l4 ⟨(out ++ ([c.number] : LI)), F, (f7 (e8 (f9 Z (f9 Z j1)) (l7 Z (z8 cCore Z j2)) Z Z Z Z))⟩))))
   ·exact f8 (l4 ⟨out, F, (f7 (e8 (f9 Z (f9 Z j1)) (l7 Z (z8 cCore Z j2)) Z Z Z Z))⟩)
  ·intro out5 F
   replace F : V1 n8 c out5 = some q := F
   unfold V1 at F
   refine d6 (qn 1 Z (i9 (u6 (fun i6 out7 => ⟨[(1, .hsl 0 0 out7.length), (2, .ptr 8 1 0 0), (5, .int .i64 i6)], [(0, ⟨1, out7.map (cInt.enc 0)⟩), (8, ⟨8, [cCore.row 0 c]⟩)], 9, 63, []⟩) (cD n8 c) LF 0 out5 F (f7 (e8 (f9 Z (f9 Z (f9 Z j1))) (l7 Z (z8 cCore Z j2)) Z Z Z Z)) ?_)))
   intro go8 i6 out7 F
   replace F : J0 n8 c go8 i6 out7 = some q := F
   unfold J0 at F
   refine d6 (d6 (v5 (fun (x9 : Bool) => ⟨[(1, .hsl 0 0 out7.length), (2, .ptr 8 1 0 0), (5, .int .i64 i6), (32, .bool x9)], [(0, ⟨1, out7.map (cInt.enc 0)⟩), (8, ⟨8, [cCore.row 0 c]⟩)], 9, 63, []⟩) (fun x9 => O6 n8 c i6 out7 go8 x9 = some q) ?_ ?_))
   ·refine gx 3 Z (sv Z (o5 cInt K Z Z Z) Z (xq 2 Z (n9 (g := 28) F Z (fun G F => ?_) (fun G F => ?_))))
    ·exact xn 4 Z (l4 ⟨(decide (c.kind = 9)), F, (f7 (e8 (f9 Z (f9 Z (f9 Z (f9 Z j1)))) (l7 Z (z8 cCore Z j2)) Z Z Z Z))⟩)
    ·exact xn 4 Z (l4 ⟨false, F, (f7 (e8 (f9 Z (f9 Z (f9 Z (f9 Z j1)))) (l7 Z (z8 cCore Z j2)) Z Z Z Z))⟩)
   ·intro x9 F
    replace F : O6 n8 c i6 out7 go8 x9 = some q := F
    unfold O6 at F
    refine lN F Z (fun G F => ?_) (fun G F => ?_)
    ·refine f8 (d6 (v5 (fun (out10 : LI) => ⟨[(1, .hsl 0 0 out10.length), (2, .ptr 8 1 0 0), (5, .int .i64 i6)], [(0, ⟨1, out10.map (cInt.enc 0)⟩), (8, ⟨8, [cCore.row 0 c]⟩)], 9, 63, []⟩) (fun out10 => aD i6 go8 out10 = some q) ?_ ?_))
     ·obtain ⟨x10, hn_x10, F⟩ := d7 F
      obtain ⟨x11, hx11, F⟩ := d7 F
      refine i9 (qx 4 Z (sv Z (k9 cInt hn_x10 K Z Z Z Z) Z (xq 1 Z (O8 (F5 out7 x10 x11 hx11) Z (i7 (O0 Z (by simp) (cInt.rlR _ 0 _)) (i7 (s4 (Z)) o8)) Z Z (xn 1 Z (X3 F Z (fun G F => ?_) (fun G F => ?_)))))))
      ·obtain ⟨x12, hn_x12, F⟩ := d7 F
       obtain ⟨H1, F⟩ := g7 F
       exact e7 [1, 2, 5] Z (gx 4 Z (sv Z (k9 cInt hn_x12 K Z Z Z Z) Z (xq 1 Z (J1 cInt (l := 0) ([x12] : LI) K Z Z Z Z Z Z Z (B7 cInt (l := 0) (xs := out7) (ys := ([x12] : LI)) H1 Z K Z Z Z Z Z Z Z (S7 cInt Z Z Z) Z (xn 1 Z (I2 (l4 ⟨(out7 ++ ([x12] : LI)), F, (f7 (e8 (f9 Z (f9 Z (f9 Z j1))) (l7 Z (z8 cCore Z j2)) Z Z Z Z))⟩))))))))
      ·exact f8 (I2 (l4 ⟨out7, F, (f7 (e8 (f9 Z (f9 Z (f9 Z j1))) (l7 Z (z8 cCore Z j2)) Z Z Z Z))⟩))
     ·intro out10 F
      replace F : aD i6 go8 out10 = some q := F
      unfold aD at F
      obtain ⟨H1, F⟩ := g7 F
      exact gx 1 Z (t7 K Z Z Z H1 Z (xn 1 Z (m0 ⟨((i6 + 1), out10), F, (f7 (e8 (f9 Z (f9 Z (f9 Z j1))) (l7 Z (z8 cCore Z j2)) Z Z Z Z))⟩)))
    ·refine o7 (X2 (X1 (t8 (d6 (qx 2 Z (sv Z (o5 cCore K Z Z Z) Z (xn 1 Z (i9 (u6 (fun x10 out11 => ⟨[(1, .hsl 0 0 out11.length), (52, .psl 0 8 (c.kids.map (cCore.enc 0))), (53, .int .i64 (c.kids.length : Int)), (54, .int .i64 x10)], [(0, ⟨1, out11.map (cInt.enc 0)⟩)], 9, 63, []⟩) (fW n8 c) LF 0 out7 F (f7 (e8 (f9 Z (m5 cCore Z (f9 Z (f9 Z j1)))) (l7 Z j2) Z Z Z Z)) ?_)))))))))
     intro go12 x10 out11 F
     replace F : Q0 n8 c go12 x10 out11 = some q := F
     unfold Q0 at F
     refine qn 1 Z (d6 (l5 F Z (fun G F => ?_) (fun G F => ?_)))
     ·obtain ⟨x13, hn_x13, F⟩ := d7 F
      obtain ⟨x14, hx14, F⟩ := d7 F
      obtain ⟨H1, F⟩ := g7 F
      exact f8 (d6 (i9 (qr (sv Z (k9 cCore hn_x13 K Z Z Z Z) Z (xn 3 Z (gx 2 Z (lJ 0 (h_s_l5Boxed x13 out11 x14 hx14) Z (d9 (m7 _ (p9 cCore x13 Z)) (d9 Z l6)) Z (Cd.rnR cInt _ out11 Z) Z (Cd.rnR cInt _ x14 Z) Z (xn 1 Z (I2 (e7 [1, 52, 53, 54] Z (j6 (t7 K Z Z Z H1 Z (xn 1 Z (m0 ⟨((x10 + 1), x14), F, (f7 (e8 (f9 Z (m5 cCore Z (f9 Z (f9 Z j1)))) (l7 Z j2) Z Z Z Z))⟩))))))))))))))
     ·obtain rfl := g8 F
      exact o7 (X2 (X1 (t8 (qn 2 Z (j8 (z5 Z ((i8 _)) Z))))))
theorem s_l5Boxed_ok (n : Nat) : pR (n8 n) := by
 induction n with
 | zero => exact fun _ _ q h => by cases h
 | succ n ih => exact fun c out q h => ai5 (n8 n) ih c out q h
theorem nZ (c : PC) (q : LI) (F : Q9 c = some q) : FC Tryz.prog 68 [.agg (cCore.row 0 c)] [] 8 (fun x h2 => ∃ j, x = .hsl j 0 q.length ∧ hget h2 j = some ⟨1, q.map (cInt.enc 0)⟩) := by
 unfold Q9 at F
 obtain ⟨x2, hx2, F⟩ := d7 F
 obtain rfl := g8 F
 exact bdy Tryz.func68 Tryz.ntmps68 Z Z Z (qn 2 Z (qx 1 Z (J1 cInt (l := 0) ([] : LI) K Z Z Z Z Z Z Z (lJ 9 (s_l5Boxed_ok RF c ([] : LI) x2 hx2) Z (d9 (m7 _ (p9 cCore c Z)) (d9 Z l6)) Z (Cd.rnR cInt _ ([] : LI) Z) Z (Cd.rnR cInt _ x2 Z) Z (xn 1 Z (j8 (⟨_, Z, 9, Z, Z⟩)))))))
theorem pY (c : PC) (q : Bool) (F : gA c = some q) : FC Tryz.prog 98 [.agg (cCore.row 0 c)] [] 8 (fun x _ => x = .bool q) := by
 unfold gA at F
 refine FC.of_le (bdy Tryz.func98 Tryz.ntmps98 Z Z Z (qn 2 Z (qx 4 Z (n9 (g := 6) F Z (fun G F => ?_) (fun G F => ?_)))))
 ·obtain rfl := g8 F
  exact xq 3 Z (sv Z (o5 cDat K Z Z Z) Z (xn 3 Z (u0 Z)))
 ·obtain rfl := g8 F
  exact xn 7 Z (u0 Z)
def pW (A6 : PD → List PPair → Option (PVal × List PPair)) : Prop := ∀ (d : PD) (pairs : List PPair) (q : PVal × List PPair), A6 d pairs = some q → FC Tryz.prog 99 [.agg (cDat.row 0 d), .hsl 0 0 pairs.length] [(0, ⟨6, pairs.map (cPair.enc 0)⟩)] 8 (fun x h2 => x = .tup [.agg (cVal.row 1 q.1), .hsl 0 0 q.2.length] ∧ hget h2 0 = some ⟨6, q.2.map (cPair.enc 0)⟩)
theorem aj0 (A6 : PD → List PPair → Option (PVal × List PPair)) (h_s_l8Quote : pW A6) : pW (eP A6) := by
 intro d pairs q F
 unfold eP at F
 refine FC.of_le_lent (bdy Tryz.func99 Tryz.ntmps99 Z Z Z (qn 3 Z (d6 (qn 2 Z (i9 (qn 2 Z (l5 F Z (fun G F => ?_) (fun G F => ?_))))))))
 ·obtain rfl := g8 F
  exact qx 2 Z (sv Z (l0 K Z Z) Z (xn 3 Z (j8 (A2 (u5 (z5 Z ((i8 _)) Z))))))
 ·refine qn 2 Z (l5 F Z (fun G F => ?_) (fun G F => ?_))
  ·obtain rfl := g8 F
   exact d6 (e7 [1, 2, 4] Z (gx 2 Z (sv Z (l0 K Z Z) Z (xn 3 Z (j8 (A2 (u5 (z5 Z ((i8 _)) Z))))))))
  ·refine d6 (e7 [1, 2, 4, 10] Z (gn 2 Z (l5 F Z (fun G F => ?_) (fun G F => ?_))))
   ·obtain rfl := g8 F
    exact qx 2 Z (sv Z (l0 K Z Z) Z (xn 3 Z (j8 (A2 (u5 (z5 Z ((i8 _)) Z))))))
   ·refine qn 2 Z (l5 F Z (fun G F => ?_) (fun G F => ?_))
    ·obtain rfl := g8 F
     exact qx 2 Z (sv Z (l0 K Z Z) Z (xn 3 Z (j8 (A2 (u5 (z5 Z ((i8 _)) Z))))))
    ·obtain ⟨H1, F⟩ := g7 F
     refine f8 (I2 (qr (sv Z (l0 K Z Z) Z (xn 2 Z (d6 (qx 2 Z (sv Z (o5 cDat K Z Z Z) Z (lF K Z Z Z H1 Z (xn 1 Z (i9 (cT (fun i4 pairs5 tail6 => ⟨[(1, .hsl 0 0 pairs5.length), (2, .ptr 8 1 0 0), (4, .ptr 9 1 0 0), (6, .ptr 10 1 0 0), (7, .int .i64 i4)], [(0, ⟨6, pairs5.map (cPair.enc 0)⟩), (8, ⟨4, [cDat.row 0 d]⟩), (9, ⟨3, [[.int .i64 0, .int .i64 0, .str ([] : LB)]]⟩), (10, ⟨3, [cVal.row 0 tail6]⟩)], 11, 67, []⟩) (fZ A6 d) LF ((d.items.length : Int) - 1) pairs (PVal.mk 1 0 ([] : LB)) F (f7 (e8 (f9 Z (f9 Z (f9 Z (f9 Z (f9 Z j1))))) (l7 Z (z8 cDat Z (A7 Z (z8 cVal Z j2)))) Z Z Z Z)) ?_)))))))))))
     intro go7 i4 pairs5 tail6 F
     replace F : kF A6 d go7 i4 pairs5 tail6 = some q := F
     unfold kF at F
     refine d6 (qn 2 Z (l5 F Z (fun G F => ?_) (fun G F => ?_)))
     ·obtain ⟨x8, hn_x8, F⟩ := d7 F
      obtain ⟨x9, hx9, F⟩ := d7 F
      obtain ⟨H1, F⟩ := g7 F
      obtain ⟨H2, F⟩ := g7 F
      obtain ⟨H3, F⟩ := g7 F
      exact f8 (d6 (i9 (qr (sv Z (l0 K Z Z) Z (xn 2 Z (qx 3 Z (sv Z (k9 cDat hn_x8 K Z Z Z Z) Z (xq 2 Z (lJ 0 (h_s_l8Quote x8 pairs5 x9 hx9) Z (d9 (m7 _ (p9 cDat x8 Z)) (d9 Z l6)) Z (Cd.rnR cPair _ pairs5 Z) (yX (d9 (m7 _ (K6 cVal x9.1 Z)) (d9 Z l6))) (Cd.rnR cPair _ x9.2 Z) Z (xn 5 Z (d6 (e7 [1, 2, 4, 6, 7, 8] Z (gx 3 Z (sv Z (l0 K Z Z) Z (J1 cPair (l := 0) ([(PPair.mk x9.1 tail6)] : List PPair) K Z Z Z Z Z Z Z (B7 cPair (l := 0) (xs := x9.2) (ys := ([(PPair.mk x9.1 tail6)] : List PPair)) H1 Z K Z Z Z Z Z Z Z (S7 cPair Z Z Z) Z (xn 1 Z (e7 [1, 2, 4, 6, 7] Z (gx 1 Z (sv Z (eB cPair K Z Z Z) Z (lF K Z Z Z H2 Z (sv Z (l0 K Z Z) Z (xn 1 Z (I2 (gx 1 Z (lF K Z Z Z H3 Z (xn 1 Z (m0 ⟨((i4 - 1), (x9.2 ++ ([(PPair.mk x9.1 tail6)] : List PPair)), (PVal.mk 7 (((x9.2 ++ ([(PPair.mk x9.1 tail6)] : List PPair)).length : Int) - 1) ([] : LB))), F, (f7 (e8 (f9 Z (f9 Z (f9 Z (f9 Z (f9 Z j1))))) (l7 Z (z8 cDat Z (A7 Z (z8 cVal Z j2)))) Z Z Z Z))⟩))))))))))))))))))))))))))))
     ·obtain rfl := g8 F
      exact o7 (X2 (X1 (t8 (qn 4 Z (j8 (z5 Z ((i8 _)) Z))))))
theorem vA (n : Nat) : pW (A6 n) := by
 induction n with
 | zero => exact fun _ _ q h => by cases h
 | succ n ih => exact fun d pairs q h => aj0 (A6 n) ih d pairs q h
theorem s_ArityOf_ok (primitive : Int) (q : Int) (F : mG primitive = some q) : FC Tryz.prog 148 [.int .i64 primitive] [] 8 (fun x _ => x = .int .i64 q) := by
 unfold mG at F
 obtain ⟨x2, hx2, F⟩ := d7 F
 obtain ⟨H1, F⟩ := g7 F
 obtain ⟨x3, hx3, F⟩ := d7 F
 refine FC.of_le (bdy Tryz.func148 Tryz.ntmps148 Z Z Z (qn 1 Z (d6 (qx 1 Z (j7 (Z0  x2 hx2) Z (j4) (nY cStr x2 Z) Z (sv Z (o5 cStr K Z Z Z) Z (lF K Z Z Z H1 Z (j7 (O2 primitive 0 ((x2.length : Int) - 1) x3 hx3) Z ((e9 (Z) (e9 (Z) (e9 (Z) j4)))) Z Z (xn 1 Z (X3 F Z (fun G F => ?_) (fun G F => ?_)))))))))))
 ·obtain rfl := g8 F
  exact d6 (e7 [] Z (gn 1 Z (u1 Z)))
 ·obtain ⟨x4, hn_x4, F⟩ := d7 F
  obtain rfl := g8 F
  exact f8 (d6 (e7 [0] Z (j6 (J1 cInt (l := 0) ([2, 2, 2, 2, 2, 2, 1, 1, 1, 1, 1, 2, 1, 1] : LI) K Z Z Z Z Z Z Z (xq 1 Z (sv Z (G3 cInt hn_x4 K Z Z Z Z) Z (sv Z (oc_load cInt hn_x4 K Z Z Z Z) Z (xn 1 Z (u0 Z)))))))))
theorem uZ (x_1 : PVal) (q : Bool) (F : iJ x_1 = some q) : FC Tryz.prog 100 [.agg (cVal.row 0 x_1)] [] 8 (fun x _ => x = .bool q) := by
 unfold iJ at F
 refine FC.of_le (bdy Tryz.func100 Tryz.ntmps100 Z Z Z (qn 2 Z (qx 4 Z (n9 (g := 6) F Z (fun G F => ?_) (fun G F => ?_)))))
 ·obtain rfl := g8 F
  exact xn 5 Z (u0 Z)
 ·obtain rfl := g8 F
  exact xn 5 Z (u0 Z)
theorem Z4 (b : Bool) (q : PVal) (F : bQ b = some q) : FC Tryz.prog 183 [.bool b] [] 8 (fun x _ => x = .agg (cVal.row 1 q)) := by
 unfold bQ at F
 refine FC.of_le (bdy Tryz.func183 Tryz.ntmps183 Z Z Z (qn 1 Z (d6 (qn 1 Z (lN F Z (fun G F => ?_) (fun G F => ?_))))))
 ·obtain rfl := g8 F
  exact qr (sv Z (l0 K Z Z) Z (xn 1 Z (u1 Z)))
 ·obtain rfl := g8 F
  exact f8 (qr (sv Z (l0 K Z Z) Z (xn 1 Z (u0 Z))))
theorem ab0 (p : Int) (a : Int) (b : Int) (q : PVal × LB) (F : bI p a b = some q) : FC Tryz.prog 182 [.int .i64 p, .int .i64 a, .int .i64 b] [] 8 (fun x _ => x = .tup [.agg (cVal.row 1 q.1), .str q.2]) := by
 unfold bI at F
 refine FC.of_le (bdy Tryz.func182 Tryz.ntmps182 Z Z Z (qn 2 Z (qn 1 Z (d6 (qn 1 Z (i9 (qn 2 Z (l5 F Z (fun G F => ?_) (fun G F => ?_)))))))))
 ·obtain ⟨H1, F⟩ := g7 F
  obtain ⟨x4, hx4, F⟩ := d7 F
  refine gx 2 Z (t7 K Z Z Z H1 Z (xn 1 Z (I2 (d6 (d6 (e7 [6, 8] Z (gx 1 Z (j7 (O2 (a + b) (-999999999) 999999999 x4 hx4) Z ((e9 (Z) (e9 (Z) (e9 (Z) j4)))) Z Z (xn 1 Z (X3 F Z (fun G F => ?_) (fun G F => ?_)))))))))))
  ·obtain rfl := g8 F
   exact qr (sv Z (l0 K Z Z) Z (xn 2 Z (u1 Z)))
  ·obtain rfl := g8 F
   exact f8 (qx 1 Z (sv Z (l0 K Z Z) Z (xn 2 Z (u0 Z))))
 ·refine qn 2 Z (l5 F Z (fun G F => ?_) (fun G F => ?_))
  ·obtain ⟨H1, F⟩ := g7 F
   obtain ⟨x4, hx4, F⟩ := d7 F
   refine e7 [1, 2, 6] Z (gx 2 Z (lF K Z Z Z H1 Z (xn 1 Z (I2 (d6 (qx 1 Z (j7 (O2 (a - b) (-999999999) 999999999 x4 hx4) Z ((e9 (Z) (e9 (Z) (e9 (Z) j4)))) Z Z (xn 1 Z (X3 F Z (fun G F => ?_) (fun G F => ?_))))))))))
   ·obtain rfl := g8 F
    exact d6 (e7 [6] Z (j6 (sv Z (l0 K Z Z) Z (xn 2 Z (u1 Z)))))
   ·obtain rfl := g8 F
    exact f8 (d6 (e7 [6, 8] Z (gx 1 Z (sv Z (l0 K Z Z) Z (xn 2 Z (u0 Z))))))
  ·refine d6 (e7 [1, 2, 6, 9] Z (gn 2 Z (l5 F Z (fun G F => ?_) (fun G F => ?_))))
   ·obtain ⟨H1, F⟩ := g7 F
    obtain ⟨x4, hx4, F⟩ := d7 F
    refine gx 2 Z (s_mul K Z Z Z H1 Z (xn 1 Z (I2 (d6 (d6 (e7 [6, 8] Z (gx 1 Z (j7 (O2 (a * b) (-999999999) 999999999 x4 hx4) Z ((e9 (Z) (e9 (Z) (e9 (Z) j4)))) Z Z (xn 1 Z (X3 F Z (fun G F => ?_) (fun G F => ?_)))))))))))
    ·obtain rfl := g8 F
     exact qr (sv Z (l0 K Z Z) Z (xn 2 Z (u1 Z)))
    ·obtain rfl := g8 F
     exact f8 (qx 1 Z (sv Z (l0 K Z Z) Z (xn 2 Z (u0 Z))))
   ·refine qn 2 Z (l5 F Z (fun G F => ?_) (fun G F => ?_))
    ·obtain ⟨x4, hx4, F⟩ := d7 F
     obtain rfl := g8 F
     exact qx 3 Z (j7 (Z4 (decide (a = b)) x4 hx4) Z ((e9 (Z) j4)) (K6 cVal x4 Z) Z (xn 2 Z (u2 Z)))
    ·obtain ⟨x4, hx4, F⟩ := d7 F
     obtain rfl := g8 F
     exact qx 3 Z (j7 (Z4 (decide (a < b)) x4 hx4) Z ((e9 (Z) j4)) (K6 cVal x4 Z) Z (xn 2 Z (u2 Z)))
theorem s_l8Apply_ok (p : Int) (args : List PVal) (pairs : List PPair) (q : PVal × LB) (F : u7 p args pairs = some q) : FC Tryz.prog 149 [.int .i64 p, .psl 0 3 (args.map (cVal.enc 0)), .psl 0 6 (pairs.map (cPair.enc 0))] [] 8 (fun x _ => x = .tup [.agg (cVal.row 1 q.1), .str q.2]) := by
 unfold u7 at F
 obtain ⟨x4, hx4, F⟩ := d7 F
 obtain ⟨x5, hn_x5, F⟩ := d7 F
 obtain ⟨H1, F⟩ := g7 F
 obtain ⟨x6, hn_x6, F⟩ := d7 F
 refine FC.of_le (bdy Tryz.func149 Tryz.ntmps149 Z Z Z (qn 2 Z (qr (j7 (Z0  x4 hx4) Z (j4) (nY cStr x4 Z) Z (xq 1 Z (sv Z (k9 cStr hn_x5 K Z Z Z Z) Z (xq 1 Z (sv Z (ad4 Z Z H1) Z (xn 1 Z (qx 1 Z (sv Z (k9 cVal hn_x6 K Z Z Z Z) Z (xn 3 Z (d6 (d6 (e7 [0, 1, 2, 6, 8, 9] Z (gn 1 Z (i9 (d6 (qn 2 Z (v5 (fun (x7 : Bool) => ⟨[(0, .int .i64 p), (1, .psl 0 3 (args.map (cVal.enc 0))), (2, .psl 0 6 (pairs.map (cPair.enc 0))), (6, .ptr 8 1 0 0), (8, .str (x5 ++ ([58, 32, 98, 97, 100, 32, 97, 114, 103, 117, 109, 101, 110, 116] : LB))), (9, .ptr 9 1 0 0), (18, .int .i64 p), (19, .bool x7)], [(8, ⟨3, [[.int .i64 0, .int .i64 0, .str ([] : LB)]]⟩), (9, ⟨3, [cVal.row 0 x6]⟩)], 10, 98, []⟩) (fun x7 => t0 p args pairs x5 x6 x7 = some q) ?_ ?_))))))))))))))))))))
 ·refine l5 F Z (fun G F => ?_) (fun G F => ?_)
  ·exact f8 (l4 ⟨true, F, (f7 (e8 (f9 Z (m5 cVal Z (m5 cPair Z (f9 Z (f9 Z (f9 Z (f9 Z (f9 Z j1)))))))) (A7 Z (z8 cVal Z j2)) Z Z Z Z))⟩)
  ·refine qn 2 Z (l5 F Z (fun G F => ?_) (fun G F => ?_))
   ·exact f8 (l4 ⟨true, F, (f7 (e8 (f9 Z (m5 cVal Z (m5 cPair Z (f9 Z (f9 Z (f9 Z (f9 Z (f9 Z j1)))))))) (A7 Z (z8 cVal Z j2)) Z Z Z Z))⟩)
   ·refine qn 2 Z (l5 F Z (fun G F => ?_) (fun G F => ?_))
    ·exact f8 (l4 ⟨true, F, (f7 (e8 (f9 Z (m5 cVal Z (m5 cPair Z (f9 Z (f9 Z (f9 Z (f9 Z (f9 Z j1)))))))) (A7 Z (z8 cVal Z j2)) Z Z Z Z))⟩)
    ·refine qn 2 Z (l5 F Z (fun G F => ?_) (fun G F => ?_))
     ·exact f8 (l4 ⟨true, F, (f7 (e8 (f9 Z (m5 cVal Z (m5 cPair Z (f9 Z (f9 Z (f9 Z (f9 Z (f9 Z j1)))))))) (A7 Z (z8 cVal Z j2)) Z Z Z Z))⟩)
     ·exact gn 2 Z (l4 ⟨(decide (p = 4)), F, (f7 (e8 (f9 Z (m5 cVal Z (m5 cPair Z (f9 Z (f9 Z (f9 Z (f9 Z (f9 Z j1)))))))) (A7 Z (z8 cVal Z j2)) Z Z Z Z))⟩)
 ·intro x7 F
  replace F : t0 p args pairs x5 x6 x7 = some q := F
  unfold t0 at F
  refine lN F Z (fun G F => ?_) (fun G F => ?_)
  ·refine d6 (qx 4 Z (K0 (g := 28) F Z (fun G F => ?_) (fun G F => ?_)))
   ·obtain rfl := g8 F
    exact xn 6 Z (r7 Z (d6 (e7 [6, 8] Z (j6 (sv Z (l0 K Z Z) Z (xn 3 Z (j8 (u5 (A2 (u5 (s7 Z (i8 _))))))))))))
   ·obtain ⟨x8, hn_x8, F⟩ := d7 F
    refine xq 1 Z (sv Z (k9 cVal hn_x8 K Z Z Z Z) Z (xn 4 Z (E7 F Z (fun G F => ?_) (fun G F => ?_))))
    ·obtain rfl := g8 F
     exact d6 (e7 [6, 8] Z (j6 (sv Z (l0 K Z Z) Z (xn 3 Z (j8 (u5 (A2 (u5 (s7 Z (i8 _))))))))))
    ·obtain ⟨x9, hn_x9, F⟩ := d7 F
     obtain ⟨x10, hx10, F⟩ := d7 F
     obtain rfl := g8 F
     exact f8 (d6 (e7 [0, 1, 6, 9] Z (B9 (id := 11) 10 (by kernel_rfl) (by kernel_rfl) (nx K Z (nx K Z (nx K Z (nx K Z (nv Z (k9 cVal hn_x9 K Z Z Z Z) Z (nx K Z (nx K Z (hZ (ab0 p x6.number x9.number x10 hx10) Z ((e9 (Z) (e9 (Z) (e9 (Z) j4)))) (cR (e9 (K6 cVal x10.1 Z) (e9 (Z) j4))) Z (nx K Z (nx K Z (I3 Z (xn 2 Z (u2 Z))))))))))))))))
  ·refine d6 (qn 2 Z (v5 (fun (x8 : Bool) => ⟨[(0, .int .i64 p), (1, .psl 0 3 (args.map (cVal.enc 0))), (2, .psl 0 6 (pairs.map (cPair.enc 0))), (6, .ptr 8 1 0 0), (8, .str (x5 ++ ([58, 32, 98, 97, 100, 32, 97, 114, 103, 117, 109, 101, 110, 116] : LB))), (9, .ptr 9 1 0 0), (18, .int .i64 p), (47, .bool x8)], [(8, ⟨3, [[.int .i64 0, .int .i64 0, .str ([] : LB)]]⟩), (9, ⟨3, [cVal.row 0 x6]⟩)], 10, 98, []⟩) (fun x8 => F9 p args pairs x5 x6 x8 = some q) ?_ ?_))
   ·refine l5 F Z (fun G F => ?_) (fun G F => ?_)
    ·exact f8 (l4 ⟨true, F, (f7 (e8 (f9 Z (m5 cVal Z (m5 cPair Z (f9 Z (f9 Z (f9 Z (f9 Z (f9 Z j1)))))))) (A7 Z (z8 cVal Z j2)) Z Z Z Z))⟩)
    ·exact gn 2 Z (l4 ⟨(decide (p = 7)), F, (f7 (e8 (f9 Z (m5 cVal Z (m5 cPair Z (f9 Z (f9 Z (f9 Z (f9 Z (f9 Z j1)))))))) (A7 Z (z8 cVal Z j2)) Z Z Z Z))⟩)
   ·intro x8 F
    replace F : F9 p args pairs x5 x6 x8 = some q := F
    unfold F9 at F
    refine lN F Z (fun G F => ?_) (fun G F => ?_)
    ·refine d6 (qn 3 Z (E7 F Z (fun G F => ?_) (fun G F => ?_)))
     ·obtain rfl := g8 F
      exact d6 (e7 [6, 8] Z (j6 (sv Z (l0 K Z Z) Z (xn 3 Z (j8 (u5 (A2 (u5 (s7 Z (i8 _))))))))))
     ·refine f8 (d6 (d6 (e7 [0, 2, 6, 9] Z (gn 2 Z (l5 F Z (fun G F => ?_) (fun G F => ?_))))))
      ·obtain ⟨x9, hn_x9, F⟩ := d7 F
       obtain rfl := g8 F
       exact qx 3 Z (sv Z (k9 cPair hn_x9 K Z Z Z Z) Z (xn 4 Z (j8 (u5 (A2 (u5 (s7 Z (i8 _))))))))
      ·obtain ⟨x9, hn_x9, F⟩ := d7 F
       obtain rfl := g8 F
       exact f8 (qx 3 Z (sv Z (k9 cPair hn_x9 K Z Z Z Z) Z (xn 4 Z (u2 Z))))
    ·refine qn 2 Z (l5 F Z (fun G F => ?_) (fun G F => ?_))
     ·obtain ⟨x9, hx9, F⟩ := d7 F
      obtain rfl := g8 F
      exact d6 (e7 [6, 9] Z (gx 3 Z (j7 (Z4 (decide (x6.kind = 1)) x9 hx9) Z ((e9 (Z) j4)) (K6 cVal x9 Z) Z (xn 2 Z (u2 Z)))))
     ·refine qn 2 Z (l5 F Z (fun G F => ?_) (fun G F => ?_))
      ·obtain ⟨x9, hx9, F⟩ := d7 F
       obtain rfl := g8 F
       exact d6 (e7 [6, 9] Z (gx 3 Z (j7 (Z4 (decide (x6.kind = 7)) x9 hx9) Z ((e9 (Z) j4)) (K6 cVal x9 Z) Z (xn 2 Z (u2 Z)))))
      ·refine d6 (e7 [1, 6, 9, 18] Z (gn 2 Z (l5 F Z (fun G F => ?_) (fun G F => ?_))))
       ·obtain ⟨x9, hx9, F⟩ := d7 F
        obtain rfl := g8 F
        exact qx 3 Z (j7 (Z4 (decide (x6.kind = 3)) x9 hx9) Z ((e9 (Z) j4)) (K6 cVal x9 Z) Z (xn 2 Z (u2 Z)))
       ·refine qn 2 Z (l5 F Z (fun G F => ?_) (fun G F => ?_))
        ·obtain ⟨x9, hn_x9, F⟩ := d7 F
         obtain ⟨x10, hx10, F⟩ := d7 F
         obtain rfl := g8 F
         exact d6 (B9 (id := 26) 4 (by kernel_rfl) (by kernel_rfl) (nx K Z (nx K Z (nv Z (k9 cVal hn_x9 K Z Z Z Z) Z (nx K Z (I3 Z (sv Z (ov_veq veq114 Z Z) Z (j7 (Z4 (decide (x6 = x9)) x10 hx10) Z ((e9 (Z) j4)) (K6 cVal x10 Z) Z (xn 2 Z (u2 Z))))))))))
        ·obtain ⟨x9, hx9, F⟩ := d7 F
         obtain ⟨x10, hx10, F⟩ := d7 F
         obtain rfl := g8 F
         exact f8 (I2 (qx 1 Z (j7 (uZ x6 x9 hx9) Z ((e9 (p9 cVal x6 Z) j4)) Z Z (j7 (Z4 x9 x10 hx10) Z ((e9 (Z) j4)) (K6 cVal x10 Z) Z (xn 2 Z (u0 Z))))))
theorem s_l9Datum_ok (x_1 : PVal) (q : PD × Bool) (F : iL x_1 = some q) : FC Tryz.prog 150 [.agg (cVal.row 0 x_1)] [] 8 (fun x _ => x = .tup [.agg (cDat.row 1 q.1), .bool q.2]) := by
 unfold iL at F
 refine FC.of_le (bdy Tryz.func150 Tryz.ntmps150 Z Z Z (qn 3 Z (d6 (qn 2 Z (i9 (qn 2 Z (l5 F Z (fun G F => ?_) (fun G F => ?_))))))))
 ·obtain rfl := g8 F
  exact d6 (e7 [2] Z (j6 (sv Z (l0 K Z Z) Z (xn 2 Z (j8 (A2 (u5 (s7 Z (O4 (.cons (kL (.cons (i8 _) (.cons (i8 _) (.cons (i8 _) (.cons (O3 _ _) .nil))))) (.cons (i8 _) .nil)))))))))))
 ·refine qn 2 Z (l5 F Z (fun G F => ?_) (fun G F => ?_))
  ·obtain rfl := g8 F
   exact d6 (e7 [1, 2] Z (gx 2 Z (sv Z (l0 K Z Z) Z (xn 2 Z (j8 (A2 (u5 (s7 Z (O4 (.cons (kL (.cons (i8 _) (.cons (i8 _) (.cons (i8 _) (.cons (O3 _ _) .nil))))) (.cons (i8 _) .nil)))))))))))
  ·refine d6 (e7 [1, 2, 5] Z (gn 2 Z (l5 F Z (fun G F => ?_) (fun G F => ?_))))
   ·obtain rfl := g8 F
    exact qx 2 Z (sv Z (l0 K Z Z) Z (xn 2 Z (j8 (A2 (u5 (s7 Z (O4 (.cons (kL (.cons (i8 _) (.cons (i8 _) (.cons (i8 _) (.cons (O3 _ _) .nil))))) (.cons (i8 _) .nil)))))))))
   ·obtain rfl := g8 F
    exact f8 (I2 (qr (sv Z (l0 K Z Z) Z (xn 2 Z (j8 (s7 Z (O4 (.cons (kL (.cons (i8 _) (.cons (i8 _) (.cons (i8 _) (.cons (O3 _ _) .nil))))) (.cons (i8 _) .nil)))))))))
theorem s_l9Fold_ok (c : PC) (q : PC × Bool) (F : sD c = some q) : FC Tryz.prog 96 [.agg (cCore.row 0 c)] [] 8 (fun x _ => x = .tup [.agg (cCore.row 1 q.1), .bool q.2]) := by
 unfold sD at F
 refine FC.of_le (bdy Tryz.func96 Tryz.ntmps96 Z Z Z (qn 3 Z (d6 (qx 4 Z (K0 (g := 17) F Z (fun G F => ?_) (fun G F => ?_))))))
 ·obtain rfl := g8 F
  exact xn 7 Z (r7 Z (d6 (e7 [2] Z (j6 (sv Z (l0 K Z Z) Z (xn 2 Z (j8 (u5 (s7 Z (O4 (.cons Q3 (.cons (i8 _) .nil))))))))))))
 ·obtain ⟨x2, hn_x2, F⟩ := d7 F
  refine xq 2 Z (sv Z (k9 cCore hn_x2 K Z Z Z Z) Z (xn 4 Z (E7 F Z (fun G F => ?_) (fun G F => ?_))))
  ·obtain rfl := g8 F
   exact d6 (e7 [2] Z (j6 (sv Z (l0 K Z Z) Z (xn 2 Z (j8 (u5 (s7 Z (O4 (.cons Q3 (.cons (i8 _) .nil))))))))))
  ·obtain ⟨x3, hn_x3, F⟩ := d7 F
   obtain ⟨H1, F⟩ := g7 F
   refine f8 (d6 (e7 [1, 2] Z (gx 2 Z (sv Z (k9 cCore hn_x3 K Z Z Z Z) Z (xn 3 Z (qr (J1 cVal (l := 0) ([] : List PVal) K Z Z Z Z Z Z Z (xn 1 Z (d6 (qx 2 Z (sv Z (oc_psub_l cCore H1 K Z Z Z Z) Z (sv Z (o5 cCore K Z Z Z) Z (xn 1 Z (i9 (u6 (fun x4 args5 => ⟨[(2, .ptr 9 1 0 0), (4, .int .i64 x3.number), (5, .hsl 10 0 args5.length), (34, .psl 0 8 ((c.kids.drop (1 : Int).toNat).map (cCore.enc 0))), (35, .int .i64 ((c.kids.drop (1 : Int).toNat).length : Int)), (36, .int .i64 x4)], [(9, ⟨8, [A0]⟩), (10, ⟨3, args5.map (cVal.enc 0)⟩)], 11, 89, []⟩) (qB c x3) LF 0 ([] : List PVal) F (f7 (e8 (f9 Z (f9 Z (f9 Z (m5 cCore Z (f9 Z (f9 Z j1)))))) (A7 Z (l7 Z j2)) Z Z Z Z)) ?_)))))))))))))))
   intro go6 x4 args5 F
   replace F : cF c x3 go6 x4 args5 = some q := F
   unfold cF at F
   refine qn 1 Z (d6 (l5 F Z (fun G F => ?_) (fun G F => ?_)))
   ·obtain ⟨x7, hn_x7, F⟩ := d7 F
    obtain ⟨x8, hx8, F⟩ := d7 F
    refine f8 (d6 (i9 (qr (sv Z (k9 cCore hn_x7 K Z Z Z Z) Z (xn 3 Z (d6 (qx 1 Z (j7 (pY x7 x8 hx8) Z ((e9 (p9 cCore x7 Z) j4)) Z Z (xn 1 Z (X3 F Z (fun G F => ?_) (fun G F => ?_)))))))))))
    ·obtain rfl := g8 F
     exact d6 (e7 [2] Z (j6 (sv Z (l0 K Z Z) Z (xn 2 Z (j8 (u5 (A2 (u5 (cP (A2 (u5 (s7 Z (O4 (.cons Q3 (.cons (i8 _) .nil)))))))))))))))
    ·obtain ⟨x9, hx9, F⟩ := d7 F
     obtain ⟨H1, F⟩ := g7 F
     obtain ⟨H2, F⟩ := g7 F
     exact f8 (qx 2 Z (qO 12 (pre := [.agg (cDat.row 0 x7.datum)]) (suf := []) (vA RF x7.datum [] x9 hx9) Z Z Z (d9 (m7 _ (p9 cDat x7.datum Z)) (d9 Z l6)) (yX (d9 (m7 _ (K6 cVal x9.1 Z)) (d9 Z l6))) (Cd.rnR cPair _ x9.2 Z) Z (xn 6 Z (e7 [2, 4, 5, 8, 34, 35, 36] Z (gx 2 Z (J1 cVal (l := 0) ([x9.1] : List PVal) K Z Z Z Z Z Z Z (B7 cVal (l := 0) (xs := args5) (ys := ([x9.1] : List PVal)) H1 Z K Z Z Z Z Z Z Z (S7 cVal Z Z Z) Z (xn 1 Z (I2 (j6 (t7 K Z Z Z H2 Z (xn 1 Z (m0 ⟨((x4 + 1), (args5 ++ ([x9.1] : List PVal))), F, (f7 (e8 (f9 Z (f9 Z (f9 Z (m5 cCore Z (f9 Z (f9 Z j1)))))) (A7 Z (l7 Z j2)) Z Z Z Z))⟩)))))))))))))
   ·refine o7 (X2 (X1 (t8 (d6 (qx 3 Z (n9 (g := 57) F Z (fun G F => ?_) (fun G F => ?_)))))))
    ·obtain rfl := g8 F
     exact xn 10 Z (r7 Z (d6 (e7 [2] Z (j6 (sv Z (l0 K Z Z) Z (xn 2 Z (j8 (u5 (s7 Z (O4 (.cons Q3 (.cons (i8 _) .nil))))))))))))
    ·refine xq 4 Z (n9 (g := 61) F Z (fun G F => ?_) (fun G F => ?_))
     ·obtain rfl := g8 F
      exact xn 6 Z (r7 Z (d6 (e7 [2] Z (j6 (sv Z (l0 K Z Z) Z (xn 2 Z (j8 (u5 (s7 Z (O4 (.cons Q3 (.cons (i8 _) .nil))))))))))))
     ·obtain ⟨x7, hx7, F⟩ := d7 F
      refine xq 1 Z (sv Z (eB cVal K Z Z Z) Z (xq 1 Z (j7 (s_ArityOf_ok x3.number x7 hx7) Z ((e9 (Z) j4)) Z Z (xn 2 Z (E7 F Z (fun G F => ?_) (fun G F => ?_))))))
      ·obtain rfl := g8 F
       exact d6 (e7 [2] Z (j6 (sv Z (l0 K Z Z) Z (xn 2 Z (j8 (u5 (s7 Z (O4 (.cons Q3 (.cons (i8 _) .nil))))))))))
      ·obtain ⟨x8, hx8, F⟩ := d7 F
       obtain ⟨x9, hx9, F⟩ := d7 F
       refine f8 (d6 (e7 [2, 4, 5] Z (gx 2 Z (O8 (s_l8Apply_ok x3.number args5 [] x8 hx8) Z (i7 (s4 (Z)) (i7 (O0 Z (by simp) (cVal.rlR _ 0 _)) (i7 rd_nil o8))) (cR (e9 (K6 cVal x8.1 Z) (e9 (Z) j4))) Z (xn 6 Z (d6 (e7 [2, 10, 11] Z (gx 1 Z (j7 (s_l9Datum_ok x8.1 x9 hx9) Z ((e9 (wM cVal x8.1 Z) j4)) (cR (e9 (K6 cDat x9.1 Z) (e9 (Z) j4))) Z (xn 6 Z (d6 (qx 3 Z (K0 (g := 82) F Z (fun G F => ?_) (fun G F => ?_))))))))))))))
       ·obtain rfl := g8 F
        exact xn 3 Z (r7 Z (d6 (e7 [2] Z (j6 (sv Z (l0 K Z Z) Z (xn 2 Z (j8 (u5 (s7 Z (O4 (.cons Q3 (.cons (i8 _) .nil))))))))))))
       ·refine xn 3 Z (X3 F Z (fun G F => ?_) (fun G F => ?_))
        ·obtain rfl := g8 F
         exact d6 (e7 [2] Z (j6 (sv Z (l0 K Z Z) Z (xn 2 Z (j8 (u5 (s7 Z (O4 (.cons Q3 (.cons (i8 _) .nil))))))))))
        ·obtain rfl := g8 F
         exact f8 (d6 (e7 [2, 12] Z (gx 1 Z (sv Z (l0 K Z Z) Z (xn 2 Z (j8 (s7 Z (O4 (.cons (kL (.cons (i8 _) (.cons (i8 _) (.cons (O3 _ _) (.cons (i8 _) (.cons (i8 _) (.cons (i8 _) (.cons (i8 _) (.cons (O3 _ _) .nil))))))))) (.cons (i8 _) .nil))))))))))
def jZ (D0 : PD → Option PD) : Prop := ∀ (d : PD) (q : PD), D0 d = some q → FC Tryz.prog 113 [.agg (cDat.row 0 d)] [] 8 (fun x h2 => ∃ j, x = .agg [.int .i64 q.kind, .int .i64 q.number, .str q.text, .hsl j 0 q.items.length] ∧ hget h2 j = some ⟨4, q.items.map (cDat.enc 2)⟩)
theorem ai0 (D0 : PD → Option PD) (h_s_l1Copy : jZ D0) : jZ (iC D0) := by
 intro d q F
 unfold iC at F
 refine bdy Tryz.func113 Tryz.ntmps113 Z Z Z (qn 2 Z (qx 6 Z (sv Z (l0 K Z Z) Z (xn 2 Z (d6 (d6 (e7 [1, 2, 3] Z (gx 2 Z (sv Z (o5 cDat K Z Z Z) Z (xn 1 Z (i9 (u6 (fun x3 x4 => ⟨[(2, .ptr 9 1 0 0), (3, .ptr 10 1 0 0), (14, .psl 0 4 (d.items.map (cDat.enc 0))), (15, .int .i64 (d.items.length : Int)), (16, .int .i64 x3)], [(9, ⟨4, [[.int .i64 0, .int .i64 0, .str ([] : LB), .nilsl]]⟩), (10, ⟨4, [[.int .i64 d.kind, .int .i64 d.number, .str d.text, .hsl 14 0 x4.length]]⟩), (14, ⟨4, x4.map (cDat.enc 2)⟩)], 15, 29, []⟩) (pM D0 d) LF 0 [] F ((oZ 14 Z Z).trans ((A3 10 4 (k := 3) (pre := [.int .i64 d.kind, .int .i64 d.number, .str d.text]) (suf := []) Z Z Z).trans (f7 (e8 (f9 Z (f9 Z (m5 cDat Z (f9 Z (f9 Z j1))))) (A7 Z (A7 Z (l7 Z j2))) Z Z Z Z)))) ?_))))))))))))
 intro go5 x3 x4 F
 replace F : U8 D0 d go5 x3 x4 = some q := F
 unfold U8 at F
 refine qn 1 Z (d6 (l5 F Z (fun G F => ?_) (fun G F => ?_)))
 ·obtain ⟨x6, hn_x6, F⟩ := d7 F
  obtain ⟨x7, hx7, F⟩ := d7 F
  refine f8 (d6 (i9 (qr (sv Z (k9 cDat hn_x6 K Z Z Z Z) Z (xn 3 Z (iW (id := 5) 5 ⟨[(2, .ptr 9 1 0 0), (3, .ptr 10 1 0 0), (14, .psl 0 4 (d.items.map (cDat.enc 0))), (15, .int .i64 (d.items.length : Int)), (16, .int .i64 x3), (21, .hsl 14 0 x4.length), (24, .hsl 17 0 1)], [(9, ⟨4, [[.int .i64 0, .int .i64 0, .str ([] : LB), .nilsl]]⟩), (10, ⟨4, [[.int .i64 d.kind, .int .i64 d.number, .str d.text, .hsl 14 0 x4.length]]⟩), (14, ⟨4, x4.map (cDat.enc 2)⟩), (16, ⟨4, x7.items.map (cDat.enc 2)⟩), (17, ⟨4, [[.int .i64 x7.kind, .int .i64 x7.number, .str x7.text, .hsl 16 0 x7.items.length]]⟩)], 18, 29, []⟩ (by kernel_rfl) (by kernel_rfl) ?_ ?_))))))
  ·refine E6 [] Z ?_
   repeat' first | refine xn 1 Z ?_ | refine sG K Z Z Z Z Z Z Z (j9 ?_) | refine aE (h_s_l1Copy x6 x7 hx7) Z (i7 (s4 (p9 cDat x6 Z)) o8) (Cd.rlR cDat f01 2 _) Z (fun j => by simp [V.rnA, V.rnAL, V.rl, upJ, dn]) Z (j9 ?_) | refine j3 [0, 1, 2, 3] [4] (by kernel_rfl) Z (f6 Z ?_ j5) | refine j3 [0, 2, 3, 4] [1] (by kernel_rfl) Z (f6 Z ?_ j5) | refine j3 [0, 1, 2] [3] (by kernel_rfl) Z (f6 Z ?_ j5) | refine j3 [0, 2, 3] [1, 4] (by kernel_rfl) Z (f6 Z ?_ (f6 Z ?_ j5)) | refine j3 [0, 2] [1, 3] (by kernel_rfl) Z (f6 Z ?_ (f6 Z ?_ j5)) | refine j3 [0, 1] [2] (by kernel_rfl) Z (f6 Z ?_ j5) | refine j3 [0] [1, 2] (by kernel_rfl) Z (f6 Z ?_ (f6 Z ?_ j5)) | refine j3 [2, 3, 4] [0] (by kernel_rfl) Z (f6 Z ?_ j5) | refine j3 [2, 3] [0, 4] (by kernel_rfl) Z (f6 Z ?_ (f6 Z ?_ j5)) | refine j3 [2] [0, 3] (by kernel_rfl) Z (f6 Z ?_ (f6 Z ?_ j5)) | refine j3 [] [0, 2] (by kernel_rfl) Z (f6 Z ?_ (f6 Z ?_ j5)) | exact S9 (by kernel_rfl) (f7 (e8 (f9 Z (f9 Z (m5 cDat Z (f9 Z (f9 Z (f9 Z (f9 Z j1))))))) (A7 Z (A7 Z (l7 Z (l7 Z (A7 Z j2))))) Z Z Z Z))
  ·obtain ⟨H1, F⟩ := g7 F
   obtain ⟨H2, F⟩ := g7 F
   exact bL cDat (l := 2) (xs := x4) H1 Z K Z Z Z Z Z Z Z Z Z (l8 (D5 Z) (l8 (D5 Z) (l8 (D5 Z) (l8 (fG Z (by simp)) bC)))) Z (o6 (F7 14 16 x7.items.length x4.length [.int .i64 x7.kind, .int .i64 x7.number, .str x7.text] [] Z (t4 _ _) Z Z Z Z (t4 _ _) (Cd.dps0 cDat 2 (fun _ => Z) _) Z) (o6 (M5 14 (rows' := (x4 ++ ([x7] : List PD)).map (cDat.enc 2)) Z (oK cDat (l := 2) x4 x7) Z) (o6 (G9 (y := .hsl 14 0 (x4 ++ ([x7] : List PD)).length) 25 Z (R3 (congrArg (V.hsl 14 0) (by simp))) Z) (xq 1 Z (R2 (bB Z (by simp)) K Z Z Z Z Z Z Z Z Z (j9 (I2 (j6 (t7 K Z Z Z H2 Z (xn 1 Z (m0 ⟨((x3 + 1), (x4 ++ ([x7] : List PD))), F, (f7 (e8 (f9 Z (f9 Z (m5 cDat Z (f9 Z (f9 Z j1))))) (A7 Z (A7 Z (l7 Z j2))) Z Z Z Z))⟩)))))))))))
 ·obtain rfl := g8 F
  exact o7 (X2 (X1 (t8 (qx 1 Z (p7 K Z Z Z Z Z (l8 (D5 Z) (l8 (D5 Z) (l8 (D5 Z) (l8 (fG Z (by simp)) bC)))) Z Z Z (j9 (j8 (⟨_, Z, 14, Z, Z⟩))))))))
theorem uR (n : Nat) : jZ (D0 n) := by
 induction n with
 | zero => exact fun _ q h => by cases h
 | succ n ih => exact fun d q h => ai0 (D0 n) ih d q h
theorem s_l1Copy_ok (n : Nat) (d : PD) (q : PD) (F : D0 n d = some q) : FC Tryz.prog 113 [.agg (cDat.row 0 d)] [] 8 (fun x _ => x = .agg (cDat.row 1 q)) :=
 fc_fz1 (uR n d q F) (fzr cDat 2 q.items Z (fun _ => Z)) (fun _ => (.agg (.cons (.refl _) (.cons (.refl _) (.cons (.refl _) (.cons dz1 .nil))))))
def kB (z9 : PC → Option PC) : Prop := ∀ (c : PC) (q : PC), z9 c = some q → FC Tryz.prog 101 [.agg (cCore.row 0 c)] [] 8 (fun x h2 => ∃ j k l, x = .agg [.int .i64 q.kind, .int .i64 q.number, .hsl j 0 q.params.length, .int .i64 q.datum.kind, .int .i64 q.datum.number, .str q.datum.text, .hsl k 0 q.datum.items.length, .hsl l 0 q.kids.length] ∧ Go.Abs.distinct [j, k, l] = true ∧ hget h2 j = some ⟨1, q.params.map (cInt.enc 0)⟩ ∧ hget h2 k = some ⟨4, q.datum.items.map (cDat.enc 2)⟩ ∧ hget h2 l = some ⟨8, q.kids.map (cCore.enc 2)⟩)
theorem ai6 (z9 : PC → Option PC) (h_s_l5Copy : kB z9) : kB (iE z9) := by
 intro c q F
 unfold iE at F
 obtain ⟨x3, hx3, F⟩ := d7 F
 obtain ⟨x4, hx4, F⟩ := d7 F
 refine bdy Tryz.func101 Tryz.ntmps101 Z Z Z (qn 2 Z (d6 (bT (id := 1) 12 [0, 1, 2, 3, 4, 5, 6, 7, 8, 9] ⟨[(1, .ptr 8 1 0 0), (2, .ptr 9 1 0 0), (3, .ptr 12 1 0 0), (16, .agg [.int .i64 c.kind, .int .i64 c.number, .hsl 10 0 x3.length, .int .i64 x4.kind, .int .i64 x4.number, .str x4.text, .hsl 11 0 x4.items.length, .nilsl])], [(8, ⟨8, [cCore.row 0 c]⟩), (9, ⟨8, [A0]⟩), (10, ⟨1, x3.map (cInt.enc 0)⟩), (11, ⟨4, x4.items.map (cDat.enc 2)⟩), (12, ⟨8, [A0]⟩)], 13, 33, []⟩ (by kernel_rfl) (by kernel_rfl) ?_ ?_)))
 ·refine xx K Z (xx K Z (xx K Z (xx K Z (xx K Z (xx K Z (x_o1 (eJ c.params x3 hx3) Z (i7 (s4 (K7 cInt c.params Z)) o8) (Cd.rlR cInt f01 0 _) (fun n j => by simp [V.rnA, V.rnAL, V.rl, upJ, dn]) Z (xx K Z (xx K Z (x_o1 (uR RF c.datum x4 hx4) Z (i7 (s4 (p9 cDat c.datum Z)) o8) (Cd.rlR cDat f01 2 _) (fun n j => by simp [V.rnA, V.rnAL, V.rl, upJ, dn]) Z (cQ (x_alloc K Z Z Z Z Z (uE (⟨by kernel_rfl, lI (l' := [[], [11]]) (by kernel_rfl) (y9 ?_ (y9 ?_ fJ))⟩)))))))))))))
  refine A5 2 (by kernel_rfl) Z (E6 [0, 1, 2, 3, 4, 5, 6, 7, 8, 9] (by kernel_rfl) ?_)
  rotate_left
  refine A5 1 (by kernel_rfl) Z (E6 [0, 1, 2, 3, 4, 5, 6, 7, 8, 9, 11] (by kernel_rfl) ?_)
  rotate_left
  repeat' first | refine sv Z (lY K Z Z Z (.gen Z (.gen Z (.one Z (fG Z (by simp)) (.gen Z .nil)))) Z) Z (j9 ?_) | refine xn 1 Z ?_ | refine j3 [0, 1, 2, 3, 4, 5, 6, 7, 8, 9, 11] [10] (by kernel_rfl) Z (f6 Z ?_ j5) | refine j3 [0, 1, 2, 3, 4, 5, 6, 7, 8, 9, 10] [11] (by kernel_rfl) Z (f6 Z ?_ j5) | refine j3 [0, 1, 2, 3, 4, 5, 6, 7, 8, 9] [10, 11] (by kernel_rfl) Z (f6 Z ?_ (f6 Z ?_ j5)) | exact S9 (by kernel_rfl) (vG [(8, 8), (9, 9), (10, 10), (11, 11), (12, 12)] Z Z (q8 Z (J3 Z) (q8 Z (J3 Z) (q8 Z (J3 Z) (q8 Z (uQ (d9 Z (d9 Z (d9 (w8 Z) (d9 Z (d9 Z (d9 Z (d9 (w8 Z) (d9 Z l6))))))))) lB)))) (o3 Z Z Z (u4 (F8 _ (cCore.rl cut2 0 c))) (o3 Z Z Z (u4 (d9 Z (d9 Z (d9 Z (d9 Z (d9 Z (d9 Z (d9 Z (d9 Z l6))))))))) (o3 Z Z Z (Cd.rnR cInt _ x3 Z) (o3 Z Z Z (Cd.rnR cDat _ x4.items Z) (o3 Z Z Z (u4 (d9 Z (d9 Z (d9 Z (d9 Z (d9 Z (d9 Z (d9 Z (d9 Z l6))))))))) lC))))) Z Z)
 ·refine p7 K Z Z Z Z Z (l8 (D5 Z) (l8 (D5 Z) (l8 (fG Z (by simp)) (l8 (D5 Z) (l8 (D5 Z) (l8 (D5 Z) (l8 (fG Z (by simp)) (l8 (D5 Z) bC)))))))) Z Z Z (j9 (d6 (qx 2 Z (sv Z (o5 cCore K Z Z Z) Z (xn 1 Z (i9 (u6 (fun x5 x6 => ⟨[(2, .ptr 9 1 0 0), (3, .ptr 12 1 0 0), (18, .psl 0 8 (c.kids.map (cCore.enc 0))), (19, .int .i64 (c.kids.length : Int)), (20, .int .i64 x5)], [(9, ⟨8, [A0]⟩), (10, ⟨1, x3.map (cInt.enc 0)⟩), (11, ⟨4, x4.items.map (cDat.enc 2)⟩), (12, ⟨8, [[.int .i64 c.kind, .int .i64 c.number, .hsl 10 0 x3.length, .int .i64 x4.kind, .int .i64 x4.number, .str x4.text, .hsl 11 0 x4.items.length, .hsl 18 0 x6.length]]⟩), (18, ⟨8, x6.map (cCore.enc 2)⟩)], 19, 33, []⟩) (pS z9 c x3 x4) LF 0 [] F ((oZ 18 Z Z).trans ((A3 12 8 (k := 7) (pre := [.int .i64 c.kind, .int .i64 c.number, .hsl 10 0 x3.length, .int .i64 x4.kind, .int .i64 x4.number, .str x4.text, .hsl 11 0 x4.items.length]) (suf := []) Z Z Z).trans (f7 (e8 (f9 Z (f9 Z (m5 cCore Z (f9 Z (f9 Z j1))))) (A7 Z (l7 Z (l7 Z (A7 Z (l7 Z j2))))) Z Z Z Z)))) ?_)))))))
  intro go7 x5 x6 F
  replace F : V2 z9 c x3 x4 go7 x5 x6 = some q := F
  unfold V2 at F
  refine qn 1 Z (d6 (l5 F Z (fun G F => ?_) (fun G F => ?_)))
  ·obtain ⟨x8, hn_x8, F⟩ := d7 F
   obtain ⟨x9, hx9, F⟩ := d7 F
   refine f8 (d6 (i9 (qr (sv Z (k9 cCore hn_x8 K Z Z Z Z) Z (xn 3 Z (iW (id := 5) 5 ⟨[(2, .ptr 9 1 0 0), (3, .ptr 12 1 0 0), (18, .psl 0 8 (c.kids.map (cCore.enc 0))), (19, .int .i64 (c.kids.length : Int)), (20, .int .i64 x5), (25, .hsl 18 0 x6.length), (28, .hsl 23 0 1)], [(9, ⟨8, [A0]⟩), (10, ⟨1, x3.map (cInt.enc 0)⟩), (11, ⟨4, x4.items.map (cDat.enc 2)⟩), (12, ⟨8, [[.int .i64 c.kind, .int .i64 c.number, .hsl 10 0 x3.length, .int .i64 x4.kind, .int .i64 x4.number, .str x4.text, .hsl 11 0 x4.items.length, .hsl 18 0 x6.length]]⟩), (18, ⟨8, x6.map (cCore.enc 2)⟩), (20, ⟨1, x9.params.map (cInt.enc 0)⟩), (21, ⟨4, x9.datum.items.map (cDat.enc 2)⟩), (22, ⟨8, x9.kids.map (cCore.enc 2)⟩), (23, ⟨8, [[.int .i64 x9.kind, .int .i64 x9.number, .hsl 20 0 x9.params.length, .int .i64 x9.datum.kind, .int .i64 x9.datum.number, .str x9.datum.text, .hsl 21 0 x9.datum.items.length, .hsl 22 0 x9.kids.length]]⟩)], 24, 33, []⟩ (by kernel_rfl) (by kernel_rfl) ?_ ?_))))))
   ·refine E6 [] Z ?_
    repeat' first | refine xn 1 Z ?_ | refine sG K Z Z Z Z Z Z Z (j9 ?_) | refine L6 (h_s_l5Copy x8 x9 hx9) Z (i7 (s4 (p9 cCore x8 Z)) o8) (Cd.rlR cInt f01 0 _) (Cd.rlR cDat f01 2 _) (Cd.rlR cCore f01 2 _) Z (fun j k l hd => by simp [V.rnA, V.rnAL, V.rl, upJa, upJb hd, upJc hd]) Z (j9 ?_) | refine j3 [0, 1, 2, 3] [4] (by kernel_rfl) Z (f6 Z ?_ j5) | refine j3 [0, 2, 3, 4] [1] (by kernel_rfl) Z (f6 Z ?_ j5) | refine j3 [0, 1, 2] [3] (by kernel_rfl) Z (f6 Z ?_ j5) | refine j3 [0, 2, 3] [1, 4] (by kernel_rfl) Z (f6 Z ?_ (f6 Z ?_ j5)) | refine j3 [0, 2] [1, 3] (by kernel_rfl) Z (f6 Z ?_ (f6 Z ?_ j5)) | refine j3 [0, 1] [2] (by kernel_rfl) Z (f6 Z ?_ j5) | refine j3 [0] [1, 2] (by kernel_rfl) Z (f6 Z ?_ (f6 Z ?_ j5)) | refine j3 [2, 3, 4] [0] (by kernel_rfl) Z (f6 Z ?_ j5) | refine j3 [2, 3] [0, 4] (by kernel_rfl) Z (f6 Z ?_ (f6 Z ?_ j5)) | refine j3 [2] [0, 3] (by kernel_rfl) Z (f6 Z ?_ (f6 Z ?_ j5)) | refine j3 [] [0, 2] (by kernel_rfl) Z (f6 Z ?_ (f6 Z ?_ j5)) | exact S9 (by kernel_rfl) (f7 (e8 (f9 Z (f9 Z (m5 cCore Z (f9 Z (f9 Z (f9 Z (f9 Z j1))))))) (A7 Z (l7 Z (l7 Z (A7 Z (l7 Z (l7 Z (l7 Z (l7 Z (A7 Z j2))))))))) Z Z Z Z))
   ·obtain ⟨H1, F⟩ := g7 F
    obtain ⟨H2, F⟩ := g7 F
    exact bL cCore (l := 2) (xs := x6) H1 Z K Z Z Z Z Z Z Z Z Z (t6 Z (by simp) Z (by simp) Z (by simp)) Z (o6 (F7 18 20 x9.params.length x6.length [.int .i64 x9.kind, .int .i64 x9.number] [.int .i64 x9.datum.kind, .int .i64 x9.datum.number, .str x9.datum.text, .hsl 21 0 x9.datum.items.length, .hsl 22 0 x9.kids.length] Z (t4 _ _) Z Z Z Z (t4 _ _) (Cd.dps0 cInt 0 (fun _ => Z) _) Z) (o6 (F7 18 21 x9.datum.items.length x6.length [.int .i64 x9.kind, .int .i64 x9.number, .psl 2 1 (x9.params.map (cInt.enc 2)), .int .i64 x9.datum.kind, .int .i64 x9.datum.number, .str x9.datum.text] [.hsl 22 0 x9.kids.length] Z (t4 _ _) Z Z Z Z (t4 _ _) (Cd.dps0 cDat 2 (fun _ => Z) _) Z) (o6 (F7 18 22 x9.kids.length x6.length [.int .i64 x9.kind, .int .i64 x9.number, .psl 2 1 (x9.params.map (cInt.enc 2)), .int .i64 x9.datum.kind, .int .i64 x9.datum.number, .str x9.datum.text, .psl 2 4 (x9.datum.items.map (cDat.enc 2))] [] Z (t4 _ _) Z Z Z Z (t4 _ _) (Cd.dps0 cCore 2 (fun _ => Z) _) Z) (o6 (M5 18 (rows' := (x6 ++ ([x9] : List PC)).map (cCore.enc 2)) Z (oK cCore (l := 2) x6 x9) Z) (o6 (G9 (y := .hsl 18 0 (x6 ++ ([x9] : List PC)).length) 29 Z (R3 (congrArg (V.hsl 18 0) (by simp))) Z) (xq 1 Z (R2 (bB Z (by simp)) K Z Z Z Z Z Z Z Z Z (j9 (I2 (j6 (t7 K Z Z Z H2 Z (xn 1 Z (m0 ⟨((x5 + 1), (x6 ++ ([x9] : List PC))), F, (f7 (e8 (f9 Z (f9 Z (m5 cCore Z (f9 Z (f9 Z j1))))) (A7 Z (l7 Z (l7 Z (A7 Z (l7 Z j2))))) Z Z Z Z))⟩)))))))))))))
  ·obtain rfl := g8 F
   exact o7 (X2 (X1 (t8 (qx 1 Z (p7 K Z Z Z Z Z (t6 Z (by simp) Z (by simp) Z (by simp)) Z Z Z (j9 (j8 (⟨_, Z, 10, 11, 18, Z, Z, Z, Z, Z⟩))))))))
theorem mS (n : Nat) : kB (z9 n) := by
 induction n with
 | zero => exact fun _ q h => by cases h
 | succ n ih => exact fun c q h => ai6 (z9 n) ih c q h
theorem eN (n : Nat) (c : PC) (q : PC) (F : z9 n c = some q) : FC Tryz.prog 101 [.agg (cCore.row 0 c)] [] 8 (fun x _ => x = .agg (cCore.row 1 q)) :=
 fc_fz3 (mS n c q F) (fzr cInt 0 q.params Z (fun _ => Z)) (fzr cDat 2 q.datum.items Z (fun _ => Z)) (fzr cCore 2 q.kids Z (fun _ => Z)) (fun _ _ _ => (.agg (.cons (.refl _) (.cons (.refl _) (.cons dz1 (.cons (.refl _) (.cons (.refl _) (.cons (.refl _) (.cons dz2 (.cons dz3 .nil))))))))))
theorem aj2 (c : PC) (boxed : LI) (q : Bool) (F : dC c boxed = some q) : FC Tryz.prog 151 [.agg (cCore.row 0 c), .psl 0 1 (boxed.map (cInt.enc 0))] [] 8 (fun x _ => x = .bool q) := by
 unfold dC at F
 obtain ⟨x3, hx3, F⟩ := d7 F
 refine FC.of_le (bdy Tryz.func151 Tryz.ntmps151 Z Z Z (qn 2 Z (qx 1 Z (j7 (pY c x3 hx3) Z ((e9 (p9 cCore c Z) j4)) Z Z (xq 1 Z (Y9 (g := 7) F Z (fun G F => ?_) (fun G F => ?_)))))))
 ·obtain rfl := g8 F
  exact xn 17 Z (u0 Z)
 ·refine xq 5 Z (n9 (g := 12) F Z (fun G F => ?_) (fun G F => ?_))
  ·obtain rfl := g8 F
   exact xn 12 Z (u0 Z)
  ·refine xq 4 Z (n9 (g := 16) F Z (fun G F => ?_) (fun G F => ?_))
   ·obtain ⟨x4, hx4, F⟩ := d7 F
    obtain rfl := g8 F
    exact xq 3 Z (j7 (F5 boxed c.number x4 hx4) Z ((e9 (K7 cInt boxed Z) (e9 (Z) j4))) Z Z (xn 4 Z (u0 Z)))
   ·obtain rfl := g8 F
    exact xn 8 Z (u0 Z)
def Z6 (m6 : PC → Int → PC → Option PC) : Prop := ∀ (c : PC) (x_1 : Int) (x_2 : PC) (q : PC), m6 c x_1 x_2 = some q → FC Tryz.prog 152 [.agg (cCore.row 0 c), .int .i64 x_1, .agg (cCore.row 0 x_2)] [] 8 (fun x h2 => ∃ j k l, x = .agg [.int .i64 q.kind, .int .i64 q.number, .hsl j 0 q.params.length, .int .i64 q.datum.kind, .int .i64 q.datum.number, .str q.datum.text, .hsl k 0 q.datum.items.length, .hsl l 0 q.kids.length] ∧ Go.Abs.distinct [j, k, l] = true ∧ hget h2 j = some ⟨1, q.params.map (cInt.enc 0)⟩ ∧ hget h2 k = some ⟨4, q.datum.items.map (cDat.enc 2)⟩ ∧ hget h2 l = some ⟨8, q.kids.map (cCore.enc 2)⟩)
theorem qD (m6 : PC → Int → PC → Option PC) (h_s_l9Substitute : Z6 m6) : Z6 (R1 m6) := by
 intro c x_1 x_2 q F
 unfold R1 at F
 refine bdy Tryz.func152 Tryz.ntmps152 Z Z Z (qn 3 Z (d6 (d6 (v5 (fun (x5 : Bool) => ⟨[(1, .int .i64 x_1), (3, .ptr 8 1 0 0), (5, .ptr 9 1 0 0), (6, .ptr 10 1 0 0), (17, .bool x5)], [(8, ⟨8, [cCore.row 0 c]⟩), (9, ⟨8, [cCore.row 0 x_2]⟩), (10, ⟨8, [A0]⟩)], 11, 42, []⟩) (fun x5 => J6 m6 c x_1 x_2 x5 = some q) ?_ ?_))))
 ·refine gx 4 Z (n9 (g := 12) F Z (fun G F => ?_) (fun G F => ?_))
  ·exact xn 5 Z (l4 ⟨(decide (c.number = x_1)), F, (f7 (e8 (f9 Z (f9 Z (f9 Z (f9 Z (f9 Z j1))))) (z8 cCore Z (z8 cCore Z (A7 Z j2))) Z Z Z Z))⟩)
  ·exact xn 5 Z (l4 ⟨false, F, (f7 (e8 (f9 Z (f9 Z (f9 Z (f9 Z (f9 Z j1))))) (z8 cCore Z (z8 cCore Z (A7 Z j2))) Z Z Z Z))⟩)
 ·intro x5 F
  replace F : J6 m6 c x_1 x_2 x5 = some q := F
  unfold J6 at F
  refine lN F Z (fun G F => ?_) (fun G F => ?_)
  ·obtain ⟨x6, hx6, F⟩ := d7 F
   obtain rfl := g8 F
   exact qx 1 Z (L6 (mS RF x_2 x6 hx6) Z (i7 (s4 (p9 cCore x_2 Z)) o8) (Cd.rlR cInt f01 0 _) (Cd.rlR cDat f01 2 _) (Cd.rlR cCore f01 2 _) Z (fun j k l hd => by simp [V.rnA, V.rnAL, V.rl, upJa, upJb hd, upJc hd]) Z (p7 K Z Z Z Z Z (t6 Z (by simp) Z (by simp) Z (by simp)) Z Z Z (j9 (j8 (u5 (⟨_, Z, 11, 12, 13, Z, Z, Z, Z, Z⟩))))))
  ·obtain ⟨x6, hx6, F⟩ := d7 F
   refine f8 (qx 1 Z (L6 (mS RF c x6 hx6) Z (i7 (s4 (p9 cCore c Z)) o8) (Cd.rlR cInt f01 0 _) (Cd.rlR cDat f01 2 _) (Cd.rlR cCore f01 2 _) Z (fun j k l hd => by simp [V.rnA, V.rnAL, V.rl, upJa, upJb hd, upJc hd]) Z (xq 1 Z (p7 K Z Z Z Z Z (t6 Z (by simp) Z (by simp) Z (by simp)) Z Z Z (j9 (d6 (qx 2 Z (sv Z (eB cCore K Z Z Z) Z (xn 1 Z (i9 (u6 (fun x7 x8 => ⟨[(1, .int .i64 x_1), (3, .ptr 8 1 0 0), (5, .ptr 9 1 0 0), (6, .ptr 10 1 0 0), (7, .ptr 14 1 0 0), (24, .int .i64 (x6.kids.length : Int)), (25, .int .i64 x7)], [(8, ⟨8, [cCore.row 0 c]⟩), (9, ⟨8, [cCore.row 0 x_2]⟩), (10, ⟨8, [A0]⟩), (11, ⟨1, x6.params.map (cInt.enc 0)⟩), (12, ⟨4, x6.datum.items.map (cDat.enc 2)⟩), (13, ⟨8, x8.map (cCore.enc 2)⟩), (14, ⟨8, [[.int .i64 x6.kind, .int .i64 x6.number, .hsl 11 0 x6.params.length, .int .i64 x6.datum.kind, .int .i64 x6.datum.number, .str x6.datum.text, .hsl 12 0 x6.datum.items.length, .hsl 13 0 x8.length]]⟩)], 15, 42, []⟩) (W8 m6 c x_1 x_2 x6) LF 0 x6.kids F (f7 (e8 (f9 Z (f9 Z (f9 Z (f9 Z (f9 Z (f9 Z (f9 Z j1))))))) (z8 cCore Z (z8 cCore Z (A7 Z (l7 Z (l7 Z (l7 Z (A7 Z j2))))))) Z Z Z Z)) ?_)))))))))))
   intro go9 x7 x8 F
   replace F : D8 m6 c x_1 x_2 x6 go9 x7 x8 = some q := F
   unfold D8 at F
   refine qn 1 Z (d6 (l5 F Z (fun G F => ?_) (fun G F => ?_)))
   ·obtain ⟨x10, hn_x10, F⟩ := d7 F
    obtain ⟨x11, hx11, F⟩ := d7 F
    refine f8 (d6 (i9 (qn 2 Z (bT (id := 7) 11 [0, 1, 2, 3, 4, 5, 6, 7, 8, 9, 10] ⟨[(1, .int .i64 x_1), (3, .ptr 8 1 0 0), (5, .ptr 9 1 0 0), (6, .ptr 10 1 0 0), (7, .ptr 14 1 0 0), (24, .int .i64 (x6.kids.length : Int)), (25, .int .i64 x7), (29, .hsl 13 0 x8.length), (30, .int .i64 x7), (38, .agg [.int .i64 x11.kind, .int .i64 x11.number, .hsl 15 0 x11.params.length, .int .i64 x11.datum.kind, .int .i64 x11.datum.number, .str x11.datum.text, .hsl 16 0 x11.datum.items.length, .hsl 17 0 x11.kids.length])], [(8, ⟨8, [cCore.row 0 c]⟩), (9, ⟨8, [cCore.row 0 x_2]⟩), (10, ⟨8, [A0]⟩), (11, ⟨1, x6.params.map (cInt.enc 0)⟩), (12, ⟨4, x6.datum.items.map (cDat.enc 2)⟩), (13, ⟨8, x8.map (cCore.enc 2)⟩), (14, ⟨8, [[.int .i64 x6.kind, .int .i64 x6.number, .hsl 11 0 x6.params.length, .int .i64 x6.datum.kind, .int .i64 x6.datum.number, .str x6.datum.text, .hsl 12 0 x6.datum.items.length, .hsl 13 0 x8.length]]⟩), (15, ⟨1, x11.params.map (cInt.enc 0)⟩), (16, ⟨4, x11.datum.items.map (cDat.enc 2)⟩), (17, ⟨8, x11.kids.map (cCore.enc 2)⟩)], 18, 42, []⟩ (by kernel_rfl) (by kernel_rfl) ?_ ?_))))
    ·refine xx K Z (xx K Z (xx K Z (xx K Z (xx K Z (xx K Z (xv Z (k9 cCore hn_x10 K Z Z Z Z) Z (xx K Z (xx K Z (xx K Z (x_o3 (h_s_l9Substitute x10 x_1 x_2 x11 hx11) Z (i7 (s4 (p9 cCore x10 Z)) (i7 (s4 (Z)) (i7 (s4 (p9 cCore x_2 Z)) o8))) (Cd.rlR cInt f01 0 _) (Cd.rlR cDat f01 2 _) (Cd.rlR cCore f01 2 _) (fun n j k l hd => by simp [V.rnA, V.rnAL, V.rl, upJa, upJb hd, upJc hd]) Z (uE (⟨by kernel_rfl, lI (l' := [[]]) (by kernel_rfl) (y9 ?_ fJ)⟩))))))))))))
     refine A5 0 (by kernel_rfl) Z (E6 [0, 1, 2, 3, 4, 5, 6, 7, 8, 9, 10] (by kernel_rfl) ?_)
     rotate_left
     repeat' first | exact S9 (by kernel_rfl) (vG [(8, 8), (9, 9), (10, 10), (11, 11), (12, 12), (13, 13), (14, 14), (15, 15), (16, 16), (17, 17)] Z Z (q8 Z Z (q8 Z (J3 Z) (q8 Z (J3 Z) (q8 Z (J3 Z) (q8 Z (J3 Z) (q8 Z Z (q8 Z Z (q8 Z (w8 Z) (q8 Z Z (q8 Z (uQ (d9 Z (d9 Z (d9 (w8 Z) (d9 Z (d9 Z (d9 Z (d9 (w8 Z) (d9 (w8 Z) l6))))))))) lB)))))))))) (o3 Z Z Z (u4 (F8 _ (cCore.rl cut2 0 c))) (o3 Z Z Z (u4 (F8 _ (cCore.rl cut2 0 x_2))) (o3 Z Z Z (u4 (d9 Z (d9 Z (d9 Z (d9 Z (d9 Z (d9 Z (d9 Z (d9 Z l6))))))))) (o3 Z Z Z (Cd.rnR cInt _ x6.params Z) (o3 Z Z Z (Cd.rnR cDat _ x6.datum.items Z) (o3 Z Z Z (Cd.rnR cCore _ x8 Z) (o3 Z Z Z (u4 (d9 Z (d9 Z (d9 (w8 Z) (d9 Z (d9 Z (d9 Z (d9 (w8 Z) (d9 (w8 Z) l6))))))))) (o3 Z Z Z (Cd.rnR cInt _ x11.params Z) (o3 Z Z Z (Cd.rnR cDat _ x11.datum.items Z) (o3 Z Z Z (Cd.rnR cCore _ x11.kids Z) lC)))))))))) Z Z)
    ·obtain ⟨x12, hn_x12, F⟩ := d7 F
     obtain ⟨H1, F⟩ := g7 F
     exact sv Z (G3 cCore hn_x12 K Z Z Z Z) Z (tZ cCore (l := 2) hn_x12 K Z Z Z Z Z (t6 Z (by simp) Z (by simp) Z (by simp)) Z Z Z (o6 (Q8 13 15 x7.toNat x11.params.length [.int .i64 x11.kind, .int .i64 x11.number] [.int .i64 x11.datum.kind, .int .i64 x11.datum.number, .str x11.datum.text, .hsl 16 0 x11.datum.items.length, .hsl 17 0 x11.kids.length] Z Z Z Z Z (t4 _ _) (cCore.atx _ hn_x12) (Cd.dps0 cInt 0 (fun _ => Z) _) Z Z) (o6 (M5 13 Z (W9 _ _ _ _) Z) (o6 (Q8 13 16 x7.toNat x11.datum.items.length [.int .i64 x11.kind, .int .i64 x11.number, .psl 2 1 (x11.params.map (cInt.enc 2)), .int .i64 x11.datum.kind, .int .i64 x11.datum.number, .str x11.datum.text] [.hsl 17 0 x11.kids.length] Z Z Z Z Z (t4 _ _) (cCore.atx _ hn_x12) (Cd.dps0 cDat 2 (fun _ => Z) _) Z Z) (o6 (M5 13 Z (W9 _ _ _ _) Z) (o6 (Q8 13 17 x7.toNat x11.kids.length [.int .i64 x11.kind, .int .i64 x11.number, .psl 2 1 (x11.params.map (cInt.enc 2)), .int .i64 x11.datum.kind, .int .i64 x11.datum.number, .str x11.datum.text, .psl 2 4 (x11.datum.items.map (cDat.enc 2))] [] Z Z Z Z Z (t4 _ _) (cCore.atx _ hn_x12) (Cd.dps0 cCore 2 (fun _ => Z) _) Z Z) (o6 (M5 13 (rows' := (x8.set x7.toNat x11).map (cCore.enc 2)) Z ((W9 _ _ _ _).trans (cCore.setx x8 x7.toNat x11)) Z) (o6 (M5 14 (rows' := [[.int .i64 x6.kind, .int .i64 x6.number, .hsl 11 0 x6.params.length, .int .i64 x6.datum.kind, .int .i64 x6.datum.number, .str x6.datum.text, .hsl 12 0 x6.datum.items.length, .hsl 13 0 (x8.set x7.toNat x11).length]]) Z (by simp only [List.length_set]) Z) (j9 (I2 (j6 (t7 K Z Z Z H1 Z (xn 1 Z (m0 ⟨((x7 + 1), (x8.set x7.toNat x11)), F, (f7 (e8 (f9 Z (f9 Z (f9 Z (f9 Z (f9 Z (f9 Z (f9 Z j1))))))) (z8 cCore Z (z8 cCore Z (A7 Z (l7 Z (l7 Z (l7 Z (A7 Z j2))))))) Z Z Z Z))⟩))))))))))))))
   ·obtain rfl := g8 F
    exact o7 (X2 (X1 (t8 (qx 1 Z (p7 K Z Z Z Z Z (t6 Z (by simp) Z (by simp) Z (by simp)) Z Z Z (j9 (j8 (⟨_, Z, 11, 12, 13, Z, Z, Z, Z, Z⟩))))))))
theorem sF (n : Nat) : Z6 (m6 n) := by
 induction n with
 | zero => exact fun _ _ _ q h => by cases h
 | succ n ih => exact fun c x_1 x_2 q h => qD (m6 n) ih c x_1 x_2 q h
theorem tY (n : Nat) (c : PC) (x_1 : Int) (x_2 : PC) (q : PC) (F : m6 n c x_1 x_2 = some q) : FC Tryz.prog 152 [.agg (cCore.row 0 c), .int .i64 x_1, .agg (cCore.row 0 x_2)] [] 8 (fun x _ => x = .agg (cCore.row 1 q)) :=
 fc_fz3 (sF n c x_1 x_2 q F) (fzr cInt 0 q.params Z (fun _ => Z)) (fzr cDat 2 q.datum.items Z (fun _ => Z)) (fzr cCore 2 q.kids Z (fun _ => Z)) (fun _ _ _ => (.agg (.cons (.refl _) (.cons (.refl _) (.cons dz1 (.cons (.refl _) (.cons (.refl _) (.cons (.refl _) (.cons dz2 (.cons dz3 .nil))))))))))
theorem s_l9Beta_ok (c : PC) (boxed : LI) (q : PC × Bool) (F : kG c boxed = some q) : FC Tryz.prog 97 [.agg (cCore.row 0 c), .psl 0 1 (boxed.map (cInt.enc 0))] [] 8 (fun x _ => x = .tup [.agg (cCore.row 1 q.1), .bool q.2]) := by
 unfold kG at F
 refine FC.of_le (bdy Tryz.func97 Tryz.ntmps97 Z Z Z (qn 3 Z (d6 (d6 (B9 (id := 1) 22 (by kernel_rfl) (by kernel_rfl) (nx K Z (nx K Z (nx K Z (nx K Z (dn_ifn (g := 15) F Z (fun G F => ?_) (fun G F => ?_)))))))))))
 ·obtain rfl := g8 F
  exact nx K Z (nx K Z (nx K Z (nx K Z (nx K Z (nx K Z (nx K Z (nx K Z (nx K Z (nx K Z (nx K Z (nx K Z (nx K Z (nx K Z (nx K Z (nx K Z (nx K Z (nx K Z (I3 Z (xn 2 Z (r7 Z (d6 (e7 [4] Z (j6 (sv Z (l0 K Z Z) Z (xn 2 Z (j8 (u5 (s7 Z (O4 (.cons Q3 (.cons (i8 _) .nil)))))))))))))))))))))))))))))))
 ·obtain ⟨x3, hn_x3, F⟩ := d7 F
  refine nx K Z (nx K Z (nv Z (k9 cCore hn_x3 K Z Z Z Z) Z (nx K Z (nx K Z (nx K Z (nx K Z (nx K Z (dn_ifn (g := 23) F Z (fun G F => ?_) (fun G F => ?_)))))))))
  ·obtain rfl := g8 F
   exact nx K Z (nx K Z (nx K Z (nx K Z (nx K Z (nx K Z (nx K Z (nx K Z (nx K Z (nx K Z (I3 Z (xn 2 Z (r7 Z (d6 (e7 [4] Z (j6 (sv Z (l0 K Z Z) Z (xn 2 Z (j8 (u5 (s7 Z (O4 (.cons Q3 (.cons (i8 _) .nil)))))))))))))))))))))))
  ·obtain ⟨x4, hn_x4, F⟩ := d7 F
   obtain ⟨H1, F⟩ := g7 F
   refine nx K Z (nx K Z (nv Z (k9 cCore hn_x4 K Z Z Z Z) Z (nx K Z (nx K Z (nv Z (o5 cInt K Z Z Z) Z (nx K Z (nx K Z (nv Z (o5 cCore K Z Z Z) Z (nv Z (ov_sub K Z Z H1) Z (I3 Z (xn 2 Z (E7 F Z (fun G F => ?_) (fun G F => ?_)))))))))))))
   ·obtain rfl := g8 F
    exact d6 (e7 [4] Z (j6 (sv Z (l0 K Z Z) Z (xn 2 Z (j8 (u5 (s7 Z (O4 (.cons Q3 (.cons (i8 _) .nil))))))))))
   ·obtain ⟨x5, hn_x5, F⟩ := d7 F
    refine f8 (d6 (e7 [1, 2, 4] Z (gx 2 Z (sv Z (k9 cCore hn_x5 K Z Z Z Z) Z (xn 3 Z (d6 (qx 2 Z (sv Z (o5 cInt K Z Z Z) Z (xn 1 Z (i9 (K4 (fun x6 => ⟨[(1, .psl 0 1 (boxed.map (cInt.enc 0))), (2, .ptr 8 1 0 0), (4, .ptr 9 1 0 0), (6, .ptr 10 1 0 0), (42, .psl 0 1 (x5.params.map (cInt.enc 0))), (43, .int .i64 (x5.params.length : Int)), (44, .int .i64 x6)], [(8, ⟨8, [cCore.row 0 c]⟩), (9, ⟨8, [A0]⟩), (10, ⟨8, [cCore.row 0 x5]⟩)], 11, 89, []⟩) (pZ c boxed x5) LF 0 F (f7 (e8 (m5 cInt Z (f9 Z (f9 Z (f9 Z (m5 cInt Z (f9 Z (f9 Z j1))))))) (z8 cCore Z (A7 Z (z8 cCore Z j2))) Z Z Z Z)) ?_)))))))))))
    intro go7 x6 F
    replace F : nA c boxed x5 go7 x6 = some q := F
    unfold nA at F
    refine qn 1 Z (d6 (l5 F Z (fun G F => ?_) (fun G F => ?_)))
    ·obtain ⟨x8, hn_x8, F⟩ := d7 F
     obtain ⟨x9, hx9, F⟩ := d7 F
     refine f8 (d6 (i9 (qx 1 Z (sv Z (k9 cInt hn_x8 K Z Z Z Z) Z (xn 3 Z (qx 2 Z (j7 (F5 boxed x8 x9 hx9) Z ((e9 (K7 cInt boxed Z) (e9 (Z) j4))) Z Z (xq 1 Z (Y9 (g := 52) F Z (fun G F => ?_) (fun G F => ?_))))))))))
     ·obtain rfl := g8 F
      exact xn 10 Z (r7 Z (d6 (e7 [4] Z (j6 (sv Z (l0 K Z Z) Z (xn 2 Z (j8 (A2 (u5 (cP (A2 (u5 (s7 Z (O4 (.cons Q3 (.cons (i8 _) .nil))))))))))))))))
     ·obtain ⟨H1, F⟩ := g7 F
      obtain ⟨x10, hn_x10, F⟩ := d7 F
      obtain ⟨x11, hx11, F⟩ := d7 F
      refine xq 3 Z (t7 K Z Z Z H1 Z (sv Z (k9 cCore hn_x10 K Z Z Z Z) Z (xq 2 Z (j7 (aj2 x10 boxed x11 hx11) Z ((e9 (p9 cCore x10 Z) (e9 (K7 cInt boxed Z) j4))) Z Z (xn 2 Z (X3 F Z (fun G F => ?_) (fun G F => ?_)))))))
      ·obtain rfl := g8 F
       exact d6 (e7 [4] Z (j6 (sv Z (l0 K Z Z) Z (xn 2 Z (j8 (A2 (u5 (cP (A2 (u5 (s7 Z (O4 (.cons Q3 (.cons (i8 _) .nil))))))))))))))
      ·obtain ⟨H1, F⟩ := g7 F
       exact f8 (I2 (e7 [1, 2, 4, 6, 42, 43, 44, 53, 54, 55, 56, 57, 58, 59, 60, 61] Z (j6 (t7 K Z Z Z H1 Z (xn 1 Z (m0 ⟨(x6 + 1), F, (f7 (e8 (m5 cInt Z (f9 Z (f9 Z (f9 Z (m5 cInt Z (f9 Z (f9 Z j1))))))) (z8 cCore Z (A7 Z (z8 cCore Z j2))) Z Z Z Z))⟩))))))
    ·obtain ⟨x8, hn_x8, F⟩ := d7 F
     obtain ⟨x9, hx9, F⟩ := d7 F
     refine o7 (X2 (X1 (t8 (qx 2 Z (sv Z (k9 cCore hn_x8 K Z Z Z Z) Z (xq 1 Z (j7 (eN RF x8 x9 hx9) Z ((e9 (p9 cCore x8 Z) j4)) (K6 cCore x9 Z) Z (xn 2 Z (d6 (d6 (e7 [2, 4, 6, 9] Z (gx 2 Z (sv Z (o5 cInt K Z Z Z) Z (xn 1 Z (i9 (u6 (fun x10 body11 => ⟨[(2, .ptr 8 1 0 0), (4, .ptr 9 1 0 0), (9, .ptr 11 1 0 0), (71, .psl 0 1 (x5.params.map (cInt.enc 0))), (72, .int .i64 (x5.params.length : Int)), (73, .int .i64 x10)], [(8, ⟨8, [cCore.row 0 c]⟩), (9, ⟨8, [A0]⟩), (11, ⟨8, [cCore.row 1 body11]⟩)], 12, 89, []⟩) (kI c x5) LF 0 x9 F (f7 (e8 (f9 Z (f9 Z (f9 Z (m5 cInt Z (f9 Z (f9 Z j1)))))) (z8 cCore Z (A7 Z (z8 cCore Z j2))) Z Z Z Z)) ?_))))))))))))))))
     intro go12 x10 body11 F
     replace F : V8 c x5 go12 x10 body11 = some q := F
     unfold V8 at F
     refine qn 1 Z (d6 (l5 F Z (fun G F => ?_) (fun G F => ?_)))
     ·obtain ⟨x13, hn_x13, F⟩ := d7 F
      obtain ⟨H1, F⟩ := g7 F
      obtain ⟨x14, hn_x14, F⟩ := d7 F
      obtain ⟨x15, hx15, F⟩ := d7 F
      obtain ⟨H2, F⟩ := g7 F
      exact f8 (d6 (i9 (qx 1 Z (sv Z (k9 cInt hn_x13 K Z Z Z Z) Z (xn 3 Z (B9 (id := 14) 8 (by kernel_rfl) (by kernel_rfl) (nx K Z (nx K Z (nx K Z (nx K Z (nx K Z (nv Z (ov_add K Z Z H1) Z (nv Z (k9 cCore hn_x14 K Z Z Z Z) Z (nx K Z (I3 Z (j7 (tY RF body11 x13 x14 x15 hx15) Z ((e9 (wM cCore body11 Z) (e9 (Z) (e9 (p9 cCore x14 Z) j4)))) (K6 cCore x15 Z) Z (xn 1 Z (I2 (e7 [2, 4, 9, 71, 72, 73] Z (j6 (t7 K Z Z Z H2 Z (xn 1 Z (m0 ⟨((x10 + 1), x15), F, (f7 (e8 (f9 Z (f9 Z (f9 Z (m5 cInt Z (f9 Z (f9 Z j1)))))) (z8 cCore Z (A7 Z (z8 cCore Z j2))) Z Z Z Z))⟩)))))))))))))))))))))))
     ·obtain rfl := g8 F
      exact o7 (X2 (X1 (t8 (qn 3 Z (u0 Z)))))
theorem zE (list : List PC) (q : PC) (F : kC list = some q) : FC Tryz.prog 114 [.psl 1 8 (list.map (cCore.enc 1))] [] 8 (fun x _ => x = .agg (cCore.row 1 q)) := by
 unfold kC at F
 refine FC.of_le (bdy Tryz.func114 Tryz.ntmps114 Z Z Z (qn 1 Z (qr (J1 cCore (l := 1) ([] : List PC) K Z Z Z Z Z Z Z (xn 1 Z (d6 (qx 1 Z (sv Z (o5 cCore K Z Z Z) Z (xn 1 Z (i9 (u6 (fun x2 out3 => ⟨[(2, .ptr 8 1 0 0), (3, .hsl 9 0 out3.length), (7, .psl 1 8 (list.map (cCore.enc 1))), (8, .int .i64 (list.length : Int)), (9, .int .i64 x2)], [(8, ⟨8, [A0]⟩), (9, ⟨8, out3.map (cCore.enc 1)⟩)], 10, 33, []⟩) (pT list) LF 0 ([] : List PC) F (f7 (e8 (f9 Z (f9 Z (m5 cCore Z (f9 Z (f9 Z j1))))) (A7 Z (l7 Z j2)) Z Z Z Z)) ?_)))))))))))
 intro go4 x2 out3 F
 replace F : V4 list go4 x2 out3 = some q := F
 unfold V4 at F
 refine qn 1 Z (d6 (l5 F Z (fun G F => ?_) (fun G F => ?_)))
 ·refine f8 (d6 (v5 (fun (out5 : List PC) => ⟨[(2, .ptr 8 1 0 0), (3, .hsl 9 0 out5.length), (7, .psl 1 8 (list.map (cCore.enc 1))), (8, .int .i64 (list.length : Int)), (9, .int .i64 x2)], [(8, ⟨8, [A0]⟩), (9, ⟨8, out5.map (cCore.enc 1)⟩)], 10, 33, []⟩) (fun out5 => bG x2 go4 out5 = some q) ?_ ?_))
  ·obtain ⟨x5, hn_x5, F⟩ := d7 F
   refine i9 (qr (sv Z (k9 cCore hn_x5 K Z Z Z Z) Z (xn 3 Z (qn 3 Z (l5 F Z (fun G F => ?_) (fun G F => ?_))))))
   ·obtain ⟨H1, F⟩ := g7 F
    exact gx 3 Z (B7 cCore (l := 1) (xs := out3) (ys := x5.kids) H1 Z K Z Z Z Z Z Z Z (cW cCore (l := 1) Z Z Z) Z (xn 1 Z (I2 (l4 ⟨(out3 ++ x5.kids), F, (f7 (e8 (f9 Z (f9 Z (m5 cCore Z (f9 Z (f9 Z j1))))) (A7 Z (l7 Z j2)) Z Z Z Z))⟩))))
   ·obtain ⟨H1, F⟩ := g7 F
    exact gx 2 Z (J1 cCore (l := 1) ([x5] : List PC) K Z Z Z Z Z Z Z (B7 cCore (l := 1) (xs := out3) (ys := ([x5] : List PC)) H1 Z K Z Z Z Z Z Z Z (S7 cCore Z Z Z) Z (xn 1 Z (I2 (l4 ⟨(out3 ++ ([x5] : List PC)), F, (f7 (e8 (f9 Z (f9 Z (m5 cCore Z (f9 Z (f9 Z j1))))) (A7 Z (l7 Z j2)) Z Z Z Z))⟩)))))
  ·intro out5 F
   replace F : bG x2 go4 out5 = some q := F
   unfold bG at F
   obtain ⟨H1, F⟩ := g7 F
   exact j6 (t7 K Z Z Z H1 Z (xn 1 Z (m0 ⟨((x2 + 1), out5), F, (f7 (e8 (f9 Z (f9 Z (m5 cCore Z (f9 Z (f9 Z j1))))) (A7 Z (l7 Z j2)) Z Z Z Z))⟩)))
 ·refine o7 (X2 (X1 (t8 (d6 (qx 1 Z (sv Z (eB cCore K Z Z Z) Z (xn 1 Z (l5 F Z (fun G F => ?_) (fun G F => ?_)))))))))
  ·obtain ⟨x5, hn_x5, F⟩ := d7 F
   obtain rfl := g8 F
   exact d6 (e7 [2, 3] Z (gx 1 Z (sv Z (G3 cCore hn_x5 K Z Z Z Z) Z (sv Z (oc_load cCore hn_x5 K Z Z Z Z) Z (xn 1 Z (u1 Z))))))
  ·obtain rfl := g8 F
   exact f8 (d6 (e7 [2, 3] Z (gx 1 Z (sv Z (lY K Z Z Z (.gen Z (.one Z (fG Z (by simp)) .nil)) Z) Z (p7 K Z Z Z Z Z (l8 (D5 Z) (l8 (D5 Z) (l8 (D5 Z) (l8 (D5 Z) (l8 (D5 Z) (l8 (D5 Z) (l8 (D5 Z) (l8 (fG Z (by simp)) bC)))))))) Z Z Z (j9 (S8 (le_fzc 8 9 (pre := [.int .i64 8, .int .i64 0, .nilsl, .int .i64 0, .int .i64 0, .str ([] : LB), .nilsl]) (suf := []) Z Z Z (by simp) Z Z) (j8 (s7 Z (kL (.cons (i8 _) (.cons (i8 _) (.cons (O3 _ _) (.cons (i8 _) (.cons (i8 _) (.cons (i8 _) (.cons (O3 _ _) (.cons (i8 _) .nil))))))))))))))))))
theorem s_l9Drop_ok (c : PC) (q : PC × Bool) (F : gB c = some q) : FC Tryz.prog 102 [.agg (cCore.row 0 c)] [] 8 (fun x _ => x = .tup [.agg (cCore.row 1 q.1), .bool q.2]) := by
 unfold gB at F
 refine FC.of_le (bdy Tryz.func102 Tryz.ntmps102 Z Z Z (qn 3 Z (d6 (qn 3 Z (E7 F Z (fun G F => ?_) (fun G F => ?_))))))
 ·obtain rfl := g8 F
  exact qr (sv Z (l0 K Z Z) Z (xn 2 Z (j8 (u5 (s7 Z (O4 (.cons Q3 (.cons (i8 _) .nil))))))))
 ·refine f8 (qr (J1 cCore (l := 1) ([] : List PC) K Z Z Z Z Z Z Z (xn 1 Z (d6 (qx 2 Z (sv Z (o5 cCore K Z Z Z) Z (xn 1 Z (i9 (u6 (fun x2 kids3 => ⟨[(1, .ptr 8 1 0 0), (2, .ptr 9 1 0 0), (4, .hsl 10 0 kids3.length), (13, .psl 0 8 (c.kids.map (cCore.enc 0))), (14, .int .i64 (c.kids.length : Int)), (15, .int .i64 x2)], [(8, ⟨8, [cCore.row 0 c]⟩), (9, ⟨8, [A0]⟩), (10, ⟨8, kids3.map (cCore.enc 1)⟩)], 11, 55, []⟩) (qA c) LF 0 ([] : List PC) F (f7 (e8 (f9 Z (f9 Z (f9 Z (m5 cCore Z (f9 Z (f9 Z j1)))))) (z8 cCore Z (A7 Z (l7 Z j2))) Z Z Z Z)) ?_)))))))))
  intro go4 x2 kids3 F
  replace F : W0 c go4 x2 kids3 = some q := F
  unfold W0 at F
  refine qn 1 Z (d6 (l5 F Z (fun G F => ?_) (fun G F => ?_)))
  ·refine f8 (d6 (v5 (fun (kids5 : List PC) => ⟨[(1, .ptr 8 1 0 0), (2, .ptr 9 1 0 0), (4, .hsl 10 0 kids5.length), (13, .psl 0 8 (c.kids.map (cCore.enc 0))), (14, .int .i64 (c.kids.length : Int)), (15, .int .i64 x2)], [(8, ⟨8, [cCore.row 0 c]⟩), (9, ⟨8, [A0]⟩), (10, ⟨8, kids5.map (cCore.enc 1)⟩)], 11, 55, []⟩) (fun kids5 => bJ x2 go4 kids5 = some q) ?_ ?_))
   ·obtain ⟨x5, hn_x5, F⟩ := d7 F
    refine i9 (qx 1 Z (sv Z (k9 cCore hn_x5 K Z Z Z Z) Z (xn 4 Z (d6 (v5 (fun (x6 : Bool) => ⟨[(1, .ptr 8 1 0 0), (2, .ptr 9 1 0 0), (4, .hsl 10 0 kids3.length), (6, .ptr 11 1 0 0), (13, .psl 0 8 (c.kids.map (cCore.enc 0))), (14, .int .i64 (c.kids.length : Int)), (15, .int .i64 x2), (40, .bool x6)], [(8, ⟨8, [cCore.row 0 c]⟩), (9, ⟨8, [A0]⟩), (10, ⟨8, kids3.map (cCore.enc 1)⟩), (11, ⟨8, [cCore.row 0 x5]⟩)], 12, 55, []⟩) (fun x6 => V9 x2 kids3 go4 x5 x6 = some q) ?_ ?_)))))
    ·obtain ⟨H1, F⟩ := g7 F
     refine gx 3 Z (sv Z (o5 cCore K Z Z Z) Z (lF K Z Z Z H1 Z (xq 2 Z (n9 (g := 26) F Z (fun G F => ?_) (fun G F => ?_)))))
     ·exact xn 14 Z (l4 ⟨true, F, (f7 (e8 (f9 Z (f9 Z (f9 Z (f9 Z (m5 cCore Z (f9 Z (f9 Z (f9 Z j1)))))))) (z8 cCore Z (A7 Z (l7 Z (z8 cCore Z j2)))) Z Z Z Z))⟩)
     ·refine xq 4 Z (K0 (g := 30) F Z (fun G F => ?_) (fun G F => ?_))
      ·refine xq 5 Z (K0 (g := 35) F Z (fun G F => ?_) (fun G F => ?_))
       ·exact xn 5 Z (l4 ⟨(!decide (x5.kind = 5)), F, (f7 (e8 (f9 Z (f9 Z (f9 Z (f9 Z (m5 cCore Z (f9 Z (f9 Z (f9 Z j1)))))))) (z8 cCore Z (A7 Z (l7 Z (z8 cCore Z j2)))) Z Z Z Z))⟩)
       ·exact xn 5 Z (l4 ⟨false, F, (f7 (e8 (f9 Z (f9 Z (f9 Z (f9 Z (m5 cCore Z (f9 Z (f9 Z (f9 Z j1)))))))) (z8 cCore Z (A7 Z (l7 Z (z8 cCore Z j2)))) Z Z Z Z))⟩)
      ·exact xn 10 Z (l4 ⟨false, F, (f7 (e8 (f9 Z (f9 Z (f9 Z (f9 Z (m5 cCore Z (f9 Z (f9 Z (f9 Z j1)))))))) (z8 cCore Z (A7 Z (l7 Z (z8 cCore Z j2)))) Z Z Z Z))⟩)
    ·intro x6 F
     replace F : V9 x2 kids3 go4 x5 x6 = some q := F
     unfold V9 at F
     refine lN F Z (fun G F => ?_) (fun G F => ?_)
     ·obtain ⟨x7, hx7, F⟩ := d7 F
      obtain ⟨H1, F⟩ := g7 F
      exact gx 2 Z (j7 (eN RF x5 x7 hx7) Z ((e9 (p9 cCore x5 Z) j4)) (K6 cCore x7 Z) Z (J1 cCore (l := 1) ([x7] : List PC) K Z Z Z Z Z Z Z (B7 cCore (l := 1) (xs := kids3) (ys := ([x7] : List PC)) H1 Z K Z Z Z Z Z Z Z (S7 cCore Z Z Z) Z (xn 1 Z (I2 (l4 ⟨(kids3 ++ ([x7] : List PC)), F, (f7 (e8 (f9 Z (f9 Z (f9 Z (m5 cCore Z (f9 Z (f9 Z j1)))))) (z8 cCore Z (A7 Z (l7 Z j2))) Z Z Z Z))⟩))))))
     ·exact f8 (I2 (l4 ⟨kids3, F, (f7 (e8 (f9 Z (f9 Z (f9 Z (m5 cCore Z (f9 Z (f9 Z j1)))))) (z8 cCore Z (A7 Z (l7 Z j2))) Z Z Z Z))⟩))
   ·intro kids5 F
    replace F : bJ x2 go4 kids5 = some q := F
    unfold bJ at F
    obtain ⟨H1, F⟩ := g7 F
    exact j6 (t7 K Z Z Z H1 Z (xn 1 Z (m0 ⟨((x2 + 1), kids5), F, (f7 (e8 (f9 Z (f9 Z (f9 Z (m5 cCore Z (f9 Z (f9 Z j1)))))) (z8 cCore Z (A7 Z (l7 Z j2))) Z Z Z Z))⟩)))
  ·obtain ⟨x5, hx5, F⟩ := d7 F
   refine o7 (X2 (X1 (t8 (d6 (S8 (dX 4 Z Z (by simp) Z) (bT (id := 10) 9 [0, 1] ⟨[(2, .ptr 9 1 0 0), (54, .bool (decide ((kids3.length : Int) < (c.kids.length : Int))))], [(9, ⟨8, [cCore.row 1 x5]⟩)], 11, 55, []⟩ (by kernel_rfl) (by kernel_rfl) ?_ ?_))))))
   ·refine xx K Z (x_id (zE kids3 x5 hx5) Z (d9 (m7 _ (nY cCore kids3 Z)) l6) (m7 _ (K6 cCore x5 Z)) Z (xx K Z (xv Z (o5 cCore K Z Z Z) Z (xx K Z (xx K Z (xv Z (o5 cCore K Z Z Z) Z (xx K Z (cQ (uE (⟨by kernel_rfl, lI (l' := [[], [4], [4, 5], [4, 5, 6], [2], [2, 4], [2, 4, 5], [2, 4, 5, 6], [2, 3], [2, 3, 4], [2, 3, 4, 5], [2, 3, 4, 5, 6], [2, 3, 4, 5, 6, 7]]) (by kernel_rfl) (y9 ?_ (y9 ?_ (y9 ?_ (y9 ?_ (y9 ?_ (y9 ?_ (y9 ?_ (y9 ?_ (y9 ?_ (y9 ?_ (y9 ?_ (y9 ?_ (y9 ?_ fJ)))))))))))))⟩))))))))))
    refine A5 7 (by kernel_rfl) Z (E6 [0, 1] (by kernel_rfl) ?_)
    rotate_left
    refine A5 6 (by kernel_rfl) Z (E6 [0, 1, 4] (by kernel_rfl) ?_)
    rotate_left
    refine A5 5 (by kernel_rfl) Z (E6 [0, 1, 4, 5] (by kernel_rfl) ?_)
    rotate_left
    refine A5 4 (by kernel_rfl) Z (E6 [0, 1, 4, 5, 6] (by kernel_rfl) ?_)
    rotate_left
    refine A5 6 (by kernel_rfl) Z (E6 [0, 1, 2] (by kernel_rfl) ?_)
    rotate_left
    refine A5 5 (by kernel_rfl) Z (E6 [0, 1, 2, 4] (by kernel_rfl) ?_)
    rotate_left
    refine A5 4 (by kernel_rfl) Z (E6 [0, 1, 2, 4, 5] (by kernel_rfl) ?_)
    rotate_left
    refine A5 3 (by kernel_rfl) Z (E6 [0, 1, 2, 4, 5, 6] (by kernel_rfl) ?_)
    rotate_left
    refine A5 5 (by kernel_rfl) Z (E6 [0, 1, 2, 3] (by kernel_rfl) ?_)
    rotate_left
    refine A5 4 (by kernel_rfl) Z (E6 [0, 1, 2, 3, 4] (by kernel_rfl) ?_)
    rotate_left
    refine A5 3 (by kernel_rfl) Z (E6 [0, 1, 2, 3, 4, 5] (by kernel_rfl) ?_)
    rotate_left
    refine A5 2 (by kernel_rfl) Z (E6 [0, 1, 2, 3, 4, 5, 6] (by kernel_rfl) ?_)
    rotate_left
    refine A5 1 (by kernel_rfl) Z (E6 [0, 1, 2, 3, 4, 5, 6, 7] (by kernel_rfl) ?_)
    rotate_left
    repeat' first | refine xn 1 Z ?_ | refine j3 [0, 1, 2, 3, 4, 5, 6, 8] [7] (by kernel_rfl) Z (f6 Z ?_ j5) | refine j3 [0, 1, 2, 3, 4, 5, 8] [6] (by kernel_rfl) Z (f6 Z ?_ j5) | refine j3 [0, 1, 2, 4, 5, 6, 8] [3] (by kernel_rfl) Z (f6 Z ?_ j5) | refine j3 [0, 1, 2, 3, 4, 5, 6, 7] [8] (by kernel_rfl) Z (f6 Z ?_ j5) | refine j3 [0, 1, 2, 3, 4, 5, 6] [7, 8] (by kernel_rfl) Z (f6 Z ?_ (f6 Z ?_ j5)) | refine j3 [0, 1, 2, 3, 4, 8] [5] (by kernel_rfl) Z (f6 Z ?_ j5) | refine j3 [0, 1, 2, 4, 5, 8] [3, 6] (by kernel_rfl) Z (f6 Z ?_ (f6 Z ?_ j5)) | refine j3 [0, 1, 2, 3, 4, 5] [6, 8] (by kernel_rfl) Z (f6 Z ?_ (f6 Z ?_ j5)) | refine j3 [0, 1, 2, 4, 5, 6] [3, 8] (by kernel_rfl) Z (f6 Z ?_ (f6 Z ?_ j5)) | refine j3 [0, 1, 2, 4, 8] [3, 5] (by kernel_rfl) Z (f6 Z ?_ (f6 Z ?_ j5)) | refine j3 [0, 1, 4, 5, 6, 8] [2] (by kernel_rfl) Z (f6 Z ?_ j5) | refine j3 [0, 1, 2, 3, 4] [5, 8] (by kernel_rfl) Z (f6 Z ?_ (f6 Z ?_ j5)) | refine j3 [0, 1, 2, 4, 5] [3, 6, 8] (by kernel_rfl) Z (f6 Z ?_ (f6 Z ?_ (f6 Z ?_ j5))) | refine j3 [0, 1, 2, 3, 8] [4] (by kernel_rfl) Z (f6 Z ?_ j5) | refine j3 [0, 1, 4, 5, 8] [2, 6] (by kernel_rfl) Z (f6 Z ?_ (f6 Z ?_ j5)) | refine j3 [0, 1, 2, 4] [3, 5, 8] (by kernel_rfl) Z (f6 Z ?_ (f6 Z ?_ (f6 Z ?_ j5))) | refine j3 [0, 1, 4, 5, 6] [2, 8] (by kernel_rfl) Z (f6 Z ?_ (f6 Z ?_ j5)) | refine j3 [0, 1, 2, 3] [4, 8] (by kernel_rfl) Z (f6 Z ?_ (f6 Z ?_ j5)) | refine j3 [0, 1, 2, 8] [3, 4] (by kernel_rfl) Z (f6 Z ?_ (f6 Z ?_ j5)) | refine j3 [0, 1, 4, 5] [2, 6, 8] (by kernel_rfl) Z (f6 Z ?_ (f6 Z ?_ (f6 Z ?_ j5))) | refine j3 [0, 1, 4, 8] [2, 5] (by kernel_rfl) Z (f6 Z ?_ (f6 Z ?_ j5)) | refine j3 [0, 1, 2] [3, 4, 8] (by kernel_rfl) Z (f6 Z ?_ (f6 Z ?_ (f6 Z ?_ j5))) | refine j3 [0, 1, 4] [2, 5, 8] (by kernel_rfl) Z (f6 Z ?_ (f6 Z ?_ (f6 Z ?_ j5))) | refine j3 [0, 1, 8] [2, 4] (by kernel_rfl) Z (f6 Z ?_ (f6 Z ?_ j5)) | refine j3 [0, 1] [2, 4, 8] (by kernel_rfl) Z (f6 Z ?_ (f6 Z ?_ (f6 Z ?_ j5))) | exact S9 (by kernel_rfl) (f7 (e8 (f9 Z (f9 (by (try simp only [List.length_map]) <;> exact Z) j1)) (z8 cCore Z j2) Z Z Z Z))
   ·obtain rfl := g8 F
    exact xn 1 Z (u0 Z)
theorem s_l9Node_ok (c : PC) (boxed : LI) (q : PC × Bool) (F : sE c boxed = some q) : FC Tryz.prog 48 [.agg (cCore.row 0 c), .psl 0 1 (boxed.map (cInt.enc 0))] [] 8 (fun x _ => x = .tup [.agg (cCore.row 1 q.1), .bool q.2]) := by
 unfold sE at F
 obtain ⟨x3, hx3, F⟩ := d7 F
 refine FC.of_le (bdy Tryz.func48 Tryz.ntmps48 Z Z Z (qn 3 Z (d6 (qx 1 Z (j7 (s_l9Fold_ok c x3 hx3) Z ((e9 (p9 cCore c Z) j4)) (cR (e9 (K6 cCore x3.1 Z) (e9 (Z) j4))) Z (xn 6 Z (d6 (e7 [1, 2, 4, 6, 7] Z (gn 1 Z (lN F Z (fun G F => ?_) (fun G F => ?_)))))))))))
 ·obtain rfl := g8 F
  exact qn 3 Z (u1 Z)
 ·obtain ⟨x4, hx4, F⟩ := d7 F
  refine f8 (d6 (qx 2 Z (j7 (s_l9Beta_ok c boxed x4 hx4) Z ((e9 (p9 cCore c Z) (e9 (K7 cInt boxed Z) j4))) (cR (e9 (K6 cCore x4.1 Z) (e9 (Z) j4))) Z (xn 6 Z (d6 (e7 [2, 4, 8, 9] Z (gn 1 Z (lN F Z (fun G F => ?_) (fun G F => ?_)))))))))
  ·obtain rfl := g8 F
   exact qn 3 Z (u1 Z)
  ·refine f8 (d6 (d6 (v5 (fun (x5 : Bool) => ⟨[(2, .ptr 8 1 0 0), (4, .ptr 9 1 0 0), (36, .bool x5)], [(8, ⟨8, [cCore.row 0 c]⟩), (9, ⟨8, [A0]⟩)], 10, 62, []⟩) (fun x5 => W1 c x5 = some q) ?_ ?_)))
   ·refine gx 4 Z (n9 (g := 30) F Z (fun G F => ?_) (fun G F => ?_))
    ·obtain ⟨x5, hn_x5, F⟩ := d7 F
     obtain ⟨x6, hx6, F⟩ := d7 F
     exact xq 2 Z (sv Z (k9 cCore hn_x5 K Z Z Z Z) Z (xq 1 Z (j7 (pY x5 x6 hx6) Z ((e9 (p9 cCore x5 Z) j4)) Z Z (xn 1 Z (l4 ⟨x6, F, (f7 (e8 (f9 Z (f9 Z (f9 Z j1))) (z8 cCore Z (A7 Z j2)) Z Z Z Z))⟩)))))
    ·exact xn 6 Z (l4 ⟨false, F, (f7 (e8 (f9 Z (f9 Z (f9 Z j1))) (z8 cCore Z (A7 Z j2)) Z Z Z Z))⟩)
   ·intro x5 F
    replace F : W1 c x5 = some q := F
    unfold W1 at F
    refine lN F Z (fun G F => ?_) (fun G F => ?_)
    ·obtain ⟨x6, hn_x6, F⟩ := d7 F
     obtain ⟨x7, hx7, F⟩ := d7 F
     obtain ⟨x8, hx8, F⟩ := d7 F
     refine qx 2 Z (sv Z (k9 cCore hn_x6 K Z Z Z Z) Z (xq 2 Z (qO 10 (pre := [.agg (cDat.row 0 x6.datum)]) (suf := []) (vA RF x6.datum [] x7 hx7) Z Z Z (d9 (m7 _ (p9 cDat x6.datum Z)) (d9 Z l6)) (yX (d9 (m7 _ (K6 cVal x7.1 Z)) (d9 Z l6))) (Cd.rnR cPair _ x7.2 Z) Z (xn 6 Z (d6 (d6 (e7 [2, 4, 10] Z (gx 1 Z (j7 (uZ x7.1 x8 hx8) Z ((e9 (wM cVal x7.1 Z) j4)) Z Z (j9 (lN F Z (fun G F => ?_) (fun G F => ?_))))))))))))
     ·obtain ⟨x9, hn_x9, F⟩ := d7 F
      obtain ⟨x10, hx10, F⟩ := d7 F
      obtain rfl := g8 F
      exact qx 2 Z (sv Z (k9 cCore hn_x9 K Z Z Z Z) Z (xq 1 Z (j7 (eN RF x9 x10 hx10) Z ((e9 (p9 cCore x9 Z) j4)) (K6 cCore x10 Z) Z (xn 2 Z (j8 (u5 (u5 (s7 Z (i8 _)))))))))
     ·obtain ⟨x9, hn_x9, F⟩ := d7 F
      obtain ⟨x10, hx10, F⟩ := d7 F
      obtain rfl := g8 F
      exact f8 (qx 2 Z (sv Z (k9 cCore hn_x9 K Z Z Z Z) Z (xq 1 Z (j7 (eN RF x9 x10 hx10) Z ((e9 (p9 cCore x9 Z) j4)) (K6 cCore x10 Z) Z (xn 2 Z (u1 Z))))))
    ·obtain ⟨x6, hx6, F⟩ := d7 F
     obtain rfl := g8 F
     exact f8 (qx 1 Z (j7 (s_l9Drop_ok c x6 hx6) Z ((e9 (p9 cCore c Z) j4)) (cR (e9 (K6 cCore x6.1 Z) (e9 (Z) j4))) Z (xn 4 Z (u0 Z))))
def tX (D7 : PC → LI → Int → Option (PC × Int)) : Prop := ∀ (c : PC) (boxed : LI) (x_1 : Int) (q : PC × Int), D7 c boxed x_1 = some q → FC Tryz.prog 61 [.agg (cCore.row 0 c), .psl 0 1 (boxed.map (cInt.enc 0)), .ptr 0 1 0 0] [(0, ⟨1, [cInt.row 1 x_1]⟩)] 8 (fun x h2 => x = .agg (cCore.row 1 q.1) ∧ hget h2 0 = some ⟨1, [cInt.row 1 q.2]⟩)
theorem s_l9Pass_bok (D7 : PC → LI → Int → Option (PC × Int)) (h_s_l9Pass : tX D7) : tX (iM D7) := by
 intro c boxed x_1 q F
 unfold iM at F
 obtain ⟨x5, hx5, F⟩ := d7 F
 obtain ⟨x6, hx6, F⟩ := d7 F
 refine FC.of_le_lent (bdy Tryz.func61 Tryz.ntmps61 Z Z Z (qn 2 Z (qn 4 Z (d6 (bT (id := 2) 12 [0, 1, 2, 3, 4, 5, 6, 7, 8, 9] ⟨[(1, .psl 0 1 (boxed.map (cInt.enc 0))), (2, .ptr 0 1 0 0), (3, .ptr 8 1 0 0), (6, .ptr 9 1 0 0), (7, .int .i64 x_1), (8, .ptr 11 1 0 0), (26, .agg [.int .i64 c.kind, .int .i64 c.number, .hsl 10 0 x5.length, .int .i64 x6.kind, .int .i64 x6.number, .str x6.text, .psl 1 4 (x6.items.map (cDat.enc 1)), .nilsl])], [(0, ⟨1, [[.int .i64 x_1]]⟩), (8, ⟨8, [cCore.row 0 c]⟩), (9, ⟨8, [A0]⟩), (10, ⟨1, x5.map (cInt.enc 0)⟩), (11, ⟨8, [A0]⟩)], 12, 80, []⟩ (by kernel_rfl) (by kernel_rfl) ?_ ?_)))))
 ·refine xx K Z (xx K Z (xx K Z (xx K Z (xx K Z (xx K Z (x_o1 (eJ c.params x5 hx5) Z (i7 (s4 (K7 cInt c.params Z)) o8) (Cd.rlR cInt f01 0 _) (fun n j => by simp [V.rnA, V.rnAL, V.rl, upJ, dn]) Z (xx K Z (xx K Z (x_call (s_l1Copy_ok RF c.datum x6 hx6) Z ((e9 (p9 cDat c.datum Z) j4)) (K6 cDat x6 Z) Z (cQ (x_alloc K Z Z Z Z Z (uE (⟨by kernel_rfl, lI (l' := [[], [11]]) (by kernel_rfl) (y9 ?_ (y9 ?_ fJ))⟩)))))))))))))
  refine A5 2 (by kernel_rfl) Z (E6 [0, 1, 2, 3, 4, 5, 6, 7, 8, 9] (by kernel_rfl) ?_)
  rotate_left
  refine A5 1 (by kernel_rfl) Z (E6 [0, 1, 2, 3, 4, 5, 6, 7, 8, 9, 11] (by kernel_rfl) ?_)
  rotate_left
  repeat' first | refine sv Z (lY K Z Z Z (.gen Z (.gen Z (.one Z (fG Z (by simp)) (.gen Z .nil)))) Z) Z (j9 ?_) | refine xn 1 Z ?_ | refine j3 [0, 1, 2, 3, 4, 5, 6, 7, 8, 9, 11] [10] (by kernel_rfl) Z (f6 Z ?_ j5) | refine j3 [0, 1, 2, 3, 4, 5, 6, 7, 8, 9, 10] [11] (by kernel_rfl) Z (f6 Z ?_ j5) | refine j3 [0, 1, 2, 3, 4, 5, 6, 7, 8, 9] [10, 11] (by kernel_rfl) Z (f6 Z ?_ (f6 Z ?_ j5)) | exact S9 (by kernel_rfl) (vG [(0, 0), (8, 8), (9, 9), (10, 10), (11, 11)] Z Z (q8 Z (m7 _ (K7 cInt boxed Z)) (q8 Z (J3 Z) (q8 Z (J3 Z) (q8 Z (J3 Z) (q8 Z Z (q8 Z (J3 Z) (q8 Z (uQ (d9 Z (d9 Z (d9 (w8 Z) (d9 Z (d9 Z (d9 Z (d9 (m7 _ (nY cDat x6.items Z)) (d9 Z l6))))))))) lB))))))) (o3 Z Z Z (u4 (d9 Z l6)) (o3 Z Z Z (u4 (F8 _ (cCore.rl cut2 0 c))) (o3 Z Z Z (u4 (d9 Z (d9 Z (d9 Z (d9 Z (d9 Z (d9 Z (d9 Z (d9 Z l6))))))))) (o3 Z Z Z (Cd.rnR cInt _ x5 Z) (o3 Z Z Z (u4 (d9 Z (d9 Z (d9 Z (d9 Z (d9 Z (d9 Z (d9 Z (d9 Z l6))))))))) lC))))) Z Z)
 ·refine p7 K Z Z Z Z Z (l8 (D5 Z) (l8 (D5 Z) (l8 (fG Z (by simp)) (l8 (D5 Z) (l8 (D5 Z) (l8 (D5 Z) (l8 (D5 Z) (l8 (D5 Z) bC)))))))) Z Z Z (j9 (d6 (qx 2 Z (sv Z (o5 cCore K Z Z Z) Z (xn 1 Z (i9 (cT (fun x7 x8 x9 => ⟨[(1, .psl 0 1 (boxed.map (cInt.enc 0))), (2, .ptr 0 1 0 0), (3, .ptr 8 1 0 0), (6, .ptr 9 1 0 0), (7, .int .i64 x_1), (8, .ptr 11 1 0 0), (28, .psl 0 8 (c.kids.map (cCore.enc 0))), (29, .int .i64 (c.kids.length : Int)), (30, .int .i64 x7)], [(0, ⟨1, [[.int .i64 x8]]⟩), (8, ⟨8, [cCore.row 0 c]⟩), (9, ⟨8, [A0]⟩), (10, ⟨1, x5.map (cInt.enc 0)⟩), (11, ⟨8, [[.int .i64 c.kind, .int .i64 c.number, .hsl 10 0 x5.length, .int .i64 x6.kind, .int .i64 x6.number, .str x6.text, .psl 1 4 (x6.items.map (cDat.enc 1)), .hsl 14 0 x9.length]]⟩), (14, ⟨8, x9.map (cCore.enc 1)⟩)], 15, 80, []⟩) (qC D7 c boxed x_1 x5 x6) LF 0 x_1 [] F ((oZ 14 Z Z).trans ((A3 11 8 (k := 7) (pre := [.int .i64 c.kind, .int .i64 c.number, .hsl 10 0 x5.length, .int .i64 x6.kind, .int .i64 x6.number, .str x6.text, .psl 1 4 (x6.items.map (cDat.enc 1))]) (suf := []) Z Z Z).trans (f7 (e8 (m5 cInt Z (f9 Z (f9 Z (f9 Z (f9 Z (f9 Z (m5 cCore Z (f9 Z (f9 Z j1))))))))) (l9 Z Z Z (pF Z) (l9 Z Z Z (r8 (cCore.row_ok _ Z)) (l9 Z Z Z (pF Z) (l9 Z Z Z (cInt.rows_ok _ Z) (l9 Z Z Z (r8 ⟨Z, Z, (a9 Z), Z, Z, Z, (cDat.ok_psl _ Z), (a9 Z), trivial⟩) (l9 Z Z Z (cCore.rows_ok _ Z) j2)))))) Z Z Z Z)))) ?_)))))))
  intro go10 x7 x8 x9 F
  replace F : cI D7 c boxed x_1 x5 x6 go10 x7 x8 x9 = some q := F
  unfold cI at F
  refine qn 1 Z (d6 (l5 F Z (fun G F => ?_) (fun G F => ?_)))
  ·obtain ⟨x11, hn_x11, F⟩ := d7 F
   obtain ⟨x12, hx12, F⟩ := d7 F
   refine f8 (d6 (i9 (qr (sv Z (k9 cCore hn_x11 K Z Z Z Z) Z (xn 3 Z (bT (id := 6) 7 [2, 3, 4] ⟨[(1, .psl 0 1 (boxed.map (cInt.enc 0))), (2, .ptr 0 1 0 0), (3, .ptr 8 1 0 0), (6, .ptr 9 1 0 0), (7, .int .i64 x_1), (8, .ptr 11 1 0 0), (28, .psl 0 8 (c.kids.map (cCore.enc 0))), (29, .int .i64 (c.kids.length : Int)), (30, .int .i64 x7), (35, .hsl 14 0 x9.length), (40, .hsl 16 0 ([x12.1] : List PC).length)], [(0, ⟨1, [[.int .i64 x12.2]]⟩), (8, ⟨8, [cCore.row 0 c]⟩), (9, ⟨8, [A0]⟩), (10, ⟨1, x5.map (cInt.enc 0)⟩), (11, ⟨8, [[.int .i64 c.kind, .int .i64 c.number, .hsl 10 0 x5.length, .int .i64 x6.kind, .int .i64 x6.number, .str x6.text, .psl 1 4 (x6.items.map (cDat.enc 1)), .hsl 14 0 x9.length]]⟩), (14, ⟨8, x9.map (cCore.enc 1)⟩), (16, ⟨8, ([x12.1] : List PC).map (cCore.enc 1)⟩)], 17, 80, []⟩ (by kernel_rfl) (by kernel_rfl) ?_ ?_))))))
   ·refine xx K Z (xx K Z (xx K Z (xx K Z (xx K Z (cQ (cQ (uE (⟨by kernel_rfl, lI (l' := [[], [0], [0, 1]]) (by kernel_rfl) (y9 ?_ (y9 ?_ (y9 ?_ fJ)))⟩))))))))
    refine A5 4 (by kernel_rfl) Z (E6 [2, 3, 4] (by kernel_rfl) ?_)
    rotate_left
    refine A5 3 (by kernel_rfl) Z (E6 [0, 2, 3, 4] (by kernel_rfl) ?_)
    rotate_left
    refine A5 2 (by kernel_rfl) Z (E6 [0, 1, 2, 3, 4] (by kernel_rfl) ?_)
    rotate_left
    repeat' first | refine xn 1 Z ?_ | refine J1 cCore (l := 1) ([x12.1] : List PC) K Z Z Z Z Z Z Z (j9 ?_) | refine B8 0 (h_s_l9Pass x11 boxed x8 x12 hx12) Z (d9 (m7 _ (p9 cCore x11 Z)) (d9 (m7 _ (K7 cInt boxed Z)) (d9 Z l6))) Z Z (m7 _ (K6 cCore x12.1 Z)) Z Z (j9 ?_) | refine j3 [0, 1, 2, 3, 4, 5] [6] (by kernel_rfl) Z (f6 Z ?_ j5) | refine j3 [0, 2, 3, 4, 5, 6] [1] (by kernel_rfl) Z (f6 Z ?_ j5) | refine j3 [0, 1, 2, 3, 4] [5] (by kernel_rfl) Z (f6 Z ?_ j5) | refine j3 [0, 2, 3, 4, 5] [1, 6] (by kernel_rfl) Z (f6 Z ?_ (f6 Z ?_ j5)) | refine j3 [0, 2, 3, 4] [1, 5] (by kernel_rfl) Z (f6 Z ?_ (f6 Z ?_ j5)) | refine j3 [2, 3, 4, 5, 6] [0] (by kernel_rfl) Z (f6 Z ?_ j5) | refine j3 [2, 3, 4, 5] [0, 6] (by kernel_rfl) Z (f6 Z ?_ (f6 Z ?_ j5)) | refine j3 [2, 3, 4] [0, 5] (by kernel_rfl) Z (f6 Z ?_ (f6 Z ?_ j5)) | exact S9 (by kernel_rfl) (f7 (e8 (m5 cInt Z (f9 Z (f9 Z (f9 Z (f9 Z (f9 Z (m5 cCore Z (f9 Z (f9 Z (f9 Z (f9 Z j1))))))))))) (l9 Z Z Z (pF Z) (l9 Z Z Z (r8 (cCore.row_ok _ Z)) (l9 Z Z Z (pF Z) (l9 Z Z Z (cInt.rows_ok _ Z) (l9 Z Z Z (r8 ⟨Z, Z, (a9 Z), Z, Z, Z, (cDat.ok_psl _ Z), (a9 Z), trivial⟩) (l9 Z Z Z (cCore.rows_ok _ Z) (l9 Z Z Z (cCore.rows_ok _ Z) j2))))))) Z Z Z Z))
   ·obtain ⟨H1, F⟩ := g7 F
    obtain ⟨H2, F⟩ := g7 F
    exact B7 cCore (l := 1) (xs := x9) (ys := ([x12.1] : List PC)) H1 Z K Z Z Z Z Z Z Z (S7 cCore Z Z Z) Z (xq 1 Z (R2 (bB Z (by simp)) K Z Z Z Z Z Z Z Z Z (j9 (I2 (j6 (t7 K Z Z Z H2 Z (xn 1 Z (m0 ⟨((x7 + 1), x12.2, (x9 ++ ([x12.1] : List PC))), F, (f7 (e8 (m5 cInt Z (f9 Z (f9 Z (f9 Z (f9 Z (f9 Z (m5 cCore Z (f9 Z (f9 Z j1))))))))) (l9 Z Z Z (pF Z) (l9 Z Z Z (r8 (cCore.row_ok _ Z)) (l9 Z Z Z (pF Z) (l9 Z Z Z (cInt.rows_ok _ Z) (l9 Z Z Z (r8 ⟨Z, Z, (a9 Z), Z, Z, Z, (cDat.ok_psl _ Z), (a9 Z), trivial⟩) (l9 Z Z Z (cCore.rows_ok _ Z) j2)))))) Z Z Z Z))⟩))))))))
  ·refine o7 (X2 (X1 (t8 (d6 (qn 3 Z (cl_midn8 (fun (out11 : Int) (out12 : Int) (out13 : LI) (out14 : Int) (out15 : Int) (out16 : LB) (out17 : List PD) (out18 : List PC) => ⟨[(1, .psl 0 1 (boxed.map (cInt.enc 0))), (2, .ptr 0 1 0 0), (3, .ptr 8 1 0 0), (6, .ptr 9 1 0 0), (7, .int .i64 x_1), (8, .ptr 11 1 0 0)], [(0, ⟨1, [[.int .i64 x8]]⟩), (8, ⟨8, [cCore.row 0 c]⟩), (9, ⟨8, [A0]⟩), (11, ⟨8, [[.int .i64 out11, .int .i64 out12, .psl 1 1 (out13.map (cInt.enc 1)), .int .i64 out14, .int .i64 out15, .str out16, .psl 1 4 (out17.map (cDat.enc 1)), .psl 1 8 (out18.map (cCore.enc 1))]]⟩)], 12, 80, []⟩) (fun out11 out12 out13 out14 out15 out16 out17 out18 => bK c boxed x_1 x8 out11 out12 out13 out14 out15 out16 out17 out18 = some q) ?_ ?_))))))
   ·refine l5 F Z (fun G F => ?_) (fun G F => ?_)
    ·obtain ⟨x11, hx11, F⟩ := d7 F
     exact S8 (le_fzc 11 14 (pre := [.int .i64 c.kind, .int .i64 c.number, .hsl 10 0 x5.length, .int .i64 x6.kind, .int .i64 x6.number, .str x6.text, .psl 1 4 (x6.items.map (cDat.enc 1))]) (suf := []) Z Z Z (by simp) Z Z) (e7 [1, 2, 3, 6, 7, 8] Z (gx 2 Z (call_id (zE x9 x11 hx11) Z (d9 (m7 _ (nY cCore x9 Z)) l6) (m7 _ (K6 cCore x11 Z)) Z (xn 1 Z (l4 ⟨(x11.kind, x11.number, x11.params, x11.datum.kind, x11.datum.number, x11.datum.text, x11.datum.items, x11.kids), F, (f7 (e8 (m5 cInt Z (f9 Z (f9 Z (f9 Z (f9 Z (f9 Z j1)))))) (l9 Z Z Z (pF Z) (l9 Z Z Z (r8 (cCore.row_ok _ Z)) (l9 Z Z Z (pF Z) (l9 Z Z Z (r8 ⟨Z, Z, (cInt.ok_psl _ Z), Z, Z, Z, (cDat.ok_psl _ Z), (cCore.ok_psl _ Z), trivial⟩) j2)))) Z Z Z Z))⟩)))))
    ·exact f8 (l4 ⟨(c.kind, c.number, x5, x6.kind, x6.number, x6.text, x6.items, x9), F, ((le_fzc 11 10 (pre := [.int .i64 c.kind, .int .i64 c.number]) (suf := [.int .i64 x6.kind, .int .i64 x6.number, .str x6.text, .psl 1 4 (x6.items.map (cDat.enc 1)), .hsl 14 0 x9.length]) Z Z Z (by simp) Z Z).trans ((le_fzc 11 14 (pre := [.int .i64 c.kind, .int .i64 c.number, .psl 1 1 (x5.map (cInt.enc 1)), .int .i64 x6.kind, .int .i64 x6.number, .str x6.text, .psl 1 4 (x6.items.map (cDat.enc 1))]) (suf := []) Z Z Z (by simp) Z Z).trans (f7 (e8 (m5 cInt Z (f9 Z (f9 Z (f9 Z (f9 Z (f9 Z j1)))))) (l9 Z Z Z (pF Z) (l9 Z Z Z (r8 (cCore.row_ok _ Z)) (l9 Z Z Z (pF Z) (l9 Z Z Z (r8 ⟨Z, Z, (cInt.ok_psl _ Z), Z, Z, Z, (cDat.ok_psl _ Z), (cCore.ok_psl _ Z), trivial⟩) j2)))) Z Z Z Z))))⟩)
   ·intro out11 out12 out13 out14 out15 out16 out17 out18 F
    replace F : bK c boxed x_1 x8 out11 out12 out13 out14 out15 out16 out17 out18 = some q := F
    unfold bK at F
    refine d6 (d6 (v5 (fun (x19 : Bool) => ⟨[(1, .psl 0 1 (boxed.map (cInt.enc 0))), (2, .ptr 0 1 0 0), (3, .ptr 8 1 0 0), (6, .ptr 9 1 0 0), (7, .int .i64 x_1), (8, .ptr 11 1 0 0), (58, .bool x19)], [(0, ⟨1, [[.int .i64 x8]]⟩), (8, ⟨8, [cCore.row 0 c]⟩), (9, ⟨8, [A0]⟩), (11, ⟨8, [[.int .i64 out11, .int .i64 out12, .psl 1 1 (out13.map (cInt.enc 1)), .int .i64 out14, .int .i64 out15, .str out16, .psl 1 4 (out17.map (cDat.enc 1)), .psl 1 8 (out18.map (cCore.enc 1))]]⟩)], 12, 80, []⟩) (fun x19 => Z5 c boxed x_1 x8 out11 out12 out13 out14 out15 out16 out17 out18 x19 = some q) ?_ ?_))
    ·refine gx 4 Z (n9 (g := 53) F Z (fun G F => ?_) (fun G F => ?_))
     ·exact xq 2 Z (sv Z (o5 cCore K Z Z Z) Z (xn 2 Z (l4 ⟨(decide ((out18.length : Int) > 60)), F, (f7 (e8 (m5 cInt Z (f9 Z (f9 Z (f9 Z (f9 Z (f9 Z (f9 Z j1))))))) (l9 Z Z Z (pF Z) (l9 Z Z Z (r8 (cCore.row_ok _ Z)) (l9 Z Z Z (pF Z) (l9 Z Z Z (r8 ⟨Z, Z, (cInt.ok_psl _ Z), Z, Z, Z, (cDat.ok_psl _ Z), (cCore.ok_psl _ Z), trivial⟩) j2)))) Z Z Z Z))⟩)))
     ·exact xn 5 Z (l4 ⟨false, F, (f7 (e8 (m5 cInt Z (f9 Z (f9 Z (f9 Z (f9 Z (f9 Z (f9 Z j1))))))) (l9 Z Z Z (pF Z) (l9 Z Z Z (r8 (cCore.row_ok _ Z)) (l9 Z Z Z (pF Z) (l9 Z Z Z (r8 ⟨Z, Z, (cInt.ok_psl _ Z), Z, Z, Z, (cDat.ok_psl _ Z), (cCore.ok_psl _ Z), trivial⟩) j2)))) Z Z Z Z))⟩)
    ·intro x19 F
     replace F : Z5 c boxed x_1 x8 out11 out12 out13 out14 out15 out16 out17 out18 x19 = some q := F
     unfold Z5 at F
     refine lN F Z (fun G F => ?_) (fun G F => ?_)
     ·obtain ⟨x20, hx20, F⟩ := d7 F
      obtain rfl := g8 F
      exact qn 4 Z (d6 (e7 [3, 6] Z (gx 1 Z (j7 (eN RF c x20 hx20) Z ((e9 (p9 cCore c Z) j4)) (K6 cCore x20 Z) Z (xn 1 Z (j8 (u5 (z5 Z ((i8 _)) Z))))))))
     ·obtain ⟨x20, hx20, F⟩ := d7 F
      refine f8 (qx 2 Z (j7 (s_l9Node_ok (PC.mk out11 out12 out13 (PD.mk out14 out15 out16 out17) out18) boxed x20 hx20) Z ((e9 (rl_aggL (e9 (Z) (e9 (Z) (e9 (ps_10 cInt out13 Z) (e9 (Z) (e9 (Z) (e9 (Z) (e9 (ps_10 cDat out17 Z) (e9 (ps_10 cCore out18 Z) j4))))))))) (e9 (K7 cInt boxed Z) j4))) (cR (e9 (K6 cCore x20.1 Z) (e9 (Z) j4))) Z (xn 6 Z (d6 (d6 (e7 [2, 6, 8, 11, 12] Z (gn 2 Z (X3 F Z (fun G F => ?_) (fun G F => ?_)))))))))
      ·obtain rfl := g8 F
       exact qn 2 Z (j8 (u5 (z5 Z ((i8 _)) Z)))
      ·obtain ⟨H1, F⟩ := g7 F
       obtain rfl := g8 F
       exact f8 (qx 4 Z (t7 K Z Z Z H1 Z (xn 2 Z (d6 (e7 [6, 11] Z (gn 2 Z (j8 (z5 Z ((i8 _)) Z))))))))
theorem zK (n : Nat) : tX (D7 n) := by
 induction n with
 | zero => exact fun _ _ _ q h => by cases h
 | succ n ih => exact fun c boxed x_1 q h => s_l9Pass_bok (D7 n) ih c boxed x_1 q h
end Go.Proofs.YtmgigglpdhoneaaGreat
