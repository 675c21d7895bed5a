
import Derived.Test.YtmgigglpdhoneaaLibP
import Derived.Test.YtmgigglpdhoneaaGwA
set_option linter.unusedVariables false
set_option linter.unusedSimpArgs false
namespace Go.Proofs.Ytmgigglpdhoneaa
open Go.Abs
attribute [local irreducible] AT AOps FC DN APl
set_option maxRecDepth 10000
set_option maxHeartbeats 4000000
theorem jY (list : LI) (x_1 : Int) (q : Bool) (F : X6 list x_1 = some q) : FC Try.prog 29 [.psl 0 1 (list.map (cInt.enc 0)), .int .i64 x_1] [] 8 (fun x _ => x = .bool q) := by
 unfold X6 at F
 refine FC.of_le (bdy Try.func29 Try.ntmps29 Z Z Z (qn 1 Z (c6 (qx 1 Z (sv Z (k7 cInt K Z Z Z) Z (xn 1 Z (f6 (z4 (fun x3 => ⟨[(1, .int .i64 x_1), (7, .psl 0 1 (list.map (cInt.enc 0))), (8, .int .i64 (list.length : Int)), (9, .int .i64 x3)], [], 8, 17, []⟩) (dO list x_1) LF 0 F (e8 (d7 (d6 Z (g9 cInt Z (d6 Z (d6 Z f9)))) g7 Z Z Z Z)) ?_))))))))
 intro go4 x3 F
 replace F : E4 list x_1 go4 x3 = some q := F
 unfold E4 at F
 refine qn 1 Z (c6 (j1 F Z (fun G F => ?_) (fun G F => ?_)))
 ·obtain ⟨x5, hn_x5, F⟩ := c7 F
  refine d8 (c6 (f6 (qr (sv Z (j4 cInt hn_x5 K Z Z Z Z) Z (xn 2 Z (qn 3 Z (j1 F Z (fun G F => ?_) (fun G F => ?_))))))))
  ·obtain rfl := e9 F
   exact c6 (c8 [] Z (gn 1 Z (j9 (o9 (m9 (I4 (o9 (m9 (m6 Z (f7 _))))))))))
  ·obtain ⟨H1, F⟩ := e7 F
   exact d8 (C7 (c8 [1, 7, 8, 9] Z (j8 (l8 K Z Z Z H1 Z (xn 1 Z (j5 ⟨(x3 + 1), F, (e8 (d7 (d6 Z (g9 cInt Z (d6 Z (d6 Z f9)))) g7 Z Z Z Z))⟩))))))
 ·obtain rfl := e9 F
  exact k8 (J4 (J6 (l9 (qn 1 Z (u0 Z)))))
theorem F9 (x_1 : Int) (a : Int) (b : Int) (q : Bool) (F : V1 x_1 a b = some q) : FC Try.prog 54 [.int .i64 x_1, .int .i64 a, .int .i64 b] [] 8 (fun x _ => x = .bool q) := by
 unfold V1 at F
 refine FC.of_le (bdy Try.func54 Try.ntmps54 Z Z Z (qn 1 Z (qx 4 Z (l5 (g := 10) F Z (fun G F => ?_) (fun G F => ?_)))))
 ·obtain rfl := e9 F
  exact xn 5 Z (u0 Z)
 ·obtain rfl := e9 F
  exact xn 5 Z (u0 Z)
theorem pY (list : LI) (q : LI) (F : gD list = some q) : FC Try.prog 57 [.psl 0 1 (list.map (cInt.enc 0))] [] 8 (fun x h2 => ∃ j, x = .hsl j 0 q.length ∧ hget h2 j = some ⟨1, q.map (cInt.enc 0)⟩) := by
 unfold gD at F
 obtain ⟨H1, F⟩ := e7 F
 obtain rfl := e9 F
 exact bdy Try.func57 Try.ntmps57 Z Z Z (qn 1 Z (qr (B2 cInt (l := 0) ([] : LI) K Z Z Z Z Z Z Z (xq 1 Z (A8 cInt (l := 0) (xs := ([] : LI)) (ys := list) H1 Z K Z Z Z Z Z Z Z (dU cInt (l := 0) Z Z Z) Z (xn 1 Z (j9 (⟨_, Z, 8, Z, Z⟩))))))))
def pW (y9 : PD → Int → Option (Bool × Int)) : Prop := ∀ (d : PD) (left : Int) (q : Bool × Int), y9 d left = some q → FC Try.prog 154 [.agg (cDat.row 0 d), .ptr 0 1 0 0] [(0, ⟨1, [cInt.row 1 left]⟩)] 8 (fun x h2 => x = .bool q.1 ∧ hget h2 0 = some ⟨1, [cInt.row 1 q.2]⟩)
theorem s_l1Few_bok (y9 : PD → Int → Option (Bool × Int)) (h_s_l1Few : pW y9) : pW (fJ y9) := by
 intro d left q F
 unfold fJ at F
 obtain ⟨H1, F⟩ := e7 F
 refine FC.of_le_lent (bdy Try.func154 Try.ntmps154 Z Z Z (qn 2 Z (qx 4 Z (aI K Z Z Z H1 Z (xn 2 Z (c6 (c6 (c8 [1, 2] Z (gn 1 Z (f6 (m0 (fun i4 left5 => ⟨[(1, .ptr 0 1 0 0), (2, .ptr 8 1 0 0), (5, .int .i64 i4)], [(0, ⟨1, [[.int .i64 left5]]⟩), (8, ⟨4, [cDat.row 0 d]⟩)], 9, 36, []⟩) (lN y9 d) LF 0 (left - 1) F (e8 (d7 (d6 Z (d6 Z (d6 Z f9))) (A0 Z (u6 cDat Z g7)) Z Z Z Z)) ?_)))))))))))
 intro go6 i4 left5 F
 replace F : O2 y9 d go6 i4 left5 = some q := F
 unfold O2 at F
 refine c6 (c6 (v7 (fun (x7 : Bool) => ⟨[(1, .ptr 0 1 0 0), (2, .ptr 8 1 0 0), (5, .int .i64 i4), (22, .bool x7)], [(0, ⟨1, [[.int .i64 left5]]⟩), (8, ⟨4, [cDat.row 0 d]⟩)], 9, 36, []⟩) (fun x7 => S7 y9 d i4 left5 go6 x7 = some q) ?_ ?_))
 ·refine gx 3 Z (sv Z (k7 cDat K Z Z Z) Z (xq 2 Z (l5 (g := 17) F Z (fun G F => ?_) (fun G F => ?_))))
  ·exact xn 5 Z (l0 ⟨(decide (left5 ≥ 0)), F, (e8 (d7 (d6 Z (d6 Z (d6 Z (d6 Z f9)))) (A0 Z (u6 cDat Z g7)) Z Z Z Z))⟩)
  ·exact xn 5 Z (l0 ⟨false, F, (e8 (d7 (d6 Z (d6 Z (d6 Z (d6 Z f9)))) (A0 Z (u6 cDat Z g7)) Z Z Z Z))⟩)
 ·intro x7 F
  replace F : S7 y9 d i4 left5 go6 x7 = some q := F
  unfold S7 at F
  refine qR F Z (fun G F => ?_) (fun G F => ?_)
  ·obtain ⟨x8, hn_x8, F⟩ := c7 F
   obtain ⟨x9, hx9, F⟩ := c7 F
   obtain ⟨H1, F⟩ := e7 F
   exact d8 (c6 (f6 (gx 3 Z (sv Z (j4 cDat hn_x8 K Z Z Z Z) Z (xq 2 Z (B5 0 (h_s_l1Few x8 left5 x9 hx9) Z (l3 (C6 _ (r9 cDat x8 Z)) (l3 Z B1)) Z Z Z Z Z (i9 (C7 (c8 [1, 2, 5] Z (gx 1 Z (l8 K Z Z Z H1 Z (xn 1 Z (j5 ⟨((i4 + 1), x9.2), F, (e8 (d7 (d6 Z (d6 Z (d6 Z f9))) (A0 Z (u6 cDat Z g7)) Z Z Z Z))⟩)))))))))))))
  ·obtain rfl := e9 F
   exact k8 (J4 (J6 (l9 (qn 5 Z (j9 (N2 Z ((f7 _)) Z))))))
theorem s_l1Few_ok (n : Nat) : pW (y9 n) := by
 induction n with
 | zero => exact fun _ _ q h => by cases h
 | succ n ih => exact fun d left q h => s_l1Few_bok (y9 n) ih d left q h
def iI (t4 : PD → Option Int) : Prop := ∀ (d : PD) (q : Int), t4 d = some q → FC Try.prog 155 [.agg (cDat.row 0 d)] [] 8 (fun x _ => x = .int .i64 q)
theorem uJ (t4 : PD → Option Int) (h_s_DepthOf : iI t4) : iI (Y8 t4) := by
 intro d q F
 unfold Y8 at F
 refine FC.of_le (bdy Try.func155 Try.ntmps155 Z Z Z (qn 2 Z (qn 1 Z (c6 (qx 2 Z (sv Z (k7 cDat K Z Z Z) Z (xn 1 Z (f6 (m0 (fun x3 x4 => ⟨[(3, .int .i64 x3), (7, .psl 0 4 (d.items.map (cDat.enc 0))), (8, .int .i64 (d.items.length : Int)), (9, .int .i64 x4)], [], 9, 20, []⟩) (fB t4 d) LF 0 0 F (e8 (d7 (d6 Z (g9 cDat Z (d6 Z (d6 Z f9)))) g7 Z Z Z Z)) ?_)))))))))
 intro go5 x3 x4 F
 replace F : G6 t4 d go5 x3 x4 = some q := F
 unfold G6 at F
 refine qn 1 Z (c6 (j1 F Z (fun G F => ?_) (fun G F => ?_)))
 ·obtain ⟨x6, hn_x6, F⟩ := c7 F
  obtain ⟨x7, hx7, F⟩ := c7 F
  obtain ⟨H1, F⟩ := e7 F
  exact d8 (c6 (f6 (qr (sv Z (j4 cDat hn_x6 K Z Z Z Z) Z (xn 3 Z (gx 2 Z (i8 (h_s_DepthOf x6 x7 hx7) Z ((d9 (r9 cDat x6 Z) i7)) Z Z (sv Z (ov_max Z Z) Z (xn 1 Z (C7 (c8 [3, 7, 8, 9] Z (j8 (l8 K Z Z Z H1 Z (xn 1 Z (j5 ⟨((max x3 x7), (x4 + 1)), F, (e8 (d7 (d6 Z (g9 cDat Z (d6 Z (d6 Z f9)))) g7 Z Z Z Z))⟩)))))))))))))))
 ·obtain ⟨H1, F⟩ := e7 F
  obtain rfl := e9 F
  exact k8 (J4 (J6 (l9 (qx 1 Z (l8 K Z Z Z H1 Z (xn 1 Z (u0 Z)))))))
theorem xV (n : Nat) : iI (t4 n) := by
 induction n with
 | zero => exact fun _ q h => by cases h
 | succ n ih => exact fun d q h => uJ (t4 n) ih d q h
theorem aT (b : Int) (q : Bool) (F : V0 b = some q) : FC Try.prog 143 [.int .u8 b] [] 8 (fun x _ => x = .bool q) := by
 unfold V0 at F
 refine FC.of_le (bdy Try.func143 Try.ntmps143 Z Z Z (qn 1 Z (qx 3 Z (l5 (g := 5) F Z (fun G F => ?_) (fun G F => ?_)))))
 ·obtain rfl := e9 F
  exact xn 4 Z (u0 Z)
 ·obtain rfl := e9 F
  exact xn 4 Z (u0 Z)
theorem s_l1Mark_ok (b : Int) (q : Bool) (F : kB b = some q) : FC Try.prog 144 [.int .u8 b] [] 8 (fun x _ => x = .bool q) := by
 unfold kB at F
 refine FC.of_le (bdy Try.func144 Try.ntmps144 Z Z Z (qn 1 Z (c6 (c6 (v7 (fun (x2 : Bool) => ⟨[(0, .int .u8 b), (14, .bool x2)], [], 8, 26, []⟩) (fun x2 => K0 b x2 = some q) ?_ ?_)))))
 ·refine gx 3 Z (l5 (g := 7) F Z (fun G F => ?_) (fun G F => ?_))
  ·refine xq 4 Z (l5 (g := 11) F Z (fun G F => ?_) (fun G F => ?_))
   ·exact xn 3 Z (l0 ⟨true, F, (e8 (d7 (d6 Z (d6 Z f9)) g7 Z Z Z Z))⟩)
   ·obtain ⟨x2, hx2, F⟩ := c7 F
    exact xq 1 Z (i8 (aT b x2 hx2) Z ((d9 (Z) i7)) Z Z (xn 1 Z (l0 ⟨x2, F, (e8 (d7 (d6 Z (d6 Z f9)) g7 Z Z Z Z))⟩)))
  ·obtain ⟨x2, hx2, F⟩ := c7 F
   exact xq 5 Z (i8 (aT b x2 hx2) Z ((d9 (Z) i7)) Z Z (xn 1 Z (l0 ⟨x2, F, (e8 (d7 (d6 Z (d6 Z f9)) g7 Z Z Z Z))⟩)))
 ·intro x2 F
  replace F : K0 b x2 = some q := F
  unfold K0 at F
  refine qR F Z (fun G F => ?_) (fun G F => ?_)
  ·obtain rfl := e9 F
   exact qn 1 Z (u1 Z)
  ·refine d8 (qn 1 Z (c6 (qn 1 Z (f6 (z4 (fun i3 => ⟨[(0, .int .u8 b), (3, .str ([33, 63, 42, 60, 62, 61, 47, 43, 45, 46, 95] : LB)), (4, .int .i64 i3)], [], 8, 26, []⟩) (iL b) LF 0 F (e8 (d7 (d6 Z (d6 Z (d6 Z f9))) g7 Z Z Z Z)) ?_)))))
   intro go4 i3 F
   replace F : P3 b go4 i3 = some q := F
   unfold P3 at F
   refine c6 (qn 4 Z (j1 F Z (fun G F => ?_) (fun G F => ?_)))
   ·obtain ⟨x5, hn_x5, F⟩ := c7 F
    refine d8 (c6 (f6 (qx 2 Z (sv Z (N9 hn_x5 K Z Z Z) Z (xn 2 Z (j1 F Z (fun G F => ?_) (fun G F => ?_)))))))
    ·obtain rfl := e9 F
     exact c6 (c8 [] Z (gn 1 Z (j9 (o9 (m9 (I4 (o9 (m9 (m6 Z (f7 _))))))))))
    ·obtain ⟨H1, F⟩ := e7 F
     exact d8 (C7 (c8 [0, 3, 4] Z (gx 1 Z (l8 K Z Z Z H1 Z (xn 1 Z (j5 ⟨(i3 + 1), F, (e8 (d7 (d6 Z (d6 Z (d6 Z f9))) g7 Z Z Z Z))⟩))))))
   ·obtain rfl := e9 F
    exact k8 (J4 (J6 (l9 (c6 (c8 [] Z (gn 1 Z (u0 Z)))))))
theorem kA (s : LB) (q : Bool) (F : X7 s = some q) : FC Try.prog 127 [.str s] [] 8 (fun x _ => x = .bool q) := by
 unfold X7 at F
 refine FC.of_le (bdy Try.func127 Try.ntmps127 Z Z Z (qn 1 Z (c6 (c6 (v7 (fun (x2 : Bool) => ⟨[(0, .str s), (27, .bool x2)], [], 8, 39, []⟩) (fun x2 => z6 s x2 = some q) ?_ ?_)))))
 ·obtain ⟨x2, hx2, F⟩ := c7 F
  refine gx 2 Z (i8 (F9 (s.length : Int) 1 16 x2 hx2) Z ((d9 (Z) (d9 (Z) (d9 (Z) i7)))) Z Z (xq 2 Z (J3 (g := 8) F Z (fun G F => ?_) (fun G F => ?_))))
  ·exact xn 19 Z (l0 ⟨true, F, (e8 (d7 (d6 Z (d6 Z f9)) g7 Z Z Z Z))⟩)
  ·obtain ⟨x3, hn_x3, F⟩ := c7 F
   obtain ⟨x4, hx4, F⟩ := c7 F
   refine xq 1 Z (sv Z (N9 hn_x3 K Z Z Z) Z (i8 (aT (x3.toNat : Int) x4 hx4) Z ((d9 (Z) i7)) Z Z (xq 2 Z (Q5 (g := 13) F Z (fun G F => ?_) (fun G F => ?_)))))
   ·exact xn 14 Z (l0 ⟨true, F, (e8 (d7 (d6 Z (d6 Z f9)) g7 Z Z Z Z))⟩)
   ·obtain ⟨x5, hn_x5, F⟩ := c7 F
    refine xq 1 Z (sv Z (N9 hn_x5 K Z Z Z) Z (xq 2 Z (l5 (g := 17) F Z (fun G F => ?_) (fun G F => ?_))))
    ·refine xq 5 Z (l5 (g := 22) F Z (fun G F => ?_) (fun G F => ?_))
     ·obtain ⟨x6, hn_x6, F⟩ := c7 F
      obtain ⟨x7, hx7, F⟩ := c7 F
      exact xq 1 Z (sv Z (N9 hn_x6 K Z Z Z) Z (i8 (aT (x6.toNat : Int) x7 hx7) Z ((d9 (Z) i7)) Z Z (xn 2 Z (l0 ⟨x7, F, (e8 (d7 (d6 Z (d6 Z f9)) g7 Z Z Z Z))⟩))))
     ·exact xn 5 Z (l0 ⟨false, F, (e8 (d7 (d6 Z (d6 Z f9)) g7 Z Z Z Z))⟩)
    ·exact xn 10 Z (l0 ⟨false, F, (e8 (d7 (d6 Z (d6 Z f9)) g7 Z Z Z Z))⟩)
 ·intro x2 F
  replace F : z6 s x2 = some q := F
  unfold z6 at F
  refine qR F Z (fun G F => ?_) (fun G F => ?_)
  ·obtain rfl := e9 F
   exact qn 1 Z (u1 Z)
  ·refine d8 (c6 (qn 1 Z (f6 (z4 (fun i3 => ⟨[(0, .str s), (3, .int .i64 i3)], [], 8, 39, []⟩) (dP s) LF 0 F (e8 (d7 (d6 Z (d6 Z f9)) g7 Z Z Z Z)) ?_))))
   intro go4 i3 F
   replace F : E5 s go4 i3 = some q := F
   unfold E5 at F
   refine c6 (qn 4 Z (j1 F Z (fun G F => ?_) (fun G F => ?_)))
   ·obtain ⟨x5, hn_x5, F⟩ := c7 F
    obtain ⟨x6, hx6, F⟩ := c7 F
    refine d8 (c6 (f6 (qx 2 Z (sv Z (N9 hn_x5 K Z Z Z) Z (i8 (s_l1Mark_ok (x5.toNat : Int) x6 hx6) Z ((d9 (Z) i7)) Z Z (xn 1 Z (N7 F Z (fun G F => ?_) (fun G F => ?_))))))))
    ·obtain rfl := e9 F
     exact c6 (c8 [] Z (gn 1 Z (j9 (o9 (m9 (I4 (o9 (m9 (m6 Z (f7 _))))))))))
    ·obtain ⟨H1, F⟩ := e7 F
     exact d8 (C7 (c8 [0, 3] Z (gx 1 Z (l8 K Z Z Z H1 Z (xn 1 Z (j5 ⟨(i3 + 1), F, (e8 (d7 (d6 Z (d6 Z f9)) g7 Z Z Z Z))⟩))))))
   ·obtain rfl := e9 F
    exact k8 (J4 (J6 (l9 (qn 1 Z (u0 Z)))))
theorem uU (s : LB) (q : Bool) (F : cO s = some q) : FC Try.prog 163 [.str s] [] 8 (fun x _ => x = .bool q) := by
 unfold cO at F
 refine FC.of_le (bdy Try.func163 Try.ntmps163 Z Z Z (qn 1 Z (c6 (qn 1 Z (f6 (z4 (fun i2 => ⟨[(0, .str s), (3, .int .i64 i2)], [], 8, 29, []⟩) (kD s) LF 0 F (e8 (d7 (d6 Z (d6 Z f9)) g7 Z Z Z Z)) ?_))))))
 intro go3 i2 F
 replace F : E8 s go3 i2 = some q := F
 unfold E8 at F
 refine c6 (qn 4 Z (j1 F Z (fun G F => ?_) (fun G F => ?_)))
 ·obtain ⟨x4, hn_x4, F⟩ := c7 F
  refine d8 (c6 (f6 (qx 2 Z (sv Z (N9 hn_x4 K Z Z Z) Z (xq 2 Z (l5 (g := 14) F Z (fun G F => ?_) (fun G F => ?_)))))))
  ·obtain rfl := e9 F
   exact xn 11 Z (j7 Z (c6 (c8 [] Z (gn 1 Z (j9 (o9 (m9 (I4 (o9 (m9 (m6 Z (f7 _))))))))))))
  ·obtain ⟨x5, hn_x5, F⟩ := c7 F
   refine xq 2 Z (sv Z (N9 hn_x5 K Z Z Z) Z (xq 3 Z (l5 (g := 20) F Z (fun G F => ?_) (fun G F => ?_))))
   ·obtain rfl := e9 F
    exact xn 5 Z (j7 Z (c6 (c8 [] Z (gn 1 Z (j9 (o9 (m9 (I4 (o9 (m9 (m6 Z (f7 _))))))))))))
   ·obtain ⟨x6, hn_x6, F⟩ := c7 F
    refine xq 2 Z (sv Z (N9 hn_x6 K Z Z Z) Z (xn 2 Z (j1 F Z (fun G F => ?_) (fun G F => ?_))))
    ·obtain rfl := e9 F
     exact c6 (c8 [] Z (gn 1 Z (j9 (o9 (m9 (I4 (o9 (m9 (m6 Z (f7 _))))))))))
    ·obtain ⟨H1, F⟩ := e7 F
     exact d8 (C7 (c8 [0, 3, 15, 16, 17, 18, 21, 22, 23, 24] Z (gx 1 Z (l8 K Z Z Z H1 Z (xn 1 Z (j5 ⟨(i2 + 1), F, (e8 (d7 (d6 Z (d6 Z f9)) g7 Z Z Z Z))⟩))))))
 ·obtain rfl := e9 F
  exact k8 (J4 (J6 (l9 (qn 4 Z (u0 Z)))))
theorem s_l1Node_ok (kind : Int) (number : Int) (text : LB) (items : Int) (q : Bool) (F : kC kind number text items = some q) : FC Try.prog 160 [.int .i64 kind, .int .i64 number, .str text, .int .i64 items] [] 8 (fun x _ => x = .bool q) := by
 unfold kC at F
 refine FC.of_le (bdy Try.func160 Try.ntmps160 Z Z Z (qn 1 Z (c6 (qn 1 Z (f6 (qn 2 Z (j1 F Z (fun G F => ?_) (fun G F => ?_))))))))
 ·refine qx 3 Z (l5 (g := 14) F Z (fun G F => ?_) (fun G F => ?_))
  ·obtain rfl := e9 F
   exact xn 4 Z (u2 Z)
  ·obtain rfl := e9 F
   exact xn 4 Z (u2 Z)
 ·refine qn 2 Z (j1 F Z (fun G F => ?_) (fun G F => ?_))
  ·refine c6 (c8 [1, 2, 3] Z (gx 3 Z (l5 (g := 22) F Z (fun G F => ?_) (fun G F => ?_))))
   ·obtain ⟨x5, hx5, F⟩ := c7 F
    refine xq 1 Z (i8 (kA text x5 hx5) Z ((d9 (Z) i7)) Z Z (xq 2 Z (Q5 (g := 26) F Z (fun G F => ?_) (fun G F => ?_))))
    ·obtain rfl := e9 F
     exact xn 4 Z (u2 Z)
    ·obtain rfl := e9 F
     exact xn 4 Z (u2 Z)
   ·obtain rfl := e9 F
    exact xn 8 Z (u2 Z)
  ·refine qn 2 Z (j1 F Z (fun G F => ?_) (fun G F => ?_))
   ·obtain ⟨x5, hx5, F⟩ := c7 F
    refine c6 (c8 [1, 2, 3] Z (gx 1 Z (i8 (F9 number (-999999999) 999999999 x5 hx5) Z ((d9 (Z) (d9 (Z) (d9 (Z) i7)))) Z Z (xq 1 Z (Q5 (g := 34) F Z (fun G F => ?_) (fun G F => ?_))))))
    ·refine xq 4 Z (l5 (g := 38) F Z (fun G F => ?_) (fun G F => ?_))
     ·obtain rfl := e9 F
      exact xn 4 Z (u2 Z)
     ·obtain rfl := e9 F
      exact xn 4 Z (u2 Z)
    ·obtain rfl := e9 F
     exact xn 8 Z (u2 Z)
   ·refine c6 (c8 [1, 2, 3, 9] Z (gn 2 Z (j1 F Z (fun G F => ?_) (fun G F => ?_))))
    ·obtain ⟨x5, hx5, F⟩ := c7 F
     refine qx 1 Z (i8 (F9 number 0 1 x5 hx5) Z ((d9 (Z) (d9 (Z) (d9 (Z) i7)))) Z Z (xq 1 Z (Q5 (g := 46) F Z (fun G F => ?_) (fun G F => ?_))))
     ·refine xq 4 Z (l5 (g := 50) F Z (fun G F => ?_) (fun G F => ?_))
      ·obtain rfl := e9 F
       exact xn 4 Z (u2 Z)
      ·obtain rfl := e9 F
       exact xn 4 Z (u2 Z)
     ·obtain rfl := e9 F
      exact xn 8 Z (u2 Z)
    ·refine qn 2 Z (j1 F Z (fun G F => ?_) (fun G F => ?_))
     ·refine qx 3 Z (l5 (g := 58) F Z (fun G F => ?_) (fun G F => ?_))
      ·obtain ⟨x5, hx5, F⟩ := c7 F
       refine xq 1 Z (i8 (uU text x5 hx5) Z ((d9 (Z) i7)) Z Z (xq 2 Z (Q5 (g := 62) F Z (fun G F => ?_) (fun G F => ?_))))
       ·obtain rfl := e9 F
        exact xn 4 Z (u2 Z)
       ·obtain rfl := e9 F
        exact xn 4 Z (u2 Z)
      ·obtain rfl := e9 F
       exact xn 8 Z (u2 Z)
     ·obtain rfl := e9 F
      exact d8 (C7 (c6 (c8 [] Z (gn 1 Z (u0 Z)))))
def iM (t6 : PD → Option Bool) : Prop := ∀ (d : PD) (q : Bool), t6 d = some q → FC Try.prog 156 [.agg (cDat.row 0 d)] [] 8 (fun x _ => x = .bool q)
theorem uS (t6 : PD → Option Bool) (h_s_l1Nodes : iM t6) : iM (Z2 t6) := by
 intro d q F
 unfold Z2 at F
 refine FC.of_le (bdy Try.func156 Try.ntmps156 Z Z Z (qn 2 Z (c6 (qx 2 Z (sv Z (k7 cDat K Z Z Z) Z (xn 1 Z (f6 (z4 (fun x3 => ⟨[(1, .ptr 8 1 0 0), (6, .psl 0 4 (d.items.map (cDat.enc 0))), (7, .int .i64 (d.items.length : Int)), (8, .int .i64 x3)], [(8, ⟨4, [cDat.row 0 d]⟩)], 9, 26, []⟩) (fK t6 d) LF 0 F (e8 (d7 (d6 Z (g9 cDat Z (d6 Z (d6 Z f9)))) (u6 cDat Z g7) Z Z Z Z)) ?_))))))))
 intro go4 x3 F
 replace F : I1 t6 d go4 x3 = some q := F
 unfold I1 at F
 refine qn 1 Z (c6 (j1 F Z (fun G F => ?_) (fun G F => ?_)))
 ·obtain ⟨x5, hn_x5, F⟩ := c7 F
  obtain ⟨x6, hx6, F⟩ := c7 F
  refine d8 (c6 (f6 (qr (sv Z (j4 cDat hn_x5 K Z Z Z Z) Z (xn 3 Z (qx 1 Z (i8 (h_s_l1Nodes x5 x6 hx6) Z ((d9 (r9 cDat x5 Z) i7)) Z Z (xn 1 Z (N7 F Z (fun G F => ?_) (fun G F => ?_))))))))))
  ·obtain rfl := e9 F
   exact c6 (c8 [] Z (gn 1 Z (j9 (o9 (m9 (I4 (o9 (m9 (m6 Z (f7 _))))))))))
  ·obtain ⟨H1, F⟩ := e7 F
   exact d8 (C7 (c8 [1, 6, 7, 8] Z (j8 (l8 K Z Z Z H1 Z (xn 1 Z (j5 ⟨(x3 + 1), F, (e8 (d7 (d6 Z (g9 cDat Z (d6 Z (d6 Z f9)))) (u6 cDat Z g7) Z Z Z Z))⟩))))))
 ·obtain ⟨x5, hx5, F⟩ := c7 F
  obtain rfl := e9 F
  exact k8 (J4 (J6 (l9 (qx 8 Z (sv Z (k7 cDat K Z Z Z) Z (i8 (s_l1Node_ok d.kind d.number d.text (d.items.length : Int) x5 hx5) Z ((d9 (Z) (d9 (Z) (d9 (Z) (d9 (Z) i7))))) Z Z (xn 1 Z (u0 Z))))))))
theorem yE (n : Nat) : iM (t6 n) := by
 induction n with
 | zero => exact fun _ q h => by cases h
 | succ n ih => exact fun d q h => uS (t6 n) ih d q h
theorem xX (d : PD) (q : Bool) (F : fC d = some q) : FC Try.prog 145 [.agg (cDat.row 0 d)] [] 8 (fun x _ => x = .bool q) := by
 unfold fC at F
 obtain ⟨x2, hx2, F⟩ := c7 F
 refine FC.of_le (bdy Try.func145 Try.ntmps145 Z Z Z (qn 2 Z (qn 2 Z (qx 1 Z (B5 9 (s_l1Few_ok RF d 600 x2 hx2) Z (l3 (C6 _ (r9 cDat d Z)) (l3 Z B1)) Z Z Z Z Z (xq 1 Z (Q5 (g := 6) F Z (fun G F => ?_) (fun G F => ?_))))))))
 ·obtain ⟨x3, hx3, F⟩ := c7 F
  refine xq 1 Z (i8 (xV RF d x3 hx3) Z ((d9 (r9 cDat d Z) i7)) Z Z (xq 3 Z (l5 (g := 11) F Z (fun G F => ?_) (fun G F => ?_))))
  ·obtain ⟨x4, hx4, F⟩ := c7 F
   obtain rfl := e9 F
   exact xq 1 Z (i8 (yE RF d x4 hx4) Z ((d9 (r9 cDat d Z) i7)) Z Z (xn 2 Z (u0 Z)))
  ·obtain rfl := e9 F
   exact xn 4 Z (u0 Z)
 ·obtain rfl := e9 F
  exact xn 9 Z (u0 Z)
def dN (o2 : PD → PD → Option Bool) : Prop := ∀ (a : PD) (b : PD) (q : Bool), o2 a b = some q → FC Try.prog 146 [.agg (cDat.row 0 a), .agg (cDat.row 0 b)] [] 8 (fun x _ => x = .bool q)
theorem pT (o2 : PD → PD → Option Bool) (h_s_EqualData : dN o2) : dN (Q7 o2) := by
 intro a b q F
 unfold Q7 at F
 refine FC.of_le (bdy Try.func146 Try.ntmps146 Z Z Z (qn 3 Z (c6 (qx 6 Z (R9 (g := 11) F Z (fun G F => ?_) (fun G F => ?_))))))
 ·obtain rfl := e9 F
  exact xn 22 Z (j7 Z (c6 (c8 [] Z (gn 1 Z (u1 Z)))))
 ·refine xq 7 Z (R9 (g := 18) F Z (fun G F => ?_) (fun G F => ?_))
  ·obtain rfl := e9 F
   exact xn 15 Z (j7 Z (c6 (c8 [] Z (gn 1 Z (u1 Z)))))
  ·refine xq 7 Z (R9 (g := 25) F Z (fun G F => ?_) (fun G F => ?_))
   ·obtain rfl := e9 F
    exact xn 8 Z (j7 Z (c6 (c8 [] Z (gn 1 Z (u1 Z)))))
   ·refine xq 2 Z (sv Z (k7 cDat K Z Z Z) Z (xq 2 Z (sv Z (k7 cDat K Z Z Z) Z (xn 2 Z (v5 F Z (fun G F => ?_) (fun G F => ?_))))))
    ·obtain rfl := e9 F
     exact c6 (c8 [] Z (gn 1 Z (u1 Z)))
    ·refine d8 (c6 (c6 (c8 [2, 3] Z (gx 2 Z (sv Z (k7 cDat K Z Z Z) Z (xn 1 Z (f6 (z4 (fun x4 => ⟨[(2, .ptr 8 1 0 0), (3, .ptr 9 1 0 0), (36, .int .i64 (a.items.length : Int)), (37, .int .i64 x4)], [(8, ⟨4, [cDat.row 0 a]⟩), (9, ⟨4, [cDat.row 0 b]⟩)], 10, 53, []⟩) (bE o2 a b) LF 0 F (e8 (d7 (d6 Z (d6 Z (d6 Z (d6 Z f9)))) (u6 cDat Z (u6 cDat Z g7)) Z Z Z Z)) ?_))))))))
     intro go5 x4 F
     replace F : Y9 o2 a b go5 x4 = some q := F
     unfold Y9 at F
     refine qn 1 Z (c6 (j1 F Z (fun G F => ?_) (fun G F => ?_)))
     ·obtain ⟨x6, hn_x6, F⟩ := c7 F
      obtain ⟨x7, hn_x7, F⟩ := c7 F
      obtain ⟨x8, hx8, F⟩ := c7 F
      refine d8 (c6 (f6 (qn 2 Z (c6 (D1 (id := 6) 10 (by kernel_rfl) (by kernel_rfl) (nx K Z (nx K Z (nx K Z (nv Z (j4 cDat hn_x6 K Z Z Z Z) Z (nx K Z (nx K Z (nx K Z (nx K Z (nv Z (j4 cDat hn_x7 K Z Z Z Z) Z (nx K Z (aM Z (i8 (h_s_EqualData x6 x7 x8 hx8) Z ((d9 (r9 cDat x6 Z) (d9 (r9 cDat x7 Z) i7))) Z Z (xn 1 Z (N7 F Z (fun G F => ?_) (fun G F => ?_))))))))))))))))))))
      ·obtain rfl := e9 F
       exact c6 (c8 [] Z (gn 1 Z (j9 (o9 (m9 (I4 (o9 (m9 (m6 Z (f7 _))))))))))
      ·obtain ⟨H1, F⟩ := e7 F
       exact d8 (C7 (c8 [2, 3, 36, 37] Z (j8 (l8 K Z Z Z H1 Z (xn 1 Z (j5 ⟨(x4 + 1), F, (e8 (d7 (d6 Z (d6 Z (d6 Z (d6 Z f9)))) (u6 cDat Z (u6 cDat Z g7)) Z Z Z Z))⟩))))))
     ·obtain rfl := e9 F
      exact k8 (J4 (J6 (l9 (qn 1 Z (u0 Z)))))
theorem rB (n : Nat) : dN (o2 n) := by
 induction n with
 | zero => exact fun _ _ q h => by cases h
 | succ n ih => exact fun a b q h => pT (o2 n) ih a b q h
theorem uO (op : Int) (q : Bool) (F : gC op = some q) : FC Try.prog 147 [.int .i64 op] [] 8 (fun x _ => x = .bool q) := by
 unfold gC at F
 refine FC.of_le (bdy Try.func147 Try.ntmps147 Z Z Z (qn 1 Z (qx 3 Z (l5 (g := 5) F Z (fun G F => ?_) (fun G F => ?_)))))
 ·obtain rfl := e9 F
  exact xn 4 Z (u0 Z)
 ·obtain rfl := e9 F
  exact xn 4 Z (u0 Z)
theorem uN (x_1 : PInstr) (q : Bool) (F : cL x_1 = some q) : FC Try.prog 128 [.agg (cInstr.row 0 x_1)] [] 8 (fun x _ => x = .bool q) := by
 unfold cL at F
 obtain ⟨x2, hx2, F⟩ := c7 F
 refine FC.of_le (bdy Try.func128 Try.ntmps128 Z Z Z (qn 2 Z (c6 (qx 2 Z (i8 (F9 x_1.op 1 20 x2 hx2) Z ((d9 (Z) (d9 (Z) (d9 (Z) i7)))) Z Z (xn 1 Z (N7 F Z (fun G F => ?_) (fun G F => ?_))))))))
 ·obtain rfl := e9 F
  exact c6 (c8 [] Z (gn 1 Z (u1 Z)))
 ·refine d8 (c6 (qn 3 Z (j1 F Z (fun G F => ?_) (fun G F => ?_))))
  ·refine c6 (c8 [1] Z (gx 4 Z (l5 (g := 13) F Z (fun G F => ?_) (fun G F => ?_))))
   ·obtain ⟨x3, hx3, F⟩ := c7 F
    obtain rfl := e9 F
    exact xq 2 Z (i8 (xX x_1.d x3 hx3) Z ((d9 (r9 cDat x_1.d Z) i7)) Z Z (xn 2 Z (u1 Z)))
   ·obtain rfl := e9 F
    exact xn 5 Z (u1 Z)
  ·obtain ⟨x3, hx3, F⟩ := c7 F
   refine d8 (c6 (c8 [1] Z (gx 2 Z (sv Z (p9 K Z Z) Z (i8 (FC.weaken (rB RF x_1.d (PD.mk 0 0 ([] : LB) []) x3 hx3) (.cons (f7 _) (.cons (S9 (.cons (f7 _) (.cons (f7 _) (.cons (f7 _) (.cons (u5 _ _) .nil))))) .nil))) Z ((d9 (r9 cDat x_1.d Z) (d9 (rl_aggL (d9 (Z) (d9 (Z) (d9 (Z) (d9 (Z) i7))))) i7))) Z Z (xq 1 Z (Q5 (g := 22) F Z (fun G F => ?_) (fun G F => ?_))))))))
   ·obtain ⟨x4, hx4, F⟩ := c7 F
    refine xq 2 Z (i8 (F9 x_1.a 0 4000 x4 hx4) Z ((d9 (Z) (d9 (Z) (d9 (Z) i7)))) Z Z (xq 2 Z (Q5 (g := 27) F Z (fun G F => ?_) (fun G F => ?_))))
    ·refine xq 4 Z (l5 (g := 31) F Z (fun G F => ?_) (fun G F => ?_))
     ·obtain rfl := e9 F
      exact xn 7 Z (u0 Z)
     ·obtain ⟨x5, hx5, F⟩ := c7 F
      obtain rfl := e9 F
      exact xq 2 Z (i8 (uO x_1.op x5 hx5) Z ((d9 (Z) i7)) Z Z (xn 4 Z (u0 Z)))
    ·obtain rfl := e9 F
     exact xn 11 Z (u0 Z)
   ·obtain rfl := e9 F
    exact xn 16 Z (u0 Z)
theorem iJ (q : List (LB)) (F : N6 = some q) : FC Try.prog 119 [] [] 8 (fun x _ => x = .psl 1 1 (q.map (cStr.enc 1))) := by
 unfold N6 at F
 obtain rfl := e9 F
 exact FC.of_le (bdy Try.func119 Try.ntmps119 Z Z Z (qn 1 Z (qr (B2 cStr (l := 0) ([([43] : LB), ([45] : LB), ([42] : LB), ([61] : LB), ([60] : LB), ([99, 111, 110, 115] : LB), ([99, 97, 114] : LB), ([99, 100, 114] : LB), ([110, 117, 108, 108, 63] : LB), ([112, 97, 105, 114, 63] : LB), ([110, 117, 109, 98, 101, 114, 63] : LB), ([101, 113, 63] : LB), ([110, 111, 116] : LB), ([100, 105, 115, 112, 108, 97, 121] : LB)] : List (LB)) K Z Z Z Z Z Z Z (xn 1 Z (bA (L7 0 Z Z (by simp) Z) (u0 Z)))))))
theorem yB (m : PImage) (x_1 : Int) (x_2 : PInstr) (q : Bool) (F : fF m x_1 x_2 = some q) : FC Try.prog 129 [.agg (cImage.row 0 m), .int .i64 x_1, .agg (cInstr.row 0 x_2)] [] 8 (fun x _ => x = .bool q) := by
 unfold fF at F
 obtain ⟨x4, hn_x4, F⟩ := c7 F
 refine FC.of_le (bdy Try.func129 Try.ntmps129 Z Z Z (qn 3 Z (qx 3 Z (sv Z (j4 cCode hn_x4 K Z Z Z Z) Z (xn 3 Z (c6 (c6 (c8 [1, 3, 5, 7] Z (gn 2 Z (f6 (qn 2 Z (j1 F Z (fun G F => ?_) (fun G F => ?_)))))))))))))
 ·obtain ⟨x5, hx5, F⟩ := c7 F
  obtain rfl := e9 F
  exact c6 (c8 [5] Z (D1 (id := 4) 4 (by kernel_rfl) (by kernel_rfl) (nx K Z (nx K Z (sI (iJ  x5 hx5) Z (i7) (mS cStr x5 Z) Z (nv Z (k7 cStr K Z Z Z) Z (aM Z (xn 2 Z (u2 Z)))))))))
 ·refine c6 (qn 2 Z (j1 F Z (fun G F => ?_) (fun G F => ?_)))
  ·obtain rfl := e9 F
   exact d8 (j7 Z (c6 (c8 [5, 7] Z (gn 6 Z (u2 Z)))))
  ·refine qn 2 Z (j1 F Z (fun G F => ?_) (fun G F => ?_))
   ·obtain rfl := e9 F
    exact d8 (j7 Z (c6 (c8 [5, 7] Z (gn 6 Z (u2 Z)))))
   ·refine gn 2 Z (j1 F Z (fun G F => ?_) (fun G F => ?_))
    ·obtain rfl := e9 F
     exact c6 (c8 [5, 7] Z (gn 6 Z (u2 Z)))
    ·refine c6 (c8 [1, 3, 5, 7, 14] Z (gn 2 Z (j1 F Z (fun G F => ?_) (fun G F => ?_))))
     ·obtain ⟨H1, F⟩ := e7 F
      obtain ⟨x5, hx5, F⟩ := c7 F
      obtain rfl := e9 F
      exact qx 6 Z (aI K Z Z Z H1 Z (i8 (F9 x_2.a x4.params (x4.slots - 1) x5 hx5) Z ((d9 (Z) (d9 (Z) (d9 (Z) i7)))) Z Z (xn 1 Z (u2 Z))))
     ·refine qn 2 Z (j1 F Z (fun G F => ?_) (fun G F => ?_))
      ·obtain rfl := e9 F
       exact c6 (c8 [5, 7] Z (gn 6 Z (u2 Z)))
      ·refine c6 (qn 2 Z (j1 F Z (fun G F => ?_) (fun G F => ?_)))
       ·obtain rfl := e9 F
        exact d8 (j7 Z (c6 (c8 [5, 7] Z (gn 6 Z (u2 Z)))))
       ·refine qn 2 Z (j1 F Z (fun G F => ?_) (fun G F => ?_))
        ·obtain rfl := e9 F
         exact d8 (j7 Z (c6 (c8 [5, 7] Z (gn 6 Z (u2 Z)))))
        ·refine c8 [1, 3, 5, 7, 14] Z (gn 2 Z (j1 F Z (fun G F => ?_) (fun G F => ?_)))
         ·obtain rfl := e9 F
          exact qn 6 Z (u2 Z)
         ·refine qn 2 Z (j1 F Z (fun G F => ?_) (fun G F => ?_))
          ·refine qx 5 Z (l5 (g := 63) F Z (fun G F => ?_) (fun G F => ?_))
           ·obtain ⟨x5, hn_x5, F⟩ := c7 F
            obtain rfl := e9 F
            exact xq 4 Z (sv Z (j4 cCode hn_x5 K Z Z Z Z) Z (xn 5 Z (u2 Z)))
           ·obtain rfl := e9 F
            exact xn 10 Z (u2 Z)
          ·refine c6 (qn 2 Z (v7 (fun (x5 : Bool) => ⟨[(1, .int .i64 x_1), (3, .ptr 8 1 0 0), (5, .ptr 9 1 0 0), (14, .int .i64 x_2.op), (73, .bool x5)], [(8, ⟨2, [cImage.row 0 m]⟩), (9, ⟨6, [cInstr.row 0 x_2]⟩)], 10, 112, []⟩) (fun x5 => O7 m x_1 x_2 x5 = some q) ?_ ?_))
           ·refine j1 F Z (fun G F => ?_) (fun G F => ?_)
            ·exact d8 (l0 ⟨true, F, (e8 (d7 (d6 Z (d6 Z (d6 Z (d6 Z (d6 Z f9))))) (u6 cImage Z (u6 cInstr Z g7)) Z Z Z Z))⟩)
            ·exact c8 [1, 3, 5, 14] Z (gn 2 Z (l0 ⟨(decide (x_2.op = 20)), F, (e8 (d7 (d6 Z (d6 Z (d6 Z (d6 Z (d6 Z f9))))) (u6 cImage Z (u6 cInstr Z g7)) Z Z Z Z))⟩))
           ·intro x5 F
            replace F : O7 m x_1 x_2 x5 = some q := F
            unfold O7 at F
            refine qR F Z (fun G F => ?_) (fun G F => ?_)
            ·refine qx 5 Z (l5 (g := 80) F Z (fun G F => ?_) (fun G F => ?_))
             ·obtain ⟨x6, hn_x6, F⟩ := c7 F
              obtain rfl := e9 F
              exact xq 4 Z (sv Z (j4 cCode hn_x6 K Z Z Z Z) Z (xn 5 Z (u2 Z)))
             ·obtain rfl := e9 F
              exact xn 10 Z (u2 Z)
            ·refine qn 2 Z (j1 F Z (fun G F => ?_) (fun G F => ?_))
             ·refine qx 5 Z (l5 (g := 96) F Z (fun G F => ?_) (fun G F => ?_))
              ·obtain ⟨x6, hn_x6, F⟩ := c7 F
               obtain rfl := e9 F
               exact xq 4 Z (sv Z (j4 cCode hn_x6 K Z Z Z Z) Z (xn 5 Z (u2 Z)))
              ·obtain rfl := e9 F
               exact xn 10 Z (u2 Z)
             ·refine c6 (qn 2 Z (j1 F Z (fun G F => ?_) (fun G F => ?_)))
              ·obtain rfl := e9 F
               exact d8 (j7 Z (c6 (c8 [5] Z (gn 4 Z (u2 Z)))))
              ·refine c8 [5, 14] Z (gn 2 Z (j1 F Z (fun G F => ?_) (fun G F => ?_)))
               ·obtain rfl := e9 F
                exact qn 4 Z (u2 Z)
               ·obtain rfl := e9 F
                exact d8 (C7 (qn 1 Z (u0 Z)))
theorem xZ (m : PImage) (x_1 : Int) (q : Bool) (F : fE m x_1 = some q) : FC Try.prog 102 [.agg (cImage.row 0 m), .int .i64 x_1] [] 8 (fun x _ => x = .bool q) := by
 unfold fE at F
 obtain ⟨x3, hn_x3, F⟩ := c7 F
 obtain ⟨x4, hx4, F⟩ := c7 F
 refine FC.of_le (bdy Try.func102 Try.ntmps102 Z Z Z (qn 2 Z (qx 3 Z (sv Z (j4 cCode hn_x3 K Z Z Z Z) Z (xn 3 Z (c6 (c6 (c8 [1, 2, 5] Z (gx 2 Z (i8 (F9 x3.params 0 8 x4 hx4) Z ((d9 (Z) (d9 (Z) (d9 (Z) i7)))) Z Z (xq 2 Z (J3 (g := 17) F Z (fun G F => ?_) (fun G F => ?_)))))))))))))
 ·obtain rfl := e9 F
  exact xn 20 Z (j7 Z (c6 (c8 [] Z (gn 1 Z (u1 Z)))))
 ·obtain ⟨x5, hx5, F⟩ := c7 F
  refine xq 4 Z (i8 (F9 x3.slots x3.params 500 x5 hx5) Z ((d9 (Z) (d9 (Z) (d9 (Z) i7)))) Z Z (xq 3 Z (J3 (g := 25) F Z (fun G F => ?_) (fun G F => ?_))))
  ·obtain rfl := e9 F
   exact xn 12 Z (j7 Z (c6 (c8 [] Z (gn 1 Z (u1 Z)))))
  ·obtain ⟨x6, hx6, F⟩ := c7 F
   refine xq 2 Z (i8 (F9 x3.captures 0 500 x6 hx6) Z ((d9 (Z) (d9 (Z) (d9 (Z) i7)))) Z Z (xq 3 Z (J3 (g := 31) F Z (fun G F => ?_) (fun G F => ?_))))
   ·obtain rfl := e9 F
    exact xn 6 Z (j7 Z (c6 (c8 [] Z (gn 1 Z (u1 Z)))))
   ·obtain ⟨x7, hx7, F⟩ := c7 F
    refine xq 2 Z (sv Z (k7 cInstr K Z Z Z) Z (i8 (F9 (x3.instrs.length : Int) 1 4000 x7 hx7) Z ((d9 (Z) (d9 (Z) (d9 (Z) i7)))) Z Z (xn 2 Z (N7 F Z (fun G F => ?_) (fun G F => ?_)))))
    ·obtain rfl := e9 F
     exact c6 (c8 [] Z (gn 1 Z (u1 Z)))
    ·refine d8 (c6 (c6 (c8 [1, 2, 5] Z (gx 2 Z (sv Z (k7 cInstr K Z Z Z) Z (xn 1 Z (f6 (z4 (fun x8 => ⟨[(1, .int .i64 x_1), (2, .ptr 8 1 0 0), (39, .psl 0 6 (x3.instrs.map (cInstr.enc 0))), (40, .int .i64 (x3.instrs.length : Int)), (41, .int .i64 x8)], [(8, ⟨2, [cImage.row 0 m]⟩)], 10, 56, []⟩) (mE m x_1 x3) LF 0 F (e8 (d7 (d6 Z (d6 Z (g9 cInstr Z (d6 Z (d6 Z f9))))) (u6 cImage Z g7) Z Z Z Z)) ?_))))))))
     intro go9 x8 F
     replace F : G7 m x_1 x3 go9 x8 = some q := F
     unfold G7 at F
     refine qn 1 Z (c6 (j1 F Z (fun G F => ?_) (fun G F => ?_)))
     ·obtain ⟨x10, hn_x10, F⟩ := c7 F
      obtain ⟨x11, hx11, F⟩ := c7 F
      refine d8 (c6 (f6 (qr (sv Z (j4 cInstr hn_x10 K Z Z Z Z) Z (xn 3 Z (qx 1 Z (i8 (uN x10 x11 hx11) Z ((d9 (r9 cInstr x10 Z) i7)) Z Z (xq 2 Z (J3 (g := 48) F Z (fun G F => ?_) (fun G F => ?_))))))))))
      ·obtain rfl := e9 F
       exact xn 6 Z (j7 Z (c6 (c8 [] Z (gn 1 Z (j9 (o9 (m9 (I4 (o9 (m9 (m6 Z (f7 _))))))))))))
      ·obtain ⟨x12, hx12, F⟩ := c7 F
       refine xq 3 Z (i8 (yB m x_1 x10 x12 hx12) Z ((d9 (r9 cImage m Z) (d9 (Z) (d9 (r9 cInstr x10 Z) i7)))) Z Z (xn 2 Z (N7 F Z (fun G F => ?_) (fun G F => ?_))))
       ·obtain rfl := e9 F
        exact c6 (c8 [] Z (gn 1 Z (j9 (o9 (m9 (I4 (o9 (m9 (m6 Z (f7 _))))))))))
       ·obtain ⟨H1, F⟩ := e7 F
        exact d8 (C7 (c8 [1, 2, 39, 40, 41, 49, 50, 51, 52, 53] Z (j8 (l8 K Z Z Z H1 Z (xn 1 Z (j5 ⟨(x8 + 1), F, (e8 (d7 (d6 Z (d6 Z (g9 cInstr Z (d6 Z (d6 Z f9))))) (u6 cImage Z g7) Z Z Z Z))⟩))))))
     ·obtain rfl := e9 F
      exact k8 (J4 (J6 (l9 (qn 1 Z (u0 Z)))))
theorem rF (m : PImage) (x_1 : PInstr) (q : Int × Int) (F : Z1 m x_1 = some q) : FC Try.prog 130 [.agg (cImage.row 0 m), .agg (cInstr.row 0 x_1)] [] 8 (fun x _ => x = .tup [.int .i64 q.1, .int .i64 q.2]) := by
 unfold Z1 at F
 refine FC.of_le (bdy Try.func130 Try.ntmps130 Z Z Z (qn 4 Z (c6 (qn 2 Z (f6 (c6 (qn 2 Z (j1 F Z (fun G F => ?_) (fun G F => ?_)))))))))
 ·obtain rfl := e9 F
  exact d8 (j7 Z (c6 (c8 [] Z (gn 2 Z (u2 Z)))))
 ·refine c6 (c8 [2, 3, 7] Z (gn 2 Z (j1 F Z (fun G F => ?_) (fun G F => ?_))))
  ·obtain rfl := e9 F
   exact d8 (j7 Z (qn 2 Z (u2 Z)))
  ·refine qn 2 Z (j1 F Z (fun G F => ?_) (fun G F => ?_))
   ·obtain rfl := e9 F
    exact d8 (j7 Z (qn 2 Z (u2 Z)))
   ·refine qn 2 Z (j1 F Z (fun G F => ?_) (fun G F => ?_))
    ·obtain rfl := e9 F
     exact d8 (j7 Z (c6 (c8 [] Z (gn 2 Z (u2 Z)))))
    ·refine qn 2 Z (j1 F Z (fun G F => ?_) (fun G F => ?_))
     ·obtain rfl := e9 F
      exact d8 (j7 Z (c6 (c8 [] Z (gn 2 Z (u2 Z)))))
     ·refine gn 2 Z (j1 F Z (fun G F => ?_) (fun G F => ?_))
      ·obtain rfl := e9 F
       exact c6 (c8 [] Z (gn 2 Z (u2 Z)))
      ·refine c6 (qn 2 Z (j1 F Z (fun G F => ?_) (fun G F => ?_)))
       ·obtain rfl := e9 F
        exact d8 (j7 Z (c6 (c8 [] Z (gn 2 Z (u2 Z)))))
       ·refine c8 [2, 3, 7] Z (gn 2 Z (j1 F Z (fun G F => ?_) (fun G F => ?_)))
        ·obtain rfl := e9 F
         exact qn 2 Z (u2 Z)
        ·refine c6 (qn 2 Z (j1 F Z (fun G F => ?_) (fun G F => ?_)))
         ·obtain ⟨x3, hn_x3, F⟩ := c7 F
          obtain rfl := e9 F
          exact d8 (j7 Z (qx 4 Z (sv Z (j4 cCode hn_x3 K Z Z Z Z) Z (xn 4 Z (u2 Z)))))
         ·refine qn 2 Z (j1 F Z (fun G F => ?_) (fun G F => ?_))
          ·obtain ⟨x3, hn_x3, F⟩ := c7 F
           obtain rfl := e9 F
           exact d8 (j7 Z (qx 4 Z (sv Z (j4 cCode hn_x3 K Z Z Z Z) Z (xn 4 Z (u2 Z)))))
          ·refine qn 2 Z (j1 F Z (fun G F => ?_) (fun G F => ?_))
           ·obtain ⟨x3, hn_x3, F⟩ := c7 F
            obtain rfl := e9 F
            exact d8 (j7 Z (c6 (c8 [2, 3] Z (gx 4 Z (sv Z (j4 cCode hn_x3 K Z Z Z Z) Z (xn 4 Z (u2 Z)))))))
           ·refine gn 2 Z (j1 F Z (fun G F => ?_) (fun G F => ?_))
            ·obtain ⟨x3, hn_x3, F⟩ := c7 F
             obtain rfl := e9 F
             exact c6 (c8 [2, 3] Z (gx 4 Z (sv Z (j4 cCode hn_x3 K Z Z Z Z) Z (xn 4 Z (u2 Z)))))
            ·refine c6 (c8 [3, 7] Z (gn 2 Z (j1 F Z (fun G F => ?_) (fun G F => ?_))))
             ·obtain ⟨H1, F⟩ := e7 F
              obtain rfl := e9 F
              exact qx 2 Z (l8 K Z Z Z H1 Z (xn 2 Z (u2 Z)))
             ·refine qn 2 Z (j1 F Z (fun G F => ?_) (fun G F => ?_))
              ·obtain ⟨H1, F⟩ := e7 F
               obtain rfl := e9 F
               exact qx 2 Z (l8 K Z Z Z H1 Z (xn 2 Z (u2 Z)))
              ·refine c6 (qn 2 Z (j1 F Z (fun G F => ?_) (fun G F => ?_)))
               ·obtain rfl := e9 F
                exact d8 (j7 Z (c6 (c8 [] Z (gn 2 Z (u2 Z)))))
               ·refine c6 (c8 [7] Z (gn 2 Z (j1 F Z (fun G F => ?_) (fun G F => ?_))))
                ·obtain rfl := e9 F
                 exact d8 (j7 Z (qn 2 Z (u2 Z)))
                ·refine gn 2 Z (j1 F Z (fun G F => ?_) (fun G F => ?_))
                 ·obtain rfl := e9 F
                  exact qn 2 Z (u2 Z)
                 ·obtain rfl := e9 F
                  exact d8 (C7 (qn 2 Z (u0 Z)))
theorem rD (m : PImage) (x_1 : Int) (q : LI × Bool) (F : Z0 m x_1 = some q) : FC Try.prog 103 [.agg (cImage.row 0 m), .int .i64 x_1] [] 8 (fun x _ => x = .tup [.psl 1 1 (q.1.map (cInt.enc 1)), .bool q.2]) := by
 unfold Z0 at F
 obtain ⟨x3, hn_x3, F⟩ := c7 F
 obtain ⟨H1, F⟩ := e7 F
 refine FC.of_le (bdy Try.func103 Try.ntmps103 Z Z Z (qn 3 Z (qx 3 Z (sv Z (j4 cCode hn_x3 K Z Z Z Z) Z (xn 3 Z (c6 (c8 [2, 6] Z (gx 1 Z (sv Z (k7 cInstr K Z Z Z) Z (W6 cInt (l := 0) (v := (0 : Int)) H1 K Z Z Z Z (cR _) Z Z Z Z (xn 1 Z (c6 (qx 1 Z (sv Z (C8 cInt K Z Z Z) Z (xn 1 Z (f6 (m0 (fun x4 depths5 => ⟨[(2, .ptr 8 1 0 0), (6, .psl 0 6 (x3.instrs.map (cInstr.enc 0))), (7, .hsl 9 0 depths5.length), (27, .int .i64 ((List.replicate (x3.instrs.length : Int).toNat (0 : Int)).length : Int)), (28, .int .i64 x4)], [(8, ⟨2, [cImage.row 0 m]⟩), (9, ⟨1, depths5.map (cInt.enc 0)⟩)], 10, 151, []⟩) (bF m x3) LF 0 (List.replicate (x3.instrs.length : Int).toNat (0 : Int)) F (e8 (d7 (d6 Z (g9 cInstr Z (d6 Z (d6 Z (d6 Z f9))))) (u6 cImage Z (j3 Z g7)) Z Z Z Z)) ?_)))))))))))))))))
 intro go6 x4 depths5 F
 replace F : B7 m x3 go6 x4 depths5 = some q := F
 unfold B7 at F
 refine qn 1 Z (c6 (j1 F Z (fun G F => ?_) (fun G F => ?_)))
 ·obtain ⟨x7, hn_x7, F⟩ := c7 F
  obtain ⟨H1, F⟩ := e7 F
  exact d8 (c6 (f6 (qn 2 Z (gx 2 Z (sv Z (l4 cInt hn_x7 K Z Z Z Z) Z (t8 cInt (v' := (-1)) hn_x7 K Z Z Z Z Z Z Z Z (j6 (m7 (y := .hsl 9 0 (depths5.set x4.toNat (-1)).length) 7 Z (s4 (congrArg (V.hsl 9 0) (by simp))) Z) (i9 (C7 (j8 (l8 K Z Z Z H1 Z (xn 1 Z (j5 ⟨((x4 + 1), (depths5.set x4.toNat (-1))), F, (e8 (d7 (d6 Z (g9 cInstr Z (d6 Z (d6 Z (d6 Z f9))))) (u6 cImage Z (j3 Z g7)) Z Z Z Z))⟩)))))))))))))
 ·refine k8 (J4 (J6 (l9 (c6 (qx 1 Z (sv Z (k7 cInstr K Z Z Z) Z (xn 1 Z (j1 F Z (fun G F => ?_) (fun G F => ?_)))))))))
  ·obtain rfl := e9 F
   exact c6 (c8 [] Z (gn 2 Z (j9 (m9 (m6 Z (T5 (.cons (u5 _ _) (.cons (f7 _) .nil))))))))
  ·obtain ⟨x7, hn_x7, F⟩ := c7 F
   refine d8 (qx 1 Z (sv Z (l4 cInt hn_x7 K Z Z Z Z) Z (t8 cInt (v' := 0) hn_x7 K Z Z Z Z Z Z Z Z (j6 (m7 (y := .hsl 9 0 (depths5.set (0 : Int).toNat 0).length) 7 Z (s4 (congrArg (V.hsl 9 0) (by simp))) Z) (i9 (c6 (c6 (c8 [2, 6, 7] Z (gx 1 Z (sv Z (k7 cInstr K Z Z Z) Z (xn 1 Z (f6 (m0 (fun x8 depths9 => ⟨[(2, .ptr 8 1 0 0), (6, .psl 0 6 (x3.instrs.map (cInstr.enc 0))), (7, .hsl 9 0 depths9.length), (40, .psl 0 6 (x3.instrs.map (cInstr.enc 0))), (41, .int .i64 (x3.instrs.length : Int)), (42, .int .i64 x8)], [(8, ⟨2, [cImage.row 0 m]⟩), (9, ⟨1, depths9.map (cInt.enc 0)⟩)], 10, 151, []⟩) (T7 m x3) LF 0 (depths5.set (0 : Int).toNat 0) F (e8 (d7 (d6 Z (g9 cInstr Z (d6 Z (g9 cInstr Z (d6 Z (d6 Z f9)))))) (u6 cImage Z (j3 Z g7)) Z Z Z Z)) ?_)))))))))))))
   intro go10 x8 depths9 F
   replace F : B8 m x3 go10 x8 depths9 = some q := F
   unfold B8 at F
   refine qn 1 Z (c6 (j1 F Z (fun G F => ?_) (fun G F => ?_)))
   ·refine d8 (c6 (v7 (fun (depths11 : LI) => ⟨[(2, .ptr 8 1 0 0), (6, .psl 0 6 (x3.instrs.map (cInstr.enc 0))), (7, .hsl 9 0 depths11.length), (40, .psl 0 6 (x3.instrs.map (cInstr.enc 0))), (41, .int .i64 (x3.instrs.length : Int)), (42, .int .i64 x8)], [(8, ⟨2, [cImage.row 0 m]⟩), (9, ⟨1, depths11.map (cInt.enc 0)⟩)], 10, 151, []⟩) (fun depths11 => z7 x8 go10 depths11 = some q) ?_ ?_))
    ·obtain ⟨x11, hn_x11, F⟩ := c7 F
     obtain ⟨x12, hn_x12, F⟩ := c7 F
     refine f6 (qx 1 Z (sv Z (j4 cInstr hn_x11 K Z Z Z Z) Z (xn 4 Z (c6 (qx 2 Z (sv Z (l4 cInt hn_x12 K Z Z Z Z) Z (sv Z (L6 cInt hn_x12 K Z Z Z Z) Z (xn 1 Z (j1 F Z (fun G F => ?_) (fun G F => ?_))))))))))
     ·exact k8 (J4 (l9 (l0 ⟨depths9, F, (e8 (d7 (d6 Z (g9 cInstr Z (d6 Z (g9 cInstr Z (d6 Z (d6 Z f9)))))) (u6 cImage Z (j3 Z g7)) Z Z Z Z))⟩)))
     ·obtain ⟨x13, hx13, F⟩ := c7 F
      obtain ⟨x14, hn_x14, F⟩ := c7 F
      obtain ⟨H1, F⟩ := e7 F
      refine d8 (c6 (c8 [2, 6, 7, 9, 10, 40, 41, 42] Z (gx 2 Z (i8 (rF m x11 x13 hx13) Z ((d9 (r9 cImage m Z) (d9 (r9 cInstr x11 Z) i7))) (pR (d9 (Z) (d9 (Z) i7))) Z (xn 5 Z (qx 2 Z (sv Z (l4 cInt hn_x14 K Z Z Z Z) Z (sv Z (L6 cInt hn_x14 K Z Z Z Z) Z (xq 1 Z (aI K Z Z Z H1 Z (xn 1 Z (c6 (c6 (v7 (fun (x15 : Bool) => ⟨[(2, .ptr 8 1 0 0), (6, .psl 0 6 (x3.instrs.map (cInstr.enc 0))), (7, .hsl 9 0 depths9.length), (9, .int .i64 x8), (10, .ptr 10 1 0 0), (12, .int .i64 x13.2), (13, .int .i64 (x14 - x13.1)), (40, .psl 0 6 (x3.instrs.map (cInstr.enc 0))), (41, .int .i64 (x3.instrs.length : Int)), (42, .int .i64 x8), (89, .bool x15)], [(8, ⟨2, [cImage.row 0 m]⟩), (9, ⟨1, depths9.map (cInt.enc 0)⟩), (10, ⟨6, [cInstr.row 0 x11]⟩)], 11, 151, []⟩) (fun x15 => q8 x3 x8 depths9 go10 x11 x13 x14 x15 = some q) ?_ ?_))))))))))))))
      ·refine c8 [2, 6, 7, 9, 10, 12, 13, 40, 41, 42] Z (gx 3 Z (l5 (g := 66) F Z (fun G F => ?_) (fun G F => ?_)))
       ·exact xn 23 Z (l0 ⟨true, F, (e8 (d7 (d6 Z (g9 cInstr Z (d6 Z (d6 Z (d6 Z (d6 Z (d6 Z (g9 cInstr Z (d6 Z (d6 Z (d6 Z f9))))))))))) (u6 cImage Z (j3 Z (u6 cInstr Z g7))) Z Z Z Z))⟩)
       ·obtain ⟨H1, F⟩ := e7 F
        refine xq 2 Z (l8 K Z Z Z H1 Z (xq 3 Z (l5 (g := 72) F Z (fun G F => ?_) (fun G F => ?_))))
        ·exact xn 17 Z (l0 ⟨true, F, (e8 (d7 (d6 Z (g9 cInstr Z (d6 Z (d6 Z (d6 Z (d6 Z (d6 Z (g9 cInstr Z (d6 Z (d6 Z (d6 Z f9))))))))))) (u6 cImage Z (j3 Z (u6 cInstr Z g7))) Z Z Z Z))⟩)
        ·refine xq 4 Z (l5 (g := 76) F Z (fun G F => ?_) (fun G F => ?_))
         ·refine xq 5 Z (R9 (g := 81) F Z (fun G F => ?_) (fun G F => ?_))
          ·exact xn 8 Z (l0 ⟨true, F, (e8 (d7 (d6 Z (g9 cInstr Z (d6 Z (d6 Z (d6 Z (d6 Z (d6 Z (g9 cInstr Z (d6 Z (d6 Z (d6 Z f9))))))))))) (u6 cImage Z (j3 Z (u6 cInstr Z g7))) Z Z Z Z))⟩)
          ·refine xq 4 Z (l5 (g := 85) F Z (fun G F => ?_) (fun G F => ?_))
           ·exact xn 4 Z (l0 ⟨(!decide ((x14 - x13.1) = 0)), F, (e8 (d7 (d6 Z (g9 cInstr Z (d6 Z (d6 Z (d6 Z (d6 Z (d6 Z (g9 cInstr Z (d6 Z (d6 Z (d6 Z f9))))))))))) (u6 cImage Z (j3 Z (u6 cInstr Z g7))) Z Z Z Z))⟩)
           ·exact xn 4 Z (l0 ⟨false, F, (e8 (d7 (d6 Z (g9 cInstr Z (d6 Z (d6 Z (d6 Z (d6 Z (d6 Z (g9 cInstr Z (d6 Z (d6 Z (d6 Z f9))))))))))) (u6 cImage Z (j3 Z (u6 cInstr Z g7))) Z Z Z Z))⟩)
         ·refine xq 9 Z (l5 (g := 85) F Z (fun G F => ?_) (fun G F => ?_))
          ·exact xn 4 Z (l0 ⟨(!decide ((x14 - x13.1) = 0)), F, (e8 (d7 (d6 Z (g9 cInstr Z (d6 Z (d6 Z (d6 Z (d6 Z (d6 Z (g9 cInstr Z (d6 Z (d6 Z (d6 Z f9))))))))))) (u6 cImage Z (j3 Z (u6 cInstr Z g7))) Z Z Z Z))⟩)
          ·exact xn 4 Z (l0 ⟨false, F, (e8 (d7 (d6 Z (g9 cInstr Z (d6 Z (d6 Z (d6 Z (d6 Z (d6 Z (g9 cInstr Z (d6 Z (d6 Z (d6 Z f9))))))))))) (u6 cImage Z (j3 Z (u6 cInstr Z g7))) Z Z Z Z))⟩)
      ·intro x15 F
       replace F : q8 x3 x8 depths9 go10 x11 x13 x14 x15 = some q := F
       unfold q8 at F
       refine qR F Z (fun G F => ?_) (fun G F => ?_)
       ·obtain rfl := e9 F
        exact c6 (c8 [] Z (gn 2 Z (j9 (m9 (o9 (m9 (I4 (o9 (m9 (m6 Z (T5 (.cons (u5 _ _) (.cons (f7 _) .nil)))))))))))))
       ·obtain ⟨H1, F⟩ := e7 F
        refine d8 (qx 1 Z (l8 K Z Z Z H1 Z (B2 cInt (l := 0) ([(x8 + 1)] : LI) K Z Z Z Z Z Z Z (xn 1 Z (c6 (qn 2 Z (v7 (fun (x16 : LI) => ⟨[(2, .ptr 8 1 0 0), (6, .psl 0 6 (x3.instrs.map (cInstr.enc 0))), (7, .hsl 9 0 depths9.length), (9, .int .i64 x8), (12, .int .i64 x13.2), (13, .int .i64 (x14 - x13.1)), (14, .hsl 13 0 x16.length), (40, .psl 0 6 (x3.instrs.map (cInstr.enc 0))), (41, .int .i64 (x3.instrs.length : Int)), (42, .int .i64 x8)], [(8, ⟨2, [cImage.row 0 m]⟩), (9, ⟨1, depths9.map (cInt.enc 0)⟩), (13, ⟨1, x16.map (cInt.enc 0)⟩)], 14, 151, []⟩) (fun x16 => u4 x3 x8 depths9 go10 x13 x14 x16 = some q) ?_ ?_)))))))
        ·refine f6 (c6 (qn 2 Z (v7 (fun (x16 : Bool) => ⟨[(2, .ptr 8 1 0 0), (6, .psl 0 6 (x3.instrs.map (cInstr.enc 0))), (7, .hsl 9 0 depths9.length), (9, .int .i64 x8), (10, .ptr 10 1 0 0), (12, .int .i64 x13.2), (13, .int .i64 (x14 - x13.1)), (14, .hsl 11 0 ([(x8 + 1)] : LI).length), (40, .psl 0 6 (x3.instrs.map (cInstr.enc 0))), (41, .int .i64 (x3.instrs.length : Int)), (42, .int .i64 x8), (94, .int .i64 x11.op), (95, .bool x16)], [(8, ⟨2, [cImage.row 0 m]⟩), (9, ⟨1, depths9.map (cInt.enc 0)⟩), (10, ⟨6, [cInstr.row 0 x11]⟩), (11, ⟨1, ([(x8 + 1)] : LI).map (cInt.enc 0)⟩)], 12, 151, []⟩) (fun x16 => I9 x3 x8 depths9 go10 x11 x13 x14 x16 = some q) ?_ ?_)))
         ·refine j1 F Z (fun G F => ?_) (fun G F => ?_)
          ·exact d8 (l0 ⟨true, F, (e8 (d7 (d6 Z (g9 cInstr Z (d6 Z (d6 Z (d6 Z (d6 Z (d6 Z (d6 Z (g9 cInstr Z (d6 Z (d6 Z (d6 Z (d6 Z f9))))))))))))) (u6 cImage Z (j3 Z (u6 cInstr Z (j3 Z g7)))) Z Z Z Z))⟩)
          ·exact c8 [2, 6, 7, 9, 10, 12, 13, 14, 40, 41, 42, 94] Z (gn 2 Z (l0 ⟨(decide (x11.op = 13)), F, (e8 (d7 (d6 Z (g9 cInstr Z (d6 Z (d6 Z (d6 Z (d6 Z (d6 Z (d6 Z (g9 cInstr Z (d6 Z (d6 Z (d6 Z (d6 Z f9))))))))))))) (u6 cImage Z (j3 Z (u6 cInstr Z (j3 Z g7)))) Z Z Z Z))⟩))
         ·intro x16 F
          replace F : I9 x3 x8 depths9 go10 x11 x13 x14 x16 = some q := F
          unfold I9 at F
          refine qR F Z (fun G F => ?_) (fun G F => ?_)
          ·exact gn 1 Z (C7 (l0 ⟨[], F, ((W4 13 Z Z).trans ((jK 14 1 Z Z).trans (e8 (d7 (d6 Z (g9 cInstr Z (d6 Z (d6 Z (d6 Z (d6 Z (d6 Z (g9 cInstr Z (d6 Z (d6 Z f9)))))))))) (u6 cImage Z (j3 Z (j3 Z g7))) Z Z Z Z))))⟩))
          ·refine qn 2 Z (j1 F Z (fun G F => ?_) (fun G F => ?_))
           ·exact gx 2 Z (B2 cInt (l := 0) ([x11.a] : LI) K Z Z Z Z Z Z Z (xn 1 Z (C7 (l0 ⟨([x11.a] : LI), F, ((tX 14 Z Z (by simp) Z).trans (e8 (d7 (d6 Z (g9 cInstr Z (d6 Z (d6 Z (d6 Z (d6 Z (d6 Z (g9 cInstr Z (d6 Z (d6 Z f9)))))))))) (u6 cImage Z (j3 Z (j3 Z g7))) Z Z Z Z)))⟩))))
           ·refine qn 2 Z (j1 F Z (fun G F => ?_) (fun G F => ?_))
            ·obtain ⟨H1, F⟩ := e7 F
             exact gx 3 Z (B2 cInt (l := 0) ([x11.a] : LI) K Z Z Z Z Z Z Z (A8 cInt (l := 0) (xs := ([(x8 + 1)] : LI)) (ys := ([x11.a] : LI)) H1 Z K Z Z Z Z Z Z Z (R0 cInt Z Z Z) Z (xn 1 Z (C7 (l0 ⟨(([(x8 + 1)] : LI) ++ ([x11.a] : LI)), F, ((tX 14 Z Z (by simp) Z).trans (e8 (d7 (d6 Z (g9 cInstr Z (d6 Z (d6 Z (d6 Z (d6 Z (d6 Z (g9 cInstr Z (d6 Z (d6 Z f9)))))))))) (u6 cImage Z (j3 Z (j3 Z g7))) Z Z Z Z)))⟩)))))
            ·exact d8 (C7 (l0 ⟨([(x8 + 1)] : LI), F, ((W4 13 Z Z).trans ((tX 14 Z Z (by simp) Z).trans (e8 (d7 (d6 Z (g9 cInstr Z (d6 Z (d6 Z (d6 Z (d6 Z (d6 Z (g9 cInstr Z (d6 Z (d6 Z f9)))))))))) (u6 cImage Z (j3 Z (j3 Z g7))) Z Z Z Z))))⟩))
        ·intro x16 F
         replace F : u4 x3 x8 depths9 go10 x13 x14 x16 = some q := F
         unfold u4 at F
         refine qx 1 Z (sv Z (C8 cInt K Z Z Z) Z (xn 1 Z (f6 (m0 (fun x17 depths18 => ⟨[(2, .ptr 8 1 0 0), (6, .psl 0 6 (x3.instrs.map (cInstr.enc 0))), (7, .hsl 9 0 depths18.length), (9, .int .i64 x8), (12, .int .i64 x13.2), (13, .int .i64 (x14 - x13.1)), (40, .psl 0 6 (x3.instrs.map (cInstr.enc 0))), (41, .int .i64 (x3.instrs.length : Int)), (42, .int .i64 x8), (110, .hsl 13 0 x16.length), (111, .int .i64 (x16.length : Int)), (112, .int .i64 x17)], [(8, ⟨2, [cImage.row 0 m]⟩), (9, ⟨1, depths18.map (cInt.enc 0)⟩), (13, ⟨1, x16.map (cInt.enc 0)⟩)], 14, 151, []⟩) (T8 x3 x8 go10 x13 x14 x16) LF 0 depths9 F (e8 (d7 (d6 Z (g9 cInstr Z (d6 Z (d6 Z (d6 Z (d6 Z (g9 cInstr Z (d6 Z (d6 Z (d6 Z (d6 Z (d6 Z f9)))))))))))) (u6 cImage Z (j3 Z (j3 Z g7))) Z Z Z Z)) ?_))))
         intro go19 x17 depths18 F
         replace F : B9 x3 x8 go10 x13 x14 x16 go19 x17 depths18 = some q := F
         unfold B9 at F
         refine qn 1 Z (c6 (j1 F Z (fun G F => ?_) (fun G F => ?_)))
         ·obtain ⟨x20, hn_x20, F⟩ := c7 F
          refine d8 (c6 (f6 (qr (sv Z (l4 cInt hn_x20 K Z Z Z Z) Z (sv Z (L6 cInt hn_x20 K Z Z Z Z) Z (xn 1 Z (c6 (c6 (v7 (fun (x21 : Bool) => ⟨[(2, .ptr 8 1 0 0), (6, .psl 0 6 (x3.instrs.map (cInstr.enc 0))), (7, .hsl 9 0 depths18.length), (9, .int .i64 x8), (12, .int .i64 x13.2), (13, .int .i64 (x14 - x13.1)), (16, .int .i64 x20), (40, .psl 0 6 (x3.instrs.map (cInstr.enc 0))), (41, .int .i64 (x3.instrs.length : Int)), (42, .int .i64 x8), (110, .hsl 13 0 x16.length), (111, .int .i64 (x16.length : Int)), (112, .int .i64 x17), (141, .bool x21)], [(8, ⟨2, [cImage.row 0 m]⟩), (9, ⟨1, depths18.map (cInt.enc 0)⟩), (13, ⟨1, x16.map (cInt.enc 0)⟩)], 14, 151, []⟩) (fun x21 => B4 x13 x14 x17 depths18 go19 x20 x21 = some q) ?_ ?_)))))))))
          ·refine gx 4 Z (l5 (g := 119) F Z (fun G F => ?_) (fun G F => ?_))
           ·exact xn 22 Z (l0 ⟨true, F, (e8 (d7 (d6 Z (g9 cInstr Z (d6 Z (d6 Z (d6 Z (d6 Z (d6 Z (g9 cInstr Z (d6 Z (d6 Z (d6 Z (d6 Z (d6 Z (d6 Z f9)))))))))))))) (u6 cImage Z (j3 Z (j3 Z g7))) Z Z Z Z))⟩)
           ·refine xq 2 Z (sv Z (k7 cInstr K Z Z Z) Z (xq 3 Z (l5 (g := 125) F Z (fun G F => ?_) (fun G F => ?_))))
            ·exact xn 16 Z (l0 ⟨true, F, (e8 (d7 (d6 Z (g9 cInstr Z (d6 Z (d6 Z (d6 Z (d6 Z (d6 Z (g9 cInstr Z (d6 Z (d6 Z (d6 Z (d6 Z (d6 Z (d6 Z f9)))))))))))))) (u6 cImage Z (j3 Z (j3 Z g7))) Z Z Z Z))⟩)
            ·obtain ⟨x21, hn_x21, F⟩ := c7 F
             refine xq 2 Z (sv Z (l4 cInt hn_x21 K Z Z Z Z) Z (sv Z (L6 cInt hn_x21 K Z Z Z Z) Z (xq 2 Z (l5 (g := 131) F Z (fun G F => ?_) (fun G F => ?_)))))
             ·obtain ⟨x22, hn_x22, F⟩ := c7 F
              obtain ⟨H1, F⟩ := e7 F
              exact xq 2 Z (sv Z (l4 cInt hn_x22 K Z Z Z Z) Z (sv Z (L6 cInt hn_x22 K Z Z Z Z) Z (xq 2 Z (l8 K Z Z Z H1 Z (xn 3 Z (l0 ⟨(!decide (x22 = ((x14 - x13.1) + x13.2))), F, (e8 (d7 (d6 Z (g9 cInstr Z (d6 Z (d6 Z (d6 Z (d6 Z (d6 Z (g9 cInstr Z (d6 Z (d6 Z (d6 Z (d6 Z (d6 Z (d6 Z f9)))))))))))))) (u6 cImage Z (j3 Z (j3 Z g7))) Z Z Z Z))⟩))))))
             ·exact xn 10 Z (l0 ⟨false, F, (e8 (d7 (d6 Z (g9 cInstr Z (d6 Z (d6 Z (d6 Z (d6 Z (d6 Z (g9 cInstr Z (d6 Z (d6 Z (d6 Z (d6 Z (d6 Z (d6 Z f9)))))))))))))) (u6 cImage Z (j3 Z (j3 Z g7))) Z Z Z Z))⟩)
          ·intro x21 F
           replace F : B4 x13 x14 x17 depths18 go19 x20 x21 = some q := F
           unfold B4 at F
           refine qR F Z (fun G F => ?_) (fun G F => ?_)
           ·obtain rfl := e9 F
            exact c6 (c8 [] Z (gn 2 Z (j9 (m9 (o9 (m9 (I4 (o9 (o9 (m9 (I4 (o9 (m9 (m6 Z (T5 (.cons (u5 _ _) (.cons (f7 _) .nil)))))))))))))))))
           ·obtain ⟨H1, F⟩ := e7 F
            obtain ⟨x22, hn_x22, F⟩ := c7 F
            obtain ⟨H2, F⟩ := e7 F
            exact d8 (gx 4 Z (l8 K Z Z Z H1 Z (sv Z (l4 cInt hn_x22 K Z Z Z Z) Z (t8 cInt (v' := ((x14 - x13.1) + x13.2)) hn_x22 K Z Z Z Z Z Z Z Z (j6 (m7 (y := .hsl 9 0 (depths18.set x20.toNat ((x14 - x13.1) + x13.2)).length) 7 Z (s4 (congrArg (V.hsl 9 0) (by simp))) Z) (i9 (C7 (c8 [2, 6, 7, 9, 12, 13, 40, 41, 42, 110, 111, 112] Z (j8 (l8 K Z Z Z H2 Z (xn 1 Z (j5 ⟨((x17 + 1), (depths18.set x20.toNat ((x14 - x13.1) + x13.2))), F, (e8 (d7 (d6 Z (g9 cInstr Z (d6 Z (d6 Z (d6 Z (d6 Z (g9 cInstr Z (d6 Z (d6 Z (d6 Z (d6 Z (d6 Z f9)))))))))))) (u6 cImage Z (j3 Z (j3 Z g7))) Z Z Z Z))⟩))))))))))))
         ·exact k8 (J4 (J6 (l9 (C7 (l0 ⟨depths18, F, (e8 (d7 (d6 Z (g9 cInstr Z (d6 Z (g9 cInstr Z (d6 Z (d6 Z f9)))))) (u6 cImage Z (j3 Z g7)) Z Z Z Z))⟩)))))
    ·intro depths11 F
     replace F : z7 x8 go10 depths11 = some q := F
     unfold z7 at F
     obtain ⟨H1, F⟩ := e7 F
     exact j8 (l8 K Z Z Z H1 Z (xn 1 Z (j5 ⟨((x8 + 1), depths11), F, (e8 (d7 (d6 Z (g9 cInstr Z (d6 Z (g9 cInstr Z (d6 Z (d6 Z f9)))))) (u6 cImage Z (j3 Z g7)) Z Z Z Z))⟩)))
   ·obtain rfl := e9 F
    exact k8 (J4 (J6 (l9 (qn 3 Z (bA (L7 4 Z Z (by simp) Z) (u0 Z))))))
theorem gS (op : Int) (q : Bool) (F : O1 op = some q) : FC Try.prog 101 [.int .i64 op] [] 8 (fun x _ => x = .bool q) := by
 unfold O1 at F
 refine FC.of_le (bdy Try.func101 Try.ntmps101 Z Z Z (qn 1 Z (qx 3 Z (l5 (g := 5) F Z (fun G F => ?_) (fun G F => ?_)))))
 ·obtain rfl := e9 F
  exact xn 12 Z (u0 Z)
 ·refine xq 4 Z (l5 (g := 9) F Z (fun G F => ?_) (fun G F => ?_))
  ·obtain rfl := e9 F
   exact xn 8 Z (u0 Z)
  ·refine xq 4 Z (l5 (g := 13) F Z (fun G F => ?_) (fun G F => ?_))
   ·obtain rfl := e9 F
    exact xn 4 Z (u0 Z)
   ·obtain rfl := e9 F
    exact xn 4 Z (u0 Z)
theorem yC (m : PImage) (q : Bool) (F : fG m = some q) : FC Try.prog 104 [.agg (cImage.row 0 m)] [] 8 (fun x _ => x = .bool q) := by
 unfold fG at F
 obtain ⟨H1, F⟩ := e7 F
 refine FC.of_le (bdy Try.func104 Try.ntmps104 Z Z Z (qn 2 Z (qx 2 Z (sv Z (k7 cCode K Z Z Z) Z (W6 cInt (l := 0) (v := (0 : Int)) H1 K Z Z Z Z (cR _) Z Z Z Z (xn 1 Z (c6 (qx 2 Z (sv Z (k7 cCode K Z Z Z) Z (xn 1 Z (f6 (m0 (fun x2 times3 => ⟨[(1, .ptr 8 1 0 0), (3, .hsl 9 0 times3.length), (15, .psl 0 4 (m.codes.map (cCode.enc 0))), (16, .int .i64 (m.codes.length : Int)), (17, .int .i64 x2)], [(8, ⟨2, [cImage.row 0 m]⟩), (9, ⟨1, times3.map (cInt.enc 0)⟩)], 10, 56, []⟩) (fI m) LF 0 (List.replicate (m.codes.length : Int).toNat (0 : Int)) F (e8 (d7 (d6 Z (d6 Z (g9 cCode Z (d6 Z (d6 Z f9))))) (u6 cImage Z (j3 Z g7)) Z Z Z Z)) ?_))))))))))))
 intro go4 x2 times3 F
 replace F : G8 m go4 x2 times3 = some q := F
 unfold G8 at F
 refine qn 1 Z (c6 (j1 F Z (fun G F => ?_) (fun G F => ?_)))
 ·obtain ⟨x5, hn_x5, F⟩ := c7 F
  refine d8 (c6 (f6 (qr (sv Z (j4 cCode hn_x5 K Z Z Z Z) Z (xn 3 Z (qx 2 Z (sv Z (k7 cInstr K Z Z Z) Z (xn 1 Z (f6 (m0 (fun x6 times7 => ⟨[(1, .ptr 8 1 0 0), (3, .hsl 9 0 times7.length), (15, .psl 0 4 (m.codes.map (cCode.enc 0))), (16, .int .i64 (m.codes.length : Int)), (17, .int .i64 x2), (22, .psl 0 6 (x5.instrs.map (cInstr.enc 0))), (23, .int .i64 (x5.instrs.length : Int)), (24, .int .i64 x6)], [(8, ⟨2, [cImage.row 0 m]⟩), (9, ⟨1, times7.map (cInt.enc 0)⟩)], 11, 56, []⟩) (aR x2 go4 x5) LF 0 times3 F (e8 (d7 (d6 Z (d6 Z (g9 cCode Z (d6 Z (d6 Z (g9 cInstr Z (d6 Z (d6 Z f9)))))))) (u6 cImage Z (j3 Z g7)) Z Z Z Z)) ?_))))))))))
  intro go8 x6 times7 F
  replace F : G9 x2 go4 x5 go8 x6 times7 = some q := F
  unfold G9 at F
  refine qn 1 Z (c6 (j1 F Z (fun G F => ?_) (fun G F => ?_)))
  ·refine d8 (c6 (v7 (fun (times9 : LI) => ⟨[(1, .ptr 8 1 0 0), (3, .hsl 9 0 times9.length), (15, .psl 0 4 (m.codes.map (cCode.enc 0))), (16, .int .i64 (m.codes.length : Int)), (17, .int .i64 x2), (22, .psl 0 6 (x5.instrs.map (cInstr.enc 0))), (23, .int .i64 (x5.instrs.length : Int)), (24, .int .i64 x6)], [(8, ⟨2, [cImage.row 0 m]⟩), (9, ⟨1, times9.map (cInt.enc 0)⟩)], 10, 56, []⟩) (fun times9 => O8 x6 go8 times9 = some q) ?_ ?_))
   ·obtain ⟨x9, hn_x9, F⟩ := c7 F
    obtain ⟨x10, hx10, F⟩ := c7 F
    refine f6 (qr (sv Z (j4 cInstr hn_x9 K Z Z Z Z) Z (xn 3 Z (qx 2 Z (i8 (gS x9.op x10 hx10) Z ((d9 (Z) i7)) Z Z (i9 (qR F Z (fun G F => ?_) (fun G F => ?_))))))))
    ·obtain ⟨x11, hn_x11, F⟩ := c7 F
     obtain ⟨H1, F⟩ := e7 F
     obtain ⟨x12, hn_x12, F⟩ := c7 F
     exact gx 3 Z (sv Z (l4 cInt hn_x11 K Z Z Z Z) Z (sv Z (L6 cInt hn_x11 K Z Z Z Z) Z (l8 K Z Z Z H1 Z (sv Z (l4 cInt hn_x12 K Z Z Z Z) Z (t8 cInt (v' := (x11 + 1)) hn_x12 K Z Z Z Z Z Z Z Z (j6 (m7 (y := .hsl 9 0 (times7.set x9.a.toNat (x11 + 1)).length) 3 Z (s4 (congrArg (V.hsl 9 0) (by simp))) Z) (i9 (C7 (l0 ⟨(times7.set x9.a.toNat (x11 + 1)), F, (e8 (d7 (d6 Z (d6 Z (g9 cCode Z (d6 Z (d6 Z (g9 cInstr Z (d6 Z (d6 Z f9)))))))) (u6 cImage Z (j3 Z g7)) Z Z Z Z))⟩)))))))))
    ·exact d8 (C7 (l0 ⟨times7, F, (e8 (d7 (d6 Z (d6 Z (g9 cCode Z (d6 Z (d6 Z (g9 cInstr Z (d6 Z (d6 Z f9)))))))) (u6 cImage Z (j3 Z g7)) Z Z Z Z))⟩))
   ·intro times9 F
    replace F : O8 x6 go8 times9 = some q := F
    unfold O8 at F
    obtain ⟨H1, F⟩ := e7 F
    exact j8 (l8 K Z Z Z H1 Z (xn 1 Z (j5 ⟨((x6 + 1), times9), F, ((W4 11 Z Z).trans (e8 (d7 (d6 Z (d6 Z (g9 cCode Z (d6 Z (d6 Z (g9 cInstr Z (d6 Z (d6 Z f9)))))))) (u6 cImage Z (j3 Z g7)) Z Z Z Z)))⟩)))
  ·obtain ⟨H1, F⟩ := e7 F
   exact k8 (J4 (J6 (l9 (C7 (j8 (l8 K Z Z Z H1 Z (xn 1 Z (j5 ⟨((x2 + 1), times7), F, (e8 (d7 (d6 Z (d6 Z (g9 cCode Z (d6 Z (d6 Z f9))))) (u6 cImage Z (j3 Z g7)) Z Z Z Z))⟩))))))))
 ·refine k8 (J4 (J6 (l9 (c6 (qx 1 Z (sv Z (C8 cInt K Z Z Z) Z (xn 1 Z (f6 (z4 (fun x5 => ⟨[(1, .ptr 8 1 0 0), (40, .hsl 9 0 times3.length), (41, .int .i64 (times3.length : Int)), (42, .int .i64 x5)], [(8, ⟨2, [cImage.row 0 m]⟩), (9, ⟨1, times3.map (cInt.enc 0)⟩)], 10, 56, []⟩) (aS m times3) LF 0 F (e8 (d7 (d6 Z (d6 Z (d6 Z (d6 Z f9)))) (u6 cImage Z (j3 Z g7)) Z Z Z Z)) ?_)))))))))
  intro go6 x5 F
  replace F : I0 m times3 go6 x5 = some q := F
  unfold I0 at F
  refine qn 1 Z (c6 (j1 F Z (fun G F => ?_) (fun G F => ?_)))
  ·obtain ⟨x7, hn_x7, F⟩ := c7 F
   refine d8 (c6 (f6 (qx 1 Z (sv Z (l4 cInt hn_x7 K Z Z Z Z) Z (sv Z (L6 cInt hn_x7 K Z Z Z Z) Z (xn 2 Z (c6 (v7 (fun (x8 : Bool) => ⟨[(1, .ptr 8 1 0 0), (40, .hsl 9 0 times3.length), (41, .int .i64 (times3.length : Int)), (42, .int .i64 x5), (54, .bool x8)], [(8, ⟨2, [cImage.row 0 m]⟩), (9, ⟨1, times3.map (cInt.enc 0)⟩)], 10, 56, []⟩) (fun x8 => O9 x5 go6 x8 = some q) ?_ ?_))))))))
   ·refine gx 3 Z (R9 (g := 49) F Z (fun G F => ?_) (fun G F => ?_))
    ·exact xn 5 Z (l0 ⟨(!decide (x5 = m.main)), F, (e8 (d7 (d6 Z (d6 Z (d6 Z (d6 Z (d6 Z f9))))) (u6 cImage Z (j3 Z g7)) Z Z Z Z))⟩)
    ·exact xn 5 Z (l0 ⟨false, F, (e8 (d7 (d6 Z (d6 Z (d6 Z (d6 Z (d6 Z f9))))) (u6 cImage Z (j3 Z g7)) Z Z Z Z))⟩)
   ·intro x8 F
    replace F : O9 x5 go6 x8 = some q := F
    unfold O9 at F
    refine qR F Z (fun G F => ?_) (fun G F => ?_)
    ·obtain rfl := e9 F
     exact qn 1 Z (j9 (o9 (m9 (I4 (o9 (m9 (m6 Z (f7 _))))))))
    ·obtain ⟨H1, F⟩ := e7 F
     exact d8 (C7 (j8 (l8 K Z Z Z H1 Z (xn 1 Z (j5 ⟨(x5 + 1), F, (e8 (d7 (d6 Z (d6 Z (d6 Z (d6 Z f9)))) (u6 cImage Z (j3 Z g7)) Z Z Z Z))⟩)))))
  ·obtain rfl := e9 F
   exact k8 (J4 (J6 (l9 (qn 1 Z (u0 Z)))))
theorem mB (m : PImage) (captures : Int) (q : Bool) (F : cJ m captures = some q) : FC Try.prog 60 [.agg (cImage.row 0 m), .int .i64 captures] [] 8 (fun x _ => x = .bool q) := by
 unfold cJ at F
 obtain ⟨x3, hx3, F⟩ := c7 F
 refine FC.of_le (bdy Try.func60 Try.ntmps60 Z Z Z (qn 2 Z (c6 (qx 2 Z (sv Z (k7 cCode K Z Z Z) Z (i8 (F9 (m.codes.length : Int) 1 1500 x3 hx3) Z ((d9 (Z) (d9 (Z) (d9 (Z) i7)))) Z Z (xq 2 Z (J3 (g := 14) F Z (fun G F => ?_) (fun G F => ?_)))))))))
 ·obtain rfl := e9 F
  exact xn 29 Z (j7 Z (c6 (c8 [] Z (gn 1 Z (u1 Z)))))
 ·obtain ⟨H1, F⟩ := e7 F
  refine xq 4 Z (sv Z (k7 cCode K Z Z Z) Z (aI K Z Z Z H1 Z (xq 3 Z (R9 (g := 23) F Z (fun G F => ?_) (fun G F => ?_)))))
  ·obtain rfl := e9 F
   exact xn 20 Z (j7 Z (c6 (c8 [] Z (gn 1 Z (u1 Z)))))
  ·obtain ⟨x4, hn_x4, F⟩ := c7 F
   refine xq 4 Z (sv Z (j4 cCode hn_x4 K Z Z Z Z) Z (xq 5 Z (R9 (g := 33) F Z (fun G F => ?_) (fun G F => ?_))))
   ·obtain rfl := e9 F
    exact xn 10 Z (j7 Z (c6 (c8 [] Z (gn 1 Z (u1 Z)))))
   ·obtain ⟨x5, hn_x5, F⟩ := c7 F
    refine xq 4 Z (sv Z (j4 cCode hn_x5 K Z Z Z Z) Z (xn 5 Z (v5 F Z (fun G F => ?_) (fun G F => ?_))))
    ·obtain rfl := e9 F
     exact c6 (c8 [] Z (gn 1 Z (u1 Z)))
    ·refine d8 (c6 (c8 [2] Z (gn 1 Z (c6 (qx 2 Z (sv Z (k7 cCode K Z Z Z) Z (xn 1 Z (f6 (m0 (fun x6 x7 => ⟨[(2, .ptr 8 1 0 0), (5, .int .i64 x6), (46, .int .i64 (m.codes.length : Int)), (47, .int .i64 x7)], [(8, ⟨2, [cImage.row 0 m]⟩)], 9, 78, []⟩) (fD m) LF 0 0 F (e8 (d7 (d6 Z (d6 Z (d6 Z (d6 Z f9)))) (u6 cImage Z g7) Z Z Z Z)) ?_)))))))))
     intro go8 x6 x7 F
     replace F : Q8 m go8 x6 x7 = some q := F
     unfold Q8 at F
     refine qn 1 Z (c6 (j1 F Z (fun G F => ?_) (fun G F => ?_)))
     ·obtain ⟨x9, hx9, F⟩ := c7 F
      refine d8 (c6 (f6 (qn 2 Z (c6 (qx 2 Z (i8 (xZ m x7 x9 hx9) Z ((d9 (r9 cImage m Z) (d9 (Z) i7))) Z Z (xn 1 Z (N7 F Z (fun G F => ?_) (fun G F => ?_)))))))))
      ·obtain rfl := e9 F
       exact c6 (c8 [] Z (gn 1 Z (j9 (m9 (o9 (m9 (I4 (o9 (m9 (m6 Z (f7 _)))))))))))
      ·obtain ⟨x10, hx10, F⟩ := c7 F
       refine d8 (c6 (qx 2 Z (i8 (rD m x7 x10 hx10) Z ((d9 (r9 cImage m Z) (d9 (Z) i7))) (pR (d9 (mS cInt x10.1 Z) (d9 (Z) i7))) Z (xn 5 Z (c6 (c8 [2, 5, 6, 8, 46, 47] Z (gn 2 Z (N7 F Z (fun G F => ?_) (fun G F => ?_)))))))))
       ·obtain rfl := e9 F
        exact c6 (c8 [] Z (gn 1 Z (j9 (m9 (o9 (m9 (I4 (o9 (m9 (m6 Z (f7 _)))))))))))
       ·obtain ⟨x11, hn_x11, F⟩ := c7 F
        obtain ⟨H1, F⟩ := e7 F
        obtain ⟨H2, F⟩ := e7 F
        exact d8 (gx 4 Z (sv Z (j4 cCode hn_x11 K Z Z Z Z) Z (xq 2 Z (sv Z (k7 cInstr K Z Z Z) Z (l8 K Z Z Z H1 Z (xn 1 Z (C7 (c8 [2, 5, 46, 47] Z (j8 (l8 K Z Z Z H2 Z (xn 1 Z (j5 ⟨((x6 + (x11.instrs.length : Int)), (x7 + 1)), F, (e8 (d7 (d6 Z (d6 Z (d6 Z (d6 Z f9)))) (u6 cImage Z g7) Z Z Z Z))⟩))))))))))))
     ·refine k8 (J4 (J6 (l9 (qx 3 Z (l5 (g := 74) F Z (fun G F => ?_) (fun G F => ?_))))))
      ·obtain ⟨x9, hx9, F⟩ := c7 F
       obtain rfl := e9 F
       exact xq 1 Z (i8 (yC m x9 hx9) Z ((d9 (r9 cImage m Z) i7)) Z Z (xn 2 Z (u0 Z)))
      ·obtain rfl := e9 F
       exact xn 4 Z (u0 Z)
theorem s_l7Name_ok (s : LB) (q : Bool) (F : kF s = some q) : FC Try.prog 99 [.str s] [] 8 (fun x _ => x = .bool q) := by
 unfold kF at F
 refine FC.of_le (bdy Try.func99 Try.ntmps99 Z Z Z (qn 1 Z (qx 4 Z (l5 (g := 6) F Z (fun G F => ?_) (fun G F => ?_)))))
 ·obtain ⟨x2, hx2, F⟩ := c7 F
  obtain rfl := e9 F
  exact xq 1 Z (i8 (kA s x2 hx2) Z ((d9 (Z) i7)) Z Z (xn 2 Z (u0 Z)))
 ·obtain rfl := e9 F
  exact xn 4 Z (u0 Z)
theorem uW (list : LI) (q : Bool) (F : cP list = some q) : FC Try.prog 100 [.psl 0 1 (list.map (cInt.enc 0))] [] 8 (fun x _ => x = .bool q) := by
 unfold cP at F
 refine FC.of_le (bdy Try.func100 Try.ntmps100 Z Z Z (qn 1 Z (c6 (qx 1 Z (sv Z (k7 cInt K Z Z Z) Z (xn 1 Z (f6 (z4 (fun x2 => ⟨[(0, .psl 0 1 (list.map (cInt.enc 0))), (5, .psl 0 1 (list.map (cInt.enc 0))), (6, .int .i64 (list.length : Int)), (7, .int .i64 x2)], [], 8, 23, []⟩) (dT list) LF 0 F (e8 (d7 (g9 cInt Z (g9 cInt Z (d6 Z (d6 Z f9)))) g7 Z Z Z Z)) ?_))))))))
 intro go3 x2 F
 replace F : E9 list go3 x2 = some q := F
 unfold E9 at F
 refine qn 1 Z (c6 (j1 F Z (fun G F => ?_) (fun G F => ?_)))
 ·obtain ⟨x4, hn_x4, F⟩ := c7 F
  obtain ⟨x5, hx5, F⟩ := c7 F
  refine d8 (c6 (f6 (qx 1 Z (sv Z (j4 cInt hn_x4 K Z Z Z Z) Z (xn 3 Z (qx 1 Z (i8 (F9 x4 0 99999 x5 hx5) Z ((d9 (Z) (d9 (Z) (d9 (Z) i7)))) Z Z (xq 2 Z (J3 (g := 15) F Z (fun G F => ?_) (fun G F => ?_))))))))))
  ·obtain rfl := e9 F
   exact xn 6 Z (j7 Z (c6 (c8 [] Z (gn 1 Z (j9 (o9 (m9 (I4 (o9 (m9 (m6 Z (f7 _))))))))))))
  ·obtain ⟨H1, F⟩ := e7 F
   obtain ⟨x6, hx6, F⟩ := c7 F
   refine xq 2 Z (sv Z (pF cInt H1 K Z Z Z Z) Z (xq 1 Z (i8 (jY (list.take x2.toNat) x4 x6 hx6) Z ((d9 (F5 cInt (list.take x2.toNat) Z) (d9 (Z) i7))) Z Z (xn 1 Z (qR F Z (fun G F => ?_) (fun G F => ?_))))))
   ·obtain rfl := e9 F
    exact c6 (c8 [] Z (gn 1 Z (j9 (o9 (m9 (I4 (o9 (m9 (m6 Z (f7 _))))))))))
   ·obtain ⟨H1, F⟩ := e7 F
    exact d8 (C7 (c8 [0, 5, 6, 7, 16, 17, 18, 19, 20] Z (j8 (l8 K Z Z Z H1 Z (xn 1 Z (j5 ⟨(x2 + 1), F, (e8 (d7 (g9 cInt Z (g9 cInt Z (d6 Z (d6 Z f9)))) g7 Z Z Z Z))⟩))))))
 ·obtain rfl := e9 F
  exact k8 (J4 (J6 (l9 (qn 1 Z (u0 Z)))))
theorem uL (o : PObj) (q : Bool) (F : cK o = some q) : FC Try.prog 55 [.agg (cObj.row 0 o)] [] 8 (fun x _ => x = .bool q) := by
 unfold cK at F
 obtain ⟨x2, hx2, F⟩ := c7 F
 obtain ⟨H1, F⟩ := e7 F
 obtain ⟨x3, hx3, F⟩ := c7 F
 refine FC.of_le (bdy Try.func55 Try.ntmps55 Z Z Z (qn 2 Z (c6 (D1 (id := 1) 5 (by kernel_rfl) (by kernel_rfl) (nx K Z (nx K Z (n_own (by simp) (Cd.flats cInt x2 Z) (pY o.defines x2 hx2) Z (l3 (C6 _ (F5 cInt o.defines Z)) B1) (Cd.rnR cInt _ x2 Z) Z (nx K Z (nx K Z (aM Z (j6 (m7 (y := .hsl 9 0 x2.length) 6 Z (s4 (congrArg (V.hsl 9 0) (by simp))) Z) (A8 cInt (l := 0) (xs := x2) (ys := o.uses) H1 Z K Z Z Z Z Z Z Z (dU cInt (l := 0) Z Z Z) Z (xn 1 Z (c6 (c8 [1, 3] Z (gx 2 Z (i8 (s_l7Name_ok o.name x3 hx3) Z ((d9 (Z) i7)) Z Z (xq 1 Z (Q5 (g := 13) F Z (fun G F => ?_) (fun G F => ?_))))))))))))))))))))
 ·obtain ⟨x4, hx4, F⟩ := c7 F
  refine xq 1 Z (M4 (uW (x2 ++ o.uses) x4 hx4) Z (k9 (pM Z (by simp) (cInt.rlR _ 0 _)) o8) Z Z (xq 2 Z (Q5 (g := 17) F Z (fun G F => ?_) (fun G F => ?_))))
  ·obtain ⟨x5, hx5, F⟩ := c7 F
   obtain rfl := e9 F
   exact xq 3 Z (sv Z (C8 cInt K Z Z Z) Z (i8 (mB o.image ((x2 ++ o.uses).length : Int) x5 hx5) Z ((d9 (r9 cImage o.image Z) (d9 (Z) i7))) Z Z (xn 2 Z (u0 Z))))
  ·obtain rfl := e9 F
   exact xn 7 Z (u0 Z)
 ·obtain rfl := e9 F
  exact xn 11 Z (u0 Z)
theorem s_l1Has_ok (list : List (LB)) (s : LB) (q : Bool) (F : pX list s = some q) : FC Try.prog 56 [.psl 0 1 (list.map (cStr.enc 0)), .str s] [] 8 (fun x _ => x = .bool q) := by
 unfold pX at F
 refine FC.of_le (bdy Try.func56 Try.ntmps56 Z Z Z (qn 1 Z (c6 (qx 1 Z (sv Z (k7 cStr K Z Z Z) Z (xn 1 Z (f6 (z4 (fun x3 => ⟨[(1, .str s), (7, .psl 0 1 (list.map (cStr.enc 0))), (8, .int .i64 (list.length : Int)), (9, .int .i64 x3)], [], 8, 17, []⟩) (lO list s) LF 0 F (e8 (d7 (d6 Z (g9 cStr Z (d6 Z (d6 Z f9)))) g7 Z Z Z Z)) ?_))))))))
 intro go4 x3 F
 replace F : O3 list s go4 x3 = some q := F
 unfold O3 at F
 refine qn 1 Z (c6 (j1 F Z (fun G F => ?_) (fun G F => ?_)))
 ·obtain ⟨x5, hn_x5, F⟩ := c7 F
  refine d8 (c6 (f6 (qr (sv Z (j4 cStr hn_x5 K Z Z Z Z) Z (xn 2 Z (qn 3 Z (j1 F Z (fun G F => ?_) (fun G F => ?_))))))))
  ·obtain rfl := e9 F
   exact c6 (c8 [] Z (gn 1 Z (j9 (o9 (m9 (I4 (o9 (m9 (m6 Z (f7 _))))))))))
  ·obtain ⟨H1, F⟩ := e7 F
   exact d8 (C7 (c8 [1, 7, 8, 9] Z (j8 (l8 K Z Z Z H1 Z (xn 1 Z (j5 ⟨(x3 + 1), F, (e8 (d7 (d6 Z (g9 cStr Z (d6 Z (d6 Z f9)))) g7 Z Z Z Z))⟩))))))
 ·obtain rfl := e9 F
  exact k8 (J4 (J6 (l9 (qn 1 Z (u0 Z)))))
theorem s_l5Look_ok (list : LI) (x_1 : Int) (q : Int) (F : kE list x_1 = some q) : FC Try.prog 58 [.psl 0 1 (list.map (cInt.enc 0)), .int .i64 x_1] [] 8 (fun x _ => x = .int .i64 q) := by
 unfold kE at F
 obtain ⟨H1, F⟩ := e7 F
 refine FC.of_le (bdy Try.func58 Try.ntmps58 Z Z Z (qn 1 Z (c6 (qx 1 Z (sv Z (k7 cInt K Z Z Z) Z (aI K Z Z Z H1 Z (xn 1 Z (f6 (z4 (fun i3 => ⟨[(0, .psl 0 1 (list.map (cInt.enc 0))), (1, .int .i64 x_1), (5, .int .i64 i3)], [], 8, 20, []⟩) (iN list x_1) LF ((list.length : Int) - 1) F (e8 (d7 (g9 cInt Z (d6 Z (d6 Z f9))) g7 Z Z Z Z)) ?_)))))))))
 intro go4 i3 F
 replace F : V3 list x_1 go4 i3 = some q := F
 unfold V3 at F
 refine c6 (qn 2 Z (j1 F Z (fun G F => ?_) (fun G F => ?_)))
 ·obtain ⟨x5, hn_x5, F⟩ := c7 F
  refine d8 (c6 (f6 (qx 2 Z (sv Z (j4 cInt hn_x5 K Z Z Z Z) Z (xn 3 Z (j1 F Z (fun G F => ?_) (fun G F => ?_)))))))
  ·obtain rfl := e9 F
   exact c6 (c8 [5] Z (gn 2 Z (j9 (o9 (m9 (I4 (o9 (m9 (m6 Z (f7 _))))))))))
  ·obtain ⟨H1, F⟩ := e7 F
   exact d8 (C7 (c8 [0, 1, 5] Z (gx 1 Z (aI K Z Z Z H1 Z (xn 1 Z (j5 ⟨(i3 - 1), F, (e8 (d7 (g9 cInt Z (d6 Z (d6 Z f9))) g7 Z Z Z Z))⟩))))))
 ·obtain rfl := e9 F
  exact k8 (J4 (J6 (l9 (qn 1 Z (u0 Z)))))
def dS (v4 : PD → Option PD) : Prop := ∀ (d : PD) (q : PD), v4 d = some q → FC Try.prog 77 [.agg (cDat.row 0 d)] [] 8 (fun x h2 => ∃ j, x = .agg [.int .i64 q.kind, .int .i64 q.number, .str q.text, .hsl j 0 q.items.length] ∧ hget h2 j = some ⟨4, q.items.map (cDat.enc 2)⟩)
theorem uR (v4 : PD → Option PD) (h_s_l1Copy : dS v4) : dS (cN v4) := by
 intro d q F
 unfold cN at F
 refine bdy Try.func77 Try.ntmps77 Z Z Z (qn 2 Z (qx 6 Z (sv Z (p9 K Z Z) Z (xn 2 Z (c6 (c6 (c8 [1, 2, 3] Z (gx 2 Z (sv Z (k7 cDat K Z Z Z) Z (xn 1 Z (f6 (m0 (fun x3 x4 => ⟨[(2, .ptr 9 1 0 0), (3, .ptr 10 1 0 0), (14, .psl 0 4 (d.items.map (cDat.enc 0))), (15, .int .i64 (d.items.length : Int)), (16, .int .i64 x3)], [(9, ⟨4, [[.int .i64 0, .int .i64 0, .str ([] : LB), .nilsl]]⟩), (10, ⟨4, [[.int .i64 d.kind, .int .i64 d.number, .str d.text, .hsl 14 0 x4.length]]⟩), (14, ⟨4, x4.map (cDat.enc 2)⟩)], 15, 29, []⟩) (iK v4 d) LF 0 [] F ((W4 14 Z Z).trans ((t9 10 4 (k := 3) (pre := [.int .i64 d.kind, .int .i64 d.number, .str d.text]) (suf := []) Z Z Z).trans (e8 (d7 (d6 Z (d6 Z (g9 cDat Z (d6 Z (d6 Z f9))))) (A0 Z (A0 Z (j3 Z g7))) Z Z Z Z)))) ?_))))))))))))
 intro go5 x3 x4 F
 replace F : J9 v4 d go5 x3 x4 = some q := F
 unfold J9 at F
 refine qn 1 Z (c6 (j1 F Z (fun G F => ?_) (fun G F => ?_)))
 ·obtain ⟨x6, hn_x6, F⟩ := c7 F
  obtain ⟨x7, hx7, F⟩ := c7 F
  refine d8 (c6 (f6 (qr (sv Z (j4 cDat hn_x6 K Z Z Z Z) Z (xn 3 Z (at_perm (id := 5) 5 ⟨[(2, .ptr 9 1 0 0), (3, .ptr 10 1 0 0), (14, .psl 0 4 (d.items.map (cDat.enc 0))), (15, .int .i64 (d.items.length : Int)), (16, .int .i64 x3), (21, .hsl 14 0 x4.length), (24, .hsl 17 0 1)], [(9, ⟨4, [[.int .i64 0, .int .i64 0, .str ([] : LB), .nilsl]]⟩), (10, ⟨4, [[.int .i64 d.kind, .int .i64 d.number, .str d.text, .hsl 14 0 x4.length]]⟩), (14, ⟨4, x4.map (cDat.enc 2)⟩), (16, ⟨4, x7.items.map (cDat.enc 2)⟩), (17, ⟨4, [[.int .i64 x7.kind, .int .i64 x7.number, .str x7.text, .hsl 16 0 x7.items.length]]⟩)], 18, 29, []⟩ (by kernel_rfl) (by kernel_rfl) ?_ ?_))))))
  ·refine rU [] Z ?_
   repeat' first | refine xn 1 Z ?_ | refine gT K Z Z Z Z Z Z Z (i9 ?_) | refine L5 (h_s_l1Copy x6 x7 hx7) Z (k9 (J5 (r9 cDat x6 Z)) o8) (Cd.rlR cDat f01 2 _) Z (fun j => by simp [V.rnA, V.rnAL, V.rl, upJ, dn]) Z (i9 ?_) | refine z3 [0, 1, 2, 3] [4] (by kernel_rfl) Z (o6 Z ?_ D5) | refine z3 [0, 2, 3, 4] [1] (by kernel_rfl) Z (o6 Z ?_ D5) | refine z3 [0, 1, 2] [3] (by kernel_rfl) Z (o6 Z ?_ D5) | refine z3 [0, 2, 3] [1, 4] (by kernel_rfl) Z (o6 Z ?_ (o6 Z ?_ D5)) | refine z3 [0, 2] [1, 3] (by kernel_rfl) Z (o6 Z ?_ (o6 Z ?_ D5)) | refine z3 [0, 1] [2] (by kernel_rfl) Z (o6 Z ?_ D5) | refine z3 [0] [1, 2] (by kernel_rfl) Z (o6 Z ?_ (o6 Z ?_ D5)) | refine z3 [2, 3, 4] [0] (by kernel_rfl) Z (o6 Z ?_ D5) | refine z3 [2, 3] [0, 4] (by kernel_rfl) Z (o6 Z ?_ (o6 Z ?_ D5)) | refine z3 [2] [0, 3] (by kernel_rfl) Z (o6 Z ?_ (o6 Z ?_ D5)) | refine z3 [] [0, 2] (by kernel_rfl) Z (o6 Z ?_ (o6 Z ?_ D5)) | exact sW (by kernel_rfl) (e8 (d7 (d6 Z (d6 Z (g9 cDat Z (d6 Z (d6 Z (d6 Z (d6 Z f9))))))) (A0 Z (A0 Z (j3 Z (j3 Z (A0 Z g7))))) Z Z Z Z))
  ·obtain ⟨H1, F⟩ := e7 F
   obtain ⟨H2, F⟩ := e7 F
   exact L3 cDat (l := 2) (xs := x4) H1 Z K Z Z Z Z Z Z Z Z Z (g8 (o5 Z) (g8 (o5 Z) (g8 (o5 Z) (g8 (O0 Z (by simp)) y5)))) Z (j6 (Q2 14 16 x7.items.length x4.length [.int .i64 x7.kind, .int .i64 x7.number, .str x7.text] [] Z (q9 _ _) Z Z Z Z (q9 _ _) (Cd.dps0 cDat 2 (fun _ => Z) _) Z) (j6 (v6 14 (rows' := (x4 ++ ([x7] : List PD)).map (cDat.enc 2)) Z (cX cDat (l := 2) x4 x7) Z) (j6 (m7 (y := .hsl 14 0 (x4 ++ ([x7] : List PD)).length) 25 Z (s4 (congrArg (V.hsl 14 0) (by simp))) Z) (xq 1 Z (t7 (B6 Z (by simp)) K Z Z Z Z Z Z Z Z Z (i9 (C7 (j8 (l8 K Z Z Z H2 Z (xn 1 Z (j5 ⟨((x3 + 1), (x4 ++ ([x7] : List PD))), F, (e8 (d7 (d6 Z (d6 Z (g9 cDat Z (d6 Z (d6 Z f9))))) (A0 Z (A0 Z (j3 Z g7))) Z Z Z Z))⟩)))))))))))
 ·obtain rfl := e9 F
  exact k8 (J4 (J6 (l9 (qx 1 Z (G0 K Z Z Z Z Z (g8 (o5 Z) (g8 (o5 Z) (g8 (o5 Z) (g8 (O0 Z (by simp)) y5)))) Z Z Z (i9 (j9 (⟨_, Z, 14, Z, Z⟩))))))))
theorem yD (n : Nat) : dS (v4 n) := by
 induction n with
 | zero => exact fun _ q h => by cases h
 | succ n ih => exact fun d q h => uR (v4 n) ih d q h
theorem s_l1Copy_ok (n : Nat) (d : PD) (q : PD) (F : v4 n d = some q) : FC Try.prog 77 [.agg (cDat.row 0 d)] [] 8 (fun x _ => x = .agg (cDat.row 1 q)) :=
 fc_fz1 (yD n d q F) (fzr cDat 2 q.items Z (fun _ => Z)) (fun _ => (.agg (.cons (.refl _) (.cons (.refl _) (.cons (.refl _) (.cons dz1 .nil))))))
theorem uQ (m : PImage) (x_1 : Int) (q : List PCode) (F : cM m x_1 = some q) : FC Try.prog 59 [.agg (cImage.row 0 m), .int .i64 x_1] [] 8 (fun x _ => x = .psl 1 4 (q.map (cCode.enc 1))) := by
 unfold cM at F
 refine FC.of_le (bdy Try.func59 Try.ntmps59 Z Z Z (qn 2 Z (qr (B2 cCode (l := 1) ([] : List PCode) K Z Z Z Z Z Z Z (xn 1 Z (c6 (qx 2 Z (sv Z (k7 cCode K Z Z Z) Z (xn 1 Z (f6 (m0 (fun x3 out4 => ⟨[(1, .int .i64 x_1), (5, .hsl 9 0 out4.length), (14, .psl 0 4 (m.codes.map (cCode.enc 0))), (15, .int .i64 (m.codes.length : Int)), (16, .int .i64 x3)], [(9, ⟨4, out4.map (cCode.enc 1)⟩)], 10, 63, []⟩) (dQ m x_1) LF 0 ([] : List PCode) F (e8 (d7 (d6 Z (d6 Z (g9 cCode Z (d6 Z (d6 Z f9))))) (j3 Z g7) Z Z Z Z)) ?_)))))))))))
 intro go5 x3 out4 F
 replace F : E6 m x_1 go5 x3 out4 = some q := F
 unfold E6 at F
 refine qn 1 Z (c6 (j1 F Z (fun G F => ?_) (fun G F => ?_)))
 ·obtain ⟨x6, hn_x6, F⟩ := c7 F
  refine d8 (c6 (f6 (qr (sv Z (j4 cCode hn_x6 K Z Z Z Z) Z (xn 3 Z (qx 6 Z (sv Z (p9 K Z Z) Z (xn 2 Z (c6 (c6 (c8 [1, 5, 7, 8, 14, 15, 16] Z (gx 2 Z (sv Z (k7 cInstr K Z Z Z) Z (xn 1 Z (f6 (m0 (fun x7 x8 => ⟨[(1, .int .i64 x_1), (5, .hsl 9 0 out4.length), (8, .ptr 11 1 0 0), (14, .psl 0 4 (m.codes.map (cCode.enc 0))), (15, .int .i64 (m.codes.length : Int)), (16, .int .i64 x3), (28, .psl 0 6 (x6.instrs.map (cInstr.enc 0))), (29, .int .i64 (x6.instrs.length : Int)), (30, .int .i64 x7)], [(9, ⟨4, out4.map (cCode.enc 1)⟩), (11, ⟨4, [[.int .i64 x6.params, .int .i64 x6.slots, .int .i64 x6.captures, .hsl 15 0 x8.length]]⟩), (15, ⟨6, x8.map (cInstr.enc 1)⟩)], 16, 63, []⟩) (dR x_1 x3 out4 go5 x6) LF 0 [] F ((W4 15 Z Z).trans ((t9 11 6 (k := 3) (pre := [.int .i64 x6.params, .int .i64 x6.slots, .int .i64 x6.captures]) (suf := []) Z Z Z).trans (e8 (d7 (d6 Z (d6 Z (d6 Z (g9 cCode Z (d6 Z (d6 Z (g9 cInstr Z (d6 Z (d6 Z f9))))))))) (j3 Z (A0 Z (j3 Z g7))) Z Z Z Z)))) ?_))))))))))))))))
  intro go9 x7 x8 F
  replace F : E7 x_1 x3 out4 go5 x6 go9 x7 x8 = some q := F
  unfold E7 at F
  refine qn 1 Z (c6 (j1 F Z (fun G F => ?_) (fun G F => ?_)))
  ·obtain ⟨x10, hn_x10, F⟩ := c7 F
   obtain ⟨x11, hx11, F⟩ := c7 F
   obtain ⟨x12, hx12, F⟩ := c7 F
   refine d8 (c6 (f6 (qr (sv Z (j4 cInstr hn_x10 K Z Z Z Z) Z (xn 3 Z (c6 (D1 (id := 9) 9 (by kernel_rfl) (by kernel_rfl) (nx K Z (nx K Z (nx K Z (nx K Z (nx K Z (nx K Z (sI (s_l1Copy_ok RF x10.d x11 hx11) Z ((d9 (r9 cDat x10.d Z) i7)) (zG cDat x11 Z) Z (nv Z (p9 K Z Z) Z (n_alloc K Z Z Z Z Z (aM Z (xn 1 Z (c6 (c6 (c8 [1, 5, 8, 10, 11, 14, 15, 16, 28, 29, 30] Z (gx 2 Z (i8 (gS x10.op x12 hx12) Z ((d9 (Z) i7)) Z Z (i9 (v7 (fun (y13 : PInstr) => ⟨[(1, .int .i64 x_1), (5, .hsl 9 0 out4.length), (8, .ptr 11 1 0 0), (11, .ptr 17 1 0 0), (14, .psl 0 4 (m.codes.map (cCode.enc 0))), (15, .int .i64 (m.codes.length : Int)), (16, .int .i64 x3), (28, .psl 0 6 (x6.instrs.map (cInstr.enc 0))), (29, .int .i64 (x6.instrs.length : Int)), (30, .int .i64 x7)], [(9, ⟨4, out4.map (cCode.enc 1)⟩), (11, ⟨4, [[.int .i64 x6.params, .int .i64 x6.slots, .int .i64 x6.captures, .hsl 15 0 x8.length]]⟩), (15, ⟨6, x8.map (cInstr.enc 1)⟩), (17, ⟨6, [cInstr.row 1 y13]⟩)], 18, 63, []⟩) (fun y13 => K9 x7 x8 go9 y13 = some q) ?_ ?_)))))))))))))))))))))))))
   ·refine qR F Z (fun G F => ?_) (fun G F => ?_)
    ·obtain ⟨H1, F⟩ := e7 F
     exact gx 3 Z (l8 K Z Z Z H1 Z (xn 2 Z (l0 ⟨(PInstr.mk x10.op (x10.a + x_1) x11), F, (e8 (d7 (d6 Z (d6 Z (d6 Z (d6 Z (g9 cCode Z (d6 Z (d6 Z (g9 cInstr Z (d6 Z (d6 Z f9)))))))))) (j3 Z (A0 Z (j3 Z (u6 cInstr Z g7)))) Z Z Z Z))⟩)))
    ·exact d8 (l0 ⟨(PInstr.mk x10.op x10.a x11), F, (e8 (d7 (d6 Z (d6 Z (d6 Z (d6 Z (g9 cCode Z (d6 Z (d6 Z (g9 cInstr Z (d6 Z (d6 Z f9)))))))))) (j3 Z (A0 Z (j3 Z (u6 cInstr Z g7)))) Z Z Z Z))⟩)
   ·intro y13 F
    replace F : K9 x7 x8 go9 y13 = some q := F
    unfold K9 at F
    obtain ⟨H1, F⟩ := e7 F
    obtain ⟨H2, F⟩ := e7 F
    exact gx 3 Z (B2 cInstr (l := 1) ([y13] : List PInstr) K Z Z Z Z Z Z Z (A8 cInstr (l := 1) (xs := x8) (ys := ([y13] : List PInstr)) H1 Z K Z Z Z Z Z Z Z (R0 cInstr Z Z Z) Z (xq 1 Z (t7 (B6 Z (by simp)) K Z Z Z Z Z Z Z Z Z (i9 (C7 (c8 [1, 5, 8, 14, 15, 16, 28, 29, 30] Z (j8 (l8 K Z Z Z H2 Z (xn 1 Z (j5 ⟨((x7 + 1), (x8 ++ ([y13] : List PInstr))), F, (e8 (d7 (d6 Z (d6 Z (d6 Z (g9 cCode Z (d6 Z (d6 Z (g9 cInstr Z (d6 Z (d6 Z f9))))))))) (j3 Z (A0 Z (j3 Z g7))) Z Z Z Z))⟩)))))))))))
  ·obtain ⟨H1, F⟩ := e7 F
   obtain ⟨H2, F⟩ := e7 F
   exact k8 (J4 (J6 (l9 (bA (le_fzc 11 15 (pre := [.int .i64 x6.params, .int .i64 x6.slots, .int .i64 x6.captures]) (suf := []) Z Z Z (by simp) Z Z) (gx 2 Z (B2 cCode (l := 1) ([(PCode.mk x6.params x6.slots x6.captures x8)] : List PCode) K Z Z Z Z Z Z Z (A8 cCode (l := 1) (xs := out4) (ys := ([(PCode.mk x6.params x6.slots x6.captures x8)] : List PCode)) H1 Z K Z Z Z Z Z Z Z (R0 cCode Z Z Z) Z (xn 1 Z (C7 (c8 [1, 5, 14, 15, 16] Z (j8 (l8 K Z Z Z H2 Z (xn 1 Z (j5 ⟨((x3 + 1), (out4 ++ ([(PCode.mk x6.params x6.slots x6.captures x8)] : List PCode))), F, (e8 (d7 (d6 Z (d6 Z (g9 cCode Z (d6 Z (d6 Z f9))))) (j3 Z g7) Z Z Z Z))⟩))))))))))))))
 ·obtain rfl := e9 F
  exact k8 (J4 (J6 (l9 (qn 2 Z (bA (L7 4 Z Z (by simp) Z) (u0 Z))))))
theorem mW (list : List PObj) (q : PImage × Bool) (F : Q9 list = some q) : FC Try.prog 16 [.psl 0 5 (list.map (cObj.enc 0))] [] 8 (fun x _ => x = .tup [.agg (cImage.row 1 q.1), .bool q.2]) := by
 unfold Q9 at F
 obtain ⟨x2, hx2, F⟩ := c7 F
 refine FC.of_le (bdy Try.func16 Try.ntmps16 Z Z Z (qn 2 Z (qr (sv Z (p9 K Z Z) Z (xn 2 Z (qr (sv Z (p9 K Z Z) Z (xn 2 Z (qr (B2 cInt (l := 0) ([] : LI) K Z Z Z Z Z Z Z (xn 1 Z (qr (B2 cStr (l := 0) ([] : List (LB)) K Z Z Z Z Z Z Z (xn 1 Z (c6 (qx 1 Z (sv Z (k7 cObj K Z Z Z) Z (i8 (F9 (list.length : Int) 1 12 x2 hx2) Z ((d9 (Z) (d9 (Z) (d9 (Z) i7)))) Z Z (xn 1 Z (N7 F Z (fun G F => ?_) (fun G F => ?_)))))))))))))))))))))
 ·obtain rfl := e9 F
  exact c6 (c8 [2] Z (j8 (sv Z (p9 K Z Z) Z (xn 2 Z (j9 (m9 (m6 Z (T5 (.cons (S9 (.cons (u5 _ _) (.cons (f7 _) .nil))) (.cons (f7 _) .nil))))))))))
 ·refine d8 (c6 (c6 (c8 [0, 2, 4, 5, 6, 7] Z (gx 1 Z (sv Z (k7 cObj K Z Z Z) Z (xn 1 Z (f6 (cl_loop4 (fun x3 globals4 names5 x6 => ⟨[(0, .psl 0 5 (list.map (cObj.enc 0))), (2, .ptr 8 1 0 0), (4, .ptr 9 1 0 0), (5, .ptr 10 1 0 0), (6, .hsl 11 0 globals4.length), (7, .hsl 12 0 names5.length), (27, .psl 0 5 (list.map (cObj.enc 0))), (28, .int .i64 (list.length : Int)), (29, .int .i64 x3)], [(8, ⟨2, [[.nilsl, .int .i64 0]]⟩), (9, ⟨2, [[.nilsl, .int .i64 0]]⟩), (10, ⟨4, [[.int .i64 0, .int .i64 0, .int .i64 0, .hsl 15 0 x6.length]]⟩), (11, ⟨1, globals4.map (cInt.enc 0)⟩), (12, ⟨1, names5.map (cStr.enc 0)⟩), (15, ⟨6, x6.map (cInstr.enc 1)⟩)], 16, 168, []⟩) (W5 list) LF 0 ([] : LI) ([] : List (LB)) [] F ((W4 15 Z Z).trans ((t9 10 6 (k := 3) (pre := [.int .i64 0, .int .i64 0, .int .i64 0]) (suf := []) Z Z Z).trans (e8 (d7 (g9 cObj Z (d6 Z (d6 Z (d6 Z (d6 Z (d6 Z (g9 cObj Z (d6 Z (d6 Z f9))))))))) (A0 Z (A0 Z (A0 Z (j3 Z (j3 Z (j3 Z g7)))))) Z Z Z Z)))) ?_))))))))
  intro go7 x3 globals4 names5 x6 F
  replace F : y6 list go7 x3 globals4 names5 x6 = some q := F
  unfold y6 at F
  refine qn 1 Z (c6 (j1 F Z (fun G F => ?_) (fun G F => ?_)))
  ·obtain ⟨x8, hn_x8, F⟩ := c7 F
   obtain ⟨x9, hx9, F⟩ := c7 F
   refine d8 (c6 (f6 (qr (sv Z (j4 cObj hn_x8 K Z Z Z Z) Z (xn 3 Z (c6 (qx 1 Z (i8 (uL x8 x9 hx9) Z ((d9 (r9 cObj x8 Z) i7)) Z Z (xq 2 Z (J3 (g := 36) F Z (fun G F => ?_) (fun G F => ?_)))))))))))
   ·obtain rfl := e9 F
    exact xn 5 Z (j7 Z (c6 (c8 [2] Z (j8 (sv Z (p9 K Z Z) Z (xn 2 Z (j9 (m9 (o9 (m9 (I4 (o9 (m9 (m6 Z (T5 (.cons (S9 (.cons (u5 _ _) (.cons (f7 _) .nil))) (.cons (f7 _) .nil)))))))))))))))))
   ·obtain ⟨x10, hx10, F⟩ := c7 F
    refine xq 3 Z (M4 (s_l1Has_ok names5 x8.name x10 hx10) Z (k9 (pM Z (by simp) (cStr.rlR _ 0 _)) (k9 (J5 (Z)) o8)) Z Z (xn 1 Z (qR F Z (fun G F => ?_) (fun G F => ?_))))
    ·obtain rfl := e9 F
     exact c6 (c8 [2] Z (j8 (sv Z (p9 K Z Z) Z (xn 2 Z (j9 (m9 (o9 (m9 (I4 (o9 (m9 (m6 Z (T5 (.cons (S9 (.cons (u5 _ _) (.cons (f7 _) .nil))) (.cons (f7 _) .nil)))))))))))))))
    ·refine d8 (c6 (c6 (c8 [0, 2, 4, 5, 6, 7, 9, 27, 28, 29, 37, 38, 39, 40] Z (gx 2 Z (sv Z (k7 cInt K Z Z Z) Z (xn 1 Z (f6 (cZ (fun x11 globals12 x13 => ⟨[(0, .psl 0 5 (list.map (cObj.enc 0))), (2, .ptr 8 1 0 0), (4, .ptr 9 1 0 0), (5, .ptr 10 1 0 0), (6, .hsl 11 0 globals12.length), (7, .hsl 12 0 names5.length), (9, .ptr 16 1 0 0), (27, .psl 0 5 (list.map (cObj.enc 0))), (28, .int .i64 (list.length : Int)), (29, .int .i64 x3), (37, .hsl 12 0 names5.length), (38, .ptr 16 1 0 0), (39, .str x8.name), (40, .bool x10), (44, .psl 0 1 (x8.defines.map (cInt.enc 0))), (45, .int .i64 (x8.defines.length : Int)), (46, .int .i64 x11)], [(8, ⟨2, [[.nilsl, .int .i64 0]]⟩), (9, ⟨2, [[.nilsl, .int .i64 0]]⟩), (10, ⟨4, [[.int .i64 0, .int .i64 0, .int .i64 0, .hsl 15 0 x13.length]]⟩), (11, ⟨1, globals12.map (cInt.enc 0)⟩), (12, ⟨1, names5.map (cStr.enc 0)⟩), (15, ⟨6, x13.map (cInstr.enc 1)⟩), (16, ⟨5, [cObj.row 0 x8]⟩)], 17, 168, []⟩) (N3 x3 names5 go7 x8) LF 0 globals4 x6 F (e8 (d7 (g9 cObj Z (d6 Z (d6 Z (d6 Z (d6 Z (d6 Z (d6 Z (g9 cObj Z (d6 Z (d6 Z (d6 Z (d6 Z (d6 Z (d6 Z (g9 cInt Z (d6 Z (d6 Z f9))))))))))))))))) (A0 Z (A0 Z (A0 Z (j3 Z (j3 Z (j3 Z (u6 cObj Z g7))))))) Z Z Z Z)) ?_))))))))
     intro go14 x11 globals12 x13 F
     replace F : y7 x3 names5 go7 x8 go14 x11 globals12 x13 = some q := F
     unfold y7 at F
     refine qn 1 Z (c6 (j1 F Z (fun G F => ?_) (fun G F => ?_)))
     ·obtain ⟨x15, hn_x15, F⟩ := c7 F
      obtain ⟨x16, hx16, F⟩ := c7 F
      refine d8 (c6 (f6 (qr (sv Z (j4 cInt hn_x15 K Z Z Z Z) Z (xn 2 Z (c6 (qx 2 Z (M4 (jY globals12 x15 x16 hx16) Z (k9 (pM Z (by simp) (cInt.rlR _ 0 _)) (k9 (J5 (Z)) o8)) Z Z (i9 (qR F Z (fun G F => ?_) (fun G F => ?_)))))))))))
      ·obtain rfl := e9 F
       exact c6 (c8 [2] Z (j8 (sv Z (p9 K Z Z) Z (xn 2 Z (j9 (m9 (o9 (m9 (I4 (o9 (m9 (o9 (m9 (I4 (o9 (m9 (m6 Z (T5 (.cons (S9 (.cons (u5 _ _) (.cons (f7 _) .nil))) (.cons (f7 _) .nil))))))))))))))))))))
      ·obtain ⟨H1, F⟩ := e7 F
       obtain ⟨H2, F⟩ := e7 F
       obtain ⟨H3, F⟩ := e7 F
       exact d8 (qx 3 Z (sv Z (C8 cInt K Z Z Z) Z (sv Z (p9 K Z Z) Z (j6 (m7 (y := .agg [.int .i64 9, .int .i64 (globals12.length : Int), .int .i64 0, .int .i64 0, .str ([] : LB), .psl 1 4 ([].map (cDat.enc 1))]) 58 Z (S9 (.cons (f7 _) (.cons (f7 _) (.cons (f7 _) (.cons (f7 _) (.cons (f7 _) (.cons (u5 _ _) .nil))))))) Z) (B2 cInstr (l := 1) ([(PInstr.mk 9 (globals12.length : Int) (PD.mk 0 0 ([] : LB) []))] : List PInstr) K Z Z Z Z Z Z Z (A8 cInstr (l := 1) (xs := x13) (ys := ([(PInstr.mk 9 (globals12.length : Int) (PD.mk 0 0 ([] : LB) []))] : List PInstr)) H1 Z K Z Z Z Z Z Z Z (R0 cInstr Z Z Z) Z (xq 1 Z (t7 (B6 Z (by simp)) K Z Z Z Z Z Z Z Z Z (i9 (c8 [0, 2, 4, 5, 6, 7, 9, 11, 27, 28, 29, 37, 38, 39, 40, 44, 45, 46] Z (gx 2 Z (B2 cInt (l := 0) ([x15] : LI) K Z Z Z Z Z Z Z (A8 cInt (l := 0) (xs := globals12) (ys := ([x15] : LI)) H2 Z K Z Z Z Z Z Z Z (R0 cInt Z Z Z) Z (xn 1 Z (C7 (j8 (l8 K Z Z Z H3 Z (xn 1 Z (j5 ⟨((x11 + 1), (globals12 ++ ([x15] : LI)), (x13 ++ ([(PInstr.mk 9 (globals12.length : Int) (PD.mk 0 0 ([] : LB) []))] : List PInstr))), F, (e8 (d7 (g9 cObj Z (d6 Z (d6 Z (d6 Z (d6 Z (d6 Z (d6 Z (g9 cObj Z (d6 Z (d6 Z (d6 Z (d6 Z (d6 Z (d6 Z (g9 cInt Z (d6 Z (d6 Z f9))))))))))))))))) (A0 Z (A0 Z (A0 Z (j3 Z (j3 Z (j3 Z (u6 cObj Z g7))))))) Z Z Z Z))⟩)))))))))))))))))))
     ·obtain ⟨H1, F⟩ := e7 F
      obtain ⟨H2, F⟩ := e7 F
      exact k8 (J4 (J6 (l9 (gx 3 Z (B2 cStr (l := 0) ([x8.name] : List (LB)) K Z Z Z Z Z Z Z (A8 cStr (l := 0) (xs := names5) (ys := ([x8.name] : List (LB))) H1 Z K Z Z Z Z Z Z Z (R0 cStr Z Z Z) Z (xn 1 Z (C7 (c8 [0, 2, 4, 5, 6, 7, 27, 28, 29, 37, 38, 39, 40] Z (j8 (l8 K Z Z Z H2 Z (xn 1 Z (j5 ⟨((x3 + 1), globals12, (names5 ++ ([x8.name] : List (LB))), x13), F, (e8 (d7 (g9 cObj Z (d6 Z (d6 Z (d6 Z (d6 Z (d6 Z (g9 cObj Z (d6 Z (d6 Z f9))))))))) (A0 Z (A0 Z (A0 Z (j3 Z (j3 Z (j3 Z g7)))))) Z Z Z Z))⟩)))))))))))))
  ·refine k8 (J4 (J6 (l9 (qx 1 Z (sv Z (C8 cInt K Z Z Z) Z (xn 2 Z (c6 (c8 [0, 2, 4, 5, 6] Z (gn 1 Z (c6 (qx 1 Z (sv Z (k7 cObj K Z Z Z) Z (xn 1 Z (f6 (cl_loop5 (fun globals8 known9 x10 x11 x12 => ⟨[(0, .psl 0 5 (list.map (cObj.enc 0))), (2, .ptr 8 1 0 0), (4, .ptr 9 1 0 0), (5, .ptr 10 1 0 0), (6, .psl 1 1 (globals8.map (cInt.enc 1))), (12, .int .i64 known9), (76, .psl 0 5 (list.map (cObj.enc 0))), (77, .int .i64 (list.length : Int)), (78, .int .i64 x10)], [(8, ⟨2, [[.nilsl, .int .i64 0]]⟩), (9, ⟨2, [[.hsl 18 0 x12.length, .int .i64 0]]⟩), (10, ⟨4, [[.int .i64 0, .int .i64 (globals4.length : Int), .int .i64 0, .hsl 15 0 x11.length]]⟩), (15, ⟨6, x11.map (cInstr.enc 1)⟩), (18, ⟨4, x12.map (cCode.enc 1)⟩)], 19, 168, []⟩) (N4 list globals4) LF globals4 0 0 x6 [] F ((L7 6 Z Z (by simp) Z).trans ((W4 18 Z Z).trans ((t9 9 4 (k := 0) (pre := []) (suf := [.int .i64 0]) Z Z Z).trans (e8 (d7 (g9 cObj Z (d6 Z (d6 Z (d6 Z (g9 cInt Z (d6 Z (g9 cObj Z (d6 Z (d6 Z f9))))))))) (A0 Z (A0 Z (A0 Z (j3 Z (j3 Z g7))))) Z Z Z Z))))) ?_)))))))))))))))
   intro go13 globals8 known9 x10 x11 x12 F
   replace F : F8 list globals4 go13 globals8 known9 x10 x11 x12 = some q := F
   unfold F8 at F
   refine qn 1 Z (c6 (j1 F Z (fun G F => ?_) (fun G F => ?_)))
   ·refine d8 (c6 (cl_midn3 (fun (known14 : Int) (x15 : List PInstr) (x16 : List PCode) => ⟨[(0, .psl 0 5 (list.map (cObj.enc 0))), (2, .ptr 8 1 0 0), (4, .ptr 9 1 0 0), (5, .ptr 10 1 0 0), (6, .psl 1 1 (globals8.map (cInt.enc 1))), (12, .int .i64 known14), (76, .psl 0 5 (list.map (cObj.enc 0))), (77, .int .i64 (list.length : Int)), (78, .int .i64 x10)], [(8, ⟨2, [[.nilsl, .int .i64 0]]⟩), (9, ⟨2, [[.hsl 18 0 x16.length, .int .i64 0]]⟩), (10, ⟨4, [[.int .i64 0, .int .i64 (globals4.length : Int), .int .i64 0, .hsl 15 0 x15.length]]⟩), (15, ⟨6, x15.map (cInstr.enc 1)⟩), (18, ⟨4, x16.map (cCode.enc 1)⟩)], 19, 168, []⟩) (fun known14 x15 x16 => D0 globals8 x10 go13 known14 x15 x16 = some q) ?_ ?_))
    ·obtain ⟨x14, hn_x14, F⟩ := c7 F
     obtain ⟨H1, F⟩ := e7 F
     obtain ⟨x15, hx15, F⟩ := c7 F
     obtain ⟨hb5, F⟩ := e7 F
     refine f6 (qx 1 Z (sv Z (j4 cObj hn_x14 K Z Z Z Z) Z (xn 4 Z (qx 3 Z (sv Z (k7 cInt K Z Z Z) Z (l8 K Z Z Z H1 Z (xn 1 Z (c6 (c6 (c8 [0, 2, 4, 5, 6, 12, 13, 14, 76, 77, 78] Z (nT (id := 28) 8 [0, 1, 2, 3, 4] ⟨[(0, .psl 0 5 (list.map (cObj.enc 0))), (2, .ptr 8 1 0 0), (4, .ptr 9 1 0 0), (5, .ptr 10 1 0 0), (6, .psl 1 1 (globals8.map (cInt.enc 1))), (12, .int .i64 (known9 + (x14.defines.length : Int))), (13, .int .i64 x10), (14, .ptr 19 1 0 0), (76, .psl 0 5 (list.map (cObj.enc 0))), (77, .int .i64 (list.length : Int)), (78, .int .i64 x10), (93, .hsl 20 0 (x15 ++ x14.uses).length), (94, .int .i64 ((x15 ++ x14.uses).length : Int)), (95, .int .i64 0)], [(8, ⟨2, [[.nilsl, .int .i64 0]]⟩), (9, ⟨2, [[.hsl 18 0 x12.length, .int .i64 0]]⟩), (10, ⟨4, [[.int .i64 0, .int .i64 (globals4.length : Int), .int .i64 0, .hsl 15 0 x11.length]]⟩), (15, ⟨6, x11.map (cInstr.enc 1)⟩), (18, ⟨4, x12.map (cCode.enc 1)⟩), (19, ⟨5, [cObj.row 0 x14]⟩), (20, ⟨1, (x15 ++ x14.uses).map (cInt.enc 0)⟩)], 21, 168, []⟩ (by kernel_rfl) (by kernel_rfl) ?_ ?_)))))))))))
     ·refine xx K Z (xx K Z (x_o1 (pY x14.defines x15 hx15) Z (k9 (J5 (F5 cInt x14.defines Z)) o8) (Cd.rlR cInt f01 0 _) (fun n j => by simp [V.rnA, V.rnAL, V.rl, upJ, dn]) Z (xx K Z (xx K Z (tE (tE (xx K Z (dx_nil (⟨by kernel_rfl, zI (l' := [[], [7]]) (by kernel_rfl) (eG ?_ (eG ?_ sV))⟩)))))))))
      refine jL 3 (by kernel_rfl) Z (rU [0, 1, 2, 3, 4] (by kernel_rfl) ?_)
      rotate_left
      refine jL 2 (by kernel_rfl) Z (rU [0, 1, 2, 3, 4, 7] (by kernel_rfl) ?_)
      rotate_left
      repeat' first | refine sv Z (C8 cInt K Z Z Z) Z (i9 ?_) | refine A8 cInt (l := 0) (xs := x15) (ys := x14.uses) hb5 Z K Z Z Z Z Z Z Z (dU cInt (l := 0) Z Z Z) Z (i9 ?_) | refine xn 1 Z ?_ | refine z3 [0, 1, 2, 3, 4, 5, 7] [6] (by kernel_rfl) Z (o6 Z ?_ D5) | refine z3 [0, 1, 2, 3, 4, 7] [5] (by kernel_rfl) Z (o6 Z ?_ D5) | refine z3 [0, 1, 2, 3, 4, 5, 6] [7] (by kernel_rfl) Z (o6 Z ?_ D5) | refine z3 [0, 1, 2, 3, 4, 5] [6, 7] (by kernel_rfl) Z (o6 Z ?_ (o6 Z ?_ D5)) | refine z3 [0, 1, 2, 3, 4] [5, 7] (by kernel_rfl) Z (o6 Z ?_ (o6 Z ?_ D5)) | exact sW (by kernel_rfl) (e8 (d7 (g9 cObj Z (d6 Z (d6 Z (d6 Z (g9 cInt Z (d6 Z (d6 Z (d6 Z (g9 cObj Z (d6 Z (d6 Z (d6 Z (d6 Z (d6 Z f9)))))))))))))) (A0 Z (A0 Z (A0 Z (j3 Z (j3 Z (u6 cObj Z (j3 Z g7))))))) Z Z Z Z))
     ·refine i9 (f6 (m0 (fun x16 x17 => ⟨[(0, .psl 0 5 (list.map (cObj.enc 0))), (2, .ptr 8 1 0 0), (4, .ptr 9 1 0 0), (5, .ptr 10 1 0 0), (6, .psl 1 1 (globals8.map (cInt.enc 1))), (12, .int .i64 (known9 + (x14.defines.length : Int))), (13, .int .i64 x10), (14, .ptr 19 1 0 0), (76, .psl 0 5 (list.map (cObj.enc 0))), (77, .int .i64 (list.length : Int)), (78, .int .i64 x10), (93, .hsl 20 0 (x15 ++ x14.uses).length), (94, .int .i64 ((x15 ++ x14.uses).length : Int)), (95, .int .i64 x16)], [(8, ⟨2, [[.nilsl, .int .i64 0]]⟩), (9, ⟨2, [[.hsl 18 0 x12.length, .int .i64 0]]⟩), (10, ⟨4, [[.int .i64 0, .int .i64 (globals4.length : Int), .int .i64 0, .hsl 15 0 x17.length]]⟩), (15, ⟨6, x17.map (cInstr.enc 1)⟩), (18, ⟨4, x12.map (cCode.enc 1)⟩), (19, ⟨5, [cObj.row 0 x14]⟩), (20, ⟨1, (x15 ++ x14.uses).map (cInt.enc 0)⟩)], 21, 168, []⟩) (N5 list globals8 known9 x10 x12 go13 x14 x15) LF 0 x11 F (e8 (d7 (g9 cObj Z (d6 Z (d6 Z (d6 Z (g9 cInt Z (d6 Z (d6 Z (d6 Z (g9 cObj Z (d6 Z (d6 Z (d6 Z (d6 Z (d6 Z f9)))))))))))))) (A0 Z (A0 Z (A0 Z (j3 Z (j3 Z (u6 cObj Z (j3 Z g7))))))) Z Z Z Z)) ?_))
      intro go18 x16 x17 F
      replace F : y8 list globals8 known9 x10 x12 go13 x14 x15 go18 x16 x17 = some q := F
      unfold y8 at F
      refine qn 1 Z (c6 (j1 F Z (fun G F => ?_) (fun G F => ?_)))
      ·obtain ⟨x19, hn_x19, F⟩ := c7 F
       obtain ⟨H1, F⟩ := e7 F
       obtain ⟨x20, hx20, F⟩ := c7 F
       refine d8 (c6 (f6 (qr (sv Z (l4 cInt hn_x19 K Z Z Z Z) Z (sv Z (L6 cInt hn_x19 K Z Z Z Z) Z (xn 1 Z (qx 2 Z (sv Z (pF cInt H1 K Z Z Z Z) Z (xq 1 Z (i8 (s_l5Look_ok (globals8.take (known9 + (x14.defines.length : Int)).toNat) x19 x20 hx20) Z ((d9 (ps_10 cInt (globals8.take (known9 + (x14.defines.length : Int)).toNat) Z) (d9 (Z) i7))) Z Z (xn 1 Z (c6 (c6 (c8 [0, 2, 4, 5, 6, 12, 13, 14, 17, 76, 77, 78, 93, 94, 95] Z (gn 2 Z (j1 F Z (fun G F => ?_) (fun G F => ?_)))))))))))))))))
       ·obtain rfl := e9 F
        exact c6 (c8 [2] Z (j8 (sv Z (p9 K Z Z) Z (xn 2 Z (j9 (m9 (o9 (m9 (I4 (o9 (m9 (o9 (m9 (I4 (o9 (m9 (m6 Z (T5 (.cons (S9 (.cons (u5 _ _) (.cons (f7 _) .nil))) (.cons (f7 _) .nil))))))))))))))))))))
       ·obtain ⟨H1, F⟩ := e7 F
        obtain ⟨H2, F⟩ := e7 F
        exact d8 (gx 3 Z (sv Z (p9 K Z Z) Z (j6 (m7 (y := .agg [.int .i64 3, .int .i64 x20, .int .i64 0, .int .i64 0, .str ([] : LB), .psl 1 4 ([].map (cDat.enc 1))]) 110 Z (S9 (.cons (f7 _) (.cons (f7 _) (.cons (f7 _) (.cons (f7 _) (.cons (f7 _) (.cons (u5 _ _) .nil))))))) Z) (B2 cInstr (l := 1) ([(PInstr.mk 3 x20 (PD.mk 0 0 ([] : LB) []))] : List PInstr) K Z Z Z Z Z Z Z (A8 cInstr (l := 1) (xs := x17) (ys := ([(PInstr.mk 3 x20 (PD.mk 0 0 ([] : LB) []))] : List PInstr)) H1 Z K Z Z Z Z Z Z Z (R0 cInstr Z Z Z) Z (xq 1 Z (t7 (B6 Z (by simp)) K Z Z Z Z Z Z Z Z Z (i9 (C7 (c8 [0, 2, 4, 5, 6, 12, 13, 14, 76, 77, 78, 93, 94, 95] Z (j8 (l8 K Z Z Z H2 Z (xn 1 Z (j5 ⟨((x16 + 1), (x17 ++ ([(PInstr.mk 3 x20 (PD.mk 0 0 ([] : LB) []))] : List PInstr))), F, (e8 (d7 (g9 cObj Z (d6 Z (d6 Z (d6 Z (g9 cInt Z (d6 Z (d6 Z (d6 Z (g9 cObj Z (d6 Z (d6 Z (d6 Z (d6 Z (d6 Z f9)))))))))))))) (A0 Z (A0 Z (A0 Z (j3 Z (j3 Z (u6 cObj Z (j3 Z g7))))))) Z Z Z Z))⟩))))))))))))))
      ·obtain ⟨x19, hx19, F⟩ := c7 F
       obtain ⟨H1, F⟩ := e7 F
       obtain ⟨H2, F⟩ := e7 F
       obtain ⟨H3, F⟩ := e7 F
       obtain ⟨H4, F⟩ := e7 F
       refine k8 (J4 (J6 (l9 (c6 (D1 (id := 36) 8 (by kernel_rfl) (by kernel_rfl) (nx K Z (nx K Z (nx K Z (nx K Z (nx K Z (nx K Z (nv Z (C8 cCode K Z Z Z) Z (sI (uQ x14.image (x12.length : Int) x19 hx19) Z ((d9 (r9 cImage x14.image Z) (d9 (Z) i7))) (mS cCode x19 Z) Z (aM Z (A8 cCode (l := 1) (xs := x12) (ys := x19) H1 Z K Z Z Z Z Z Z Z (dU cCode (l := 1) Z Z Z) Z (xq 1 Z (t7 (B6 Z (by simp)) K Z Z Z Z Z Z Z Z Z (i9 (c6 (c8 [0, 2, 4, 5, 6, 12, 13, 76, 77, 78] Z (gx 4 Z (sv Z (C8 cCode K Z Z Z) Z (aI K Z Z Z H2 Z (sv Z (p9 K Z Z) Z (j6 (m7 (y := .agg [.int .i64 20, .int .i64 (((x12 ++ x19).length : Int) - 1), .int .i64 0, .int .i64 0, .str ([] : LB), .psl 1 4 ([].map (cDat.enc 1))]) 131 Z (S9 (.cons (f7 _) (.cons (f7 _) (.cons (f7 _) (.cons (f7 _) (.cons (f7 _) (.cons (u5 _ _) .nil))))))) Z) (B2 cInstr (l := 1) ([(PInstr.mk 20 (((x12 ++ x19).length : Int) - 1) (PD.mk 0 0 ([] : LB) []))] : List PInstr) K Z Z Z Z Z Z Z (A8 cInstr (l := 1) (xs := x17) (ys := ([(PInstr.mk 20 (((x12 ++ x19).length : Int) - 1) (PD.mk 0 0 ([] : LB) []))] : List PInstr)) H3 Z K Z Z Z Z Z Z Z (R0 cInstr Z Z Z) Z (xq 1 Z (t7 (B6 Z (by simp)) K Z Z Z Z Z Z Z Z Z (i9 (c6 (c8 [0, 2, 4, 5, 6, 12, 13, 76, 77, 78] Z (gx 2 Z (sv Z (k7 cObj K Z Z Z) Z (aI K Z Z Z H4 Z (xn 1 Z (j1 F Z (fun G F => ?_) (fun G F => ?_))))))))))))))))))))))))))))))))))))))
       ·obtain ⟨H1, F⟩ := e7 F
        exact gx 2 Z (sv Z (p9 K Z Z) Z (j6 (m7 (y := .agg [.int .i64 17, .int .i64 0, .int .i64 0, .int .i64 0, .str ([] : LB), .psl 1 4 ([].map (cDat.enc 1))]) 142 Z (S9 (.cons (f7 _) (.cons (f7 _) (.cons (f7 _) (.cons (f7 _) (.cons (f7 _) (.cons (u5 _ _) .nil))))))) Z) (B2 cInstr (l := 1) ([(PInstr.mk 17 0 (PD.mk 0 0 ([] : LB) []))] : List PInstr) K Z Z Z Z Z Z Z (A8 cInstr (l := 1) (xs := (x17 ++ ([(PInstr.mk 20 (((x12 ++ x19).length : Int) - 1) (PD.mk 0 0 ([] : LB) []))] : List PInstr))) (ys := ([(PInstr.mk 17 0 (PD.mk 0 0 ([] : LB) []))] : List PInstr)) H1 Z K Z Z Z Z Z Z Z (R0 cInstr Z Z Z) Z (xq 1 Z (t7 (B6 Z (by simp)) K Z Z Z Z Z Z Z Z Z (i9 (C7 (l0 ⟨((known9 + (x14.defines.length : Int)), ((x17 ++ ([(PInstr.mk 20 (((x12 ++ x19).length : Int) - 1) (PD.mk 0 0 ([] : LB) []))] : List PInstr)) ++ ([(PInstr.mk 17 0 (PD.mk 0 0 ([] : LB) []))] : List PInstr)), (x12 ++ x19)), F, (e8 (d7 (g9 cObj Z (d6 Z (d6 Z (d6 Z (g9 cInt Z (d6 Z (g9 cObj Z (d6 Z (d6 Z f9))))))))) (A0 Z (A0 Z (A0 Z (j3 Z (j3 Z g7))))) Z Z Z Z))⟩)))))))))
       ·exact d8 (C7 (l0 ⟨((known9 + (x14.defines.length : Int)), (x17 ++ ([(PInstr.mk 20 (((x12 ++ x19).length : Int) - 1) (PD.mk 0 0 ([] : LB) []))] : List PInstr)), (x12 ++ x19)), F, (e8 (d7 (g9 cObj Z (d6 Z (d6 Z (d6 Z (g9 cInt Z (d6 Z (g9 cObj Z (d6 Z (d6 Z f9))))))))) (A0 Z (A0 Z (A0 Z (j3 Z (j3 Z g7))))) Z Z Z Z))⟩))
    ·intro known14 x15 x16 F
     replace F : D0 globals8 x10 go13 known14 x15 x16 = some q := F
     unfold D0 at F
     obtain ⟨H1, F⟩ := e7 F
     exact j8 (l8 K Z Z Z H1 Z (xn 1 Z (j5 ⟨(globals8, known14, (x10 + 1), x15, x16), F, (e8 (d7 (g9 cObj Z (d6 Z (d6 Z (d6 Z (g9 cInt Z (d6 Z (g9 cObj Z (d6 Z (d6 Z f9))))))))) (A0 Z (A0 Z (A0 Z (j3 Z (j3 Z g7))))) Z Z Z Z))⟩)))
   ·obtain ⟨H1, F⟩ := e7 F
    obtain ⟨H2, F⟩ := e7 F
    obtain ⟨x14, hx14, F⟩ := c7 F
    refine k8 (J4 (J6 (l9 (c6 (c8 [2, 4, 5] Z (gx 2 Z (sv Z (p9 K Z Z) Z (j6 (m7 (y := .agg [.int .i64 14, .int .i64 0, .int .i64 0, .int .i64 0, .str ([] : LB), .psl 1 4 ([].map (cDat.enc 1))]) 149 Z (S9 (.cons (f7 _) (.cons (f7 _) (.cons (f7 _) (.cons (f7 _) (.cons (f7 _) (.cons (u5 _ _) .nil))))))) Z) (B2 cInstr (l := 1) ([(PInstr.mk 14 0 (PD.mk 0 0 ([] : LB) []))] : List PInstr) K Z Z Z Z Z Z Z (A8 cInstr (l := 1) (xs := x11) (ys := ([(PInstr.mk 14 0 (PD.mk 0 0 ([] : LB) []))] : List PInstr)) H1 Z K Z Z Z Z Z Z Z (R0 cInstr Z Z Z) Z (xq 1 Z (t7 (B6 Z (by simp)) K Z Z Z Z Z Z Z Z Z (i9 (qx 2 Z (sv Z (C8 cCode K Z Z Z) Z (xn 2 Z (c6 (bA (le_fzc 10 15 (pre := [.int .i64 0, .int .i64 (globals4.length : Int), .int .i64 0]) (suf := []) Z Z Z (by simp) Z Z) (c8 [2, 4, 5] Z (gx 3 Z (B2 cCode (l := 1) ([(PCode.mk 0 (globals4.length : Int) 0 (x11 ++ ([(PInstr.mk 14 0 (PD.mk 0 0 ([] : LB) []))] : List PInstr)))] : List PCode) K Z Z Z Z Z Z Z (A8 cCode (l := 1) (xs := x12) (ys := ([(PCode.mk 0 (globals4.length : Int) 0 (x11 ++ ([(PInstr.mk 14 0 (PD.mk 0 0 ([] : LB) []))] : List PInstr)))] : List PCode)) H2 Z K Z Z Z Z Z Z Z (R0 cCode Z Z Z) Z (xq 1 Z (t7 (B6 Z (by simp)) K Z Z Z Z Z Z Z Z Z (i9 (c6 (c6 (c8 [2, 4] Z (gx 1 Z (M4 (mB (PImage.mk (x12 ++ ([(PCode.mk 0 (globals4.length : Int) 0 (x11 ++ ([(PInstr.mk 14 0 (PD.mk 0 0 ([] : LB) []))] : List PInstr)))] : List PCode)) (x12.length : Int)) 0 x14 hx14) Z (k9 (pL (k9 (pM Z (by simp) (cCode.rlR _ 1 _)) (k9 (J5 (Z)) o8))) (k9 (J5 (Z)) o8)) Z Z (xn 1 Z (N7 F Z (fun G F => ?_) (fun G F => ?_)))))))))))))))))))))))))))))))))
    ·obtain rfl := e9 F
     exact qr (sv Z (p9 K Z Z) Z (xn 2 Z (j9 (m9 (m6 Z (T5 (.cons (S9 (.cons (u5 _ _) (.cons (f7 _) .nil))) (.cons (f7 _) .nil))))))))
    ·obtain rfl := e9 F
     exact d8 (qx 1 Z (G0 K Z Z Z Z Z (g8 (O0 Z (by simp)) (g8 (o5 Z) y5)) Z Z Z (xn 1 Z (bA (le_fzc 8 18 (pre := []) (suf := [.int .i64 (x12.length : Int)]) Z Z Z (by simp) Z Z) (u0 Z)))))
end Go.Proofs.Ytmgigglpdhoneaa
