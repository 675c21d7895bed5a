
import Derived.Test.YtmgigglpdhoneaaGreatLibP
import Derived.Test.YtmgigglpdhoneaaGreatGwA
set_option linter.unusedVariables false
set_option linter.unusedSimpArgs false
namespace Go.Proofs.YtmgigglpdhoneaaGreat
open Go.Abs
attribute [local irreducible] AT AOps FC DN APl
set_option maxRecDepth 10000
set_option maxHeartbeats 4000000
def jB (w9 : PD → PD → Option Bool) : Prop := ∀ (a : PD) (b : PD) (q : Bool), w9 a b = some q → FC Tryz.prog 184 [.agg (cDat.row 0 a), .agg (cDat.row 0 b)] [] 8 (fun x _ => x = .bool q)
theorem xK (w9 : PD → PD → Option Bool) (h_i_EqualData : jB w9) : jB (aF w9) := by
 intro a b q F
 unfold aF at F
 refine FC.of_le (bdy Tryz.func184 Tryz.ntmps184 Z Z Z (qn 3 Z (d6 (qx 6 Z (K0 (g := 11) F Z (fun G F => ?_) (fun G F => ?_))))))
 ·obtain rfl := g8 F
  exact xn 22 Z (r7 Z (d6 (e7 [] Z (gn 1 Z (u1 Z)))))
 ·refine xq 7 Z (K0 (g := 18) F Z (fun G F => ?_) (fun G F => ?_))
  ·obtain rfl := g8 F
   exact xn 15 Z (r7 Z (d6 (e7 [] Z (gn 1 Z (u1 Z)))))
  ·refine xq 7 Z (K0 (g := 25) F Z (fun G F => ?_) (fun G F => ?_))
   ·obtain rfl := g8 F
    exact xn 8 Z (r7 Z (d6 (e7 [] Z (gn 1 Z (u1 Z)))))
   ·refine xq 2 Z (sv Z (o5 cDat K Z Z Z) Z (xq 2 Z (sv Z (o5 cDat K Z Z Z) Z (xn 2 Z (E7 F Z (fun G F => ?_) (fun G F => ?_))))))
    ·obtain rfl := g8 F
     exact d6 (e7 [] Z (gn 1 Z (u1 Z)))
    ·refine f8 (d6 (d6 (e7 [2, 3] Z (gx 2 Z (sv Z (o5 cDat K Z Z Z) Z (xn 1 Z (i9 (K4 (fun x4 => ⟨[(2, .ptr 8 1 0 0), (3, .ptr 9 1 0 0), (36, .int .i64 (a.items.length : Int)), (37, .int .i64 x4)], [(8, ⟨4, [cDat.row 0 a]⟩), (9, ⟨4, [cDat.row 0 b]⟩)], 10, 53, []⟩) (gG w9 a b) LF 0 F (f7 (e8 (f9 Z (f9 Z (f9 Z (f9 Z j1)))) (z8 cDat Z (z8 cDat Z j2)) Z Z Z Z)) ?_))))))))
     intro go5 x4 F
     replace F : dK w9 a b go5 x4 = some q := F
     unfold dK at F
     refine qn 1 Z (d6 (l5 F Z (fun G F => ?_) (fun G F => ?_)))
     ·obtain ⟨x6, hn_x6, F⟩ := d7 F
      obtain ⟨x7, hn_x7, F⟩ := d7 F
      obtain ⟨x8, hx8, F⟩ := d7 F
      refine f8 (d6 (i9 (qn 2 Z (d6 (B9 (id := 6) 10 (by kernel_rfl) (by kernel_rfl) (nx K Z (nx K Z (nx K Z (nv Z (k9 cDat hn_x6 K Z Z Z Z) Z (nx K Z (nx K Z (nx K Z (nx K Z (nv Z (k9 cDat hn_x7 K Z Z Z Z) Z (nx K Z (I3 Z (j7 (h_i_EqualData x6 x7 x8 hx8) Z ((e9 (p9 cDat x6 Z) (e9 (p9 cDat x7 Z) j4))) Z Z (xn 1 Z (X3 F Z (fun G F => ?_) (fun G F => ?_))))))))))))))))))))
      ·obtain rfl := g8 F
       exact d6 (e7 [] Z (gn 1 Z (j8 (A2 (u5 (cP (A2 (u5 (s7 Z (i8 _))))))))))
      ·obtain ⟨H1, F⟩ := g7 F
       exact f8 (I2 (e7 [2, 3, 36, 37] Z (j6 (t7 K Z Z Z H1 Z (xn 1 Z (m0 ⟨(x4 + 1), F, (f7 (e8 (f9 Z (f9 Z (f9 Z (f9 Z j1)))) (z8 cDat Z (z8 cDat Z j2)) Z Z Z Z))⟩))))))
     ·obtain rfl := g8 F
      exact o7 (X2 (X1 (t8 (qn 1 Z (u0 Z)))))
theorem zX (n : Nat) : jB (w9 n) := by
 induction n with
 | zero => exact fun _ _ q h => by cases h
 | succ n ih => exact fun a b q h => xK (w9 n) ih a b q h
theorem uK (b : Int) (q : Bool) (F : hC b = some q) : FC Tryz.prog 197 [.int .u8 b] [] 8 (fun x _ => x = .bool q) := by
 unfold hC at F
 refine FC.of_le (bdy Tryz.func197 Tryz.ntmps197 Z Z Z (qn 1 Z (qx 3 Z (n9 (g := 5) F Z (fun G F => ?_) (fun G F => ?_)))))
 ·obtain rfl := g8 F
  exact xn 4 Z (u0 Z)
 ·obtain rfl := g8 F
  exact xn 4 Z (u0 Z)
theorem xY (b : Int) (q : Bool) (F : cA b = some q) : FC Tryz.prog 198 [.int .u8 b] [] 8 (fun x _ => x = .bool q) := by
 unfold cA at F
 refine FC.of_le (bdy Tryz.func198 Tryz.ntmps198 Z Z Z (qn 1 Z (d6 (d6 (v5 (fun (x2 : Bool) => ⟨[(0, .int .u8 b), (16, .bool x2)], [], 8, 30, []⟩) (fun x2 => C6 b x2 = some q) ?_ ?_)))))
 ·refine gx 3 Z (n9 (g := 5) F Z (fun G F => ?_) (fun G F => ?_))
  ·refine xq 4 Z (n9 (g := 9) F Z (fun G F => ?_) (fun G F => ?_))
   ·exact xn 7 Z (l4 ⟨true, F, (f7 (e8 (f9 Z (f9 Z j1)) j2 Z Z Z Z))⟩)
   ·refine xq 3 Z (n9 (g := 12) F Z (fun G F => ?_) (fun G F => ?_))
    ·exact xn 4 Z (l4 ⟨(decide (b ≤ 57)), F, (f7 (e8 (f9 Z (f9 Z j1)) j2 Z Z Z Z))⟩)
    ·exact xn 4 Z (l4 ⟨false, F, (f7 (e8 (f9 Z (f9 Z j1)) j2 Z Z Z Z))⟩)
  ·refine xq 7 Z (n9 (g := 12) F Z (fun G F => ?_) (fun G F => ?_))
   ·exact xn 4 Z (l4 ⟨(decide (b ≤ 57)), F, (f7 (e8 (f9 Z (f9 Z j1)) j2 Z Z Z Z))⟩)
   ·exact xn 4 Z (l4 ⟨false, F, (f7 (e8 (f9 Z (f9 Z j1)) j2 Z Z Z Z))⟩)
 ·intro x2 F
  replace F : C6 b x2 = some q := F
  unfold C6 at F
  refine lN F Z (fun G F => ?_) (fun G F => ?_)
  ·obtain rfl := g8 F
   exact qn 1 Z (u1 Z)
  ·refine f8 (d6 (qn 1 Z (i9 (d6 (qn 2 Z (l5 F Z (fun G F => ?_) (fun G F => ?_)))))))
   ·obtain rfl := g8 F
    exact f8 (r7 Z (qn 1 Z (u2 Z)))
   ·refine qn 2 Z (l5 F Z (fun G F => ?_) (fun G F => ?_))
    ·obtain rfl := g8 F
     exact f8 (r7 Z (qn 1 Z (u2 Z)))
    ·refine qn 2 Z (l5 F Z (fun G F => ?_) (fun G F => ?_))
     ·obtain rfl := g8 F
      exact f8 (r7 Z (d6 (e7 [] Z (gn 1 Z (u2 Z)))))
     ·refine qn 2 Z (l5 F Z (fun G F => ?_) (fun G F => ?_))
      ·obtain rfl := g8 F
       exact f8 (r7 Z (d6 (e7 [] Z (gn 1 Z (u2 Z)))))
      ·refine d6 (e7 [17] Z (gn 2 Z (l5 F Z (fun G F => ?_) (fun G F => ?_))))
       ·obtain rfl := g8 F
        exact f8 (r7 Z (qn 1 Z (u2 Z)))
       ·refine qn 2 Z (l5 F Z (fun G F => ?_) (fun G F => ?_))
        ·obtain rfl := g8 F
         exact f8 (r7 Z (qn 1 Z (u2 Z)))
        ·refine qn 2 Z (l5 F Z (fun G F => ?_) (fun G F => ?_))
         ·obtain rfl := g8 F
          exact f8 (r7 Z (qn 1 Z (u2 Z)))
         ·refine qn 2 Z (l5 F Z (fun G F => ?_) (fun G F => ?_))
          ·obtain rfl := g8 F
           exact f8 (r7 Z (qn 1 Z (u2 Z)))
          ·refine qn 2 Z (l5 F Z (fun G F => ?_) (fun G F => ?_))
           ·obtain rfl := g8 F
            exact f8 (r7 Z (d6 (e7 [] Z (gn 1 Z (u2 Z)))))
           ·refine qn 2 Z (l5 F Z (fun G F => ?_) (fun G F => ?_))
            ·obtain rfl := g8 F
             exact f8 (r7 Z (d6 (e7 [] Z (gn 1 Z (u2 Z)))))
            ·refine e7 [17] Z (gn 2 Z (l5 F Z (fun G F => ?_) (fun G F => ?_)))
             ·obtain rfl := g8 F
              exact qn 1 Z (u2 Z)
             ·obtain rfl := g8 F
              exact f8 (I2 (qn 1 Z (u0 Z)))
theorem af6 (s : LB) (q : Bool) (F : gX s = some q) : FC Tryz.prog 180 [.str s] [] 8 (fun x _ => x = .bool q) := by
 unfold gX at F
 refine FC.of_le (bdy Tryz.func180 Tryz.ntmps180 Z Z Z (qn 1 Z (d6 (d6 (v5 (fun (x2 : Bool) => ⟨[(0, .str s), (31, .bool x2)], [], 8, 43, []⟩) (fun x2 => D2 s x2 = some q) ?_ ?_)))))
 ·refine gx 4 Z (n9 (g := 7) F Z (fun G F => ?_) (fun G F => ?_))
  ·exact xn 24 Z (l4 ⟨true, F, (f7 (e8 (f9 Z (f9 Z j1)) j2 Z Z Z Z))⟩)
  ·refine xq 5 Z (n9 (g := 12) F Z (fun G F => ?_) (fun G F => ?_))
   ·exact xn 19 Z (l4 ⟨true, F, (f7 (e8 (f9 Z (f9 Z j1)) j2 Z Z Z Z))⟩)
   ·obtain ⟨x2, hn_x2, F⟩ := d7 F
    obtain ⟨x3, hx3, F⟩ := d7 F
    refine xq 1 Z (sv Z (Y8 hn_x2 K Z Z Z) Z (j7 (uK (x2.toNat : Int) x3 hx3) Z ((e9 (Z) j4)) Z Z (xq 2 Z (Y9 (g := 17) F Z (fun G F => ?_) (fun G F => ?_)))))
    ·exact xn 14 Z (l4 ⟨true, F, (f7 (e8 (f9 Z (f9 Z j1)) j2 Z Z Z Z))⟩)
    ·obtain ⟨x4, hn_x4, F⟩ := d7 F
     refine xq 1 Z (sv Z (Y8 hn_x4 K Z Z Z) Z (xq 2 Z (n9 (g := 21) F Z (fun G F => ?_) (fun G F => ?_))))
     ·refine xq 5 Z (n9 (g := 26) F Z (fun G F => ?_) (fun G F => ?_))
      ·obtain ⟨x5, hn_x5, F⟩ := d7 F
       obtain ⟨x6, hx6, F⟩ := d7 F
       exact xq 1 Z (sv Z (Y8 hn_x5 K Z Z Z) Z (j7 (uK (x5.toNat : Int) x6 hx6) Z ((e9 (Z) j4)) Z Z (xn 2 Z (l4 ⟨x6, F, (f7 (e8 (f9 Z (f9 Z j1)) j2 Z Z Z Z))⟩))))
      ·exact xn 5 Z (l4 ⟨false, F, (f7 (e8 (f9 Z (f9 Z j1)) j2 Z Z Z Z))⟩)
     ·exact xn 10 Z (l4 ⟨false, F, (f7 (e8 (f9 Z (f9 Z j1)) j2 Z Z Z Z))⟩)
 ·intro x2 F
  replace F : D2 s x2 = some q := F
  unfold D2 at F
  refine lN F Z (fun G F => ?_) (fun G F => ?_)
  ·obtain rfl := g8 F
   exact qn 1 Z (u1 Z)
  ·refine f8 (d6 (qn 1 Z (i9 (K4 (fun i3 => ⟨[(0, .str s), (3, .int .i64 i3)], [], 8, 43, []⟩) (jC s) LF 0 F (f7 (e8 (f9 Z (f9 Z j1)) j2 Z Z Z Z)) ?_))))
   intro go4 i3 F
   replace F : L7 s go4 i3 = some q := F
   unfold L7 at F
   refine d6 (qn 4 Z (l5 F Z (fun G F => ?_) (fun G F => ?_)))
   ·obtain ⟨x5, hn_x5, F⟩ := d7 F
    obtain ⟨x6, hx6, F⟩ := d7 F
    refine f8 (d6 (i9 (qx 2 Z (sv Z (Y8 hn_x5 K Z Z Z) Z (j7 (xY (x5.toNat : Int) x6 hx6) Z ((e9 (Z) j4)) Z Z (xn 1 Z (X3 F Z (fun G F => ?_) (fun G F => ?_))))))))
    ·obtain rfl := g8 F
     exact d6 (e7 [] Z (gn 1 Z (j8 (A2 (u5 (cP (A2 (u5 (s7 Z (i8 _))))))))))
    ·obtain ⟨H1, F⟩ := g7 F
     exact f8 (I2 (e7 [0, 3] Z (gx 1 Z (t7 K Z Z Z H1 Z (xn 1 Z (m0 ⟨(i3 + 1), F, (f7 (e8 (f9 Z (f9 Z j1)) j2 Z Z Z Z))⟩))))))
   ·obtain rfl := g8 F
    exact o7 (X2 (X1 (t8 (qn 1 Z (u0 Z)))))
theorem xW (s : LB) (q : Bool) (F : bZ s = some q) : FC Tryz.prog 205 [.str s] [] 8 (fun x _ => x = .bool q) := by
 unfold bZ at F
 refine FC.of_le (bdy Tryz.func205 Tryz.ntmps205 Z Z Z (qn 1 Z (d6 (qn 3 Z (l5 F Z (fun G F => ?_) (fun G F => ?_))))))
 ·obtain rfl := g8 F
  exact qn 1 Z (u1 Z)
 ·refine f8 (d6 (qn 1 Z (i9 (K4 (fun i2 => ⟨[(0, .str s), (3, .int .i64 i2)], [], 8, 29, []⟩) (dT s) LF 0 F (f7 (e8 (f9 Z (f9 Z j1)) j2 Z Z Z Z)) ?_))))
  intro go3 i2 F
  replace F : G7 s go3 i2 = some q := F
  unfold G7 at F
  refine d6 (qn 4 Z (l5 F Z (fun G F => ?_) (fun G F => ?_)))
  ·obtain ⟨x4, hn_x4, F⟩ := d7 F
   refine f8 (d6 (i9 (qx 2 Z (sv Z (Y8 hn_x4 K Z Z Z) Z (xq 2 Z (n9 (g := 17) F Z (fun G F => ?_) (fun G F => ?_)))))))
   ·obtain rfl := g8 F
    exact xn 11 Z (r7 Z (d6 (e7 [] Z (gn 1 Z (j8 (A2 (u5 (cP (A2 (u5 (s7 Z (i8 _))))))))))))
   ·obtain ⟨x5, hn_x5, F⟩ := d7 F
    refine xq 2 Z (sv Z (Y8 hn_x5 K Z Z Z) Z (xq 3 Z (n9 (g := 23) F Z (fun G F => ?_) (fun G F => ?_))))
    ·obtain rfl := g8 F
     exact xn 5 Z (r7 Z (d6 (e7 [] Z (gn 1 Z (j8 (A2 (u5 (cP (A2 (u5 (s7 Z (i8 _))))))))))))
    ·obtain ⟨x6, hn_x6, F⟩ := d7 F
     refine xq 2 Z (sv Z (Y8 hn_x6 K Z Z Z) Z (xn 2 Z (l5 F Z (fun G F => ?_) (fun G F => ?_))))
     ·obtain rfl := g8 F
      exact d6 (e7 [] Z (gn 1 Z (j8 (A2 (u5 (cP (A2 (u5 (s7 Z (i8 _))))))))))
     ·obtain ⟨H1, F⟩ := g7 F
      exact f8 (I2 (e7 [0, 3, 18, 19, 20, 21, 24, 25, 26, 27] Z (gx 1 Z (t7 K Z Z Z H1 Z (xn 1 Z (m0 ⟨(i2 + 1), F, (f7 (e8 (f9 Z (f9 Z j1)) j2 Z Z Z Z))⟩))))))
  ·obtain rfl := g8 F
   exact o7 (X2 (X1 (t8 (qn 1 Z (u0 Z)))))
theorem aa3 (kind : Int) (number : Int) (text : LB) (items : Int) (q : Bool) (F : dS kind number text items = some q) : FC Tryz.prog 203 [.int .i64 kind, .int .i64 number, .str text, .int .i64 items] [] 8 (fun x _ => x = .bool q) := by
 unfold dS at F
 refine FC.of_le (bdy Tryz.func203 Tryz.ntmps203 Z Z Z (qn 1 Z (d6 (qn 1 Z (i9 (qn 2 Z (l5 F Z (fun G F => ?_) (fun G F => ?_))))))))
 ·refine qx 3 Z (n9 (g := 14) F Z (fun G F => ?_) (fun G F => ?_))
  ·obtain rfl := g8 F
   exact xn 4 Z (u2 Z)
  ·obtain rfl := g8 F
   exact xn 4 Z (u2 Z)
 ·refine qn 2 Z (l5 F Z (fun G F => ?_) (fun G F => ?_))
  ·refine d6 (e7 [1, 2, 3] Z (gx 3 Z (n9 (g := 22) F Z (fun G F => ?_) (fun G F => ?_))))
   ·refine xq 4 Z (n9 (g := 26) F Z (fun G F => ?_) (fun G F => ?_))
    ·obtain ⟨x5, hx5, F⟩ := d7 F
     obtain rfl := g8 F
     exact xq 1 Z (j7 (af6 text x5 hx5) Z ((e9 (Z) j4)) Z Z (xn 2 Z (u2 Z)))
    ·obtain rfl := g8 F
     exact xn 4 Z (u2 Z)
   ·obtain rfl := g8 F
    exact xn 8 Z (u2 Z)
  ·refine qn 2 Z (l5 F Z (fun G F => ?_) (fun G F => ?_))
   ·refine d6 (e7 [1, 2, 3] Z (gx 3 Z (n9 (g := 34) F Z (fun G F => ?_) (fun G F => ?_))))
    ·refine xq 4 Z (n9 (g := 38) F Z (fun G F => ?_) (fun G F => ?_))
     ·refine xq 4 Z (n9 (g := 42) F Z (fun G F => ?_) (fun G F => ?_))
      ·obtain rfl := g8 F
       exact xn 4 Z (u2 Z)
      ·obtain rfl := g8 F
       exact xn 4 Z (u2 Z)
     ·obtain rfl := g8 F
      exact xn 8 Z (u2 Z)
    ·obtain rfl := g8 F
     exact xn 12 Z (u2 Z)
   ·refine d6 (e7 [1, 2, 3, 9] Z (gn 2 Z (l5 F Z (fun G F => ?_) (fun G F => ?_))))
    ·refine qx 3 Z (n9 (g := 50) F Z (fun G F => ?_) (fun G F => ?_))
     ·refine xq 8 Z (n9 (g := 58) F Z (fun G F => ?_) (fun G F => ?_))
      ·obtain rfl := g8 F
       exact xn 4 Z (u2 Z)
      ·obtain rfl := g8 F
       exact xn 4 Z (u2 Z)
     ·refine xq 4 Z (n9 (g := 54) F Z (fun G F => ?_) (fun G F => ?_))
      ·refine xq 4 Z (n9 (g := 58) F Z (fun G F => ?_) (fun G F => ?_))
       ·obtain rfl := g8 F
        exact xn 4 Z (u2 Z)
       ·obtain rfl := g8 F
        exact xn 4 Z (u2 Z)
      ·obtain rfl := g8 F
       exact xn 8 Z (u2 Z)
    ·refine qn 2 Z (l5 F Z (fun G F => ?_) (fun G F => ?_))
     ·refine qx 3 Z (n9 (g := 66) F Z (fun G F => ?_) (fun G F => ?_))
      ·refine xq 4 Z (n9 (g := 70) F Z (fun G F => ?_) (fun G F => ?_))
       ·obtain ⟨x5, hx5, F⟩ := d7 F
        obtain rfl := g8 F
        exact xq 1 Z (j7 (xW text x5 hx5) Z ((e9 (Z) j4)) Z Z (xn 2 Z (u2 Z)))
       ·obtain rfl := g8 F
        exact xn 4 Z (u2 Z)
      ·obtain rfl := g8 F
       exact xn 8 Z (u2 Z)
     ·obtain rfl := g8 F
      exact f8 (I2 (d6 (e7 [] Z (gn 1 Z (u0 Z)))))
def oW (B2 : PD → Int → Int → Option (Bool × Int)) : Prop := ∀ (d : PD) (deep : Int) (nodes : Int) (q : Bool × Int), B2 d deep nodes = some q → FC Tryz.prog 199 [.agg (cDat.row 0 d), .int .i64 deep, .ptr 0 1 0 0] [(0, ⟨1, [cInt.row 1 nodes]⟩)] 8 (fun x h2 => x = .bool q.1 ∧ hget h2 0 = some ⟨1, [cInt.row 1 q.2]⟩)
theorem ag0 (B2 : PD → Int → Int → Option (Bool × Int)) (h_i_measure : oW B2) : oW (dP B2) := by
 intro d deep nodes q F
 unfold dP at F
 obtain ⟨H1, F⟩ := g7 F
 refine FC.of_le_lent (bdy Tryz.func199 Tryz.ntmps199 Z Z Z (qn 2 Z (qx 3 Z (t7 K Z Z Z H1 Z (xn 2 Z (d6 (d6 (e7 [1, 2, 3] Z (gx 3 Z (n9 (g := 16) F Z (fun G F => ?_) (fun G F => ?_)))))))))))
 ·obtain rfl := g8 F
  exact xn 18 Z (r7 Z (d6 (e7 [] Z (gn 1 Z (j8 (u5 (z5 Z ((i8 _)) Z)))))))
 ·refine xq 6 Z (n9 (g := 22) F Z (fun G F => ?_) (fun G F => ?_))
  ·obtain rfl := g8 F
   exact xn 12 Z (r7 Z (d6 (e7 [] Z (gn 1 Z (j8 (u5 (z5 Z ((i8 _)) Z)))))))
  ·obtain ⟨x5, hx5, F⟩ := d7 F
   refine xq 8 Z (sv Z (o5 cDat K Z Z Z) Z (j7 (aa3 d.kind d.number d.text (d.items.length : Int) x5 hx5) Z ((e9 (Z) (e9 (Z) (e9 (Z) (e9 (Z) j4))))) Z Z (xn 2 Z (X3 F Z (fun G F => ?_) (fun G F => ?_)))))
   ·obtain rfl := g8 F
    exact d6 (e7 [] Z (gn 1 Z (j8 (u5 (z5 Z ((i8 _)) Z)))))
   ·refine f8 (d6 (d6 (e7 [1, 2, 3] Z (gx 2 Z (sv Z (o5 cDat K Z Z Z) Z (xn 1 Z (i9 (u6 (fun x6 nodes7 => ⟨[(1, .int .i64 deep), (2, .ptr 0 1 0 0), (36, .psl 0 4 (d.items.map (cDat.enc 0))), (37, .int .i64 (d.items.length : Int)), (38, .int .i64 x6)], [(0, ⟨1, [[.int .i64 nodes7]]⟩)], 9, 49, []⟩) (lU B2 d deep) LF 0 (nodes + 1) F (f7 (e8 (f9 Z (f9 Z (m5 cDat Z (f9 Z (f9 Z j1))))) (A7 Z j2) Z Z Z Z)) ?_))))))))
    intro go8 x6 nodes7 F
    replace F : P5 B2 d deep go8 x6 nodes7 = some q := F
    unfold P5 at F
    refine qn 1 Z (d6 (l5 F Z (fun G F => ?_) (fun G F => ?_)))
    ·obtain ⟨x9, hn_x9, F⟩ := d7 F
     obtain ⟨H1, F⟩ := g7 F
     obtain ⟨x10, hx10, F⟩ := d7 F
     refine f8 (d6 (i9 (qr (sv Z (k9 cDat hn_x9 K Z Z Z Z) Z (xn 3 Z (qx 2 Z (t7 K Z Z Z H1 Z (xq 1 Z (B8 0 (h_i_measure x9 (deep + 1) nodes7 x10 hx10) Z (d9 (m7 _ (p9 cDat x9 Z)) (d9 Z (d9 Z l6))) Z Z Z Z Z (xn 1 Z (X3 F Z (fun G F => ?_) (fun G F => ?_))))))))))))
     ·obtain rfl := g8 F
      exact d6 (e7 [] Z (gn 1 Z (j8 (A2 (u5 (cP (A2 (u5 (z5 Z ((i8 _)) Z)))))))))
     ·obtain ⟨H1, F⟩ := g7 F
      exact f8 (I2 (e7 [1, 2, 36, 37, 38] Z (j6 (t7 K Z Z Z H1 Z (xn 1 Z (m0 ⟨((x6 + 1), x10.2), F, (f7 (e8 (f9 Z (f9 Z (m5 cDat Z (f9 Z (f9 Z j1))))) (A7 Z j2) Z Z Z Z))⟩))))))
    ·obtain rfl := g8 F
     exact o7 (X2 (X1 (t8 (qn 1 Z (j8 (z5 Z ((i8 _)) Z))))))
theorem i_measure_ok (n : Nat) : oW (B2 n) := by
 induction n with
 | zero => exact fun _ _ _ q h => by cases h
 | succ n ih => exact fun d deep nodes q h => ag0 (B2 n) ih d deep nodes q h
theorem i_IsDatum_ok (d : PD) (q : Bool) (F : lP d = some q) : FC Tryz.prog 185 [.agg (cDat.row 0 d)] [] 8 (fun x _ => x = .bool q) := by
 unfold lP at F
 obtain ⟨x2, hx2, F⟩ := d7 F
 obtain rfl := g8 F
 exact FC.of_le (bdy Tryz.func185 Tryz.ntmps185 Z Z Z (qn 2 Z (qn 2 Z (qx 1 Z (B8 9 (i_measure_ok RF d 1 0 x2 hx2) Z (d9 (m7 _ (p9 cDat d Z)) (d9 Z (d9 Z l6))) Z Z Z Z Z (xn 1 Z (u0 Z)))))))
theorem aa0 (c : PC) (q : Bool) (F : dO c = some q) : FC Tryz.prog 153 [.agg (cCore.row 0 c)] [] 8 (fun x _ => x = .bool q) := by
 unfold dO at F
 refine FC.of_le (bdy Tryz.func153 Tryz.ntmps153 Z Z Z (qn 2 Z (d6 (B9 (id := 1) 7 (by kernel_rfl) (by kernel_rfl) (nx K Z (nx K Z (nv Z (o5 cInt K Z Z Z) Z (nx K Z (nx K Z (nv Z (o5 cCore K Z Z Z) Z (nx K Z (I3 Z (xn 1 Z (d6 (d6 (v5 (fun (x2 : Bool) => ⟨[(1, .ptr 8 1 0 0), (3, .int .i64 (c.params.length : Int)), (4, .int .i64 (c.kids.length : Int)), (22, .bool x2)], [(8, ⟨8, [cCore.row 0 c]⟩)], 9, 175, []⟩) (fun x2 => M4 c x2 = some q) ?_ ?_))))))))))))))))
 ·refine e7 [1, 3, 4] Z (gx 4 Z (K0 (g := 16) F Z (fun G F => ?_) (fun G F => ?_)))
  ·obtain ⟨x2, hx2, F⟩ := d7 F
   exact xq 2 Z (sv Z (l0 K Z Z) Z (j7 (FC.weaken (zX RF c.datum (PD.mk 0 0 ([] : LB) []) x2 hx2) (.cons (i8 _) (.cons (kL (.cons (i8 _) (.cons (i8 _) (.cons (i8 _) (.cons (O3 _ _) .nil))))) .nil))) Z ((e9 (p9 cDat c.datum Z) (e9 (rl_aggL (e9 (Z) (e9 (Z) (e9 (Z) (e9 (Z) j4))))) j4))) Z Z (xn 2 Z (l4 ⟨(!x2), F, (f7 (e8 (f9 Z (f9 Z (f9 Z (f9 Z j1)))) (z8 cCore Z j2) Z Z Z Z))⟩))))
  ·exact xn 6 Z (l4 ⟨false, F, (f7 (e8 (f9 Z (f9 Z (f9 Z (f9 Z j1)))) (z8 cCore Z j2) Z Z Z Z))⟩)
 ·intro x2 F
  replace F : M4 c x2 = some q := F
  unfold M4 at F
  refine lN F Z (fun G F => ?_) (fun G F => ?_)
  ·obtain rfl := g8 F
   exact qn 1 Z (u1 Z)
  ·refine f8 (d6 (d6 (v5 (fun (x3 : Bool) => ⟨[(1, .ptr 8 1 0 0), (3, .int .i64 (c.params.length : Int)), (4, .int .i64 (c.kids.length : Int)), (40, .bool x3)], [(8, ⟨8, [cCore.row 0 c]⟩)], 9, 175, []⟩) (fun x3 => C5 c x3 = some q) ?_ ?_)))
   ·refine gx 4 Z (K0 (g := 26) F Z (fun G F => ?_) (fun G F => ?_))
    ·refine xq 5 Z (K0 (g := 31) F Z (fun G F => ?_) (fun G F => ?_))
     ·refine xq 5 Z (K0 (g := 36) F Z (fun G F => ?_) (fun G F => ?_))
      ·exact xn 4 Z (l4 ⟨(!decide (c.kind = 4)), F, (f7 (e8 (f9 Z (f9 Z (f9 Z (f9 Z j1)))) (z8 cCore Z j2) Z Z Z Z))⟩)
      ·exact xn 4 Z (l4 ⟨false, F, (f7 (e8 (f9 Z (f9 Z (f9 Z (f9 Z j1)))) (z8 cCore Z j2) Z Z Z Z))⟩)
     ·exact xn 9 Z (l4 ⟨false, F, (f7 (e8 (f9 Z (f9 Z (f9 Z (f9 Z j1)))) (z8 cCore Z j2) Z Z Z Z))⟩)
    ·exact xn 14 Z (l4 ⟨false, F, (f7 (e8 (f9 Z (f9 Z (f9 Z (f9 Z j1)))) (z8 cCore Z j2) Z Z Z Z))⟩)
   ·intro x3 F
    replace F : C5 c x3 = some q := F
    unfold C5 at F
    refine lN F Z (fun G F => ?_) (fun G F => ?_)
    ·obtain rfl := g8 F
     exact qn 1 Z (u1 Z)
    ·refine f8 (d6 (qn 2 Z (i9 (qn 2 Z (l5 F Z (fun G F => ?_) (fun G F => ?_))))))
     ·refine qx 3 Z (n9 (g := 47) F Z (fun G F => ?_) (fun G F => ?_))
      ·refine xq 4 Z (n9 (g := 51) F Z (fun G F => ?_) (fun G F => ?_))
       ·obtain ⟨x4, hx4, F⟩ := d7 F
        obtain rfl := g8 F
        exact xq 2 Z (j7 (i_IsDatum_ok c.datum x4 hx4) Z ((e9 (p9 cDat c.datum Z) j4)) Z Z (xn 2 Z (u2 Z)))
       ·obtain rfl := g8 F
        exact xn 5 Z (u2 Z)
      ·obtain rfl := g8 F
       exact xn 9 Z (u2 Z)
     ·refine qn 2 Z (l5 F Z (fun G F => ?_) (fun G F => ?_))
      ·refine d6 (e7 [3, 4] Z (gx 3 Z (n9 (g := 60) F Z (fun G F => ?_) (fun G F => ?_))))
       ·obtain rfl := g8 F
        exact xn 4 Z (u2 Z)
       ·obtain rfl := g8 F
        exact xn 4 Z (u2 Z)
      ·refine qn 2 Z (l5 F Z (fun G F => ?_) (fun G F => ?_))
       ·refine d6 (e7 [1, 3, 4] Z (B9 (id := 12) 16 (by kernel_rfl) (by kernel_rfl) (nx K Z (nx K Z (nx K Z (dn_if (g := 68) F Z (fun G F => ?_) (fun G F => ?_)))))))
        ·refine nx K Z (nx K Z (nx K Z (nx K Z (dn_if (g := 72) F Z (fun G F => ?_) (fun G F => ?_)))))
         ·refine nx K Z (nx K Z (nx K Z (nx K Z (nx K Z (dn_if (g := 77) F Z (fun G F => ?_) (fun G F => ?_))))))
          ·obtain ⟨x4, hx4, F⟩ := d7 F
           obtain rfl := g8 F
           exact nx K Z (nx K Z (hZ (O9  x4 hx4) Z (j4) (nY cStr x4 Z) Z (nv Z (o5 cStr K Z Z Z) Z (I3 Z (xn 3 Z (u2 Z))))))
          ·obtain rfl := g8 F
           exact nx K Z (nx K Z (nx K Z (nx K Z (I3 Z (xn 3 Z (u2 Z))))))
         ·obtain rfl := g8 F
          exact nx K Z (nx K Z (nx K Z (nx K Z (nx K Z (nx K Z (nx K Z (nx K Z (nx K Z (I3 Z (xn 3 Z (u2 Z)))))))))))
        ·obtain rfl := g8 F
         exact nx K Z (nx K Z (nx K Z (nx K Z (nx K Z (nx K Z (nx K Z (nx K Z (nx K Z (nx K Z (nx K Z (nx K Z (nx K Z (I3 Z (xn 3 Z (u2 Z)))))))))))))))
       ·refine d6 (e7 [1, 3, 4, 42] Z (gn 2 Z (l5 F Z (fun G F => ?_) (fun G F => ?_))))
        ·refine qx 3 Z (n9 (g := 88) F Z (fun G F => ?_) (fun G F => ?_))
         ·obtain rfl := g8 F
          exact xn 4 Z (u2 Z)
         ·obtain rfl := g8 F
          exact xn 4 Z (u2 Z)
        ·refine qn 2 Z (l5 F Z (fun G F => ?_) (fun G F => ?_))
         ·refine qx 3 Z (n9 (g := 96) F Z (fun G F => ?_) (fun G F => ?_))
          ·obtain rfl := g8 F
           exact xn 4 Z (u2 Z)
          ·obtain rfl := g8 F
           exact xn 4 Z (u2 Z)
         ·refine qn 2 Z (l5 F Z (fun G F => ?_) (fun G F => ?_))
          ·refine d6 (e7 [3, 4] Z (gx 3 Z (n9 (g := 104) F Z (fun G F => ?_) (fun G F => ?_))))
           ·refine xq 4 Z (n9 (g := 108) F Z (fun G F => ?_) (fun G F => ?_))
            ·obtain rfl := g8 F
             exact xn 4 Z (u2 Z)
            ·obtain rfl := g8 F
             exact xn 4 Z (u2 Z)
           ·obtain rfl := g8 F
            exact xn 8 Z (u2 Z)
          ·refine qn 2 Z (l5 F Z (fun G F => ?_) (fun G F => ?_))
           ·refine d6 (e7 [3, 4] Z (gx 3 Z (n9 (g := 116) F Z (fun G F => ?_) (fun G F => ?_))))
            ·obtain rfl := g8 F
             exact xn 4 Z (u2 Z)
            ·obtain rfl := g8 F
             exact xn 4 Z (u2 Z)
           ·refine d6 (e7 [1, 3, 4, 42] Z (gn 2 Z (l5 F Z (fun G F => ?_) (fun G F => ?_))))
            ·refine d6 (qx 3 Z (K0 (g := 124) F Z (fun G F => ?_) (fun G F => ?_)))
             ·obtain rfl := g8 F
              exact xn 7 Z (r7 Z (d6 (e7 [] Z (gn 1 Z (j8 (u5 (A2 (u5 (s7 Z (i8 _))))))))))
             ·refine xq 4 Z (n9 (g := 128) F Z (fun G F => ?_) (fun G F => ?_))
              ·obtain rfl := g8 F
               exact xn 3 Z (r7 Z (d6 (e7 [] Z (gn 1 Z (j8 (u5 (A2 (u5 (s7 Z (i8 _))))))))))
              ·refine xn 3 Z (l5 F Z (fun G F => ?_) (fun G F => ?_))
               ·obtain rfl := g8 F
                exact d6 (e7 [] Z (gn 1 Z (j8 (u5 (A2 (u5 (s7 Z (i8 _))))))))
               ·refine f8 (d6 (d6 (e7 [1] Z (gx 2 Z (sv Z (o5 cCore K Z Z Z) Z (xn 1 Z (i9 (K4 (fun x4 => ⟨[(133, .psl 0 8 (c.kids.map (cCore.enc 0))), (134, .int .i64 (c.kids.length : Int)), (135, .int .i64 x4)], [], 9, 175, []⟩) (bP c) LF 0 F (f7 (e8 (m5 cCore Z (f9 Z (f9 Z j1))) j2 Z Z Z Z)) ?_))))))))
                intro go5 x4 F
                replace F : J8 c go5 x4 = some q := F
                unfold J8 at F
                refine qn 1 Z (d6 (l5 F Z (fun G F => ?_) (fun G F => ?_)))
                ·obtain ⟨x6, hn_x6, F⟩ := d7 F
                 refine f8 (d6 (i9 (qr (sv Z (k9 cCore hn_x6 K Z Z Z Z) Z (xn 3 Z (qn 3 Z (l5 F Z (fun G F => ?_) (fun G F => ?_))))))))
                 ·obtain rfl := g8 F
                  exact d6 (e7 [] Z (gn 1 Z (j8 (A2 (u5 (cP (A2 (u5 (A2 (u5 (s7 Z (i8 _))))))))))))
                 ·obtain ⟨H1, F⟩ := g7 F
                  exact f8 (I2 (e7 [133, 134, 135] Z (j6 (t7 K Z Z Z H1 Z (xn 1 Z (m0 ⟨(x4 + 1), F, (f7 (e8 (m5 cCore Z (f9 Z (f9 Z j1))) j2 Z Z Z Z))⟩))))))
                ·obtain rfl := g8 F
                 exact o7 (X2 (X1 (t8 (qn 1 Z (u2 Z)))))
            ·refine qn 2 Z (l5 F Z (fun G F => ?_) (fun G F => ?_))
             ·refine qx 3 Z (n9 (g := 147) F Z (fun G F => ?_) (fun G F => ?_))
              ·refine xq 4 Z (n9 (g := 151) F Z (fun G F => ?_) (fun G F => ?_))
               ·refine xq 4 Z (n9 (g := 155) F Z (fun G F => ?_) (fun G F => ?_))
                ·obtain rfl := g8 F
                 exact xn 4 Z (u2 Z)
                ·obtain rfl := g8 F
                 exact xn 4 Z (u2 Z)
               ·obtain rfl := g8 F
                exact xn 8 Z (u2 Z)
              ·obtain rfl := g8 F
               exact xn 12 Z (u2 Z)
             ·refine qn 2 Z (l5 F Z (fun G F => ?_) (fun G F => ?_))
              ·refine d6 (e7 [3, 4] Z (gx 3 Z (n9 (g := 163) F Z (fun G F => ?_) (fun G F => ?_))))
               ·obtain rfl := g8 F
                exact xn 4 Z (u2 Z)
               ·obtain rfl := g8 F
                exact xn 4 Z (u2 Z)
              ·refine d6 (e7 [3, 4, 42] Z (gn 2 Z (l5 F Z (fun G F => ?_) (fun G F => ?_))))
               ·refine qx 3 Z (n9 (g := 171) F Z (fun G F => ?_) (fun G F => ?_))
                ·obtain rfl := g8 F
                 exact xn 4 Z (u2 Z)
                ·obtain rfl := g8 F
                 exact xn 4 Z (u2 Z)
               ·obtain rfl := g8 F
                exact f8 (I2 (qn 1 Z (u0 Z)))
def jG (v6 : PC → Int → Int → Option (Bool × Int)) : Prop := ∀ (c : PC) (deep : Int) (nodes : Int) (q : Bool × Int), v6 c deep nodes = some q → FC Tryz.prog 104 [.agg (cCore.row 0 c), .int .i64 deep, .ptr 0 1 0 0] [(0, ⟨1, [cInt.row 1 nodes]⟩)] 8 (fun x h2 => x = .bool q.1 ∧ hget h2 0 = some ⟨1, [cInt.row 1 q.2]⟩)
theorem xP (v6 : PC → Int → Int → Option (Bool × Int)) (h_i_coreNodes : jG v6) : jG (aJ v6) := by
 intro c deep nodes q F
 unfold aJ at F
 obtain ⟨H1, F⟩ := g7 F
 refine FC.of_le_lent (bdy Tryz.func104 Tryz.ntmps104 Z Z Z (qn 2 Z (qx 3 Z (t7 K Z Z Z H1 Z (xn 2 Z (d6 (d6 (e7 [1, 2, 3] Z (gx 3 Z (n9 (g := 16) F Z (fun G F => ?_) (fun G F => ?_)))))))))))
 ·obtain rfl := g8 F
  exact xn 10 Z (r7 Z (d6 (e7 [] Z (gn 1 Z (j8 (u5 (z5 Z ((i8 _)) Z)))))))
 ·refine xq 6 Z (n9 (g := 22) F Z (fun G F => ?_) (fun G F => ?_))
  ·obtain rfl := g8 F
   exact xn 4 Z (r7 Z (d6 (e7 [] Z (gn 1 Z (j8 (u5 (z5 Z ((i8 _)) Z)))))))
  ·obtain ⟨x5, hx5, F⟩ := d7 F
   refine xq 1 Z (j7 (aa0 c x5 hx5) Z ((e9 (p9 cCore c Z) j4)) Z Z (xn 2 Z (X3 F Z (fun G F => ?_) (fun G F => ?_))))
   ·obtain rfl := g8 F
    exact d6 (e7 [] Z (gn 1 Z (j8 (u5 (z5 Z ((i8 _)) Z)))))
   ·refine f8 (d6 (d6 (e7 [1, 2, 3] Z (gx 2 Z (sv Z (o5 cCore K Z Z Z) Z (xn 1 Z (i9 (u6 (fun x6 nodes7 => ⟨[(1, .int .i64 deep), (2, .ptr 0 1 0 0), (28, .psl 0 8 (c.kids.map (cCore.enc 0))), (29, .int .i64 (c.kids.length : Int)), (30, .int .i64 x6)], [(0, ⟨1, [[.int .i64 nodes7]]⟩)], 9, 41, []⟩) (gJ v6 c deep) LF 0 (nodes + 1) F (f7 (e8 (f9 Z (f9 Z (m5 cCore Z (f9 Z (f9 Z j1))))) (A7 Z j2) Z Z Z Z)) ?_))))))))
    intro go8 x6 nodes7 F
    replace F : J7 v6 c deep go8 x6 nodes7 = some q := F
    unfold J7 at F
    refine qn 1 Z (d6 (l5 F Z (fun G F => ?_) (fun G F => ?_)))
    ·obtain ⟨x9, hn_x9, F⟩ := d7 F
     obtain ⟨H1, F⟩ := g7 F
     obtain ⟨x10, hx10, F⟩ := d7 F
     refine f8 (d6 (i9 (qr (sv Z (k9 cCore hn_x9 K Z Z Z Z) Z (xn 3 Z (qx 2 Z (t7 K Z Z Z H1 Z (xq 1 Z (B8 0 (h_i_coreNodes x9 (deep + 1) nodes7 x10 hx10) Z (d9 (m7 _ (p9 cCore x9 Z)) (d9 Z (d9 Z l6))) Z Z Z Z Z (xn 1 Z (X3 F Z (fun G F => ?_) (fun G F => ?_))))))))))))
     ·obtain rfl := g8 F
      exact d6 (e7 [] Z (gn 1 Z (j8 (A2 (u5 (cP (A2 (u5 (z5 Z ((i8 _)) Z)))))))))
     ·obtain ⟨H1, F⟩ := g7 F
      exact f8 (I2 (e7 [1, 2, 28, 29, 30] Z (j6 (t7 K Z Z Z H1 Z (xn 1 Z (m0 ⟨((x6 + 1), x10.2), F, (f7 (e8 (f9 Z (f9 Z (m5 cCore Z (f9 Z (f9 Z j1))))) (A7 Z j2) Z Z Z Z))⟩))))))
    ·obtain rfl := g8 F
     exact o7 (X2 (X1 (t8 (qn 1 Z (j8 (z5 Z ((i8 _)) Z))))))
theorem oE (n : Nat) : jG (v6 n) := by
 induction n with
 | zero => exact fun _ _ _ q h => by cases h
 | succ n ih => exact fun c deep nodes q h => xP (v6 n) ih c deep nodes q h
theorem jJ (lists : List (LI)) (q : Bool) (F : I4 lists = some q) : FC Tryz.prog 105 [.psl 0 1 (lists.map ((cSl cInt).enc 0))] [] 8 (fun x _ => x = .bool q) := by
 unfold I4 at F
 refine FC.of_le (bdy Tryz.func105 Tryz.ntmps105 Z Z Z (qn 1 Z (qr (aj6 kInt kInt Z Z (xn 1 Z (d6 (qx 1 Z (sv Z (o5 (cSl cInt) K Z Z Z) Z (xn 1 Z (i9 (u6 (fun x2 seen3 => ⟨[(3, .mp 8 1), (9, .psl 0 1 (lists.map ((cSl cInt).enc 0))), (10, .int .i64 (lists.length : Int)), (11, .int .i64 x2)], [(8, ⟨0, [mrow kInt kInt seen3]⟩)], 9, 37, []⟩) (I7 lists) LF 0 ([] : MI) F (f7 (e8 (f9 Z (gF Z Z ((cSl cInt).ok_psl _ Z) (f9 Z (f9 Z j1)))) (l9 Z Z Z (r8 (w5 kInt kInt _ _)) j2) Z Z Z Z)) ?_)))))))))))
 intro go4 x2 seen3 F
 replace F : C9 lists go4 x2 seen3 = some q := F
 unfold C9 at F
 refine qn 1 Z (d6 (l5 F Z (fun G F => ?_) (fun G F => ?_)))
 ·obtain ⟨x5, hn_x5, F⟩ := d7 F
  refine f8 (d6 (i9 (qr (sv Z (k9 (cSl cInt) hn_x5 K Z Z Z Z) Z (xn 2 Z (qx 1 Z (sv Z (o5 cInt K Z Z Z) Z (xn 1 Z (i9 (u6 (fun x6 seen7 => ⟨[(3, .mp 8 1), (9, .psl 0 1 (lists.map ((cSl cInt).enc 0))), (10, .int .i64 (lists.length : Int)), (11, .int .i64 x2), (15, .psl 0 1 (x5.map (cInt.enc 0))), (16, .int .i64 (x5.length : Int)), (17, .int .i64 x6)], [(8, ⟨0, [mrow kInt kInt seen7]⟩)], 9, 37, []⟩) (I8 x2 go4 x5) LF 0 seen3 F (f7 (e8 (f9 Z (gF Z Z ((cSl cInt).ok_psl _ Z) (f9 Z (f9 Z (m5 cInt Z (f9 Z (f9 Z j1))))))) (l9 Z Z Z (r8 (w5 kInt kInt _ _)) j2) Z Z Z Z)) ?_))))))))))
  intro go8 x6 seen7 F
  replace F : z7 x2 go4 x5 go8 x6 seen7 = some q := F
  unfold z7 at F
  refine qn 1 Z (d6 (l5 F Z (fun G F => ?_) (fun G F => ?_)))
  ·obtain ⟨x9, hn_x9, F⟩ := d7 F
   refine f8 (d6 (i9 (qr (sv Z (k9 cInt hn_x9 K Z Z Z Z) Z (xn 2 Z (d6 (qx 3 Z (n9 (g := 23) F Z (fun G F => ?_) (fun G F => ?_)))))))))
   ·obtain rfl := g8 F
    exact xn 9 Z (r7 Z (d6 (e7 [] Z (gn 1 Z (j8 (u5 (A2 (u5 (cP (A2 (A2 (u5 (cP (A2 (u5 (s7 Z (i8 _)))))))))))))))))
   ·refine xq 4 Z (n9 (g := 27) F Z (fun G F => ?_) (fun G F => ?_))
    ·obtain rfl := g8 F
     exact xn 5 Z (r7 Z (d6 (e7 [] Z (gn 1 Z (j8 (u5 (A2 (u5 (cP (A2 (A2 (u5 (cP (A2 (u5 (s7 Z (i8 _)))))))))))))))))
    ·refine xq 2 Z (sv Z (uP bA (k := 3) z_3 K Z (W5 Z) Z Z Z) Z (xn 2 Z (l5 F Z (fun G F => ?_) (fun G F => ?_))))
     ·obtain rfl := g8 F
      exact d6 (e7 [] Z (gn 1 Z (j8 (u5 (A2 (u5 (cP (A2 (A2 (u5 (cP (A2 (u5 (s7 Z (i8 _)))))))))))))))
     ·obtain ⟨H1, F⟩ := g7 F
      exact f8 (e7 [3, 7, 9, 10, 11, 15, 16, 17, 24, 25, 28, 29, 30, 31] Z (gx 2 Z (sm_put (E := kInt) (k := 3) (e := 3) bA K Z Z (W5 Z) Z Z Z Z Z (j9 (I2 (j6 (t7 K Z Z Z H1 Z (xn 1 Z (m0 ⟨((x6 + 1), (mput seen7 x9 1)), F, (f7 (e8 (f9 Z (gF Z Z ((cSl cInt).ok_psl _ Z) (f9 Z (f9 Z (m5 cInt Z (f9 Z (f9 Z j1))))))) (l9 Z Z Z (r8 (w5 kInt kInt _ _)) j2) Z Z Z Z))⟩)))))))))
  ·obtain ⟨H1, F⟩ := g7 F
   exact o7 (X2 (X1 (t8 (I2 (j6 (t7 K Z Z Z H1 Z (xn 1 Z (m0 ⟨((x2 + 1), seen7), F, (f7 (e8 (f9 Z (gF Z Z ((cSl cInt).ok_psl _ Z) (f9 Z (f9 Z j1)))) (l9 Z Z Z (r8 (w5 kInt kInt _ _)) j2) Z Z Z Z))⟩))))))))
 ·obtain rfl := g8 F
  exact o7 (X2 (X1 (t8 (qn 1 Z (u0 Z)))))
def oQ (C4 : PC → LI → Option (LI)) : Prop := ∀ (c : PC) (out : LI) (q : LI), C4 c out = some q → FC Tryz.prog 154 [.agg (cCore.row 0 c), .hsl 0 0 out.length] [(0, ⟨1, out.map (cInt.enc 0)⟩)] 8 (fun x h2 => x = .hsl 0 0 q.length ∧ hget h2 0 = some ⟨1, q.map (cInt.enc 0)⟩)
theorem af7 (C4 : PC → LI → Option (LI)) (h_i_boundIn : oQ C4) : oQ (dL C4) := by
 intro c out q F
 unfold dL at F
 obtain ⟨H1, F⟩ := g7 F
 refine FC.of_le_lent (bdy Tryz.func154 Tryz.ntmps154 Z Z Z (qn 2 Z (qx 3 Z (B7 cInt (l := 0) (xs := out) (ys := c.params) H1 Z K Z Z Z Z Z Z Z (cW cInt (l := 0) Z Z Z) Z (xn 1 Z (d6 (qx 2 Z (sv Z (o5 cCore K Z Z Z) Z (xn 1 Z (i9 (u6 (fun x4 out5 => ⟨[(1, .hsl 0 0 out5.length), (12, .psl 0 8 (c.kids.map (cCore.enc 0))), (13, .int .i64 (c.kids.length : Int)), (14, .int .i64 x4)], [(0, ⟨1, out5.map (cInt.enc 0)⟩)], 9, 23, []⟩) (lQ C4 c) LF 0 (out ++ c.params) F (f7 (e8 (f9 Z (m5 cCore Z (f9 Z (f9 Z j1)))) (l7 Z j2) Z Z Z Z)) ?_)))))))))))
 intro go6 x4 out5 F
 replace F : jD C4 c go6 x4 out5 = some q := F
 unfold jD at F
 refine qn 1 Z (d6 (l5 F Z (fun G F => ?_) (fun G F => ?_)))
 ·obtain ⟨x7, hn_x7, F⟩ := d7 F
  obtain ⟨x8, hx8, F⟩ := d7 F
  obtain ⟨H1, F⟩ := g7 F
  exact f8 (d6 (i9 (qr (sv Z (k9 cCore hn_x7 K Z Z Z Z) Z (xn 3 Z (gx 2 Z (lJ 0 (h_i_boundIn x7 out5 x8 hx8) Z (d9 (m7 _ (p9 cCore x7 Z)) (d9 Z l6)) Z (Cd.rnR cInt _ out5 Z) Z (Cd.rnR cInt _ x8 Z) Z (xn 1 Z (I2 (e7 [1, 12, 13, 14] Z (j6 (t7 K Z Z Z H1 Z (xn 1 Z (m0 ⟨((x4 + 1), x8), F, (f7 (e8 (f9 Z (m5 cCore Z (f9 Z (f9 Z j1)))) (l7 Z j2) Z Z Z Z))⟩))))))))))))))
 ·obtain rfl := g8 F
  exact o7 (X2 (X1 (t8 (qn 2 Z (j8 (z5 Z ((i8 _)) Z))))))
theorem i_boundIn_ok (n : Nat) : oQ (C4 n) := by
 induction n with
 | zero => exact fun _ _ q h => by cases h
 | succ n ih => exact fun c out q h => af7 (C4 n) ih c out q h
theorem oN (c : PC) (q : LI) (F : Q4 c = some q) : FC Tryz.prog 106 [.agg (cCore.row 0 c)] [] 8 (fun x _ => x = .psl 1 1 (q.map (cInt.enc 1))) := by
 unfold Q4 at F
 obtain ⟨x2, hx2, F⟩ := d7 F
 obtain rfl := g8 F
 exact FC.of_le (bdy Tryz.func106 Tryz.ntmps106 Z Z Z (qn 2 Z (qx 1 Z (qO 9 (pre := [.agg (cCore.row 0 c)]) (suf := []) (i_boundIn_ok RF c [] x2 hx2) Z Z Z (d9 (m7 _ (p9 cCore c Z)) (d9 Z l6)) Z (Cd.rnR cInt _ x2 Z) Z (xn 1 Z (S8 (dX 2 Z Z (by simp) Z) (u0 Z)))))))
theorem aa5 (c : PC) (q : Bool) (F : dU c = some q) : FC Tryz.prog 51 [.agg (cCore.row 0 c)] [] 8 (fun x _ => x = .bool q) := by
 unfold dU at F
 obtain ⟨x2, hx2, F⟩ := d7 F
 refine FC.of_le (bdy Tryz.func51 Tryz.ntmps51 Z Z Z (qn 2 Z (qn 2 Z (d6 ?_))))
 rcases ite_some F with ⟨hc6, F⟩ | ⟨hc6, F⟩
 ·obtain ⟨x3, hx3, F⟩ := d7 F
  refine iW (id := 2) 6 ⟨[(6, .bool true), (8, .psl 1 1 (x3.map (cInt.enc 1))), (9, .agg (cCore.row 0 c))], [], 10, 14, []⟩ (by kernel_rfl) (by kernel_rfl) ?_ ?_
  ·refine E6 [] Z ?_
   repeat' first | refine xn 1 Z ?_ | refine j7 (fM c x3 hx3) Z ((e9 (p9 cCore c Z) j4)) (nY cInt x3 Z) Z (j9 ?_) | refine ops_kT (g := 6) (by simp [hc6]) Z (xn 1 Z ?_) | refine B8 9 (oE RF c 1 0 x2 hx2) Z (d9 (m7 _ (p9 cCore c Z)) (d9 Z (d9 Z l6))) Z Z Z Z Z (j9 ?_) | refine j3 [0, 1, 2, 3, 5] [4] (by kernel_rfl) Z (f6 Z ?_ j5) | refine j3 [0, 1, 2, 3, 4] [5] (by kernel_rfl) Z (f6 Z ?_ j5) | refine j3 [0, 1, 2, 3] [4, 5] (by kernel_rfl) Z (f6 Z ?_ (f6 Z ?_ j5)) | refine j3 [0, 1, 2, 5] [3] (by kernel_rfl) Z (f6 Z ?_ j5) | refine j3 [0, 1, 2] [3, 5] (by kernel_rfl) Z (f6 Z ?_ (f6 Z ?_ j5)) | refine j3 [0, 1] [2] (by kernel_rfl) Z (f6 Z ?_ j5) | refine j3 [0] [1] (by kernel_rfl) Z (f6 Z ?_ j5) | refine j3 [] [0] (by kernel_rfl) Z (f6 Z ?_ j5) | exact S9 (by kernel_rfl) (f7 (e8 (f9 Z (m5 cInt Z (ee_ag cCore Z j1))) j2 Z Z Z Z))
  ·obtain ⟨x4, hx4, F⟩ := d7 F
   obtain ⟨x5, hx5, F⟩ := d7 F
   obtain rfl := g8 F
   exact j7 (oN c x4 hx4) Z ((e9 (p9 cCore c Z) j4)) (nY cInt x4 Z) Z (J1 (cSl cInt) (l := 1) ([x3, x4] : List (LI)) K Z Z Z Z Z Z Z (O8 (jJ ([x3, x4] : List (LI)) x5 hx5) Z (i7 (O0 Z (by simp) ((cSl cInt).rlR _ 1 _)) o8) Z Z (xn 2 Z (u0 Z))))
 ·refine iW (id := 2) 6 ⟨[(6, .bool false), (8, .tup []), (9, .tup [])], [], 10, 14, []⟩ (by kernel_rfl) (by kernel_rfl) ?_ ?_
  ·refine E6 [] Z ?_
   repeat' first | refine xn 1 Z ?_ | refine ops_kF (g := 6) (by simp [hc6]) Z (xn 1 Z ?_) | refine B8 9 (oE RF c 1 0 x2 hx2) Z (d9 (m7 _ (p9 cCore c Z)) (d9 Z (d9 Z l6))) Z Z Z Z Z (j9 ?_) | refine j3 [0, 1, 2, 3, 5] [4] (by kernel_rfl) Z (f6 Z ?_ j5) | refine j3 [0, 1, 2, 3, 4] [5] (by kernel_rfl) Z (f6 Z ?_ j5) | refine j3 [0, 1, 2, 3] [4, 5] (by kernel_rfl) Z (f6 Z ?_ (f6 Z ?_ j5)) | refine j3 [0, 1, 2, 5] [3] (by kernel_rfl) Z (f6 Z ?_ j5) | refine j3 [0, 1, 2] [3, 5] (by kernel_rfl) Z (f6 Z ?_ (f6 Z ?_ j5)) | refine j3 [0, 1] [2] (by kernel_rfl) Z (f6 Z ?_ j5) | refine j3 [0] [1] (by kernel_rfl) Z (f6 Z ?_ j5) | refine j3 [] [0] (by kernel_rfl) Z (f6 Z ?_ j5) | exact S9 (by kernel_rfl) (f7 (e8 (f9 Z (gF Z Z (rT (cR j4)) (gF Z Z (rT (cR j4)) j1))) j2 Z Z Z Z))
  ·obtain rfl := g8 F
   exact xn 5 Z (u0 Z)
theorem xQ (c : PC) (globals : LI) (q : PC × Int) (F : dQ c globals = some q) : FC Tryz.prog 65 [.agg (cCore.row 0 c), .psl 0 1 (globals.map (cInt.enc 0))] [] 8 (fun x h2 => ∃ j k l, x = .tup [.agg [.int .i64 q.1.kind, .int .i64 q.1.number, .hsl j 0 q.1.params.length, .int .i64 q.1.datum.kind, .int .i64 q.1.datum.number, .str q.1.datum.text, .hsl k 0 q.1.datum.items.length, .hsl l 0 q.1.kids.length], .int .i64 q.2] ∧ Go.Abs.distinct [j, k, l] = true ∧ hget h2 j = some ⟨1, q.1.params.map (cInt.enc 0)⟩ ∧ hget h2 k = some ⟨4, q.1.datum.items.map (cDat.enc 2)⟩ ∧ hget h2 l = some ⟨8, q.1.kids.map (cCore.enc 2)⟩) := by
 unfold dQ at F
 obtain ⟨x3, hx3, F⟩ := d7 F
 obtain ⟨H1, F⟩ := g7 F
 refine bdy Tryz.func65 Tryz.ntmps65 Z Z Z (qn 3 Z (qn 1 Z (i9 (at_peel (i9 (qx 2 Z (L6 (rE c globals x3 hx3) Z (i7 (s4 (p9 cCore c Z)) (i7 (s4 (K7 cInt globals Z)) o8)) (Cd.rlR cInt f01 0 _) (Cd.rlR cDat f01 2 _) (Cd.rlR cCore f01 2 _) Z (fun j k l hd => by simp [V.rnA, V.rnAL, V.rl, upJa, upJb hd, upJc hd]) Z (xq 4 Z (p7 K Z Z Z Z Z (t6 Z (by simp) Z (by simp) Z (by simp)) Z Z Z (xn 1 Z (d6 (e7 [1, 2, 4, 6, 7, 8] Z (gx 1 Z (p7 K Z Z Z Z Z (t6 Z (by simp) Z (by simp) Z (by simp)) Z Z Z (j9 (qx 2 Z (t7 K Z Z Z H1 Z (xn 1 Z (qn 2 Z (l5 F Z (fun G F => ?_) (fun G F => ?_)))))))))))))))))))))
 ·obtain rfl := g8 F
  exact d6 (e7 [2, 4, 6] Z (gx 2 Z (p7 K Z Z Z Z Z (t6 Z (by simp) Z (by simp) Z (by simp)) Z Z Z (xn 1 Z (j8 (A2 (u5 (A2 (⟨_, Z, 10, 11, 12, Z, Z, Z, Z, Z⟩)))))))))
 ·refine f8 (I2 (cl_loopP (σ := Int × Int × Int × Int × Int × LB × LI × List PD × List PC) (fun v => match v with | (total4, c5, c6, c7, c8, c9, x10, x11, x12) => ⟨[(1, .psl 0 1 (globals.map (cInt.enc 0))), (2, .ptr 8 1 0 0), (4, .ptr 9 1 0 0), (6, .int .i64 total4)], [(8, ⟨8, [[.int .i64 c5, .int .i64 c6, .hsl 14 0 x10.length, .int .i64 c7, .int .i64 c8, .str c9, .hsl 15 0 x11.length, .hsl 16 0 x12.length]]⟩), (9, ⟨8, [A0]⟩), (14, ⟨1, x10.map (cInt.enc 0)⟩), (15, ⟨4, x11.map (cDat.enc 2)⟩), (16, ⟨8, x12.map (cCore.enc 2)⟩)], 17, 23, []⟩) (gK globals) LF ((0 + x3.2), x3.1.kind, x3.1.number, x3.1.datum.kind, x3.1.datum.number, x3.1.datum.text, x3.1.params, x3.1.datum.items, x3.1.kids) F (vG [(8, 8), (9, 9), (10, 14), (11, 15), (12, 16)] Z Z (q8 Z (m7 _ (K7 cInt globals Z)) (q8 Z (J3 Z) (q8 Z (J3 Z) (q8 Z Z lB)))) (o3 Z Z Z (u4 (d9 Z (d9 Z (d9 (w8 Z) (d9 Z (d9 Z (d9 Z (d9 (w8 Z) (d9 (w8 Z) l6))))))))) (o3 Z Z Z (u4 (d9 Z (d9 Z (d9 Z (d9 Z (d9 Z (d9 Z (d9 Z (d9 Z l6))))))))) (o3 Z Z Z (Cd.rnR cInt _ x3.1.params Z) (o3 Z Z Z (Cd.rnR cDat _ x3.1.datum.items Z) (o3 Z Z Z (Cd.rnR cCore _ x3.1.kids Z) lC))))) Z Z) ?_))
  rintro go13 ⟨total4, c5, c6, c7, c8, c9, x10, x11, x12⟩ F
  replace F : U3 globals go13 total4 c5 c6 c7 c8 c9 x10 x11 x12 = some q := F
  unfold U3 at F
  obtain ⟨x14, hx14, F⟩ := d7 F
  obtain ⟨H1, F⟩ := g7 F
  refine at_eq (s' := ⟨[(1, .psl 0 1 (globals.map (cInt.enc 0))), (2, .ptr 8 1 0 0), (4, .ptr 9 1 0 0), (6, .int .i64 total4)], [(8, ⟨8, [[.int .i64 c5, .int .i64 c6, .hsl 14 0 x10.length, .int .i64 c7, .int .i64 c8, .str c9, .hsl 15 0 x11.length, .hsl 16 0 x12.length]]⟩), (9, ⟨8, [A0]⟩), (14, ⟨1, x10.map (cInt.enc 0)⟩), (15, ⟨4, x11.map (cDat.enc 2)⟩), (16, ⟨8, x12.map (cCore.enc 2)⟩)], 17, 23, []⟩) Z (i9 (qx 2 Z (L6 (rE (PC.mk c5 c6 x10 (PD.mk c7 c8 c9 x11) x12) globals x14 hx14) Z (i7 (mA (i7 (s4 (Z)) (i7 (s4 (Z)) (i7 (O0 Z (by simp) (cInt.rlR _ 0 _)) (i7 (s4 (Z)) (i7 (s4 (Z)) (i7 (s4 (Z)) (i7 (R8 Z (by simp) Z (Cd.dps0 cDat 2 (fun _ => Z) _) (cDat.rlR (fun _ => 0) 2 _)) (i7 (R8 Z (by simp) Z (Cd.dps0 cCore 2 (fun _ => Z) _) (cCore.rlR (fun _ => 0) 2 _)) o8))))))))) (i7 (s4 (K7 cInt globals Z)) o8)) (Cd.rlR cInt f01 0 _) (Cd.rlR cDat f01 2 _) (Cd.rlR cCore f01 2 _) Z (fun j k l hd => by simp [V.rnA, V.rnAL, V.rl, upJa, upJb hd, upJc hd]) Z (xq 4 Z (p7 K Z Z Z Z Z (t6 Z (by simp) Z (by simp) Z (by simp)) Z Z Z (xn 1 Z (qx 1 Z (p7 K Z Z Z Z Z (t6 Z (by simp) Z (by simp) Z (by simp)) Z Z Z (j9 (d6 (e7 [1, 2, 4, 6, 8] Z (gx 2 Z (t7 K Z Z Z H1 Z (xn 1 Z (qn 2 Z (l5 F Z (fun G F => ?_) (fun G F => ?_)))))))))))))))))
  ·obtain rfl := g8 F
   exact d6 (e7 [2, 4, 6] Z (gx 2 Z (p7 K Z Z Z Z Z (t6 Z (by simp) Z (by simp) Z (by simp)) Z Z Z (xn 1 Z (j8 (A2 (cP (A2 (⟨_, Z, 17, 18, 19, Z, Z, Z, Z, Z⟩)))))))))
  ·exact f8 (I2 (m0 ⟨((total4 + x14.2), x14.1.kind, x14.1.number, x14.1.datum.kind, x14.1.datum.number, x14.1.datum.text, x14.1.params, x14.1.datum.items, x14.1.kids), F, (vG [(8, 8), (9, 9), (17, 14), (18, 15), (19, 16)] Z Z (q8 Z (m7 _ (K7 cInt globals Z)) (q8 Z (J3 Z) (q8 Z (J3 Z) (q8 Z Z lB)))) (o3 Z Z Z (u4 (d9 Z (d9 Z (d9 (w8 Z) (d9 Z (d9 Z (d9 Z (d9 (w8 Z) (d9 (w8 Z) l6))))))))) (o3 Z Z Z (u4 (d9 Z (d9 Z (d9 Z (d9 Z (d9 Z (d9 Z (d9 Z (d9 Z l6))))))))) (o3 Z Z Z (Cd.rnR cInt _ x14.1.params Z) (o3 Z Z Z (Cd.rnR cDat _ x14.1.datum.items Z) (o3 Z Z Z (Cd.rnR cCore _ x14.1.kids Z) lC))))) Z Z)⟩))
end Go.Proofs.YtmgigglpdhoneaaGreat
