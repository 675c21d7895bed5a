
import Derived.Test.YtmgigglpdhoneaaLibP
import Derived.Test.YtmgigglpdhoneaaTab2
set_option linter.unusedVariables false
set_option linter.unusedSimpArgs false
namespace Go.Proofs.Ytmgigglpdhoneaa
open Go.Abs
attribute [local irreducible] AT AOps FC DN APl
set_option maxRecDepth 10000
set_option maxHeartbeats 4000000
theorem gP (op : Int) (q : Bool) (F : N8 op = some q) : FC Try.prog 65 [.int .i64 op] [] 8 (fun x _ => x = .bool q) := by
 unfold N8 at F
 refine FC.of_le (bdy Try.func65 Try.ntmps65 Z Z Z (qn 1 Z (qx 3 Z (l5 (g := 5) F Z (fun G F => ?_) (fun G F => ?_)))))
 ·obtain rfl := e9 F
  exact xn 12 Z (u0 Z)
 ·refine xq 4 Z (l5 (g := 9) F Z (fun G F => ?_) (fun G F => ?_))
  ·obtain rfl := e9 F
   exact xn 8 Z (u0 Z)
  ·refine xq 4 Z (l5 (g := 13) F Z (fun G F => ?_) (fun G F => ?_))
   ·obtain rfl := e9 F
    exact xn 4 Z (u0 Z)
   ·obtain rfl := e9 F
    exact xn 4 Z (u0 Z)
def dE (o0 : PD → PD → Option Bool) : Prop := ∀ (a : PD) (b : PD) (q : Bool), o0 a b = some q → FC Try.prog 139 [.agg (cDat.row 0 a), .agg (cDat.row 0 b)] [] 8 (fun x _ => x = .bool q)
theorem oO (o0 : PD → PD → Option Bool) (h_i_EqualData : dE o0) : dE (P7 o0) := by
 intro a b q F
 unfold P7 at F
 refine FC.of_le (bdy Try.func139 Try.ntmps139 Z Z Z (qn 3 Z (c6 (qx 6 Z (R9 (g := 11) F Z (fun G F => ?_) (fun G F => ?_))))))
 ·obtain rfl := e9 F
  exact xn 22 Z (j7 Z (c6 (c8 [] Z (gn 1 Z (u1 Z)))))
 ·refine xq 7 Z (R9 (g := 18) F Z (fun G F => ?_) (fun G F => ?_))
  ·obtain rfl := e9 F
   exact xn 15 Z (j7 Z (c6 (c8 [] Z (gn 1 Z (u1 Z)))))
  ·refine xq 7 Z (R9 (g := 25) F Z (fun G F => ?_) (fun G F => ?_))
   ·obtain rfl := e9 F
    exact xn 8 Z (j7 Z (c6 (c8 [] Z (gn 1 Z (u1 Z)))))
   ·refine xq 2 Z (sv Z (k7 cDat K Z Z Z) Z (xq 2 Z (sv Z (k7 cDat K Z Z Z) Z (xn 2 Z (v5 F Z (fun G F => ?_) (fun G F => ?_))))))
    ·obtain rfl := e9 F
     exact c6 (c8 [] Z (gn 1 Z (u1 Z)))
    ·refine d8 (c6 (c6 (c8 [2, 3] Z (gx 2 Z (sv Z (k7 cDat K Z Z Z) Z (xn 1 Z (f6 (z4 (fun x4 => ⟨[(2, .ptr 8 1 0 0), (3, .ptr 9 1 0 0), (36, .int .i64 (a.items.length : Int)), (37, .int .i64 x4)], [(8, ⟨4, [cDat.row 0 a]⟩), (9, ⟨4, [cDat.row 0 b]⟩)], 10, 53, []⟩) (bC o0 a b) LF 0 F (e8 (d7 (d6 Z (d6 Z (d6 Z (d6 Z f9)))) (u6 cDat Z (u6 cDat Z g7)) Z Z Z Z)) ?_))))))))
     intro go5 x4 F
     replace F : Y3 o0 a b go5 x4 = some q := F
     unfold Y3 at F
     refine qn 1 Z (c6 (j1 F Z (fun G F => ?_) (fun G F => ?_)))
     ·obtain ⟨x6, hn_x6, F⟩ := c7 F
      obtain ⟨x7, hn_x7, F⟩ := c7 F
      obtain ⟨x8, hx8, F⟩ := c7 F
      refine d8 (c6 (f6 (qn 2 Z (c6 (D1 (id := 6) 10 (by kernel_rfl) (by kernel_rfl) (nx K Z (nx K Z (nx K Z (nv Z (j4 cDat hn_x6 K Z Z Z Z) Z (nx K Z (nx K Z (nx K Z (nx K Z (nv Z (j4 cDat hn_x7 K Z Z Z Z) Z (nx K Z (aM Z (i8 (h_i_EqualData x6 x7 x8 hx8) Z ((d9 (r9 cDat x6 Z) (d9 (r9 cDat x7 Z) i7))) Z Z (xn 1 Z (N7 F Z (fun G F => ?_) (fun G F => ?_))))))))))))))))))))
      ·obtain rfl := e9 F
       exact c6 (c8 [] Z (gn 1 Z (j9 (o9 (m9 (I4 (o9 (m9 (m6 Z (f7 _))))))))))
      ·obtain ⟨H1, F⟩ := e7 F
       exact d8 (C7 (c8 [2, 3, 36, 37] Z (j8 (l8 K Z Z Z H1 Z (xn 1 Z (j5 ⟨(x4 + 1), F, (e8 (d7 (d6 Z (d6 Z (d6 Z (d6 Z f9)))) (u6 cDat Z (u6 cDat Z g7)) Z Z Z Z))⟩))))))
     ·obtain rfl := e9 F
      exact k8 (J4 (J6 (l9 (qn 1 Z (u0 Z)))))
theorem qS (n : Nat) : dE (o0 n) := by
 induction n with
 | zero => exact fun _ _ q h => by cases h
 | succ n ih => exact fun a b q h => oO (o0 n) ih a b q h
theorem lW (b : Int) (q : Bool) (F : cE b = some q) : FC Try.prog 149 [.int .u8 b] [] 8 (fun x _ => x = .bool q) := by
 unfold cE at F
 refine FC.of_le (bdy Try.func149 Try.ntmps149 Z Z Z (qn 1 Z (qx 3 Z (l5 (g := 5) F Z (fun G F => ?_) (fun G F => ?_)))))
 ·obtain rfl := e9 F
  exact xn 4 Z (u0 Z)
 ·obtain rfl := e9 F
  exact xn 4 Z (u0 Z)
theorem oV (b : Int) (q : Bool) (F : U6 b = some q) : FC Try.prog 150 [.int .u8 b] [] 8 (fun x _ => x = .bool q) := by
 unfold U6 at F
 refine FC.of_le (bdy Try.func150 Try.ntmps150 Z Z Z (qn 1 Z (c6 (c6 (v7 (fun (x2 : Bool) => ⟨[(0, .int .u8 b), (16, .bool x2)], [], 8, 30, []⟩) (fun x2 => u3 b x2 = some q) ?_ ?_)))))
 ·refine gx 3 Z (l5 (g := 5) F Z (fun G F => ?_) (fun G F => ?_))
  ·refine xq 4 Z (l5 (g := 9) F Z (fun G F => ?_) (fun G F => ?_))
   ·exact xn 7 Z (l0 ⟨true, F, (e8 (d7 (d6 Z (d6 Z f9)) g7 Z Z Z Z))⟩)
   ·refine xq 3 Z (l5 (g := 12) F Z (fun G F => ?_) (fun G F => ?_))
    ·exact xn 4 Z (l0 ⟨(decide (b ≤ 57)), F, (e8 (d7 (d6 Z (d6 Z f9)) g7 Z Z Z Z))⟩)
    ·exact xn 4 Z (l0 ⟨false, F, (e8 (d7 (d6 Z (d6 Z f9)) g7 Z Z Z Z))⟩)
  ·refine xq 7 Z (l5 (g := 12) F Z (fun G F => ?_) (fun G F => ?_))
   ·exact xn 4 Z (l0 ⟨(decide (b ≤ 57)), F, (e8 (d7 (d6 Z (d6 Z f9)) g7 Z Z Z Z))⟩)
   ·exact xn 4 Z (l0 ⟨false, F, (e8 (d7 (d6 Z (d6 Z f9)) g7 Z Z Z Z))⟩)
 ·intro x2 F
  replace F : u3 b x2 = some q := F
  unfold u3 at F
  refine qR F Z (fun G F => ?_) (fun G F => ?_)
  ·obtain rfl := e9 F
   exact qn 1 Z (u1 Z)
  ·refine d8 (c6 (qn 1 Z (f6 (c6 (qn 2 Z (j1 F Z (fun G F => ?_) (fun G F => ?_)))))))
   ·obtain rfl := e9 F
    exact d8 (j7 Z (qn 1 Z (u2 Z)))
   ·refine qn 2 Z (j1 F Z (fun G F => ?_) (fun G F => ?_))
    ·obtain rfl := e9 F
     exact d8 (j7 Z (qn 1 Z (u2 Z)))
    ·refine qn 2 Z (j1 F Z (fun G F => ?_) (fun G F => ?_))
     ·obtain rfl := e9 F
      exact d8 (j7 Z (c6 (c8 [] Z (gn 1 Z (u2 Z)))))
     ·refine qn 2 Z (j1 F Z (fun G F => ?_) (fun G F => ?_))
      ·obtain rfl := e9 F
       exact d8 (j7 Z (c6 (c8 [] Z (gn 1 Z (u2 Z)))))
      ·refine c6 (c8 [17] Z (gn 2 Z (j1 F Z (fun G F => ?_) (fun G F => ?_))))
       ·obtain rfl := e9 F
        exact d8 (j7 Z (qn 1 Z (u2 Z)))
       ·refine qn 2 Z (j1 F Z (fun G F => ?_) (fun G F => ?_))
        ·obtain rfl := e9 F
         exact d8 (j7 Z (qn 1 Z (u2 Z)))
        ·refine qn 2 Z (j1 F Z (fun G F => ?_) (fun G F => ?_))
         ·obtain rfl := e9 F
          exact d8 (j7 Z (qn 1 Z (u2 Z)))
         ·refine qn 2 Z (j1 F Z (fun G F => ?_) (fun G F => ?_))
          ·obtain rfl := e9 F
           exact d8 (j7 Z (qn 1 Z (u2 Z)))
          ·refine qn 2 Z (j1 F Z (fun G F => ?_) (fun G F => ?_))
           ·obtain rfl := e9 F
            exact d8 (j7 Z (c6 (c8 [] Z (gn 1 Z (u2 Z)))))
           ·refine qn 2 Z (j1 F Z (fun G F => ?_) (fun G F => ?_))
            ·obtain rfl := e9 F
             exact d8 (j7 Z (c6 (c8 [] Z (gn 1 Z (u2 Z)))))
            ·refine c8 [17] Z (gn 2 Z (j1 F Z (fun G F => ?_) (fun G F => ?_)))
             ·obtain rfl := e9 F
              exact qn 1 Z (u2 Z)
             ·obtain rfl := e9 F
              exact d8 (C7 (qn 1 Z (u0 Z)))
theorem jC (s : LB) (q : Bool) (F : X4 s = some q) : FC Try.prog 132 [.str s] [] 8 (fun x _ => x = .bool q) := by
 unfold X4 at F
 refine FC.of_le (bdy Try.func132 Try.ntmps132 Z Z Z (qn 1 Z (c6 (c6 (v7 (fun (x2 : Bool) => ⟨[(0, .str s), (31, .bool x2)], [], 8, 43, []⟩) (fun x2 => u7 s x2 = some q) ?_ ?_)))))
 ·refine gx 4 Z (l5 (g := 7) F Z (fun G F => ?_) (fun G F => ?_))
  ·exact xn 24 Z (l0 ⟨true, F, (e8 (d7 (d6 Z (d6 Z f9)) g7 Z Z Z Z))⟩)
  ·refine xq 5 Z (l5 (g := 12) F Z (fun G F => ?_) (fun G F => ?_))
   ·exact xn 19 Z (l0 ⟨true, F, (e8 (d7 (d6 Z (d6 Z f9)) g7 Z Z Z Z))⟩)
   ·obtain ⟨x2, hn_x2, F⟩ := c7 F
    obtain ⟨x3, hx3, F⟩ := c7 F
    refine xq 1 Z (sv Z (N9 hn_x2 K Z Z Z) Z (i8 (lW (x2.toNat : Int) x3 hx3) Z ((d9 (Z) i7)) Z Z (xq 2 Z (Q5 (g := 17) F Z (fun G F => ?_) (fun G F => ?_)))))
    ·exact xn 14 Z (l0 ⟨true, F, (e8 (d7 (d6 Z (d6 Z f9)) g7 Z Z Z Z))⟩)
    ·obtain ⟨x4, hn_x4, F⟩ := c7 F
     refine xq 1 Z (sv Z (N9 hn_x4 K Z Z Z) Z (xq 2 Z (l5 (g := 21) F Z (fun G F => ?_) (fun G F => ?_))))
     ·refine xq 5 Z (l5 (g := 26) F Z (fun G F => ?_) (fun G F => ?_))
      ·obtain ⟨x5, hn_x5, F⟩ := c7 F
       obtain ⟨x6, hx6, F⟩ := c7 F
       exact xq 1 Z (sv Z (N9 hn_x5 K Z Z Z) Z (i8 (lW (x5.toNat : Int) x6 hx6) Z ((d9 (Z) i7)) Z Z (xn 2 Z (l0 ⟨x6, F, (e8 (d7 (d6 Z (d6 Z f9)) g7 Z Z Z Z))⟩))))
      ·exact xn 5 Z (l0 ⟨false, F, (e8 (d7 (d6 Z (d6 Z f9)) g7 Z Z Z Z))⟩)
     ·exact xn 10 Z (l0 ⟨false, F, (e8 (d7 (d6 Z (d6 Z f9)) g7 Z Z Z Z))⟩)
 ·intro x2 F
  replace F : u7 s x2 = some q := F
  unfold u7 at F
  refine qR F Z (fun G F => ?_) (fun G F => ?_)
  ·obtain rfl := e9 F
   exact qn 1 Z (u1 Z)
  ·refine d8 (c6 (qn 1 Z (f6 (z4 (fun i3 => ⟨[(0, .str s), (3, .int .i64 i3)], [], 8, 43, []⟩) (dF s) LF 0 F (e8 (d7 (d6 Z (d6 Z f9)) g7 Z Z Z Z)) ?_))))
   intro go4 i3 F
   replace F : D6 s go4 i3 = some q := F
   unfold D6 at F
   refine c6 (qn 4 Z (j1 F Z (fun G F => ?_) (fun G F => ?_)))
   ·obtain ⟨x5, hn_x5, F⟩ := c7 F
    obtain ⟨x6, hx6, F⟩ := c7 F
    refine d8 (c6 (f6 (qx 2 Z (sv Z (N9 hn_x5 K Z Z Z) Z (i8 (oV (x5.toNat : Int) x6 hx6) Z ((d9 (Z) i7)) Z Z (xn 1 Z (N7 F Z (fun G F => ?_) (fun G F => ?_))))))))
    ·obtain rfl := e9 F
     exact c6 (c8 [] Z (gn 1 Z (j9 (o9 (m9 (I4 (o9 (m9 (m6 Z (f7 _))))))))))
    ·obtain ⟨H1, F⟩ := e7 F
     exact d8 (C7 (c8 [0, 3] Z (gx 1 Z (l8 K Z Z Z H1 Z (xn 1 Z (j5 ⟨(i3 + 1), F, (e8 (d7 (d6 Z (d6 Z f9)) g7 Z Z Z Z))⟩))))))
   ·obtain rfl := e9 F
    exact k8 (J4 (J6 (l9 (qn 1 Z (u0 Z)))))
theorem oT (s : LB) (q : Bool) (F : U5 s = some q) : FC Try.prog 162 [.str s] [] 8 (fun x _ => x = .bool q) := by
 unfold U5 at F
 refine FC.of_le (bdy Try.func162 Try.ntmps162 Z Z Z (qn 1 Z (c6 (qn 3 Z (j1 F Z (fun G F => ?_) (fun G F => ?_))))))
 ·obtain rfl := e9 F
  exact qn 1 Z (u1 Z)
 ·refine d8 (c6 (qn 1 Z (f6 (z4 (fun i2 => ⟨[(0, .str s), (3, .int .i64 i2)], [], 8, 29, []⟩) (Y7 s) LF 0 F (e8 (d7 (d6 Z (d6 Z f9)) g7 Z Z Z Z)) ?_))))
  intro go3 i2 F
  replace F : A4 s go3 i2 = some q := F
  unfold A4 at F
  refine c6 (qn 4 Z (j1 F Z (fun G F => ?_) (fun G F => ?_)))
  ·obtain ⟨x4, hn_x4, F⟩ := c7 F
   refine d8 (c6 (f6 (qx 2 Z (sv Z (N9 hn_x4 K Z Z Z) Z (xq 2 Z (l5 (g := 17) F Z (fun G F => ?_) (fun G F => ?_)))))))
   ·obtain rfl := e9 F
    exact xn 11 Z (j7 Z (c6 (c8 [] Z (gn 1 Z (j9 (o9 (m9 (I4 (o9 (m9 (m6 Z (f7 _))))))))))))
   ·obtain ⟨x5, hn_x5, F⟩ := c7 F
    refine xq 2 Z (sv Z (N9 hn_x5 K Z Z Z) Z (xq 3 Z (l5 (g := 23) F Z (fun G F => ?_) (fun G F => ?_))))
    ·obtain rfl := e9 F
     exact xn 5 Z (j7 Z (c6 (c8 [] Z (gn 1 Z (j9 (o9 (m9 (I4 (o9 (m9 (m6 Z (f7 _))))))))))))
    ·obtain ⟨x6, hn_x6, F⟩ := c7 F
     refine xq 2 Z (sv Z (N9 hn_x6 K Z Z Z) Z (xn 2 Z (j1 F Z (fun G F => ?_) (fun G F => ?_))))
     ·obtain rfl := e9 F
      exact c6 (c8 [] Z (gn 1 Z (j9 (o9 (m9 (I4 (o9 (m9 (m6 Z (f7 _))))))))))
     ·obtain ⟨H1, F⟩ := e7 F
      exact d8 (C7 (c8 [0, 3, 18, 19, 20, 21, 24, 25, 26, 27] Z (gx 1 Z (l8 K Z Z Z H1 Z (xn 1 Z (j5 ⟨(i2 + 1), F, (e8 (d7 (d6 Z (d6 Z f9)) g7 Z Z Z Z))⟩))))))
  ·obtain rfl := e9 F
   exact k8 (J4 (J6 (l9 (qn 1 Z (u0 Z)))))
theorem qY (kind : Int) (number : Int) (text : LB) (items : Int) (q : Bool) (F : Y6 kind number text items = some q) : FC Try.prog 158 [.int .i64 kind, .int .i64 number, .str text, .int .i64 items] [] 8 (fun x _ => x = .bool q) := by
 unfold Y6 at F
 refine FC.of_le (bdy Try.func158 Try.ntmps158 Z Z Z (qn 1 Z (c6 (qn 1 Z (f6 (qn 2 Z (j1 F Z (fun G F => ?_) (fun G F => ?_))))))))
 ·refine qx 3 Z (l5 (g := 14) F Z (fun G F => ?_) (fun G F => ?_))
  ·obtain rfl := e9 F
   exact xn 4 Z (u2 Z)
  ·obtain rfl := e9 F
   exact xn 4 Z (u2 Z)
 ·refine qn 2 Z (j1 F Z (fun G F => ?_) (fun G F => ?_))
  ·refine c6 (c8 [1, 2, 3] Z (gx 3 Z (l5 (g := 22) F Z (fun G F => ?_) (fun G F => ?_))))
   ·refine xq 4 Z (l5 (g := 26) F Z (fun G F => ?_) (fun G F => ?_))
    ·obtain ⟨x5, hx5, F⟩ := c7 F
     obtain rfl := e9 F
     exact xq 1 Z (i8 (jC text x5 hx5) Z ((d9 (Z) i7)) Z Z (xn 2 Z (u2 Z)))
    ·obtain rfl := e9 F
     exact xn 4 Z (u2 Z)
   ·obtain rfl := e9 F
    exact xn 8 Z (u2 Z)
  ·refine qn 2 Z (j1 F Z (fun G F => ?_) (fun G F => ?_))
   ·refine c6 (c8 [1, 2, 3] Z (gx 3 Z (l5 (g := 34) F Z (fun G F => ?_) (fun G F => ?_))))
    ·refine xq 4 Z (l5 (g := 38) F Z (fun G F => ?_) (fun G F => ?_))
     ·refine xq 4 Z (l5 (g := 42) F Z (fun G F => ?_) (fun G F => ?_))
      ·obtain rfl := e9 F
       exact xn 4 Z (u2 Z)
      ·obtain rfl := e9 F
       exact xn 4 Z (u2 Z)
     ·obtain rfl := e9 F
      exact xn 8 Z (u2 Z)
    ·obtain rfl := e9 F
     exact xn 12 Z (u2 Z)
   ·refine c6 (c8 [1, 2, 3, 9] Z (gn 2 Z (j1 F Z (fun G F => ?_) (fun G F => ?_))))
    ·refine qx 3 Z (l5 (g := 50) F Z (fun G F => ?_) (fun G F => ?_))
     ·refine xq 8 Z (l5 (g := 58) F Z (fun G F => ?_) (fun G F => ?_))
      ·obtain rfl := e9 F
       exact xn 4 Z (u2 Z)
      ·obtain rfl := e9 F
       exact xn 4 Z (u2 Z)
     ·refine xq 4 Z (l5 (g := 54) F Z (fun G F => ?_) (fun G F => ?_))
      ·refine xq 4 Z (l5 (g := 58) F Z (fun G F => ?_) (fun G F => ?_))
       ·obtain rfl := e9 F
        exact xn 4 Z (u2 Z)
       ·obtain rfl := e9 F
        exact xn 4 Z (u2 Z)
      ·obtain rfl := e9 F
       exact xn 8 Z (u2 Z)
    ·refine qn 2 Z (j1 F Z (fun G F => ?_) (fun G F => ?_))
     ·refine qx 3 Z (l5 (g := 66) F Z (fun G F => ?_) (fun G F => ?_))
      ·refine xq 4 Z (l5 (g := 70) F Z (fun G F => ?_) (fun G F => ?_))
       ·obtain ⟨x5, hx5, F⟩ := c7 F
        obtain rfl := e9 F
        exact xq 1 Z (i8 (oT text x5 hx5) Z ((d9 (Z) i7)) Z Z (xn 2 Z (u2 Z)))
       ·obtain rfl := e9 F
        exact xn 4 Z (u2 Z)
      ·obtain rfl := e9 F
       exact xn 8 Z (u2 Z)
     ·obtain rfl := e9 F
      exact d8 (C7 (c6 (c8 [] Z (gn 1 Z (u0 Z)))))
def hO (t0 : PD → Int → Int → Option (Bool × Int)) : Prop := ∀ (d : PD) (deep : Int) (nodes : Int) (q : Bool × Int), t0 d deep nodes = some q → FC Try.prog 152 [.agg (cDat.row 0 d), .int .i64 deep, .ptr 0 1 0 0] [(0, ⟨1, [cInt.row 1 nodes]⟩)] 8 (fun x h2 => x = .bool q.1 ∧ hget h2 0 = some ⟨1, [cInt.row 1 q.2]⟩)
theorem tS (t0 : PD → Int → Int → Option (Bool × Int)) (h_i_measure : hO t0) : hO (Y4 t0) := by
 intro d deep nodes q F
 unfold Y4 at F
 obtain ⟨H1, F⟩ := e7 F
 refine FC.of_le_lent (bdy Try.func152 Try.ntmps152 Z Z Z (qn 2 Z (qx 3 Z (l8 K Z Z Z H1 Z (xn 2 Z (c6 (c6 (c8 [1, 2, 3] Z (gx 3 Z (l5 (g := 16) F Z (fun G F => ?_) (fun G F => ?_)))))))))))
 ·obtain rfl := e9 F
  exact xn 18 Z (j7 Z (c6 (c8 [] Z (gn 1 Z (j9 (m9 (N2 Z ((f7 _)) Z)))))))
 ·refine xq 6 Z (l5 (g := 22) F Z (fun G F => ?_) (fun G F => ?_))
  ·obtain rfl := e9 F
   exact xn 12 Z (j7 Z (c6 (c8 [] Z (gn 1 Z (j9 (m9 (N2 Z ((f7 _)) Z)))))))
  ·obtain ⟨x5, hx5, F⟩ := c7 F
   refine xq 8 Z (sv Z (k7 cDat K Z Z Z) Z (i8 (qY d.kind d.number d.text (d.items.length : Int) x5 hx5) Z ((d9 (Z) (d9 (Z) (d9 (Z) (d9 (Z) i7))))) Z Z (xn 2 Z (N7 F Z (fun G F => ?_) (fun G F => ?_)))))
   ·obtain rfl := e9 F
    exact c6 (c8 [] Z (gn 1 Z (j9 (m9 (N2 Z ((f7 _)) Z)))))
   ·refine d8 (c6 (c6 (c8 [1, 2, 3] Z (gx 2 Z (sv Z (k7 cDat K Z Z Z) Z (xn 1 Z (f6 (m0 (fun x6 nodes7 => ⟨[(1, .int .i64 deep), (2, .ptr 0 1 0 0), (36, .psl 0 4 (d.items.map (cDat.enc 0))), (37, .int .i64 (d.items.length : Int)), (38, .int .i64 x6)], [(0, ⟨1, [[.int .i64 nodes7]]⟩)], 9, 49, []⟩) (eO t0 d deep) LF 0 (nodes + 1) F (e8 (d7 (d6 Z (d6 Z (g9 cDat Z (d6 Z (d6 Z f9))))) (A0 Z g7) Z Z Z Z)) ?_))))))))
    intro go8 x6 nodes7 F
    replace F : G5 t0 d deep go8 x6 nodes7 = some q := F
    unfold G5 at F
    refine qn 1 Z (c6 (j1 F Z (fun G F => ?_) (fun G F => ?_)))
    ·obtain ⟨x9, hn_x9, F⟩ := c7 F
     obtain ⟨H1, F⟩ := e7 F
     obtain ⟨x10, hx10, F⟩ := c7 F
     refine d8 (c6 (f6 (qr (sv Z (j4 cDat hn_x9 K Z Z Z Z) Z (xn 3 Z (qx 2 Z (l8 K Z Z Z H1 Z (xq 1 Z (B5 0 (h_i_measure x9 (deep + 1) nodes7 x10 hx10) Z (l3 (C6 _ (r9 cDat x9 Z)) (l3 Z (l3 Z B1))) Z Z Z Z Z (xn 1 Z (N7 F Z (fun G F => ?_) (fun G F => ?_))))))))))))
     ·obtain rfl := e9 F
      exact c6 (c8 [] Z (gn 1 Z (j9 (o9 (m9 (I4 (o9 (m9 (N2 Z ((f7 _)) Z)))))))))
     ·obtain ⟨H1, F⟩ := e7 F
      exact d8 (C7 (c8 [1, 2, 36, 37, 38] Z (j8 (l8 K Z Z Z H1 Z (xn 1 Z (j5 ⟨((x6 + 1), x10.2), F, (e8 (d7 (d6 Z (d6 Z (g9 cDat Z (d6 Z (d6 Z f9))))) (A0 Z g7) Z Z Z Z))⟩))))))
    ·obtain rfl := e9 F
     exact k8 (J4 (J6 (l9 (qn 1 Z (j9 (N2 Z ((f7 _)) Z))))))
theorem wW (n : Nat) : hO (t0 n) := by
 induction n with
 | zero => exact fun _ _ _ q h => by cases h
 | succ n ih => exact fun d deep nodes q h => tS (t0 n) ih d deep nodes q h
theorem wS (d : PD) (q : Bool) (F : eK d = some q) : FC Try.prog 140 [.agg (cDat.row 0 d)] [] 8 (fun x _ => x = .bool q) := by
 unfold eK at F
 obtain ⟨x2, hx2, F⟩ := c7 F
 obtain rfl := e9 F
 exact FC.of_le (bdy Try.func140 Try.ntmps140 Z Z Z (qn 2 Z (qn 2 Z (qx 1 Z (B5 9 (wW RF d 1 0 x2 hx2) Z (l3 (C6 _ (r9 cDat d Z)) (l3 Z (l3 Z B1))) Z Z Z Z Z (xn 1 Z (u0 Z)))))))
theorem wU (x_1 : PInstr) (q : Bool) (F : eN x_1 = some q) : FC Try.prog 133 [.agg (cInstr.row 0 x_1)] [] 8 (fun x _ => x = .bool q) := by
 unfold eN at F
 refine FC.of_le (bdy Try.func133 Try.ntmps133 Z Z Z (qn 2 Z (c6 (qx 4 Z (l5 (g := 6) F Z (fun G F => ?_) (fun G F => ?_))))))
 ·obtain rfl := e9 F
  exact xn 4 Z (j7 Z (c6 (c8 [] Z (gn 1 Z (u1 Z)))))
 ·refine xn 4 Z (j1 F Z (fun G F => ?_) (fun G F => ?_))
  ·obtain rfl := e9 F
   exact c6 (c8 [] Z (gn 1 Z (u1 Z)))
  ·refine d8 (c6 (c6 (c8 [1] Z (gn 3 Z (j1 F Z (fun G F => ?_) (fun G F => ?_))))))
   ·refine qx 4 Z (l5 (g := 17) F Z (fun G F => ?_) (fun G F => ?_))
    ·obtain ⟨x2, hx2, F⟩ := c7 F
     obtain rfl := e9 F
     exact xq 2 Z (i8 (wS x_1.d x2 hx2) Z ((d9 (r9 cDat x_1.d Z) i7)) Z Z (xn 2 Z (u1 Z)))
    ·obtain rfl := e9 F
     exact xn 5 Z (u1 Z)
   ·obtain ⟨x2, hx2, F⟩ := c7 F
    refine d8 (c6 (qx 2 Z (sv Z (p9 K Z Z) Z (i8 (FC.weaken (qS RF x_1.d (PD.mk 0 0 ([] : LB) []) x2 hx2) (.cons (f7 _) (.cons (S9 (.cons (f7 _) (.cons (f7 _) (.cons (f7 _) (.cons (u5 _ _) .nil))))) .nil))) Z ((d9 (r9 cDat x_1.d Z) (d9 (rl_aggL (d9 (Z) (d9 (Z) (d9 (Z) (d9 (Z) i7))))) i7))) Z Z (xq 2 Z (J3 (g := 27) F Z (fun G F => ?_) (fun G F => ?_)))))))
    ·obtain rfl := e9 F
     exact xn 9 Z (j7 Z (c6 (c8 [] Z (gn 1 Z (u1 Z)))))
    ·refine xq 5 Z (l5 (g := 32) F Z (fun G F => ?_) (fun G F => ?_))
     ·obtain rfl := e9 F
      exact xn 4 Z (j7 Z (c6 (c8 [] Z (gn 1 Z (u1 Z)))))
     ·refine xn 4 Z (j1 F Z (fun G F => ?_) (fun G F => ?_))
      ·obtain rfl := e9 F
       exact c6 (c8 [] Z (gn 1 Z (u1 Z)))
      ·refine d8 (c6 (c8 [1] Z (gx 4 Z (l5 (g := 40) F Z (fun G F => ?_) (fun G F => ?_)))))
       ·obtain rfl := e9 F
        exact xn 10 Z (u0 Z)
       ·refine xq 4 Z (R9 (g := 44) F Z (fun G F => ?_) (fun G F => ?_))
        ·obtain rfl := e9 F
         exact xn 6 Z (u0 Z)
        ·obtain rfl := e9 F
         exact xn 6 Z (u0 Z)
theorem gZ (q : List (LB)) (F : A3 = some q) : FC Try.prog 123 [] [] 8 (fun x _ => x = .psl 1 1 (q.map (cStr.enc 1))) := by
 unfold A3 at F
 obtain rfl := e9 F
 exact FC.of_le (bdy Try.func123 Try.ntmps123 Z Z Z (qn 1 Z (qr (B2 cStr (l := 0) ([([43] : LB), ([45] : LB), ([42] : LB), ([61] : LB), ([60] : LB), ([99, 111, 110, 115] : LB), ([99, 97, 114] : LB), ([99, 100, 114] : LB), ([110, 117, 108, 108, 63] : LB), ([112, 97, 105, 114, 63] : LB), ([110, 117, 109, 98, 101, 114, 63] : LB), ([101, 113, 63] : LB), ([110, 111, 116] : LB), ([100, 105, 115, 112, 108, 97, 121] : LB)] : List (LB)) K Z Z Z Z Z Z Z (xn 1 Z (bA (L7 0 Z Z (by simp) Z) (u0 Z)))))))
theorem qW (m : PImage) (c : PCode) (k : Int) (x_1 : PInstr) (q : Bool) (F : Y5 m c k x_1 = some q) : FC Try.prog 134 [.agg (cImage.row 0 m), .agg (cCode.row 0 c), .int .i64 k, .agg (cInstr.row 0 x_1)] [] 8 (fun x _ => x = .bool q) := by
 unfold Y5 at F
 refine FC.of_le (bdy Try.func134 Try.ntmps134 Z Z Z (qn 4 Z (c6 (qn 2 Z (f6 (qn 2 Z (j1 F Z (fun G F => ?_) (fun G F => ?_))))))))
 ·obtain ⟨x5, hx5, F⟩ := c7 F
  obtain rfl := e9 F
  exact c6 (c8 [7] Z (D1 (id := 3) 4 (by kernel_rfl) (by kernel_rfl) (nx K Z (nx K Z (sI (gZ  x5 hx5) Z (i7) (mS cStr x5 Z) Z (nv Z (k7 cStr K Z Z Z) Z (aM Z (xn 2 Z (u2 Z)))))))))
 ·refine c6 (c6 (c8 [2, 4, 5, 7, 10] Z (gn 2 Z (j1 F Z (fun G F => ?_) (fun G F => ?_)))))
  ·obtain rfl := e9 F
   exact d8 (j7 Z (qn 6 Z (u2 Z)))
  ·refine qn 2 Z (j1 F Z (fun G F => ?_) (fun G F => ?_))
   ·obtain rfl := e9 F
    exact d8 (j7 Z (qn 6 Z (u2 Z)))
   ·refine gn 2 Z (j1 F Z (fun G F => ?_) (fun G F => ?_))
    ·obtain rfl := e9 F
     exact c6 (c8 [5, 7] Z (gn 6 Z (u2 Z)))
    ·refine qn 2 Z (j1 F Z (fun G F => ?_) (fun G F => ?_))
     ·refine c6 (c8 [5, 7] Z (gx 6 Z (l5 (g := 34) F Z (fun G F => ?_) (fun G F => ?_))))
      ·obtain rfl := e9 F
       exact xn 7 Z (u2 Z)
      ·obtain rfl := e9 F
       exact xn 7 Z (u2 Z)
     ·refine qn 2 Z (j1 F Z (fun G F => ?_) (fun G F => ?_))
      ·obtain rfl := e9 F
       exact c6 (c8 [5, 7] Z (gn 6 Z (u2 Z)))
      ·refine c6 (c6 (c8 [2, 4, 5, 7, 10] Z (gn 2 Z (j1 F Z (fun G F => ?_) (fun G F => ?_)))))
       ·obtain rfl := e9 F
        exact d8 (j7 Z (qn 6 Z (u2 Z)))
       ·refine qn 2 Z (j1 F Z (fun G F => ?_) (fun G F => ?_))
        ·obtain rfl := e9 F
         exact d8 (j7 Z (qn 6 Z (u2 Z)))
        ·refine gn 2 Z (j1 F Z (fun G F => ?_) (fun G F => ?_))
         ·obtain rfl := e9 F
          exact c6 (c8 [5, 7] Z (gn 6 Z (u2 Z)))
         ·refine qn 2 Z (j1 F Z (fun G F => ?_) (fun G F => ?_))
          ·obtain rfl := e9 F
           exact c6 (c8 [2, 7] Z (gn 5 Z (u2 Z)))
          ·refine c6 (c6 (c8 [2, 4, 7, 10] Z (gn 2 Z (v7 (fun (x5 : Bool) => ⟨[(2, .int .i64 k), (4, .ptr 8 1 0 0), (7, .ptr 10 1 0 0), (10, .int .i64 x_1.op), (63, .bool x5)], [(8, ⟨2, [cImage.row 0 m]⟩), (10, ⟨6, [cInstr.row 0 x_1]⟩)], 11, 102, []⟩) (fun x5 => I7 m k x_1 x5 = some q) ?_ ?_))))
           ·refine j1 F Z (fun G F => ?_) (fun G F => ?_)
            ·exact d8 (l0 ⟨true, F, (e8 (d7 (d6 Z (d6 Z (d6 Z (d6 Z (d6 Z f9))))) (u6 cImage Z (u6 cInstr Z g7)) Z Z Z Z))⟩)
            ·exact gn 2 Z (l0 ⟨(decide (x_1.op = 20)), F, (e8 (d7 (d6 Z (d6 Z (d6 Z (d6 Z (d6 Z f9))))) (u6 cImage Z (u6 cInstr Z g7)) Z Z Z Z))⟩)
           ·intro x5 F
            replace F : I7 m k x_1 x5 = some q := F
            unfold I7 at F
            refine qR F Z (fun G F => ?_) (fun G F => ?_)
            ·refine qx 5 Z (l5 (g := 70) F Z (fun G F => ?_) (fun G F => ?_))
             ·obtain ⟨x6, hn_x6, F⟩ := c7 F
              obtain rfl := e9 F
              exact xq 4 Z (sv Z (j4 cCode hn_x6 K Z Z Z Z) Z (xn 5 Z (u2 Z)))
             ·obtain rfl := e9 F
              exact xn 10 Z (u2 Z)
            ·refine qn 2 Z (j1 F Z (fun G F => ?_) (fun G F => ?_))
             ·refine qx 5 Z (l5 (g := 86) F Z (fun G F => ?_) (fun G F => ?_))
              ·obtain ⟨x6, hn_x6, F⟩ := c7 F
               obtain rfl := e9 F
               exact xq 4 Z (sv Z (j4 cCode hn_x6 K Z Z Z Z) Z (xn 5 Z (u2 Z)))
              ·obtain rfl := e9 F
               exact xn 10 Z (u2 Z)
             ·refine c6 (qn 2 Z (j1 F Z (fun G F => ?_) (fun G F => ?_)))
              ·obtain rfl := e9 F
               exact d8 (j7 Z (c6 (c8 [7] Z (gn 4 Z (u2 Z)))))
              ·refine c8 [7, 10] Z (gn 2 Z (j1 F Z (fun G F => ?_) (fun G F => ?_)))
               ·obtain rfl := e9 F
                exact qn 4 Z (u2 Z)
               ·obtain rfl := e9 F
                exact d8 (C7 (qn 1 Z (u0 Z)))
theorem i_codeOk_ok (m : PImage) (k : Int) (q : Bool) (F : jD m k = some q) : FC Try.prog 108 [.agg (cImage.row 0 m), .int .i64 k] [] 8 (fun x _ => x = .bool q) := by
 unfold jD at F
 obtain ⟨x3, hn_x3, F⟩ := c7 F
 refine FC.of_le (bdy Try.func108 Try.ntmps108 Z Z Z (qn 2 Z (qx 3 Z (sv Z (j4 cCode hn_x3 K Z Z Z Z) Z (xn 3 Z (c6 (c6 (c8 [1, 2, 5] Z (gx 4 Z (l5 (g := 16) F Z (fun G F => ?_) (fun G F => ?_)))))))))))
 ·obtain rfl := e9 F
  exact xn 38 Z (j7 Z (c6 (c8 [] Z (gn 1 Z (u1 Z)))))
 ·refine xq 5 Z (l5 (g := 21) F Z (fun G F => ?_) (fun G F => ?_))
  ·obtain rfl := e9 F
   exact xn 33 Z (j7 Z (c6 (c8 [] Z (gn 1 Z (u1 Z)))))
  ·refine xq 7 Z (l5 (g := 28) F Z (fun G F => ?_) (fun G F => ?_))
   ·obtain rfl := e9 F
    exact xn 26 Z (j7 Z (c6 (c8 [] Z (gn 1 Z (u1 Z)))))
   ·refine xq 5 Z (l5 (g := 33) F Z (fun G F => ?_) (fun G F => ?_))
    ·obtain rfl := e9 F
     exact xn 21 Z (j7 Z (c6 (c8 [] Z (gn 1 Z (u1 Z)))))
    ·refine xq 5 Z (l5 (g := 38) F Z (fun G F => ?_) (fun G F => ?_))
     ·obtain rfl := e9 F
      exact xn 16 Z (j7 Z (c6 (c8 [] Z (gn 1 Z (u1 Z)))))
     ·refine xq 5 Z (l5 (g := 43) F Z (fun G F => ?_) (fun G F => ?_))
      ·obtain rfl := e9 F
       exact xn 11 Z (j7 Z (c6 (c8 [] Z (gn 1 Z (u1 Z)))))
      ·refine xq 2 Z (sv Z (k7 cInstr K Z Z Z) Z (xq 3 Z (l5 (g := 49) F Z (fun G F => ?_) (fun G F => ?_))))
       ·obtain rfl := e9 F
        exact xn 5 Z (j7 Z (c6 (c8 [] Z (gn 1 Z (u1 Z)))))
       ·refine xq 2 Z (sv Z (k7 cInstr K Z Z Z) Z (xn 2 Z (j1 F Z (fun G F => ?_) (fun G F => ?_))))
        ·obtain rfl := e9 F
         exact c6 (c8 [] Z (gn 1 Z (u1 Z)))
        ·refine d8 (c6 (c6 (c8 [1, 2, 5] Z (gx 2 Z (sv Z (k7 cInstr K Z Z Z) Z (xn 1 Z (f6 (z4 (fun x4 => ⟨[(1, .int .i64 k), (2, .ptr 8 1 0 0), (5, .ptr 9 1 0 0), (56, .psl 0 6 (x3.instrs.map (cInstr.enc 0))), (57, .int .i64 (x3.instrs.length : Int)), (58, .int .i64 x4)], [(8, ⟨2, [cImage.row 0 m]⟩), (9, ⟨4, [cCode.row 0 x3]⟩)], 10, 74, []⟩) (hC m k x3) LF 0 F (e8 (d7 (d6 Z (d6 Z (d6 Z (g9 cInstr Z (d6 Z (d6 Z f9)))))) (u6 cImage Z (u6 cCode Z g7)) Z Z Z Z)) ?_))))))))
         intro go5 x4 F
         replace F : J8 m k x3 go5 x4 = some q := F
         unfold J8 at F
         refine qn 1 Z (c6 (j1 F Z (fun G F => ?_) (fun G F => ?_)))
         ·obtain ⟨x6, hn_x6, F⟩ := c7 F
          obtain ⟨x7, hx7, F⟩ := c7 F
          refine d8 (c6 (f6 (qr (sv Z (j4 cInstr hn_x6 K Z Z Z Z) Z (xn 3 Z (qx 1 Z (i8 (wU x6 x7 hx7) Z ((d9 (r9 cInstr x6 Z) i7)) Z Z (xq 2 Z (J3 (g := 65) F Z (fun G F => ?_) (fun G F => ?_))))))))))
          ·obtain rfl := e9 F
           exact xn 7 Z (j7 Z (c6 (c8 [] Z (gn 1 Z (j9 (o9 (m9 (I4 (o9 (m9 (m6 Z (f7 _))))))))))))
          ·obtain ⟨x8, hx8, F⟩ := c7 F
           refine xq 4 Z (i8 (qW m x3 k x6 x8 hx8) Z ((d9 (r9 cImage m Z) (d9 (r9 cCode x3 Z) (d9 (Z) (d9 (r9 cInstr x6 Z) i7))))) Z Z (xn 2 Z (N7 F Z (fun G F => ?_) (fun G F => ?_))))
           ·obtain rfl := e9 F
            exact c6 (c8 [] Z (gn 1 Z (j9 (o9 (m9 (I4 (o9 (m9 (m6 Z (f7 _))))))))))
           ·obtain ⟨H1, F⟩ := e7 F
            exact d8 (C7 (c8 [1, 2, 5, 56, 57, 58, 66, 67, 68, 69, 70, 71] Z (j8 (l8 K Z Z Z H1 Z (xn 1 Z (j5 ⟨(x4 + 1), F, (e8 (d7 (d6 Z (d6 Z (d6 Z (g9 cInstr Z (d6 Z (d6 Z f9)))))) (u6 cImage Z (u6 cCode Z g7)) Z Z Z Z))⟩))))))
         ·obtain rfl := e9 F
          exact k8 (J4 (J6 (l9 (c6 (c8 [] Z (gn 1 Z (u0 Z)))))))
theorem i_effect_ok (m : PImage) (x_1 : PInstr) (q : Int × Int) (F : jF m x_1 = some q) : FC Try.prog 135 [.agg (cImage.row 0 m), .agg (cInstr.row 0 x_1)] [] 8 (fun x _ => x = .tup [.int .i64 q.1, .int .i64 q.2]) := by
 unfold jF at F
 refine FC.of_le (bdy Try.func135 Try.ntmps135 Z Z Z (qn 4 Z (c6 (qn 2 Z (f6 (c6 (qn 2 Z (j1 F Z (fun G F => ?_) (fun G F => ?_)))))))))
 ·obtain rfl := e9 F
  exact d8 (j7 Z (c6 (c8 [] Z (gn 2 Z (u2 Z)))))
 ·refine c6 (c8 [2, 3, 7] Z (gn 2 Z (j1 F Z (fun G F => ?_) (fun G F => ?_))))
  ·obtain rfl := e9 F
   exact d8 (j7 Z (qn 2 Z (u2 Z)))
  ·refine qn 2 Z (j1 F Z (fun G F => ?_) (fun G F => ?_))
   ·obtain rfl := e9 F
    exact d8 (j7 Z (qn 2 Z (u2 Z)))
   ·refine qn 2 Z (j1 F Z (fun G F => ?_) (fun G F => ?_))
    ·obtain rfl := e9 F
     exact d8 (j7 Z (c6 (c8 [] Z (gn 2 Z (u2 Z)))))
    ·refine qn 2 Z (j1 F Z (fun G F => ?_) (fun G F => ?_))
     ·obtain rfl := e9 F
      exact d8 (j7 Z (c6 (c8 [] Z (gn 2 Z (u2 Z)))))
     ·refine gn 2 Z (j1 F Z (fun G F => ?_) (fun G F => ?_))
      ·obtain rfl := e9 F
       exact c6 (c8 [] Z (gn 2 Z (u2 Z)))
      ·refine c6 (qn 2 Z (j1 F Z (fun G F => ?_) (fun G F => ?_)))
       ·obtain rfl := e9 F
        exact d8 (j7 Z (c6 (c8 [] Z (gn 2 Z (u2 Z)))))
       ·refine c8 [2, 3, 7] Z (gn 2 Z (j1 F Z (fun G F => ?_) (fun G F => ?_)))
        ·obtain rfl := e9 F
         exact qn 2 Z (u2 Z)
        ·refine c6 (qn 2 Z (j1 F Z (fun G F => ?_) (fun G F => ?_)))
         ·obtain ⟨x3, hn_x3, F⟩ := c7 F
          obtain rfl := e9 F
          exact d8 (j7 Z (qx 4 Z (sv Z (j4 cCode hn_x3 K Z Z Z Z) Z (xn 4 Z (u2 Z)))))
         ·refine qn 2 Z (j1 F Z (fun G F => ?_) (fun G F => ?_))
          ·obtain ⟨x3, hn_x3, F⟩ := c7 F
           obtain rfl := e9 F
           exact d8 (j7 Z (qx 4 Z (sv Z (j4 cCode hn_x3 K Z Z Z Z) Z (xn 4 Z (u2 Z)))))
          ·refine qn 2 Z (j1 F Z (fun G F => ?_) (fun G F => ?_))
           ·obtain ⟨x3, hn_x3, F⟩ := c7 F
            obtain rfl := e9 F
            exact d8 (j7 Z (c6 (c8 [2, 3] Z (gx 4 Z (sv Z (j4 cCode hn_x3 K Z Z Z Z) Z (xn 4 Z (u2 Z)))))))
           ·refine gn 2 Z (j1 F Z (fun G F => ?_) (fun G F => ?_))
            ·obtain ⟨x3, hn_x3, F⟩ := c7 F
             obtain rfl := e9 F
             exact c6 (c8 [2, 3] Z (gx 4 Z (sv Z (j4 cCode hn_x3 K Z Z Z Z) Z (xn 4 Z (u2 Z)))))
            ·refine c6 (c8 [3, 7] Z (gn 2 Z (j1 F Z (fun G F => ?_) (fun G F => ?_))))
             ·obtain ⟨H1, F⟩ := e7 F
              obtain rfl := e9 F
              exact qx 2 Z (l8 K Z Z Z H1 Z (xn 2 Z (u2 Z)))
             ·refine qn 2 Z (j1 F Z (fun G F => ?_) (fun G F => ?_))
              ·obtain ⟨H1, F⟩ := e7 F
               obtain rfl := e9 F
               exact qx 2 Z (l8 K Z Z Z H1 Z (xn 2 Z (u2 Z)))
              ·refine c6 (qn 2 Z (j1 F Z (fun G F => ?_) (fun G F => ?_)))
               ·obtain rfl := e9 F
                exact d8 (j7 Z (c6 (c8 [] Z (gn 2 Z (u2 Z)))))
               ·refine c6 (c8 [7] Z (gn 2 Z (j1 F Z (fun G F => ?_) (fun G F => ?_))))
                ·obtain rfl := e9 F
                 exact d8 (j7 Z (qn 2 Z (u2 Z)))
                ·refine gn 2 Z (j1 F Z (fun G F => ?_) (fun G F => ?_))
                 ·obtain rfl := e9 F
                  exact qn 2 Z (u2 Z)
                 ·obtain rfl := e9 F
                  exact d8 (C7 (qn 2 Z (u0 Z)))
theorem tR (m : PImage) (code : Int) (q : LI × Bool) (F : cC m code = some q) : FC Try.prog 109 [.agg (cImage.row 0 m), .int .i64 code] [] 8 (fun x _ => x = .tup [.psl 1 1 (q.1.map (cInt.enc 1)), .bool q.2]) := by
 unfold cC at F
 obtain ⟨x3, hn_x3, F⟩ := c7 F
 obtain ⟨H1, F⟩ := e7 F
 refine FC.of_le (bdy Try.func109 Try.ntmps109 Z Z Z (qn 3 Z (qx 3 Z (sv Z (j4 cCode hn_x3 K Z Z Z Z) Z (xn 3 Z (c6 (c8 [2, 6] Z (gx 1 Z (sv Z (k7 cInstr K Z Z Z) Z (W6 cInt (l := 0) (v := (0 : Int)) H1 K Z Z Z Z (cR _) Z Z Z Z (xn 1 Z (c6 (qx 1 Z (sv Z (C8 cInt K Z Z Z) Z (xn 1 Z (f6 (m0 (fun x4 out5 => ⟨[(2, .ptr 8 1 0 0), (6, .psl 0 6 (x3.instrs.map (cInstr.enc 0))), (7, .hsl 9 0 out5.length), (27, .int .i64 ((List.replicate (x3.instrs.length : Int).toNat (0 : Int)).length : Int)), (28, .int .i64 x4)], [(8, ⟨2, [cImage.row 0 m]⟩), (9, ⟨1, out5.map (cInt.enc 0)⟩)], 10, 130, []⟩) (dI m x3) LF 0 (List.replicate (x3.instrs.length : Int).toNat (0 : Int)) F (e8 (d7 (d6 Z (g9 cInstr Z (d6 Z (d6 Z (d6 Z f9))))) (u6 cImage Z (j3 Z g7)) Z Z Z Z)) ?_)))))))))))))))))
 intro go6 x4 out5 F
 replace F : D8 m x3 go6 x4 out5 = some q := F
 unfold D8 at F
 refine qn 1 Z (c6 (j1 F Z (fun G F => ?_) (fun G F => ?_)))
 ·obtain ⟨x7, hn_x7, F⟩ := c7 F
  obtain ⟨H1, F⟩ := e7 F
  exact d8 (c6 (f6 (qn 2 Z (gx 2 Z (sv Z (l4 cInt hn_x7 K Z Z Z Z) Z (t8 cInt (v' := (-1)) hn_x7 K Z Z Z Z Z Z Z Z (j6 (m7 (y := .hsl 9 0 (out5.set x4.toNat (-1)).length) 7 Z (s4 (congrArg (V.hsl 9 0) (by simp))) Z) (i9 (C7 (j8 (l8 K Z Z Z H1 Z (xn 1 Z (j5 ⟨((x4 + 1), (out5.set x4.toNat (-1))), F, (e8 (d7 (d6 Z (g9 cInstr Z (d6 Z (d6 Z (d6 Z f9))))) (u6 cImage Z (j3 Z g7)) Z Z Z Z))⟩)))))))))))))
 ·obtain ⟨x7, hn_x7, F⟩ := c7 F
  refine k8 (J4 (J6 (l9 (qx 1 Z (sv Z (l4 cInt hn_x7 K Z Z Z Z) Z (t8 cInt (v' := 0) hn_x7 K Z Z Z Z Z Z Z Z (j6 (m7 (y := .hsl 9 0 (out5.set (0 : Int).toNat 0).length) 7 Z (s4 (congrArg (V.hsl 9 0) (by simp))) Z) (i9 (c6 (qx 1 Z (sv Z (k7 cInstr K Z Z Z) Z (xn 1 Z (f6 (m0 (fun x8 out9 => ⟨[(2, .ptr 8 1 0 0), (6, .psl 0 6 (x3.instrs.map (cInstr.enc 0))), (7, .hsl 9 0 out9.length), (37, .psl 0 6 (x3.instrs.map (cInstr.enc 0))), (38, .int .i64 (x3.instrs.length : Int)), (39, .int .i64 x8)], [(8, ⟨2, [cImage.row 0 m]⟩), (9, ⟨1, out9.map (cInt.enc 0)⟩)], 10, 130, []⟩) (W8 m x3) LF 0 (out5.set (0 : Int).toNat 0) F (e8 (d7 (d6 Z (g9 cInstr Z (d6 Z (g9 cInstr Z (d6 Z (d6 Z f9)))))) (u6 cImage Z (j3 Z g7)) Z Z Z Z)) ?_))))))))))))))
  intro go10 x8 out9 F
  replace F : D9 m x3 go10 x8 out9 = some q := F
  unfold D9 at F
  refine qn 1 Z (c6 (j1 F Z (fun G F => ?_) (fun G F => ?_)))
  ·refine d8 (c6 (v7 (fun (out11 : LI) => ⟨[(2, .ptr 8 1 0 0), (6, .psl 0 6 (x3.instrs.map (cInstr.enc 0))), (7, .hsl 9 0 out11.length), (37, .psl 0 6 (x3.instrs.map (cInstr.enc 0))), (38, .int .i64 (x3.instrs.length : Int)), (39, .int .i64 x8)], [(8, ⟨2, [cImage.row 0 m]⟩), (9, ⟨1, out11.map (cInt.enc 0)⟩)], 10, 130, []⟩) (fun out11 => A9 x8 go10 out11 = some q) ?_ ?_))
   ·obtain ⟨x11, hn_x11, F⟩ := c7 F
    obtain ⟨x12, hn_x12, F⟩ := c7 F
    refine f6 (qx 1 Z (sv Z (j4 cInstr hn_x11 K Z Z Z Z) Z (xn 4 Z (c6 (qx 2 Z (sv Z (l4 cInt hn_x12 K Z Z Z Z) Z (sv Z (L6 cInt hn_x12 K Z Z Z Z) Z (xn 1 Z (j1 F Z (fun G F => ?_) (fun G F => ?_))))))))))
    ·exact k8 (J4 (l9 (l0 ⟨out9, F, (e8 (d7 (d6 Z (g9 cInstr Z (d6 Z (g9 cInstr Z (d6 Z (d6 Z f9)))))) (u6 cImage Z (j3 Z g7)) Z Z Z Z))⟩)))
    ·obtain ⟨x13, hx13, F⟩ := c7 F
     obtain ⟨x14, hn_x14, F⟩ := c7 F
     refine d8 (c6 (c8 [2, 6, 7, 9, 10, 37, 38, 39] Z (gx 2 Z (i8 (i_effect_ok m x11 x13 hx13) Z ((d9 (r9 cImage m Z) (d9 (r9 cInstr x11 Z) i7))) (pR (d9 (Z) (d9 (Z) i7))) Z (xn 5 Z (c6 (qx 3 Z (sv Z (l4 cInt hn_x14 K Z Z Z Z) Z (sv Z (L6 cInt hn_x14 K Z Z Z Z) Z (xn 1 Z (j1 F Z (fun G F => ?_) (fun G F => ?_))))))))))))
     ·obtain rfl := e9 F
      exact c6 (c8 [] Z (gn 2 Z (j9 (m9 (o9 (m9 (I4 (o9 (m9 (m6 Z (T5 (.cons (u5 _ _) (.cons (f7 _) .nil)))))))))))))
     ·obtain ⟨x15, hn_x15, F⟩ := c7 F
      obtain ⟨H1, F⟩ := e7 F
      obtain ⟨H2, F⟩ := e7 F
      refine d8 (c6 (c8 [2, 6, 7, 9, 10, 11, 12, 37, 38, 39] Z (gx 2 Z (sv Z (l4 cInt hn_x15 K Z Z Z Z) Z (sv Z (L6 cInt hn_x15 K Z Z Z Z) Z (xq 1 Z (aI K Z Z Z H1 Z (xq 1 Z (l8 K Z Z Z H2 Z (xn 1 Z (c6 (c6 (c8 [2, 6, 7, 9, 10, 13, 37, 38, 39] Z (gn 2 Z (j1 F Z (fun G F => ?_) (fun G F => ?_))))))))))))))))
      ·obtain rfl := e9 F
       exact c6 (c8 [] Z (gn 2 Z (j9 (m9 (o9 (m9 (I4 (o9 (m9 (m6 Z (T5 (.cons (u5 _ _) (.cons (f7 _) .nil)))))))))))))
      ·refine d8 (qn 1 Z (c6 (qn 2 Z (v7 (fun (next16 : LI) => ⟨[(2, .ptr 8 1 0 0), (6, .psl 0 6 (x3.instrs.map (cInstr.enc 0))), (7, .hsl 9 0 out9.length), (9, .int .i64 x8), (13, .int .i64 ((x15 - x13.1) + x13.2)), (14, .hsl 11 0 next16.length), (37, .psl 0 6 (x3.instrs.map (cInstr.enc 0))), (38, .int .i64 (x3.instrs.length : Int)), (39, .int .i64 x8)], [(8, ⟨2, [cImage.row 0 m]⟩), (9, ⟨1, out9.map (cInt.enc 0)⟩), (11, ⟨1, next16.map (cInt.enc 0)⟩)], 12, 130, []⟩) (fun next16 => z5 x3 x8 out9 go10 x13 x15 next16 = some q) ?_ ?_))))
       ·refine f6 (c6 (qn 2 Z (v7 (fun (x16 : Bool) => ⟨[(2, .ptr 8 1 0 0), (6, .psl 0 6 (x3.instrs.map (cInstr.enc 0))), (7, .hsl 9 0 out9.length), (9, .int .i64 x8), (10, .ptr 10 1 0 0), (13, .int .i64 ((x15 - x13.1) + x13.2)), (14, .nilsl), (37, .psl 0 6 (x3.instrs.map (cInstr.enc 0))), (38, .int .i64 (x3.instrs.length : Int)), (39, .int .i64 x8), (72, .int .i64 x11.op), (76, .bool x16)], [(8, ⟨2, [cImage.row 0 m]⟩), (9, ⟨1, out9.map (cInt.enc 0)⟩), (10, ⟨6, [cInstr.row 0 x11]⟩)], 11, 130, []⟩) (fun x16 => K7 x3 x8 out9 go10 x11 x13 x15 x16 = some q) ?_ ?_)))
        ·refine j1 F Z (fun G F => ?_) (fun G F => ?_)
         ·exact d8 (l0 ⟨true, F, (e8 (d7 (d6 Z (g9 cInstr Z (d6 Z (d6 Z (d6 Z (d6 Z (d6 Z (g9 cInstr Z (d6 Z (d6 Z (d6 Z (d6 Z f9)))))))))))) (u6 cImage Z (j3 Z (u6 cInstr Z g7))) Z Z Z Z))⟩)
         ·exact gn 2 Z (l0 ⟨(decide (x11.op = 13)), F, (e8 (d7 (d6 Z (g9 cInstr Z (d6 Z (d6 Z (d6 Z (d6 Z (d6 Z (g9 cInstr Z (d6 Z (d6 Z (d6 Z (d6 Z f9)))))))))))) (u6 cImage Z (j3 Z (u6 cInstr Z g7))) Z Z Z Z))⟩)
        ·intro x16 F
         replace F : K7 x3 x8 out9 go10 x11 x13 x15 x16 = some q := F
         unfold K7 at F
         refine qR F Z (fun G F => ?_) (fun G F => ?_)
         ·refine qn 2 Z (v5 F Z (fun G F => ?_) (fun G F => ?_))
          ·obtain rfl := e9 F
           exact c6 (c8 [] Z (gn 2 Z (j9 (o9 (m9 (o9 (m9 (I4 (o9 (m9 (m6 Z (T5 (.cons (u5 _ _) (.cons (f7 _) .nil))))))))))))))
          ·exact d8 (C7 (l0 ⟨[], F, ((jK 14 1 Z Z).trans (e8 (d7 (d6 Z (g9 cInstr Z (d6 Z (d6 Z (d6 Z (d6 Z (g9 cInstr Z (d6 Z (d6 Z f9))))))))) (u6 cImage Z (j3 Z (j3 Z g7))) Z Z Z Z)))⟩))
         ·refine qn 2 Z (j1 F Z (fun G F => ?_) (fun G F => ?_))
          ·exact gx 2 Z (B2 cInt (l := 0) ([x11.a] : LI) K Z Z Z Z Z Z Z (xn 1 Z (C7 (l0 ⟨([x11.a] : LI), F, (e8 (d7 (d6 Z (g9 cInstr Z (d6 Z (d6 Z (d6 Z (d6 Z (g9 cInstr Z (d6 Z (d6 Z f9))))))))) (u6 cImage Z (j3 Z (j3 Z g7))) Z Z Z Z))⟩))))
          ·refine qn 2 Z (j1 F Z (fun G F => ?_) (fun G F => ?_))
           ·obtain ⟨H1, F⟩ := e7 F
            exact c8 [2, 6, 7, 9, 10, 13, 37, 38, 39] Z (gx 1 Z (l8 K Z Z Z H1 Z (xq 2 Z (B2 cInt (l := 0) ([(x8 + 1), x11.a] : LI) K Z Z Z Z Z Z Z (xn 1 Z (C7 (l0 ⟨([(x8 + 1), x11.a] : LI), F, (e8 (d7 (d6 Z (g9 cInstr Z (d6 Z (d6 Z (d6 Z (d6 Z (g9 cInstr Z (d6 Z (d6 Z f9))))))))) (u6 cImage Z (j3 Z (j3 Z g7))) Z Z Z Z))⟩)))))))
           ·obtain ⟨H1, F⟩ := e7 F
            exact c8 [2, 6, 7, 9, 13, 37, 38, 39] Z (gx 1 Z (l8 K Z Z Z H1 Z (B2 cInt (l := 0) ([(x8 + 1)] : LI) K Z Z Z Z Z Z Z (xn 1 Z (C7 (l0 ⟨([(x8 + 1)] : LI), F, (e8 (d7 (d6 Z (g9 cInstr Z (d6 Z (d6 Z (d6 Z (d6 Z (g9 cInstr Z (d6 Z (d6 Z f9))))))))) (u6 cImage Z (j3 Z (j3 Z g7))) Z Z Z Z))⟩))))))
       ·intro next16 F
        replace F : z5 x3 x8 out9 go10 x13 x15 next16 = some q := F
        unfold z5 at F
        refine qx 1 Z (sv Z (C8 cInt K Z Z Z) Z (xn 1 Z (f6 (m0 (fun x17 out18 => ⟨[(2, .ptr 8 1 0 0), (6, .psl 0 6 (x3.instrs.map (cInstr.enc 0))), (7, .hsl 9 0 out18.length), (9, .int .i64 x8), (13, .int .i64 ((x15 - x13.1) + x13.2)), (37, .psl 0 6 (x3.instrs.map (cInstr.enc 0))), (38, .int .i64 (x3.instrs.length : Int)), (39, .int .i64 x8), (93, .hsl 11 0 next16.length), (94, .int .i64 (next16.length : Int)), (95, .int .i64 x17)], [(8, ⟨2, [cImage.row 0 m]⟩), (9, ⟨1, out18.map (cInt.enc 0)⟩), (11, ⟨1, next16.map (cInt.enc 0)⟩)], 12, 130, []⟩) (W9 x3 x8 go10 x13 x15 next16) LF 0 out9 F (e8 (d7 (d6 Z (g9 cInstr Z (d6 Z (d6 Z (d6 Z (g9 cInstr Z (d6 Z (d6 Z (d6 Z (d6 Z (d6 Z f9))))))))))) (u6 cImage Z (j3 Z (j3 Z g7))) Z Z Z Z)) ?_))))
        intro go19 x17 out18 F
        replace F : E3 x3 x8 go10 x13 x15 next16 go19 x17 out18 = some q := F
        unfold E3 at F
        refine qn 1 Z (c6 (j1 F Z (fun G F => ?_) (fun G F => ?_)))
        ·obtain ⟨x20, hn_x20, F⟩ := c7 F
         refine d8 (c6 (f6 (qr (sv Z (l4 cInt hn_x20 K Z Z Z Z) Z (sv Z (L6 cInt hn_x20 K Z Z Z Z) Z (xn 1 Z (c6 (c6 (v7 (fun (x21 : Bool) => ⟨[(2, .ptr 8 1 0 0), (6, .psl 0 6 (x3.instrs.map (cInstr.enc 0))), (7, .hsl 9 0 out18.length), (9, .int .i64 x8), (13, .int .i64 ((x15 - x13.1) + x13.2)), (16, .int .i64 x20), (37, .psl 0 6 (x3.instrs.map (cInstr.enc 0))), (38, .int .i64 (x3.instrs.length : Int)), (39, .int .i64 x8), (93, .hsl 11 0 next16.length), (94, .int .i64 (next16.length : Int)), (95, .int .i64 x17), (122, .bool x21)], [(8, ⟨2, [cImage.row 0 m]⟩), (9, ⟨1, out18.map (cInt.enc 0)⟩), (11, ⟨1, next16.map (cInt.enc 0)⟩)], 12, 130, []⟩) (fun x21 => D3 x13 x15 x17 out18 go19 x20 x21 = some q) ?_ ?_)))))))))
         ·refine gx 4 Z (l5 (g := 102) F Z (fun G F => ?_) (fun G F => ?_))
          ·exact xn 20 Z (l0 ⟨true, F, (e8 (d7 (d6 Z (g9 cInstr Z (d6 Z (d6 Z (d6 Z (d6 Z (g9 cInstr Z (d6 Z (d6 Z (d6 Z (d6 Z (d6 Z (d6 Z f9))))))))))))) (u6 cImage Z (j3 Z (j3 Z g7))) Z Z Z Z))⟩)
          ·refine xq 2 Z (sv Z (k7 cInstr K Z Z Z) Z (xq 3 Z (l5 (g := 108) F Z (fun G F => ?_) (fun G F => ?_))))
           ·exact xn 14 Z (l0 ⟨true, F, (e8 (d7 (d6 Z (g9 cInstr Z (d6 Z (d6 Z (d6 Z (d6 Z (g9 cInstr Z (d6 Z (d6 Z (d6 Z (d6 Z (d6 Z (d6 Z f9))))))))))))) (u6 cImage Z (j3 Z (j3 Z g7))) Z Z Z Z))⟩)
           ·obtain ⟨x21, hn_x21, F⟩ := c7 F
            refine xq 2 Z (sv Z (l4 cInt hn_x21 K Z Z Z Z) Z (sv Z (L6 cInt hn_x21 K Z Z Z Z) Z (xq 2 Z (l5 (g := 114) F Z (fun G F => ?_) (fun G F => ?_)))))
            ·obtain ⟨x22, hn_x22, F⟩ := c7 F
             exact xq 2 Z (sv Z (l4 cInt hn_x22 K Z Z Z Z) Z (sv Z (L6 cInt hn_x22 K Z Z Z Z) Z (xn 4 Z (l0 ⟨(!decide (x22 = ((x15 - x13.1) + x13.2))), F, (e8 (d7 (d6 Z (g9 cInstr Z (d6 Z (d6 Z (d6 Z (d6 Z (g9 cInstr Z (d6 Z (d6 Z (d6 Z (d6 Z (d6 Z (d6 Z f9))))))))))))) (u6 cImage Z (j3 Z (j3 Z g7))) Z Z Z Z))⟩))))
            ·exact xn 8 Z (l0 ⟨false, F, (e8 (d7 (d6 Z (g9 cInstr Z (d6 Z (d6 Z (d6 Z (d6 Z (g9 cInstr Z (d6 Z (d6 Z (d6 Z (d6 Z (d6 Z (d6 Z f9))))))))))))) (u6 cImage Z (j3 Z (j3 Z g7))) Z Z Z Z))⟩)
         ·intro x21 F
          replace F : D3 x13 x15 x17 out18 go19 x20 x21 = some q := F
          unfold D3 at F
          refine qR F Z (fun G F => ?_) (fun G F => ?_)
          ·obtain rfl := e9 F
           exact c6 (c8 [] Z (gn 2 Z (j9 (m9 (o9 (m9 (I4 (o9 (o9 (m9 (I4 (o9 (m9 (m6 Z (T5 (.cons (u5 _ _) (.cons (f7 _) .nil)))))))))))))))))
          ·obtain ⟨x22, hn_x22, F⟩ := c7 F
           obtain ⟨H1, F⟩ := e7 F
           exact d8 (gx 3 Z (sv Z (l4 cInt hn_x22 K Z Z Z Z) Z (t8 cInt (v' := ((x15 - x13.1) + x13.2)) hn_x22 K Z Z Z Z Z Z Z Z (j6 (m7 (y := .hsl 9 0 (out18.set x20.toNat ((x15 - x13.1) + x13.2)).length) 7 Z (s4 (congrArg (V.hsl 9 0) (by simp))) Z) (i9 (C7 (j8 (l8 K Z Z Z H1 Z (xn 1 Z (j5 ⟨((x17 + 1), (out18.set x20.toNat ((x15 - x13.1) + x13.2))), F, (e8 (d7 (d6 Z (g9 cInstr Z (d6 Z (d6 Z (d6 Z (g9 cInstr Z (d6 Z (d6 Z (d6 Z (d6 Z (d6 Z f9))))))))))) (u6 cImage Z (j3 Z (j3 Z g7))) Z Z Z Z))⟩))))))))))
        ·exact k8 (J4 (J6 (l9 (C7 (l0 ⟨out18, F, (e8 (d7 (d6 Z (g9 cInstr Z (d6 Z (g9 cInstr Z (d6 Z (d6 Z f9)))))) (u6 cImage Z (j3 Z g7)) Z Z Z Z))⟩)))))
   ·intro out11 F
    replace F : A9 x8 go10 out11 = some q := F
    unfold A9 at F
    obtain ⟨H1, F⟩ := e7 F
    exact j8 (l8 K Z Z Z H1 Z (xn 1 Z (j5 ⟨((x8 + 1), out11), F, (e8 (d7 (d6 Z (g9 cInstr Z (d6 Z (g9 cInstr Z (d6 Z (d6 Z f9)))))) (u6 cImage Z (j3 Z g7)) Z Z Z Z))⟩)))
  ·obtain rfl := e9 F
   exact k8 (J4 (J6 (l9 (qn 3 Z (bA (L7 4 Z Z (by simp) Z) (u0 Z))))))
theorem lV (m : PImage) (captures : Int) (q : Bool) (F : bY m captures = some q) : FC Try.prog 66 [.agg (cImage.row 0 m), .int .i64 captures] [] 8 (fun x _ => x = .bool q) := by
 unfold bY at F
 refine FC.of_le (bdy Try.func66 Try.ntmps66 Z Z Z (qn 2 Z (qx 2 Z (sv Z (k7 cCode K Z Z Z) Z (xn 1 Z (c6 (qx 3 Z (l5 (g := 21) F Z (fun G F => ?_) (fun G F => ?_)))))))))
 ·obtain rfl := e9 F
  exact xn 31 Z (j7 Z (c6 (c8 [] Z (gn 1 Z (u1 Z)))))
 ·refine xq 4 Z (l5 (g := 25) F Z (fun G F => ?_) (fun G F => ?_))
  ·obtain rfl := e9 F
   exact xn 27 Z (j7 Z (c6 (c8 [] Z (gn 1 Z (u1 Z)))))
  ·obtain ⟨H1, F⟩ := e7 F
   refine xq 3 Z (aI K Z Z Z H1 Z (xq 3 Z (R9 (g := 32) F Z (fun G F => ?_) (fun G F => ?_))))
   ·obtain rfl := e9 F
    exact xn 20 Z (j7 Z (c6 (c8 [] Z (gn 1 Z (u1 Z)))))
   ·obtain ⟨H1, F⟩ := e7 F
    obtain ⟨x3, hn_x3, F⟩ := c7 F
    refine xq 3 Z (aI K Z Z Z H1 Z (sv Z (j4 cCode hn_x3 K Z Z Z Z) Z (xq 5 Z (R9 (g := 42) F Z (fun G F => ?_) (fun G F => ?_)))))
    ·obtain rfl := e9 F
     exact xn 10 Z (j7 Z (c6 (c8 [] Z (gn 1 Z (u1 Z)))))
    ·obtain ⟨H1, F⟩ := e7 F
     obtain ⟨x4, hn_x4, F⟩ := c7 F
     refine xq 3 Z (aI K Z Z Z H1 Z (sv Z (j4 cCode hn_x4 K Z Z Z Z) Z (xn 5 Z (v5 F Z (fun G F => ?_) (fun G F => ?_)))))
     ·obtain rfl := e9 F
      exact c6 (c8 [] Z (gn 1 Z (u1 Z)))
     ·obtain ⟨H1, F⟩ := e7 F
      refine d8 (c6 (c8 [2, 5] Z (gn 1 Z (qx 1 Z (W6 cInt (l := 0) (v := (0 : Int)) H1 K Z Z Z Z (cR _) Z Z Z Z (xn 1 Z (c6 (qx 2 Z (sv Z (k7 cCode K Z Z Z) Z (xn 1 Z (f6 (cZ (fun total5 x6 named7 => ⟨[(2, .ptr 8 1 0 0), (5, .int .i64 (m.codes.length : Int)), (6, .int .i64 total5), (7, .hsl 9 0 named7.length), (56, .psl 0 4 (m.codes.map (cCode.enc 0))), (57, .int .i64 (m.codes.length : Int)), (58, .int .i64 x6)], [(8, ⟨2, [cImage.row 0 m]⟩), (9, ⟨1, named7.map (cInt.enc 0)⟩)], 10, 113, []⟩) (eM m) LF 0 0 (List.replicate (m.codes.length : Int).toNat (0 : Int)) F (e8 (d7 (d6 Z (d6 Z (d6 Z (d6 Z (g9 cCode Z (d6 Z (d6 Z f9))))))) (u6 cImage Z (j3 Z g7)) Z Z Z Z)) ?_))))))))))))
      intro go8 total5 x6 named7 F
      replace F : P8 m go8 total5 x6 named7 = some q := F
      unfold P8 at F
      refine qn 1 Z (c6 (j1 F Z (fun G F => ?_) (fun G F => ?_)))
      ·obtain ⟨x9, hn_x9, F⟩ := c7 F
       obtain ⟨x10, hx10, F⟩ := c7 F
       refine d8 (c6 (f6 (qx 1 Z (sv Z (j4 cCode hn_x9 K Z Z Z Z) Z (xn 4 Z (c6 (qx 2 Z (i8 (i_codeOk_ok m x6 x10 hx10) Z ((d9 (r9 cImage m Z) (d9 (Z) i7))) Z Z (xn 1 Z (N7 F Z (fun G F => ?_) (fun G F => ?_)))))))))))
       ·obtain rfl := e9 F
        exact c6 (c8 [] Z (gn 1 Z (j9 (m9 (o9 (m9 (I4 (o9 (m9 (m6 Z (f7 _)))))))))))
       ·obtain ⟨x11, hx11, F⟩ := c7 F
        refine d8 (c6 (c6 (c8 [2, 5, 6, 7, 8, 9, 56, 57, 58] Z (gx 2 Z (i8 (tR m x6 x11 hx11) Z ((d9 (r9 cImage m Z) (d9 (Z) i7))) (pR (d9 (mS cInt x11.1 Z) (d9 (Z) i7))) Z (xn 5 Z (c6 (c8 [2, 5, 6, 7, 9, 11, 56, 57, 58] Z (gn 2 Z (N7 F Z (fun G F => ?_) (fun G F => ?_)))))))))))
        ·obtain rfl := e9 F
         exact c6 (c8 [] Z (gn 1 Z (j9 (m9 (o9 (m9 (I4 (o9 (m9 (m6 Z (f7 _)))))))))))
        ·obtain ⟨H1, F⟩ := e7 F
         refine d8 (qx 3 Z (sv Z (k7 cInstr K Z Z Z) Z (l8 K Z Z Z H1 Z (xn 1 Z (c6 (c8 [2, 5, 6, 7, 9, 56, 57, 58] Z (gx 2 Z (sv Z (k7 cInstr K Z Z Z) Z (xn 1 Z (f6 (m0 (fun x12 named13 => ⟨[(2, .ptr 8 1 0 0), (5, .int .i64 (m.codes.length : Int)), (6, .int .i64 (total5 + (x9.instrs.length : Int))), (7, .hsl 9 0 named13.length), (56, .psl 0 4 (m.codes.map (cCode.enc 0))), (57, .int .i64 (m.codes.length : Int)), (58, .int .i64 x6), (81, .psl 0 6 (x9.instrs.map (cInstr.enc 0))), (82, .int .i64 (x9.instrs.length : Int)), (83, .int .i64 x12)], [(8, ⟨2, [cImage.row 0 m]⟩), (9, ⟨1, named13.map (cInt.enc 0)⟩)], 11, 113, []⟩) (aN total5 x6 go8 x9) LF 0 named7 F (e8 (d7 (d6 Z (d6 Z (d6 Z (d6 Z (g9 cCode Z (d6 Z (d6 Z (g9 cInstr Z (d6 Z (d6 Z f9)))))))))) (u6 cImage Z (j3 Z g7)) Z Z Z Z)) ?_)))))))))))
         intro go14 x12 named13 F
         replace F : G3 total5 x6 go8 x9 go14 x12 named13 = some q := F
         unfold G3 at F
         refine qn 1 Z (c6 (j1 F Z (fun G F => ?_) (fun G F => ?_)))
         ·refine d8 (c6 (v7 (fun (named15 : LI) => ⟨[(2, .ptr 8 1 0 0), (5, .int .i64 (m.codes.length : Int)), (6, .int .i64 (total5 + (x9.instrs.length : Int))), (7, .hsl 9 0 named15.length), (56, .psl 0 4 (m.codes.map (cCode.enc 0))), (57, .int .i64 (m.codes.length : Int)), (58, .int .i64 x6), (81, .psl 0 6 (x9.instrs.map (cInstr.enc 0))), (82, .int .i64 (x9.instrs.length : Int)), (83, .int .i64 x12)], [(8, ⟨2, [cImage.row 0 m]⟩), (9, ⟨1, named15.map (cInt.enc 0)⟩)], 10, 113, []⟩) (fun named15 => O5 x12 go14 named15 = some q) ?_ ?_))
          ·obtain ⟨x15, hn_x15, F⟩ := c7 F
           obtain ⟨x16, hx16, F⟩ := c7 F
           refine f6 (qr (sv Z (j4 cInstr hn_x15 K Z Z Z Z) Z (xn 3 Z (qx 2 Z (i8 (gP x15.op x16 hx16) Z ((d9 (Z) i7)) Z Z (i9 (qR F Z (fun G F => ?_) (fun G F => ?_))))))))
           ·obtain ⟨x17, hn_x17, F⟩ := c7 F
            obtain ⟨H1, F⟩ := e7 F
            obtain ⟨x18, hn_x18, F⟩ := c7 F
            exact gx 3 Z (sv Z (l4 cInt hn_x17 K Z Z Z Z) Z (sv Z (L6 cInt hn_x17 K Z Z Z Z) Z (l8 K Z Z Z H1 Z (sv Z (l4 cInt hn_x18 K Z Z Z Z) Z (t8 cInt (v' := (x17 + 1)) hn_x18 K Z Z Z Z Z Z Z Z (j6 (m7 (y := .hsl 9 0 (named13.set x15.a.toNat (x17 + 1)).length) 7 Z (s4 (congrArg (V.hsl 9 0) (by simp))) Z) (i9 (C7 (l0 ⟨(named13.set x15.a.toNat (x17 + 1)), F, (e8 (d7 (d6 Z (d6 Z (d6 Z (d6 Z (g9 cCode Z (d6 Z (d6 Z (g9 cInstr Z (d6 Z (d6 Z f9)))))))))) (u6 cImage Z (j3 Z g7)) Z Z Z Z))⟩)))))))))
           ·exact d8 (C7 (l0 ⟨named13, F, (e8 (d7 (d6 Z (d6 Z (d6 Z (d6 Z (g9 cCode Z (d6 Z (d6 Z (g9 cInstr Z (d6 Z (d6 Z f9)))))))))) (u6 cImage Z (j3 Z g7)) Z Z Z Z))⟩))
          ·intro named15 F
           replace F : O5 x12 go14 named15 = some q := F
           unfold O5 at F
           obtain ⟨H1, F⟩ := e7 F
           exact j8 (l8 K Z Z Z H1 Z (xn 1 Z (j5 ⟨((x12 + 1), named15), F, ((W4 11 Z Z).trans (e8 (d7 (d6 Z (d6 Z (d6 Z (d6 Z (g9 cCode Z (d6 Z (d6 Z (g9 cInstr Z (d6 Z (d6 Z f9)))))))))) (u6 cImage Z (j3 Z g7)) Z Z Z Z)))⟩)))
         ·obtain ⟨H1, F⟩ := e7 F
          exact k8 (J4 (J6 (l9 (C7 (j8 (l8 K Z Z Z H1 Z (xn 1 Z (j5 ⟨((total5 + (x9.instrs.length : Int)), (x6 + 1), named13), F, (e8 (d7 (d6 Z (d6 Z (d6 Z (d6 Z (g9 cCode Z (d6 Z (d6 Z f9))))))) (u6 cImage Z (j3 Z g7)) Z Z Z Z))⟩))))))))
      ·obtain ⟨H1, F⟩ := e7 F
       obtain ⟨H2, F⟩ := e7 F
       refine k8 (J4 (J6 (l9 (c6 (qx 2 Z (aI K Z Z Z H1 Z (j6 (L7 99 Z Z (by simp) Z) (sv Z (pF cInt H2 K Z Z Z Z) Z (sv Z (k7 cInt K Z Z Z) Z (xn 1 Z (f6 (z4 (fun x9 => ⟨[(6, .int .i64 total5), (102, .psl 1 1 ((named7.take ((m.codes.length : Int) - 1).toNat).map (cInt.enc 1))), (103, .int .i64 ((named7.take ((m.codes.length : Int) - 1).toNat).length : Int)), (104, .int .i64 x9)], [], 10, 113, []⟩) (aO m total5 named7) LF 0 F (e8 (d7 (d6 Z (g9 cInt Z (d6 Z (d6 Z f9)))) g7 Z Z Z Z)) ?_))))))))))))
       intro go10 x9 F
       replace F : G4 m total5 named7 go10 x9 = some q := F
       unfold G4 at F
       refine qn 1 Z (c6 (j1 F Z (fun G F => ?_) (fun G F => ?_)))
       ·obtain ⟨x11, hn_x11, F⟩ := c7 F
        refine d8 (c6 (f6 (qr (sv Z (j4 cInt hn_x11 K Z Z Z Z) Z (xn 2 Z (qn 2 Z (v5 F Z (fun G F => ?_) (fun G F => ?_))))))))
        ·obtain rfl := e9 F
         exact c6 (c8 [] Z (gn 1 Z (j9 (o9 (m9 (I4 (o9 (m9 (m6 Z (f7 _))))))))))
        ·obtain ⟨H1, F⟩ := e7 F
         exact d8 (C7 (j8 (l8 K Z Z Z H1 Z (xn 1 Z (j5 ⟨(x9 + 1), F, (e8 (d7 (d6 Z (g9 cInt Z (d6 Z (d6 Z f9)))) g7 Z Z Z Z))⟩)))))
       ·obtain rfl := e9 F
        exact k8 (J4 (J6 (l9 (qn 3 Z (u0 Z)))))
theorem dJ (lists : List (LI)) (q : Bool) (F : A7 lists = some q) : FC Try.prog 80 [.psl 0 1 (lists.map ((cSl cInt).enc 0))] [] 8 (fun x _ => x = .bool q) := by
 unfold A7 at F
 refine FC.of_le (bdy Try.func80 Try.ntmps80 Z Z Z (qn 1 Z (qr (sm_make kInt kInt Z Z (xn 1 Z (c6 (qx 1 Z (sv Z (k7 (cSl cInt) K Z Z Z) Z (xn 1 Z (f6 (m0 (fun x2 seen3 => ⟨[(3, .mp 8 1), (9, .psl 0 1 (lists.map ((cSl cInt).enc 0))), (10, .int .i64 (lists.length : Int)), (11, .int .i64 x2)], [(8, ⟨0, [mrow kInt kInt seen3]⟩)], 9, 37, []⟩) (o7 lists) LF 0 ([] : MI) F (e8 (d7 (d6 Z (tF Z Z ((cSl cInt).ok_psl _ Z) (d6 Z (d6 Z f9)))) (o4 Z Z Z (p0 (r7 kInt kInt _ _)) g7) Z Z Z Z)) ?_)))))))))))
 intro go4 x2 seen3 F
 replace F : m5 lists go4 x2 seen3 = some q := F
 unfold m5 at F
 refine qn 1 Z (c6 (j1 F Z (fun G F => ?_) (fun G F => ?_)))
 ·obtain ⟨x5, hn_x5, F⟩ := c7 F
  refine d8 (c6 (f6 (qr (sv Z (j4 (cSl cInt) hn_x5 K Z Z Z Z) Z (xn 2 Z (qx 1 Z (sv Z (k7 cInt K Z Z Z) Z (xn 1 Z (f6 (m0 (fun x6 seen7 => ⟨[(3, .mp 8 1), (9, .psl 0 1 (lists.map ((cSl cInt).enc 0))), (10, .int .i64 (lists.length : Int)), (11, .int .i64 x2), (15, .psl 0 1 (x5.map (cInt.enc 0))), (16, .int .i64 (x5.length : Int)), (17, .int .i64 x6)], [(8, ⟨0, [mrow kInt kInt seen7]⟩)], 9, 37, []⟩) (B0 x2 go4 x5) LF 0 seen3 F (e8 (d7 (d6 Z (tF Z Z ((cSl cInt).ok_psl _ Z) (d6 Z (d6 Z (g9 cInt Z (d6 Z (d6 Z f9))))))) (o4 Z Z Z (p0 (r7 kInt kInt _ _)) g7) Z Z Z Z)) ?_))))))))))
  intro go8 x6 seen7 F
  replace F : o3 x2 go4 x5 go8 x6 seen7 = some q := F
  unfold o3 at F
  refine qn 1 Z (c6 (j1 F Z (fun G F => ?_) (fun G F => ?_)))
  ·obtain ⟨x9, hn_x9, F⟩ := c7 F
   refine d8 (c6 (f6 (qr (sv Z (j4 cInt hn_x9 K Z Z Z Z) Z (xn 2 Z (c6 (qx 3 Z (l5 (g := 23) F Z (fun G F => ?_) (fun G F => ?_)))))))))
   ·obtain rfl := e9 F
    exact xn 9 Z (j7 Z (c6 (c8 [] Z (gn 1 Z (j9 (m9 (o9 (m9 (I4 (o9 (o9 (m9 (I4 (o9 (m9 (m6 Z (f7 _)))))))))))))))))
   ·refine xq 4 Z (l5 (g := 27) F Z (fun G F => ?_) (fun G F => ?_))
    ·obtain rfl := e9 F
     exact xn 5 Z (j7 Z (c6 (c8 [] Z (gn 1 Z (j9 (m9 (o9 (m9 (I4 (o9 (o9 (m9 (I4 (o9 (m9 (m6 Z (f7 _)))))))))))))))))
    ·refine xq 2 Z (sv Z (om_get oX (k := 3) z_3 K Z (jJ Z) Z Z Z) Z (xn 2 Z (j1 F Z (fun G F => ?_) (fun G F => ?_))))
     ·obtain rfl := e9 F
      exact c6 (c8 [] Z (gn 1 Z (j9 (m9 (o9 (m9 (I4 (o9 (o9 (m9 (I4 (o9 (m9 (m6 Z (f7 _)))))))))))))))
     ·obtain ⟨H1, F⟩ := e7 F
      exact d8 (c8 [3, 7, 9, 10, 11, 15, 16, 17, 24, 25, 28, 29, 30, 31] Z (gx 2 Z (sm_put (E := kInt) (k := 3) (e := 3) oX K Z Z (jJ Z) Z Z Z Z Z (i9 (C7 (j8 (l8 K Z Z Z H1 Z (xn 1 Z (j5 ⟨((x6 + 1), (mput seen7 x9 1)), F, (e8 (d7 (d6 Z (tF Z Z ((cSl cInt).ok_psl _ Z) (d6 Z (d6 Z (g9 cInt Z (d6 Z (d6 Z f9))))))) (o4 Z Z Z (p0 (r7 kInt kInt _ _)) g7) Z Z Z Z))⟩)))))))))
  ·obtain ⟨H1, F⟩ := e7 F
   exact k8 (J4 (J6 (l9 (C7 (j8 (l8 K Z Z Z H1 Z (xn 1 Z (j5 ⟨((x2 + 1), seen7), F, (e8 (d7 (d6 Z (tF Z Z ((cSl cInt).ok_psl _ Z) (d6 Z (d6 Z f9)))) (o4 Z Z Z (p0 (r7 kInt kInt _ _)) g7) Z Z Z Z))⟩))))))))
 ·obtain rfl := e9 F
  exact k8 (J4 (J6 (l9 (qn 1 Z (u0 Z)))))
theorem mQ (s : LB) (q : Bool) (F : Q1 s = some q) : FC Try.prog 106 [.str s] [] 8 (fun x _ => x = .bool q) := by
 unfold Q1 at F
 obtain ⟨x2, hx2, F⟩ := c7 F
 refine FC.of_le (bdy Try.func106 Try.ntmps106 Z Z Z (qn 1 Z (qx 1 Z (i8 (jC s x2 hx2) Z ((d9 (Z) i7)) Z Z (xq 1 Z (Q5 (g := 5) F Z (fun G F => ?_) (fun G F => ?_)))))))
 ·obtain rfl := e9 F
  exact xn 5 Z (u0 Z)
 ·obtain rfl := e9 F
  exact xn 5 Z (u0 Z)
theorem tO (o : PObj) (q : Bool) (F : bZ o = some q) : FC Try.prog 62 [.agg (cObj.row 0 o)] [] 8 (fun x _ => x = .bool q) := by
 unfold bZ at F
 obtain ⟨x2, hx2, F⟩ := c7 F
 refine FC.of_le (bdy Try.func62 Try.ntmps62 Z Z Z (qn 2 Z (qx 2 Z (i8 (mQ o.name x2 hx2) Z ((d9 (Z) i7)) Z Z (xq 1 Z (Q5 (g := 6) F Z (fun G F => ?_) (fun G F => ?_)))))))
 ·obtain ⟨x3, hx3, F⟩ := c7 F
  refine xq 4 Z (B2 (cSl cInt) (l := 0) ([o.defines, o.uses] : List (LI)) K Z Z Z Z Z Z Z (M4 (dJ ([o.defines, o.uses] : List (LI)) x3 hx3) Z (k9 (pM Z (by simp) ((cSl cInt).rlR _ 0 _)) o8) Z Z (xq 2 Z (Q5 (g := 14) F Z (fun G F => ?_) (fun G F => ?_)))))
  ·obtain ⟨H1, F⟩ := e7 F
   obtain ⟨x4, hx4, F⟩ := c7 F
   obtain rfl := e9 F
   exact xq 4 Z (sv Z (k7 cInt K Z Z Z) Z (xq 2 Z (sv Z (k7 cInt K Z Z Z) Z (l8 K Z Z Z H1 Z (i8 (lV o.image ((o.defines.length : Int) + (o.uses.length : Int)) x4 hx4) Z ((d9 (r9 cImage o.image Z) (d9 (Z) i7))) Z Z (xn 2 Z (u0 Z)))))))
  ·obtain rfl := e9 F
   exact xn 12 Z (u0 Z)
 ·obtain rfl := e9 F
  exact xn 20 Z (u0 Z)
theorem qT (list : LI) (q : LI) (F : cB list = some q) : FC Try.prog 63 [.psl 0 1 (list.map (cInt.enc 0))] [] 8 (fun x h2 => ∃ j, x = .hsl j 0 q.length ∧ hget h2 j = some ⟨1, q.map (cInt.enc 0)⟩) := by
 unfold cB at F
 obtain ⟨H1, F⟩ := e7 F
 obtain rfl := e9 F
 exact bdy Try.func63 Try.ntmps63 Z Z Z (qn 1 Z (qx 1 Z (sO cInt (l := 0) (ys := list) H1 Z K Z Z Z Z Z Z (dU cInt (l := 0) Z Z Z) Z (xn 1 Z (j9 (⟨_, Z, 8, Z, Z⟩))))))
def I3 (l7 : PD → Option PD) : Prop := ∀ (d : PD) (q : PD), l7 d = some q → FC Try.prog 64 [.agg (cDat.row 0 d)] [] 8 (fun x h2 => ∃ j, x = .agg [.int .i64 q.kind, .int .i64 q.number, .str q.text, .hsl j 0 q.items.length] ∧ hget h2 j = some ⟨4, q.items.map (cDat.enc 2)⟩)
def P9 (s6 : List PD → Option (List PD)) : Prop := ∀ (list : List PD) (q : List PD), s6 list = some q → FC Try.prog 107 [.psl 0 4 (list.map (cDat.enc 0))] [] 8 (fun x h2 => ∃ j, x = .hsl j 0 q.length ∧ hget h2 j = some ⟨4, q.map (cDat.enc 2)⟩)
theorem mO (l7 : PD → Option PD) (s6 : List PD → Option (List PD)) (h_i_copyDatum : I3 l7) (h_i_copyData : P9 s6) : I3 (Q0 l7 s6) := by
 intro d q F
 unfold Q0 at F
 obtain ⟨x4, hx4, F⟩ := c7 F
 obtain rfl := e9 F
 exact bdy Try.func64 Try.ntmps64 Z Z Z (qn 2 Z (qx 2 Z (L5 (h_i_copyData d.items x4 hx4) Z (k9 (J5 (F5 cDat d.items Z)) o8) (Cd.rlR cDat f01 2 _) Z (fun j => by simp [V.rnA, V.rnAL, V.rl, upJ, dn]) Z (xq 1 Z (t7 (B6 Z (by simp)) K Z Z Z Z Z Z Z Z Z (i9 (qx 1 Z (G0 K Z Z Z Z Z (g8 (o5 Z) (g8 (o5 Z) (g8 (o5 Z) (g8 (O0 Z (by simp)) y5)))) Z Z Z (i9 (j9 (⟨_, Z, 10, Z, Z⟩)))))))))))
theorem oQ (l7 : PD → Option PD) (s6 : List PD → Option (List PD)) (h_i_copyDatum : I3 l7) (h_i_copyData : P9 s6) : P9 (U4 l7 s6) := by
 intro list q F
 unfold U4 at F
 refine bdy Try.func107 Try.ntmps107 Z Z Z (qn 1 Z (qn 1 Z (c6 (qx 1 Z (sv Z (k7 cDat K Z Z Z) Z (xn 1 Z (f6 (m0 (fun x4 out5 => ⟨[(3, .hsl 11 0 out5.length), (6, .psl 0 4 (list.map (cDat.enc 0))), (7, .int .i64 (list.length : Int)), (8, .int .i64 x4)], [(11, ⟨4, out5.map (cDat.enc 2)⟩)], 12, 19, []⟩) (dG l7 list) LF 0 [] F ((W4 11 Z Z).trans ((jK 3 4 Z Z).trans (e8 (d7 (d6 Z (g9 cDat Z (d6 Z (d6 Z f9)))) (j3 Z g7) Z Z Z Z)))) ?_))))))))
 intro go6 x4 out5 F
 replace F : D7 l7 list go6 x4 out5 = some q := F
 unfold D7 at F
 refine qn 1 Z (c6 (j1 F Z (fun G F => ?_) (fun G F => ?_)))
 ·obtain ⟨x7, hn_x7, F⟩ := c7 F
  obtain ⟨x8, hx8, F⟩ := c7 F
  obtain ⟨H1, F⟩ := e7 F
  obtain ⟨H2, F⟩ := e7 F
  exact d8 (c6 (f6 (qr (sv Z (j4 cDat hn_x7 K Z Z Z Z) Z (xn 3 Z (gx 2 Z (L5 (h_i_copyDatum x7 x8 hx8) Z (k9 (J5 (r9 cDat x7 Z)) o8) (Cd.rlR cDat f01 2 _) Z (fun j => by simp [V.rnA, V.rnAL, V.rl, upJ, dn]) Z (gT K Z Z Z Z Z Z Z (L3 cDat (l := 2) (xs := out5) H1 Z K Z Z Z Z Z Z Z Z Z (g8 (o5 Z) (g8 (o5 Z) (g8 (o5 Z) (g8 (O0 Z (by simp)) y5)))) Z (j6 (Q2 11 13 x8.items.length out5.length [.int .i64 x8.kind, .int .i64 x8.number, .str x8.text] [] Z (q9 _ _) Z Z Z Z (q9 _ _) (Cd.dps0 cDat 2 (fun _ => Z) _) Z) (j6 (v6 11 (rows' := (out5 ++ ([x8] : List PD)).map (cDat.enc 2)) Z (cX cDat (l := 2) out5 x8) Z) (j6 (m7 (y := .hsl 11 0 (out5 ++ ([x8] : List PD)).length) 16 Z (s4 (congrArg (V.hsl 11 0) (by simp))) Z) (xn 1 Z (C7 (c8 [3, 6, 7, 8] Z (j8 (l8 K Z Z Z H2 Z (xn 1 Z (j5 ⟨((x4 + 1), (out5 ++ ([x8] : List PD))), F, (e8 (d7 (d6 Z (g9 cDat Z (d6 Z (d6 Z f9)))) (j3 Z g7) Z Z Z Z))⟩)))))))))))))))))))
 ·obtain rfl := e9 F
  exact k8 (J4 (J6 (l9 (qn 2 Z (j9 (⟨_, Z, 11, Z, Z⟩))))))
theorem jE (n : Nat) : I3 (l7 n) ∧ P9 (s6 n) := by
 induction n with
 | zero => exact ⟨(fun _ q h => by cases h), (fun _ q h => by cases h)⟩
 | succ n ih => exact ⟨fun d q h => mO (l7 n) (s6 n) ih.1 ih.2 d q h, fun list q h => oQ (l7 n) (s6 n) ih.1 ih.2 list q h⟩
theorem oR (n : Nat) : I3 (l7 n) := (jE n).1
theorem cA (list : List PObj) (q : PImage × Bool) (F : K6 list = some q) : FC Try.prog 18 [.psl 0 5 (list.map (cObj.enc 0))] [] 8 (fun x h2 => ∃ j, x = .tup [.agg [.hsl j 0 q.1.codes.length, .int .i64 q.1.main], .bool q.2] ∧ hget h2 j = some ⟨4, q.1.codes.map (cCode.enc 2)⟩) := by
 unfold K6 at F
 refine bdy Try.func18 Try.ntmps18 Z Z Z (qn 2 Z (c6 (qx 1 Z (sv Z (k7 cObj K Z Z Z) Z (xq 2 Z (l5 (g := 27) F Z (fun G F => ?_) (fun G F => ?_)))))))
 ·obtain rfl := e9 F
  exact xn 4 Z (j7 Z (c6 (c8 [2] Z (j8 (sv Z (p9 K Z Z) Z (xn 2 Z (bA (t9 8 4 (k := 0) (pre := []) (suf := [.int .i64 0]) Z Z Z) (j9 (m9 (⟨_, Z, 9, Z, Z⟩))))))))))
 ·refine xq 1 Z (sv Z (k7 cObj K Z Z Z) Z (xn 2 Z (j1 F Z (fun G F => ?_) (fun G F => ?_))))
  ·obtain rfl := e9 F
   exact c6 (c8 [2] Z (j8 (sv Z (p9 K Z Z) Z (xn 2 Z (bA (t9 8 4 (k := 0) (pre := []) (suf := [.int .i64 0]) Z Z Z) (j9 (m9 (⟨_, Z, 9, Z, Z⟩))))))))
  ·refine d8 (c6 (c8 [0, 2] Z (j8 (sm_make kStr kInt Z Z (xn 1 Z (qr (sm_make kInt kInt Z Z (xn 1 Z (qn 1 Z (qn 1 Z (c6 (qx 1 Z (sv Z (k7 cObj K Z Z Z) Z (xn 1 Z (f6 (cl_loop5 (fun x2 names3 slots4 x5 x6 => ⟨[(2, .ptr 8 1 0 0), (4, .mp 9 1), (5, .mp 10 1), (6, .ptr 11 1 0 0), (7, .ptr 12 1 0 0), (35, .psl 0 5 (list.map (cObj.enc 0))), (36, .int .i64 (list.length : Int)), (37, .int .i64 x2)], [(8, ⟨2, [[.nilsl, .int .i64 0]]⟩), (9, ⟨0, [mrow kStr kInt names3]⟩), (10, ⟨0, [mrow kInt kInt slots4]⟩), (11, ⟨2, [[.hsl 21 0 x6.length, .int .i64 0]]⟩), (12, ⟨4, [[.int .i64 0, .int .i64 0, .int .i64 0, .hsl 16 0 x5.length]]⟩), (16, ⟨6, x5.map (cInstr.enc 2)⟩), (21, ⟨4, x6.map (cCode.enc 2)⟩)], 22, 219, []⟩) (W2 list) LF 0 ([] : List ((LB) × Int)) ([] : MI) [] [] F ((W4 16 Z Z).trans ((t9 12 6 (k := 3) (pre := [.int .i64 0, .int .i64 0, .int .i64 0]) (suf := []) Z Z Z).trans ((W4 21 Z Z).trans ((t9 11 4 (k := 0) (pre := []) (suf := [.int .i64 0]) Z Z Z).trans (e8 (d7 (d6 Z (d6 Z (d6 Z (d6 Z (d6 Z (g9 cObj Z (d6 Z (d6 Z f9)))))))) (A0 Z (o4 Z Z Z (p0 (r7 kStr kInt _ _)) (o4 Z Z Z (p0 (r7 kInt kInt _ _)) (A0 Z (A0 Z (j3 Z (j3 Z g7))))))) Z Z Z Z)))))) ?_))))))))))))))))
   intro go7 x2 names3 slots4 x5 x6 F
   replace F : v9 list go7 x2 names3 slots4 x5 x6 = some q := F
   unfold v9 at F
   refine qn 1 Z (c6 (j1 F Z (fun G F => ?_) (fun G F => ?_)))
   ·obtain ⟨x8, hn_x8, F⟩ := c7 F
    obtain ⟨x9, hx9, F⟩ := c7 F
    refine d8 (c6 (f6 (qx 1 Z (sv Z (j4 cObj hn_x8 K Z Z Z Z) Z (xn 4 Z (c6 (qx 1 Z (i8 (tO x8 x9 hx9) Z ((d9 (r9 cObj x8 Z) i7)) Z Z (xq 2 Z (J3 (g := 45) F Z (fun G F => ?_) (fun G F => ?_)))))))))))
    ·obtain rfl := e9 F
     exact xn 6 Z (j7 Z (c6 (c8 [2] Z (j8 (sv Z (p9 K Z Z) Z (xn 2 Z (bA (t9 8 4 (k := 0) (pre := []) (suf := [.int .i64 0]) Z Z Z) (j9 (m9 (o9 (m9 (I4 (o9 (m9 (⟨_, Z, 23, Z, Z⟩)))))))))))))))
    ·refine xq 3 Z (sv Z (om_get key_str (k := 9) z_3 K Z (keyT_str Z) Z Z Z) Z (xn 2 Z (j1 F Z (fun G F => ?_) (fun G F => ?_))))
     ·obtain rfl := e9 F
      exact c6 (c8 [2] Z (j8 (sv Z (p9 K Z Z) Z (xn 2 Z (bA (t9 8 4 (k := 0) (pre := []) (suf := [.int .i64 0]) Z Z Z) (j9 (m9 (o9 (m9 (I4 (o9 (m9 (⟨_, Z, 23, Z, Z⟩)))))))))))))
     ·refine d8 (c6 (c8 [2, 4, 5, 6, 7, 8, 9, 35, 36, 37, 46, 47, 48, 49, 50] Z (gx 3 Z (sm_put (E := kInt) (k := 9) (e := 3) key_str K Z Z (keyT_str Z) Z Z Z Z Z (i9 (c6 (qx 2 Z (sv Z (k7 cInt K Z Z Z) Z (xn 1 Z (f6 (m0 (fun x10 slots11 => ⟨[(2, .ptr 8 1 0 0), (4, .mp 9 1), (5, .mp 10 1), (6, .ptr 11 1 0 0), (7, .ptr 12 1 0 0), (8, .int .i64 x2), (9, .ptr 22 1 0 0), (35, .psl 0 5 (list.map (cObj.enc 0))), (36, .int .i64 (list.length : Int)), (37, .int .i64 x2), (46, .mp 9 1), (47, .ptr 22 1 0 0), (48, .str x8.name), (49, .int .i64 (mget names3 x8.name)), (50, .bool (decide ((mget names3 x8.name) = 1))), (57, .psl 0 1 (x8.defines.map (cInt.enc 0))), (58, .int .i64 (x8.defines.length : Int)), (59, .int .i64 x10)], [(8, ⟨2, [[.nilsl, .int .i64 0]]⟩), (9, ⟨0, [mrow kStr kInt (mput names3 x8.name 1)]⟩), (10, ⟨0, [mrow kInt kInt slots11]⟩), (11, ⟨2, [[.hsl 21 0 x6.length, .int .i64 0]]⟩), (12, ⟨4, [[.int .i64 0, .int .i64 0, .int .i64 0, .hsl 16 0 x5.length]]⟩), (16, ⟨6, x5.map (cInstr.enc 2)⟩), (21, ⟨4, x6.map (cCode.enc 2)⟩), (22, ⟨5, [cObj.row 0 x8]⟩)], 23, 219, []⟩) (M5 x2 names3 x5 x6 go7 x8) LF 0 slots4 F (e8 (d7 (d6 Z (d6 Z (d6 Z (d6 Z (d6 Z (d6 Z (d6 Z (g9 cObj Z (d6 Z (d6 Z (d6 Z (d6 Z (d6 Z (d6 Z (d6 Z (g9 cInt Z (d6 Z (d6 Z f9)))))))))))))))))) (A0 Z (o4 Z Z Z (p0 (r7 kStr kInt _ _)) (o4 Z Z Z (p0 (r7 kInt kInt _ _)) (A0 Z (A0 Z (j3 Z (j3 Z (u6 cObj Z g7)))))))) Z Z Z Z)) ?_)))))))))))
      intro go12 x10 slots11 F
      replace F : w5 x2 names3 x5 x6 go7 x8 go12 x10 slots11 = some q := F
      unfold w5 at F
      refine qn 1 Z (c6 (j1 F Z (fun G F => ?_) (fun G F => ?_)))
      ·obtain ⟨x13, hn_x13, F⟩ := c7 F
       refine d8 (c6 (f6 (qr (sv Z (j4 cInt hn_x13 K Z Z Z Z) Z (xn 2 Z (c6 (qx 2 Z (sv Z (om_getok oX (k := 3) z_3 K Z (jJ Z) Z Z Z) Z (xn 5 Z (c6 (c8 [2, 4, 5, 6, 7, 8, 9, 11, 13, 35, 36, 37, 46, 47, 48, 49, 50, 57, 58, 59] Z (gn 1 Z (qR F Z (fun G F => ?_) (fun G F => ?_))))))))))))))
       ·obtain rfl := e9 F
        exact c6 (c8 [2] Z (j8 (sv Z (p9 K Z Z) Z (xn 2 Z (bA (t9 8 4 (k := 0) (pre := []) (suf := [.int .i64 0]) Z Z Z) (j9 (m9 (o9 (m9 (I4 (o9 (m9 (o9 (m9 (I4 (o9 (m9 (⟨_, Z, 23, Z, Z⟩))))))))))))))))))
       ·obtain ⟨H1, F⟩ := e7 F
        exact d8 (gx 3 Z (sv Z (om_len (kc := kInt) (E := kInt) K Z Z Z) Z (sm_put (E := kInt) (k := 3) (e := 3) oX K Z Z (jJ Z) Z Z Z Z Z (i9 (C7 (c8 [2, 4, 5, 6, 7, 8, 9, 35, 36, 37, 46, 47, 48, 49, 50, 57, 58, 59] Z (j8 (l8 K Z Z Z H1 Z (xn 1 Z (j5 ⟨((x10 + 1), (mput slots11 x13 (slots11.length : Int))), F, (e8 (d7 (d6 Z (d6 Z (d6 Z (d6 Z (d6 Z (d6 Z (d6 Z (g9 cObj Z (d6 Z (d6 Z (d6 Z (d6 Z (d6 Z (d6 Z (d6 Z (g9 cInt Z (d6 Z (d6 Z f9)))))))))))))))))) (A0 Z (o4 Z Z Z (p0 (r7 kStr kInt _ _)) (o4 Z Z Z (p0 (r7 kInt kInt _ _)) (A0 Z (A0 Z (j3 Z (j3 Z (u6 cObj Z g7)))))))) Z Z Z Z))⟩))))))))))
      ·refine k8 (J4 (J6 (l9 (c6 (qn 2 Z (v7 (fun (x13 : List PInstr) => ⟨[(2, .ptr 8 1 0 0), (4, .mp 9 1), (5, .mp 10 1), (6, .ptr 11 1 0 0), (7, .ptr 12 1 0 0), (9, .ptr 22 1 0 0), (35, .psl 0 5 (list.map (cObj.enc 0))), (36, .int .i64 (list.length : Int)), (37, .int .i64 x2), (46, .mp 9 1), (47, .ptr 22 1 0 0), (48, .str x8.name), (49, .int .i64 (mget names3 x8.name)), (50, .bool (decide ((mget names3 x8.name) = 1)))], [(8, ⟨2, [[.nilsl, .int .i64 0]]⟩), (9, ⟨0, [mrow kStr kInt (mput names3 x8.name 1)]⟩), (10, ⟨0, [mrow kInt kInt slots11]⟩), (11, ⟨2, [[.hsl 21 0 x6.length, .int .i64 0]]⟩), (12, ⟨4, [[.int .i64 0, .int .i64 0, .int .i64 0, .hsl 16 0 x13.length]]⟩), (16, ⟨6, x13.map (cInstr.enc 2)⟩), (21, ⟨4, x6.map (cCode.enc 2)⟩), (22, ⟨5, [cObj.row 0 x8]⟩)], 23, 219, []⟩) (fun x13 => A2 x2 names3 x6 go7 x8 slots11 x13 = some q) ?_ ?_))))))
       ·refine j1 F Z (fun G F => ?_) (fun G F => ?_)
        ·obtain ⟨H1, F⟩ := e7 F
         exact c8 [2, 4, 5, 6, 7, 9, 35, 36, 37, 46, 47, 48, 49, 50] Z (gx 2 Z (sv Z (p9 K Z Z) Z (gT K Z Z Z Z Z Z Z (j6 (t9 23 4 (k := 5) (pre := [.int .i64 17, .int .i64 0, .int .i64 0, .int .i64 0, .str ([] : LB)]) (suf := []) Z Z Z) (L3 cInstr (l := 2) (xs := x5) H1 Z K Z Z Z Z Z Z Z Z Z (g8 (o5 Z) (g8 (o5 Z) (g8 (o5 Z) (g8 (o5 Z) (g8 (o5 Z) (g8 (O0 Z (by simp)) y5)))))) Z (j6 (Q2 16 24 ([] : List PD).length x5.length [.int .i64 17, .int .i64 0, .int .i64 0, .int .i64 0, .str ([] : LB)] [] Z (q9 _ _) Z Z Z Z (q9 _ _) (Cd.dps0 cDat 2 (fun _ => Z) _) Z) (j6 (v6 16 (rows' := (x5 ++ ([(PInstr.mk 17 0 (PD.mk 0 0 ([] : LB) []))] : List PInstr)).map (cInstr.enc 2)) Z (cX cInstr (l := 2) x5 (PInstr.mk 17 0 (PD.mk 0 0 ([] : LB) []))) Z) (j6 (m7 (y := .hsl 16 0 (x5 ++ ([(PInstr.mk 17 0 (PD.mk 0 0 ([] : LB) []))] : List PInstr)).length) 82 Z (s4 (congrArg (V.hsl 16 0) (by simp))) Z) (xq 1 Z (t7 (B6 Z (by simp)) K Z Z Z Z Z Z Z Z Z (i9 (l0 ⟨(x5 ++ ([(PInstr.mk 17 0 (PD.mk 0 0 ([] : LB) []))] : List PInstr)), F, (e8 (d7 (d6 Z (d6 Z (d6 Z (d6 Z (d6 Z (d6 Z (g9 cObj Z (d6 Z (d6 Z (d6 Z (d6 Z (d6 Z (d6 Z (d6 Z f9)))))))))))))) (A0 Z (o4 Z Z Z (p0 (r7 kStr kInt _ _)) (o4 Z Z Z (p0 (r7 kInt kInt _ _)) (A0 Z (A0 Z (j3 Z (j3 Z (u6 cObj Z g7)))))))) Z Z Z Z))⟩))))))))))))
        ·exact d8 (l0 ⟨x5, F, (e8 (d7 (d6 Z (d6 Z (d6 Z (d6 Z (d6 Z (d6 Z (g9 cObj Z (d6 Z (d6 Z (d6 Z (d6 Z (d6 Z (d6 Z (d6 Z f9)))))))))))))) (A0 Z (o4 Z Z Z (p0 (r7 kStr kInt _ _)) (o4 Z Z Z (p0 (r7 kInt kInt _ _)) (A0 Z (A0 Z (j3 Z (j3 Z (u6 cObj Z g7)))))))) Z Z Z Z))⟩)
       ·intro x13 F
        replace F : A2 x2 names3 x6 go7 x8 slots11 x13 = some q := F
        unfold A2 at F
        obtain ⟨x14, hx14, F⟩ := c7 F
        obtain ⟨hb5, F⟩ := e7 F
        refine c6 (c6 (nT (id := 23) 8 [0, 1, 2, 3, 4] ⟨[(2, .ptr 8 1 0 0), (4, .mp 9 1), (5, .mp 10 1), (6, .ptr 11 1 0 0), (7, .ptr 12 1 0 0), (9, .ptr 22 1 0 0), (35, .psl 0 5 (list.map (cObj.enc 0))), (36, .int .i64 (list.length : Int)), (37, .int .i64 x2), (46, .mp 9 1), (47, .ptr 22 1 0 0), (48, .str x8.name), (49, .int .i64 (mget names3 x8.name)), (50, .bool (decide ((mget names3 x8.name) = 1))), (89, .hsl 23 0 (x14 ++ x8.uses).length), (90, .int .i64 ((x14 ++ x8.uses).length : Int)), (91, .int .i64 0)], [(8, ⟨2, [[.nilsl, .int .i64 0]]⟩), (9, ⟨0, [mrow kStr kInt (mput names3 x8.name 1)]⟩), (10, ⟨0, [mrow kInt kInt slots11]⟩), (11, ⟨2, [[.hsl 21 0 x6.length, .int .i64 0]]⟩), (12, ⟨4, [[.int .i64 0, .int .i64 0, .int .i64 0, .hsl 16 0 x13.length]]⟩), (16, ⟨6, x13.map (cInstr.enc 2)⟩), (21, ⟨4, x6.map (cCode.enc 2)⟩), (22, ⟨5, [cObj.row 0 x8]⟩), (23, ⟨1, (x14 ++ x8.uses).map (cInt.enc 0)⟩)], 24, 219, []⟩ (by kernel_rfl) (by kernel_rfl) ?_ ?_))
        ·refine xx K Z (xx K Z (x_o1 (qT x8.defines x14 hx14) Z (k9 (J5 (F5 cInt x8.defines Z)) o8) (Cd.rlR cInt f01 0 _) (fun n j => by simp [V.rnA, V.rnAL, V.rl, upJ, dn]) Z (xx K Z (xx K Z (tE (tE (xx K Z (dx_nil (⟨by kernel_rfl, zI (l' := [[], [7]]) (by kernel_rfl) (eG ?_ (eG ?_ sV))⟩)))))))))
         refine jL 3 (by kernel_rfl) Z (rU [0, 1, 2, 3, 4] (by kernel_rfl) ?_)
         rotate_left
         refine jL 2 (by kernel_rfl) Z (rU [0, 1, 2, 3, 4, 7] (by kernel_rfl) ?_)
         rotate_left
         repeat' first | refine sv Z (C8 cInt K Z Z Z) Z (i9 ?_) | refine A8 cInt (l := 0) (xs := x14) (ys := x8.uses) hb5 Z K Z Z Z Z Z Z Z (dU cInt (l := 0) Z Z Z) Z (i9 ?_) | refine xn 1 Z ?_ | refine z3 [0, 1, 2, 3, 4, 5, 7] [6] (by kernel_rfl) Z (o6 Z ?_ D5) | refine z3 [0, 1, 2, 3, 4, 7] [5] (by kernel_rfl) Z (o6 Z ?_ D5) | refine z3 [0, 1, 2, 3, 4, 5, 6] [7] (by kernel_rfl) Z (o6 Z ?_ D5) | refine z3 [0, 1, 2, 3, 4, 5] [6, 7] (by kernel_rfl) Z (o6 Z ?_ (o6 Z ?_ D5)) | refine z3 [0, 1, 2, 3, 4] [5, 7] (by kernel_rfl) Z (o6 Z ?_ (o6 Z ?_ D5)) | exact sW (by kernel_rfl) (e8 (d7 (d6 Z (d6 Z (d6 Z (d6 Z (d6 Z (d6 Z (g9 cObj Z (d6 Z (d6 Z (d6 Z (d6 Z (d6 Z (d6 Z (d6 Z (d6 Z (d6 Z (d6 Z f9))))))))))))))))) (A0 Z (o4 Z Z Z (p0 (r7 kStr kInt _ _)) (o4 Z Z Z (p0 (r7 kInt kInt _ _)) (A0 Z (A0 Z (j3 Z (j3 Z (u6 cObj Z (j3 Z g7))))))))) Z Z Z Z))
        ·refine i9 (f6 (m0 (fun x15 x16 => ⟨[(2, .ptr 8 1 0 0), (4, .mp 9 1), (5, .mp 10 1), (6, .ptr 11 1 0 0), (7, .ptr 12 1 0 0), (9, .ptr 22 1 0 0), (35, .psl 0 5 (list.map (cObj.enc 0))), (36, .int .i64 (list.length : Int)), (37, .int .i64 x2), (46, .mp 9 1), (47, .ptr 22 1 0 0), (48, .str x8.name), (49, .int .i64 (mget names3 x8.name)), (50, .bool (decide ((mget names3 x8.name) = 1))), (89, .hsl 23 0 (x14 ++ x8.uses).length), (90, .int .i64 ((x14 ++ x8.uses).length : Int)), (91, .int .i64 x15)], [(8, ⟨2, [[.nilsl, .int .i64 0]]⟩), (9, ⟨0, [mrow kStr kInt (mput names3 x8.name 1)]⟩), (10, ⟨0, [mrow kInt kInt slots11]⟩), (11, ⟨2, [[.hsl 21 0 x6.length, .int .i64 0]]⟩), (12, ⟨4, [[.int .i64 0, .int .i64 0, .int .i64 0, .hsl 16 0 x16.length]]⟩), (16, ⟨6, x16.map (cInstr.enc 2)⟩), (21, ⟨4, x6.map (cCode.enc 2)⟩), (22, ⟨5, [cObj.row 0 x8]⟩), (23, ⟨1, (x14 ++ x8.uses).map (cInt.enc 0)⟩)], 24, 219, []⟩) (W3 x2 names3 x6 go7 x8 slots11 x14) LF 0 x13 F (e8 (d7 (d6 Z (d6 Z (d6 Z (d6 Z (d6 Z (d6 Z (g9 cObj Z (d6 Z (d6 Z (d6 Z (d6 Z (d6 Z (d6 Z (d6 Z (d6 Z (d6 Z (d6 Z f9))))))))))))))))) (A0 Z (o4 Z Z Z (p0 (r7 kStr kInt _ _)) (o4 Z Z Z (p0 (r7 kInt kInt _ _)) (A0 Z (A0 Z (j3 Z (j3 Z (u6 cObj Z (j3 Z g7))))))))) Z Z Z Z)) ?_))
         intro go17 x15 x16 F
         replace F : w6 x2 names3 x6 go7 x8 slots11 x14 go17 x15 x16 = some q := F
         unfold w6 at F
         refine qn 1 Z (c6 (j1 F Z (fun G F => ?_) (fun G F => ?_)))
         ·obtain ⟨x18, hn_x18, F⟩ := c7 F
          refine d8 (c6 (f6 (qr (sv Z (l4 cInt hn_x18 K Z Z Z Z) Z (sv Z (L6 cInt hn_x18 K Z Z Z Z) Z (xn 1 Z (qx 2 Z (sv Z (om_getok oX (k := 3) z_3 K Z (jJ Z) Z Z Z) Z (xn 5 Z (c6 (c6 (c8 [2, 4, 5, 6, 7, 9, 16, 17, 35, 36, 37, 46, 47, 48, 49, 50, 89, 90, 91] Z (gn 2 Z (N7 F Z (fun G F => ?_) (fun G F => ?_)))))))))))))))
          ·obtain rfl := e9 F
           exact c6 (c8 [2] Z (j8 (sv Z (p9 K Z Z) Z (xn 2 Z (bA (t9 8 4 (k := 0) (pre := []) (suf := [.int .i64 0]) Z Z Z) (j9 (m9 (o9 (m9 (I4 (o9 (m9 (o9 (m9 (I4 (o9 (m9 (⟨_, Z, 24, Z, Z⟩))))))))))))))))))
          ·obtain ⟨H1, F⟩ := e7 F
           obtain ⟨H2, F⟩ := e7 F
           exact d8 (gx 3 Z (sv Z (p9 K Z Z) Z (gT K Z Z Z Z Z Z Z (j6 (t9 24 4 (k := 5) (pre := [.int .i64 3, .int .i64 (mget slots11 x18), .int .i64 0, .int .i64 0, .str ([] : LB)]) (suf := []) Z Z Z) (L3 cInstr (l := 2) (xs := x16) H1 Z K Z Z Z Z Z Z Z Z Z (g8 (o5 Z) (g8 (o5 Z) (g8 (o5 Z) (g8 (o5 Z) (g8 (o5 Z) (g8 (O0 Z (by simp)) y5)))))) Z (j6 (Q2 16 25 ([] : List PD).length x16.length [.int .i64 3, .int .i64 (mget slots11 x18), .int .i64 0, .int .i64 0, .str ([] : LB)] [] Z (q9 _ _) Z Z Z Z (q9 _ _) (Cd.dps0 cDat 2 (fun _ => Z) _) Z) (j6 (v6 16 (rows' := (x16 ++ ([(PInstr.mk 3 (mget slots11 x18) (PD.mk 0 0 ([] : LB) []))] : List PInstr)).map (cInstr.enc 2)) Z (cX cInstr (l := 2) x16 (PInstr.mk 3 (mget slots11 x18) (PD.mk 0 0 ([] : LB) []))) Z) (j6 (m7 (y := .hsl 16 0 (x16 ++ ([(PInstr.mk 3 (mget slots11 x18) (PD.mk 0 0 ([] : LB) []))] : List PInstr)).length) 109 Z (s4 (congrArg (V.hsl 16 0) (by simp))) Z) (xq 1 Z (t7 (B6 Z (by simp)) K Z Z Z Z Z Z Z Z Z (i9 (C7 (c8 [2, 4, 5, 6, 7, 9, 35, 36, 37, 46, 47, 48, 49, 50, 89, 90, 91] Z (j8 (l8 K Z Z Z H2 Z (xn 1 Z (j5 ⟨((x15 + 1), (x16 ++ ([(PInstr.mk 3 (mget slots11 x18) (PD.mk 0 0 ([] : LB) []))] : List PInstr))), F, (e8 (d7 (d6 Z (d6 Z (d6 Z (d6 Z (d6 Z (d6 Z (g9 cObj Z (d6 Z (d6 Z (d6 Z (d6 Z (d6 Z (d6 Z (d6 Z (d6 Z (d6 Z (d6 Z f9))))))))))))))))) (A0 Z (o4 Z Z Z (p0 (r7 kStr kInt _ _)) (o4 Z Z Z (p0 (r7 kInt kInt _ _)) (A0 Z (A0 Z (j3 Z (j3 Z (u6 cObj Z (j3 Z g7))))))))) Z Z Z Z))⟩)))))))))))))))))
         ·refine k8 (J4 (J6 (l9 (qx 2 Z (sv Z (C8 cCode K Z Z Z) Z (xn 1 Z (c6 (c6 (c8 [2, 4, 5, 6, 7, 9, 18, 35, 36, 37, 46, 47, 48, 49, 50] Z (gx 3 Z (sv Z (k7 cCode K Z Z Z) Z (xn 1 Z (f6 (m0 (fun x18 x19 => ⟨[(2, .ptr 8 1 0 0), (4, .mp 9 1), (5, .mp 10 1), (6, .ptr 11 1 0 0), (7, .ptr 12 1 0 0), (18, .int .i64 (x6.length : Int)), (35, .psl 0 5 (list.map (cObj.enc 0))), (36, .int .i64 (list.length : Int)), (37, .int .i64 x2), (46, .mp 9 1), (47, .ptr 22 1 0 0), (48, .str x8.name), (49, .int .i64 (mget names3 x8.name)), (50, .bool (decide ((mget names3 x8.name) = 1))), (117, .psl 0 4 (x8.image.codes.map (cCode.enc 0))), (118, .int .i64 (x8.image.codes.length : Int)), (119, .int .i64 x18)], [(8, ⟨2, [[.nilsl, .int .i64 0]]⟩), (9, ⟨0, [mrow kStr kInt (mput names3 x8.name 1)]⟩), (10, ⟨0, [mrow kInt kInt slots11]⟩), (11, ⟨2, [[.hsl 21 0 x19.length, .int .i64 0]]⟩), (12, ⟨4, [[.int .i64 0, .int .i64 0, .int .i64 0, .hsl 16 0 x16.length]]⟩), (16, ⟨6, x16.map (cInstr.enc 2)⟩), (21, ⟨4, x19.map (cCode.enc 2)⟩), (22, ⟨5, [cObj.row 0 x8]⟩)], 24, 219, []⟩) (M6 x2 names3 x6 go7 x8 slots11 x16) LF 0 x6 F (e8 (d7 (d6 Z (d6 Z (d6 Z (d6 Z (d6 Z (d6 Z (g9 cObj Z (d6 Z (d6 Z (d6 Z (d6 Z (d6 Z (d6 Z (d6 Z (g9 cCode Z (d6 Z (d6 Z f9))))))))))))))))) (A0 Z (o4 Z Z Z (p0 (r7 kStr kInt _ _)) (o4 Z Z Z (p0 (r7 kInt kInt _ _)) (A0 Z (A0 Z (j3 Z (j3 Z (u6 cObj Z g7)))))))) Z Z Z Z)) ?_))))))))))))))
          intro go20 x18 x19 F
          replace F : w7 x2 names3 x6 go7 x8 slots11 x16 go20 x18 x19 = some q := F
          unfold w7 at F
          refine qn 1 Z (c6 (j1 F Z (fun G F => ?_) (fun G F => ?_)))
          ·obtain ⟨x21, hn_x21, F⟩ := c7 F
           obtain ⟨H1, F⟩ := e7 F
           refine d8 (c6 (f6 (qr (sv Z (j4 cCode hn_x21 K Z Z Z Z) Z (xn 3 Z (qx 2 Z (sO cInstr (l := 0) (ys := x21.instrs) H1 Z K Z Z Z Z Z Z (dU cInstr (l := 0) Z Z Z) Z (xq 1 Z (t7 (B6 Z (by simp)) K Z Z Z Z Z Z Z Z Z (i9 (c6 (c6 (c8 [2, 4, 5, 6, 7, 18, 20, 35, 36, 37, 46, 47, 48, 49, 50, 117, 118, 119] Z (gx 2 Z (sv Z (C8 cInstr K Z Z Z) Z (xn 1 Z (f6 (bA (le_mix0 cInstr 2 25 Z Z) (m0 (fun x22 x23 => ⟨[(2, .ptr 8 1 0 0), (4, .mp 9 1), (5, .mp 10 1), (6, .ptr 11 1 0 0), (7, .ptr 12 1 0 0), (18, .int .i64 (x6.length : Int)), (20, .ptr 24 1 0 0), (35, .psl 0 5 (list.map (cObj.enc 0))), (36, .int .i64 (list.length : Int)), (37, .int .i64 x2), (46, .mp 9 1), (47, .ptr 22 1 0 0), (48, .str x8.name), (49, .int .i64 (mget names3 x8.name)), (50, .bool (decide ((mget names3 x8.name) = 1))), (117, .psl 0 4 (x8.image.codes.map (cCode.enc 0))), (118, .int .i64 (x8.image.codes.length : Int)), (119, .int .i64 x18), (129, .int .i64 (x21.instrs.length : Int)), (130, .int .i64 x22)], [(8, ⟨2, [[.nilsl, .int .i64 0]]⟩), (9, ⟨0, [mrow kStr kInt (mput names3 x8.name 1)]⟩), (10, ⟨0, [mrow kInt kInt slots11]⟩), (11, ⟨2, [[.hsl 21 0 x19.length, .int .i64 0]]⟩), (12, ⟨4, [[.int .i64 0, .int .i64 0, .int .i64 0, .hsl 16 0 x16.length]]⟩), (16, ⟨6, x16.map (cInstr.enc 2)⟩), (21, ⟨4, x19.map (cCode.enc 2)⟩), (22, ⟨5, [cObj.row 0 x8]⟩), (24, ⟨4, [[.int .i64 x21.params, .int .i64 x21.slots, .int .i64 x21.captures, .hsl 25 0 x23.length]]⟩), (25, ⟨6, mixr cInstr 2 x22.toNat x23⟩)], 26, 219, []⟩) (M7 x6 x18 x19 go20 x21) LF 0 x21.instrs F (e8 (d7 (d6 Z (d6 Z (d6 Z (d6 Z (d6 Z (d6 Z (d6 Z (g9 cObj Z (d6 Z (d6 Z (d6 Z (d6 Z (d6 Z (d6 Z (d6 Z (g9 cCode Z (d6 Z (d6 Z (d6 Z (d6 Z f9)))))))))))))))))))) (A0 Z (o4 Z Z Z (p0 (r7 kStr kInt _ _)) (o4 Z Z Z (p0 (r7 kInt kInt _ _)) (A0 Z (A0 Z (j3 Z (j3 Z (u6 cObj Z (A0 Z (o4 Z Z Z (mix_ok cInstr _ _ Z) g7)))))))))) Z Z Z Z)) ?_)))))))))))))))))))
           intro go24 x22 x23 F
           replace F : w8 x6 x18 x19 go20 x21 go24 x22 x23 = some q := F
           unfold w8 at F
           refine qn 1 Z (c6 (j1 F Z (fun G F => ?_) (fun G F => ?_)))
           ·refine d8 (c6 (v7 (fun (x25 : List PInstr) => ⟨[(2, .ptr 8 1 0 0), (4, .mp 9 1), (5, .mp 10 1), (6, .ptr 11 1 0 0), (7, .ptr 12 1 0 0), (18, .int .i64 (x6.length : Int)), (20, .ptr 24 1 0 0), (35, .psl 0 5 (list.map (cObj.enc 0))), (36, .int .i64 (list.length : Int)), (37, .int .i64 x2), (46, .mp 9 1), (47, .ptr 22 1 0 0), (48, .str x8.name), (49, .int .i64 (mget names3 x8.name)), (50, .bool (decide ((mget names3 x8.name) = 1))), (117, .psl 0 4 (x8.image.codes.map (cCode.enc 0))), (118, .int .i64 (x8.image.codes.length : Int)), (119, .int .i64 x18), (129, .int .i64 (x21.instrs.length : Int)), (130, .int .i64 x22)], [(8, ⟨2, [[.nilsl, .int .i64 0]]⟩), (9, ⟨0, [mrow kStr kInt (mput names3 x8.name 1)]⟩), (10, ⟨0, [mrow kInt kInt slots11]⟩), (11, ⟨2, [[.hsl 21 0 x19.length, .int .i64 0]]⟩), (12, ⟨4, [[.int .i64 0, .int .i64 0, .int .i64 0, .hsl 16 0 x16.length]]⟩), (16, ⟨6, x16.map (cInstr.enc 2)⟩), (21, ⟨4, x19.map (cCode.enc 2)⟩), (22, ⟨5, [cObj.row 0 x8]⟩), (24, ⟨4, [[.int .i64 x21.params, .int .i64 x21.slots, .int .i64 x21.captures, .hsl 25 0 x25.length]]⟩), (25, ⟨6, mixr cInstr 2 ((x22 + 1).toNat) x25⟩)], 26, 219, []⟩) (fun x25 => C9 x22 go24 x25 = some q) ?_ ?_))
            ·obtain ⟨x25, hn_x25, F⟩ := c7 F
             obtain ⟨x26, hx26, F⟩ := c7 F
             refine f6 (qn 2 Z (c6 (nT (id := 39) 10 [0, 1, 2, 3, 4, 5, 6, 7, 8, 9] ⟨[(2, .ptr 8 1 0 0), (4, .mp 9 1), (5, .mp 10 1), (6, .ptr 11 1 0 0), (7, .ptr 12 1 0 0), (18, .int .i64 (x6.length : Int)), (20, .ptr 24 1 0 0), (21, .int .i64 x22), (35, .psl 0 5 (list.map (cObj.enc 0))), (36, .int .i64 (list.length : Int)), (37, .int .i64 x2), (46, .mp 9 1), (47, .ptr 22 1 0 0), (48, .str x8.name), (49, .int .i64 (mget names3 x8.name)), (50, .bool (decide ((mget names3 x8.name) = 1))), (117, .psl 0 4 (x8.image.codes.map (cCode.enc 0))), (118, .int .i64 (x8.image.codes.length : Int)), (119, .int .i64 x18), (129, .int .i64 (x21.instrs.length : Int)), (130, .int .i64 x22), (134, .hsl 25 0 x23.length), (135, .int .i64 x22), (142, .agg [.int .i64 x26.kind, .int .i64 x26.number, .str x26.text, .hsl 26 0 x26.items.length])], [(8, ⟨2, [[.nilsl, .int .i64 0]]⟩), (9, ⟨0, [mrow kStr kInt (mput names3 x8.name 1)]⟩), (10, ⟨0, [mrow kInt kInt slots11]⟩), (11, ⟨2, [[.hsl 21 0 x19.length, .int .i64 0]]⟩), (12, ⟨4, [[.int .i64 0, .int .i64 0, .int .i64 0, .hsl 16 0 x16.length]]⟩), (16, ⟨6, x16.map (cInstr.enc 2)⟩), (21, ⟨4, x19.map (cCode.enc 2)⟩), (22, ⟨5, [cObj.row 0 x8]⟩), (24, ⟨4, [[.int .i64 x21.params, .int .i64 x21.slots, .int .i64 x21.captures, .hsl 25 0 x23.length]]⟩), (25, ⟨6, mixr cInstr 2 x22.toNat x23⟩), (26, ⟨4, x26.items.map (cDat.enc 2)⟩)], 27, 219, []⟩ (by kernel_rfl) (by kernel_rfl) ?_ ?_)))
             ·refine xx K Z (xx K Z (xx K Z (xx K Z (xx K Z (xx K Z (xv Z (pI cInstr hn_x25 K Z Z Z Z) Z (xv Z (n7 K Z Z Z Z (by simp)) Z (xv Z (om_load0 cInstr hn_x25 K Z Z Z Z) Z (x_o1 (oR RF x25.d x26 hx26) Z (k9 (J5 (r9 cDat x25.d Z)) o8) (Cd.rlR cDat f01 2 _) (fun n j => by simp [V.rnA, V.rnAL, V.rl, upJ, dn]) Z (dx_nil (⟨by kernel_rfl, zI (l' := [[]]) (by kernel_rfl) (eG ?_ sV)⟩)))))))))))
              refine jL 0 (by kernel_rfl) Z (rU [0, 1, 2, 3, 4, 5, 6, 7, 8, 9] (by kernel_rfl) ?_)
              rotate_left
              repeat' first | exact sW (by kernel_rfl) (le_rn [(8, 8), (9, 9), (10, 10), (11, 11), (12, 12), (16, 16), (21, 21), (22, 22), (24, 24), (25, 25), (26, 26)] Z Z (s5 Z (lZ Z) (s5 Z (rn_mp Z) (s5 Z (rn_mp Z) (s5 Z (lZ Z) (s5 Z (lZ Z) (s5 Z Z (s5 Z (lZ Z) (s5 Z Z (s5 Z (C6 _ (F5 cObj list Z)) (s5 Z Z (s5 Z Z (s5 Z (rn_mp Z) (s5 Z (lZ Z) (s5 Z Z (s5 Z Z (s5 Z Z (s5 Z (C6 _ (F5 cCode x8.image.codes Z)) (s5 Z Z (s5 Z Z (s5 Z Z (s5 Z Z (s5 Z (jW Z) (s5 Z Z (s5 Z (rn_agg (l3 Z (l3 Z (l3 Z (l3 (jW Z) B1))))) er_nil)))))))))))))))))))))))) (J0 Z Z Z (eX (l3 Z (l3 Z B1))) (J0 Z Z Z (mrow_rnR kStr kInt _ (mput names3 x8.name 1)) (J0 Z Z Z (mrow_rnR kInt kInt _ slots11) (J0 Z Z Z (eX (l3 (jW Z) (l3 Z B1))) (J0 Z Z Z (eX (l3 Z (l3 Z (l3 Z (l3 (jW Z) B1))))) (J0 Z Z Z (Cd.rnR cInstr _ x16 Z) (J0 Z Z Z (Cd.rnR cCode _ x19 Z) (J0 Z Z Z (eX (U9 _ (cObj.rl cut2 0 x8))) (J0 Z Z Z (eX (l3 Z (l3 Z (l3 Z (l3 (jW Z) B1))))) (J0 Z Z Z (mix_rnR cInstr _ _ x23 Z) (J0 Z Z Z (Cd.rnR cDat _ x26.items Z) hr_nil))))))))))) Z Z)
             ·obtain ⟨x27, hn_x27, F⟩ := c7 F
              obtain ⟨x28, hn_x28, F⟩ := c7 F
              obtain ⟨x29, hx29, F⟩ := c7 F
              refine sv Z (pI cInstr hn_x27 K Z Z Z Z) Z (sv Z (n7 K Z Z Z Z (by simp)) Z (sc_mixX cInstr (k := 0) hn_x27 K Z Z Z Z (.inl ⟨Z, Z⟩) Z (g8 (o5 Z) (g8 (o5 Z) (g8 (o5 Z) (g8 (O0 Z (by simp)) y5)))) Z Z Z (j6 (D4 25 26 x22.toNat (x26.items.length) [.int .i64 x27.op, .int .i64 x27.a, .int .i64 x26.kind, .int .i64 x26.number, .str x26.text] [] Z Z Z Z Z (q9 _ _) (mix_atx cInstr _ hn_x27) (Cd.dps0 cDat 2 (fun _ => Z) _) Z Z) (j6 (v6 25 (rows' := mixr cInstr 2 (x22 + 1).toNat (x23.set x22.toNat (PInstr.mk x27.op x27.a x26))) Z ((L4 _ _ _ _).trans (mix_setx cInstr (v' := (PInstr.mk x27.op x27.a x26)) hn_x27 (.inl Z))) Z) (j6 (v6 24 (rows' := [[.int .i64 x21.params, .int .i64 x21.slots, .int .i64 x21.captures, .hsl 25 0 (x23.set x22.toNat (PInstr.mk x27.op x27.a x26)).length]]) Z (by simp only [List.length_set]) Z) (i9 (qx 3 Z (sv Z (pI cInstr hn_x28 K Z Z Z Z) Z (sv Z (n7 K Z Z Z Z (by simp)) Z (sv Z (om_load1 cInstr hn_x28 K Z Z Z Z) Z (i8 (gP x28.op x29 hx29) Z ((d9 (Z) i7)) Z Z (i9 (qR F Z (fun G F => ?_) (fun G F => ?_))))))))))))))
              ·obtain ⟨x30, hn_x30, F⟩ := c7 F
               obtain ⟨H1, F⟩ := e7 F
               obtain ⟨x31, hn_x31, F⟩ := c7 F
               exact c8 [2, 4, 5, 6, 7, 18, 20, 21, 35, 36, 37, 46, 47, 48, 49, 50, 117, 118, 119, 129, 130] Z (gx 3 Z (sv Z (pI cInstr hn_x30 K Z Z Z Z) Z (sv Z (n7 K Z Z Z Z (by simp)) Z (sv Z (om_load1 cInstr hn_x30 K Z Z Z Z) Z (xq 1 Z (l8 K Z Z Z H1 Z (sv Z (pI cInstr hn_x31 K Z Z Z Z) Z (sv Z (n7 K Z Z Z Z (by simp)) Z (sc_mix cInstr (k := 2) (v' := (PInstr.mk x31.op (x30.a + (x6.length : Int)) x31.d)) hn_x31 K Z Z Z Z (.inr ⟨Z, Z⟩) Z Z Z Z (j6 (v6 24 (rows' := [[.int .i64 x21.params, .int .i64 x21.slots, .int .i64 x21.captures, .hsl 25 0 ((x23.set x22.toNat (PInstr.mk x27.op x27.a x26)).set x22.toNat (PInstr.mk x31.op (x30.a + (x6.length : Int)) x31.d)).length]]) Z (by simp only [List.length_set]) Z) (i9 (C7 (l0 ⟨((x23.set x22.toNat (PInstr.mk x27.op x27.a x26)).set x22.toNat (PInstr.mk x31.op (x30.a + (x6.length : Int)) x31.d)), F, (e8 (d7 (d6 Z (d6 Z (d6 Z (d6 Z (d6 Z (d6 Z (d6 Z (g9 cObj Z (d6 Z (d6 Z (d6 Z (d6 Z (d6 Z (d6 Z (d6 Z (g9 cCode Z (d6 Z (d6 Z (d6 Z (d6 Z f9)))))))))))))))))))) (A0 Z (o4 Z Z Z (p0 (r7 kStr kInt _ _)) (o4 Z Z Z (p0 (r7 kInt kInt _ _)) (A0 Z (A0 Z (j3 Z (j3 Z (u6 cObj Z (A0 Z (o4 Z Z Z (mix_ok cInstr _ _ Z) g7)))))))))) Z Z Z Z))⟩)))))))))))))
              ·exact d8 (C7 (l0 ⟨(x23.set x22.toNat (PInstr.mk x27.op x27.a x26)), F, (e8 (d7 (d6 Z (d6 Z (d6 Z (d6 Z (d6 Z (d6 Z (d6 Z (g9 cObj Z (d6 Z (d6 Z (d6 Z (d6 Z (d6 Z (d6 Z (d6 Z (g9 cCode Z (d6 Z (d6 Z (d6 Z (d6 Z f9)))))))))))))))))))) (A0 Z (o4 Z Z Z (p0 (r7 kStr kInt _ _)) (o4 Z Z Z (p0 (r7 kInt kInt _ _)) (A0 Z (A0 Z (j3 Z (j3 Z (u6 cObj Z (A0 Z (o4 Z Z Z (mix_ok cInstr _ _ Z) g7)))))))))) Z Z Z Z))⟩))
            ·intro x25 F
             replace F : C9 x22 go24 x25 = some q := F
             unfold C9 at F
             obtain ⟨H1, F⟩ := e7 F
             exact j8 (l8 K Z Z Z H1 Z (xn 1 Z (j5 ⟨((x22 + 1), x25), F, (e8 (d7 (d6 Z (d6 Z (d6 Z (d6 Z (d6 Z (d6 Z (d6 Z (g9 cObj Z (d6 Z (d6 Z (d6 Z (d6 Z (d6 Z (d6 Z (d6 Z (g9 cCode Z (d6 Z (d6 Z (d6 Z (d6 Z f9)))))))))))))))))))) (A0 Z (o4 Z Z Z (p0 (r7 kStr kInt _ _)) (o4 Z Z Z (p0 (r7 kInt kInt _ _)) (A0 Z (A0 Z (j3 Z (j3 Z (u6 cObj Z (A0 Z (o4 Z Z Z (mix_ok cInstr _ _ Z) g7)))))))))) Z Z Z Z))⟩)))
           ·obtain ⟨hm1, F⟩ := e7 F
            obtain ⟨H1, F⟩ := e7 F
            obtain ⟨H2, F⟩ := e7 F
            exact k8 (J4 (J6 (l9 (bA (le_mix1 cInstr 25 Z hm1 Z) (gx 3 Z (gT K Z Z Z Z Z Z Z (L3 cCode (l := 2) (xs := x19) H1 Z K Z Z Z Z Z Z Z Z Z (g8 (o5 Z) (g8 (o5 Z) (g8 (o5 Z) (g8 (O0 Z (by simp)) y5)))) Z (j6 (Q2 21 25 x23.length x19.length [.int .i64 x21.params, .int .i64 x21.slots, .int .i64 x21.captures] [] Z (q9 _ _) Z Z Z Z (q9 _ _) (Cd.dps0 cInstr 2 (fun _ => Z) _) Z) (j6 (v6 21 (rows' := (x19 ++ ([(PCode.mk x21.params x21.slots x21.captures x23)] : List PCode)).map (cCode.enc 2)) Z (cX cCode (l := 2) x19 (PCode.mk x21.params x21.slots x21.captures x23)) Z) (j6 (m7 (y := .hsl 21 0 (x19 ++ ([(PCode.mk x21.params x21.slots x21.captures x23)] : List PCode)).length) 167 Z (s4 (congrArg (V.hsl 21 0) (by simp))) Z) (xq 1 Z (t7 (B6 Z (by simp)) K Z Z Z Z Z Z Z Z Z (i9 (C7 (c8 [2, 4, 5, 6, 7, 18, 35, 36, 37, 46, 47, 48, 49, 50, 117, 118, 119] Z (j8 (l8 K Z Z Z H2 Z (xn 1 Z (j5 ⟨((x18 + 1), (x19 ++ ([(PCode.mk x21.params x21.slots x21.captures x23)] : List PCode))), F, (e8 (d7 (d6 Z (d6 Z (d6 Z (d6 Z (d6 Z (d6 Z (g9 cObj Z (d6 Z (d6 Z (d6 Z (d6 Z (d6 Z (d6 Z (d6 Z (g9 cCode Z (d6 Z (d6 Z f9))))))))))))))))) (A0 Z (o4 Z Z Z (p0 (r7 kStr kInt _ _)) (o4 Z Z Z (p0 (r7 kInt kInt _ _)) (A0 Z (A0 Z (j3 Z (j3 Z (u6 cObj Z g7)))))))) Z Z Z Z))⟩)))))))))))))))))))
          ·obtain ⟨H1, F⟩ := e7 F
           obtain ⟨H2, F⟩ := e7 F
           obtain ⟨H3, F⟩ := e7 F
           exact k8 (J4 (J6 (l9 (gx 4 Z (sv Z (C8 cCode K Z Z Z) Z (aI K Z Z Z H1 Z (sv Z (p9 K Z Z) Z (gT K Z Z Z Z Z Z Z (j6 (t9 24 4 (k := 5) (pre := [.int .i64 20, .int .i64 ((x19.length : Int) - 1), .int .i64 0, .int .i64 0, .str ([] : LB)]) (suf := []) Z Z Z) (L3 cInstr (l := 2) (xs := x16) H2 Z K Z Z Z Z Z Z Z Z Z (g8 (o5 Z) (g8 (o5 Z) (g8 (o5 Z) (g8 (o5 Z) (g8 (o5 Z) (g8 (O0 Z (by simp)) y5)))))) Z (j6 (Q2 16 25 ([] : List PD).length x16.length [.int .i64 20, .int .i64 ((x19.length : Int) - 1), .int .i64 0, .int .i64 0, .str ([] : LB)] [] Z (q9 _ _) Z Z Z Z (q9 _ _) (Cd.dps0 cDat 2 (fun _ => Z) _) Z) (j6 (v6 16 (rows' := (x16 ++ ([(PInstr.mk 20 ((x19.length : Int) - 1) (PD.mk 0 0 ([] : LB) []))] : List PInstr)).map (cInstr.enc 2)) Z (cX cInstr (l := 2) x16 (PInstr.mk 20 ((x19.length : Int) - 1) (PD.mk 0 0 ([] : LB) []))) Z) (j6 (m7 (y := .hsl 16 0 (x16 ++ ([(PInstr.mk 20 ((x19.length : Int) - 1) (PD.mk 0 0 ([] : LB) []))] : List PInstr)).length) 178 Z (s4 (congrArg (V.hsl 16 0) (by simp))) Z) (xq 1 Z (t7 (B6 Z (by simp)) K Z Z Z Z Z Z Z Z Z (i9 (C7 (c8 [2, 4, 5, 6, 7, 35, 36, 37, 46, 47, 48, 49, 50] Z (j8 (l8 K Z Z Z H3 Z (xn 1 Z (j5 ⟨((x2 + 1), (mput names3 x8.name 1), slots11, (x16 ++ ([(PInstr.mk 20 ((x19.length : Int) - 1) (PD.mk 0 0 ([] : LB) []))] : List PInstr)), x19), F, (e8 (d7 (d6 Z (d6 Z (d6 Z (d6 Z (d6 Z (g9 cObj Z (d6 Z (d6 Z f9)))))))) (A0 Z (o4 Z Z Z (p0 (r7 kStr kInt _ _)) (o4 Z Z Z (p0 (r7 kInt kInt _ _)) (A0 Z (A0 Z (j3 Z (j3 Z g7))))))) Z Z Z Z))⟩))))))))))))))))))))))
   ·refine k8 (J4 (J6 (l9 (qn 1 Z (c6 (qx 1 Z (sv Z (om_len (kc := kInt) (E := kInt) K Z Z Z) Z (xn 1 Z (f6 (m0 (fun x8 boxes9 => ⟨[(2, .ptr 8 1 0 0), (5, .mp 10 1), (6, .ptr 11 1 0 0), (7, .ptr 12 1 0 0), (22, .hsl 24 0 boxes9.length), (182, .int .i64 (slots4.length : Int)), (183, .int .i64 x8)], [(8, ⟨2, [[.nilsl, .int .i64 0]]⟩), (10, ⟨0, [mrow kInt kInt slots4]⟩), (11, ⟨2, [[.hsl 21 0 x6.length, .int .i64 0]]⟩), (12, ⟨4, [[.int .i64 0, .int .i64 0, .int .i64 0, .hsl 16 0 x5.length]]⟩), (16, ⟨6, x5.map (cInstr.enc 2)⟩), (21, ⟨4, x6.map (cCode.enc 2)⟩), (24, ⟨6, boxes9.map (cInstr.enc 2)⟩)], 25, 219, []⟩) (M8 slots4 x5 x6) LF 0 [] F ((W4 24 Z Z).trans ((jK 22 6 Z Z).trans (e8 (d7 (d6 Z (d6 Z (d6 Z (d6 Z (d6 Z (d6 Z (d6 Z f9))))))) (A0 Z (o4 Z Z Z (p0 (r7 kInt kInt _ _)) (A0 Z (A0 Z (j3 Z (j3 Z (j3 Z g7))))))) Z Z Z Z)))) ?_))))))))))
    intro go10 x8 boxes9 F
    replace F : w9 slots4 x5 x6 go10 x8 boxes9 = some q := F
    unfold w9 at F
    refine qn 1 Z (c6 (j1 F Z (fun G F => ?_) (fun G F => ?_)))
    ·obtain ⟨H1, F⟩ := e7 F
     obtain ⟨H2, F⟩ := e7 F
     exact d8 (c6 (f6 (qn 2 Z (gx 2 Z (sv Z (p9 K Z Z) Z (gT K Z Z Z Z Z Z Z (j6 (t9 25 4 (k := 5) (pre := [.int .i64 9, .int .i64 x8, .int .i64 0, .int .i64 0, .str ([] : LB)]) (suf := []) Z Z Z) (L3 cInstr (l := 2) (xs := boxes9) H1 Z K Z Z Z Z Z Z Z Z Z (g8 (o5 Z) (g8 (o5 Z) (g8 (o5 Z) (g8 (o5 Z) (g8 (o5 Z) (g8 (O0 Z (by simp)) y5)))))) Z (j6 (Q2 24 26 ([] : List PD).length boxes9.length [.int .i64 9, .int .i64 x8, .int .i64 0, .int .i64 0, .str ([] : LB)] [] Z (q9 _ _) Z Z Z Z (q9 _ _) (Cd.dps0 cDat 2 (fun _ => Z) _) Z) (j6 (v6 24 (rows' := (boxes9 ++ ([(PInstr.mk 9 x8 (PD.mk 0 0 ([] : LB) []))] : List PInstr)).map (cInstr.enc 2)) Z (cX cInstr (l := 2) boxes9 (PInstr.mk 9 x8 (PD.mk 0 0 ([] : LB) []))) Z) (j6 (m7 (y := .hsl 24 0 (boxes9 ++ ([(PInstr.mk 9 x8 (PD.mk 0 0 ([] : LB) []))] : List PInstr)).length) 190 Z (s4 (congrArg (V.hsl 24 0) (by simp))) Z) (xn 1 Z (C7 (c8 [2, 5, 6, 7, 22, 182, 183] Z (j8 (l8 K Z Z Z H2 Z (xn 1 Z (j5 ⟨((x8 + 1), (boxes9 ++ ([(PInstr.mk 9 x8 (PD.mk 0 0 ([] : LB) []))] : List PInstr))), F, (e8 (d7 (d6 Z (d6 Z (d6 Z (d6 Z (d6 Z (d6 Z (d6 Z f9))))))) (A0 Z (o4 Z Z Z (p0 (r7 kInt kInt _ _)) (A0 Z (A0 Z (j3 Z (j3 Z (j3 Z g7))))))) Z Z Z Z))⟩))))))))))))))))))
    ·obtain ⟨H1, F⟩ := e7 F
     obtain ⟨H2, F⟩ := e7 F
     obtain ⟨H3, F⟩ := e7 F
     obtain ⟨H4, F⟩ := e7 F
     obtain ⟨x11, hx11, F⟩ := c7 F
     refine k8 (J4 (J6 (l9 (qx 1 Z (sv Z (om_len (kc := kInt) (E := kInt) K Z Z Z) Z (xn 2 Z (c6 (c8 [2, 6, 7, 22] Z (gx 3 Z (sc_appendD cInstr (l := 2) (xs := boxes9) (ys := x5) H1 Z K Z Z Z Z Z Z Z Z Z Z (Cd.dps0 cInstr 2 (fun _ => Z) _) Z (sv Z (p9 K Z Z) Z (gT K Z Z Z Z Z Z Z (j6 (t9 25 4 (k := 5) (pre := [.int .i64 14, .int .i64 0, .int .i64 0, .int .i64 0, .str ([] : LB)]) (suf := []) Z Z Z) (L3 cInstr (l := 2) (xs := (boxes9 ++ x5)) H2 Z K Z Z Z Z Z Z Z Z Z (g8 (o5 Z) (g8 (o5 Z) (g8 (o5 Z) (g8 (o5 Z) (g8 (o5 Z) (g8 (O0 Z (by simp)) y5)))))) Z (j6 (Q2 24 26 ([] : List PD).length (boxes9 ++ x5).length [.int .i64 14, .int .i64 0, .int .i64 0, .int .i64 0, .str ([] : LB)] [] Z (q9 _ _) Z Z Z Z (q9 _ _) (Cd.dps0 cDat 2 (fun _ => Z) _) Z) (j6 (v6 24 (rows' := ((boxes9 ++ x5) ++ ([(PInstr.mk 14 0 (PD.mk 0 0 ([] : LB) []))] : List PInstr)).map (cInstr.enc 2)) Z (cX cInstr (l := 2) (boxes9 ++ x5) (PInstr.mk 14 0 (PD.mk 0 0 ([] : LB) []))) Z) (j6 (m7 (y := .hsl 24 0 ((boxes9 ++ x5) ++ ([(PInstr.mk 14 0 (PD.mk 0 0 ([] : LB) []))] : List PInstr)).length) 201 Z (s4 (congrArg (V.hsl 24 0) (by simp <;> omega))) Z) (xq 1 Z (t7 (B6 Z (by simp)) K Z Z Z Z Z Z Z Z Z (i9 (c6 (c8 [2, 6, 7] Z (gx 3 Z (gT K Z Z Z Z Z Z Z (L3 cCode (l := 2) (xs := x6) H3 Z K Z Z Z Z Z Z Z Z Z (g8 (o5 Z) (g8 (o5 Z) (g8 (o5 Z) (g8 (O0 Z (by simp)) y5)))) Z (j6 (Q2 21 24 ((boxes9 ++ x5) ++ ([(PInstr.mk 14 0 (PD.mk 0 0 ([] : LB) []))] : List PInstr)).length x6.length [.int .i64 0, .int .i64 (slots4.length : Int), .int .i64 0] [] Z (q9 _ _) Z Z Z Z (q9 _ _) (Cd.dps0 cInstr 2 (fun _ => Z) _) Z) (j6 (v6 21 (rows' := (x6 ++ ([(PCode.mk 0 (slots4.length : Int) 0 ((boxes9 ++ x5) ++ ([(PInstr.mk 14 0 (PD.mk 0 0 ([] : LB) []))] : List PInstr)))] : List PCode)).map (cCode.enc 2)) Z (cX cCode (l := 2) x6 (PCode.mk 0 (slots4.length : Int) 0 ((boxes9 ++ x5) ++ ([(PInstr.mk 14 0 (PD.mk 0 0 ([] : LB) []))] : List PInstr)))) Z) (j6 (m7 (y := .hsl 21 0 (x6 ++ ([(PCode.mk 0 (slots4.length : Int) 0 ((boxes9 ++ x5) ++ ([(PInstr.mk 14 0 (PD.mk 0 0 ([] : LB) []))] : List PInstr)))] : List PCode)).length) 207 Z (s4 (congrArg (V.hsl 21 0) (by simp))) Z) (xq 1 Z (t7 (B6 Z (by simp)) K Z Z Z Z Z Z Z Z Z (i9 (c6 (c8 [2, 6] Z (gx 2 Z (sv Z (C8 cCode K Z Z Z) Z (aI K Z Z Z H4 Z (xn 2 Z (c6 (qx 1 Z (M4 (lV (PImage.mk (x6 ++ ([(PCode.mk 0 (slots4.length : Int) 0 ((boxes9 ++ x5) ++ ([(PInstr.mk 14 0 (PD.mk 0 0 ([] : LB) []))] : List PInstr)))] : List PCode)) (((x6 ++ ([(PCode.mk 0 (slots4.length : Int) 0 ((boxes9 ++ x5) ++ ([(PInstr.mk 14 0 (PD.mk 0 0 ([] : LB) []))] : List PInstr)))] : List PCode)).length : Int) - 1)) 0 x11 hx11) Z (k9 (pL (k9 (eW Z (by simp) Z (Cd.dps0 cCode 2 (fun _ => Z) _) (cCode.rlR (fun _ => 0) 2 _)) (k9 (J5 (Z)) o8))) (k9 (J5 (Z)) o8)) Z Z (xn 1 Z (N7 F Z (fun G F => ?_) (fun G F => ?_)))))))))))))))))))))))))))))))))))))))))))
     ·obtain rfl := e9 F
      exact c6 (c8 [2] Z (j8 (sv Z (p9 K Z Z) Z (xn 2 Z (bA (t9 8 4 (k := 0) (pre := []) (suf := [.int .i64 0]) Z Z Z) (j9 (m9 (⟨_, Z, 28, Z, Z⟩))))))))
     ·obtain rfl := e9 F
      exact d8 (c6 (c8 [2, 6] Z (gx 1 Z (G0 K Z Z Z Z Z (g8 (O0 Z (by simp)) (g8 (o5 Z) y5)) Z Z Z (xn 1 Z (j9 (⟨_, Z, 21, Z, Z⟩)))))))
end Go.Proofs.Ytmgigglpdhoneaa
